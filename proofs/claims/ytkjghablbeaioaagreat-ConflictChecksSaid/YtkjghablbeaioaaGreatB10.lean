import Derived.Test.YtkjghablbeaioaaGreatB0
namespace Go.Proofs.YtkjghablbeaioaaGreat.B
open Go.RowKit Go.Proofs.YtkjghablbeaioaaGreatW.PrintWords Go.Proofs.YtkjghablbeaioaaGreatW.PrintLast Go.Proofs.YtkjghablbeaioaaGreatW.PrintMore
attribute [local go_sem] max2_int min2_int max_two min_two max_three min_three max_four min_four Tryz.underlying23 Tryz.underlying3 Tryz.underlying4 Tryz.underlying49
set_option linter.unusedVariables false
set_option linter.unusedSimpArgs false
def ancepsref38_Few.f (l0_0:List Int) (l0_1:List Int):Option (Bool):=if (l0_0.length:Int)≤12 then (some (decide ((l0_1.length:Int)≤1030))) else (some false)
set_option maxHeartbeats 8000000 in
set_option maxRecDepth 100000 in
theorem ancepsref38_Few.calls (A0_0:Option Addr) (c0_0:Nat) (l0_0:List Int) (A0_1:Option Addr) (c0_1:Nat) (l0_1:List Int) (r:Bool) (w:World) (hr0_0:Kd.C (Kd.int .i64) w A0_0 l0_0.length l0_0) (hc0_0:l0_0.length≤c0_0) (hr0_1:Kd.C (Kd.int .i64) w A0_1 l0_1.length l0_1) (hc0_1:l0_1.length≤c0_1) (h:ancepsref38_Few.f l0_0 l0_1=some r) :
  Calls Tryz.prog 62 #[.agg #[.slice A0_0 l0_0.length c0_0,.slice A0_1 l0_1.length c0_1]] w fun e w'=>e=.returned (.bool r)∧Below w.heap.size w w':=by
 have HR0_0:=zA hr0_0;have HC0_0:=zA hc0_0;clear hr0_0 hc0_0;have HR0_1:=zA hr0_1;have HC0_1:=zA hc0_1;clear hr0_1 hc0_1;have HB:=zA (Below.refl w.heap.size w);have H:(if (l0_0.length:Int)≤12 then (some (decide ((l0_1.length:Int)≤1030))) else (some false))=some r:=h;clear h;have HC2:=zA H;clear H
 go_enter Tryz.func62,Tryz.ntmps62
 go_upto_region 1 with (first|((with_reducible refine gd 1 rfl ?_);(try (refine gate_guard (by rfl) ?_;dsimp only));refine zx #[.slice A0_0 l0_0.length c0_0,.slice A0_1 l0_1.length c0_1] 49 ?_;intro gb56 hg w3 BK56 hb GW56 HB1;have GE56:=GW56;clear HB hb hg;have HB:=HB1;clear HB1))
 (try simp only [Act.put,zi,zs,zt]);have H:=HC2.out;clear HC2
 rcases if0 H with ⟨c4,H⟩|⟨c4,H⟩
 ·have c4b0:decide ((l0_0.length:Int)≤12)=true:=decide_eq_true c4;have c4b1:decide (l0_0.length≤12)=true:=decide_eq_true (by omega);clear c4
  (first|rw [c4b0]|(simp only [i64_w,i32_w];rw [c4b0])|skip)
  (try rw [c4b1]);obtain rfl:=Option.some.inj H;have hcz5_0:=zc0 BK56;have hcz5_1:=zc1 BK56;have hfz5_0:=zf BK56
  go_wp2
  go_ret
  exact ⟨ze,zv1 HB GE56⟩
 ·have c4b0:decide ((l0_0.length:Int)≤12)=false:=decide_eq_false c4;have c4b1:decide (l0_0.length≤12)=false:=decide_eq_false (by omega);clear c4
  (first|rw [c4b0]|(simp only [i64_w,i32_w];rw [c4b0])|skip)
  (try rw [c4b1]);obtain rfl:=Option.some.inj H;have hcz6_0:=zc0 BK56;have hcz6_1:=zc1 BK56;have hfz6_0:=zf BK56
  go_wp2
  go_ret
  exact ⟨ze,zv1 HB GE56⟩
theorem arr_box {w:World} {g b:Nat} (h:w.heap[g]?=some (.cells #[.bool false,.bool false,.bool false,.bool false,.bool false,.bool false,.bool false,.bool false,.bool false,.bool false,.bool false,.bool false,.bool false,.bool false,.bool false,.bool false,.bool false,.bool false,.bool false,.bool false,.bool false,.bool false,.bool false,.bool false] 75 (0,0))) (hb:b≤g) :
  Kd.R Kd.bool 75 w b (fun _=>True) (.slice (some ⟨g,0,none⟩) 24 24) (List.replicate 24 false):=
 Kd.R_of_own (enc:=Value.bool) (h1:=fun _=>rfl) ⟨by simp [encs],.inr ⟨g,24,_,rfl,hb,h,by simp,by simp [maxLen],rfl,by simp [encs,List.replicate]⟩⟩ (fun _ _=>trivial)
theorem arr_len {w:World} {g b:Nat} {ok:Nat→Prop} {x:List Bool} (h:Kd.R Kd.bool 75 w b ok (.slice (some ⟨g,0,none⟩) 24 24) x):x.length=24:=by
 obtain ⟨A,c,e⟩:=Kd.R_slice h
 injection e with _ e2 _
 exact e2.symm
mutual
def ancepsref40_Few.l0:Nat→List (S49)→List Bool→Int→Int→Int→Option (Bool)
 | 0,_,_,_,_,_=>none
 | k+1,x0,x3,x4,x5,x6=>if x6<(x0.length:Int) then (if 0≤x6 then ((ancepsref38_Few.f ((rd_T49 x0 x6).f0) ((rd_T49 x0 x6).f1)).bind fun t69=>(if t69=true then (ancepsref40_Few.l1 k x0 x3 x4 (wrap64 (x5+(((rd_T49 x0 x6).f1).length:Int))) x6 0) else (some false))) else (none)) else (if x4≤10 then (some (decide (x5≤2000))) else (some false))
def ancepsref40_Few.l1:Nat→List (S49)→List Bool→Int→Int→Int→Int→Option (Bool)
 | 0,_,_,_,_,_,_=>none
 | k+1,x0,x3,x4,x5,x6,x7=>if 0≤x6 then (if x6<(x0.length:Int) then (if x7<(((rd_T49 x0 x6).f0).length:Int) then (if 0≤x7 then (if (rd ((rd_T49 x0 x6).f0) x7)≥0 then (if (rd ((rd_T49 x0 x6).f0) x7)<24 then (if 0≤(rd ((rd_T49 x0 x6).f0) x7) then (if (rd ((rd_T49 x0 x6).f0) x7)<(x3.length:Int) then (if (rdOf false x3 (rd ((rd_T49 x0 x6).f0) x7)=true) then (ancepsref40_Few.l1 k x0 x3 x4 x5 x6 (wrap64 (x7+1))) else (ancepsref40_Few.l1 k x0 (x3.set ((rd ((rd_T49 x0 x6).f0) x7):Int).toNat true) (wrap64 (x4+1)) x5 x6 (wrap64 (x7+1)))) else (none)) else (none)) else (ancepsref40_Few.l1 k x0 x3 x4 x5 x6 (wrap64 (x7+1)))) else (ancepsref40_Few.l1 k x0 x3 x4 x5 x6 (wrap64 (x7+1)))) else (none)) else (ancepsref40_Few.l0 k x0 x3 x4 x5 (wrap64 (x6+1)))) else (none)) else (none)
end
def ancepsref40_Few.f (k:Nat) (l0:List (S49)):Option (Bool):=if (l0.length:Int)>18 then (some false) else (if 24≤281474976710656 then (ancepsref40_Few.l0 k l0 (List.replicate 24 false) 0 0 0) else (none))
set_option maxHeartbeats 8000000 in
set_option maxRecDepth 100000 in
theorem ancepsref40_Few.calls (k:Nat) (A0:Option Addr) (c0:Nat) (l0:List (S49)) (r:Bool) (w:World) (hr0:Kd.C k49 w A0 l0.length l0) (hc0:l0.length≤c0) (h:ancepsref40_Few.f k l0=some r) :
  Calls Tryz.prog 27 #[.slice A0 l0.length c0] w fun e w'=>e=.returned (.bool r)∧Below w.heap.size w w':=by
 have HR0:=zA hr0;have HC0:=zA hc0;clear hr0 hc0;have HB:=zA (Below.refl w.heap.size w);have H:(if (l0.length:Int)>18 then (some false) else (if 24≤281474976710656 then (ancepsref40_Few.l0 k l0 (List.replicate 24 false) 0 0 0) else (none)))=some r:=h;clear h
 rcases if0 H with ⟨c2,H⟩|⟨c2,H⟩
 ·have c2b0:decide (18<(l0.length:Int))=true:=decide_eq_true c2;have c2b1:decide (18<l0.length)=true:=decide_eq_true (by omega);clear c2;obtain rfl:=Option.some.inj H
  go_enter Tryz.func27,Tryz.ntmps27
  go_wp2
  go_ret
  exact ⟨ze,zv0 HB⟩
 ·have c2b0:decide (18<(l0.length:Int))=false:=decide_eq_false c2;have c2b1:decide (18<l0.length)=false:=decide_eq_false (by omega);clear c2;obtain ⟨c3,H⟩:=if1 H;have c3b0:=eq_true c3;have c3b1:decide (24≤281474976710656)=true:=decide_eq_true c3;clear c3
  first|(replace H:=zyb (List.replicate 24 false) H;obtain ⟨y60,Ny60,H⟩:=H)|(obtain ⟨y60,hy60⟩:=zY (List.replicate 24 false);(try rw (occs:=.pos [1]) [← hy60] at H);have Ny60:=zA hy60;clear hy60)
  have H':=zA H;clear H
  go_enter Tryz.func27,Tryz.ntmps27
  go_wp2_with (first|((with_reducible refine gate_dst (N:=3) rfl ?_);refine box_event ?hg (N:=3) ?hd (cs:=#[.bool false,.bool false,.bool false,.bool false,.bool false,.bool false,.bool false,.bool false,.bool false,.bool false,.bool false,.bool false,.bool false,.bool false,.bool false,.bool false,.bool false,.bool false,.bool false,.bool false,.bool false,.bool false,.bool false,.bool false]) (t:=75) ?hr ?_;(case hd=>rfl);(case hg=>rfl);(case hr=>first|(go_simp;done)|(go_simp;rfl));intro ga hgA w4 hbox hb;have ho5:=arr_box hbox (Nat.le_of_eq hgA.symm);clear hbox hgA;rw [← Ny60.out] at ho5;have HO72:=zA (Kd.R_lower ho5 (below_size zB));replace HB:=zu hb;clear hb ho5))
  go_loopg [4,5,6] k (fun kq v4 v5 v6 w'=>∃ (x3_1:List Bool) (x4_1:Int) (x5_1:Int) (x6_1:Int),v4=.int .i64 x4_1∧v5=.int .i64 x5_1∧v6=.int .i64 x6_1∧Aside0 (ancepsref40_Few.l0 kq l0 x3_1 x4_1 x5_1 x6_1=some r)∧Aside0 (kq≤k)∧Aside0 (Kd.R Kd.bool 75 w' w.heap.size (fun _=>True) (.slice (some ⟨ga,0,none⟩) 24 24) x3_1)∧Aside0 (Below w.heap.size w w'))
  case atStart=>exact ⟨(y60),(0),(0),(0),zT,zT,zT,H',⟨Nat.le_refl _⟩,⟨by refine zr ?_;exact HO72.out⟩,⟨zv0 HB⟩⟩
  case round=>
   clear H'
   try clear c2
   try clear c2b0
   try clear c2b1
   try clear c3
   try clear c3b0
   try clear c3b1
   obtain ⟨x3_1,x4_1,x5_1,x6_1,rfl,rfl,rfl,HA,HK1,HO_3,HB⟩:=hrel
   cases gk with
   | zero=>exact absurd HA.out (by simp [ancepsref40_Few.l0])
   | succ k1=>
    have H:=HA.out;clear HA;simp only [ancepsref40_Few.l0] at H
    rcases ifd H with ⟨c6b0,H⟩|⟨c6b0,H⟩
    ·obtain ⟨c7b0,H⟩:=ifd1 H;obtain ⟨t69,A8,H⟩:=zo H;have HC9:=zA H;clear H;obtain ⟨p37,q37,ad37,A37_0,c37_0,A37_1,c37_1,e37,hx37_0,hx37_1,hl37_0,hi37_0,hl37_1,hi37_1⟩:=zp (at_T49 HR0.out x6_1)
     cases e37
     replace hx37_0:=zd HB hx37_0;replace hx37_1:=zd HB hx37_1;have HR37_0:=zA hi37_0;have HC37_0:=zA hl37_0;clear hi37_0 hl37_0;have HR37_1:=zA hi37_1;have HC37_1:=zA hl37_1;clear hi37_1 hl37_1;replace p37:=eq_true p37;replace q37:=eq_true q37
     go_upto_if 23 with (first|((with_reducible refine gate_callee (f:=62) rfl ?_);refine zgo 22 Tryz.func62 #[.agg #[.slice A37_0 ((rd_T49 l0 x6_1).f0).length c37_0,.slice A37_1 ((rd_T49 l0 x6_1).f1).length c37_1]] ?_;(with_reducible refine (ancepsref38_Few.calls _ _ ((rd_T49 l0 x6_1).f0) _ _ ((rd_T49 l0 x6_1).f1) t69 _ (zD HR37_0 HB) HC37_0.out (zD HR37_1 HB) HC37_1.out A8.out).mono ?_);rintro e w10 ⟨rfl,hb⟩;refine ⟨_,rfl,?_⟩;replace HO_3:=zA (Kd.R_below (zR HO_3) hb);replace HB:=zu hb;clear hb))
     (try simp only [Act.put,zi,zs,zt]);have H:=HC9.out;clear HC9
     by_cases c11:t69=true
     ·subst c11
      have H1:(ancepsref40_Few.l1 k1 l0 x3_1 x4_1 (wrap64 (x5_1+(((rd_T49 l0 x6_1).f1).length:Int))) x6_1 0)=some r:=by rw [if_pos rfl] at H;exact H
      clear H;have H:=H1;clear H1;have H':=zA H;clear H;obtain ⟨p46,q46,ad46,A46_0,c46_0,A46_1,c46_1,e46,hx46_0,hx46_1,hl46_0,hi46_0,hl46_1,hi46_1⟩:=zp (at_T49 HR0.out x6_1)
      obtain rfl:ad37=ad46:=(by injection e46)
      replace hx46_0:=zd HB hx46_0;replace hx46_1:=zd HB hx46_1;have HR46_0:=zA hi46_0;have HC46_0:=zA hl46_0;clear hi46_0 hl46_0;have HR46_1:=zA hi46_1;have HC46_1:=zA hl46_1;clear hi46_1 hl46_1;replace p46:=eq_true p46;replace q46:=eq_true q46
      go_wp2
      go_loopg [4,7] k1 (fun kq v4 v7 w'=>∃ (x3_2:List Bool) (x4_2:Int) (x7_2:Int),v4=.int .i64 x4_2∧v7=.int .i64 x7_2∧Aside0 (ancepsref40_Few.l1 kq l0 x3_2 x4_2 (wrap64 (x5_1+(((rd_T49 l0 x6_1).f1).length:Int))) x6_1 x7_2=some r)∧Aside0 (kq≤k1)∧Aside0 (Kd.R Kd.bool 75 w' w.heap.size (fun _=>True) (.slice (some ⟨ga,0,none⟩) 24 24) x3_2)∧Aside0 (Below w.heap.size w w'))
      case atStart=>exact ⟨(x3_1),(x4_1),(0),zT,zT,H',⟨Nat.le_refl _⟩,⟨by refine zr ?_;exact HO_3.out⟩,⟨zv0 HB⟩⟩
      case round=>
       clear H'
       try clear c2
       try clear c2b0
       try clear c2b1
       try clear c3
       try clear c3b0
       try clear c3b1
       try clear c6
       try clear c6b0
       try clear c7
       try clear c7b0
       try clear c11
       try clear hx37_0
       try clear hx37_1
       try clear hx46_0
       try clear hx46_1
       try clear p37
       try clear p46
       try clear q37
       try clear q46
       obtain ⟨x3_2,x4_2,x7_2,rfl,rfl,HA,HK2,HO_3,HB⟩:=hrel
       cases gk with
       | zero=>exact absurd HA.out (by simp [ancepsref40_Few.l1])
       | succ k2=>
        have H:=HA.out;clear HA;simp only [ancepsref40_Few.l1] at H;obtain ⟨c12b0,H⟩:=ifd1 H
        (first|rw [c12b0]|(simp only [i64_w,i32_w];rw [c12b0])|skip)
        obtain ⟨c13b0,H⟩:=ifd1 H
        rcases ifd H with ⟨c14b0,H⟩|⟨c14b0,H⟩
        ·obtain ⟨c15b0,H⟩:=ifd1 H
         rcases if0 H with ⟨c16,H⟩|⟨c16,H⟩
         ·have c16b0:decide (0≤(rd ((rd_T49 l0 x6_1).f0) x7_2))=true:=decide_eq_true c16;clear c16
          rcases ifd H with ⟨c17b0,H⟩|⟨c17b0,H⟩
          ·obtain ⟨c18b0,H⟩:=ifd1 H;obtain ⟨c19b0,H⟩:=ifd1 H
           obtain ⟨bq20,hbq20⟩:∃ b_:Bool,b_=(rdOf false x3_2 (rd ((rd_T49 l0 x6_1).f0) x7_2)):=⟨_,rfl⟩
           replace H:(if (bq20=true) then (ancepsref40_Few.l1 k2 l0 x3_2 x4_2 (wrap64 (x5_1+(((rd_T49 l0 x6_1).f1).length:Int))) x6_1 (wrap64 (x7_2+1))) else (ancepsref40_Few.l1 k2 l0 (x3_2.set ((rd ((rd_T49 l0 x6_1).f0) x7_2):Int).toNat true) (wrap64 (x4_2+1)) (wrap64 (x5_1+(((rd_T49 l0 x6_1).f1).length:Int))) x6_1 (wrap64 (x7_2+1))))=some r:=by rw [← hbq20] at H;exact H
           have Nbq20:=zA hbq20;clear hbq20
           by_cases c21:(bq20=true)
           ·subst c21
            have H1:(ancepsref40_Few.l1 k2 l0 x3_2 x4_2 (wrap64 (x5_1+(((rd_T49 l0 x6_1).f1).length:Int))) x6_1 (wrap64 (x7_2+1)))=some r:=by rw [if_pos rfl] at H;exact H
            clear H;have H:=H1;clear H1;have H':=zA H;clear H;obtain ⟨p30,q30,ad30,A30_0,c30_0,A30_1,c30_1,e30,hx30_0,hx30_1,hl30_0,hi30_0,hl30_1,hi30_1⟩:=zp (at_T49 HR0.out x6_1)
            obtain rfl:ad37=ad30:=(by injection e30)
            replace hx30_0:=zd HB hx30_0;replace hx30_1:=zd HB hx30_1;have HR30_0:=zA hi30_0;have HC30_0:=zA hl30_0;clear hi30_0 hl30_0;have HR30_1:=zA hi30_1;have HC30_1:=zA hl30_1;clear hi30_1 hl30_1;replace p30:=eq_true p30;replace q30:=eq_true q30;obtain ⟨p31,q31,ad31,A31_0,c31_0,A31_1,c31_1,e31,hx31_0,hx31_1,hl31_0,hi31_0,hl31_1,hi31_1⟩:=zp (at_T49 HR0.out x6_1)
            obtain rfl:ad37=ad31:=(by injection e31)
            replace hx31_0:=zd HB hx31_0;replace hx31_1:=zd HB hx31_1;have HR31_0:=zA hi31_0;have HC31_0:=zA hl31_0;clear hi31_0 hl31_0;have HR31_1:=zA hi31_1;have HC31_1:=zA hl31_1;clear hi31_1 hl31_1;replace p31:=eq_true p31;replace q31:=eq_true q31;have ea_:=Option.some.inj (hx30_0.symm.trans hx31_0)
            injection ea_ with ea_ en_ ec_
            subst ea_;subst ec_;clear en_;have ea_:=Option.some.inj (hx30_1.symm.trans hx31_1)
            injection ea_ with ea_ en_ ec_
            subst ea_;subst ec_;clear en_;obtain ⟨p41,q41,ad41,e41,hx41_0⟩:=zp (Kd.at_int HR31_0.out x7_2)
            cases e41
            replace hx41_0:=zd HB hx41_0;replace p41:=eq_true p41;replace q41:=eq_true q41;have p53:0≤((rd ((rd_T49 l0 x6_1).f0) x7_2):Int):=of_decide_eq_true zh;have q53:(rd ((rd_T49 l0 x6_1).f0) x7_2)<(x3_2.length:Int):=of_decide_eq_true zh;have hl24_:=arr_len HO_3.out;have ha24_:((rd ((rd_T49 l0 x6_1).f0) x7_2)<24)=True:=eq_true (by omega);have hx53_0:=(Kd.R_celln false HO_3.out (rd ((rd_T49 l0 x6_1).f0) x7_2) p53 (by omega)).1;(try rw [← Nbq20.out] at hx53_0);replace p53:=eq_true p53;replace q53:=eq_true q53
            go_wp2
            go_roundg k2
            case measure=>have:=HK1.out;have:=HK2.out;omega
            case rel=>exact ⟨(x3_2),(x4_2),(wrap64 (x7_2+1)),zT,zT,H',⟨by have:=HK1.out;have:=HK2.out;omega⟩,⟨by refine zr ?_;exact HO_3.out⟩,⟨zv0 HB⟩⟩
           ·replace c21:=Bool.eq_false_iff.mpr c21;subst c21
            have H1:(ancepsref40_Few.l1 k2 l0 (x3_2.set ((rd ((rd_T49 l0 x6_1).f0) x7_2):Int).toNat true) (wrap64 (x4_2+1)) (wrap64 (x5_1+(((rd_T49 l0 x6_1).f1).length:Int))) x6_1 (wrap64 (x7_2+1)))=some r:=by rw [if_neg (show ¬ (false=true) by decide)] at H;exact H
            clear H;have H:=H1;clear H1
            first|(replace H:=zyb (x3_2.set ((rd ((rd_T49 l0 x6_1).f0) x7_2):Int).toNat true) H;obtain ⟨y58,Ny58,H⟩:=H)|(obtain ⟨y58,hy58⟩:=zY (x3_2.set ((rd ((rd_T49 l0 x6_1).f0) x7_2):Int).toNat true);(try rw (occs:=.pos [1]) [← hy58] at H);have Ny58:=zA hy58;clear hy58)
            have H':=zA H;clear H;obtain ⟨p30,q30,ad30,A30_0,c30_0,A30_1,c30_1,e30,hx30_0,hx30_1,hl30_0,hi30_0,hl30_1,hi30_1⟩:=zp (at_T49 HR0.out x6_1)
            obtain rfl:ad37=ad30:=(by injection e30)
            replace hx30_0:=zd HB hx30_0;replace hx30_1:=zd HB hx30_1;have HR30_0:=zA hi30_0;have HC30_0:=zA hl30_0;clear hi30_0 hl30_0;have HR30_1:=zA hi30_1;have HC30_1:=zA hl30_1;clear hi30_1 hl30_1;replace p30:=eq_true p30;replace q30:=eq_true q30;obtain ⟨p31,q31,ad31,A31_0,c31_0,A31_1,c31_1,e31,hx31_0,hx31_1,hl31_0,hi31_0,hl31_1,hi31_1⟩:=zp (at_T49 HR0.out x6_1)
            obtain rfl:ad37=ad31:=(by injection e31)
            replace hx31_0:=zd HB hx31_0;replace hx31_1:=zd HB hx31_1;have HR31_0:=zA hi31_0;have HC31_0:=zA hl31_0;clear hi31_0 hl31_0;have HR31_1:=zA hi31_1;have HC31_1:=zA hl31_1;clear hi31_1 hl31_1;replace p31:=eq_true p31;replace q31:=eq_true q31;have ea_:=Option.some.inj (hx30_0.symm.trans hx31_0)
            injection ea_ with ea_ en_ ec_
            subst ea_;subst ec_;clear en_;have ea_:=Option.some.inj (hx30_1.symm.trans hx31_1)
            injection ea_ with ea_ en_ ec_
            subst ea_;subst ec_;clear en_;obtain ⟨p41,q41,ad41,e41,hx41_0⟩:=zp (Kd.at_int HR31_0.out x7_2)
            cases e41
            replace hx41_0:=zd HB hx41_0;replace p41:=eq_true p41;replace q41:=eq_true q41;have p53:0≤((rd ((rd_T49 l0 x6_1).f0) x7_2):Int):=of_decide_eq_true zh;have q53:(rd ((rd_T49 l0 x6_1).f0) x7_2)<(x3_2.length:Int):=of_decide_eq_true zh;have hl24_:=arr_len HO_3.out;have ha24_:((rd ((rd_T49 l0 x6_1).f0) x7_2)<24)=True:=eq_true (by omega);have hx53_0:=(Kd.R_celln false HO_3.out (rd ((rd_T49 l0 x6_1).f0) x7_2) p53 (by omega)).1;(try rw [← Nbq20.out] at hx53_0);replace p53:=eq_true p53;replace q53:=eq_true q53;have p23:0≤((rd ((rd_T49 l0 x6_1).f0) x7_2):Int):=of_decide_eq_true zh
            have q23:((rd ((rd_T49 l0 x6_1).f0) x7_2):Int)<24:=by first|omega|exact of_decide_eq_true zh|(have h2_:(rd ((rd_T49 l0 x6_1).f0) x7_2)<(x3_2.length:Int):=of_decide_eq_true zh;have h3_:=arr_len HO_3.out;omega)
            have hl24b_:=arr_len HO_3.out;have gb23:=Kd.R_base HO_3.out ga rfl;have GB23:=zA gb23;clear gb23
            (first|simp only [add_plain] at hx53_0|skip)
            obtain ⟨hx23_0,hf23_0⟩:=Kd.R_celln false HO_3.out ((rd ((rd_T49 l0 x6_1).f0) x7_2):Int) p23 q23;replace p23:=eq_true p23;replace q23:=eq_true q23;have HP25:=Kd.R_putg HO_3.out ((rd ((rd_T49 l0 x6_1).f0) x7_2):Int) true
            go_wp2_with (first|((with_reducible refine gate_store (t:=4) (p:=63) rfl ?_);refine store_event (t:=4) (p:=63) (v:=?vo_w26) (w1:=(wr.setCell ⟨ga,((rd ((rd_T49 l0 x6_1).f0) x7_2):Int).toNat,none⟩ (.bool true))) ?hg ?ho ?hn ?hr ?_;(case ho=>rfl);(case hg=>rfl);(case hn=>rfl);(case hr=>first|(go_simp;done)|(go_simp;rfl));intro w26 hw;have hg:wr.grownBy w26 (some ga):=(by rw [hw];exact HP25.2);have hp_:Kd.R Kd.bool 75 w26 w.heap.size (fun _=>True) (.slice (some ⟨ga,0,none⟩) 24 24) y58:=(by rw [hw,Ny58.out];exact HP25.1);clear HP25;replace HO_3:=zA (hp_);replace HB:=zA ((by rw [hw];exact below_set (HB.out) GB23.out:Below w.heap.size w w26));clear hg hw hp_))
            go_roundg k2
            case measure=>have:=HK1.out;have:=HK2.out;omega
            case rel=>exact ⟨(y58),(wrap64 (x4_2+1)),(wrap64 (x7_2+1)),zT,zT,H',⟨by have:=HK1.out;have:=HK2.out;omega⟩,⟨by refine zr ?_;exact HO_3.out⟩,⟨zv0 HB⟩⟩
          ·have H':=zA H;clear H;obtain ⟨p30,q30,ad30,A30_0,c30_0,A30_1,c30_1,e30,hx30_0,hx30_1,hl30_0,hi30_0,hl30_1,hi30_1⟩:=zp (at_T49 HR0.out x6_1)
           obtain rfl:ad37=ad30:=(by injection e30)
           replace hx30_0:=zd HB hx30_0;replace hx30_1:=zd HB hx30_1;have HR30_0:=zA hi30_0;have HC30_0:=zA hl30_0;clear hi30_0 hl30_0;have HR30_1:=zA hi30_1;have HC30_1:=zA hl30_1;clear hi30_1 hl30_1;replace p30:=eq_true p30;replace q30:=eq_true q30;obtain ⟨p31,q31,ad31,A31_0,c31_0,A31_1,c31_1,e31,hx31_0,hx31_1,hl31_0,hi31_0,hl31_1,hi31_1⟩:=zp (at_T49 HR0.out x6_1)
           obtain rfl:ad37=ad31:=(by injection e31)
           replace hx31_0:=zd HB hx31_0;replace hx31_1:=zd HB hx31_1;have HR31_0:=zA hi31_0;have HC31_0:=zA hl31_0;clear hi31_0 hl31_0;have HR31_1:=zA hi31_1;have HC31_1:=zA hl31_1;clear hi31_1 hl31_1;replace p31:=eq_true p31;replace q31:=eq_true q31;have ea_:=Option.some.inj (hx30_0.symm.trans hx31_0)
           injection ea_ with ea_ en_ ec_
           subst ea_;subst ec_;clear en_;have ea_:=Option.some.inj (hx30_1.symm.trans hx31_1)
           injection ea_ with ea_ en_ ec_
           subst ea_;subst ec_;clear en_;obtain ⟨p41,q41,ad41,e41,hx41_0⟩:=zp (Kd.at_int HR31_0.out x7_2)
           cases e41
           replace hx41_0:=zd HB hx41_0;replace p41:=eq_true p41;replace q41:=eq_true q41
           go_wp2
           go_roundg k2
           case measure=>have:=HK1.out;have:=HK2.out;omega
           case rel=>exact ⟨(x3_2),(x4_2),(wrap64 (x7_2+1)),zT,zT,H',⟨by have:=HK1.out;have:=HK2.out;omega⟩,⟨by refine zr ?_;exact HO_3.out⟩,⟨zv0 HB⟩⟩
         ·have c16b0:decide (0≤(rd ((rd_T49 l0 x6_1).f0) x7_2))=false:=decide_eq_false c16;clear c16;have H':=zA H;clear H;obtain ⟨p30,q30,ad30,A30_0,c30_0,A30_1,c30_1,e30,hx30_0,hx30_1,hl30_0,hi30_0,hl30_1,hi30_1⟩:=zp (at_T49 HR0.out x6_1)
          obtain rfl:ad37=ad30:=(by injection e30)
          replace hx30_0:=zd HB hx30_0;replace hx30_1:=zd HB hx30_1;have HR30_0:=zA hi30_0;have HC30_0:=zA hl30_0;clear hi30_0 hl30_0;have HR30_1:=zA hi30_1;have HC30_1:=zA hl30_1;clear hi30_1 hl30_1;replace p30:=eq_true p30;replace q30:=eq_true q30;obtain ⟨p31,q31,ad31,A31_0,c31_0,A31_1,c31_1,e31,hx31_0,hx31_1,hl31_0,hi31_0,hl31_1,hi31_1⟩:=zp (at_T49 HR0.out x6_1)
          obtain rfl:ad37=ad31:=(by injection e31)
          replace hx31_0:=zd HB hx31_0;replace hx31_1:=zd HB hx31_1;have HR31_0:=zA hi31_0;have HC31_0:=zA hl31_0;clear hi31_0 hl31_0;have HR31_1:=zA hi31_1;have HC31_1:=zA hl31_1;clear hi31_1 hl31_1;replace p31:=eq_true p31;replace q31:=eq_true q31;have ea_:=Option.some.inj (hx30_0.symm.trans hx31_0)
          injection ea_ with ea_ en_ ec_
          subst ea_;subst ec_;clear en_;have ea_:=Option.some.inj (hx30_1.symm.trans hx31_1)
          injection ea_ with ea_ en_ ec_
          subst ea_;subst ec_;clear en_;obtain ⟨p41,q41,ad41,e41,hx41_0⟩:=zp (Kd.at_int HR31_0.out x7_2)
          cases e41
          replace hx41_0:=zd HB hx41_0;replace p41:=eq_true p41;replace q41:=eq_true q41
          go_wp2
          go_roundg k2
          case measure=>have:=HK1.out;have:=HK2.out;omega
          case rel=>exact ⟨(x3_2),(x4_2),(wrap64 (x7_2+1)),zT,zT,H',⟨by have:=HK1.out;have:=HK2.out;omega⟩,⟨by refine zr ?_;exact HO_3.out⟩,⟨zv0 HB⟩⟩
        ·have H':=zA H;clear H;obtain ⟨p30,q30,ad30,A30_0,c30_0,A30_1,c30_1,e30,hx30_0,hx30_1,hl30_0,hi30_0,hl30_1,hi30_1⟩:=zp (at_T49 HR0.out x6_1)
         obtain rfl:ad37=ad30:=(by injection e30)
         replace hx30_0:=zd HB hx30_0;replace hx30_1:=zd HB hx30_1;have HR30_0:=zA hi30_0;have HC30_0:=zA hl30_0;clear hi30_0 hl30_0;have HR30_1:=zA hi30_1;have HC30_1:=zA hl30_1;clear hi30_1 hl30_1;replace p30:=eq_true p30;replace q30:=eq_true q30
         go_wp2
         go_roundg k2
         case measure=>have:=HK1.out;have:=HK2.out;omega
         case rel=>exact ⟨(x3_2),(x4_2),((wrap64 (x5_1+(((rd_T49 l0 x6_1).f1).length:Int)))),(wrap64 (x6_1+1)),zT,zT,zT,H',⟨by have:=HK1.out;have:=HK2.out;omega⟩,⟨by refine zr ?_;exact HO_3.out⟩,⟨zv0 HB⟩⟩
     ·replace c11:=Bool.eq_false_iff.mpr c11;subst c11
      have H1:(some false)=some r:=by rw [if_neg (show ¬ (false=true) by decide)] at H;exact H
      clear H;have H:=H1;clear H1;obtain rfl:=Option.some.inj H
      go_wp2
      go_ret
      exact ⟨ze,zv0 HB⟩
    ·rcases ifd H with ⟨c27b0,H⟩|⟨c27b0,H⟩
     ·obtain rfl:=Option.some.inj H
      go_wp2
      go_ret
      exact ⟨ze,zv0 HB⟩
     ·obtain rfl:=Option.some.inj H
      go_wp2
      go_ret
      exact ⟨ze,zv0 HB⟩
def ancepsref38_Variables.l0:Nat→List Int→Int→Option (Int)
 | 0,_,_=>none
 | k+1,x0,x3=>if x3<(x0.length:Int) then (if 0≤x3 then (if (rd x0 x3)<0 then (some 6) else (if (rd x0 x3)>23 then (some 6) else (if x3>0 then (if 0≤(wrap64 (x3 - 1)) then (if (wrap64 (x3 - 1))<(x0.length:Int) then (if (rd x0 x3)≤(rd x0 (wrap64 (x3 - 1))) then (some 18) else (ancepsref38_Variables.l0 k x0 (wrap64 (x3+1)))) else (none)) else (none)) else (ancepsref38_Variables.l0 k x0 (wrap64 (x3+1)))))) else (none)) else (some 0)
def ancepsref38_Variables.f (k:Nat) (l0:List Int):Option (Int):=if (l0.length:Int)>10 then (some 3) else (ancepsref38_Variables.l0 k l0 0)
set_option maxHeartbeats 8000000 in
set_option maxRecDepth 100000 in
theorem ancepsref38_Variables.calls (k:Nat) (A0:Option Addr) (c0:Nat) (l0:List Int) (r:Int) (w:World) (hr0:Kd.C (Kd.int .i64) w A0 l0.length l0) (hc0:l0.length≤c0) (h:ancepsref38_Variables.f k l0=some r) :
  Calls Tryz.prog 88 #[.slice A0 l0.length c0] w fun e w'=>e=.returned (.int .i64 r)∧Drawn0 w w':=by
 have HR0:=zA hr0;have HC0:=zA hc0;clear hr0 hc0;have H:(if (l0.length:Int)>10 then (some 3) else (ancepsref38_Variables.l0 k l0 0))=some r:=h;clear h
 rcases if0 H with ⟨c2,H⟩|⟨c2,H⟩
 ·have c2b0:decide (10<(l0.length:Int))=true:=decide_eq_true c2;have c2b1:decide (10<l0.length)=true:=decide_eq_true (by omega);clear c2;obtain rfl:=Option.some.inj H
  go_enter Tryz.func88,Tryz.ntmps88
  go_wp2
  repeat (go_quiet (fail);try go_wp2)
  go_ret
  exact ⟨by first|rfl|(simp;done)|(simp [*];done),by repeat (first|exact Drawn0.refl _|apply Drawn0.step)⟩
 ·have c2b0:decide (10<(l0.length:Int))=false:=decide_eq_false c2;have c2b1:decide (10<l0.length)=false:=decide_eq_false (by omega);clear c2;have H':=zA H;clear H
  go_enter Tryz.func88,Tryz.ntmps88
  go_wp2
  repeat (go_quiet (fail);try go_wp2)
  go_loopg [3] k (fun kq v3 w'=>∃ (x3_1:Int),v3=.int .i64 x3_1∧Aside0 (ancepsref38_Variables.l0 kq l0 x3_1=some r)∧Aside0 (kq≤k)∧Drawn0 w w')
  case atStart=>exact ⟨(0),zT,H',⟨Nat.le_refl _⟩,by repeat (first|exact Drawn0.refl _|apply Drawn0.step)⟩
  case round=>
   clear H'
   try clear c2
   try clear c2b0
   try clear c2b1
   obtain ⟨x3_1,rfl,HA,HK1,⟨m1,rfl⟩⟩:=hrel
   cases gk with
   | zero=>exact absurd HA.out (by simp [ancepsref38_Variables.l0])
   | succ k1=>
    have H:=HA.out;clear HA;simp only [ancepsref38_Variables.l0] at H
    rcases ifd H with ⟨c3b0,H⟩|⟨c3b0,H⟩
    ·obtain ⟨c4b0,H⟩:=ifd1 H
     rcases ifd H with ⟨c5b0,H⟩|⟨c5b0,H⟩
     ·obtain rfl:=Option.some.inj H;obtain ⟨p36,q36,ad36,e36,hx36_0⟩:=zp (Kd.at_int HR0.out x3_1)
      cases e36
      replace p36:=eq_true p36;replace q36:=eq_true q36
      go_wp2
      repeat (go_quiet (fail);try go_wp2)
      go_ret
      exact ⟨by first|rfl|(simp;done)|(simp [*];done),by repeat (first|exact Drawn0.refl _|apply Drawn0.step)⟩
     ·rcases if0 H with ⟨c6,H⟩|⟨c6,H⟩
      ·have c6b0:decide (23<(rd l0 x3_1))=true:=decide_eq_true c6;clear c6;obtain rfl:=Option.some.inj H;obtain ⟨p36,q36,ad36,e36,hx36_0⟩:=zp (Kd.at_int HR0.out x3_1)
       cases e36
       replace p36:=eq_true p36;replace q36:=eq_true q36;obtain ⟨p43,q43,ad43,e43,hx43_0⟩:=zp (Kd.at_int HR0.out x3_1)
       obtain rfl:ad36=ad43:=(by injection e43)
       replace p43:=eq_true p43;replace q43:=eq_true q43
       go_wp2
       repeat (go_quiet (fail);try go_wp2)
       go_ret
       exact ⟨by first|rfl|(simp;done)|(simp [*];done),by repeat (first|exact Drawn0.refl _|apply Drawn0.step)⟩
      ·have c6b0:decide (23<(rd l0 x3_1))=false:=decide_eq_false c6;clear c6
       rcases if0 H with ⟨c7,H⟩|⟨c7,H⟩
       ·have c7b0:decide (0<x3_1)=true:=decide_eq_true c7;clear c7;obtain ⟨ji8,hji8⟩:=zZ (wrap64 (x3_1 - 1))
        first|rw [hji8] at H|simp only [hji8] at H
        have hji8w:(IntKind.i64.wrap (x3_1 - 1))=ji8:=(i64_w _).trans hji8;obtain ⟨c9b0,H⟩:=ifd1 H;obtain ⟨c10b0,H⟩:=ifd1 H
        rcases ifd H with ⟨c11b0,H⟩|⟨c11b0,H⟩
        ·obtain rfl:=Option.some.inj H;obtain ⟨p36,q36,ad36,e36,hx36_0⟩:=zp (Kd.at_int HR0.out x3_1)
         cases e36
         replace p36:=eq_true p36;replace q36:=eq_true q36;obtain ⟨p43,q43,ad43,e43,hx43_0⟩:=zp (Kd.at_int HR0.out x3_1)
         obtain rfl:ad36=ad43:=(by injection e43)
         replace p43:=eq_true p43;replace q43:=eq_true q43;obtain ⟨p51,q51,ad51,e51,hx51_0⟩:=zp (Kd.at_int HR0.out x3_1)
         obtain rfl:ad36=ad51:=(by injection e51)
         replace p51:=eq_true p51;replace q51:=eq_true q51;obtain ⟨p52,q52,ad52,e52,hx52_0⟩:=zp (Kd.at_int HR0.out (ji8))
         obtain rfl:ad36=ad52:=(by injection e52)
         replace p52:=eq_true p52;replace q52:=eq_true q52
         go_wp2
         repeat (go_quiet (fail);try go_wp2)
         go_ret
         exact ⟨by first|rfl|(simp;done)|(simp only [← hji8] <;> (first|rfl|simp))|(simp [*];done),by repeat (first|exact Drawn0.refl _|apply Drawn0.step)⟩
        ·have H':=zA H;clear H;obtain ⟨p36,q36,ad36,e36,hx36_0⟩:=zp (Kd.at_int HR0.out x3_1)
         cases e36
         replace p36:=eq_true p36;replace q36:=eq_true q36;obtain ⟨p43,q43,ad43,e43,hx43_0⟩:=zp (Kd.at_int HR0.out x3_1)
         obtain rfl:ad36=ad43:=(by injection e43)
         replace p43:=eq_true p43;replace q43:=eq_true q43;obtain ⟨p51,q51,ad51,e51,hx51_0⟩:=zp (Kd.at_int HR0.out x3_1)
         obtain rfl:ad36=ad51:=(by injection e51)
         replace p51:=eq_true p51;replace q51:=eq_true q51;obtain ⟨p52,q52,ad52,e52,hx52_0⟩:=zp (Kd.at_int HR0.out (ji8))
         obtain rfl:ad36=ad52:=(by injection e52)
         replace p52:=eq_true p52;replace q52:=eq_true q52
         go_wp2
         repeat (go_quiet (fail);try go_wp2)
         go_roundg k1
         case measure=>have:=HK1.out;omega
         case rel=>exact ⟨(wrap64 (x3_1+1)),zT,H',⟨by have:=HK1.out;omega⟩,by repeat (first|exact Drawn0.refl _|apply Drawn0.step)⟩
       ·have c7b0:decide (0<x3_1)=false:=decide_eq_false c7;clear c7;have H':=zA H;clear H;obtain ⟨p36,q36,ad36,e36,hx36_0⟩:=zp (Kd.at_int HR0.out x3_1)
        cases e36
        replace p36:=eq_true p36;replace q36:=eq_true q36;obtain ⟨p43,q43,ad43,e43,hx43_0⟩:=zp (Kd.at_int HR0.out x3_1)
        obtain rfl:ad36=ad43:=(by injection e43)
        replace p43:=eq_true p43;replace q43:=eq_true q43
        go_wp2
        repeat (go_quiet (fail);try go_wp2)
        go_roundg k1
        case measure=>have:=HK1.out;omega
        case rel=>exact ⟨(wrap64 (x3_1+1)),zT,H',⟨by have:=HK1.out;omega⟩,by repeat (first|exact Drawn0.refl _|apply Drawn0.step)⟩
    ·obtain rfl:=Option.some.inj H
     go_wp2
     repeat (go_quiet (fail);try go_wp2)
     go_ret
     exact ⟨by first|rfl|(simp;done)|(simp [*];done),by repeat (first|exact Drawn0.refl _|apply Drawn0.step)⟩
def ancepsref38_Valid.l0:Nat→Int→List Int→List Int→Option (Int)
 | 0,_,_,_=>none
 | k+1,x4,x67,x54=>if x4<(x54.length:Int) then (if 0≤x4 then (if (rd x54 x4)<0 then (some 6) else (if (rd x54 x4)≥(shl .i64 1 (x67.length:Int)) then (some 6) else (if x4>0 then (if 0≤(wrap64 (x4 - 1)) then (if (wrap64 (x4 - 1))<(x54.length:Int) then (if (rd x54 x4)≤(rd x54 (wrap64 (x4 - 1))) then (some 18) else (ancepsref38_Valid.l0 k (wrap64 (x4+1)) x67 x54)) else (none)) else (none)) else (ancepsref38_Valid.l0 k (wrap64 (x4+1)) x67 x54)))) else (none)) else (some 0)
def ancepsref38_Valid.f (k:Nat) (l0_0:List Int) (l0_1:List Int):Option (Int):=(ancepsref38_Variables.f k l0_0).bind fun t61=>(if t61=0 then (ancepsref38_Valid.l0 k 0 l0_0 l0_1) else (some t61))
set_option maxHeartbeats 8000000 in
set_option maxRecDepth 100000 in
theorem ancepsref38_Valid.calls (k:Nat) (A0_0:Option Addr) (c0_0:Nat) (l0_0:List Int) (A0_1:Option Addr) (c0_1:Nat) (l0_1:List Int) (r:Int) (w:World) (hr0_0:Kd.C (Kd.int .i64) w A0_0 l0_0.length l0_0) (hc0_0:l0_0.length≤c0_0) (hr0_1:Kd.C (Kd.int .i64) w A0_1 l0_1.length l0_1) (hc0_1:l0_1.length≤c0_1) (h:ancepsref38_Valid.f k l0_0 l0_1=some r) :
  Calls Tryz.prog 63 #[.agg #[.slice A0_0 l0_0.length c0_0,.slice A0_1 l0_1.length c0_1]] w fun e w'=>e=.returned (.int .i64 r)∧Below w.heap.size w w':=by
 have HR0_0:=zA hr0_0;have HC0_0:=zA hc0_0;clear hr0_0 hc0_0;have HR0_1:=zA hr0_1;have HC0_1:=zA hc0_1;clear hr0_1 hc0_1;have HB:=zA (Below.refl w.heap.size w);have H:((ancepsref38_Variables.f k l0_0).bind fun t61=>(if t61=0 then (ancepsref38_Valid.l0 k 0 l0_0 l0_1) else (some t61)))=some r:=h;clear h;obtain ⟨t61,A2,H⟩:=zo H;have HC3:=zA H;clear H
 go_enter Tryz.func63,Tryz.ntmps63
 go_upto_if 9 with (first|((with_reducible refine gd 1 rfl ?_);(try (refine gate_guard (by rfl) ?_;dsimp only));refine zx #[.slice A0_0 l0_0.length c0_0,.slice A0_1 l0_1.length c0_1] 49 ?_;intro gb35 hg w4 BK35 hb GW35 HB1;have GE35:=GW35;clear HB hb hg;have HB:=HB1;clear HB1;have hcz5_0:=zc0 BK35;have hcz5_1:=zc1 BK35;have hfz5_0:=zf BK35)|(go_at_call 88;(with_reducible refine (ancepsref38_Variables.calls k _ _ l0_0 t61 _ (zD HR0_0 HB) HC0_0.out A2.out).mono ?_);rintro e w' ⟨rfl,⟨nd,rfl⟩⟩;(try first|exact ⟨rfl,_,World.drewN_drewN _ _ _⟩|exact ⟨rfl,_,Eq.trans (World.drewN_drewN _ _ _) (congrArg (World.drewN _) (Nat.add_assoc _ _ _))⟩)))
 repeat (go_quiet (first|((with_reducible refine gd 1 rfl ?_);(try (refine gate_guard (by rfl) ?_;dsimp only));refine zx #[.slice A0_0 l0_0.length c0_0,.slice A0_1 l0_1.length c0_1] 49 ?_;intro gb35 hg w4 BK35 hb GW35 HB1;have GE35:=GW35;clear HB hb hg;have HB:=HB1;clear HB1;have hcz5_0:=zc0 BK35;have hcz5_1:=zc1 BK35;have hfz5_0:=zf BK35)|(go_at_call 88;(with_reducible refine (ancepsref38_Variables.calls k _ _ l0_0 t61 _ (zD HR0_0 HB) HC0_0.out A2.out).mono ?_);rintro e w' ⟨rfl,⟨nd,rfl⟩⟩;(try first|exact ⟨rfl,_,World.drewN_drewN _ _ _⟩|exact ⟨rfl,_,Eq.trans (World.drewN_drewN _ _ _) (congrArg (World.drewN _) (Nat.add_assoc _ _ _))⟩)));go_upto_if 9 with (first|((with_reducible refine gd 1 rfl ?_);(try (refine gate_guard (by rfl) ?_;dsimp only));refine zx #[.slice A0_0 l0_0.length c0_0,.slice A0_1 l0_1.length c0_1] 49 ?_;intro gb35 hg w4 BK35 hb GW35 HB1;have GE35:=GW35;clear HB hb hg;have HB:=HB1;clear HB1;have hcz5_0:=zc0 BK35;have hcz5_1:=zc1 BK35;have hfz5_0:=zf BK35)|(go_at_call 88;(with_reducible refine (ancepsref38_Variables.calls k _ _ l0_0 t61 _ (zD HR0_0 HB) HC0_0.out A2.out).mono ?_);rintro e w' ⟨rfl,⟨nd,rfl⟩⟩;(try first|exact ⟨rfl,_,World.drewN_drewN _ _ _⟩|exact ⟨rfl,_,Eq.trans (World.drewN_drewN _ _ _) (congrArg (World.drewN _) (Nat.add_assoc _ _ _))⟩))))
 (try simp only [Act.put,zi,zs,zt]);have H:=HC3.out;clear HC3
 rcases ife H with ⟨c6b0,c6b1,H⟩|⟨c6,c6b0,c6b1,H⟩
 ·(first|rw [c6b0]|(simp only [i64_w,i32_w];rw [c6b0])|skip)
  (try rw [c6b1]);have H':=zA H;clear H
  go_wp2
  repeat (go_quiet (fail);try go_wp2)
  go_loopg [4] k (fun kq v4 w'=>∃ (x4_1:Int),v4=.int .i64 x4_1∧Aside0 (ancepsref38_Valid.l0 kq x4_1 l0_0 l0_1=some r)∧Aside0 (kq≤k)∧Aside0 (w'.heap[gb35]?=some (.cells #[(.slice A0_0 l0_0.length c0_0),(.slice A0_1 l0_1.length c0_1)] 49 (0,0)))∧Aside0 (Below w.heap.size w w'))
  case atStart=>exact ⟨(0),zT,H',⟨Nat.le_refl _⟩,⟨by refine zj ?_;exact BK35.out⟩,⟨zv1 HB GE35⟩⟩
  case round=>
   clear H'
   try clear c6
   try clear c6b0
   try clear c6b1
   try clear hcz5_0
   try clear hcz5_1
   try clear hfz5_0
   try clear hfz5_1
   obtain ⟨x4_1,rfl,HA,HK1,BK35,HB⟩:=hrel
   cases gk with
   | zero=>exact absurd HA.out (by simp [ancepsref38_Valid.l0])
   | succ k1=>
    have H:=HA.out;clear HA;simp only [ancepsref38_Valid.l0] at H
    rcases ifd H with ⟨c7b0,H⟩|⟨c7b0,H⟩
    ·obtain ⟨c8b0,H⟩:=ifd1 H
     rcases ifd H with ⟨c9b0,H⟩|⟨c9b0,H⟩
     ·obtain rfl:=Option.some.inj H;have hcz10_0:=zc0 BK35;have hcz10_1:=zc1 BK35;have hfz10_0:=zf BK35;obtain ⟨p34,q34,ad34,e34,hx34_0⟩:=zp (Kd.at_int HR0_1.out x4_1)
      cases e34
      replace hx34_0:=zd HB hx34_0;replace p34:=eq_true p34;replace q34:=eq_true q34
      go_wp2
      repeat (go_quiet (fail);try go_wp2)
      go_ret
      exact ⟨ze,zv1 HB GE35⟩
     ·obtain ⟨ji11,hji11⟩:=zZ (shl .i64 1 (l0_0.length:Int))
      first|rw [hji11] at H|simp only [hji11] at H
      have hji11_:(IntKind.i64.wrap (1 * 2 ^ min (l0_0.length:Int).toNat 64))=ji11:=hji11;have hji11z:(l0_0.length:Int)≤64→(IntKind.i64.wrap (1 * 2 ^ (l0_0.length:Int).toNat))=ji11:=shl_small hji11;have hji11p:(IntKind.i64.wrap (1 * 2 ^ min l0_0.length 64))=ji11:=hji11_;have hji11q:(l0_0.length:Int)≤64→(IntKind.i64.wrap (1 * 2 ^ l0_0.length))=ji11:=hji11z
      have hji11r:(IntKind.i64.wrap (2 ^ min l0_0.length 64))=ji11:=by have h_:=hji11p;rw [Int.one_mul] at h_;exact h_
      have hji11s:(l0_0.length:Int)≤64→(IntKind.i64.wrap (2 ^ l0_0.length))=ji11:=fun hle_=>by have h_:=hji11q hle_;rw [Int.one_mul] at h_;exact h_
      have hji11u:(IntKind.i64.wrap (2 ^ min (l0_0.length:Int).toNat 64))=ji11:=by have h_:=hji11_;rw [Int.one_mul] at h_;exact h_
      have hji11v:(l0_0.length:Int)≤64→(IntKind.i64.wrap (2 ^ (l0_0.length:Int).toNat))=ji11:=fun hle_=>by have h_:=hji11z hle_;rw [Int.one_mul] at h_;exact h_
      have hji11y:(wrap64 (1 * 2 ^ min (l0_0.length:Int).toNat 64))=ji11:=(i64_w _).symm.trans hji11_
      have hji11x:(l0_0.length:Int)≤64→(wrap64 (1 * 2 ^ (l0_0.length:Int).toNat))=ji11:=fun h_=>(i64_w _).symm.trans (hji11z h_)
      rcases if0 H with ⟨c12,H⟩|⟨c12,H⟩
      ·have c12b0:decide ((ji11)≤(rd l0_1 x4_1))=true:=decide_eq_true c12;clear c12;obtain rfl:=Option.some.inj H;have hcz13_0:=zc0 BK35;have hcz13_1:=zc1 BK35;have hfz13_0:=zf BK35;obtain ⟨p34,q34,ad34,e34,hx34_0⟩:=zp (Kd.at_int HR0_1.out x4_1)
       cases e34
       replace hx34_0:=zd HB hx34_0;replace p34:=eq_true p34;replace q34:=eq_true q34;obtain ⟨p39,q39,ad39,e39,hx39_0⟩:=zp (Kd.at_int HR0_1.out x4_1)
       obtain rfl:ad34=ad39:=(by injection e39)
       replace hx39_0:=zd HB hx39_0;replace p39:=eq_true p39;replace q39:=eq_true q39
       go_wp2
       repeat (go_quiet (fail);try go_wp2)
       go_ret
       exact ⟨by first|rfl|(simp [errW_none,errW_some] <;> rfl)|(simp only [← hji11];first|rfl|(simp [errW_none,errW_some] <;> rfl))|(simp [*,errW_none,errW_some] <;> rfl),zv1 HB GE35⟩
      ·have c12b0:decide ((ji11)≤(rd l0_1 x4_1))=false:=decide_eq_false c12;clear c12
       rcases if0 H with ⟨c14,H⟩|⟨c14,H⟩
       ·have c14b0:decide (0<x4_1)=true:=decide_eq_true c14;clear c14;obtain ⟨ji15,hji15⟩:=zZ (wrap64 (x4_1 - 1))
        first|rw [hji15] at H|simp only [hji15] at H
        have hji15w:(IntKind.i64.wrap (x4_1 - 1))=ji15:=(i64_w _).trans hji15;obtain ⟨c16b0,H⟩:=ifd1 H;obtain ⟨c17b0,H⟩:=ifd1 H
        rcases ifd H with ⟨c18b0,H⟩|⟨c18b0,H⟩
        ·obtain rfl:=Option.some.inj H;have hcz19_0:=zc0 BK35;have hcz19_1:=zc1 BK35;have hfz19_0:=zf BK35;obtain ⟨p34,q34,ad34,e34,hx34_0⟩:=zp (Kd.at_int HR0_1.out x4_1)
         cases e34
         replace hx34_0:=zd HB hx34_0;replace p34:=eq_true p34;replace q34:=eq_true q34;obtain ⟨p39,q39,ad39,e39,hx39_0⟩:=zp (Kd.at_int HR0_1.out x4_1)
         obtain rfl:ad34=ad39:=(by injection e39)
         replace hx39_0:=zd HB hx39_0;replace p39:=eq_true p39;replace q39:=eq_true q39;obtain ⟨p48,q48,ad48,e48,hx48_0⟩:=zp (Kd.at_int HR0_1.out x4_1)
         obtain rfl:ad34=ad48:=(by injection e48)
         replace hx48_0:=zd HB hx48_0;replace p48:=eq_true p48;replace q48:=eq_true q48;obtain ⟨p50,q50,ad50,e50,hx50_0⟩:=zp (Kd.at_int HR0_1.out (ji15))
         obtain rfl:ad34=ad50:=(by injection e50)
         replace hx50_0:=zd HB hx50_0;replace p50:=eq_true p50;replace q50:=eq_true q50
         go_wp2
         repeat (go_quiet (fail);try go_wp2)
         go_ret
         exact ⟨by first|rfl|(simp [errW_none,errW_some] <;> rfl)|(simp only [← hji11,← hji15];first|rfl|(simp [errW_none,errW_some] <;> rfl))|(simp [*,errW_none,errW_some] <;> rfl),zv1 HB GE35⟩
        ·have H':=zA H;clear H;have hcz20_0:=zc0 BK35;have hcz20_1:=zc1 BK35;have hfz20_0:=zf BK35;obtain ⟨p34,q34,ad34,e34,hx34_0⟩:=zp (Kd.at_int HR0_1.out x4_1)
         cases e34
         replace hx34_0:=zd HB hx34_0;replace p34:=eq_true p34;replace q34:=eq_true q34;obtain ⟨p39,q39,ad39,e39,hx39_0⟩:=zp (Kd.at_int HR0_1.out x4_1)
         obtain rfl:ad34=ad39:=(by injection e39)
         replace hx39_0:=zd HB hx39_0;replace p39:=eq_true p39;replace q39:=eq_true q39;obtain ⟨p48,q48,ad48,e48,hx48_0⟩:=zp (Kd.at_int HR0_1.out x4_1)
         obtain rfl:ad34=ad48:=(by injection e48)
         replace hx48_0:=zd HB hx48_0;replace p48:=eq_true p48;replace q48:=eq_true q48;obtain ⟨p50,q50,ad50,e50,hx50_0⟩:=zp (Kd.at_int HR0_1.out (ji15))
         obtain rfl:ad34=ad50:=(by injection e50)
         replace hx50_0:=zd HB hx50_0;replace p50:=eq_true p50;replace q50:=eq_true q50
         go_wp2
         repeat (go_quiet (fail);try go_wp2)
         go_roundg k1
         case measure=>have:=HK1.out;omega
         case rel=>exact ⟨(wrap64 (x4_1+1)),zT,H',⟨by have:=HK1.out;omega⟩,⟨by refine zj ?_;exact BK35.out⟩,⟨zv1 HB GE35⟩⟩
       ·have c14b0:decide (0<x4_1)=false:=decide_eq_false c14;clear c14;have H':=zA H;clear H;have hcz21_0:=zc0 BK35;have hcz21_1:=zc1 BK35;have hfz21_0:=zf BK35;obtain ⟨p34,q34,ad34,e34,hx34_0⟩:=zp (Kd.at_int HR0_1.out x4_1)
        cases e34
        replace hx34_0:=zd HB hx34_0;replace p34:=eq_true p34;replace q34:=eq_true q34;obtain ⟨p39,q39,ad39,e39,hx39_0⟩:=zp (Kd.at_int HR0_1.out x4_1)
        obtain rfl:ad34=ad39:=(by injection e39)
        replace hx39_0:=zd HB hx39_0;replace p39:=eq_true p39;replace q39:=eq_true q39
        go_wp2
        repeat (go_quiet (fail);try go_wp2)
        go_roundg k1
        case measure=>have:=HK1.out;omega
        case rel=>exact ⟨(wrap64 (x4_1+1)),zT,H',⟨by have:=HK1.out;omega⟩,⟨by refine zj ?_;exact BK35.out⟩,⟨zv1 HB GE35⟩⟩
    ·obtain rfl:=Option.some.inj H;have hcz22_0:=zc0 BK35;have hcz22_1:=zc1 BK35;have hfz22_0:=zf BK35
     go_wp2
     repeat (go_quiet (fail);try go_wp2)
     go_ret
     exact ⟨ze,zv1 HB GE35⟩
 ·(first|rw [c6b0]|(simp only [i64_w,i32_w];rw [c6b0])|skip)
  (try rw [c6b1]);obtain rfl:=Option.some.inj H
  go_wp2
  repeat (go_quiet (fail);try go_wp2)
  go_ret
  exact ⟨ze,zv1 HB GE35⟩
def ancepsref42_Valid.l0:Nat→List (S49)→Int→Option (Int)
 | 0,_,_=>none
 | k+1,x0,x3=>if x3<(x0.length:Int) then (if 0≤x3 then ((ancepsref38_Valid.f k ((rd_T49 x0 x3).f0) ((rd_T49 x0 x3).f1)).bind fun t70=>(if t70=0 then (ancepsref42_Valid.l0 k x0 (wrap64 (x3+1))) else (some t70))) else (none)) else (some 0)
def ancepsref42_Valid.f (k:Nat) (l0:List (S49)):Option (Int):=if (l0.length:Int)>12 then (some 3) else (ancepsref42_Valid.l0 k l0 0)
set_option maxHeartbeats 8000000 in
set_option maxRecDepth 100000 in
theorem ancepsref42_Valid.calls (k:Nat) (A0:Option Addr) (c0:Nat) (l0:List (S49)) (r:Int) (w:World) (hr0:Kd.C k49 w A0 l0.length l0) (hc0:l0.length≤c0) (h:ancepsref42_Valid.f k l0=some r) :
  Calls Tryz.prog 28 #[.slice A0 l0.length c0] w fun e w'=>e=.returned (.int .i64 r)∧Below w.heap.size w w':=by
 have HR0:=zA hr0;have HC0:=zA hc0;clear hr0 hc0;have HB:=zA (Below.refl w.heap.size w);have H:(if (l0.length:Int)>12 then (some 3) else (ancepsref42_Valid.l0 k l0 0))=some r:=h;clear h
 rcases if0 H with ⟨c2,H⟩|⟨c2,H⟩
 ·have c2b0:decide (12<(l0.length:Int))=true:=decide_eq_true c2;have c2b1:decide (12<l0.length)=true:=decide_eq_true (by omega);clear c2;obtain rfl:=Option.some.inj H
  go_enter Tryz.func28,Tryz.ntmps28
  go_wp2
  go_ret
  exact ⟨ze,zv0 HB⟩
 ·have c2b0:decide (12<(l0.length:Int))=false:=decide_eq_false c2;have c2b1:decide (12<l0.length)=false:=decide_eq_false (by omega);clear c2;have H':=zA H;clear H
  go_enter Tryz.func28,Tryz.ntmps28
  go_wp2
  go_loopg [3] k (fun kq v3 w'=>∃ (x3_1:Int),v3=.int .i64 x3_1∧Aside0 (ancepsref42_Valid.l0 kq l0 x3_1=some r)∧Aside0 (kq≤k)∧Aside0 (Below w.heap.size w w'))
  case atStart=>exact ⟨(0),zT,H',⟨Nat.le_refl _⟩,⟨zv0 HB⟩⟩
  case round=>
   clear H'
   try clear c2
   try clear c2b0
   try clear c2b1
   obtain ⟨x3_1,rfl,HA,HK1,HB⟩:=hrel
   cases gk with
   | zero=>exact absurd HA.out (by simp [ancepsref42_Valid.l0])
   | succ k1=>
    have H:=HA.out;clear HA;simp only [ancepsref42_Valid.l0] at H
    rcases ifd H with ⟨c3b0,H⟩|⟨c3b0,H⟩
    ·obtain ⟨c4b0,H⟩:=ifd1 H;obtain ⟨t70,A5,H⟩:=zo H;have HC6:=zA H;clear H;obtain ⟨p44,q44,ad44,A44_0,c44_0,A44_1,c44_1,e44,hx44_0,hx44_1,hl44_0,hi44_0,hl44_1,hi44_1⟩:=zp (at_T49 HR0.out x3_1)
     cases e44
     replace hx44_0:=zd HB hx44_0;replace hx44_1:=zd HB hx44_1;have HR44_0:=zA hi44_0;have HC44_0:=zA hl44_0;clear hi44_0 hl44_0;have HR44_1:=zA hi44_1;have HC44_1:=zA hl44_1;clear hi44_1 hl44_1;replace p44:=eq_true p44;replace q44:=eq_true q44
     go_upto_if 20 with (first|((with_reducible refine gate_callee (f:=63) rfl ?_);refine zgo 18 Tryz.func63 #[.agg #[.slice A44_0 ((rd_T49 l0 x3_1).f0).length c44_0,.slice A44_1 ((rd_T49 l0 x3_1).f1).length c44_1]] ?_;(with_reducible refine (ancepsref38_Valid.calls k1 _ _ ((rd_T49 l0 x3_1).f0) _ _ ((rd_T49 l0 x3_1).f1) t70 _ (zD HR44_0 HB) HC44_0.out (zD HR44_1 HB) HC44_1.out A5.out).mono ?_);rintro e w7 ⟨rfl,hb⟩;refine ⟨_,rfl,?_⟩;replace HB:=zu hb;clear hb))
     (try simp only [Act.put,zi,zs,zt]);have H:=HC6.out;clear HC6
     rcases ife H with ⟨c8b0,c8b1,H⟩|⟨c8,c8b0,c8b1,H⟩
     ·(first|rw [c8b0]|(simp only [i64_w,i32_w];rw [c8b0])|skip)
      (try rw [c8b1]);have H':=zA H;clear H
      go_wp2
      go_roundg k1
      case measure=>have:=HK1.out;omega
      case rel=>exact ⟨(wrap64 (x3_1+1)),zT,H',⟨by have:=HK1.out;omega⟩,⟨zv0 HB⟩⟩
     ·(first|rw [c8b0]|(simp only [i64_w,i32_w];rw [c8b0])|skip)
      (try rw [c8b1]);obtain rfl:=Option.some.inj H
      go_wp2
      go_ret
      exact ⟨ze,zv0 HB⟩
    ·obtain rfl:=Option.some.inj H
     go_wp2
     go_ret
     exact ⟨ze,zv0 HB⟩
def ancepsref40_Valid.l0:Nat→List (S49)→Int→Option (Int)
 | 0,_,_=>none
 | k+1,x0,x3=>if x3<(x0.length:Int) then (if 0≤x3 then ((ancepsref38_Valid.f k ((rd_T49 x0 x3).f0) ((rd_T49 x0 x3).f1)).bind fun t71=>(if t71=0 then (ancepsref40_Valid.l0 k x0 (wrap64 (x3+1))) else (some t71))) else (none)) else (some 0)
def ancepsref40_Valid.f (k:Nat) (l0:List (S49)):Option (Int):=if (l0.length:Int)>16 then (some 3) else (ancepsref40_Valid.l0 k l0 0)
set_option maxHeartbeats 8000000 in
set_option maxRecDepth 100000 in
theorem ancepsref40_Valid.calls (k:Nat) (A0:Option Addr) (c0:Nat) (l0:List (S49)) (r:Int) (w:World) (hr0:Kd.C k49 w A0 l0.length l0) (hc0:l0.length≤c0) (h:ancepsref40_Valid.f k l0=some r) :
  Calls Tryz.prog 64 #[.slice A0 l0.length c0] w fun e w'=>e=.returned (.int .i64 r)∧Below w.heap.size w w':=by
 have HR0:=zA hr0;have HC0:=zA hc0;clear hr0 hc0;have HB:=zA (Below.refl w.heap.size w);have H:(if (l0.length:Int)>16 then (some 3) else (ancepsref40_Valid.l0 k l0 0))=some r:=h;clear h
 rcases if0 H with ⟨c2,H⟩|⟨c2,H⟩
 ·have c2b0:decide (16<(l0.length:Int))=true:=decide_eq_true c2;have c2b1:decide (16<l0.length)=true:=decide_eq_true (by omega);clear c2;obtain rfl:=Option.some.inj H
  go_enter Tryz.func64,Tryz.ntmps64
  go_wp2
  go_ret
  exact ⟨ze,zv0 HB⟩
 ·have c2b0:decide (16<(l0.length:Int))=false:=decide_eq_false c2;have c2b1:decide (16<l0.length)=false:=decide_eq_false (by omega);clear c2;have H':=zA H;clear H
  go_enter Tryz.func64,Tryz.ntmps64
  go_wp2
  go_loopg [3] k (fun kq v3 w'=>∃ (x3_1:Int),v3=.int .i64 x3_1∧Aside0 (ancepsref40_Valid.l0 kq l0 x3_1=some r)∧Aside0 (kq≤k)∧Aside0 (Below w.heap.size w w'))
  case atStart=>exact ⟨(0),zT,H',⟨Nat.le_refl _⟩,⟨zv0 HB⟩⟩
  case round=>
   clear H'
   try clear c2
   try clear c2b0
   try clear c2b1
   obtain ⟨x3_1,rfl,HA,HK1,HB⟩:=hrel
   cases gk with
   | zero=>exact absurd HA.out (by simp [ancepsref40_Valid.l0])
   | succ k1=>
    have H:=HA.out;clear HA;simp only [ancepsref40_Valid.l0] at H
    rcases ifd H with ⟨c3b0,H⟩|⟨c3b0,H⟩
    ·obtain ⟨c4b0,H⟩:=ifd1 H;obtain ⟨t71,A5,H⟩:=zo H;have HC6:=zA H;clear H;obtain ⟨p45,q45,ad45,A45_0,c45_0,A45_1,c45_1,e45,hx45_0,hx45_1,hl45_0,hi45_0,hl45_1,hi45_1⟩:=zp (at_T49 HR0.out x3_1)
     cases e45
     replace hx45_0:=zd HB hx45_0;replace hx45_1:=zd HB hx45_1;have HR45_0:=zA hi45_0;have HC45_0:=zA hl45_0;clear hi45_0 hl45_0;have HR45_1:=zA hi45_1;have HC45_1:=zA hl45_1;clear hi45_1 hl45_1;replace p45:=eq_true p45;replace q45:=eq_true q45
     go_upto_if 20 with (first|((with_reducible refine gate_callee (f:=63) rfl ?_);refine zgo 18 Tryz.func63 #[.agg #[.slice A45_0 ((rd_T49 l0 x3_1).f0).length c45_0,.slice A45_1 ((rd_T49 l0 x3_1).f1).length c45_1]] ?_;(with_reducible refine (ancepsref38_Valid.calls k1 _ _ ((rd_T49 l0 x3_1).f0) _ _ ((rd_T49 l0 x3_1).f1) t71 _ (zD HR45_0 HB) HC45_0.out (zD HR45_1 HB) HC45_1.out A5.out).mono ?_);rintro e w7 ⟨rfl,hb⟩;refine ⟨_,rfl,?_⟩;replace HB:=zu hb;clear hb))
     (try simp only [Act.put,zi,zs,zt]);have H:=HC6.out;clear HC6
     rcases ife H with ⟨c8b0,c8b1,H⟩|⟨c8,c8b0,c8b1,H⟩
     ·(first|rw [c8b0]|(simp only [i64_w,i32_w];rw [c8b0])|skip)
      (try rw [c8b1]);have H':=zA H;clear H
      go_wp2
      go_roundg k1
      case measure=>have:=HK1.out;omega
      case rel=>exact ⟨(wrap64 (x3_1+1)),zT,H',⟨by have:=HK1.out;omega⟩,⟨zv0 HB⟩⟩
     ·(first|rw [c8b0]|(simp only [i64_w,i32_w];rw [c8b0])|skip)
      (try rw [c8b1]);obtain rfl:=Option.some.inj H
      go_wp2
      go_ret
      exact ⟨ze,zv0 HB⟩
    ·obtain rfl:=Option.some.inj H
     go_wp2
     go_ret
     exact ⟨ze,zv0 HB⟩
theorem arv_box {w:World} {g b:Nat} (h:w.heap[g]?=some (.cells #[.bool false,.bool false,.bool false,.bool false,.bool false,.bool false,.bool false,.bool false,.bool false,.bool false,.bool false,.bool false,.bool false,.bool false,.bool false,.bool false,.bool false,.bool false,.bool false,.bool false,.bool false,.bool false,.bool false,.bool false] 75 (0,0))) (hb:b≤g) :
  Kd.R Kd.bool 75 w b (fun _=>True) (.slice (some ⟨g,0,none⟩) 24 24) (List.replicate 24 false):=
 Kd.R_of_own (enc:=Value.bool) (h1:=fun _=>rfl) ⟨by simp [encs],.inr ⟨g,24,_,rfl,hb,h,by simp,by simp [maxLen],rfl,by simp [encs,List.replicate]⟩⟩ (fun _ _=>trivial)
theorem arv_len {w:World} {g b:Nat} {ok:Nat→Prop} {x:List Bool} (h:Kd.R Kd.bool 75 w b ok (.slice (some ⟨g,0,none⟩) 24 24) x):x.length=24:=by
 obtain ⟨A,c,e⟩:=Kd.R_slice h
 injection e with _ e2 _
 exact e2.symm
mutual
def ancepsref40_Vars.l0:Nat→List (S49)→List Bool→Int→Option (List Int)
 | 0,_,_,_=>none
 | k+1,x0,x3,x4=>if x4<(x0.length:Int) then (ancepsref40_Vars.l1 k x0 x3 x4 0) else (ancepsref40_Vars.l2 k x3 ([]:List Int) 0)
def ancepsref40_Vars.l1:Nat→List (S49)→List Bool→Int→Int→Option (List Int)
 | 0,_,_,_,_=>none
 | k+1,x0,x3,x4,x5=>if 0≤x4 then (if x4<(x0.length:Int) then (if x5<(((rd_T49 x0 x4).f0).length:Int) then (if 0≤x5 then (if 0≤(rd ((rd_T49 x0 x4).f0) x5) then (if (rd ((rd_T49 x0 x4).f0) x5)<(x3.length:Int) then (ancepsref40_Vars.l1 k x0 (x3.set ((rd ((rd_T49 x0 x4).f0) x5):Int).toNat true) x4 (wrap64 (x5+1))) else (none)) else (none)) else (none)) else (ancepsref40_Vars.l0 k x0 x3 (wrap64 (x4+1)))) else (none)) else (none)
def ancepsref40_Vars.l2:Nat→List Bool→List Int→Int→Option (List Int)
 | 0,_,_,_=>none
 | k+1,x3,x6,x7=>if x7<24 then (if 0≤x7 then (if x7<(x3.length:Int) then (if rdOf false x3 x7=true then (if x6.length<17592186044416 then (ancepsref40_Vars.l2 k x3 (x6++[x7]) (wrap64 (x7+1))) else (none)) else (ancepsref40_Vars.l2 k x3 x6 (wrap64 (x7+1)))) else (none)) else (none)) else (some x6)
end
def ancepsref40_Vars.f (k:Nat) (l0:List (S49)):Option (List Int):=(ancepsref40_Valid.f k l0).bind fun t68=>(if t68=0 then (if 24≤281474976710656 then (ancepsref40_Vars.l0 k l0 (List.replicate 24 false) 0) else (none)) else (some ([]:List Int)))
set_option maxHeartbeats 8000000 in
set_option maxRecDepth 100000 in
theorem ancepsref40_Vars.calls (k:Nat) (A0:Option Addr) (c0:Nat) (l0:List (S49)) (r:List Int) (w:World) (hr0:Kd.C k49 w A0 l0.length l0) (hc0:l0.length≤c0) (h:ancepsref40_Vars.f k l0=some r) :
  Calls Tryz.prog 29 #[.slice A0 l0.length c0] w fun e w'=>∃ v0_:Value,e=.returned (v0_)∧Kd.R (Kd.int .i64) 3 w' w.heap.size (fun _=>True) v0_ r∧Below w.heap.size w w':=by
 have HR0:=zA hr0;have HC0:=zA hc0;clear hr0 hc0;have HB:=zA (Below.refl w.heap.size w);have H:((ancepsref40_Valid.f k l0).bind fun t68=>(if t68=0 then (if 24≤281474976710656 then (ancepsref40_Vars.l0 k l0 (List.replicate 24 false) 0) else (none)) else (some ([]:List Int))))=some r:=h;clear h;obtain ⟨t68,A2,H⟩:=zo H;have HC3:=zA H;clear H
 go_enter Tryz.func29,Tryz.ntmps29
 go_upto_if 10 with (first|((with_reducible refine gate_callee (f:=64) rfl ?_);refine zgo 9 Tryz.func64 #[.slice A0 l0.length c0] ?_;(with_reducible refine (ancepsref40_Valid.calls k _ _ l0 t68 _ ?side1 HC0.out A2.out).mono ?_);(case side1=>repeat (first|exact HR0.out|(with_reducible refine Kd.C_alloc ?_ _)|(with_reducible refine Kd.C_drewN ?_ _)|(with_reducible refine Kd.C_drew ?_)));rintro e w4 ⟨rfl,hb⟩;refine ⟨_,rfl,?_⟩;replace HB:=zu hb;clear hb))
 (try simp only [Act.put,zi,zs,zt]);have H:=HC3.out;clear HC3
 rcases ife H with ⟨c5b0,c5b1,H⟩|⟨c5,c5b0,c5b1,H⟩
 ·(first|rw [c5b0]|(simp only [i64_w,i32_w];rw [c5b0])|skip)
  (try rw [c5b1]);obtain ⟨c6,H⟩:=if1 H;have c6b0:=eq_true c6;have c6b1:decide (24≤281474976710656)=true:=decide_eq_true c6;clear c6
  first|(replace H:=zyb (List.replicate 24 false) H;obtain ⟨y65,Ny65,H⟩:=H)|(obtain ⟨y65,hy65⟩:=zY (List.replicate 24 false);(try rw (occs:=.pos [1]) [← hy65] at H);have Ny65:=zA hy65;clear hy65)
  have H':=zA H;clear H
  go_wp2_with (first|((with_reducible refine gate_dst (N:=3) rfl ?_);refine box_event ?hg (N:=3) ?hd (cs:=#[.bool false,.bool false,.bool false,.bool false,.bool false,.bool false,.bool false,.bool false,.bool false,.bool false,.bool false,.bool false,.bool false,.bool false,.bool false,.bool false,.bool false,.bool false,.bool false,.bool false,.bool false,.bool false,.bool false,.bool false]) (t:=75) ?hr ?_;(case hd=>rfl);(case hg=>rfl);(case hr=>first|(go_simp;done)|(go_simp;rfl));intro ga hgA w7 hbox hb;have ho8:=arv_box hbox (Nat.le_of_eq hgA.symm);clear hbox hgA;rw [← Ny65.out] at ho8;have HO73:=zA (Kd.R_lower ho8 (below_size zB));replace HB:=zu hb;clear hb ho8))
  go_loopg [4] k (fun kq v4 w'=>∃ (x3_1:List Bool) (x4_1:Int),v4=.int .i64 x4_1∧Aside0 (ancepsref40_Vars.l0 kq l0 x3_1 x4_1=some r)∧Aside0 (kq≤k)∧Aside0 (Kd.R Kd.bool 75 w' w.heap.size (fun _=>True) (.slice (some ⟨ga,0,none⟩) 24 24) x3_1)∧Aside0 (Below w.heap.size w w'))
  case atStart=>exact ⟨(y65),(0),zT,H',⟨Nat.le_refl _⟩,⟨by refine zr ?_;exact HO73.out⟩,⟨zv0 HB⟩⟩
  case round=>
   clear H'
   try clear c5
   try clear c5b0
   try clear c5b1
   try clear c6
   try clear c6b0
   try clear c6b1
   obtain ⟨x3_1,x4_1,rfl,HA,HK1,HO_3,HB⟩:=hrel
   cases gk with
   | zero=>exact absurd HA.out (by simp [ancepsref40_Vars.l0])
   | succ k1=>
    have H:=HA.out;clear HA;simp only [ancepsref40_Vars.l0] at H
    rcases ifd H with ⟨c9b0,H⟩|⟨c9b0,H⟩
    ·have H':=zA H;clear H
     go_wp2
     go_loopg [5] k1 (fun kq v5 w'=>∃ (x3_2:List Bool) (x5_2:Int),v5=.int .i64 x5_2∧Aside0 (ancepsref40_Vars.l1 kq l0 x3_2 x4_1 x5_2=some r)∧Aside0 (kq≤k1)∧Aside0 (Kd.R Kd.bool 75 w' w.heap.size (fun _=>True) (.slice (some ⟨ga,0,none⟩) 24 24) x3_2)∧Aside0 (Below w.heap.size w w'))
     case atStart=>exact ⟨(x3_1),(0),zT,H',⟨Nat.le_refl _⟩,⟨by refine zr ?_;exact HO_3.out⟩,⟨zv0 HB⟩⟩
     case round=>
      clear H'
      try clear c5
      try clear c5b0
      try clear c5b1
      try clear c6
      try clear c6b0
      try clear c6b1
      try clear c9
      try clear c9b0
      obtain ⟨x3_2,x5_2,rfl,HA,HK2,HO_3,HB⟩:=hrel
      cases gk with
      | zero=>exact absurd HA.out (by simp [ancepsref40_Vars.l1])
      | succ k2=>
       have H:=HA.out;clear HA;simp only [ancepsref40_Vars.l1] at H;obtain ⟨c10b0,H⟩:=ifd1 H;obtain ⟨c11b0,H⟩:=ifd1 H
       rcases ifd H with ⟨c12b0,H⟩|⟨c12b0,H⟩
       ·obtain ⟨c13b0,H⟩:=ifd1 H;obtain ⟨c14b0,H⟩:=ifd1 H;obtain ⟨c15b0,H⟩:=ifd1 H
        first|(replace H:=zyb (x3_2.set ((rd ((rd_T49 l0 x4_1).f0) x5_2):Int).toNat true) H;obtain ⟨y59,Ny59,H⟩:=H)|(obtain ⟨y59,hy59⟩:=zY (x3_2.set ((rd ((rd_T49 l0 x4_1).f0) x5_2):Int).toNat true);(try rw (occs:=.pos [1]) [← hy59] at H);have Ny59:=zA hy59;clear hy59)
        have H':=zA H;clear H;obtain ⟨p33,q33,ad33,A33_0,c33_0,A33_1,c33_1,e33,hx33_0,hx33_1,hl33_0,hi33_0,hl33_1,hi33_1⟩:=zp (at_T49 HR0.out x4_1)
        cases e33
        replace hx33_0:=zd HB hx33_0;replace hx33_1:=zd HB hx33_1;have HR33_0:=zA hi33_0;have HC33_0:=zA hl33_0;clear hi33_0 hl33_0;have HR33_1:=zA hi33_1;have HC33_1:=zA hl33_1;clear hi33_1 hl33_1;replace p33:=eq_true p33;replace q33:=eq_true q33;obtain ⟨p47,q47,ad47,A47_0,c47_0,A47_1,c47_1,e47,hx47_0,hx47_1,hl47_0,hi47_0,hl47_1,hi47_1⟩:=zp (at_T49 HR0.out x4_1)
        obtain rfl:ad33=ad47:=(by injection e47)
        replace hx47_0:=zd HB hx47_0;replace hx47_1:=zd HB hx47_1;have HR47_0:=zA hi47_0;have HC47_0:=zA hl47_0;clear hi47_0 hl47_0;have HR47_1:=zA hi47_1;have HC47_1:=zA hl47_1;clear hi47_1 hl47_1;replace p47:=eq_true p47;replace q47:=eq_true q47;have ea_:=Option.some.inj (hx33_0.symm.trans hx47_0)
        injection ea_ with ea_ en_ ec_
        subst ea_;subst ec_;clear en_;have ea_:=Option.some.inj (hx33_1.symm.trans hx47_1)
        injection ea_ with ea_ en_ ec_
        subst ea_;subst ec_;clear en_;obtain ⟨p57,q57,ad57,e57,hx57_0⟩:=zp (Kd.at_int HR47_0.out x5_2)
        cases e57
        replace hx57_0:=zd HB hx57_0;replace p57:=eq_true p57;replace q57:=eq_true q57;have p16:0≤((rd ((rd_T49 l0 x4_1).f0) x5_2):Int):=of_decide_eq_true zh
        have q16:((rd ((rd_T49 l0 x4_1).f0) x5_2):Int)<24:=by first|omega|exact of_decide_eq_true zh|(have h2_:(rd ((rd_T49 l0 x4_1).f0) x5_2)<(x3_2.length:Int):=of_decide_eq_true zh;have h3_:=arv_len HO_3.out;omega)
        have hl24b_:=arv_len HO_3.out;have gb16:=Kd.R_base HO_3.out ga rfl;have GB16:=zA gb16;clear gb16;obtain ⟨hx16_0,hf16_0⟩:=Kd.R_celln false HO_3.out ((rd ((rd_T49 l0 x4_1).f0) x5_2):Int) p16 q16;replace p16:=eq_true p16;replace q16:=eq_true q16;have HP17:=Kd.R_putg HO_3.out ((rd ((rd_T49 l0 x4_1).f0) x5_2):Int) true
        go_wp2_with (first|((with_reducible refine gate_store (t:=4) (p:=35) rfl ?_);refine store_event (t:=4) (p:=35) (v:=?vo_w18) (w1:=(wr.setCell ⟨ga,((rd ((rd_T49 l0 x4_1).f0) x5_2):Int).toNat,none⟩ (.bool true))) ?hg ?ho ?hn ?hr ?_;(case ho=>rfl);(case hg=>rfl);(case hn=>rfl);(case hr=>first|(go_simp;done)|(go_simp;rfl));intro w18 hw;have hg:wr.grownBy w18 (some ga):=(by rw [hw];exact HP17.2);have hp_:Kd.R Kd.bool 75 w18 w.heap.size (fun _=>True) (.slice (some ⟨ga,0,none⟩) 24 24) y59:=(by rw [hw,Ny59.out];exact HP17.1);clear HP17;replace HO_3:=zA (hp_);replace HB:=zA ((by rw [hw];exact below_set (HB.out) GB16.out:Below w.heap.size w w18));clear hg hw hp_))
        go_roundg k2
        case measure=>have:=HK1.out;have:=HK2.out;omega
        case rel=>exact ⟨(y59),(wrap64 (x5_2+1)),zT,H',⟨by have:=HK1.out;have:=HK2.out;omega⟩,⟨by refine zr ?_;exact HO_3.out⟩,⟨zv0 HB⟩⟩
       ·have H':=zA H;clear H;obtain ⟨p33,q33,ad33,A33_0,c33_0,A33_1,c33_1,e33,hx33_0,hx33_1,hl33_0,hi33_0,hl33_1,hi33_1⟩:=zp (at_T49 HR0.out x4_1)
        cases e33
        replace hx33_0:=zd HB hx33_0;replace hx33_1:=zd HB hx33_1;have HR33_0:=zA hi33_0;have HC33_0:=zA hl33_0;clear hi33_0 hl33_0;have HR33_1:=zA hi33_1;have HC33_1:=zA hl33_1;clear hi33_1 hl33_1;replace p33:=eq_true p33;replace q33:=eq_true q33
        go_wp2
        go_roundg k2
        case measure=>have:=HK1.out;have:=HK2.out;omega
        case rel=>exact ⟨(x3_2),(wrap64 (x4_1+1)),zT,H',⟨by have:=HK1.out;have:=HK2.out;omega⟩,⟨by refine zr ?_;exact HO_3.out⟩,⟨zv0 HB⟩⟩
    ·have H':=zA H;clear H
     go_wp2
     go_loopg [6,7] k1 (fun kq v6 v7 w'=>∃ (x6_2:List Int) (x7_2:Int),v7=.int .i64 x7_2∧Aside0 (ancepsref40_Vars.l2 kq x3_1 x6_2 x7_2=some r)∧Aside0 (kq≤k1)∧Aside0 (Kd.R Kd.bool 75 w' w.heap.size (fun _=>True) (.slice (some ⟨ga,0,none⟩) 24 24) x3_1)∧Aside0 (Kd.R (Kd.int .i64) 3 w' w.heap.size (fun _=>True) v6 x6_2)∧Aside0 (Below w.heap.size w w'))
     case atStart=>exact ⟨(([]:List Int)),(0),zT,H',⟨Nat.le_refl _⟩,⟨by refine zr ?_;exact HO_3.out⟩,⟨by first|exact Kd.R_nil _ _ _ _ _|exact Kd.N_nil _ _ _ _ _|exact Kd.V_nil _ _ _ _ _|exact Kd.Q_nil _ _ _ _ _|exact Kd.S_nil _ _ _ _ _⟩,⟨zv0 HB⟩⟩
     case round=>
      clear H'
      try clear c5
      try clear c5b0
      try clear c5b1
      try clear c6
      try clear c6b0
      try clear c6b1
      try clear c9
      try clear c9b0
      obtain ⟨x6_2,x7_2,rfl,HA,HK2,HO_3,HO_6,HB⟩:=hrel
      cases gk with
      | zero=>exact absurd HA.out (by simp [ancepsref40_Vars.l2])
      | succ k2=>
       have H:=HA.out;clear HA;simp only [ancepsref40_Vars.l2] at H
       rcases ifd H with ⟨c19b0,H⟩|⟨c19b0,H⟩
       ·obtain ⟨c20b0,H⟩:=ifd1 H;obtain ⟨c21b0,H⟩:=ifd1 H
        obtain ⟨bq22,hbq22⟩:∃ b_:Bool,b_=(rdOf false x3_1 x7_2):=⟨_,rfl⟩
        replace H:(if bq22=true then (if x6_2.length<17592186044416 then (ancepsref40_Vars.l2 k2 x3_1 (x6_2++[x7_2]) (wrap64 (x7_2+1))) else (none)) else (ancepsref40_Vars.l2 k2 x3_1 x6_2 (wrap64 (x7_2+1))))=some r:=by rw [← hbq22] at H;exact H
        have Nbq22:=zA hbq22;clear hbq22
        by_cases c23:bq22=true
        ·subst c23
         have H1:(if x6_2.length<17592186044416 then (ancepsref40_Vars.l2 k2 x3_1 (x6_2++[x7_2]) (wrap64 (x7_2+1))) else (none))=some r:=by rw [if_pos rfl] at H;exact H
         clear H;have H:=H1;clear H1;obtain ⟨c24,H⟩:=if1 H;have LMc24:=zA c24;clear c24
         first|(replace H:=zyb (x6_2++[x7_2]) H;obtain ⟨y66,Ny66,H⟩:=H)|(obtain ⟨y66,hy66⟩:=zY (x6_2++[x7_2]);(try rw (occs:=.pos [1]) [← hy66] at H);have Ny66:=zA hy66;clear hy66)
         have H':=zA H;clear H;have p55:0≤(x7_2:Int):=of_decide_eq_true zh;have q55:x7_2<(x3_1.length:Int):=of_decide_eq_true zh;have hl24_:=arv_len HO_3.out;have ha24_:(x7_2<24)=True:=eq_true (by omega);have hx55_0:=(Kd.R_celln false HO_3.out x7_2 p55 (by omega)).1;(try rw [← Nbq22.out] at hx55_0);replace p55:=eq_true p55;replace q55:=eq_true q55
         go_wp2_with (first|((with_reducible refine gate_builtin (b:=.append) (xs:=#[.tmp 43,.tmp 45]) rfl ?_);at_builtin;refine Kd.R_append (Kd.int .i64) (w0:=w) w.heap.size rfl (.tmp 43) (.tmp 45) 23 3 (.int .i64 0) 8 rfl Tryz.underlying23 info3 rfl (by decide) (by omega) u6 x6_2 x7_2 [.int .i64 x7_2] (fun _=>True) (fun _=>False) rfl rfl ?aP (fun _ hk=>hk.elim) ?aF ?aO ?aB ?aS ?aL ?_;(case aP=>exact rfl);(case aB=>exact zB);(case aF=>exact (fun _ _=>trivial));(case aO=>exact (zR HO_6));(case aS=>exact (below_size zB));(case aL=>have:=LMc24.out;omega);intro v75 w26 ho hb hg hat;rw [← Ny66.out] at ho;have HO74:=zA (ho);replace HO_3:=zA (Kd.R_over' (zR HO_3) (Kd.R_typed (zR HO_6)) (by decide) hg);replace HB:=zA (hb);clear HO_6;clear ho hb hg hat))
         go_roundg k2
         case measure=>have:=HK1.out;have:=HK2.out;omega
         case rel=>exact ⟨(y66),(wrap64 (x7_2+1)),zT,H',⟨by have:=HK1.out;have:=HK2.out;omega⟩,⟨by refine zr ?_;exact HO_3.out⟩,⟨by refine zr ?_;exact HO74.out⟩,⟨zv0 HB⟩⟩
        ·replace c23:=Bool.eq_false_iff.mpr c23;subst c23
         have H1:(ancepsref40_Vars.l2 k2 x3_1 x6_2 (wrap64 (x7_2+1)))=some r:=by rw [if_neg (show ¬ (false=true) by decide)] at H;exact H
         clear H;have H:=H1;clear H1;have H':=zA H;clear H;have p55:0≤(x7_2:Int):=of_decide_eq_true zh;have q55:x7_2<(x3_1.length:Int):=of_decide_eq_true zh;have hl24_:=arv_len HO_3.out;have ha24_:(x7_2<24)=True:=eq_true (by omega);have hx55_0:=(Kd.R_celln false HO_3.out x7_2 p55 (by omega)).1;(try rw [← Nbq22.out] at hx55_0);replace p55:=eq_true p55;replace q55:=eq_true q55
         go_wp2
         go_roundg k2
         case measure=>have:=HK1.out;have:=HK2.out;omega
         case rel=>exact ⟨(x6_2),(wrap64 (x7_2+1)),zT,H',⟨by have:=HK1.out;have:=HK2.out;omega⟩,⟨by refine zr ?_;exact HO_3.out⟩,⟨by refine zr ?_;exact HO_6.out⟩,⟨zv0 HB⟩⟩
       ·obtain rfl:=Option.some.inj H
        go_wp2
        go_ret
        exact ⟨_,ze,by refine zr ?_;exact HO_6.out,zv0 HB⟩
 ·(first|rw [c5b0]|(simp only [i64_w,i32_w];rw [c5b0])|skip)
  (try rw [c5b1]);obtain rfl:=Option.some.inj H
  go_wp2
  go_ret
  exact ⟨_,ze,by first|exact Kd.R_nil _ _ _ _ _|exact Kd.N_nil _ _ _ _ _|exact Kd.V_nil _ _ _ _ _|exact Kd.Q_nil _ _ _ _ _|exact Kd.S_nil _ _ _ _ _,zv0 HB⟩
end Go.Proofs.YtkjghablbeaioaaGreat.B
