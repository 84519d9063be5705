import Derived.Test.YtngpkbbljnbojaaGreatL0
import Derived.Test.YtngpkbbljnbojaaGreatL10
namespace Go.Proofs.YtngpkbbljnbojaaGreat.L
open Go.RowKit Go.Proofs.YtngpkbbljnbojaaGreatW.PrintWords Go.Proofs.YtngpkbbljnbojaaGreatW.PrintLast Go.Proofs.YtngpkbbljnbojaaGreatW.PrintMore
attribute [local go_sem] max2_int min2_int max_two min_two max_three min_three max_four min_four Tryz.underlying3 Tryz.underlying4 Tryz.underlying43 Tryz.underlying63
set_option linter.unusedVariables false
set_option linter.unusedSimpArgs false
theorem arr_box {w:World} {g b:Nat} (h:w.heap[g]?=some (.cells #[.bool false,.bool false,.bool false,.bool false,.bool false,.bool false,.bool false,.bool false,.bool false,.bool false,.bool false,.bool false,.bool false,.bool false,.bool false,.bool false,.bool false,.bool false,.bool false,.bool false,.bool false,.bool false,.bool false,.bool false] 93 (0,0))) (hb:b≤g) :
  Kd.R Kd.bool 93 w b (fun _=>True) (.slice (some ⟨g,0,none⟩) 24 24) (List.replicate 24 false):=
 Kd.R_of_own (enc:=Value.bool) (h1:=fun _=>rfl) ⟨by simp [encs],.inr ⟨g,24,_,rfl,hb,h,by simp,by simp [maxLen],rfl,by simp [encs,List.replicate]⟩⟩ (fun _ _=>trivial)
theorem arr_len {w:World} {g b:Nat} {ok:Nat→Prop} {x:List Bool} (h:Kd.R Kd.bool 93 w b ok (.slice (some ⟨g,0,none⟩) 24 24) x):x.length=24:=by
 obtain ⟨A,c,e⟩:=Kd.R_slice h
 injection e with _ e2 _
 exact e2.symm
mutual
def ancepsref40_Few.l0:Nat→List (S63)→List Bool→Int→Int→Int→Option (Bool)
 | 0,_,_,_,_,_=>none
 | k+1,x0,x3,x4,x5,x6=>if x6<(x0.length:Int) then (if 0≤x6 then ((ancepsref38_Few.f ((rd_T63 x0 x6).f0) ((rd_T63 x0 x6).f1)).bind fun t106=>(if t106=true then (ancepsref40_Few.l1 k x0 x3 x4 (wrap64 (x5+(((rd_T63 x0 x6).f1).length:Int))) x6 0) else (some false))) else (none)) else (if x4≤10 then (some (decide (x5≤2000))) else (some false))
def ancepsref40_Few.l1:Nat→List (S63)→List Bool→Int→Int→Int→Int→Option (Bool)
 | 0,_,_,_,_,_,_=>none
 | k+1,x0,x3,x4,x5,x6,x7=>if 0≤x6 then (if x6<(x0.length:Int) then (if x7<(((rd_T63 x0 x6).f0).length:Int) then (if 0≤x7 then (if (rd ((rd_T63 x0 x6).f0) x7)≥0 then (if (rd ((rd_T63 x0 x6).f0) x7)<24 then (if 0≤(rd ((rd_T63 x0 x6).f0) x7) then (if (rd ((rd_T63 x0 x6).f0) x7)<(x3.length:Int) then (if (rdOf false x3 (rd ((rd_T63 x0 x6).f0) x7)=true) then (ancepsref40_Few.l1 k x0 x3 x4 x5 x6 (wrap64 (x7+1))) else (ancepsref40_Few.l1 k x0 (x3.set ((rd ((rd_T63 x0 x6).f0) x7):Int).toNat true) (wrap64 (x4+1)) x5 x6 (wrap64 (x7+1)))) else (none)) else (none)) else (ancepsref40_Few.l1 k x0 x3 x4 x5 x6 (wrap64 (x7+1)))) else (ancepsref40_Few.l1 k x0 x3 x4 x5 x6 (wrap64 (x7+1)))) else (none)) else (ancepsref40_Few.l0 k x0 x3 x4 x5 (wrap64 (x6+1)))) else (none)) else (none)
end
def ancepsref40_Few.f (k:Nat) (l0:List (S63)):Option (Bool):=if (l0.length:Int)>18 then (some false) else (if 24≤281474976710656 then (ancepsref40_Few.l0 k l0 (List.replicate 24 false) 0 0 0) else (none))
set_option maxHeartbeats 8000000 in
set_option maxRecDepth 100000 in
theorem ancepsref40_Few.calls (k:Nat) (A0:Option Addr) (c0:Nat) (l0:List (S63)) (r:Bool) (w:World) (hr0:Kd.C k63 w A0 l0.length l0) (hc0:l0.length≤c0) (h:ancepsref40_Few.f k l0=some r) :
  Calls Tryz.prog 32 #[.slice A0 l0.length c0] w fun e w'=>e=.returned (.bool r)∧Below w.heap.size w w':=by
 have HR0:=zA hr0;have HC0:=zA hc0;clear hr0 hc0;have HB:=zA (Below.refl w.heap.size w);have H:(if (l0.length:Int)>18 then (some false) else (if 24≤281474976710656 then (ancepsref40_Few.l0 k l0 (List.replicate 24 false) 0 0 0) else (none)))=some r:=h;clear h
 rcases if0 H with ⟨c2,H⟩|⟨c2,H⟩
 ·have c2b0:decide (18<(l0.length:Int))=true:=decide_eq_true c2;have c2b1:decide (18<l0.length)=true:=decide_eq_true (by omega);clear c2;obtain rfl:=Option.some.inj H
  go_enter Tryz.func32,Tryz.ntmps32
  go_wp2
  go_ret
  exact ⟨ze,zv0 HB⟩
 ·have c2b0:decide (18<(l0.length:Int))=false:=decide_eq_false c2;have c2b1:decide (18<l0.length)=false:=decide_eq_false (by omega);clear c2;obtain ⟨c3,H⟩:=if1 H;have c3b0:=eq_true c3;have c3b1:decide (24≤281474976710656)=true:=decide_eq_true c3;clear c3
  first|(replace H:=zyb (List.replicate 24 false) H;obtain ⟨y51,Ny51,H⟩:=H)|(obtain ⟨y51,hy51⟩:=zY (List.replicate 24 false);(try rw (occs:=.pos [1]) [← hy51] at H);have Ny51:=zA hy51;clear hy51)
  have H':=zA H;clear H
  go_enter Tryz.func32,Tryz.ntmps32
  go_wp2_with (first|((with_reducible refine gate_dst (N:=3) rfl ?_);refine box_event ?hg (N:=3) ?hd (cs:=#[.bool false,.bool false,.bool false,.bool false,.bool false,.bool false,.bool false,.bool false,.bool false,.bool false,.bool false,.bool false,.bool false,.bool false,.bool false,.bool false,.bool false,.bool false,.bool false,.bool false,.bool false,.bool false,.bool false,.bool false]) (t:=93) ?hr ?_;(case hd=>rfl);(case hg=>rfl);(case hr=>first|(go_simp;done)|(go_simp;rfl));intro ga hgA w4 hbox hb;have ho5:=arr_box hbox (Nat.le_of_eq hgA.symm);clear hbox hgA;rw [← Ny51.out] at ho5;have HO104:=zA (Kd.R_lower ho5 (below_size zB));replace HB:=zu hb;clear hb ho5))
  go_loopg [4,5,6] k (fun kq v4 v5 v6 w'=>∃ (x3_1:List Bool) (x4_1:Int) (x5_1:Int) (x6_1:Int),v4=.int .i64 x4_1∧v5=.int .i64 x5_1∧v6=.int .i64 x6_1∧Aside0 (ancepsref40_Few.l0 kq l0 x3_1 x4_1 x5_1 x6_1=some r)∧Aside0 (kq≤k)∧Aside0 (Kd.R Kd.bool 93 w' w.heap.size (fun _=>True) (.slice (some ⟨ga,0,none⟩) 24 24) x3_1)∧Aside0 (Below w.heap.size w w'))
  case atStart=>exact ⟨(y51),(0),(0),(0),zT,zT,zT,H',⟨Nat.le_refl _⟩,⟨by refine zr ?_;exact HO104.out⟩,⟨zv0 HB⟩⟩
  case round=>
   clear H'
   try clear c2
   try clear c2b0
   try clear c2b1
   try clear c3
   try clear c3b0
   try clear c3b1
   obtain ⟨x3_1,x4_1,x5_1,x6_1,rfl,rfl,rfl,HA,HK1,HO_3,HB⟩:=hrel
   cases gk with
   | zero=>exact absurd HA.out (by simp [ancepsref40_Few.l0])
   | succ k1=>
    have H:=HA.out;clear HA;simp only [ancepsref40_Few.l0] at H
    rcases ifd H with ⟨c6b0,H⟩|⟨c6b0,H⟩
    ·obtain ⟨c7b0,H⟩:=ifd1 H;obtain ⟨t106,A8,H⟩:=zo H;have HC9:=zA H;clear H;obtain ⟨p105,q105,ad105,A105_0,c105_0,A105_1,c105_1,e105,hx105_0,hx105_1,hl105_0,hi105_0,hl105_1,hi105_1⟩:=zp (at_T63 HR0.out x6_1)
     cases e105
     replace hx105_0:=zd HB hx105_0;replace hx105_1:=zd HB hx105_1;have HR105_0:=zA hi105_0;have HC105_0:=zA hl105_0;clear hi105_0 hl105_0;have HR105_1:=zA hi105_1;have HC105_1:=zA hl105_1;clear hi105_1 hl105_1;replace p105:=eq_true p105;replace q105:=eq_true q105
     go_upto_if 23 with (first|((with_reducible refine gate_callee (f:=67) rfl ?_);refine zgo 22 Tryz.func67 #[.agg #[.slice A105_0 ((rd_T63 l0 x6_1).f0).length c105_0,.slice A105_1 ((rd_T63 l0 x6_1).f1).length c105_1]] ?_;(with_reducible refine (ancepsref38_Few.calls _ _ ((rd_T63 l0 x6_1).f0) _ _ ((rd_T63 l0 x6_1).f1) t106 _ (zD HR105_0 HB) HC105_0.out (zD HR105_1 HB) HC105_1.out A8.out).mono ?_);rintro e w10 ⟨rfl,hb⟩;refine ⟨_,rfl,?_⟩;replace HO_3:=zA (Kd.R_below (zR HO_3) hb);replace HB:=zu hb;clear hb))
     (try simp only [Act.put,zi,zs,zt]);have H:=HC9.out;clear HC9
     by_cases c11:t106=true
     ·subst c11
      have H1:(ancepsref40_Few.l1 k1 l0 x3_1 x4_1 (wrap64 (x5_1+(((rd_T63 l0 x6_1).f1).length:Int))) x6_1 0)=some r:=by rw [if_pos rfl] at H;exact H
      clear H;have H:=H1;clear H1;have H':=zA H;clear H;obtain ⟨p107,q107,ad107,A107_0,c107_0,A107_1,c107_1,e107,hx107_0,hx107_1,hl107_0,hi107_0,hl107_1,hi107_1⟩:=zp (at_T63 HR0.out x6_1)
      obtain rfl:ad105=ad107:=(by injection e107)
      replace hx107_0:=zd HB hx107_0;replace hx107_1:=zd HB hx107_1;have HR107_0:=zA hi107_0;have HC107_0:=zA hl107_0;clear hi107_0 hl107_0;have HR107_1:=zA hi107_1;have HC107_1:=zA hl107_1;clear hi107_1 hl107_1;replace p107:=eq_true p107;replace q107:=eq_true q107
      go_wp2
      go_loopg [4,7] k1 (fun kq v4 v7 w'=>∃ (x3_2:List Bool) (x4_2:Int) (x7_2:Int),v4=.int .i64 x4_2∧v7=.int .i64 x7_2∧Aside0 (ancepsref40_Few.l1 kq l0 x3_2 x4_2 (wrap64 (x5_1+(((rd_T63 l0 x6_1).f1).length:Int))) x6_1 x7_2=some r)∧Aside0 (kq≤k1)∧Aside0 (Kd.R Kd.bool 93 w' w.heap.size (fun _=>True) (.slice (some ⟨ga,0,none⟩) 24 24) x3_2)∧Aside0 (Below w.heap.size w w'))
      case atStart=>exact ⟨(x3_1),(x4_1),(0),zT,zT,H',⟨Nat.le_refl _⟩,⟨by refine zr ?_;exact HO_3.out⟩,⟨zv0 HB⟩⟩
      case round=>
       clear H'
       try clear c2
       try clear c2b0
       try clear c2b1
       try clear c3
       try clear c3b0
       try clear c3b1
       try clear c6
       try clear c6b0
       try clear c7
       try clear c7b0
       try clear c11
       try clear hx105_0
       try clear hx105_1
       try clear hx107_0
       try clear hx107_1
       try clear p105
       try clear p107
       try clear q105
       try clear q107
       obtain ⟨x3_2,x4_2,x7_2,rfl,rfl,HA,HK2,HO_3,HB⟩:=hrel
       cases gk with
       | zero=>exact absurd HA.out (by simp [ancepsref40_Few.l1])
       | succ k2=>
        have H:=HA.out;clear HA;simp only [ancepsref40_Few.l1] at H;obtain ⟨c12b0,H⟩:=ifd1 H
        (first|rw [c12b0]|(simp only [i64_w,i32_w];rw [c12b0])|skip)
        obtain ⟨c13b0,H⟩:=ifd1 H
        rcases ifd H with ⟨c14b0,H⟩|⟨c14b0,H⟩
        ·obtain ⟨c15b0,H⟩:=ifd1 H
         rcases if0 H with ⟨c16,H⟩|⟨c16,H⟩
         ·have c16b0:decide (0≤(rd ((rd_T63 l0 x6_1).f0) x7_2))=true:=decide_eq_true c16;clear c16
          rcases ifd H with ⟨c17b0,H⟩|⟨c17b0,H⟩
          ·obtain ⟨c18b0,H⟩:=ifd1 H;obtain ⟨c19b0,H⟩:=ifd1 H
           obtain ⟨bq20,hbq20⟩:∃ b_:Bool,b_=(rdOf false x3_2 (rd ((rd_T63 l0 x6_1).f0) x7_2)):=⟨_,rfl⟩
           replace H:(if (bq20=true) then (ancepsref40_Few.l1 k2 l0 x3_2 x4_2 (wrap64 (x5_1+(((rd_T63 l0 x6_1).f1).length:Int))) x6_1 (wrap64 (x7_2+1))) else (ancepsref40_Few.l1 k2 l0 (x3_2.set ((rd ((rd_T63 l0 x6_1).f0) x7_2):Int).toNat true) (wrap64 (x4_2+1)) (wrap64 (x5_1+(((rd_T63 l0 x6_1).f1).length:Int))) x6_1 (wrap64 (x7_2+1))))=some r:=by rw [← hbq20] at H;exact H
           have Nbq20:=zA hbq20;clear hbq20
           by_cases c21:(bq20=true)
           ·subst c21
            have H1:(ancepsref40_Few.l1 k2 l0 x3_2 x4_2 (wrap64 (x5_1+(((rd_T63 l0 x6_1).f1).length:Int))) x6_1 (wrap64 (x7_2+1)))=some r:=by rw [if_pos rfl] at H;exact H
            clear H;have H:=H1;clear H1;have H':=zA H;clear H;obtain ⟨p108,q108,ad108,A108_0,c108_0,A108_1,c108_1,e108,hx108_0,hx108_1,hl108_0,hi108_0,hl108_1,hi108_1⟩:=zp (at_T63 HR0.out x6_1)
            obtain rfl:ad105=ad108:=(by injection e108)
            replace hx108_0:=zd HB hx108_0;replace hx108_1:=zd HB hx108_1;have HR108_0:=zA hi108_0;have HC108_0:=zA hl108_0;clear hi108_0 hl108_0;have HR108_1:=zA hi108_1;have HC108_1:=zA hl108_1;clear hi108_1 hl108_1;replace p108:=eq_true p108;replace q108:=eq_true q108;obtain ⟨p109,q109,ad109,A109_0,c109_0,A109_1,c109_1,e109,hx109_0,hx109_1,hl109_0,hi109_0,hl109_1,hi109_1⟩:=zp (at_T63 HR0.out x6_1)
            obtain rfl:ad105=ad109:=(by injection e109)
            replace hx109_0:=zd HB hx109_0;replace hx109_1:=zd HB hx109_1;have HR109_0:=zA hi109_0;have HC109_0:=zA hl109_0;clear hi109_0 hl109_0;have HR109_1:=zA hi109_1;have HC109_1:=zA hl109_1;clear hi109_1 hl109_1;replace p109:=eq_true p109;replace q109:=eq_true q109;have ea_:=Option.some.inj (hx108_0.symm.trans hx109_0)
            injection ea_ with ea_ en_ ec_
            subst ea_;subst ec_;clear en_;have ea_:=Option.some.inj (hx108_1.symm.trans hx109_1)
            injection ea_ with ea_ en_ ec_
            subst ea_;subst ec_;clear en_;obtain ⟨p110,q110,ad110,e110,hx110_0⟩:=zp (Kd.at_int HR109_0.out x7_2)
            cases e110
            replace hx110_0:=zd HB hx110_0;replace p110:=eq_true p110;replace q110:=eq_true q110;have p111:0≤((rd ((rd_T63 l0 x6_1).f0) x7_2):Int):=of_decide_eq_true zh;have q111:(rd ((rd_T63 l0 x6_1).f0) x7_2)<(x3_2.length:Int):=of_decide_eq_true zh;have hl24_:=arr_len HO_3.out;have ha24_:((rd ((rd_T63 l0 x6_1).f0) x7_2)<24)=True:=eq_true (by omega);have hx111_0:=(Kd.R_celln false HO_3.out (rd ((rd_T63 l0 x6_1).f0) x7_2) p111 (by omega)).1;(try rw [← Nbq20.out] at hx111_0);replace p111:=eq_true p111;replace q111:=eq_true q111
            go_wp2
            go_roundg k2
            case measure=>have:=HK1.out;have:=HK2.out;omega
            case rel=>exact ⟨(x3_2),(x4_2),(wrap64 (x7_2+1)),zT,zT,H',⟨by have:=HK1.out;have:=HK2.out;omega⟩,⟨by refine zr ?_;exact HO_3.out⟩,⟨zv0 HB⟩⟩
           ·replace c21:=Bool.eq_false_iff.mpr c21;subst c21
            have H1:(ancepsref40_Few.l1 k2 l0 (x3_2.set ((rd ((rd_T63 l0 x6_1).f0) x7_2):Int).toNat true) (wrap64 (x4_2+1)) (wrap64 (x5_1+(((rd_T63 l0 x6_1).f1).length:Int))) x6_1 (wrap64 (x7_2+1)))=some r:=by rw [if_neg (show ¬ (false=true) by decide)] at H;exact H
            clear H;have H:=H1;clear H1
            first|(replace H:=zyb (x3_2.set ((rd ((rd_T63 l0 x6_1).f0) x7_2):Int).toNat true) H;obtain ⟨y112,Ny112,H⟩:=H)|(obtain ⟨y112,hy112⟩:=zY (x3_2.set ((rd ((rd_T63 l0 x6_1).f0) x7_2):Int).toNat true);(try rw (occs:=.pos [1]) [← hy112] at H);have Ny112:=zA hy112;clear hy112)
            have H':=zA H;clear H;obtain ⟨p108,q108,ad108,A108_0,c108_0,A108_1,c108_1,e108,hx108_0,hx108_1,hl108_0,hi108_0,hl108_1,hi108_1⟩:=zp (at_T63 HR0.out x6_1)
            obtain rfl:ad105=ad108:=(by injection e108)
            replace hx108_0:=zd HB hx108_0;replace hx108_1:=zd HB hx108_1;have HR108_0:=zA hi108_0;have HC108_0:=zA hl108_0;clear hi108_0 hl108_0;have HR108_1:=zA hi108_1;have HC108_1:=zA hl108_1;clear hi108_1 hl108_1;replace p108:=eq_true p108;replace q108:=eq_true q108;obtain ⟨p109,q109,ad109,A109_0,c109_0,A109_1,c109_1,e109,hx109_0,hx109_1,hl109_0,hi109_0,hl109_1,hi109_1⟩:=zp (at_T63 HR0.out x6_1)
            obtain rfl:ad105=ad109:=(by injection e109)
            replace hx109_0:=zd HB hx109_0;replace hx109_1:=zd HB hx109_1;have HR109_0:=zA hi109_0;have HC109_0:=zA hl109_0;clear hi109_0 hl109_0;have HR109_1:=zA hi109_1;have HC109_1:=zA hl109_1;clear hi109_1 hl109_1;replace p109:=eq_true p109;replace q109:=eq_true q109;have ea_:=Option.some.inj (hx108_0.symm.trans hx109_0)
            injection ea_ with ea_ en_ ec_
            subst ea_;subst ec_;clear en_;have ea_:=Option.some.inj (hx108_1.symm.trans hx109_1)
            injection ea_ with ea_ en_ ec_
            subst ea_;subst ec_;clear en_;obtain ⟨p110,q110,ad110,e110,hx110_0⟩:=zp (Kd.at_int HR109_0.out x7_2)
            cases e110
            replace hx110_0:=zd HB hx110_0;replace p110:=eq_true p110;replace q110:=eq_true q110;have p111:0≤((rd ((rd_T63 l0 x6_1).f0) x7_2):Int):=of_decide_eq_true zh;have q111:(rd ((rd_T63 l0 x6_1).f0) x7_2)<(x3_2.length:Int):=of_decide_eq_true zh;have hl24_:=arr_len HO_3.out;have ha24_:((rd ((rd_T63 l0 x6_1).f0) x7_2)<24)=True:=eq_true (by omega);have hx111_0:=(Kd.R_celln false HO_3.out (rd ((rd_T63 l0 x6_1).f0) x7_2) p111 (by omega)).1;(try rw [← Nbq20.out] at hx111_0);replace p111:=eq_true p111;replace q111:=eq_true q111;have p23:0≤((rd ((rd_T63 l0 x6_1).f0) x7_2):Int):=of_decide_eq_true zh
            have q23:((rd ((rd_T63 l0 x6_1).f0) x7_2):Int)<24:=by first|omega|exact of_decide_eq_true zh|(have h2_:(rd ((rd_T63 l0 x6_1).f0) x7_2)<(x3_2.length:Int):=of_decide_eq_true zh;have h3_:=arr_len HO_3.out;omega)
            have hl24b_:=arr_len HO_3.out;have gb23:=Kd.R_base HO_3.out ga rfl;have GB23:=zA gb23;clear gb23
            (first|simp only [add_plain] at hx111_0|skip)
            obtain ⟨hx23_0,hf23_0⟩:=Kd.R_celln false HO_3.out ((rd ((rd_T63 l0 x6_1).f0) x7_2):Int) p23 q23;replace p23:=eq_true p23;replace q23:=eq_true q23;have HP25:=Kd.R_putg HO_3.out ((rd ((rd_T63 l0 x6_1).f0) x7_2):Int) true
            go_wp2_with (first|((with_reducible refine gate_store (t:=4) (p:=63) rfl ?_);refine store_event (t:=4) (p:=63) (v:=?vo_w26) (w1:=(wr.setCell ⟨ga,((rd ((rd_T63 l0 x6_1).f0) x7_2):Int).toNat,none⟩ (.bool true))) ?hg ?ho ?hn ?hr ?_;(case ho=>rfl);(case hg=>rfl);(case hn=>rfl);(case hr=>first|(go_simp;done)|(go_simp;rfl));intro w26 hw;have hg:wr.grownBy w26 (some ga):=(by rw [hw];exact HP25.2);have hp_:Kd.R Kd.bool 93 w26 w.heap.size (fun _=>True) (.slice (some ⟨ga,0,none⟩) 24 24) y112:=(by rw [hw,Ny112.out];exact HP25.1);clear HP25;replace HO_3:=zA (hp_);replace HB:=zA ((by rw [hw];exact below_set (HB.out) GB23.out:Below w.heap.size w w26));clear hg hw hp_))
            go_roundg k2
            case measure=>have:=HK1.out;have:=HK2.out;omega
            case rel=>exact ⟨(y112),(wrap64 (x4_2+1)),(wrap64 (x7_2+1)),zT,zT,H',⟨by have:=HK1.out;have:=HK2.out;omega⟩,⟨by refine zr ?_;exact HO_3.out⟩,⟨zv0 HB⟩⟩
          ·have H':=zA H;clear H;obtain ⟨p108,q108,ad108,A108_0,c108_0,A108_1,c108_1,e108,hx108_0,hx108_1,hl108_0,hi108_0,hl108_1,hi108_1⟩:=zp (at_T63 HR0.out x6_1)
           obtain rfl:ad105=ad108:=(by injection e108)
           replace hx108_0:=zd HB hx108_0;replace hx108_1:=zd HB hx108_1;have HR108_0:=zA hi108_0;have HC108_0:=zA hl108_0;clear hi108_0 hl108_0;have HR108_1:=zA hi108_1;have HC108_1:=zA hl108_1;clear hi108_1 hl108_1;replace p108:=eq_true p108;replace q108:=eq_true q108;obtain ⟨p109,q109,ad109,A109_0,c109_0,A109_1,c109_1,e109,hx109_0,hx109_1,hl109_0,hi109_0,hl109_1,hi109_1⟩:=zp (at_T63 HR0.out x6_1)
           obtain rfl:ad105=ad109:=(by injection e109)
           replace hx109_0:=zd HB hx109_0;replace hx109_1:=zd HB hx109_1;have HR109_0:=zA hi109_0;have HC109_0:=zA hl109_0;clear hi109_0 hl109_0;have HR109_1:=zA hi109_1;have HC109_1:=zA hl109_1;clear hi109_1 hl109_1;replace p109:=eq_true p109;replace q109:=eq_true q109;have ea_:=Option.some.inj (hx108_0.symm.trans hx109_0)
           injection ea_ with ea_ en_ ec_
           subst ea_;subst ec_;clear en_;have ea_:=Option.some.inj (hx108_1.symm.trans hx109_1)
           injection ea_ with ea_ en_ ec_
           subst ea_;subst ec_;clear en_;obtain ⟨p110,q110,ad110,e110,hx110_0⟩:=zp (Kd.at_int HR109_0.out x7_2)
           cases e110
           replace hx110_0:=zd HB hx110_0;replace p110:=eq_true p110;replace q110:=eq_true q110
           go_wp2
           go_roundg k2
           case measure=>have:=HK1.out;have:=HK2.out;omega
           case rel=>exact ⟨(x3_2),(x4_2),(wrap64 (x7_2+1)),zT,zT,H',⟨by have:=HK1.out;have:=HK2.out;omega⟩,⟨by refine zr ?_;exact HO_3.out⟩,⟨zv0 HB⟩⟩
         ·have c16b0:decide (0≤(rd ((rd_T63 l0 x6_1).f0) x7_2))=false:=decide_eq_false c16;clear c16;have H':=zA H;clear H;obtain ⟨p108,q108,ad108,A108_0,c108_0,A108_1,c108_1,e108,hx108_0,hx108_1,hl108_0,hi108_0,hl108_1,hi108_1⟩:=zp (at_T63 HR0.out x6_1)
          obtain rfl:ad105=ad108:=(by injection e108)
          replace hx108_0:=zd HB hx108_0;replace hx108_1:=zd HB hx108_1;have HR108_0:=zA hi108_0;have HC108_0:=zA hl108_0;clear hi108_0 hl108_0;have HR108_1:=zA hi108_1;have HC108_1:=zA hl108_1;clear hi108_1 hl108_1;replace p108:=eq_true p108;replace q108:=eq_true q108;obtain ⟨p109,q109,ad109,A109_0,c109_0,A109_1,c109_1,e109,hx109_0,hx109_1,hl109_0,hi109_0,hl109_1,hi109_1⟩:=zp (at_T63 HR0.out x6_1)
          obtain rfl:ad105=ad109:=(by injection e109)
          replace hx109_0:=zd HB hx109_0;replace hx109_1:=zd HB hx109_1;have HR109_0:=zA hi109_0;have HC109_0:=zA hl109_0;clear hi109_0 hl109_0;have HR109_1:=zA hi109_1;have HC109_1:=zA hl109_1;clear hi109_1 hl109_1;replace p109:=eq_true p109;replace q109:=eq_true q109;have ea_:=Option.some.inj (hx108_0.symm.trans hx109_0)
          injection ea_ with ea_ en_ ec_
          subst ea_;subst ec_;clear en_;have ea_:=Option.some.inj (hx108_1.symm.trans hx109_1)
          injection ea_ with ea_ en_ ec_
          subst ea_;subst ec_;clear en_;obtain ⟨p110,q110,ad110,e110,hx110_0⟩:=zp (Kd.at_int HR109_0.out x7_2)
          cases e110
          replace hx110_0:=zd HB hx110_0;replace p110:=eq_true p110;replace q110:=eq_true q110
          go_wp2
          go_roundg k2
          case measure=>have:=HK1.out;have:=HK2.out;omega
          case rel=>exact ⟨(x3_2),(x4_2),(wrap64 (x7_2+1)),zT,zT,H',⟨by have:=HK1.out;have:=HK2.out;omega⟩,⟨by refine zr ?_;exact HO_3.out⟩,⟨zv0 HB⟩⟩
        ·have H':=zA H;clear H;obtain ⟨p108,q108,ad108,A108_0,c108_0,A108_1,c108_1,e108,hx108_0,hx108_1,hl108_0,hi108_0,hl108_1,hi108_1⟩:=zp (at_T63 HR0.out x6_1)
         obtain rfl:ad105=ad108:=(by injection e108)
         replace hx108_0:=zd HB hx108_0;replace hx108_1:=zd HB hx108_1;have HR108_0:=zA hi108_0;have HC108_0:=zA hl108_0;clear hi108_0 hl108_0;have HR108_1:=zA hi108_1;have HC108_1:=zA hl108_1;clear hi108_1 hl108_1;replace p108:=eq_true p108;replace q108:=eq_true q108
         go_wp2
         go_roundg k2
         case measure=>have:=HK1.out;have:=HK2.out;omega
         case rel=>exact ⟨(x3_2),(x4_2),((wrap64 (x5_1+(((rd_T63 l0 x6_1).f1).length:Int)))),(wrap64 (x6_1+1)),zT,zT,zT,H',⟨by have:=HK1.out;have:=HK2.out;omega⟩,⟨by refine zr ?_;exact HO_3.out⟩,⟨zv0 HB⟩⟩
     ·replace c11:=Bool.eq_false_iff.mpr c11;subst c11
      have H1:(some false)=some r:=by rw [if_neg (show ¬ (false=true) by decide)] at H;exact H
      clear H;have H:=H1;clear H1;obtain rfl:=Option.some.inj H
      go_wp2
      go_ret
      exact ⟨ze,zv0 HB⟩
    ·rcases ifd H with ⟨c27b0,H⟩|⟨c27b0,H⟩
     ·obtain rfl:=Option.some.inj H
      go_wp2
      go_ret
      exact ⟨ze,zv0 HB⟩
     ·obtain rfl:=Option.some.inj H
      go_wp2
      go_ret
      exact ⟨ze,zv0 HB⟩
def ancepsref38_Variables.l0:Nat→List Int→Int→Option (Int)
 | 0,_,_=>none
 | k+1,x0,x3=>if x3<(x0.length:Int) then (if 0≤x3 then (if (rd x0 x3)<0 then (some 6) else (if (rd x0 x3)>23 then (some 6) else (if x3>0 then (if 0≤(wrap64 (x3 - 1)) then (if (wrap64 (x3 - 1))<(x0.length:Int) then (if (rd x0 x3)≤(rd x0 (wrap64 (x3 - 1))) then (some 18) else (ancepsref38_Variables.l0 k x0 (wrap64 (x3+1)))) else (none)) else (none)) else (ancepsref38_Variables.l0 k x0 (wrap64 (x3+1)))))) else (none)) else (some 0)
def ancepsref38_Variables.f (k:Nat) (l0:List Int):Option (Int):=if (l0.length:Int)>10 then (some 3) else (ancepsref38_Variables.l0 k l0 0)
set_option maxHeartbeats 8000000 in
set_option maxRecDepth 100000 in
theorem ancepsref38_Variables.calls (k:Nat) (A0:Option Addr) (c0:Nat) (l0:List Int) (r:Int) (w:World) (hr0:Kd.C (Kd.int .i64) w A0 l0.length l0) (hc0:l0.length≤c0) (h:ancepsref38_Variables.f k l0=some r) :
  Calls Tryz.prog 98 #[.slice A0 l0.length c0] w fun e w'=>e=.returned (.int .i64 r)∧Drawn0 w w':=by
 have HR0:=zA hr0;have HC0:=zA hc0;clear hr0 hc0;have H:(if (l0.length:Int)>10 then (some 3) else (ancepsref38_Variables.l0 k l0 0))=some r:=h;clear h
 rcases if0 H with ⟨c2,H⟩|⟨c2,H⟩
 ·have c2b0:decide (10<(l0.length:Int))=true:=decide_eq_true c2;have c2b1:decide (10<l0.length)=true:=decide_eq_true (by omega);clear c2;obtain rfl:=Option.some.inj H
  go_enter Tryz.func98,Tryz.ntmps98
  go_wp2
  repeat (go_quiet (fail);try go_wp2)
  go_ret
  exact ⟨by first|rfl|(simp;done)|(simp [*];done),by repeat (first|exact Drawn0.refl _|apply Drawn0.step)⟩
 ·have c2b0:decide (10<(l0.length:Int))=false:=decide_eq_false c2;have c2b1:decide (10<l0.length)=false:=decide_eq_false (by omega);clear c2;have H':=zA H;clear H
  go_enter Tryz.func98,Tryz.ntmps98
  go_wp2
  repeat (go_quiet (fail);try go_wp2)
  go_loopg [3] k (fun kq v3 w'=>∃ (x3_1:Int),v3=.int .i64 x3_1∧Aside0 (ancepsref38_Variables.l0 kq l0 x3_1=some r)∧Aside0 (kq≤k)∧Drawn0 w w')
  case atStart=>exact ⟨(0),zT,H',⟨Nat.le_refl _⟩,by repeat (first|exact Drawn0.refl _|apply Drawn0.step)⟩
  case round=>
   clear H'
   try clear c2
   try clear c2b0
   try clear c2b1
   obtain ⟨x3_1,rfl,HA,HK1,⟨m1,rfl⟩⟩:=hrel
   cases gk with
   | zero=>exact absurd HA.out (by simp [ancepsref38_Variables.l0])
   | succ k1=>
    have H:=HA.out;clear HA;simp only [ancepsref38_Variables.l0] at H
    rcases ifd H with ⟨c3b0,H⟩|⟨c3b0,H⟩
    ·obtain ⟨c4b0,H⟩:=ifd1 H
     rcases ifd H with ⟨c5b0,H⟩|⟨c5b0,H⟩
     ·obtain rfl:=Option.some.inj H;obtain ⟨p31,q31,ad31,e31,hx31_0⟩:=zp (Kd.at_int HR0.out x3_1)
      cases e31
      replace p31:=eq_true p31;replace q31:=eq_true q31
      go_wp2
      repeat (go_quiet (fail);try go_wp2)
      go_ret
      exact ⟨by first|rfl|(simp;done)|(simp [*];done),by repeat (first|exact Drawn0.refl _|apply Drawn0.step)⟩
     ·rcases if0 H with ⟨c6,H⟩|⟨c6,H⟩
      ·have c6b0:decide (23<(rd l0 x3_1))=true:=decide_eq_true c6;clear c6;obtain rfl:=Option.some.inj H;obtain ⟨p31,q31,ad31,e31,hx31_0⟩:=zp (Kd.at_int HR0.out x3_1)
       cases e31
       replace p31:=eq_true p31;replace q31:=eq_true q31;obtain ⟨p36,q36,ad36,e36,hx36_0⟩:=zp (Kd.at_int HR0.out x3_1)
       obtain rfl:ad31=ad36:=(by injection e36)
       replace p36:=eq_true p36;replace q36:=eq_true q36
       go_wp2
       repeat (go_quiet (fail);try go_wp2)
       go_ret
       exact ⟨by first|rfl|(simp;done)|(simp [*];done),by repeat (first|exact Drawn0.refl _|apply Drawn0.step)⟩
      ·have c6b0:decide (23<(rd l0 x3_1))=false:=decide_eq_false c6;clear c6
       rcases if0 H with ⟨c7,H⟩|⟨c7,H⟩
       ·have c7b0:decide (0<x3_1)=true:=decide_eq_true c7;clear c7;obtain ⟨ji8,hji8⟩:=zZ (wrap64 (x3_1 - 1))
        first|rw [hji8] at H|simp only [hji8] at H
        have hji8w:(IntKind.i64.wrap (x3_1 - 1))=ji8:=(i64_w _).trans hji8;obtain ⟨c9b0,H⟩:=ifd1 H;obtain ⟨c10b0,H⟩:=ifd1 H
        rcases ifd H with ⟨c11b0,H⟩|⟨c11b0,H⟩
        ·obtain rfl:=Option.some.inj H;obtain ⟨p31,q31,ad31,e31,hx31_0⟩:=zp (Kd.at_int HR0.out x3_1)
         cases e31
         replace p31:=eq_true p31;replace q31:=eq_true q31;obtain ⟨p36,q36,ad36,e36,hx36_0⟩:=zp (Kd.at_int HR0.out x3_1)
         obtain rfl:ad31=ad36:=(by injection e36)
         replace p36:=eq_true p36;replace q36:=eq_true q36;obtain ⟨p45,q45,ad45,e45,hx45_0⟩:=zp (Kd.at_int HR0.out x3_1)
         obtain rfl:ad31=ad45:=(by injection e45)
         replace p45:=eq_true p45;replace q45:=eq_true q45;obtain ⟨p46,q46,ad46,e46,hx46_0⟩:=zp (Kd.at_int HR0.out (ji8))
         obtain rfl:ad31=ad46:=(by injection e46)
         replace p46:=eq_true p46;replace q46:=eq_true q46
         go_wp2
         repeat (go_quiet (fail);try go_wp2)
         go_ret
         exact ⟨by first|rfl|(simp;done)|(simp only [← hji8] <;> (first|rfl|simp))|(simp [*];done),by repeat (first|exact Drawn0.refl _|apply Drawn0.step)⟩
        ·have H':=zA H;clear H;obtain ⟨p31,q31,ad31,e31,hx31_0⟩:=zp (Kd.at_int HR0.out x3_1)
         cases e31
         replace p31:=eq_true p31;replace q31:=eq_true q31;obtain ⟨p36,q36,ad36,e36,hx36_0⟩:=zp (Kd.at_int HR0.out x3_1)
         obtain rfl:ad31=ad36:=(by injection e36)
         replace p36:=eq_true p36;replace q36:=eq_true q36;obtain ⟨p45,q45,ad45,e45,hx45_0⟩:=zp (Kd.at_int HR0.out x3_1)
         obtain rfl:ad31=ad45:=(by injection e45)
         replace p45:=eq_true p45;replace q45:=eq_true q45;obtain ⟨p46,q46,ad46,e46,hx46_0⟩:=zp (Kd.at_int HR0.out (ji8))
         obtain rfl:ad31=ad46:=(by injection e46)
         replace p46:=eq_true p46;replace q46:=eq_true q46
         go_wp2
         repeat (go_quiet (fail);try go_wp2)
         go_roundg k1
         case measure=>have:=HK1.out;omega
         case rel=>exact ⟨(wrap64 (x3_1+1)),zT,H',⟨by have:=HK1.out;omega⟩,by repeat (first|exact Drawn0.refl _|apply Drawn0.step)⟩
       ·have c7b0:decide (0<x3_1)=false:=decide_eq_false c7;clear c7;have H':=zA H;clear H;obtain ⟨p31,q31,ad31,e31,hx31_0⟩:=zp (Kd.at_int HR0.out x3_1)
        cases e31
        replace p31:=eq_true p31;replace q31:=eq_true q31;obtain ⟨p36,q36,ad36,e36,hx36_0⟩:=zp (Kd.at_int HR0.out x3_1)
        obtain rfl:ad31=ad36:=(by injection e36)
        replace p36:=eq_true p36;replace q36:=eq_true q36
        go_wp2
        repeat (go_quiet (fail);try go_wp2)
        go_roundg k1
        case measure=>have:=HK1.out;omega
        case rel=>exact ⟨(wrap64 (x3_1+1)),zT,H',⟨by have:=HK1.out;omega⟩,by repeat (first|exact Drawn0.refl _|apply Drawn0.step)⟩
    ·obtain rfl:=Option.some.inj H
     go_wp2
     repeat (go_quiet (fail);try go_wp2)
     go_ret
     exact ⟨by first|rfl|(simp;done)|(simp [*];done),by repeat (first|exact Drawn0.refl _|apply Drawn0.step)⟩
def ancepsref38_Valid.l0:Nat→Int→List Int→List Int→Option (Int)
 | 0,_,_,_=>none
 | k+1,x4,x54,x47=>if x4<(x47.length:Int) then (if 0≤x4 then (if (rd x47 x4)<0 then (some 6) else (if (rd x47 x4)≥(shl .i64 1 (x54.length:Int)) then (some 6) else (if x4>0 then (if 0≤(wrap64 (x4 - 1)) then (if (wrap64 (x4 - 1))<(x47.length:Int) then (if (rd x47 x4)≤(rd x47 (wrap64 (x4 - 1))) then (some 18) else (ancepsref38_Valid.l0 k (wrap64 (x4+1)) x54 x47)) else (none)) else (none)) else (ancepsref38_Valid.l0 k (wrap64 (x4+1)) x54 x47)))) else (none)) else (some 0)
def ancepsref38_Valid.f (k:Nat) (l0_0:List Int) (l0_1:List Int):Option (Int):=(ancepsref38_Variables.f k l0_0).bind fun t52=>(if t52=0 then (ancepsref38_Valid.l0 k 0 l0_0 l0_1) else (some t52))
set_option maxHeartbeats 8000000 in
set_option maxRecDepth 100000 in
theorem ancepsref38_Valid.calls (k:Nat) (A0_0:Option Addr) (c0_0:Nat) (l0_0:List Int) (A0_1:Option Addr) (c0_1:Nat) (l0_1:List Int) (r:Int) (w:World) (hr0_0:Kd.C (Kd.int .i64) w A0_0 l0_0.length l0_0) (hc0_0:l0_0.length≤c0_0) (hr0_1:Kd.C (Kd.int .i64) w A0_1 l0_1.length l0_1) (hc0_1:l0_1.length≤c0_1) (h:ancepsref38_Valid.f k l0_0 l0_1=some r) :
  Calls Tryz.prog 68 #[.agg #[.slice A0_0 l0_0.length c0_0,.slice A0_1 l0_1.length c0_1]] w fun e w'=>e=.returned (.int .i64 r)∧Below w.heap.size w w':=by
 have HR0_0:=zA hr0_0;have HC0_0:=zA hc0_0;clear hr0_0 hc0_0;have HR0_1:=zA hr0_1;have HC0_1:=zA hc0_1;clear hr0_1 hc0_1;have HB:=zA (Below.refl w.heap.size w);have H:((ancepsref38_Variables.f k l0_0).bind fun t52=>(if t52=0 then (ancepsref38_Valid.l0 k 0 l0_0 l0_1) else (some t52)))=some r:=h;clear h;obtain ⟨t52,A2,H⟩:=zo H;have HC3:=zA H;clear H
 go_enter Tryz.func68,Tryz.ntmps68
 go_upto_if 9 with (first|((with_reducible refine gd 1 rfl ?_);(try (refine gate_guard (by rfl) ?_;dsimp only));refine zx #[.slice A0_0 l0_0.length c0_0,.slice A0_1 l0_1.length c0_1] 63 ?_;intro gb30 hg w4 BK30 hb GW30 HB1;have GE30:=GW30;clear HB hb hg;have HB:=HB1;clear HB1;have hcz5_0:=zc0 BK30;have hcz5_1:=zc1 BK30;have hfz5_0:=zf BK30)|(go_at_call 98;(with_reducible refine (ancepsref38_Variables.calls k _ _ l0_0 t52 _ (zD HR0_0 HB) HC0_0.out A2.out).mono ?_);rintro e w' ⟨rfl,⟨nd,rfl⟩⟩;(try first|exact ⟨rfl,_,World.drewN_drewN _ _ _⟩|exact ⟨rfl,_,Eq.trans (World.drewN_drewN _ _ _) (congrArg (World.drewN _) (Nat.add_assoc _ _ _))⟩)))
 repeat (go_quiet (first|((with_reducible refine gd 1 rfl ?_);(try (refine gate_guard (by rfl) ?_;dsimp only));refine zx #[.slice A0_0 l0_0.length c0_0,.slice A0_1 l0_1.length c0_1] 63 ?_;intro gb30 hg w4 BK30 hb GW30 HB1;have GE30:=GW30;clear HB hb hg;have HB:=HB1;clear HB1;have hcz5_0:=zc0 BK30;have hcz5_1:=zc1 BK30;have hfz5_0:=zf BK30)|(go_at_call 98;(with_reducible refine (ancepsref38_Variables.calls k _ _ l0_0 t52 _ (zD HR0_0 HB) HC0_0.out A2.out).mono ?_);rintro e w' ⟨rfl,⟨nd,rfl⟩⟩;(try first|exact ⟨rfl,_,World.drewN_drewN _ _ _⟩|exact ⟨rfl,_,Eq.trans (World.drewN_drewN _ _ _) (congrArg (World.drewN _) (Nat.add_assoc _ _ _))⟩)));go_upto_if 9 with (first|((with_reducible refine gd 1 rfl ?_);(try (refine gate_guard (by rfl) ?_;dsimp only));refine zx #[.slice A0_0 l0_0.length c0_0,.slice A0_1 l0_1.length c0_1] 63 ?_;intro gb30 hg w4 BK30 hb GW30 HB1;have GE30:=GW30;clear HB hb hg;have HB:=HB1;clear HB1;have hcz5_0:=zc0 BK30;have hcz5_1:=zc1 BK30;have hfz5_0:=zf BK30)|(go_at_call 98;(with_reducible refine (ancepsref38_Variables.calls k _ _ l0_0 t52 _ (zD HR0_0 HB) HC0_0.out A2.out).mono ?_);rintro e w' ⟨rfl,⟨nd,rfl⟩⟩;(try first|exact ⟨rfl,_,World.drewN_drewN _ _ _⟩|exact ⟨rfl,_,Eq.trans (World.drewN_drewN _ _ _) (congrArg (World.drewN _) (Nat.add_assoc _ _ _))⟩))))
 (try simp only [Act.put,zi,zs,zt]);have H:=HC3.out;clear HC3
 rcases ife H with ⟨c6b0,c6b1,H⟩|⟨c6,c6b0,c6b1,H⟩
 ·(first|rw [c6b0]|(simp only [i64_w,i32_w];rw [c6b0])|skip)
  (try rw [c6b1]);have H':=zA H;clear H
  go_wp2
  repeat (go_quiet (fail);try go_wp2)
  go_loopg [4] k (fun kq v4 w'=>∃ (x4_1:Int),v4=.int .i64 x4_1∧Aside0 (ancepsref38_Valid.l0 kq x4_1 l0_0 l0_1=some r)∧Aside0 (kq≤k)∧Aside0 (w'.heap[gb30]?=some (.cells #[(.slice A0_0 l0_0.length c0_0),(.slice A0_1 l0_1.length c0_1)] 63 (0,0)))∧Aside0 (Below w.heap.size w w'))
  case atStart=>exact ⟨(0),zT,H',⟨Nat.le_refl _⟩,⟨by refine zj ?_;exact BK30.out⟩,⟨zv1 HB GE30⟩⟩
  case round=>
   clear H'
   try clear c6
   try clear c6b0
   try clear c6b1
   try clear hcz5_0
   try clear hcz5_1
   try clear hfz5_0
   try clear hfz5_1
   obtain ⟨x4_1,rfl,HA,HK1,BK30,HB⟩:=hrel
   cases gk with
   | zero=>exact absurd HA.out (by simp [ancepsref38_Valid.l0])
   | succ k1=>
    have H:=HA.out;clear HA;simp only [ancepsref38_Valid.l0] at H
    rcases ifd H with ⟨c7b0,H⟩|⟨c7b0,H⟩
    ·obtain ⟨c8b0,H⟩:=ifd1 H
     rcases ifd H with ⟨c9b0,H⟩|⟨c9b0,H⟩
     ·obtain rfl:=Option.some.inj H;have hcz10_0:=zc0 BK30;have hcz10_1:=zc1 BK30;have hfz10_0:=zf BK30;obtain ⟨p29,q29,ad29,e29,hx29_0⟩:=zp (Kd.at_int HR0_1.out x4_1)
      cases e29
      replace hx29_0:=zd HB hx29_0;replace p29:=eq_true p29;replace q29:=eq_true q29
      go_wp2
      repeat (go_quiet (fail);try go_wp2)
      go_ret
      exact ⟨ze,zv1 HB GE30⟩
     ·obtain ⟨ji11,hji11⟩:=zZ (shl .i64 1 (l0_0.length:Int))
      first|rw [hji11] at H|simp only [hji11] at H
      have hji11_:(IntKind.i64.wrap (1 * 2 ^ min (l0_0.length:Int).toNat 64))=ji11:=hji11;have hji11z:(l0_0.length:Int)≤64→(IntKind.i64.wrap (1 * 2 ^ (l0_0.length:Int).toNat))=ji11:=shl_small hji11;have hji11p:(IntKind.i64.wrap (1 * 2 ^ min l0_0.length 64))=ji11:=hji11_;have hji11q:(l0_0.length:Int)≤64→(IntKind.i64.wrap (1 * 2 ^ l0_0.length))=ji11:=hji11z
      have hji11r:(IntKind.i64.wrap (2 ^ min l0_0.length 64))=ji11:=by have h_:=hji11p;rw [Int.one_mul] at h_;exact h_
      have hji11s:(l0_0.length:Int)≤64→(IntKind.i64.wrap (2 ^ l0_0.length))=ji11:=fun hle_=>by have h_:=hji11q hle_;rw [Int.one_mul] at h_;exact h_
      have hji11u:(IntKind.i64.wrap (2 ^ min (l0_0.length:Int).toNat 64))=ji11:=by have h_:=hji11_;rw [Int.one_mul] at h_;exact h_
      have hji11v:(l0_0.length:Int)≤64→(IntKind.i64.wrap (2 ^ (l0_0.length:Int).toNat))=ji11:=fun hle_=>by have h_:=hji11z hle_;rw [Int.one_mul] at h_;exact h_
      have hji11y:(wrap64 (1 * 2 ^ min (l0_0.length:Int).toNat 64))=ji11:=(i64_w _).symm.trans hji11_
      have hji11x:(l0_0.length:Int)≤64→(wrap64 (1 * 2 ^ (l0_0.length:Int).toNat))=ji11:=fun h_=>(i64_w _).symm.trans (hji11z h_)
      rcases if0 H with ⟨c12,H⟩|⟨c12,H⟩
      ·have c12b0:decide ((ji11)≤(rd l0_1 x4_1))=true:=decide_eq_true c12;clear c12;obtain rfl:=Option.some.inj H;have hcz13_0:=zc0 BK30;have hcz13_1:=zc1 BK30;have hfz13_0:=zf BK30;obtain ⟨p29,q29,ad29,e29,hx29_0⟩:=zp (Kd.at_int HR0_1.out x4_1)
       cases e29
       replace hx29_0:=zd HB hx29_0;replace p29:=eq_true p29;replace q29:=eq_true q29;obtain ⟨p35,q35,ad35,e35,hx35_0⟩:=zp (Kd.at_int HR0_1.out x4_1)
       obtain rfl:ad29=ad35:=(by injection e35)
       replace hx35_0:=zd HB hx35_0;replace p35:=eq_true p35;replace q35:=eq_true q35
       go_wp2
       repeat (go_quiet (fail);try go_wp2)
       go_ret
       exact ⟨by first|rfl|(simp [errW_none,errW_some] <;> rfl)|(simp only [← hji11];first|rfl|(simp [errW_none,errW_some] <;> rfl))|(simp [*,errW_none,errW_some] <;> rfl),zv1 HB GE30⟩
      ·have c12b0:decide ((ji11)≤(rd l0_1 x4_1))=false:=decide_eq_false c12;clear c12
       rcases if0 H with ⟨c14,H⟩|⟨c14,H⟩
       ·have c14b0:decide (0<x4_1)=true:=decide_eq_true c14;clear c14;obtain ⟨ji15,hji15⟩:=zZ (wrap64 (x4_1 - 1))
        first|rw [hji15] at H|simp only [hji15] at H
        have hji15w:(IntKind.i64.wrap (x4_1 - 1))=ji15:=(i64_w _).trans hji15;obtain ⟨c16b0,H⟩:=ifd1 H;obtain ⟨c17b0,H⟩:=ifd1 H
        rcases ifd H with ⟨c18b0,H⟩|⟨c18b0,H⟩
        ·obtain rfl:=Option.some.inj H;have hcz19_0:=zc0 BK30;have hcz19_1:=zc1 BK30;have hfz19_0:=zf BK30;obtain ⟨p29,q29,ad29,e29,hx29_0⟩:=zp (Kd.at_int HR0_1.out x4_1)
         cases e29
         replace hx29_0:=zd HB hx29_0;replace p29:=eq_true p29;replace q29:=eq_true q29;obtain ⟨p35,q35,ad35,e35,hx35_0⟩:=zp (Kd.at_int HR0_1.out x4_1)
         obtain rfl:ad29=ad35:=(by injection e35)
         replace hx35_0:=zd HB hx35_0;replace p35:=eq_true p35;replace q35:=eq_true q35;obtain ⟨p42,q42,ad42,e42,hx42_0⟩:=zp (Kd.at_int HR0_1.out x4_1)
         obtain rfl:ad29=ad42:=(by injection e42)
         replace hx42_0:=zd HB hx42_0;replace p42:=eq_true p42;replace q42:=eq_true q42;obtain ⟨p44,q44,ad44,e44,hx44_0⟩:=zp (Kd.at_int HR0_1.out (ji15))
         obtain rfl:ad29=ad44:=(by injection e44)
         replace hx44_0:=zd HB hx44_0;replace p44:=eq_true p44;replace q44:=eq_true q44
         go_wp2
         repeat (go_quiet (fail);try go_wp2)
         go_ret
         exact ⟨by first|rfl|(simp [errW_none,errW_some] <;> rfl)|(simp only [← hji11,← hji15];first|rfl|(simp [errW_none,errW_some] <;> rfl))|(simp [*,errW_none,errW_some] <;> rfl),zv1 HB GE30⟩
        ·have H':=zA H;clear H;have hcz20_0:=zc0 BK30;have hcz20_1:=zc1 BK30;have hfz20_0:=zf BK30;obtain ⟨p29,q29,ad29,e29,hx29_0⟩:=zp (Kd.at_int HR0_1.out x4_1)
         cases e29
         replace hx29_0:=zd HB hx29_0;replace p29:=eq_true p29;replace q29:=eq_true q29;obtain ⟨p35,q35,ad35,e35,hx35_0⟩:=zp (Kd.at_int HR0_1.out x4_1)
         obtain rfl:ad29=ad35:=(by injection e35)
         replace hx35_0:=zd HB hx35_0;replace p35:=eq_true p35;replace q35:=eq_true q35;obtain ⟨p42,q42,ad42,e42,hx42_0⟩:=zp (Kd.at_int HR0_1.out x4_1)
         obtain rfl:ad29=ad42:=(by injection e42)
         replace hx42_0:=zd HB hx42_0;replace p42:=eq_true p42;replace q42:=eq_true q42;obtain ⟨p44,q44,ad44,e44,hx44_0⟩:=zp (Kd.at_int HR0_1.out (ji15))
         obtain rfl:ad29=ad44:=(by injection e44)
         replace hx44_0:=zd HB hx44_0;replace p44:=eq_true p44;replace q44:=eq_true q44
         go_wp2
         repeat (go_quiet (fail);try go_wp2)
         go_roundg k1
         case measure=>have:=HK1.out;omega
         case rel=>exact ⟨(wrap64 (x4_1+1)),zT,H',⟨by have:=HK1.out;omega⟩,⟨by refine zj ?_;exact BK30.out⟩,⟨zv1 HB GE30⟩⟩
       ·have c14b0:decide (0<x4_1)=false:=decide_eq_false c14;clear c14;have H':=zA H;clear H;have hcz21_0:=zc0 BK30;have hcz21_1:=zc1 BK30;have hfz21_0:=zf BK30;obtain ⟨p29,q29,ad29,e29,hx29_0⟩:=zp (Kd.at_int HR0_1.out x4_1)
        cases e29
        replace hx29_0:=zd HB hx29_0;replace p29:=eq_true p29;replace q29:=eq_true q29;obtain ⟨p35,q35,ad35,e35,hx35_0⟩:=zp (Kd.at_int HR0_1.out x4_1)
        obtain rfl:ad29=ad35:=(by injection e35)
        replace hx35_0:=zd HB hx35_0;replace p35:=eq_true p35;replace q35:=eq_true q35
        go_wp2
        repeat (go_quiet (fail);try go_wp2)
        go_roundg k1
        case measure=>have:=HK1.out;omega
        case rel=>exact ⟨(wrap64 (x4_1+1)),zT,H',⟨by have:=HK1.out;omega⟩,⟨by refine zj ?_;exact BK30.out⟩,⟨zv1 HB GE30⟩⟩
    ·obtain rfl:=Option.some.inj H;have hcz22_0:=zc0 BK30;have hcz22_1:=zc1 BK30;have hfz22_0:=zf BK30
     go_wp2
     repeat (go_quiet (fail);try go_wp2)
     go_ret
     exact ⟨ze,zv1 HB GE30⟩
 ·(first|rw [c6b0]|(simp only [i64_w,i32_w];rw [c6b0])|skip)
  (try rw [c6b1]);obtain rfl:=Option.some.inj H
  go_wp2
  repeat (go_quiet (fail);try go_wp2)
  go_ret
  exact ⟨ze,zv1 HB GE30⟩
def ancepsref40_Valid.l0:Nat→List (S63)→Int→Option (Int)
 | 0,_,_=>none
 | k+1,x0,x3=>if x3<(x0.length:Int) then (if 0≤x3 then ((ancepsref38_Valid.f k ((rd_T63 x0 x3).f0) ((rd_T63 x0 x3).f1)).bind fun t58=>(if t58=0 then (ancepsref40_Valid.l0 k x0 (wrap64 (x3+1))) else (some t58))) else (none)) else (some 0)
def ancepsref40_Valid.f (k:Nat) (l0:List (S63)):Option (Int):=if (l0.length:Int)>16 then (some 3) else (ancepsref40_Valid.l0 k l0 0)
set_option maxHeartbeats 8000000 in
set_option maxRecDepth 100000 in
theorem ancepsref40_Valid.calls (k:Nat) (A0:Option Addr) (c0:Nat) (l0:List (S63)) (r:Int) (w:World) (hr0:Kd.C k63 w A0 l0.length l0) (hc0:l0.length≤c0) (h:ancepsref40_Valid.f k l0=some r) :
  Calls Tryz.prog 33 #[.slice A0 l0.length c0] w fun e w'=>e=.returned (.int .i64 r)∧Below w.heap.size w w':=by
 have HR0:=zA hr0;have HC0:=zA hc0;clear hr0 hc0;have HB:=zA (Below.refl w.heap.size w);have H:(if (l0.length:Int)>16 then (some 3) else (ancepsref40_Valid.l0 k l0 0))=some r:=h;clear h
 rcases if0 H with ⟨c2,H⟩|⟨c2,H⟩
 ·have c2b0:decide (16<(l0.length:Int))=true:=decide_eq_true c2;have c2b1:decide (16<l0.length)=true:=decide_eq_true (by omega);clear c2;obtain rfl:=Option.some.inj H
  go_enter Tryz.func33,Tryz.ntmps33
  go_wp2
  go_ret
  exact ⟨ze,zv0 HB⟩
 ·have c2b0:decide (16<(l0.length:Int))=false:=decide_eq_false c2;have c2b1:decide (16<l0.length)=false:=decide_eq_false (by omega);clear c2;have H':=zA H;clear H
  go_enter Tryz.func33,Tryz.ntmps33
  go_wp2
  go_loopg [3] k (fun kq v3 w'=>∃ (x3_1:Int),v3=.int .i64 x3_1∧Aside0 (ancepsref40_Valid.l0 kq l0 x3_1=some r)∧Aside0 (kq≤k)∧Aside0 (Below w.heap.size w w'))
  case atStart=>exact ⟨(0),zT,H',⟨Nat.le_refl _⟩,⟨zv0 HB⟩⟩
  case round=>
   clear H'
   try clear c2
   try clear c2b0
   try clear c2b1
   obtain ⟨x3_1,rfl,HA,HK1,HB⟩:=hrel
   cases gk with
   | zero=>exact absurd HA.out (by simp [ancepsref40_Valid.l0])
   | succ k1=>
    have H:=HA.out;clear HA;simp only [ancepsref40_Valid.l0] at H
    rcases ifd H with ⟨c3b0,H⟩|⟨c3b0,H⟩
    ·obtain ⟨c4b0,H⟩:=ifd1 H;obtain ⟨t58,A5,H⟩:=zo H;have HC6:=zA H;clear H;obtain ⟨p37,q37,ad37,A37_0,c37_0,A37_1,c37_1,e37,hx37_0,hx37_1,hl37_0,hi37_0,hl37_1,hi37_1⟩:=zp (at_T63 HR0.out x3_1)
     cases e37
     replace hx37_0:=zd HB hx37_0;replace hx37_1:=zd HB hx37_1;have HR37_0:=zA hi37_0;have HC37_0:=zA hl37_0;clear hi37_0 hl37_0;have HR37_1:=zA hi37_1;have HC37_1:=zA hl37_1;clear hi37_1 hl37_1;replace p37:=eq_true p37;replace q37:=eq_true q37
     go_upto_if 20 with (first|((with_reducible refine gate_callee (f:=68) rfl ?_);refine zgo 18 Tryz.func68 #[.agg #[.slice A37_0 ((rd_T63 l0 x3_1).f0).length c37_0,.slice A37_1 ((rd_T63 l0 x3_1).f1).length c37_1]] ?_;(with_reducible refine (ancepsref38_Valid.calls k1 _ _ ((rd_T63 l0 x3_1).f0) _ _ ((rd_T63 l0 x3_1).f1) t58 _ (zD HR37_0 HB) HC37_0.out (zD HR37_1 HB) HC37_1.out A5.out).mono ?_);rintro e w7 ⟨rfl,hb⟩;refine ⟨_,rfl,?_⟩;replace HB:=zu hb;clear hb))
     (try simp only [Act.put,zi,zs,zt]);have H:=HC6.out;clear HC6
     rcases ife H with ⟨c8b0,c8b1,H⟩|⟨c8,c8b0,c8b1,H⟩
     ·(first|rw [c8b0]|(simp only [i64_w,i32_w];rw [c8b0])|skip)
      (try rw [c8b1]);have H':=zA H;clear H
      go_wp2
      go_roundg k1
      case measure=>have:=HK1.out;omega
      case rel=>exact ⟨(wrap64 (x3_1+1)),zT,H',⟨by have:=HK1.out;omega⟩,⟨zv0 HB⟩⟩
     ·(first|rw [c8b0]|(simp only [i64_w,i32_w];rw [c8b0])|skip)
      (try rw [c8b1]);obtain rfl:=Option.some.inj H
      go_wp2
      go_ret
      exact ⟨ze,zv0 HB⟩
    ·obtain rfl:=Option.some.inj H
     go_wp2
     go_ret
     exact ⟨ze,zv0 HB⟩
theorem arv_box {w:World} {g b:Nat} (h:w.heap[g]?=some (.cells #[.bool false,.bool false,.bool false,.bool false,.bool false,.bool false,.bool false,.bool false,.bool false,.bool false,.bool false,.bool false,.bool false,.bool false,.bool false,.bool false,.bool false,.bool false,.bool false,.bool false,.bool false,.bool false,.bool false,.bool false] 93 (0,0))) (hb:b≤g) :
  Kd.R Kd.bool 93 w b (fun _=>True) (.slice (some ⟨g,0,none⟩) 24 24) (List.replicate 24 false):=
 Kd.R_of_own (enc:=Value.bool) (h1:=fun _=>rfl) ⟨by simp [encs],.inr ⟨g,24,_,rfl,hb,h,by simp,by simp [maxLen],rfl,by simp [encs,List.replicate]⟩⟩ (fun _ _=>trivial)
theorem arv_len {w:World} {g b:Nat} {ok:Nat→Prop} {x:List Bool} (h:Kd.R Kd.bool 93 w b ok (.slice (some ⟨g,0,none⟩) 24 24) x):x.length=24:=by
 obtain ⟨A,c,e⟩:=Kd.R_slice h
 injection e with _ e2 _
 exact e2.symm
mutual
def ancepsref40_Vars.l0:Nat→List (S63)→List Bool→Int→Option (List Int)
 | 0,_,_,_=>none
 | k+1,x0,x3,x4=>if x4<(x0.length:Int) then (ancepsref40_Vars.l1 k x0 x3 x4 0) else (ancepsref40_Vars.l2 k x3 ([]:List Int) 0)
def ancepsref40_Vars.l1:Nat→List (S63)→List Bool→Int→Int→Option (List Int)
 | 0,_,_,_,_=>none
 | k+1,x0,x3,x4,x5=>if 0≤x4 then (if x4<(x0.length:Int) then (if x5<(((rd_T63 x0 x4).f0).length:Int) then (if 0≤x5 then (if 0≤(rd ((rd_T63 x0 x4).f0) x5) then (if (rd ((rd_T63 x0 x4).f0) x5)<(x3.length:Int) then (ancepsref40_Vars.l1 k x0 (x3.set ((rd ((rd_T63 x0 x4).f0) x5):Int).toNat true) x4 (wrap64 (x5+1))) else (none)) else (none)) else (none)) else (ancepsref40_Vars.l0 k x0 x3 (wrap64 (x4+1)))) else (none)) else (none)
def ancepsref40_Vars.l2:Nat→List Bool→List Int→Int→Option (List Int)
 | 0,_,_,_=>none
 | k+1,x3,x6,x7=>if x7<24 then (if 0≤x7 then (if x7<(x3.length:Int) then (if rdOf false x3 x7=true then (if x6.length<17592186044416 then (ancepsref40_Vars.l2 k x3 (x6++[x7]) (wrap64 (x7+1))) else (none)) else (ancepsref40_Vars.l2 k x3 x6 (wrap64 (x7+1)))) else (none)) else (none)) else (some x6)
end
def ancepsref40_Vars.f (k:Nat) (l0:List (S63)):Option (List Int):=(ancepsref40_Valid.f k l0).bind fun t125=>(if t125=0 then (if 24≤281474976710656 then (ancepsref40_Vars.l0 k l0 (List.replicate 24 false) 0) else (none)) else (some ([]:List Int)))
set_option maxHeartbeats 8000000 in
set_option maxRecDepth 100000 in
theorem ancepsref40_Vars.calls (k:Nat) (A0:Option Addr) (c0:Nat) (l0:List (S63)) (r:List Int) (w:World) (hr0:Kd.C k63 w A0 l0.length l0) (hc0:l0.length≤c0) (h:ancepsref40_Vars.f k l0=some r) :
  Calls Tryz.prog 34 #[.slice A0 l0.length c0] w fun e w'=>∃ v0_:Value,e=.returned (v0_)∧Kd.R (Kd.int .i64) 3 w' w.heap.size (fun _=>True) v0_ r∧Below w.heap.size w w':=by
 have HR0:=zA hr0;have HC0:=zA hc0;clear hr0 hc0;have HB:=zA (Below.refl w.heap.size w);have H:((ancepsref40_Valid.f k l0).bind fun t125=>(if t125=0 then (if 24≤281474976710656 then (ancepsref40_Vars.l0 k l0 (List.replicate 24 false) 0) else (none)) else (some ([]:List Int))))=some r:=h;clear h;obtain ⟨t125,A2,H⟩:=zo H;have HC3:=zA H;clear H
 go_enter Tryz.func34,Tryz.ntmps34
 go_upto_if 10 with (first|((with_reducible refine gate_callee (f:=33) rfl ?_);refine zgo 9 Tryz.func33 #[.slice A0 l0.length c0] ?_;(with_reducible refine (ancepsref40_Valid.calls k _ _ l0 t125 _ ?side1 HC0.out A2.out).mono ?_);(case side1=>repeat (first|exact HR0.out|(with_reducible refine Kd.C_alloc ?_ _)|(with_reducible refine Kd.C_drewN ?_ _)|(with_reducible refine Kd.C_drew ?_)));rintro e w4 ⟨rfl,hb⟩;refine ⟨_,rfl,?_⟩;replace HB:=zu hb;clear hb))
 (try simp only [Act.put,zi,zs,zt]);have H:=HC3.out;clear HC3
 rcases ife H with ⟨c5b0,c5b1,H⟩|⟨c5,c5b0,c5b1,H⟩
 ·(first|rw [c5b0]|(simp only [i64_w,i32_w];rw [c5b0])|skip)
  (try rw [c5b1]);obtain ⟨c6,H⟩:=if1 H;have c6b0:=eq_true c6;have c6b1:decide (24≤281474976710656)=true:=decide_eq_true c6;clear c6
  first|(replace H:=zyb (List.replicate 24 false) H;obtain ⟨y126,Ny126,H⟩:=H)|(obtain ⟨y126,hy126⟩:=zY (List.replicate 24 false);(try rw (occs:=.pos [1]) [← hy126] at H);have Ny126:=zA hy126;clear hy126)
  have H':=zA H;clear H
  go_wp2_with (first|((with_reducible refine gate_dst (N:=3) rfl ?_);refine box_event ?hg (N:=3) ?hd (cs:=#[.bool false,.bool false,.bool false,.bool false,.bool false,.bool false,.bool false,.bool false,.bool false,.bool false,.bool false,.bool false,.bool false,.bool false,.bool false,.bool false,.bool false,.bool false,.bool false,.bool false,.bool false,.bool false,.bool false,.bool false]) (t:=93) ?hr ?_;(case hd=>rfl);(case hg=>rfl);(case hr=>first|(go_simp;done)|(go_simp;rfl));intro ga hgA w7 hbox hb;have ho8:=arv_box hbox (Nat.le_of_eq hgA.symm);clear hbox hgA;rw [← Ny126.out] at ho8;have HO59:=zA (Kd.R_lower ho8 (below_size zB));replace HB:=zu hb;clear hb ho8))
  go_loopg [4] k (fun kq v4 w'=>∃ (x3_1:List Bool) (x4_1:Int),v4=.int .i64 x4_1∧Aside0 (ancepsref40_Vars.l0 kq l0 x3_1 x4_1=some r)∧Aside0 (kq≤k)∧Aside0 (Kd.R Kd.bool 93 w' w.heap.size (fun _=>True) (.slice (some ⟨ga,0,none⟩) 24 24) x3_1)∧Aside0 (Below w.heap.size w w'))
  case atStart=>exact ⟨(y126),(0),zT,H',⟨Nat.le_refl _⟩,⟨by refine zr ?_;exact HO59.out⟩,⟨zv0 HB⟩⟩
  case round=>
   clear H'
   try clear c5
   try clear c5b0
   try clear c5b1
   try clear c6
   try clear c6b0
   try clear c6b1
   obtain ⟨x3_1,x4_1,rfl,HA,HK1,HO_3,HB⟩:=hrel
   cases gk with
   | zero=>exact absurd HA.out (by simp [ancepsref40_Vars.l0])
   | succ k1=>
    have H:=HA.out;clear HA;simp only [ancepsref40_Vars.l0] at H
    rcases ifd H with ⟨c9b0,H⟩|⟨c9b0,H⟩
    ·have H':=zA H;clear H
     go_wp2
     go_loopg [5] k1 (fun kq v5 w'=>∃ (x3_2:List Bool) (x5_2:Int),v5=.int .i64 x5_2∧Aside0 (ancepsref40_Vars.l1 kq l0 x3_2 x4_1 x5_2=some r)∧Aside0 (kq≤k1)∧Aside0 (Kd.R Kd.bool 93 w' w.heap.size (fun _=>True) (.slice (some ⟨ga,0,none⟩) 24 24) x3_2)∧Aside0 (Below w.heap.size w w'))
     case atStart=>exact ⟨(x3_1),(0),zT,H',⟨Nat.le_refl _⟩,⟨by refine zr ?_;exact HO_3.out⟩,⟨zv0 HB⟩⟩
     case round=>
      clear H'
      try clear c5
      try clear c5b0
      try clear c5b1
      try clear c6
      try clear c6b0
      try clear c6b1
      try clear c9
      try clear c9b0
      obtain ⟨x3_2,x5_2,rfl,HA,HK2,HO_3,HB⟩:=hrel
      cases gk with
      | zero=>exact absurd HA.out (by simp [ancepsref40_Vars.l1])
      | succ k2=>
       have H:=HA.out;clear HA;simp only [ancepsref40_Vars.l1] at H;obtain ⟨c10b0,H⟩:=ifd1 H;obtain ⟨c11b0,H⟩:=ifd1 H
       rcases ifd H with ⟨c12b0,H⟩|⟨c12b0,H⟩
       ·obtain ⟨c13b0,H⟩:=ifd1 H;obtain ⟨c14b0,H⟩:=ifd1 H;obtain ⟨c15b0,H⟩:=ifd1 H
        first|(replace H:=zyb (x3_2.set ((rd ((rd_T63 l0 x4_1).f0) x5_2):Int).toNat true) H;obtain ⟨y50,Ny50,H⟩:=H)|(obtain ⟨y50,hy50⟩:=zY (x3_2.set ((rd ((rd_T63 l0 x4_1).f0) x5_2):Int).toNat true);(try rw (occs:=.pos [1]) [← hy50] at H);have Ny50:=zA hy50;clear hy50)
        have H':=zA H;clear H;obtain ⟨p28,q28,ad28,A28_0,c28_0,A28_1,c28_1,e28,hx28_0,hx28_1,hl28_0,hi28_0,hl28_1,hi28_1⟩:=zp (at_T63 HR0.out x4_1)
        cases e28
        replace hx28_0:=zd HB hx28_0;replace hx28_1:=zd HB hx28_1;have HR28_0:=zA hi28_0;have HC28_0:=zA hl28_0;clear hi28_0 hl28_0;have HR28_1:=zA hi28_1;have HC28_1:=zA hl28_1;clear hi28_1 hl28_1;replace p28:=eq_true p28;replace q28:=eq_true q28;obtain ⟨p39,q39,ad39,A39_0,c39_0,A39_1,c39_1,e39,hx39_0,hx39_1,hl39_0,hi39_0,hl39_1,hi39_1⟩:=zp (at_T63 HR0.out x4_1)
        obtain rfl:ad28=ad39:=(by injection e39)
        replace hx39_0:=zd HB hx39_0;replace hx39_1:=zd HB hx39_1;have HR39_0:=zA hi39_0;have HC39_0:=zA hl39_0;clear hi39_0 hl39_0;have HR39_1:=zA hi39_1;have HC39_1:=zA hl39_1;clear hi39_1 hl39_1;replace p39:=eq_true p39;replace q39:=eq_true q39;have ea_:=Option.some.inj (hx28_0.symm.trans hx39_0)
        injection ea_ with ea_ en_ ec_
        subst ea_;subst ec_;clear en_;have ea_:=Option.some.inj (hx28_1.symm.trans hx39_1)
        injection ea_ with ea_ en_ ec_
        subst ea_;subst ec_;clear en_;obtain ⟨p49,q49,ad49,e49,hx49_0⟩:=zp (Kd.at_int HR39_0.out x5_2)
        cases e49
        replace hx49_0:=zd HB hx49_0;replace p49:=eq_true p49;replace q49:=eq_true q49;have p16:0≤((rd ((rd_T63 l0 x4_1).f0) x5_2):Int):=of_decide_eq_true zh
        have q16:((rd ((rd_T63 l0 x4_1).f0) x5_2):Int)<24:=by first|omega|exact of_decide_eq_true zh|(have h2_:(rd ((rd_T63 l0 x4_1).f0) x5_2)<(x3_2.length:Int):=of_decide_eq_true zh;have h3_:=arv_len HO_3.out;omega)
        have hl24b_:=arv_len HO_3.out;have gb16:=Kd.R_base HO_3.out ga rfl;have GB16:=zA gb16;clear gb16;obtain ⟨hx16_0,hf16_0⟩:=Kd.R_celln false HO_3.out ((rd ((rd_T63 l0 x4_1).f0) x5_2):Int) p16 q16;replace p16:=eq_true p16;replace q16:=eq_true q16;have HP17:=Kd.R_putg HO_3.out ((rd ((rd_T63 l0 x4_1).f0) x5_2):Int) true
        go_wp2_with (first|((with_reducible refine gate_store (t:=4) (p:=35) rfl ?_);refine store_event (t:=4) (p:=35) (v:=?vo_w18) (w1:=(wr.setCell ⟨ga,((rd ((rd_T63 l0 x4_1).f0) x5_2):Int).toNat,none⟩ (.bool true))) ?hg ?ho ?hn ?hr ?_;(case ho=>rfl);(case hg=>rfl);(case hn=>rfl);(case hr=>first|(go_simp;done)|(go_simp;rfl));intro w18 hw;have hg:wr.grownBy w18 (some ga):=(by rw [hw];exact HP17.2);have hp_:Kd.R Kd.bool 93 w18 w.heap.size (fun _=>True) (.slice (some ⟨ga,0,none⟩) 24 24) y50:=(by rw [hw,Ny50.out];exact HP17.1);clear HP17;replace HO_3:=zA (hp_);replace HB:=zA ((by rw [hw];exact below_set (HB.out) GB16.out:Below w.heap.size w w18));clear hg hw hp_))
        go_roundg k2
        case measure=>have:=HK1.out;have:=HK2.out;omega
        case rel=>exact ⟨(y50),(wrap64 (x5_2+1)),zT,H',⟨by have:=HK1.out;have:=HK2.out;omega⟩,⟨by refine zr ?_;exact HO_3.out⟩,⟨zv0 HB⟩⟩
       ·have H':=zA H;clear H;obtain ⟨p28,q28,ad28,A28_0,c28_0,A28_1,c28_1,e28,hx28_0,hx28_1,hl28_0,hi28_0,hl28_1,hi28_1⟩:=zp (at_T63 HR0.out x4_1)
        cases e28
        replace hx28_0:=zd HB hx28_0;replace hx28_1:=zd HB hx28_1;have HR28_0:=zA hi28_0;have HC28_0:=zA hl28_0;clear hi28_0 hl28_0;have HR28_1:=zA hi28_1;have HC28_1:=zA hl28_1;clear hi28_1 hl28_1;replace p28:=eq_true p28;replace q28:=eq_true q28
        go_wp2
        go_roundg k2
        case measure=>have:=HK1.out;have:=HK2.out;omega
        case rel=>exact ⟨(x3_2),(wrap64 (x4_1+1)),zT,H',⟨by have:=HK1.out;have:=HK2.out;omega⟩,⟨by refine zr ?_;exact HO_3.out⟩,⟨zv0 HB⟩⟩
    ·have H':=zA H;clear H
     go_wp2
     go_loopg [6,7] k1 (fun kq v6 v7 w'=>∃ (x6_2:List Int) (x7_2:Int),v7=.int .i64 x7_2∧Aside0 (ancepsref40_Vars.l2 kq x3_1 x6_2 x7_2=some r)∧Aside0 (kq≤k1)∧Aside0 (Kd.R Kd.bool 93 w' w.heap.size (fun _=>True) (.slice (some ⟨ga,0,none⟩) 24 24) x3_1)∧Aside0 (Kd.R (Kd.int .i64) 3 w' w.heap.size (fun _=>True) v6 x6_2)∧Aside0 (Below w.heap.size w w'))
     case atStart=>exact ⟨(([]:List Int)),(0),zT,H',⟨Nat.le_refl _⟩,⟨by refine zr ?_;exact HO_3.out⟩,⟨by first|exact Kd.R_nil _ _ _ _ _|exact Kd.N_nil _ _ _ _ _|exact Kd.V_nil _ _ _ _ _|exact Kd.Q_nil _ _ _ _ _|exact Kd.S_nil _ _ _ _ _⟩,⟨zv0 HB⟩⟩
     case round=>
      clear H'
      try clear c5
      try clear c5b0
      try clear c5b1
      try clear c6
      try clear c6b0
      try clear c6b1
      try clear c9
      try clear c9b0
      obtain ⟨x6_2,x7_2,rfl,HA,HK2,HO_3,HO_6,HB⟩:=hrel
      cases gk with
      | zero=>exact absurd HA.out (by simp [ancepsref40_Vars.l2])
      | succ k2=>
       have H:=HA.out;clear HA;simp only [ancepsref40_Vars.l2] at H
       rcases ifd H with ⟨c19b0,H⟩|⟨c19b0,H⟩
       ·obtain ⟨c20b0,H⟩:=ifd1 H;obtain ⟨c21b0,H⟩:=ifd1 H
        obtain ⟨bq22,hbq22⟩:∃ b_:Bool,b_=(rdOf false x3_1 x7_2):=⟨_,rfl⟩
        replace H:(if bq22=true then (if x6_2.length<17592186044416 then (ancepsref40_Vars.l2 k2 x3_1 (x6_2++[x7_2]) (wrap64 (x7_2+1))) else (none)) else (ancepsref40_Vars.l2 k2 x3_1 x6_2 (wrap64 (x7_2+1))))=some r:=by rw [← hbq22] at H;exact H
        have Nbq22:=zA hbq22;clear hbq22
        by_cases c23:bq22=true
        ·subst c23
         have H1:(if x6_2.length<17592186044416 then (ancepsref40_Vars.l2 k2 x3_1 (x6_2++[x7_2]) (wrap64 (x7_2+1))) else (none))=some r:=by rw [if_pos rfl] at H;exact H
         clear H;have H:=H1;clear H1;obtain ⟨c24,H⟩:=if1 H;have LMc24:=zA c24;clear c24
         first|(replace H:=zyb (x6_2++[x7_2]) H;obtain ⟨y53,Ny53,H⟩:=H)|(obtain ⟨y53,hy53⟩:=zY (x6_2++[x7_2]);(try rw (occs:=.pos [1]) [← hy53] at H);have Ny53:=zA hy53;clear hy53)
         have H':=zA H;clear H;have p48:0≤(x7_2:Int):=of_decide_eq_true zh;have q48:x7_2<(x3_1.length:Int):=of_decide_eq_true zh;have hl24_:=arv_len HO_3.out;have ha24_:(x7_2<24)=True:=eq_true (by omega);have hx48_0:=(Kd.R_celln false HO_3.out x7_2 p48 (by omega)).1;(try rw [← Nbq22.out] at hx48_0);replace p48:=eq_true p48;replace q48:=eq_true q48
         go_wp2_with (first|((with_reducible refine gate_builtin (b:=.append) (xs:=#[.tmp 43,.tmp 45]) rfl ?_);at_builtin;refine Kd.R_append (Kd.int .i64) (w0:=w) w.heap.size rfl (.tmp 43) (.tmp 45) 43 3 (.int .i64 0) 8 rfl Tryz.underlying43 info3 rfl (by decide) (by omega) u6 x6_2 x7_2 [.int .i64 x7_2] (fun _=>True) (fun _=>False) rfl rfl ?aP (fun _ hk=>hk.elim) ?aF ?aO ?aB ?aS ?aL ?_;(case aP=>exact rfl);(case aB=>exact zB);(case aF=>exact (fun _ _=>trivial));(case aO=>exact (zR HO_6));(case aS=>exact (below_size zB));(case aL=>have:=LMc24.out;omega);intro v62 w26 ho hb hg hat;rw [← Ny53.out] at ho;have HO60:=zA (ho);replace HO_3:=zA (Kd.R_over' (zR HO_3) (Kd.R_typed (zR HO_6)) (by decide) hg);replace HB:=zA (hb);clear HO_6;clear ho hb hg hat))
         go_roundg k2
         case measure=>have:=HK1.out;have:=HK2.out;omega
         case rel=>exact ⟨(y53),(wrap64 (x7_2+1)),zT,H',⟨by have:=HK1.out;have:=HK2.out;omega⟩,⟨by refine zr ?_;exact HO_3.out⟩,⟨by refine zr ?_;exact HO60.out⟩,⟨zv0 HB⟩⟩
        ·replace c23:=Bool.eq_false_iff.mpr c23;subst c23
         have H1:(ancepsref40_Vars.l2 k2 x3_1 x6_2 (wrap64 (x7_2+1)))=some r:=by rw [if_neg (show ¬ (false=true) by decide)] at H;exact H
         clear H;have H:=H1;clear H1;have H':=zA H;clear H;have p48:0≤(x7_2:Int):=of_decide_eq_true zh;have q48:x7_2<(x3_1.length:Int):=of_decide_eq_true zh;have hl24_:=arv_len HO_3.out;have ha24_:(x7_2<24)=True:=eq_true (by omega);have hx48_0:=(Kd.R_celln false HO_3.out x7_2 p48 (by omega)).1;(try rw [← Nbq22.out] at hx48_0);replace p48:=eq_true p48;replace q48:=eq_true q48
         go_wp2
         go_roundg k2
         case measure=>have:=HK1.out;have:=HK2.out;omega
         case rel=>exact ⟨(x6_2),(wrap64 (x7_2+1)),zT,H',⟨by have:=HK1.out;have:=HK2.out;omega⟩,⟨by refine zr ?_;exact HO_3.out⟩,⟨by refine zr ?_;exact HO_6.out⟩,⟨zv0 HB⟩⟩
       ·obtain rfl:=Option.some.inj H
        go_wp2
        go_ret
        exact ⟨_,ze,by refine zr ?_;exact HO_6.out,zv0 HB⟩
 ·(first|rw [c5b0]|(simp only [i64_w,i32_w];rw [c5b0])|skip)
  (try rw [c5b1]);obtain rfl:=Option.some.inj H
  go_wp2
  go_ret
  exact ⟨_,ze,by first|exact Kd.R_nil _ _ _ _ _|exact Kd.N_nil _ _ _ _ _|exact Kd.V_nil _ _ _ _ _|exact Kd.Q_nil _ _ _ _ _|exact Kd.S_nil _ _ _ _ _,zv0 HB⟩
def ancepsref41_FewTables.f (k:Nat) (l0:List (S63)):Option (Bool):=(ancepsref40_Few.f k l0).bind fun t57=>(if t57=true then ((ancepsref40_Valid.f k l0).bind fun t55=>(if t55=0 then ((ancepsref40_Vars.f k l0).bind fun t56=>(some (decide ((t56.length:Int)≤8)))) else (some true))) else (some false))
set_option maxHeartbeats 8000000 in
set_option maxRecDepth 100000 in
theorem ancepsref41_FewTables.calls (k:Nat) (A0:Option Addr) (c0:Nat) (l0:List (S63)) (r:Bool) (w:World) (hr0:Kd.C k63 w A0 l0.length l0) (hc0:l0.length≤c0) (h:ancepsref41_FewTables.f k l0=some r) :
  Calls Tryz.prog 8 #[.slice A0 l0.length c0] w fun e w'=>e=.returned (.bool r)∧Below w.heap.size w w':=by
 have HR0:=zA hr0;have HC0:=zA hc0;clear hr0 hc0;have HB:=zA (Below.refl w.heap.size w);have H:((ancepsref40_Few.f k l0).bind fun t57=>(if t57=true then ((ancepsref40_Valid.f k l0).bind fun t55=>(if t55=0 then ((ancepsref40_Vars.f k l0).bind fun t56=>(some (decide ((t56.length:Int)≤8)))) else (some true))) else (some false)))=some r:=h;clear h;obtain ⟨t57,A2,H⟩:=zo H;have HC3:=zA H;clear H
 go_enter Tryz.func8,Tryz.ntmps8
 go_upto_if 5 with (first|((with_reducible refine gate_callee (f:=32) rfl ?_);refine zgo 4 Tryz.func32 #[.slice A0 l0.length c0] ?_;(with_reducible refine (ancepsref40_Few.calls k _ _ l0 t57 _ ?side1 HC0.out A2.out).mono ?_);(case side1=>repeat (first|exact HR0.out|(with_reducible refine Kd.C_alloc ?_ _)|(with_reducible refine Kd.C_drewN ?_ _)|(with_reducible refine Kd.C_drew ?_)));rintro e w4 ⟨rfl,hb⟩;refine ⟨_,rfl,?_⟩;replace HB:=zu hb;clear hb))
 (try simp only [Act.put,zi,zs,zt]);have H:=HC3.out;clear HC3
 by_cases c5:t57=true
 ·subst c5
  have H1:((ancepsref40_Valid.f k l0).bind fun t55=>(if t55=0 then ((ancepsref40_Vars.f k l0).bind fun t56=>(some (decide ((t56.length:Int)≤8)))) else (some true)))=some r:=by rw [if_pos rfl] at H;exact H
  clear H;have H:=H1;clear H1;obtain ⟨t55,A6,H⟩:=zo H;have HC7:=zA H;clear H
  go_upto_if 8 with (first|((with_reducible refine gate_callee (f:=33) rfl ?_);refine zgo 7 Tryz.func33 #[.slice A0 l0.length c0] ?_;(with_reducible refine (ancepsref40_Valid.calls k _ _ l0 t55 _ (zD HR0 HB) HC0.out A6.out).mono ?_);rintro e w8 ⟨rfl,hb⟩;refine ⟨_,rfl,?_⟩;replace HB:=zu hb;clear hb))
  (try simp only [Act.put,zi,zs,zt]);have H:=HC7.out;clear HC7
  rcases ife H with ⟨c9b0,c9b1,H⟩|⟨c9,c9b0,c9b1,H⟩
  ·(first|rw [c9b0]|(simp only [i64_w,i32_w];rw [c9b0])|skip)
   (try rw [c9b1]);obtain ⟨t56,A10,H⟩:=zo H;obtain rfl:=Option.some.inj H
   go_wp2_with (first|((with_reducible refine gate_callee (f:=34) rfl ?_);refine zgo 10 Tryz.func34 #[.slice A0 l0.length c0] ?_;(with_reducible refine (ancepsref40_Vars.calls k _ _ l0 t56 _ (zD HR0 HB) HC0.out A10.out).mono ?_);rintro e w11 ⟨v65,rfl,ho0,hb⟩;refine ⟨_,rfl,?_⟩;have HO61:=zA (Kd.R_lower ho0 (below_size zB));replace HB:=zu hb;clear hb;(try clear ho0);obtain ⟨Ao12,co12,eo12⟩:=Kd.R_slice HO61.out;subst eo12))
   go_ret
   exact ⟨ze,zv0 HB⟩
  ·(first|rw [c9b0]|(simp only [i64_w,i32_w];rw [c9b0])|skip)
   (try rw [c9b1]);obtain rfl:=Option.some.inj H
   go_wp2
   go_ret
   exact ⟨ze,zv0 HB⟩
 ·replace c5:=Bool.eq_false_iff.mpr c5;subst c5
  have H1:(some false)=some r:=by rw [if_neg (show ¬ (false=true) by decide)] at H;exact H
  clear H;have H:=H1;clear H1;obtain rfl:=Option.some.inj H
  go_wp2
  go_ret
  exact ⟨ze,zv0 HB⟩
end Go.Proofs.YtngpkbbljnbojaaGreat.L
