import Derived.Test.YtngpkbbljnbojaaGreatL0
namespace Go.Proofs.YtngpkbbljnbojaaGreat.L
open Go.RowKit Go.Proofs.YtngpkbbljnbojaaGreatW.PrintWords Go.Proofs.YtngpkbbljnbojaaGreatW.PrintLast Go.Proofs.YtngpkbbljnbojaaGreatW.PrintMore
attribute [local go_sem] max2_int min2_int max_two min_two max_three min_three max_four min_four Tryz.underlying3 Tryz.underlying43 Tryz.underlying63
set_option linter.unusedVariables false
set_option linter.unusedSimpArgs false
def table_ascending.l0:Nat→List Int→List Int→Int→Int→Option (Int)
 | 0,_,_,_,_=>none
 | k+1,x0,x8,x9,x10=>if x10<x9 then (if 0≤x10 then (if x10<(x8.length:Int) then (if (rd x8 x10)<0 then (some 6) else (if (rd x8 x10)≥24 then (some 6) else (if x10>0 then (if 0≤(wrap64 (x10 - 1)) then (if (wrap64 (x10 - 1))<(x0.length:Int) then (if (rd x0 (wrap64 (x10 - 1)))≥(rd x8 x10) then (some 18) else (table_ascending.l0 k x0 x8 x9 (wrap64 (x10+1)))) else (none)) else (none)) else (table_ascending.l0 k x0 x8 x9 (wrap64 (x10+1)))))) else (none)) else (none)) else (some 0)
def table_ascending.f (k:Nat) (l0:List Int):Option (Int):=if (l0.length:Int)>10 then (some 3) else (table_ascending.l0 k l0 l0 (l0.length:Int) 0)
set_option maxHeartbeats 8000000 in
set_option maxRecDepth 100000 in
theorem table_ascending.calls (k:Nat) (A0:Option Addr) (c0:Nat) (l0:List Int) (r:Int) (w:World) (hr0:Kd.C (Kd.int .i64) w A0 l0.length l0) (hc0:l0.length≤c0) (h:table_ascending.f k l0=some r) :
  Calls Tryz.prog 97 #[.slice A0 l0.length c0] w fun e w'=>e=.returned (.int .i64 r)∧Drawn0 w w':=by
 have HR0:=zA hr0;have HC0:=zA hc0;clear hr0 hc0;have H:(if (l0.length:Int)>10 then (some 3) else (table_ascending.l0 k l0 l0 (l0.length:Int) 0))=some r:=h;clear h
 rcases if0 H with ⟨c2,H⟩|⟨c2,H⟩
 ·have c2b0:decide (10<(l0.length:Int))=true:=decide_eq_true c2;have c2b1:decide (10<l0.length)=true:=decide_eq_true (by omega);clear c2;obtain rfl:=Option.some.inj H
  go_enter Tryz.func97,Tryz.ntmps97
  go_wp2
  go_ret
  exact ⟨by first|rfl|(simp;done)|(simp [*];done),by repeat (first|exact Drawn0.refl _|apply Drawn0.step)⟩
 ·have c2b0:decide (10<(l0.length:Int))=false:=decide_eq_false c2;have c2b1:decide (10<l0.length)=false:=decide_eq_false (by omega);clear c2;have H':=zA H;clear H
  go_enter Tryz.func97,Tryz.ntmps97
  go_wp2
  go_loopg [10] k (fun kq v10 w'=>∃ (x10_1:Int),v10=.int .i64 x10_1∧Aside0 (table_ascending.l0 kq l0 l0 (l0.length:Int) x10_1=some r)∧Aside0 (kq≤k)∧Drawn0 w w')
  case atStart=>exact ⟨(0),zT,H',⟨Nat.le_refl _⟩,by repeat (first|exact Drawn0.refl _|apply Drawn0.step)⟩
  case round=>
   clear H'
   try clear c2
   try clear c2b0
   try clear c2b1
   obtain ⟨x10_1,rfl,HA,HK1,⟨m1,rfl⟩⟩:=hrel
   cases gk with
   | zero=>exact absurd HA.out (by simp [table_ascending.l0])
   | succ k1=>
    have H:=HA.out;clear HA;simp only [table_ascending.l0] at H
    rcases ifd H with ⟨c3b0,H⟩|⟨c3b0,H⟩
    ·obtain ⟨c4b0,H⟩:=ifd1 H;obtain ⟨c5b0,H⟩:=ifd1 H
     rcases ifd H with ⟨c6b0,H⟩|⟨c6b0,H⟩
     ·obtain rfl:=Option.some.inj H;obtain ⟨p101,q101,ad101,e101,hx101_0⟩:=zp (Kd.at_int HR0.out x10_1)
      cases e101
      replace p101:=eq_true p101;replace q101:=eq_true q101
      go_wp2
      go_ret
      exact ⟨by first|rfl|(simp;done)|(simp [*];done),by repeat (first|exact Drawn0.refl _|apply Drawn0.step)⟩
     ·rcases if0 H with ⟨c7,H⟩|⟨c7,H⟩
      ·have c7b0:decide (24≤(rd l0 x10_1))=true:=decide_eq_true c7;clear c7;obtain rfl:=Option.some.inj H;obtain ⟨p101,q101,ad101,e101,hx101_0⟩:=zp (Kd.at_int HR0.out x10_1)
       cases e101
       replace p101:=eq_true p101;replace q101:=eq_true q101
       go_wp2
       go_ret
       exact ⟨by first|rfl|(simp;done)|(simp [*];done),by repeat (first|exact Drawn0.refl _|apply Drawn0.step)⟩
      ·have c7b0:decide (24≤(rd l0 x10_1))=false:=decide_eq_false c7;clear c7
       rcases if0 H with ⟨c8,H⟩|⟨c8,H⟩
       ·have c8b0:decide (0<x10_1)=true:=decide_eq_true c8;clear c8;obtain ⟨ji9,hji9⟩:=zZ (wrap64 (x10_1 - 1))
        first|rw [hji9] at H|simp only [hji9] at H
        have hji9w:(IntKind.i64.wrap (x10_1 - 1))=ji9:=(i64_w _).trans hji9;obtain ⟨c10b0,H⟩:=ifd1 H;obtain ⟨c11b0,H⟩:=ifd1 H
        rcases if0 H with ⟨c12,H⟩|⟨c12,H⟩
        ·have c12b0:decide ((rd l0 x10_1)≤(rd l0 (ji9)))=true:=decide_eq_true c12;clear c12;obtain rfl:=Option.some.inj H;obtain ⟨p101,q101,ad101,e101,hx101_0⟩:=zp (Kd.at_int HR0.out x10_1)
         cases e101
         replace p101:=eq_true p101;replace q101:=eq_true q101;obtain ⟨p24,q24,ad24,e24,hx24_0⟩:=zp (Kd.at_int HR0.out (ji9))
         obtain rfl:ad101=ad24:=(by injection e24)
         replace p24:=eq_true p24;replace q24:=eq_true q24
         go_wp2
         go_ret
         exact ⟨by first|rfl|(simp;done)|(simp only [← hji9] <;> (first|rfl|simp))|(simp [*];done),by repeat (first|exact Drawn0.refl _|apply Drawn0.step)⟩
        ·have c12b0:decide ((rd l0 x10_1)≤(rd l0 (ji9)))=false:=decide_eq_false c12;clear c12;have H':=zA H;clear H;obtain ⟨p101,q101,ad101,e101,hx101_0⟩:=zp (Kd.at_int HR0.out x10_1)
         cases e101
         replace p101:=eq_true p101;replace q101:=eq_true q101;obtain ⟨p24,q24,ad24,e24,hx24_0⟩:=zp (Kd.at_int HR0.out (ji9))
         obtain rfl:ad101=ad24:=(by injection e24)
         replace p24:=eq_true p24;replace q24:=eq_true q24
         go_wp2
         go_roundg k1
         case measure=>have:=HK1.out;omega
         case rel=>exact ⟨(wrap64 (x10_1+1)),zT,H',⟨by have:=HK1.out;omega⟩,by repeat (first|exact Drawn0.refl _|apply Drawn0.step)⟩
       ·have c8b0:decide (0<x10_1)=false:=decide_eq_false c8;clear c8;have H':=zA H;clear H;obtain ⟨p101,q101,ad101,e101,hx101_0⟩:=zp (Kd.at_int HR0.out x10_1)
        cases e101
        replace p101:=eq_true p101;replace q101:=eq_true q101
        go_wp2
        go_roundg k1
        case measure=>have:=HK1.out;omega
        case rel=>exact ⟨(wrap64 (x10_1+1)),zT,H',⟨by have:=HK1.out;omega⟩,by repeat (first|exact Drawn0.refl _|apply Drawn0.step)⟩
    ·obtain rfl:=Option.some.inj H
     go_wp2
     go_ret
     exact ⟨by first|rfl|(simp;done)|(simp [*];done),by repeat (first|exact Drawn0.refl _|apply Drawn0.step)⟩
def table_Valid.l0:Nat→List Int→Int→Int→List Int→List Int→Option (Int)
 | 0,_,_,_,_,_=>none
 | k+1,x13,x14,x15,x33,x29=>if x15<x14 then (if 0≤x15 then (if x15<(x13.length:Int) then (if (rd x13 x15)<0 then (some 6) else (if (rd x13 x15)≥(shl .i64 1 (x33.length:Int)) then (some 6) else (if x15>0 then (if 0≤(wrap64 (x15 - 1)) then (if (wrap64 (x15 - 1))<(x29.length:Int) then (if (rd x29 (wrap64 (x15 - 1)))≥(rd x13 x15) then (some 18) else (table_Valid.l0 k x13 x14 (wrap64 (x15+1)) x33 x29)) else (none)) else (none)) else (table_Valid.l0 k x13 x14 (wrap64 (x15+1)) x33 x29)))) else (none)) else (none)) else (some 0)
def table_Valid.f (k:Nat) (l0_0:List Int) (l0_1:List Int):Option (Int):=(table_ascending.f k l0_0).bind fun t104=>(if t104=0 then (table_Valid.l0 k l0_1 (l0_1.length:Int) 0 l0_0 l0_1) else (some t104))
set_option maxHeartbeats 8000000 in
set_option maxRecDepth 100000 in
theorem table_Valid.calls (k:Nat) (A0_0:Option Addr) (c0_0:Nat) (l0_0:List Int) (A0_1:Option Addr) (c0_1:Nat) (l0_1:List Int) (r:Int) (w:World) (hr0_0:Kd.C (Kd.int .i64) w A0_0 l0_0.length l0_0) (hc0_0:l0_0.length≤c0_0) (hr0_1:Kd.C (Kd.int .i64) w A0_1 l0_1.length l0_1) (hc0_1:l0_1.length≤c0_1) (h:table_Valid.f k l0_0 l0_1=some r) :
  Calls Tryz.prog 66 #[.agg #[.slice A0_0 l0_0.length c0_0,.slice A0_1 l0_1.length c0_1]] w fun e w'=>e=.returned (.int .i64 r)∧Below w.heap.size w w':=by
 have HR0_0:=zA hr0_0;have HC0_0:=zA hc0_0;clear hr0_0 hc0_0;have HR0_1:=zA hr0_1;have HC0_1:=zA hc0_1;clear hr0_1 hc0_1;have HB:=zA (Below.refl w.heap.size w);have H:((table_ascending.f k l0_0).bind fun t104=>(if t104=0 then (table_Valid.l0 k l0_1 (l0_1.length:Int) 0 l0_0 l0_1) else (some t104)))=some r:=h;clear h;obtain ⟨t104,A2,H⟩:=zo H;have HC3:=zA H;clear H
 go_enter Tryz.func66,Tryz.ntmps66
 go_upto_if 10 with (first|((with_reducible refine gd 1 rfl ?_);(try (refine gate_guard (by rfl) ?_;dsimp only));refine zx #[.slice A0_0 l0_0.length c0_0,.slice A0_1 l0_1.length c0_1] 63 ?_;intro gb103 hg w4 BK103 hb GW103 HB1;have GE103:=GW103;clear HB hb hg;have HB:=HB1;clear HB1;have hcz5_0:=zc0 BK103;have hcz5_1:=zc1 BK103;have hfz5_0:=zf BK103)|((with_reducible refine gate_callee (f:=97) rfl ?_);refine zgo 8 Tryz.func97 #[.slice A0_0 l0_0.length c0_0] ?_;(with_reducible refine (table_ascending.calls k _ _ l0_0 t104 _ (zD HR0_0 HB) HC0_0.out A2.out).mono ?_);rintro e w' ⟨rfl,⟨nd,rfl⟩⟩;refine ⟨_,rfl,?_⟩))
 (try simp only [Act.put,zi,zs,zt]);have H:=HC3.out;clear HC3
 rcases ife H with ⟨c6b0,c6b1,H⟩|⟨c6,c6b0,c6b1,H⟩
 ·(first|rw [c6b0]|(simp only [i64_w,i32_w];rw [c6b0])|skip)
  (try rw [c6b1]);have H':=zA H;clear H;have hcz7_0:=zc0 BK103;have hcz7_1:=zc1 BK103;have hfz7_0:=zf BK103
  go_wp2
  go_loopg [15] k (fun kq v15 w'=>∃ (x15_1:Int),v15=.int .i64 x15_1∧Aside0 (table_Valid.l0 kq l0_1 (l0_1.length:Int) x15_1 l0_0 l0_1=some r)∧Aside0 (kq≤k)∧Aside0 (w'.heap[gb103]?=some (.cells #[(.slice A0_0 l0_0.length c0_0),(.slice A0_1 l0_1.length c0_1)] 63 (0,0)))∧Aside0 (Below w.heap.size w w'))
  case atStart=>exact ⟨(0),zT,H',⟨Nat.le_refl _⟩,⟨by refine zj ?_;exact BK103.out⟩,⟨zv1 HB GE103⟩⟩
  case round=>
   clear H'
   try clear c6
   try clear c6b0
   try clear c6b1
   try clear hcz5_0
   try clear hcz5_1
   try clear hcz7_0
   try clear hcz7_1
   try clear hfz5_0
   try clear hfz5_1
   try clear hfz7_0
   try clear hfz7_1
   obtain ⟨x15_1,rfl,HA,HK1,BK103,HB⟩:=hrel
   cases gk with
   | zero=>exact absurd HA.out (by simp [table_Valid.l0])
   | succ k1=>
    have H:=HA.out;clear HA;simp only [table_Valid.l0] at H
    rcases ifd H with ⟨c8b0,H⟩|⟨c8b0,H⟩
    ·obtain ⟨c9b0,H⟩:=ifd1 H;obtain ⟨c10b0,H⟩:=ifd1 H
     rcases ifd H with ⟨c11b0,H⟩|⟨c11b0,H⟩
     ·obtain rfl:=Option.some.inj H;obtain ⟨p105,q105,ad105,e105,hx105_0⟩:=zp (Kd.at_int HR0_1.out x15_1)
      cases e105
      replace hx105_0:=zd HB hx105_0;replace p105:=eq_true p105;replace q105:=eq_true q105
      go_wp2
      go_ret
      exact ⟨ze,zv1 HB GE103⟩
     ·obtain ⟨ji12,hji12⟩:=zZ (shl .i64 1 (l0_0.length:Int))
      first|rw [hji12] at H|simp only [hji12] at H
      have hji12_:(IntKind.i64.wrap (1 * 2 ^ min (l0_0.length:Int).toNat 64))=ji12:=hji12;have hji12z:(l0_0.length:Int)≤64→(IntKind.i64.wrap (1 * 2 ^ (l0_0.length:Int).toNat))=ji12:=shl_small hji12;have hji12p:(IntKind.i64.wrap (1 * 2 ^ min l0_0.length 64))=ji12:=hji12_;have hji12q:(l0_0.length:Int)≤64→(IntKind.i64.wrap (1 * 2 ^ l0_0.length))=ji12:=hji12z
      have hji12r:(IntKind.i64.wrap (2 ^ min l0_0.length 64))=ji12:=by have h_:=hji12p;rw [Int.one_mul] at h_;exact h_
      have hji12s:(l0_0.length:Int)≤64→(IntKind.i64.wrap (2 ^ l0_0.length))=ji12:=fun hle_=>by have h_:=hji12q hle_;rw [Int.one_mul] at h_;exact h_
      have hji12u:(IntKind.i64.wrap (2 ^ min (l0_0.length:Int).toNat 64))=ji12:=by have h_:=hji12_;rw [Int.one_mul] at h_;exact h_
      have hji12v:(l0_0.length:Int)≤64→(IntKind.i64.wrap (2 ^ (l0_0.length:Int).toNat))=ji12:=fun hle_=>by have h_:=hji12z hle_;rw [Int.one_mul] at h_;exact h_
      have hji12y:(wrap64 (1 * 2 ^ min (l0_0.length:Int).toNat 64))=ji12:=(i64_w _).symm.trans hji12_
      have hji12x:(l0_0.length:Int)≤64→(wrap64 (1 * 2 ^ (l0_0.length:Int).toNat))=ji12:=fun h_=>(i64_w _).symm.trans (hji12z h_)
      rcases if0 H with ⟨c13,H⟩|⟨c13,H⟩
      ·have c13b0:decide ((ji12)≤(rd l0_1 x15_1))=true:=decide_eq_true c13;clear c13;obtain rfl:=Option.some.inj H;obtain ⟨p105,q105,ad105,e105,hx105_0⟩:=zp (Kd.at_int HR0_1.out x15_1)
       cases e105
       replace hx105_0:=zd HB hx105_0;replace p105:=eq_true p105;replace q105:=eq_true q105;have hcz14_0:=zc0 BK103;have hcz14_1:=zc1 BK103;have hfz14_0:=zf BK103
       go_wp2
       go_ret
       exact ⟨by first|rfl|(simp [errW_none,errW_some] <;> rfl)|(simp only [← hji12];first|rfl|(simp [errW_none,errW_some] <;> rfl))|(simp [*,errW_none,errW_some] <;> rfl),zv1 HB GE103⟩
      ·have c13b0:decide ((ji12)≤(rd l0_1 x15_1))=false:=decide_eq_false c13;clear c13
       rcases if0 H with ⟨c15,H⟩|⟨c15,H⟩
       ·have c15b0:decide (0<x15_1)=true:=decide_eq_true c15;clear c15;obtain ⟨ji16,hji16⟩:=zZ (wrap64 (x15_1 - 1))
        first|rw [hji16] at H|simp only [hji16] at H
        have hji16w:(IntKind.i64.wrap (x15_1 - 1))=ji16:=(i64_w _).trans hji16;obtain ⟨c17b0,H⟩:=ifd1 H;obtain ⟨c18b0,H⟩:=ifd1 H
        rcases if0 H with ⟨c19,H⟩|⟨c19,H⟩
        ·have c19b0:decide ((rd l0_1 x15_1)≤(rd l0_1 (ji16)))=true:=decide_eq_true c19;clear c19;obtain rfl:=Option.some.inj H;obtain ⟨p105,q105,ad105,e105,hx105_0⟩:=zp (Kd.at_int HR0_1.out x15_1)
         cases e105
         replace hx105_0:=zd HB hx105_0;replace p105:=eq_true p105;replace q105:=eq_true q105;have hcz20_0:=zc0 BK103;have hcz20_1:=zc1 BK103;have hfz20_0:=zf BK103;obtain ⟨p106,q106,ad106,e106,hx106_0⟩:=zp (Kd.at_int HR0_1.out (ji16))
         obtain rfl:ad105=ad106:=(by injection e106)
         replace hx106_0:=zd HB hx106_0;replace p106:=eq_true p106;replace q106:=eq_true q106
         go_wp2
         go_ret
         exact ⟨by first|rfl|(simp [errW_none,errW_some] <;> rfl)|(simp only [← hji12,← hji16];first|rfl|(simp [errW_none,errW_some] <;> rfl))|(simp [*,errW_none,errW_some] <;> rfl),zv1 HB GE103⟩
        ·have c19b0:decide ((rd l0_1 x15_1)≤(rd l0_1 (ji16)))=false:=decide_eq_false c19;clear c19;have H':=zA H;clear H;obtain ⟨p105,q105,ad105,e105,hx105_0⟩:=zp (Kd.at_int HR0_1.out x15_1)
         cases e105
         replace hx105_0:=zd HB hx105_0;replace p105:=eq_true p105;replace q105:=eq_true q105;have hcz21_0:=zc0 BK103;have hcz21_1:=zc1 BK103;have hfz21_0:=zf BK103;obtain ⟨p106,q106,ad106,e106,hx106_0⟩:=zp (Kd.at_int HR0_1.out (ji16))
         obtain rfl:ad105=ad106:=(by injection e106)
         replace hx106_0:=zd HB hx106_0;replace p106:=eq_true p106;replace q106:=eq_true q106
         go_wp2
         go_roundg k1
         case measure=>have:=HK1.out;omega
         case rel=>exact ⟨(wrap64 (x15_1+1)),zT,H',⟨by have:=HK1.out;omega⟩,⟨by refine zj ?_;exact BK103.out⟩,⟨zv1 HB GE103⟩⟩
       ·have c15b0:decide (0<x15_1)=false:=decide_eq_false c15;clear c15;have H':=zA H;clear H;obtain ⟨p105,q105,ad105,e105,hx105_0⟩:=zp (Kd.at_int HR0_1.out x15_1)
        cases e105
        replace hx105_0:=zd HB hx105_0;replace p105:=eq_true p105;replace q105:=eq_true q105;have hcz22_0:=zc0 BK103;have hcz22_1:=zc1 BK103;have hfz22_0:=zf BK103
        go_wp2
        go_roundg k1
        case measure=>have:=HK1.out;omega
        case rel=>exact ⟨(wrap64 (x15_1+1)),zT,H',⟨by have:=HK1.out;omega⟩,⟨by refine zj ?_;exact BK103.out⟩,⟨zv1 HB GE103⟩⟩
    ·obtain rfl:=Option.some.inj H
     go_wp2
     go_ret
     exact ⟨ze,zv1 HB GE103⟩
 ·(first|rw [c6b0]|(simp only [i64_w,i32_w];rw [c6b0])|skip)
  (try rw [c6b1]);obtain rfl:=Option.some.inj H
  go_wp2
  go_ret
  exact ⟨ze,zv1 HB GE103⟩
def shared_given.l0:Nat→List (S63)→List (S63)→Int→Int→Option (Int)
 | 0,_,_,_,_=>none
 | k+1,x0,x9,x10,x11=>if x11<x10 then (if 0≤x11 then (if x11<(x9.length:Int) then ((table_Valid.f k ((rd_T63 x9 x11).f0) ((rd_T63 x9 x11).f1)).bind fun t109=>(if t109=0 then (shared_given.l0 k x0 x9 x10 (wrap64 (x11+1))) else (some t109))) else (none)) else (none)) else (if (x0.length:Int)>15 then (some 3) else (some 0))
def shared_given.f (k:Nat) (l0:List (S63)):Option (Int):=if (l0.length:Int)>16 then (some 3) else (shared_given.l0 k l0 l0 (l0.length:Int) 0)
set_option maxHeartbeats 8000000 in
set_option maxRecDepth 100000 in
theorem shared_given.calls (k:Nat) (A0:Option Addr) (c0:Nat) (l0:List (S63)) (r:Int) (w:World) (hr0:Kd.C k63 w A0 l0.length l0) (hc0:l0.length≤c0) (h:shared_given.f k l0=some r) :
  Calls Tryz.prog 43 #[.slice A0 l0.length c0] w fun e w'=>e=.returned (.int .i64 r)∧Below w.heap.size w w':=by
 have HR0:=zA hr0;have HC0:=zA hc0;clear hr0 hc0;have HB:=zA (Below.refl w.heap.size w);have H:(if (l0.length:Int)>16 then (some 3) else (shared_given.l0 k l0 l0 (l0.length:Int) 0))=some r:=h;clear h
 rcases if0 H with ⟨c2,H⟩|⟨c2,H⟩
 ·have c2b0:decide (16<(l0.length:Int))=true:=decide_eq_true c2;have c2b1:decide (16<l0.length)=true:=decide_eq_true (by omega);clear c2;obtain rfl:=Option.some.inj H
  go_enter Tryz.func43,Tryz.ntmps43
  go_wp2
  go_ret
  exact ⟨ze,zv0 HB⟩
 ·have c2b0:decide (16<(l0.length:Int))=false:=decide_eq_false c2;have c2b1:decide (16<l0.length)=false:=decide_eq_false (by omega);clear c2;have H':=zA H;clear H
  go_enter Tryz.func43,Tryz.ntmps43
  go_wp2
  go_loopg [11] k (fun kq v11 w'=>∃ (x11_1:Int),v11=.int .i64 x11_1∧Aside0 (shared_given.l0 kq l0 l0 (l0.length:Int) x11_1=some r)∧Aside0 (kq≤k)∧Aside0 (Below w.heap.size w w'))
  case atStart=>exact ⟨(0),zT,H',⟨Nat.le_refl _⟩,⟨zv0 HB⟩⟩
  case round=>
   clear H'
   try clear c2
   try clear c2b0
   try clear c2b1
   obtain ⟨x11_1,rfl,HA,HK1,HB⟩:=hrel
   cases gk with
   | zero=>exact absurd HA.out (by simp [shared_given.l0])
   | succ k1=>
    have H:=HA.out;clear HA;simp only [shared_given.l0] at H
    rcases ifd H with ⟨c3b0,H⟩|⟨c3b0,H⟩
    ·obtain ⟨c4b0,H⟩:=ifd1 H;obtain ⟨c5b0,H⟩:=ifd1 H;obtain ⟨t109,A6,H⟩:=zo H;have HC7:=zA H;clear H;obtain ⟨p107,q107,ad107,A107_0,c107_0,A107_1,c107_1,e107,hx107_0,hx107_1,hl107_0,hi107_0,hl107_1,hi107_1⟩:=zp (at_T63 HR0.out x11_1)
     cases e107
     replace hx107_0:=zd HB hx107_0;replace hx107_1:=zd HB hx107_1;have HR107_0:=zA hi107_0;have HC107_0:=zA hl107_0;clear hi107_0 hl107_0;have HR107_1:=zA hi107_1;have HC107_1:=zA hl107_1;clear hi107_1 hl107_1;replace p107:=eq_true p107;replace q107:=eq_true q107
     go_upto_if 18 with (first|((with_reducible refine gd 4 rfl ?_);refine zx #[.slice none 0 0,.slice none 0 0] 63 ?_;intro gb108 hg w8 BK108 hb GW108 HB1;have GE108:=GW108;clear HB hb hg;have HB:=HB1;clear HB1;have hcz9_0:=zc0 BK108;have hcz9_1:=zc1 BK108;have hfz9_0:=zf BK108)|((with_reducible refine gate_callee (f:=66) rfl ?_);refine zgo 16 Tryz.func66 #[.agg #[.slice A107_0 ((rd_T63 l0 x11_1).f0).length c107_0,.slice A107_1 ((rd_T63 l0 x11_1).f1).length c107_1]] ?_;(with_reducible refine (table_Valid.calls k1 _ _ ((rd_T63 l0 x11_1).f0) _ _ ((rd_T63 l0 x11_1).f1) t109 _ ?side1 HC107_0.out ?side3 HC107_1.out A6.out).mono ?_);(case side1=>exact Kd.C_below HR107_0.out zB);(case side3=>exact Kd.C_below HR107_1.out zB);rintro e w10 ⟨rfl,hb⟩;refine ⟨_,rfl,?_⟩;replace BK108:=zA (blk_below (g:=gb108) (o:=.cells #[.slice A107_0 ((rd_T63 l0 x11_1).f0).length c107_0,.slice A107_1 ((rd_T63 l0 x11_1).f1).length c107_1] 63 (0,0)) (by refine zj ?_;refine blk_put (cs:=#[.slice A107_0 ((rd_T63 l0 x11_1).f0).length c107_0,.slice none 0 0]) ?_ 1 _ rfl;refine zj ?_;refine blk_put (cs:=#[.slice none 0 0,.slice none 0 0]) ?_ 0 _ rfl;refine zj ?_;exact BK108.out) hb);replace HB:=zu hb;clear hb))
     (try simp only [Act.put,zi,zs,zt]);have H:=HC7.out;clear HC7
     rcases ife H with ⟨c11b0,c11b1,H⟩|⟨c11,c11b0,c11b1,H⟩
     ·(first|rw [c11b0]|(simp only [i64_w,i32_w];rw [c11b0])|skip)
      (try rw [c11b1]);have H':=zA H;clear H
      go_wp2
      go_roundg k1
      case measure=>have:=HK1.out;omega
      case rel=>exact ⟨(wrap64 (x11_1+1)),zT,H',⟨by have:=HK1.out;omega⟩,⟨zv1 HB GE108⟩⟩
     ·(first|rw [c11b0]|(simp only [i64_w,i32_w];rw [c11b0])|skip)
      (try rw [c11b1]);obtain rfl:=Option.some.inj H
      go_wp2
      go_ret
      exact ⟨ze,zv1 HB GE108⟩
    ·rcases if0 H with ⟨c12,H⟩|⟨c12,H⟩
     ·have c12b0:decide (15<(l0.length:Int))=true:=decide_eq_true c12;have c12b1:decide (15<l0.length)=true:=decide_eq_true (by omega);clear c12;obtain rfl:=Option.some.inj H
      go_wp2
      go_ret
      exact ⟨ze,zv0 HB⟩
     ·have c12b0:decide (15<(l0.length:Int))=false:=decide_eq_false c12;have c12b1:decide (15<l0.length)=false:=decide_eq_false (by omega);clear c12;obtain rfl:=Option.some.inj H
      go_wp2
      go_ret
      exact ⟨ze,zv0 HB⟩
def solve_valid.l0:Nat→List (S63)→Int→Int→Option (Int)
 | 0,_,_,_=>none
 | k+1,x9,x10,x11=>if x11<x10 then (if 0≤x11 then (if x11<(x9.length:Int) then ((table_Valid.f k ((rd_T63 x9 x11).f0) ((rd_T63 x9 x11).f1)).bind fun t112=>(if t112=0 then (solve_valid.l0 k x9 x10 (wrap64 (x11+1))) else (some t112))) else (none)) else (none)) else (some 0)
def solve_valid.f (k:Nat) (l0:List (S63)):Option (Int):=if (l0.length:Int)>16 then (some 3) else (solve_valid.l0 k l0 (l0.length:Int) 0)
set_option maxHeartbeats 8000000 in
set_option maxRecDepth 100000 in
theorem solve_valid.calls (k:Nat) (A0:Option Addr) (c0:Nat) (l0:List (S63)) (r:Int) (w:World) (hr0:Kd.C k63 w A0 l0.length l0) (hc0:l0.length≤c0) (h:solve_valid.f k l0=some r) :
  Calls Tryz.prog 69 #[.slice A0 l0.length c0] w fun e w'=>e=.returned (.int .i64 r)∧Below w.heap.size w w':=by
 have HR0:=zA hr0;have HC0:=zA hc0;clear hr0 hc0;have HB:=zA (Below.refl w.heap.size w);have H:(if (l0.length:Int)>16 then (some 3) else (solve_valid.l0 k l0 (l0.length:Int) 0))=some r:=h;clear h
 rcases if0 H with ⟨c2,H⟩|⟨c2,H⟩
 ·have c2b0:decide (16<(l0.length:Int))=true:=decide_eq_true c2;have c2b1:decide (16<l0.length)=true:=decide_eq_true (by omega);clear c2;obtain rfl:=Option.some.inj H
  go_enter Tryz.func69,Tryz.ntmps69
  go_wp2
  go_ret
  exact ⟨ze,zv0 HB⟩
 ·have c2b0:decide (16<(l0.length:Int))=false:=decide_eq_false c2;have c2b1:decide (16<l0.length)=false:=decide_eq_false (by omega);clear c2;have H':=zA H;clear H
  go_enter Tryz.func69,Tryz.ntmps69
  go_wp2
  go_loopg [11] k (fun kq v11 w'=>∃ (x11_1:Int),v11=.int .i64 x11_1∧Aside0 (solve_valid.l0 kq l0 (l0.length:Int) x11_1=some r)∧Aside0 (kq≤k)∧Aside0 (Below w.heap.size w w'))
  case atStart=>exact ⟨(0),zT,H',⟨Nat.le_refl _⟩,⟨zv0 HB⟩⟩
  case round=>
   clear H'
   try clear c2
   try clear c2b0
   try clear c2b1
   obtain ⟨x11_1,rfl,HA,HK1,HB⟩:=hrel
   cases gk with
   | zero=>exact absurd HA.out (by simp [solve_valid.l0])
   | succ k1=>
    have H:=HA.out;clear HA;simp only [solve_valid.l0] at H
    rcases ifd H with ⟨c3b0,H⟩|⟨c3b0,H⟩
    ·obtain ⟨c4b0,H⟩:=ifd1 H;obtain ⟨c5b0,H⟩:=ifd1 H;obtain ⟨t112,A6,H⟩:=zo H;have HC7:=zA H;clear H;obtain ⟨p110,q110,ad110,A110_0,c110_0,A110_1,c110_1,e110,hx110_0,hx110_1,hl110_0,hi110_0,hl110_1,hi110_1⟩:=zp (at_T63 HR0.out x11_1)
     cases e110
     replace hx110_0:=zd HB hx110_0;replace hx110_1:=zd HB hx110_1;have HR110_0:=zA hi110_0;have HC110_0:=zA hl110_0;clear hi110_0 hl110_0;have HR110_1:=zA hi110_1;have HC110_1:=zA hl110_1;clear hi110_1 hl110_1;replace p110:=eq_true p110;replace q110:=eq_true q110
     go_upto_if 18 with (first|((with_reducible refine gd 4 rfl ?_);refine zx #[.slice none 0 0,.slice none 0 0] 63 ?_;intro gb111 hg w8 BK111 hb GW111 HB1;have GE111:=GW111;clear HB hb hg;have HB:=HB1;clear HB1;have hcz9_0:=zc0 BK111;have hcz9_1:=zc1 BK111;have hfz9_0:=zf BK111)|((with_reducible refine gate_callee (f:=66) rfl ?_);refine zgo 16 Tryz.func66 #[.agg #[.slice A110_0 ((rd_T63 l0 x11_1).f0).length c110_0,.slice A110_1 ((rd_T63 l0 x11_1).f1).length c110_1]] ?_;(with_reducible refine (table_Valid.calls k1 _ _ ((rd_T63 l0 x11_1).f0) _ _ ((rd_T63 l0 x11_1).f1) t112 _ ?side1 HC110_0.out ?side3 HC110_1.out A6.out).mono ?_);(case side1=>exact Kd.C_below HR110_0.out zB);(case side3=>exact Kd.C_below HR110_1.out zB);rintro e w10 ⟨rfl,hb⟩;refine ⟨_,rfl,?_⟩;replace BK111:=zA (blk_below (g:=gb111) (o:=.cells #[.slice A110_0 ((rd_T63 l0 x11_1).f0).length c110_0,.slice A110_1 ((rd_T63 l0 x11_1).f1).length c110_1] 63 (0,0)) (by refine zj ?_;refine blk_put (cs:=#[.slice A110_0 ((rd_T63 l0 x11_1).f0).length c110_0,.slice none 0 0]) ?_ 1 _ rfl;refine zj ?_;refine blk_put (cs:=#[.slice none 0 0,.slice none 0 0]) ?_ 0 _ rfl;refine zj ?_;exact BK111.out) hb);replace HB:=zu hb;clear hb))
     (try simp only [Act.put,zi,zs,zt]);have H:=HC7.out;clear HC7
     rcases ife H with ⟨c11b0,c11b1,H⟩|⟨c11,c11b0,c11b1,H⟩
     ·(first|rw [c11b0]|(simp only [i64_w,i32_w];rw [c11b0])|skip)
      (try rw [c11b1]);have H':=zA H;clear H
      go_wp2
      go_roundg k1
      case measure=>have:=HK1.out;omega
      case rel=>exact ⟨(wrap64 (x11_1+1)),zT,H',⟨by have:=HK1.out;omega⟩,⟨zv1 HB GE111⟩⟩
     ·(first|rw [c11b0]|(simp only [i64_w,i32_w];rw [c11b0])|skip)
      (try rw [c11b1]);obtain rfl:=Option.some.inj H
      go_wp2
      go_ret
      exact ⟨ze,zv1 HB GE111⟩
    ·obtain rfl:=Option.some.inj H
     go_wp2
     go_ret
     exact ⟨ze,zv0 HB⟩
def cmp_isNaN_int.f (a0:Int):Option (Bool):=some (a0 != a0)
set_option maxHeartbeats 8000000 in
set_option maxRecDepth 100000 in
theorem cmp_isNaN_int.calls (a0:Int) (r:Bool) (w:World) (h:cmp_isNaN_int.f a0=some r) :
  Calls Tryz.prog 142 #[.int .i64 a0] w fun e w'=>e=.returned (.bool r)∧Drawn0 w w':=by
 have H:(some (a0 != a0))=some r:=h;clear h;obtain rfl:=Option.some.inj H
 go_enter Tryz.func142,Tryz.ntmps142
 go_wp2
 go_ret
 exact ⟨by first|rfl|(simp;done)|(simp [*];done),by repeat (first|exact Drawn0.refl _|apply Drawn0.step)⟩
def cmp_Less_int.f (a0:Int) (a1:Int):Option (Bool):=(cmp_isNaN_int.f a0).bind fun t113=>(if t113=true then ((cmp_isNaN_int.f a1).bind fun t34=>(if t34=true then (some (decide (a0<a1))) else (some true))) else (some (decide (a0<a1))))
set_option maxHeartbeats 8000000 in
set_option maxRecDepth 100000 in
theorem cmp_Less_int.calls (a0:Int) (a1:Int) (r:Bool) (w:World) (h:cmp_Less_int.f a0 a1=some r) :
  Calls Tryz.prog 126 #[.int .i64 a0,.int .i64 a1] w fun e w'=>e=.returned (.bool r)∧Drawn0 w w':=by
 have H:((cmp_isNaN_int.f a0).bind fun t113=>(if t113=true then ((cmp_isNaN_int.f a1).bind fun t34=>(if t34=true then (some (decide (a0<a1))) else (some true))) else (some (decide (a0<a1)))))=some r:=h;clear h;obtain ⟨t113,A3,H⟩:=zo H
 by_cases c4:t113=true
 ·subst c4
  have H1:((cmp_isNaN_int.f a1).bind fun t34=>(if t34=true then (some (decide (a0<a1))) else (some true)))=some r:=by rw [if_pos rfl] at H;exact H
  clear H;have H:=H1;clear H1;obtain ⟨t34,A5,H⟩:=zo H
  by_cases c6:t34=true
  ·subst c6
   have H1:(some (decide (a0<a1)))=some r:=by rw [if_pos rfl] at H;exact H
   clear H;have H:=H1;clear H1;obtain rfl:=Option.some.inj H
   go_enter Tryz.func126,Tryz.ntmps126
   go_wp2_with (first|((with_reducible refine gate_callee (f:=142) rfl ?_);refine zgo 6 Tryz.func142 #[.int .i64 a0] ?_;(with_reducible refine (cmp_isNaN_int.calls a0 true _ A3.out).mono ?_);rintro e w' ⟨rfl,⟨nd,rfl⟩⟩;refine ⟨_,rfl,?_⟩)|(go_at_call 142;(with_reducible refine (cmp_isNaN_int.calls a1 true _ A5.out).mono ?_);rintro e w' ⟨rfl,⟨nd,rfl⟩⟩))
   go_ret
   exact ⟨by first|rfl|(simp;done)|(simp [*];done),by repeat (first|exact Drawn0.refl _|apply Drawn0.step)⟩
  ·replace c6:=Bool.eq_false_iff.mpr c6;subst c6
   have H1:(some true)=some r:=by rw [if_neg (show ¬ (false=true) by decide)] at H;exact H
   clear H;have H:=H1;clear H1;obtain rfl:=Option.some.inj H
   go_enter Tryz.func126,Tryz.ntmps126
   go_wp2_with (first|((with_reducible refine gate_callee (f:=142) rfl ?_);refine zgo 6 Tryz.func142 #[.int .i64 a0] ?_;(with_reducible refine (cmp_isNaN_int.calls a0 true _ A3.out).mono ?_);rintro e w' ⟨rfl,⟨nd,rfl⟩⟩;refine ⟨_,rfl,?_⟩)|(go_at_call 142;(with_reducible refine (cmp_isNaN_int.calls a1 false _ A5.out).mono ?_);rintro e w' ⟨rfl,⟨nd,rfl⟩⟩))
   go_ret
   exact ⟨by first|rfl|(simp;done)|(simp [*];done),by repeat (first|exact Drawn0.refl _|apply Drawn0.step)⟩
 ·replace c4:=Bool.eq_false_iff.mpr c4;subst c4
  have H1:(some (decide (a0<a1)))=some r:=by rw [if_neg (show ¬ (false=true) by decide)] at H;exact H
  clear H;have H:=H1;clear H1;obtain rfl:=Option.some.inj H
  go_enter Tryz.func126,Tryz.ntmps126
  go_wp2_with (first|((with_reducible refine gate_callee (f:=142) rfl ?_);refine zgo 6 Tryz.func142 #[.int .i64 a0] ?_;(with_reducible refine (cmp_isNaN_int.calls a0 false _ A3.out).mono ?_);rintro e w' ⟨rfl,⟨nd,rfl⟩⟩;refine ⟨_,rfl,?_⟩))
  go_ret
  exact ⟨by first|rfl|(simp;done)|(simp [*];done),by repeat (first|exact Drawn0.refl _|apply Drawn0.step)⟩
section
open Go.Sort Go.Shelf
def slices_Sort_int_int.f (l0:List Int):Option (List Int):=if l0.length<4611686018427387904 then some (l0.mergeSort fun x y=>decide (x≤y)) else none
theorem slices_Sort_int_int.calls (P0_:Nat→Prop) (u31_:Value) (l0:List Int) (r:List Int) (w0 w:World) (hB:Below w0.heap.size w0 w) (ho0:Kd.R (Kd.int .i64) 3 w w0.heap.size P0_ u31_ l0) (h:slices_Sort_int_int.f l0=some r) :
 Calls Tryz.prog 99 #[u31_] w fun e w'=>e=.returned (.tuple #[])∧Kd.R (Kd.int .i64) 3 w' w0.heap.size (fun k_=>(P0_ k_∨w.heap.size≤k_)) u31_ r∧Below w0.heap.size w0 w'∧Kept w w' (fun k_=>P0_ k_):=by
 unfold slices_Sort_int_int.f at h
 by_cases hsz:l0.length<4611686018427387904
 case neg=>rw [if_neg hsz] at h;exact absurd h (by simp)
 rw [if_pos hsz] at h;obtain rfl:=Option.some.inj h;obtain ⟨A,c,rfl⟩:=Kd.R_slice ho0
 rcases A with _|ad
 ·have hl:l0=[]:=by
   rcases l0 with _|⟨x,xs⟩
   ·rfl
   ·have ho:=Kd.own_of_R (enc:=Value.int .i64) (h1:=fun _=>rfl) ho0
    rcases ho.2 with ⟨_,h0⟩|⟨_,_,_,h0,_⟩
    ·simp at h0
    ·simp at h0
  subst hl;refine (Any.slices_Sort_int_none laysSort none c w).mono ?_;rintro e w' ⟨rfl,rfl⟩;exact ⟨rfl,by rw [List.mergeSort_nil];exact Kd.R_mono ho0 (fun k hk=>.inl hk),hB,Kept.refl _ _⟩
 ·have had:∃ g,ad=⟨g,0,none⟩:=by
   have ho:=Kd.own_of_R (enc:=Value.int .i64) (h1:=fun _=>rfl) ho0
   rcases ho.2 with ⟨h0,_⟩|⟨g,_,_,h0,_⟩
   ·simp at h0
   ·injection h0 with h0;injection h0 with h0;exact ⟨g,h0⟩
  obtain ⟨g,rfl⟩:=had;obtain ⟨h1,h2,h3,h4,h5,h6,h7⟩:=int_row ho0;refine (Any.slices_Sort_int laysSort g 0 c l0 w h7 h3 hsz).mono ?_;rintro e w' ⟨rfl,n,os,rfl⟩;have hl:(l0.mergeSort fun x y=>decide (x≤y)).length=l0.length:=List.length_mergeSort l0;have hr:=int_row_put (ok':=fun k_=>(P0_ k_∨w.heap.size≤k_)) ho0 n os hl (Nat.le_refl _) (.inl h1);rw [List.take_of_length_le (by omega)] at hr;exact ⟨rfl,hr,put_below hB h2 n os _,put_kept (ok:=fun k_=>P0_ k_) n os _ h1⟩
end
section
open Go.Sort Go.Shelf
def slices_Compact_int_int.f (l0:List Int):Option (List Int):=some (Lib.compact l0)
theorem slices_Compact_int_int.calls (P0_:Nat→Prop) (u31_:Value) (l0:List Int) (r:List Int) (w0 w:World) (hB:Below w0.heap.size w0 w) (ho0:Kd.R (Kd.int .i64) 3 w w0.heap.size P0_ u31_ l0) (h:slices_Compact_int_int.f l0=some r) :
 Calls Tryz.prog 100 #[u31_] w fun e w'=>∃ v0_:Value,e=.returned (v0_)∧Kd.R (Kd.int .i64) 3 w' w0.heap.size (fun k_=>(P0_ k_∨w.heap.size≤k_)) v0_ r∧Below w0.heap.size w0 w'∧Kept w w' (fun k_=>P0_ k_):=by
 obtain rfl:=Option.some.inj h;obtain ⟨A,c,rfl⟩:=Kd.R_slice ho0
 rcases A with _|ad
 ·have hl:l0=[]:=by
   rcases l0 with _|⟨x,xs⟩
   ·rfl
   ·have ho:=Kd.own_of_R (enc:=Value.int .i64) (h1:=fun _=>rfl) ho0
    rcases ho.2 with ⟨_,h0⟩|⟨_,_,_,h0,_⟩
    ·simp at h0
    ·simp at h0
  subst hl;refine (Any.slices_Compact_int_empty laysCompact none c w).mono ?_;rintro e w' ⟨rfl,rfl⟩;exact ⟨_,rfl,Kd.R_mono ho0 (fun k hk=>.inl hk),hB,Kept.refl _ _⟩
 ·have had:∃ g,ad=⟨g,0,none⟩:=by
   have ho:=Kd.own_of_R (enc:=Value.int .i64) (h1:=fun _=>rfl) ho0
   rcases ho.2 with ⟨h0,_⟩|⟨g,_,_,h0,_⟩
   ·simp at h0
   ·injection h0 with h0;injection h0 with h0;exact ⟨g,h0⟩
  obtain ⟨g,rfl⟩:=had;obtain ⟨h1,h2,h3,h4,h5,h6,h7⟩:=int_row ho0;have hle:=Lib.compact_length_le l0;refine (Any.slices_Compact_int laysCompact g 0 c l0 w h7 (by unfold maxLen at h6;omega) h5).mono ?_;rintro e w' ⟨rfl,q,rfl⟩;have hr:=int_row_put (ok':=fun k_=>(P0_ k_∨w.heap.size≤k_)) (ys:=Lib.compact l0++List.replicate (l0.length - (Lib.compact l0).length) 0) ho0 q #[] (by simp;omega) hle (.inl h1);rw [List.take_left,grow_empty] at hr;have hb:=put_below hB h2 q #[] (Lib.compact l0++List.replicate (l0.length - (Lib.compact l0).length) 0).toArray;have hk:=put_kept (ok:=fun k_=>P0_ k_) (w:=w) q #[] (Lib.compact l0++List.replicate (l0.length - (Lib.compact l0).length) 0).toArray h1;rw [grow_empty] at hb hk;exact ⟨_,rfl,hr,hb,hk⟩
end
def solve_occurring.l0:Nat→List Int→List (S63)→Int→Int→Option (List Int)
 | 0,_,_,_,_=>none
 | k+1,x3,x6,x7,x8=>if x8<x7 then (if 0≤x8 then (if x8<(x6.length:Int) then (if x3.length+((rd_T63 x6 x8).f0).length<17592186044416 then (solve_occurring.l0 k (x3++((rd_T63 x6 x8).f0)) x6 x7 (wrap64 (x8+1))) else (none)) else (none)) else (none)) else ((slices_Sort_int_int.f x3).bind fun t38=>((slices_Compact_int_int.f t38).bind fun t42=>(some t42)))
def solve_occurring.f (k:Nat) (l0:List (S63)):Option (List Int):=solve_occurring.l0 k ([]:List Int) l0 (l0.length:Int) 0
set_option maxHeartbeats 8000000 in
set_option maxRecDepth 100000 in
theorem solve_occurring.calls (k:Nat) (A0:Option Addr) (c0:Nat) (l0:List (S63)) (r:List Int) (w:World) (hr0:Kd.C k63 w A0 l0.length l0) (hc0:l0.length≤c0) (h:solve_occurring.f k l0=some r) :
  Calls Tryz.prog 70 #[.slice A0 l0.length c0] w fun e w'=>∃ v0_:Value,e=.returned (v0_)∧Kd.R (Kd.int .i64) 3 w' w.heap.size (fun _=>True) v0_ r∧Below w.heap.size w w':=by
 have HR0:=zA hr0;have HC0:=zA hc0;clear hr0 hc0;have HB:=zA (Below.refl w.heap.size w);have H:(solve_occurring.l0 k ([]:List Int) l0 (l0.length:Int) 0)=some r:=h;clear h;have H':=zA H;clear H
 go_enter Tryz.func70,Tryz.ntmps70
 go_wp2
 go_loopg [3,8] k (fun kq v3 v8 w'=>∃ (x3_1:List Int) (x8_1:Int),v8=.int .i64 x8_1∧Aside0 (solve_occurring.l0 kq x3_1 l0 (l0.length:Int) x8_1=some r)∧Aside0 (kq≤k)∧Aside0 (Kd.R (Kd.int .i64) 3 w' w.heap.size (fun _=>True) v3 x3_1)∧Aside0 (Below w.heap.size w w'))
 case atStart=>exact ⟨(([]:List Int)),(0),zT,H',⟨Nat.le_refl _⟩,⟨by first|exact Kd.R_nil _ _ _ _ _|exact Kd.N_nil _ _ _ _ _|exact Kd.V_nil _ _ _ _ _|exact Kd.Q_nil _ _ _ _ _|exact Kd.S_nil _ _ _ _ _⟩,⟨zv0 HB⟩⟩
 case round=>
  clear H';obtain ⟨x3_1,x8_1,rfl,HA,HK1,HO_3,HB⟩:=hrel
  cases gk with
  | zero=>exact absurd HA.out (by simp [solve_occurring.l0])
  | succ k1=>
   have H:=HA.out;clear HA;simp only [solve_occurring.l0] at H
   rcases ifd H with ⟨c2b0,H⟩|⟨c2b0,H⟩
   ·obtain ⟨c3b0,H⟩:=ifd1 H;obtain ⟨c4b0,H⟩:=ifd1 H;obtain ⟨c5,H⟩:=if1 H;have LMc5:=zA c5;clear c5
    first|(replace H:=zyb (x3_1++((rd_T63 l0 x8_1).f0)) H;obtain ⟨y30,Ny30,H⟩:=H)|(obtain ⟨y30,hy30⟩:=zY (x3_1++((rd_T63 l0 x8_1).f0));(try rw (occs:=.pos [1]) [← hy30] at H);have Ny30:=zA hy30;clear hy30)
    have H':=zA H;clear H;obtain ⟨p23,q23,ad23,A23_0,c23_0,A23_1,c23_1,e23,hx23_0,hx23_1,hl23_0,hi23_0,hl23_1,hi23_1⟩:=zp (at_T63 HR0.out x8_1)
    cases e23
    replace hx23_0:=zd HB hx23_0;replace hx23_1:=zd HB hx23_1;have HR23_0:=zA hi23_0;have HC23_0:=zA hl23_0;clear hi23_0 hl23_0;have HR23_1:=zA hi23_1;have HC23_1:=zA hl23_1;clear hi23_1 hl23_1;replace p23:=eq_true p23;replace q23:=eq_true q23
    go_wp2_with (first|((with_reducible refine gd 5 rfl ?_);refine zx #[.slice none 0 0,.slice none 0 0] 63 ?_;intro gb25 hg w6 BK25 hb GW25 HB1;have GE25:=GW25;replace HO_3:=zA (Kd.R_below (zR HO_3) hb);clear HB hb hg;have HB:=HB1;clear HB1;have hcz7_0:=zc0 BK25;have hcz7_1:=zc1 BK25;have hfz7_0:=zf BK25)|((with_reducible refine gate_builtin (b:=.append) (xs:=#[.tmp 12,.tmp 14]) rfl ?_);at_builtin;refine Kd.R_append_rows (Kd.int .i64) (w0:=w) w.heap.size rfl (.tmp 12) (.tmp 14) 43 3 (.int .i64 0) 8 rfl Tryz.underlying43 info3 rfl (by decide) (by omega) u3 x3_1 ((rd_T63 l0 x8_1).f0) _ _ _ (fun _=>True) (fun _=>False) rfl rfl ?aO ?aR (fun _ _ h=>h) (fun _ h=>h.elim) ?aF ?aB ?aS ?aL ?_;(case aR=>exact Kd.C_below HR23_0.out zB);(case aB=>exact zB);(case aF=>exact (fun _ _=>trivial));(case aO=>exact (by refine zr ?_;exact Kd.R_mono (Kd.R_far (p:=⟨gb25,1,none⟩) (Kd.R_far (p:=⟨gb25,0,none⟩) (Kd.R_types HO_3.out BK25.out (by decide)) (fun _ hk=>hk.2) (.slice A23_0 ((rd_T63 l0 x8_1).f0).length c23_0)) (fun _ hk=>hk.2) (.slice A23_1 ((rd_T63 l0 x8_1).f1).length c23_1)) (fun _ hk=>trivial)));(case aS=>exact (below_size zB));(case aL=>have:=LMc5.out;omega);intro v50 w8 ho hb hg hat;rw [← Ny30.out] at ho;have HO48:=zA (ho);replace BK25:=zA (blk_grown (g:=gb25) (o:=.cells #[.slice A23_0 ((rd_T63 l0 x8_1).f0).length c23_0,.slice A23_1 ((rd_T63 l0 x8_1).f1).length c23_1] 63 (0,0)) (by refine zj ?_;refine blk_put (cs:=#[.slice A23_0 ((rd_T63 l0 x8_1).f0).length c23_0,.slice none 0 0]) ?_ 1 _ rfl;refine zj ?_;refine blk_put (cs:=#[.slice none 0 0,.slice none 0 0]) ?_ 0 _ rfl;refine zj ?_;exact BK25.out) hg (Kd.R_ne HO_3.out BK25.out (by decide)));replace HB:=zA (hb);clear HO_3;clear ho hb hg hat))
    go_roundg k1
    case measure=>have:=HK1.out;omega
    case rel=>exact ⟨(y30),(wrap64 (x8_1+1)),zT,H',⟨by have:=HK1.out;omega⟩,⟨by refine zr ?_;exact HO48.out⟩,⟨zv1 HB GE25⟩⟩
   ·obtain ⟨t38,A9,H⟩:=zo H;obtain ⟨t42,A10,H⟩:=zo H;obtain rfl:=Option.some.inj H;obtain ⟨Ao11,co11,eo11⟩:=Kd.R_slice HO_3.out;subst eo11
    go_wp2_with (first|((with_reducible refine gate_callee (f:=99) rfl ?_);refine zgo 18 Tryz.func99 #[.slice Ao11 x3_1.length co11] ?_;(with_reducible refine (slices_Sort_int_int.calls (fun k_=>some k_=(.slice Ao11 x3_1.length co11:Value).ownBlock) (.slice Ao11 x3_1.length co11) x3_1 t38 w _ ?side1 ?side2 A9.out).mono ?_);(case side1=>repeat (first|(with_reducible first|exact HB.out|apply below_alloc|apply pw_below_drewN|apply below_drew1)|exact HB.out));(case side2=>exact Kd.R_tight rfl HO_3.out);rintro e w12 ⟨rfl,hy0,hb,hkp⟩;refine ⟨_,rfl,?_⟩;replace HO_3:=zA (Kd.R_reok rfl hy0 (fun k_ e_=>HO_3.out.1 k_ e_));replace HB:=zA (hb);(try clear hb);(try clear hkp);(try clear hy0))|((with_reducible refine gate_callee (f:=100) rfl ?_);refine zgo 20 Tryz.func100 #[.slice Ao11 x3_1.length co11] ?_;(with_reducible refine (slices_Compact_int_int.calls (fun k_=>some k_=(.slice Ao11 x3_1.length co11:Value).ownBlock) (.slice Ao11 x3_1.length co11) t38 t42 w _ ?side1 ?side2 A10.out).mono ?_);(case side1=>repeat (first|(with_reducible first|exact HB.out|apply below_alloc|apply pw_below_drewN|apply below_drew1)|exact HB.out));(case side2=>exact Kd.R_tight rfl HO_3.out);rintro e w13 ⟨v51,rfl,ho0,hb,hkp⟩;refine ⟨_,rfl,?_⟩;have HO49:=zA (Kd.R_mono (ok':=fun k_=>True) ho0 (fun k_ hk_=>trivial));replace HB:=zA (hb);clear HO_3;(try clear hb);(try clear hkp);(try clear ho0)))
    go_ret
    exact ⟨_,ze,by refine zr ?_;exact HO49.out,zv0 HB⟩
def solve_row.l0:Nat→Int→Int→List Int→Int→Int→Option (Int)
 | 0,_,_,_,_,_=>none
 | k+1,x1,x5,x9,x10,x11=>if x11<x10 then (if 0≤x11 then (if x11<(x9.length:Int) then (if 0≤(rd x9 x11) then (solve_row.l0 k x1 (Go.bits .or .i64 x5 (shl .i64 (Go.bits .and .i64 (shr .i64 x1 (rd x9 x11)) 1) x11)) x9 x10 (wrap64 (x11+1))) else (none)) else (none)) else (none)) else (some x5)
def solve_row.f (k:Nat) (l0_0:List Int) (l0_1:List Int) (a1:Int):Option (Int):=solve_row.l0 k a1 0 l0_0 (l0_0.length:Int) 0
theorem solve_row.mono_l:∀ k,(∀ y0 y1 y2 y3 y4,LeO (solve_row.l0 k y0 y1 y2 y3 y4) (solve_row.l0 (k+1) y0 y1 y2 y3 y4))
 | 0=>fun _ _ _ _ _ r h=>by simp [solve_row.l0] at h
 | k+1=>by
  have ih0:=solve_row.mono_l k
  ·intro y0 y1 y2 y3 y4
   unfold solve_row.l0
   repeat' first
   | (with_reducible exact ih0 _ _ _ _ _)
   | (with_reducible exact LeO.refl _)
   | (with_reducible exact LeO.none _)
   | (with_reducible refine LeO.ite ?_ ?_)
   | (with_reducible refine LeO.bind ?_ (fun _=>?_))
   | exact LeO.none _
   | refine LeO.ite ?_ ?_
   | refine LeO.bind ?_ (fun _=>?_)
theorem solve_row.mono:∀ a0 a1 a2 k,LeO (solve_row.f k a0 a1 a2) (solve_row.f (k+1) a0 a1 a2):=by
 intro a0 a1 a2 k;have ih0:=solve_row.mono_l k
 unfold solve_row.f
 repeat' first
   | (with_reducible exact ih0 _ _ _ _ _)
   | (with_reducible exact LeO.refl _)
   | (with_reducible exact LeO.none _)
   | (with_reducible refine LeO.ite ?_ ?_)
   | (with_reducible refine LeO.bind ?_ (fun _=>?_))
   | exact LeO.none _
   | refine LeO.ite ?_ ?_
   | refine LeO.bind ?_ (fun _=>?_)
set_option maxHeartbeats 8000000 in
set_option maxRecDepth 100000 in
theorem solve_row.calls (k:Nat) (A0_0:Option Addr) (c0_0:Nat) (l0_0:List Int) (A0_1:Option Addr) (c0_1:Nat) (l0_1:List Int) (a1:Int) (r:Int) (w:World) (hr0_0:Kd.C (Kd.int .i64) w A0_0 l0_0.length l0_0) (hc0_0:l0_0.length≤c0_0) (hr0_1:Kd.C (Kd.int .i64) w A0_1 l0_1.length l0_1) (hc0_1:l0_1.length≤c0_1) (h:solve_row.f k l0_0 l0_1 a1=some r) :
  Calls Tryz.prog 107 #[.agg #[.slice A0_0 l0_0.length c0_0,.slice A0_1 l0_1.length c0_1],.int .i64 a1] w fun e w'=>e=.returned (.int .i64 r)∧Below w.heap.size w w':=by
 have HR0_0:=zA hr0_0;have HC0_0:=zA hc0_0;clear hr0_0 hc0_0;have HR0_1:=zA hr0_1;have HC0_1:=zA hc0_1;clear hr0_1 hc0_1;have HB:=zA (Below.refl w.heap.size w);have H:(solve_row.l0 k a1 0 l0_0 (l0_0.length:Int) 0)=some r:=h;clear h;have H':=zA H;clear H
 go_enter Tryz.func107,Tryz.ntmps107
 go_wp2_with (first|((with_reducible refine gd 2 rfl ?_);refine zx #[.slice A0_0 l0_0.length c0_0,.slice A0_1 l0_1.length c0_1] 63 ?_;intro gb26 hg w3 BK26 hb GW26 HB1;have GE26:=GW26;clear HB hb hg;have HB:=HB1;clear HB1;have hcz4_0:=zc0 BK26;have hcz4_1:=zc1 BK26;have hfz4_0:=zf BK26))
 go_loopg [5,11] k (fun kq v5 v11 w'=>∃ (x5_1:Int) (x11_1:Int),v5=.int .i64 x5_1∧v11=.int .i64 x11_1∧Aside0 (solve_row.l0 kq a1 x5_1 l0_0 (l0_0.length:Int) x11_1=some r)∧Aside0 (kq≤k)∧Aside0 (w'.heap[gb26]?=some (.cells #[(.slice A0_0 l0_0.length c0_0),(.slice A0_1 l0_1.length c0_1)] 63 (0,0)))∧Aside0 (Below w.heap.size w w'))
 case atStart=>exact ⟨(0),(0),zT,zT,H',⟨Nat.le_refl _⟩,⟨by refine zj ?_;exact BK26.out⟩,⟨zv1 HB GE26⟩⟩
 case round=>
  clear H'
  try clear hcz4_0
  try clear hcz4_1
  try clear hfz4_0
  try clear hfz4_1
  obtain ⟨x5_1,x11_1,rfl,rfl,HA,HK1,BK26,HB⟩:=hrel
  cases gk with
  | zero=>exact absurd HA.out (by simp [solve_row.l0])
  | succ k1=>
   have H:=HA.out;clear HA;simp only [solve_row.l0] at H
   rcases ifd H with ⟨c5b0,H⟩|⟨c5b0,H⟩
   ·obtain ⟨c6b0,H⟩:=ifd1 H;obtain ⟨c7b0,H⟩:=ifd1 H;obtain ⟨c8,H⟩:=if1 H;have c8b0:=eq_true c8;have c8b1:decide (0≤(rd l0_0 x11_1))=true:=decide_eq_true c8;clear c8;obtain ⟨ji9,hji9⟩:=zZ (shr .i64 a1 (rd l0_0 x11_1))
    first|rw [hji9] at H|simp only [hji9] at H
    have hji9_:(a1 / 2 ^ min (rd l0_0 x11_1).toNat 64)=ji9:=hji9;have hji9z:(rd l0_0 x11_1)≤64→(a1 / 2 ^ (rd l0_0 x11_1).toNat)=ji9:=shr_small hji9;have c10b0:=eq_true (of_decide_eq_true zh:0≤x11_1);obtain ⟨ji11,hji11⟩:=zZ (shl .i64 (Go.bits .and .i64 (ji9) 1) x11_1)
    first|rw [hji11] at H|simp only [hji11] at H
    have hji11_:(IntKind.i64.wrap ((Go.bits .and .i64 (ji9) 1) * 2 ^ min x11_1.toNat 64))=ji11:=hji11;have hji11z:x11_1≤64→(IntKind.i64.wrap ((Go.bits .and .i64 (ji9) 1) * 2 ^ x11_1.toNat))=ji11:=shl_small hji11;have hji11y:(wrap64 ((Go.bits .and .i64 (ji9) 1) * 2 ^ min x11_1.toNat 64))=ji11:=(i64_w _).symm.trans hji11_
    have hji11x:x11_1≤64→(wrap64 ((Go.bits .and .i64 (ji9) 1) * 2 ^ x11_1.toNat))=ji11:=fun h_=>(i64_w _).symm.trans (hji11z h_)
    have H':=zA H;clear H;obtain ⟨p27,q27,ad27,e27,hx27_0⟩:=zp (Kd.at_int HR0_0.out x11_1)
    cases e27
    replace hx27_0:=zd HB hx27_0;replace p27:=eq_true p27;replace q27:=eq_true q27
    go_wp2
    go_roundg k1
    case measure=>have:=HK1.out;omega
    case rel=>exact ⟨(Go.bits .or .i64 x5_1 (ji11)),(wrap64 (x11_1+1)),(by first|rfl|(simp;done)|(simp only [← hji11] <;> (first|rfl|simp))|(simp [*];done)),zT,H',⟨by have:=HK1.out;omega⟩,⟨by refine zj ?_;exact BK26.out⟩,⟨zv1 HB GE26⟩⟩
   ·obtain rfl:=Option.some.inj H
    go_wp2
    go_ret
    exact ⟨ze,zv1 HB GE26⟩
def solve_choices_fails_1_v1.f (a0:Int) (a1_0:Int) (a2_0:Int):Option (Bool):=some ((Go.bits .and .i64 a0 a1_0) == a2_0)
set_option maxHeartbeats 8000000 in
set_option maxRecDepth 100000 in
theorem solve_choices_fails_1_v1.calls (a0:Int) (gp1_0:Nat) (a1_0:Int) (gp2_0:Nat) (a2_0:Int) (r:Bool) (w:World) (hb_gp1_0:w.heap[gp1_0]?=some (.cells #[.int .i64 a1_0] 3 (0,0))) (hb_gp2_0:w.heap[gp2_0]?=some (.cells #[.int .i64 a2_0] 3 (0,0))) (h:solve_choices_fails_1_v1.f a0 a1_0 a2_0=some r) :
  Calls Tryz.prog 141 #[.int .i64 a0,.pointer (some ⟨gp1_0,0,none⟩),.pointer (some ⟨gp2_0,0,none⟩)] w fun e w'=>e=.returned (.bool r)∧Drawn0 w w':=by
 have BK46:=zA hb_gp1_0;clear hb_gp1_0;have BK47:=zA hb_gp2_0;clear hb_gp2_0;have H:(some ((Go.bits .and .i64 a0 a1_0) == a2_0))=some r:=h;clear h;obtain rfl:=Option.some.inj H;have hcz4_0:w.cell? ⟨gp1_0,0,none⟩=some (.int .i64 a1_0):=zc0 BK46;have hfz4_0:=zf BK46 0;have hcz5_0:w.cell? ⟨gp2_0,0,none⟩=some (.int .i64 a2_0):=zc0 BK47;have hfz5_0:=zf BK47 0
 go_enter Tryz.func141,Tryz.ntmps141
 go_wp2
 go_ret
 exact ⟨by first|rfl|(simp;done)|(simp [*];done),by repeat (first|exact Drawn0.refl _|apply Drawn0.step)⟩
def slices_IndexFunc_int_int_solve_choices_fails_1.l0:Nat→List Int→Int→Int→Int→Int→Option (Int)
 | 0,_,_,_,_,_=>none
 | k+1,x0,x7,x8,x35,x36=>if x8<x7 then (if 0≤x8 then (if x8<(x0.length:Int) then ((solve_choices_fails_1_v1.f (rd x0 x8) x35 x36).bind fun t39=>(if t39=true then (some x8) else (slices_IndexFunc_int_int_solve_choices_fails_1.l0 k x0 x7 (wrap64 (x8+1)) x35 x36))) else (none)) else (none)) else (some (-1))
def slices_IndexFunc_int_int_solve_choices_fails_1.f (k:Nat) (l0:List Int) (a1_0:Int) (a1_1:Int):Option (Int):=slices_IndexFunc_int_int_solve_choices_fails_1.l0 k l0 (l0.length:Int) 0 a1_0 a1_1
theorem slices_IndexFunc_int_int_solve_choices_fails_1.mono_l:∀ k,(∀ y0 y1 y2 y3 y4,LeO (slices_IndexFunc_int_int_solve_choices_fails_1.l0 k y0 y1 y2 y3 y4) (slices_IndexFunc_int_int_solve_choices_fails_1.l0 (k+1) y0 y1 y2 y3 y4))
 | 0=>fun _ _ _ _ _ r h=>by simp [slices_IndexFunc_int_int_solve_choices_fails_1.l0] at h
 | k+1=>by
  have ih0:=slices_IndexFunc_int_int_solve_choices_fails_1.mono_l k
  ·intro y0 y1 y2 y3 y4
   unfold slices_IndexFunc_int_int_solve_choices_fails_1.l0
   repeat' first
   | (with_reducible exact ih0 _ _ _ _ _)
   | (with_reducible exact LeO.refl _)
   | (with_reducible exact LeO.none _)
   | (with_reducible refine LeO.ite ?_ ?_)
   | (with_reducible refine LeO.bind ?_ (fun _=>?_))
   | exact LeO.none _
   | refine LeO.ite ?_ ?_
   | refine LeO.bind ?_ (fun _=>?_)
theorem slices_IndexFunc_int_int_solve_choices_fails_1.mono:∀ a0 a1 a2 k,LeO (slices_IndexFunc_int_int_solve_choices_fails_1.f k a0 a1 a2) (slices_IndexFunc_int_int_solve_choices_fails_1.f (k+1) a0 a1 a2):=by
 intro a0 a1 a2 k;have ih0:=slices_IndexFunc_int_int_solve_choices_fails_1.mono_l k
 unfold slices_IndexFunc_int_int_solve_choices_fails_1.f
 repeat' first
   | (with_reducible exact ih0 _ _ _ _ _)
   | (with_reducible exact LeO.refl _)
   | (with_reducible exact LeO.none _)
   | (with_reducible refine LeO.ite ?_ ?_)
   | (with_reducible refine LeO.bind ?_ (fun _=>?_))
   | exact LeO.none _
   | refine LeO.ite ?_ ?_
   | refine LeO.bind ?_ (fun _=>?_)
set_option maxHeartbeats 8000000 in
set_option maxRecDepth 100000 in
theorem slices_IndexFunc_int_int_solve_choices_fails_1.calls (k:Nat) (A0:Option Addr) (c0:Nat) (l0:List Int) (gp1_0:Nat) (gp1_1:Nat) (a1_0:Int) (a1_1:Int) (r:Int) (w:World) (hr0:Kd.C (Kd.int .i64) w A0 l0.length l0) (hc0:l0.length≤c0) (hb_gp1_0:w.heap[gp1_0]?=some (.cells #[.int .i64 a1_0] 3 (0,0))) (hb_gp1_1:w.heap[gp1_1]?=some (.cells #[.int .i64 a1_1] 3 (0,0))) (h:slices_IndexFunc_int_int_solve_choices_fails_1.f k l0 a1_0 a1_1=some r) :
  Calls Tryz.prog 94 #[.slice A0 l0.length c0,.func (.func 141) #[] #[.pointer (some ⟨gp1_0,0,none⟩),.pointer (some ⟨gp1_1,0,none⟩)]] w fun e w'=>e=.returned (.int .i64 r)∧Below w.heap.size w w':=by
 have HR0:=zA hr0;have HC0:=zA hc0;clear hr0 hc0;have BK40:=zA hb_gp1_0;clear hb_gp1_0;have BK41:=zA hb_gp1_1;clear hb_gp1_1;have HB:=zA (Below.refl w.heap.size w);have H:(slices_IndexFunc_int_int_solve_choices_fails_1.l0 k l0 (l0.length:Int) 0 a1_0 a1_1)=some r:=h;clear h;have H':=zA H;clear H
 go_enter Tryz.func94,Tryz.ntmps94
 go_wp2
 go_loopg [8] k (fun kq v8 w'=>∃ (x8_1:Int),v8=.int .i64 x8_1∧Aside0 (slices_IndexFunc_int_int_solve_choices_fails_1.l0 kq l0 (l0.length:Int) x8_1 a1_0 a1_1=some r)∧Aside0 (kq≤k)∧Aside0 (w'.heap[gp1_0]?=some (.cells #[.int .i64 a1_0] 3 (0,0)))∧Aside0 (w'.heap[gp1_1]?=some (.cells #[.int .i64 a1_1] 3 (0,0)))∧Aside0 (Below w.heap.size w w'))
 case atStart=>exact ⟨(0),zT,H',⟨Nat.le_refl _⟩,⟨by refine zj ?_;exact BK40.out⟩,⟨by refine zj ?_;exact BK41.out⟩,⟨zv0 HB⟩⟩
 case round=>
  clear H';obtain ⟨x8_1,rfl,HA,HK1,BK40,BK41,HB⟩:=hrel
  cases gk with
  | zero=>exact absurd HA.out (by simp [slices_IndexFunc_int_int_solve_choices_fails_1.l0])
  | succ k1=>
   have H:=HA.out;clear HA;simp only [slices_IndexFunc_int_int_solve_choices_fails_1.l0] at H
   rcases ifd H with ⟨c3b0,H⟩|⟨c3b0,H⟩
   ·obtain ⟨c4b0,H⟩:=ifd1 H;obtain ⟨c5b0,H⟩:=ifd1 H;obtain ⟨t39,A6,H⟩:=zo H;have HC7:=zA H;clear H;obtain ⟨p28,q28,ad28,e28,hx28_0⟩:=zp (Kd.at_int HR0.out x8_1)
    cases e28
    replace hx28_0:=zd HB hx28_0;replace p28:=eq_true p28;replace q28:=eq_true q28
    go_upto_if 16 with (first|(go_at_call 141;(with_reducible refine (solve_choices_fails_1_v1.calls (rd l0 x8_1) gp1_0 a1_0 gp1_1 a1_1 t39 _ ?side1 ?side2 A6.out).mono ?_);(case side1=>refine zj ?_;exact BK40.out);(case side2=>refine zj ?_;exact BK41.out);rintro e w' ⟨rfl,⟨nd,rfl⟩⟩))
    (try simp only [Act.put,zi,zs,zt]);have H:=HC7.out;clear HC7
    by_cases c8:t39=true
    ·subst c8
     have H1:(some x8_1)=some r:=by rw [if_pos rfl] at H;exact H
     clear H;have H:=H1;clear H1;obtain rfl:=Option.some.inj H
     go_wp2
     go_ret
     exact ⟨ze,zv0 HB⟩
    ·replace c8:=Bool.eq_false_iff.mpr c8;subst c8
     have H1:(slices_IndexFunc_int_int_solve_choices_fails_1.l0 k1 l0 (l0.length:Int) (wrap64 (x8_1+1)) a1_0 a1_1)=some r:=by rw [if_neg (show ¬ (false=true) by decide)] at H;exact H
     clear H;have H:=H1;clear H1;have H':=zA H;clear H
     go_wp2
     go_roundg k1
     case measure=>have:=HK1.out;omega
     case rel=>exact ⟨(wrap64 (x8_1+1)),zT,H',⟨by have:=HK1.out;omega⟩,⟨by refine zj ?_;exact BK40.out⟩,⟨by refine zj ?_;exact BK41.out⟩,⟨zv0 HB⟩⟩
   ·obtain rfl:=Option.some.inj H
    go_wp2
    go_ret
    exact ⟨ze,zv0 HB⟩
def slices_ContainsFunc_int_int_solve_choices_fails_1.f (k:Nat) (l0:List Int) (a1_0:Int) (a1_1:Int):Option (Bool):=(slices_IndexFunc_int_int_solve_choices_fails_1.f k l0 a1_0 a1_1).bind fun t37=>(some (decide (t37≥0)))
theorem slices_ContainsFunc_int_int_solve_choices_fails_1.mono:∀ a0 a1 a2 k,LeO (slices_ContainsFunc_int_int_solve_choices_fails_1.f k a0 a1 a2) (slices_ContainsFunc_int_int_solve_choices_fails_1.f (k+1) a0 a1 a2):=by
 intro a0 a1 a2 k
 unfold slices_ContainsFunc_int_int_solve_choices_fails_1.f
 repeat' first
   | (with_reducible exact slices_IndexFunc_int_int_solve_choices_fails_1.mono _ _ _ _)
   | (with_reducible exact LeO.refl _)
   | (with_reducible exact LeO.none _)
   | (with_reducible refine LeO.ite ?_ ?_)
   | (with_reducible refine LeO.bind ?_ (fun _=>?_))
   | exact LeO.none _
   | refine LeO.ite ?_ ?_
   | refine LeO.bind ?_ (fun _=>?_)
set_option maxHeartbeats 8000000 in
set_option maxRecDepth 100000 in
theorem slices_ContainsFunc_int_int_solve_choices_fails_1.calls (k:Nat) (A0:Option Addr) (c0:Nat) (l0:List Int) (gp1_0:Nat) (gp1_1:Nat) (a1_0:Int) (a1_1:Int) (r:Bool) (w:World) (hr0:Kd.C (Kd.int .i64) w A0 l0.length l0) (hc0:l0.length≤c0) (hb_gp1_0:w.heap[gp1_0]?=some (.cells #[.int .i64 a1_0] 3 (0,0))) (hb_gp1_1:w.heap[gp1_1]?=some (.cells #[.int .i64 a1_1] 3 (0,0))) (h:slices_ContainsFunc_int_int_solve_choices_fails_1.f k l0 a1_0 a1_1=some r) :
  Calls Tryz.prog 140 #[.slice A0 l0.length c0,.func (.func 141) #[] #[.pointer (some ⟨gp1_0,0,none⟩),.pointer (some ⟨gp1_1,0,none⟩)]] w fun e w'=>e=.returned (.bool r)∧Below w.heap.size w w':=by
 have HR0:=zA hr0;have HC0:=zA hc0;clear hr0 hc0;have BK44:=zA hb_gp1_0;clear hb_gp1_0;have BK45:=zA hb_gp1_1;clear hb_gp1_1;have HB:=zA (Below.refl w.heap.size w);have H:((slices_IndexFunc_int_int_solve_choices_fails_1.f k l0 a1_0 a1_1).bind fun t37=>(some (decide (t37≥0))))=some r:=h;clear h;obtain ⟨t37,A3,H⟩:=zo H;obtain rfl:=Option.some.inj H
 go_enter Tryz.func140,Tryz.ntmps140
 go_wp2_with (first|((with_reducible refine gate_callee (f:=94) rfl ?_);refine zgo 7 Tryz.func94 #[.slice A0 l0.length c0,.func (.func 141) #[] #[.pointer (some ⟨gp1_0,0,none⟩),.pointer (some ⟨gp1_1,0,none⟩)]] ?_;(with_reducible refine (slices_IndexFunc_int_int_solve_choices_fails_1.calls k _ _ l0 gp1_0 gp1_1 a1_0 a1_1 t37 _ ?side1 HC0.out ?side3 ?side4 A3.out).mono ?_);(case side1=>repeat (first|exact HR0.out|(with_reducible refine Kd.C_alloc ?_ _)|(with_reducible refine Kd.C_drewN ?_ _)|(with_reducible refine Kd.C_drew ?_)));(case side3=>refine zj ?_;exact BK44.out);(case side4=>refine zj ?_;exact BK45.out);rintro e w4 ⟨rfl,hb⟩;refine ⟨_,rfl,?_⟩;replace BK44:=zw BK44 hb;replace BK45:=zw BK45 hb;replace HB:=zu hb;clear hb))
 go_ret
 exact ⟨ze,zv0 HB⟩
end Go.Proofs.YtngpkbbljnbojaaGreat.L
