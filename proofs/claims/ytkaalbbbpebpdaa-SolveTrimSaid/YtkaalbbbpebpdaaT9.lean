import Derived.Test.YtkaalbbbpebpdaaT0
import Derived.Test.YtkaalbbbpebpdaaT8
namespace Go.Proofs.Ytkaalbbbpebpdaa.T
open Go.RowKit Go.Proofs.YtkaalbbbpebpdaaW.PrintWords Go.Proofs.YtkaalbbbpebpdaaW.PrintLast Go.Proofs.YtkaalbbbpebpdaaW.PrintMore
attribute [local go_sem] max2_int min2_int max_two min_two max_three min_three max_four min_four Try.underlying3 Try.underlying33 Try.underlying35 Try.underlying53
set_option linter.unusedVariables false
set_option linter.unusedSimpArgs false
def ancepsref38_Valid.l0:Nat→Int→List Int→List Int→Option (Int)
 | 0,_,_,_=>none
 | k+1,x4,x60,x50=>if x4<(x50.length:Int) then (if 0≤x4 then (if (rd x50 x4)<0 then (some 6) else (if (rd x50 x4)≥(shl .i64 1 (x60.length:Int)) then (some 6) else (if x4>0 then (if 0≤(wrap64 (x4 - 1)) then (if (wrap64 (x4 - 1))<(x50.length:Int) then (if (rd x50 x4)≤(rd x50 (wrap64 (x4 - 1))) then (some 18) else (ancepsref38_Valid.l0 k (wrap64 (x4+1)) x60 x50)) else (none)) else (none)) else (ancepsref38_Valid.l0 k (wrap64 (x4+1)) x60 x50)))) else (none)) else (some 0)
def ancepsref38_Valid.f (k:Nat) (l0_0:List Int) (l0_1:List Int):Option (Int):=(ancepsref38_Variables.f k l0_0).bind fun t58=>(if t58=0 then (ancepsref38_Valid.l0 k 0 l0_0 l0_1) else (some t58))
set_option maxHeartbeats 8000000 in
set_option maxRecDepth 100000 in
theorem ancepsref38_Valid.calls (k:Nat) (A0_0:Option Addr) (c0_0:Nat) (l0_0:List Int) (A0_1:Option Addr) (c0_1:Nat) (l0_1:List Int) (r:Int) (w:World) (hr0_0:Kd.C (Kd.int .i64) w A0_0 l0_0.length l0_0) (hc0_0:l0_0.length≤c0_0) (hr0_1:Kd.C (Kd.int .i64) w A0_1 l0_1.length l0_1) (hc0_1:l0_1.length≤c0_1) (h:ancepsref38_Valid.f k l0_0 l0_1=some r) :
  Calls Try.prog 29 #[.agg #[.slice A0_0 l0_0.length c0_0,.slice A0_1 l0_1.length c0_1]] w fun e w'=>e=.returned (.int .i64 r)∧Below w.heap.size w w':=by
 have HR0_0:=zA hr0_0;have HC0_0:=zA hc0_0;clear hr0_0 hc0_0;have HR0_1:=zA hr0_1;have HC0_1:=zA hc0_1;clear hr0_1 hc0_1;have HB:=zA (Below.refl w.heap.size w);have H:((ancepsref38_Variables.f k l0_0).bind fun t58=>(if t58=0 then (ancepsref38_Valid.l0 k 0 l0_0 l0_1) else (some t58)))=some r:=h;clear h;obtain ⟨t58,A2,H⟩:=zo H;have HC3:=zA H;clear H
 go_enter Try.func29,Try.ntmps29
 go_upto_if 9 with (first|((with_reducible refine gd 1 rfl ?_);(try (refine gate_guard (by rfl) ?_;dsimp only));refine zx #[.slice A0_0 l0_0.length c0_0,.slice A0_1 l0_1.length c0_1] 35 ?_;intro gb37 hg w4 BK37 hb GW37 HB1;have GE37:=GW37;clear HB hb hg;have HB:=HB1;clear HB1;have hcz5_0:=zc0 BK37;have hcz5_1:=zc1 BK37;have hfz5_0:=zf BK37)|(go_at_call 42;(with_reducible refine (ancepsref38_Variables.calls k _ _ l0_0 t58 _ (zD HR0_0 HB) HC0_0.out A2.out).mono ?_);rintro e w' ⟨rfl,⟨nd,rfl⟩⟩;(try first|exact ⟨rfl,_,World.drewN_drewN _ _ _⟩|exact ⟨rfl,_,Eq.trans (World.drewN_drewN _ _ _) (congrArg (World.drewN _) (Nat.add_assoc _ _ _))⟩)))
 repeat (go_quiet (first|((with_reducible refine gd 1 rfl ?_);(try (refine gate_guard (by rfl) ?_;dsimp only));refine zx #[.slice A0_0 l0_0.length c0_0,.slice A0_1 l0_1.length c0_1] 35 ?_;intro gb37 hg w4 BK37 hb GW37 HB1;have GE37:=GW37;clear HB hb hg;have HB:=HB1;clear HB1;have hcz5_0:=zc0 BK37;have hcz5_1:=zc1 BK37;have hfz5_0:=zf BK37)|(go_at_call 42;(with_reducible refine (ancepsref38_Variables.calls k _ _ l0_0 t58 _ (zD HR0_0 HB) HC0_0.out A2.out).mono ?_);rintro e w' ⟨rfl,⟨nd,rfl⟩⟩;(try first|exact ⟨rfl,_,World.drewN_drewN _ _ _⟩|exact ⟨rfl,_,Eq.trans (World.drewN_drewN _ _ _) (congrArg (World.drewN _) (Nat.add_assoc _ _ _))⟩)));go_upto_if 9 with (first|((with_reducible refine gd 1 rfl ?_);(try (refine gate_guard (by rfl) ?_;dsimp only));refine zx #[.slice A0_0 l0_0.length c0_0,.slice A0_1 l0_1.length c0_1] 35 ?_;intro gb37 hg w4 BK37 hb GW37 HB1;have GE37:=GW37;clear HB hb hg;have HB:=HB1;clear HB1;have hcz5_0:=zc0 BK37;have hcz5_1:=zc1 BK37;have hfz5_0:=zf BK37)|(go_at_call 42;(with_reducible refine (ancepsref38_Variables.calls k _ _ l0_0 t58 _ (zD HR0_0 HB) HC0_0.out A2.out).mono ?_);rintro e w' ⟨rfl,⟨nd,rfl⟩⟩;(try first|exact ⟨rfl,_,World.drewN_drewN _ _ _⟩|exact ⟨rfl,_,Eq.trans (World.drewN_drewN _ _ _) (congrArg (World.drewN _) (Nat.add_assoc _ _ _))⟩))))
 (try simp only [Act.put,zi,zs,zt]);have H:=HC3.out;clear HC3
 rcases ife H with ⟨c6b0,c6b1,H⟩|⟨c6,c6b0,c6b1,H⟩
 ·(first|rw [c6b0]|(simp only [i64_w,i32_w];rw [c6b0])|skip)
  (try rw [c6b1]);have H':=zA H;clear H
  go_wp2
  repeat (go_quiet (fail);try go_wp2)
  go_loopg [4] k (fun kq v4 w'=>∃ (x4_1:Int),v4=.int .i64 x4_1∧Aside0 (ancepsref38_Valid.l0 kq x4_1 l0_0 l0_1=some r)∧Aside0 (kq≤k)∧Aside0 (w'.heap[gb37]?=some (.cells #[(.slice A0_0 l0_0.length c0_0),(.slice A0_1 l0_1.length c0_1)] 35 (0,0)))∧Aside0 (Below w.heap.size w w'))
  case atStart=>exact ⟨(0),zT,H',⟨Nat.le_refl _⟩,⟨by refine zj ?_;exact BK37.out⟩,⟨zv1 HB GE37⟩⟩
  case round=>
   clear H'
   try clear c6
   try clear c6b0
   try clear c6b1
   try clear hcz5_0
   try clear hcz5_1
   try clear hfz5_0
   try clear hfz5_1
   obtain ⟨x4_1,rfl,HA,HK1,BK37,HB⟩:=hrel
   cases gk with
   | zero=>exact absurd HA.out (by simp [ancepsref38_Valid.l0])
   | succ k1=>
    have H:=HA.out;clear HA;simp only [ancepsref38_Valid.l0] at H
    rcases ifd H with ⟨c7b0,H⟩|⟨c7b0,H⟩
    ·obtain ⟨c8b0,H⟩:=ifd1 H
     rcases ifd H with ⟨c9b0,H⟩|⟨c9b0,H⟩
     ·obtain rfl:=Option.some.inj H;have hcz10_0:=zc0 BK37;have hcz10_1:=zc1 BK37;have hfz10_0:=zf BK37;obtain ⟨p36,q36,ad36,e36,hx36_0⟩:=zp (Kd.at_int HR0_1.out x4_1)
      cases e36
      replace hx36_0:=zd HB hx36_0;replace p36:=eq_true p36;replace q36:=eq_true q36
      go_wp2
      repeat (go_quiet (fail);try go_wp2)
      go_ret
      exact ⟨ze,zv1 HB GE37⟩
     ·obtain ⟨ji11,hji11⟩:=zZ (shl .i64 1 (l0_0.length:Int))
      first|rw [hji11] at H|simp only [hji11] at H
      have hji11_:(IntKind.i64.wrap (1 * 2 ^ min (l0_0.length:Int).toNat 64))=ji11:=hji11;have hji11z:(l0_0.length:Int)≤64→(IntKind.i64.wrap (1 * 2 ^ (l0_0.length:Int).toNat))=ji11:=shl_small hji11;have hji11p:(IntKind.i64.wrap (1 * 2 ^ min l0_0.length 64))=ji11:=hji11_;have hji11q:(l0_0.length:Int)≤64→(IntKind.i64.wrap (1 * 2 ^ l0_0.length))=ji11:=hji11z
      have hji11r:(IntKind.i64.wrap (2 ^ min l0_0.length 64))=ji11:=by have h_:=hji11p;rw [Int.one_mul] at h_;exact h_
      have hji11s:(l0_0.length:Int)≤64→(IntKind.i64.wrap (2 ^ l0_0.length))=ji11:=fun hle_=>by have h_:=hji11q hle_;rw [Int.one_mul] at h_;exact h_
      have hji11u:(IntKind.i64.wrap (2 ^ min (l0_0.length:Int).toNat 64))=ji11:=by have h_:=hji11_;rw [Int.one_mul] at h_;exact h_
      have hji11v:(l0_0.length:Int)≤64→(IntKind.i64.wrap (2 ^ (l0_0.length:Int).toNat))=ji11:=fun hle_=>by have h_:=hji11z hle_;rw [Int.one_mul] at h_;exact h_
      have hji11y:(wrap64 (1 * 2 ^ min (l0_0.length:Int).toNat 64))=ji11:=(i64_w _).symm.trans hji11_
      have hji11x:(l0_0.length:Int)≤64→(wrap64 (1 * 2 ^ (l0_0.length:Int).toNat))=ji11:=fun h_=>(i64_w _).symm.trans (hji11z h_)
      rcases if0 H with ⟨c12,H⟩|⟨c12,H⟩
      ·have c12b0:decide ((ji11)≤(rd l0_1 x4_1))=true:=decide_eq_true c12;clear c12;obtain rfl:=Option.some.inj H;have hcz13_0:=zc0 BK37;have hcz13_1:=zc1 BK37;have hfz13_0:=zf BK37;obtain ⟨p36,q36,ad36,e36,hx36_0⟩:=zp (Kd.at_int HR0_1.out x4_1)
       cases e36
       replace hx36_0:=zd HB hx36_0;replace p36:=eq_true p36;replace q36:=eq_true q36;obtain ⟨p41,q41,ad41,e41,hx41_0⟩:=zp (Kd.at_int HR0_1.out x4_1)
       obtain rfl:ad36=ad41:=(by injection e41)
       replace hx41_0:=zd HB hx41_0;replace p41:=eq_true p41;replace q41:=eq_true q41
       go_wp2
       repeat (go_quiet (fail);try go_wp2)
       go_ret
       exact ⟨by first|rfl|(simp [errW_none,errW_some] <;> rfl)|(simp only [← hji11];first|rfl|(simp [errW_none,errW_some] <;> rfl))|(simp [*,errW_none,errW_some] <;> rfl),zv1 HB GE37⟩
      ·have c12b0:decide ((ji11)≤(rd l0_1 x4_1))=false:=decide_eq_false c12;clear c12
       rcases if0 H with ⟨c14,H⟩|⟨c14,H⟩
       ·have c14b0:decide (0<x4_1)=true:=decide_eq_true c14;clear c14;obtain ⟨ji15,hji15⟩:=zZ (wrap64 (x4_1 - 1))
        first|rw [hji15] at H|simp only [hji15] at H
        have hji15w:(IntKind.i64.wrap (x4_1 - 1))=ji15:=(i64_w _).trans hji15;obtain ⟨c16b0,H⟩:=ifd1 H;obtain ⟨c17b0,H⟩:=ifd1 H
        rcases ifd H with ⟨c18b0,H⟩|⟨c18b0,H⟩
        ·obtain rfl:=Option.some.inj H;have hcz19_0:=zc0 BK37;have hcz19_1:=zc1 BK37;have hfz19_0:=zf BK37;obtain ⟨p36,q36,ad36,e36,hx36_0⟩:=zp (Kd.at_int HR0_1.out x4_1)
         cases e36
         replace hx36_0:=zd HB hx36_0;replace p36:=eq_true p36;replace q36:=eq_true q36;obtain ⟨p41,q41,ad41,e41,hx41_0⟩:=zp (Kd.at_int HR0_1.out x4_1)
         obtain rfl:ad36=ad41:=(by injection e41)
         replace hx41_0:=zd HB hx41_0;replace p41:=eq_true p41;replace q41:=eq_true q41;obtain ⟨p47,q47,ad47,e47,hx47_0⟩:=zp (Kd.at_int HR0_1.out x4_1)
         obtain rfl:ad36=ad47:=(by injection e47)
         replace hx47_0:=zd HB hx47_0;replace p47:=eq_true p47;replace q47:=eq_true q47;obtain ⟨p48,q48,ad48,e48,hx48_0⟩:=zp (Kd.at_int HR0_1.out (ji15))
         obtain rfl:ad36=ad48:=(by injection e48)
         replace hx48_0:=zd HB hx48_0;replace p48:=eq_true p48;replace q48:=eq_true q48
         go_wp2
         repeat (go_quiet (fail);try go_wp2)
         go_ret
         exact ⟨by first|rfl|(simp [errW_none,errW_some] <;> rfl)|(simp only [← hji11,← hji15];first|rfl|(simp [errW_none,errW_some] <;> rfl))|(simp [*,errW_none,errW_some] <;> rfl),zv1 HB GE37⟩
        ·have H':=zA H;clear H;have hcz20_0:=zc0 BK37;have hcz20_1:=zc1 BK37;have hfz20_0:=zf BK37;obtain ⟨p36,q36,ad36,e36,hx36_0⟩:=zp (Kd.at_int HR0_1.out x4_1)
         cases e36
         replace hx36_0:=zd HB hx36_0;replace p36:=eq_true p36;replace q36:=eq_true q36;obtain ⟨p41,q41,ad41,e41,hx41_0⟩:=zp (Kd.at_int HR0_1.out x4_1)
         obtain rfl:ad36=ad41:=(by injection e41)
         replace hx41_0:=zd HB hx41_0;replace p41:=eq_true p41;replace q41:=eq_true q41;obtain ⟨p47,q47,ad47,e47,hx47_0⟩:=zp (Kd.at_int HR0_1.out x4_1)
         obtain rfl:ad36=ad47:=(by injection e47)
         replace hx47_0:=zd HB hx47_0;replace p47:=eq_true p47;replace q47:=eq_true q47;obtain ⟨p48,q48,ad48,e48,hx48_0⟩:=zp (Kd.at_int HR0_1.out (ji15))
         obtain rfl:ad36=ad48:=(by injection e48)
         replace hx48_0:=zd HB hx48_0;replace p48:=eq_true p48;replace q48:=eq_true q48
         go_wp2
         repeat (go_quiet (fail);try go_wp2)
         go_roundg k1
         case measure=>have:=HK1.out;omega
         case rel=>exact ⟨(wrap64 (x4_1+1)),zT,H',⟨by have:=HK1.out;omega⟩,⟨by refine zj ?_;exact BK37.out⟩,⟨zv1 HB GE37⟩⟩
       ·have c14b0:decide (0<x4_1)=false:=decide_eq_false c14;clear c14;have H':=zA H;clear H;have hcz21_0:=zc0 BK37;have hcz21_1:=zc1 BK37;have hfz21_0:=zf BK37;obtain ⟨p36,q36,ad36,e36,hx36_0⟩:=zp (Kd.at_int HR0_1.out x4_1)
        cases e36
        replace hx36_0:=zd HB hx36_0;replace p36:=eq_true p36;replace q36:=eq_true q36;obtain ⟨p41,q41,ad41,e41,hx41_0⟩:=zp (Kd.at_int HR0_1.out x4_1)
        obtain rfl:ad36=ad41:=(by injection e41)
        replace hx41_0:=zd HB hx41_0;replace p41:=eq_true p41;replace q41:=eq_true q41
        go_wp2
        repeat (go_quiet (fail);try go_wp2)
        go_roundg k1
        case measure=>have:=HK1.out;omega
        case rel=>exact ⟨(wrap64 (x4_1+1)),zT,H',⟨by have:=HK1.out;omega⟩,⟨by refine zj ?_;exact BK37.out⟩,⟨zv1 HB GE37⟩⟩
    ·obtain rfl:=Option.some.inj H;have hcz22_0:=zc0 BK37;have hcz22_1:=zc1 BK37;have hfz22_0:=zf BK37
     go_wp2
     repeat (go_quiet (fail);try go_wp2)
     go_ret
     exact ⟨ze,zv1 HB GE37⟩
 ·(first|rw [c6b0]|(simp only [i64_w,i32_w];rw [c6b0])|skip)
  (try rw [c6b1]);obtain rfl:=Option.some.inj H
  go_wp2
  repeat (go_quiet (fail);try go_wp2)
  go_ret
  exact ⟨ze,zv1 HB GE37⟩
def ancepsref40_Valid.l0:Nat→List (S35)→Int→Option (Int)
 | 0,_,_=>none
 | k+1,x0,x3=>if x3<(x0.length:Int) then (if 0≤x3 then ((ancepsref38_Valid.f k ((rd_T35 x0 x3).f0) ((rd_T35 x0 x3).f1)).bind fun t61=>(if t61=0 then (ancepsref40_Valid.l0 k x0 (wrap64 (x3+1))) else (some t61))) else (none)) else (some 0)
def ancepsref40_Valid.f (k:Nat) (l0:List (S35)):Option (Int):=if (l0.length:Int)>16 then (some 3) else (ancepsref40_Valid.l0 k l0 0)
set_option maxHeartbeats 8000000 in
set_option maxRecDepth 100000 in
theorem ancepsref40_Valid.calls (k:Nat) (A0:Option Addr) (c0:Nat) (l0:List (S35)) (r:Int) (w:World) (hr0:Kd.C k35 w A0 l0.length l0) (hc0:l0.length≤c0) (h:ancepsref40_Valid.f k l0=some r) :
  Calls Try.prog 18 #[.slice A0 l0.length c0] w fun e w'=>e=.returned (.int .i64 r)∧Below w.heap.size w w':=by
 have HR0:=zA hr0;have HC0:=zA hc0;clear hr0 hc0;have HB:=zA (Below.refl w.heap.size w);have H:(if (l0.length:Int)>16 then (some 3) else (ancepsref40_Valid.l0 k l0 0))=some r:=h;clear h
 rcases if0 H with ⟨c2,H⟩|⟨c2,H⟩
 ·have c2b0:decide (16<(l0.length:Int))=true:=decide_eq_true c2;have c2b1:decide (16<l0.length)=true:=decide_eq_true (by omega);clear c2;obtain rfl:=Option.some.inj H
  go_enter Try.func18,Try.ntmps18
  go_wp2
  go_ret
  exact ⟨ze,zv0 HB⟩
 ·have c2b0:decide (16<(l0.length:Int))=false:=decide_eq_false c2;have c2b1:decide (16<l0.length)=false:=decide_eq_false (by omega);clear c2;have H':=zA H;clear H
  go_enter Try.func18,Try.ntmps18
  go_wp2
  go_loopg [3] k (fun kq v3 w'=>∃ (x3_1:Int),v3=.int .i64 x3_1∧Aside0 (ancepsref40_Valid.l0 kq l0 x3_1=some r)∧Aside0 (kq≤k)∧Aside0 (Below w.heap.size w w'))
  case atStart=>exact ⟨(0),zT,H',⟨Nat.le_refl _⟩,⟨zv0 HB⟩⟩
  case round=>
   clear H'
   try clear c2
   try clear c2b0
   try clear c2b1
   obtain ⟨x3_1,rfl,HA,HK1,HB⟩:=hrel
   cases gk with
   | zero=>exact absurd HA.out (by simp [ancepsref40_Valid.l0])
   | succ k1=>
    have H:=HA.out;clear HA;simp only [ancepsref40_Valid.l0] at H
    rcases ifd H with ⟨c3b0,H⟩|⟨c3b0,H⟩
    ·obtain ⟨c4b0,H⟩:=ifd1 H;obtain ⟨t61,A5,H⟩:=zo H;have HC6:=zA H;clear H;obtain ⟨p42,q42,ad42,A42_0,c42_0,A42_1,c42_1,e42,hx42_0,hx42_1,hl42_0,hi42_0,hl42_1,hi42_1⟩:=zp (at_T35 HR0.out x3_1)
     cases e42
     replace hx42_0:=zd HB hx42_0;replace hx42_1:=zd HB hx42_1;have HR42_0:=zA hi42_0;have HC42_0:=zA hl42_0;clear hi42_0 hl42_0;have HR42_1:=zA hi42_1;have HC42_1:=zA hl42_1;clear hi42_1 hl42_1;replace p42:=eq_true p42;replace q42:=eq_true q42
     go_upto_if 20 with (first|((with_reducible refine gate_callee (f:=29) rfl ?_);refine zgo 18 Try.func29 #[.agg #[.slice A42_0 ((rd_T35 l0 x3_1).f0).length c42_0,.slice A42_1 ((rd_T35 l0 x3_1).f1).length c42_1]] ?_;(with_reducible refine (ancepsref38_Valid.calls k1 _ _ ((rd_T35 l0 x3_1).f0) _ _ ((rd_T35 l0 x3_1).f1) t61 _ (zD HR42_0 HB) HC42_0.out (zD HR42_1 HB) HC42_1.out A5.out).mono ?_);rintro e w7 ⟨rfl,hb⟩;refine ⟨_,rfl,?_⟩;replace HB:=zu hb;clear hb))
     (try simp only [Act.put,zi,zs,zt]);have H:=HC6.out;clear HC6
     rcases ife H with ⟨c8b0,c8b1,H⟩|⟨c8,c8b0,c8b1,H⟩
     ·(first|rw [c8b0]|(simp only [i64_w,i32_w];rw [c8b0])|skip)
      (try rw [c8b1]);have H':=zA H;clear H
      go_wp2
      go_roundg k1
      case measure=>have:=HK1.out;omega
      case rel=>exact ⟨(wrap64 (x3_1+1)),zT,H',⟨by have:=HK1.out;omega⟩,⟨zv0 HB⟩⟩
     ·(first|rw [c8b0]|(simp only [i64_w,i32_w];rw [c8b0])|skip)
      (try rw [c8b1]);obtain rfl:=Option.some.inj H
      go_wp2
      go_ret
      exact ⟨ze,zv0 HB⟩
    ·obtain rfl:=Option.some.inj H
     go_wp2
     go_ret
     exact ⟨ze,zv0 HB⟩
def ancepsref40_choices_with.f (a0_0:Int) (a0_1:Int) (a1:Int) (a2:Int):Option (Int×Int):=if 0≤a1 then (some (Go.bits .or .i64 a0_0 (shl .i64 1 a1),Go.bits .or .i64 a0_1 (shl .i64 a2 a1))) else (none)
def ancepsref40_choices_with.T1:Bool×List (List Nat×List Nat):=(true,[([],[]),([0],[0]),([],[]),([2],[2]),([1,3],[1,3]),([],[]),([5],[5]),([],[]),([],[]),([7,8],[7,8]),([6,9],[6,9]),([4,10],[4,10]),([11,0,1,2,3,4,5,6,7,8,9,10,11],[11])])
def ancepsref40_choices_with.B1:List Nat:=[0,1,0,4,15,0,32,0,0,384,992,2047,4095]
theorem ancepsref40_choices_with.tab1:rtab .any (opsOf Try.f31 1)=ancepsref40_choices_with.T1:=by kernel_rfl
theorem ancepsref40_choices_with.bits1:waitsOk ancepsref40_choices_with.T1.2 ancepsref40_choices_with.B1=true:=by kernel_rfl
set_option maxHeartbeats 8000000 in
set_option maxRecDepth 100000 in
theorem ancepsref40_choices_with.calls (a0_0:Int) (a0_1:Int) (a1:Int) (a2:Int) (r1:Int) (r2:Int) (w:World) (h:ancepsref40_choices_with.f a0_0 a0_1 a1 a2=some (r1,r2)) :
  Calls Try.prog 31 #[.agg #[.int .i64 a0_0,.int .i64 a0_1],.int .i64 a1,.int .i64 a2] w fun e w'=>e=.returned (.agg #[.int .i64 r1,.int .i64 r2])∧Below w.heap.size w w':=by
 have HB:=zA (Below.refl w.heap.size w);have H:(if 0≤a1 then (some (Go.bits .or .i64 a0_0 (shl .i64 1 a1),Go.bits .or .i64 a0_1 (shl .i64 a2 a1))) else (none))=some (r1,r2):=h;clear h;obtain ⟨c4,H⟩:=if1 H;have c4b0:=eq_true c4;have c4b1:decide (0≤a1)=true:=decide_eq_true c4;clear c4;obtain ⟨ji5,hji5⟩:=zZ (shl .i64 1 a1)
 first|rw [hji5] at H|simp only [hji5] at H
 have hji5_:(IntKind.i64.wrap (1 * 2 ^ min a1.toNat 64))=ji5:=hji5;have hji5z:a1≤64→(IntKind.i64.wrap (1 * 2 ^ a1.toNat))=ji5:=shl_small hji5
 have hji5u:(IntKind.i64.wrap (2 ^ min a1.toNat 64))=ji5:=by have h_:=hji5_;rw [Int.one_mul] at h_;exact h_
 have hji5v:a1≤64→(IntKind.i64.wrap (2 ^ a1.toNat))=ji5:=fun hle_=>by have h_:=hji5z hle_;rw [Int.one_mul] at h_;exact h_
 have hji5y:(wrap64 (1 * 2 ^ min a1.toNat 64))=ji5:=(i64_w _).symm.trans hji5_
 have hji5x:a1≤64→(wrap64 (1 * 2 ^ a1.toNat))=ji5:=fun h_=>(i64_w _).symm.trans (hji5z h_)
 have c6b0:=eq_true (of_decide_eq_true zh:0≤a1);obtain ⟨ji7,hji7⟩:=zZ (shl .i64 a2 a1)
 first|rw [hji7] at H|simp only [hji7] at H
 have hji7_:(IntKind.i64.wrap (a2 * 2 ^ min a1.toNat 64))=ji7:=hji7;have hji7z:a1≤64→(IntKind.i64.wrap (a2 * 2 ^ a1.toNat))=ji7:=shl_small hji7;have hji7y:(wrap64 (a2 * 2 ^ min a1.toNat 64))=ji7:=(i64_w _).symm.trans hji7_
 have hji7x:a1≤64→(wrap64 (a2 * 2 ^ a1.toNat))=ji7:=fun h_=>(i64_w _).symm.trans (hji7z h_)
 simp only [Option.some.injEq,Prod.mk.injEq] at H;obtain ⟨rfl,rfl⟩:=H
 go_enter Try.func31,Try.ntmps31
 try go_wp2_with (first|((with_reducible refine gd 3 rfl ?_);refine zx #[.int .i64 a0_0,.int .i64 a0_1] 53 ?_;intro gb46 hg w8 BK46 hb GW46 HB1;have GE46:=GW46;clear HB hb hg;have HB:=HB1;clear HB1)|((with_reducible refine gd 6 rfl ?_);refine zx #[.int .i64 0,.int .i64 0] 53 ?_;intro gb45 hg w9 BK45 hb GW45 HB1;have GE45:=GW45;have NB46_45:=zL hg BK46;have NB45_46:=zLs NB46_45;replace BK46:=zw BK46 hb;clear HB hb hg;have HB:=HB1;clear HB1))
 replace BK46:=zA (blk_drew BK46.out);replace BK45:=zA (blk_drew BK45.out);replace HB:=zA (below_drew1 HB.out);refine start_ (n:=13) (S:=fun w'=>w'.cell? ⟨gb46,0,none⟩=some (.int .i64 a0_0)∧w'.cell? ⟨gb46,1,none⟩=some (.int .i64 a0_1)) (ds:=[]) (bz 13 0) zK rfl rfl ⟨zc0 BK46,zc1 BK46⟩ (fun hHeld=>?_);refine with_tabW ancepsref40_choices_with.tab1 ancepsref40_choices_with.bits1 (fun HT_ HW_=>?_)
 generalize w9.drew=w10 at BK46 BK45 HB hHeld ⊢
 refine zP 0 7 (bz 13 1) HT_ ?_;refine zP 2 9 (bz 13 5) HT_ ?_;refine zP 3 10 (bz 13 13) HT_ ?_;refine zP 5 12 (bz 13 45) HT_ ?_;refine zP 7 14 (bz 13 173) HT_ ?_;refine zP 8 15 (bz 13 429) HT_ ?_;refine zP 9 16 (bz 13 941) HT_ ?_;refine zQ 1 8 (bz 13 943) HT_ HW_ hHeld ?_;refine zP 4 11 (bz 13 959) HT_ ?_;refine zQ 6 13 (bz 13 1023) HT_ HW_ hHeld ?_;refine zP 10 17 (bz 13 2047) HT_ ?_;refine zP 11 18 (bz 13 4095) HT_ ?_;refine one_ (i:=12) (N:=none) (bz 13 8191) rfl rfl (one_of HT_.out zK) (by decide) (fun K hK=>?_);have hs11:w10.cell? ⟨gb45,0,none⟩=some (.int .i64 0):=zc0 BK45;have hfs11:=zf BK45 0;have hns11_0:=NB46_45.out;have hms11_0:=NB45_46.out;have hs12:w10.cell? ⟨gb45,1,none⟩=some (.int .i64 0):=zc1 BK45;have hfs12:=zf BK45 1;have hns12_0:=NB46_45.out;have hms12_0:=NB45_46.out;refine skip_ (w1:=?_) (by rfl) rfl ?_ ?_;rotate_left
 ·go_simp
  rfl
 refine hK.out _ _ ⟨((cell_far (p:=⟨gb45,_,none⟩) NB46_45.out _).trans (((cell_far (p:=⟨gb45,_,none⟩) NB46_45.out _).trans (hHeld.1)))),((cell_far (p:=⟨gb45,_,none⟩) NB46_45.out _).trans (((cell_far (p:=⟨gb45,_,none⟩) NB46_45.out _).trans (hHeld.2))))⟩ (fun hHeld=>?_);clear hK K;refine done_ (done_of HT_.out zK) ?_
 try go_wp2
 refine bodyPost_ret (results_cell_row rfl _ _ gb45 53 #[.int .i64 (Go.bits .or .i64 a0_0 (ji5)),.int .i64 (Go.bits .or .i64 a0_1 (ji7))] (0,0) _ rfl (by refine zj ?_;refine blk_put (cs:=#[.int .i64 (Go.bits .or .i64 a0_0 (ji5)),.int .i64 0]) ?_ 1 _ rfl;refine zj ?_;refine blk_put (cs:=#[.int .i64 0,.int .i64 0]) ?_ 0 _ rfl;refine zj ?_;exact BK45.out) Try.underlying53 rfl zK) rfl ?_;exact ⟨by first|rfl|(simp [errW_none,errW_some] <;> rfl)|(simp only [← hji5,← hji7];first|rfl|(simp [errW_none,errW_some] <;> rfl))|(simp [*,errW_none,errW_some] <;> rfl),zv2 HB GE46 GE45⟩
def ancepsref38_Assignment.l0:Nat→List Int→Int→Int→Int→Option (Int)
 | 0,_,_,_,_=>none
 | k+1,x0,x1,x5,x6=>if x6<(x0.length:Int) then (if 0≤x6 then (if 0≤(rd x0 x6) then (ancepsref38_Assignment.l0 k x0 x1 (wrap64 (x5+(shl .i64 (Int.tmod (shr .i64 x1 x6) 2) (rd x0 x6)))) (wrap64 (x6+1))) else (none)) else (none)) else (some x5)
def ancepsref38_Assignment.f (k:Nat) (l0:List Int) (a1:Int):Option (Int):=ancepsref38_Assignment.l0 k l0 a1 0 0
set_option maxHeartbeats 8000000 in
set_option maxRecDepth 100000 in
theorem ancepsref38_Assignment.calls (k:Nat) (A0:Option Addr) (c0:Nat) (l0:List Int) (a1:Int) (r:Int) (w:World) (hr0:Kd.C (Kd.int .i64) w A0 l0.length l0) (hc0:l0.length≤c0) (h:ancepsref38_Assignment.f k l0 a1=some r) :
  Calls Try.prog 51 #[.slice A0 l0.length c0,.int .i64 a1] w fun e w'=>e=.returned (.int .i64 r)∧Drawn0 w w':=by
 have HR0:=zA hr0;have HC0:=zA hc0;clear hr0 hc0;have H:(ancepsref38_Assignment.l0 k l0 a1 0 0)=some r:=h;clear h;have H':=zA H;clear H
 go_enter Try.func51,Try.ntmps51
 go_wp2
 repeat (go_quiet (fail);try go_wp2)
 go_loopg [5,6] k (fun kq v5 v6 w'=>∃ (x5_1:Int) (x6_1:Int),v5=.int .i64 x5_1∧v6=.int .i64 x6_1∧Aside0 (ancepsref38_Assignment.l0 kq l0 a1 x5_1 x6_1=some r)∧Aside0 (kq≤k)∧Drawn0 w w')
 case atStart=>exact ⟨(0),(0),zT,zT,H',⟨Nat.le_refl _⟩,by repeat (first|exact Drawn0.refl _|apply Drawn0.step)⟩
 case round=>
  clear H';obtain ⟨x5_1,x6_1,rfl,rfl,HA,HK1,⟨m1,rfl⟩⟩:=hrel
  cases gk with
  | zero=>exact absurd HA.out (by simp [ancepsref38_Assignment.l0])
  | succ k1=>
   have H:=HA.out;clear HA;simp only [ancepsref38_Assignment.l0] at H
   rcases ifd H with ⟨c3b0,H⟩|⟨c3b0,H⟩
   ·obtain ⟨c4,H⟩:=if1 H;have c4b0:=eq_true c4;have c4b1:decide (0≤x6_1)=true:=decide_eq_true c4;clear c4;obtain ⟨ji5,hji5⟩:=zZ (shr .i64 a1 x6_1)
    first|rw [hji5] at H|simp only [hji5] at H
    have hji5_:(a1 / 2 ^ min x6_1.toNat 64)=ji5:=hji5;have hji5z:x6_1≤64→(a1 / 2 ^ x6_1.toNat)=ji5:=shr_small hji5;obtain ⟨c6,H⟩:=if1 H;have c6b0:=eq_true c6;have c6b1:decide (0≤(rd l0 x6_1))=true:=decide_eq_true c6;clear c6;obtain ⟨ji7,hji7⟩:=zZ (shl .i64 (Int.tmod (ji5) 2) (rd l0 x6_1))
    first|rw [hji7] at H|simp only [hji7] at H
    have hji7_:(IntKind.i64.wrap ((Int.tmod (ji5) 2) * 2 ^ min (rd l0 x6_1).toNat 64))=ji7:=hji7;have hji7z:(rd l0 x6_1)≤64→(IntKind.i64.wrap ((Int.tmod (ji5) 2) * 2 ^ (rd l0 x6_1).toNat))=ji7:=shl_small hji7;have hji7y:(wrap64 ((Int.tmod (ji5) 2) * 2 ^ min (rd l0 x6_1).toNat 64))=ji7:=(i64_w _).symm.trans hji7_
    have hji7x:(rd l0 x6_1)≤64→(wrap64 ((Int.tmod (ji5) 2) * 2 ^ (rd l0 x6_1).toNat))=ji7:=fun h_=>(i64_w _).symm.trans (hji7z h_)
    have H':=zA H;clear H;obtain ⟨p59,q59,ad59,e59,hx59_0⟩:=zp (Kd.at_int HR0.out x6_1)
    cases e59
    replace p59:=eq_true p59;replace q59:=eq_true q59
    go_wp2
    repeat (go_quiet (fail);try go_wp2)
    go_roundg k1
    case measure=>have:=HK1.out;omega
    case rel=>exact ⟨(wrap64 (x5_1+(ji7))),(wrap64 (x6_1+1)),(by first|rfl|(simp;done)|(simp only [← hji7] <;> (first|rfl|simp))|(simp [*];done)),zT,H',⟨by have:=HK1.out;omega⟩,by repeat (first|exact Drawn0.refl _|apply Drawn0.step)⟩
   ·obtain rfl:=Option.some.inj H
    go_wp2
    repeat (go_quiet (fail);try go_wp2)
    go_ret
    exact ⟨by first|rfl|(simp;done)|(simp [*];done),by repeat (first|exact Drawn0.refl _|apply Drawn0.step)⟩
mutual
def ancepsref40_fails.l0:Nat→Int→List Int→List Int→Int→Int→Option (Bool)
 | 0,_,_,_,_,_=>none
 | k+1,x5,x49,x52,x54,x55=>if x5<(x52.length:Int) then (if 0≤x5 then ((ancepsref38_Assignment.f k x49 (rd x52 x5)).bind fun t57=>(ancepsref40_fails.l1 k x5 t57 true 0 x49 x52 x54 x55)) else (none)) else (some true)
def ancepsref40_fails.l1:Nat→Int→Int→Bool→Int→List Int→List Int→Int→Int→Option (Bool)
 | 0,_,_,_,_,_,_,_,_=>none
 | k+1,x5,x6,x7,x8,x49,x52,x54,x55=>if x8<(x49.length:Int) then (if 0≤x8 then (if 0≤(rd x49 x8) then (if x7=true then (if (Go.bits .and .i64 x54 (shl .i64 1 (rd x49 x8)))=0 then (ancepsref40_fails.l1 k x5 x6 true (wrap64 (x8+1)) x49 x52 x54 x55) else (ancepsref40_fails.l1 k x5 x6 ((Go.bits .and .i64 x6 (shl .i64 1 (rd x49 x8))) == (Go.bits .and .i64 x55 (shl .i64 1 (rd x49 x8)))) (wrap64 (x8+1)) x49 x52 x54 x55)) else (ancepsref40_fails.l1 k x5 x6 false (wrap64 (x8+1)) x49 x52 x54 x55)) else (none)) else (none)) else (if x7=true then (some false) else (ancepsref40_fails.l0 k (wrap64 (x5+1)) x49 x52 x54 x55))
end
def ancepsref40_fails.f (k:Nat) (l0_0:List Int) (l0_1:List Int) (a1_0:Int) (a1_1:Int):Option (Bool):=ancepsref40_fails.l0 k 0 l0_0 l0_1 a1_0 a1_1
set_option maxHeartbeats 8000000 in
set_option maxRecDepth 100000 in
theorem ancepsref40_fails.calls (k:Nat) (A0_0:Option Addr) (c0_0:Nat) (l0_0:List Int) (A0_1:Option Addr) (c0_1:Nat) (l0_1:List Int) (a1_0:Int) (a1_1:Int) (r:Bool) (w:World) (hr0_0:Kd.C (Kd.int .i64) w A0_0 l0_0.length l0_0) (hc0_0:l0_0.length≤c0_0) (hr0_1:Kd.C (Kd.int .i64) w A0_1 l0_1.length l0_1) (hc0_1:l0_1.length≤c0_1) (h:ancepsref40_fails.f k l0_0 l0_1 a1_0 a1_1=some r) :
  Calls Try.prog 43 #[.agg #[.slice A0_0 l0_0.length c0_0,.slice A0_1 l0_1.length c0_1],.agg #[.int .i64 a1_0,.int .i64 a1_1]] w fun e w'=>e=.returned (.bool r)∧Below w.heap.size w w':=by
 have HR0_0:=zA hr0_0;have HC0_0:=zA hc0_0;clear hr0_0 hc0_0;have HR0_1:=zA hr0_1;have HC0_1:=zA hc0_1;clear hr0_1 hc0_1;have HB:=zA (Below.refl w.heap.size w);have H:(ancepsref40_fails.l0 k 0 l0_0 l0_1 a1_0 a1_1)=some r:=h;clear h;have H':=zA H;clear H
 go_enter Try.func43,Try.ntmps43
 go_wp2_with (first|((with_reducible refine gd 2 rfl ?_);refine zx #[.slice A0_0 l0_0.length c0_0,.slice A0_1 l0_1.length c0_1] 35 ?_;intro gb34 hg w3 BK34 hb GW34 HB1;have GE34:=GW34;clear HB hb hg;have HB:=HB1;clear HB1)|((with_reducible refine gd 3 rfl ?_);refine zx #[.int .i64 a1_0,.int .i64 a1_1] 53 ?_;intro gb39 hg w4 BK39 hb GW39 HB1;have GE39:=GW39;have NB34_39:=zL hg BK34;have NB39_34:=zLs NB34_39;replace BK34:=zw BK34 hb;clear HB hb hg;have HB:=HB1;clear HB1))
 repeat (go_quiet (first|((with_reducible refine gd 2 rfl ?_);refine zx #[.slice A0_0 l0_0.length c0_0,.slice A0_1 l0_1.length c0_1] 35 ?_;intro gb34 hg w3 BK34 hb GW34 HB1;have GE34:=GW34;clear HB hb hg;have HB:=HB1;clear HB1)|((with_reducible refine gd 3 rfl ?_);refine zx #[.int .i64 a1_0,.int .i64 a1_1] 53 ?_;intro gb39 hg w4 BK39 hb GW39 HB1;have GE39:=GW39;have NB34_39:=zL hg BK34;have NB39_34:=zLs NB34_39;replace BK34:=zw BK34 hb;clear HB hb hg;have HB:=HB1;clear HB1));try go_wp2_with (first|((with_reducible refine gd 2 rfl ?_);refine zx #[.slice A0_0 l0_0.length c0_0,.slice A0_1 l0_1.length c0_1] 35 ?_;intro gb34 hg w3 BK34 hb GW34 HB1;have GE34:=GW34;clear HB hb hg;have HB:=HB1;clear HB1)|((with_reducible refine gd 3 rfl ?_);refine zx #[.int .i64 a1_0,.int .i64 a1_1] 53 ?_;intro gb39 hg w4 BK39 hb GW39 HB1;have GE39:=GW39;have NB34_39:=zL hg BK34;have NB39_34:=zLs NB34_39;replace BK34:=zw BK34 hb;clear HB hb hg;have HB:=HB1;clear HB1)))
 go_loopg [5] k (fun kq v5 w'=>∃ (x5_1:Int),v5=.int .i64 x5_1∧Aside0 (ancepsref40_fails.l0 kq x5_1 l0_0 l0_1 a1_0 a1_1=some r)∧Aside0 (kq≤k)∧Aside0 (w'.heap[gb34]?=some (.cells #[(.slice A0_0 l0_0.length c0_0),(.slice A0_1 l0_1.length c0_1)] 35 (0,0)))∧Aside0 (w'.heap[gb39]?=some (.cells #[.int .i64 a1_0,.int .i64 a1_1] 53 (0,0)))∧Aside0 (Below w.heap.size w w'))
 case atStart=>exact ⟨(0),zT,H',⟨Nat.le_refl _⟩,⟨by refine zj ?_;exact BK34.out⟩,⟨by refine zj ?_;exact BK39.out⟩,⟨zv2 HB GE34 GE39⟩⟩
 case round=>
  clear H';obtain ⟨x5_1,rfl,HA,HK1,BK34,BK39,HB⟩:=hrel
  cases gk with
  | zero=>exact absurd HA.out (by simp [ancepsref40_fails.l0])
  | succ k1=>
   have H:=HA.out;clear HA;simp only [ancepsref40_fails.l0] at H
   rcases ifd H with ⟨c5b0,H⟩|⟨c5b0,H⟩
   ·obtain ⟨c6b0,H⟩:=ifd1 H;obtain ⟨t57,A7,H⟩:=zo H;have H':=zA H;clear H;have hnb8:=NB34_39.out;have hnc8:=NB39_34.out;have hcz9_0:=zc0 BK34;have hcz9_1:=zc1 BK34;have hfz9_0:=zf BK34;obtain ⟨p56,q56,ad56,e56,hx56_0⟩:=zp (Kd.at_int HR0_1.out x5_1)
    cases e56
    replace hx56_0:=zd HB hx56_0;replace p56:=eq_true p56;replace q56:=eq_true q56
    go_wp2_with (first|(go_at_call 51;(with_reducible refine (ancepsref38_Assignment.calls k1 _ _ l0_0 (rd l0_1 x5_1) t57 _ (zD HR0_0 HB) HC0_0.out A7.out).mono ?_);rintro e w' ⟨rfl,⟨nd,rfl⟩⟩;(try first|exact ⟨rfl,_,World.drewN_drewN _ _ _⟩|exact ⟨rfl,_,Eq.trans (World.drewN_drewN _ _ _) (congrArg (World.drewN _) (Nat.add_assoc _ _ _))⟩)))
    repeat (go_quiet (first|(go_at_call 51;(with_reducible refine (ancepsref38_Assignment.calls k1 _ _ l0_0 (rd l0_1 x5_1) t57 _ (zD HR0_0 HB) HC0_0.out A7.out).mono ?_);rintro e w' ⟨rfl,⟨nd,rfl⟩⟩;(try first|exact ⟨rfl,_,World.drewN_drewN _ _ _⟩|exact ⟨rfl,_,Eq.trans (World.drewN_drewN _ _ _) (congrArg (World.drewN _) (Nat.add_assoc _ _ _))⟩)));try go_wp2_with (first|(go_at_call 51;(with_reducible refine (ancepsref38_Assignment.calls k1 _ _ l0_0 (rd l0_1 x5_1) t57 _ (zD HR0_0 HB) HC0_0.out A7.out).mono ?_);rintro e w' ⟨rfl,⟨nd,rfl⟩⟩;(try first|exact ⟨rfl,_,World.drewN_drewN _ _ _⟩|exact ⟨rfl,_,Eq.trans (World.drewN_drewN _ _ _) (congrArg (World.drewN _) (Nat.add_assoc _ _ _))⟩))))
    go_loopg [7,8] k1 (fun kq v7 v8 w'=>∃ (x7_2:Bool) (x8_2:Int),v7=.bool x7_2∧v8=.int .i64 x8_2∧Aside0 (ancepsref40_fails.l1 kq x5_1 t57 x7_2 x8_2 l0_0 l0_1 a1_0 a1_1=some r)∧Aside0 (kq≤k1)∧Aside0 (w'.heap[gb34]?=some (.cells #[(.slice A0_0 l0_0.length c0_0),(.slice (some ad56) l0_1.length c0_1)] 35 (0,0)))∧Aside0 (w'.heap[gb39]?=some (.cells #[.int .i64 a1_0,.int .i64 a1_1] 53 (0,0)))∧Aside0 (Below w.heap.size w w'))
    case atStart=>exact ⟨(true),(0),zT,zT,H',⟨Nat.le_refl _⟩,⟨by refine zj ?_;exact BK34.out⟩,⟨by refine zj ?_;exact BK39.out⟩,⟨zv2 HB GE34 GE39⟩⟩
    case round=>
     clear H'
     try clear c5
     try clear c5b0
     try clear c6
     try clear c6b0
     try clear hcz9_0
     try clear hcz9_1
     try clear hfz9_0
     try clear hfz9_1
     try clear hx56_0
     try clear p56
     try clear q56
     obtain ⟨x7_2,x8_2,rfl,rfl,HA,HK2,BK34,BK39,HB⟩:=hrel
     cases gk with
     | zero=>exact absurd HA.out (by simp [ancepsref40_fails.l1])
     | succ k2=>
      have H:=HA.out;clear HA;simp only [ancepsref40_fails.l1] at H
      rcases ifd H with ⟨c10b0,H⟩|⟨c10b0,H⟩
      ·obtain ⟨c11b0,H⟩:=ifd1 H;obtain ⟨c12,H⟩:=if1 H;have c12b0:=eq_true c12;have c12b1:decide (0≤(rd l0_0 x8_2))=true:=decide_eq_true c12;clear c12;obtain ⟨ji13,hji13⟩:=zZ (shl .i64 1 (rd l0_0 x8_2))
       first|rw [hji13] at H|simp only [hji13] at H
       have hji13_:(IntKind.i64.wrap (1 * 2 ^ min (rd l0_0 x8_2).toNat 64))=ji13:=hji13;have hji13z:(rd l0_0 x8_2)≤64→(IntKind.i64.wrap (1 * 2 ^ (rd l0_0 x8_2).toNat))=ji13:=shl_small hji13
       have hji13u:(IntKind.i64.wrap (2 ^ min (rd l0_0 x8_2).toNat 64))=ji13:=by have h_:=hji13_;rw [Int.one_mul] at h_;exact h_
       have hji13v:(rd l0_0 x8_2)≤64→(IntKind.i64.wrap (2 ^ (rd l0_0 x8_2).toNat))=ji13:=fun hle_=>by have h_:=hji13z hle_;rw [Int.one_mul] at h_;exact h_
       have hji13y:(wrap64 (1 * 2 ^ min (rd l0_0 x8_2).toNat 64))=ji13:=(i64_w _).symm.trans hji13_
       have hji13x:(rd l0_0 x8_2)≤64→(wrap64 (1 * 2 ^ (rd l0_0 x8_2).toNat))=ji13:=fun h_=>(i64_w _).symm.trans (hji13z h_)
       by_cases c14:x7_2=true
       ·subst c14
        have H1:(if (Go.bits .and .i64 a1_0 (ji13))=0 then (ancepsref40_fails.l1 k2 x5_1 t57 true (wrap64 (x8_2+1)) l0_0 l0_1 a1_0 a1_1) else (ancepsref40_fails.l1 k2 x5_1 t57 ((Go.bits .and .i64 t57 (ji13)) == (Go.bits .and .i64 a1_1 (ji13))) (wrap64 (x8_2+1)) l0_0 l0_1 a1_0 a1_1))=some r:=by rw [if_pos rfl] at H;exact H
        clear H;have H:=H1;clear H1
        rcases ife H with ⟨c15b0,c15b1,H⟩|⟨c15,c15b0,c15b1,H⟩
        ·have H':=zA H;clear H;have hnb16:=NB34_39.out;have hnc16:=NB39_34.out;have hcz17_0:=zc0 BK34;have hcz17_1:=zc1 BK34;have hfz17_0:=zf BK34;obtain ⟨p44,q44,ad44,e44,hx44_0⟩:=zp (Kd.at_int HR0_0.out x8_2)
         cases e44
         replace hx44_0:=zd HB hx44_0;replace p44:=eq_true p44;replace q44:=eq_true q44;have hcz18_0:=zc0 BK39;have hcz18_1:=zc1 BK39;have hfz18_0:=zf BK39
         go_wp2
         repeat (go_quiet (fail);try go_wp2)
         go_roundg k2
         case measure=>have:=HK1.out;have:=HK2.out;omega
         case rel=>exact ⟨(true),(wrap64 (x8_2+1)),zT,zT,H',⟨by have:=HK1.out;have:=HK2.out;omega⟩,⟨by refine zj ?_;exact BK34.out⟩,⟨by refine zj ?_;exact BK39.out⟩,⟨zv2 HB GE34 GE39⟩⟩
        ·have H':=zA H;clear H;have hnb19:=NB34_39.out;have hnc19:=NB39_34.out;have hcz20_0:=zc0 BK34;have hcz20_1:=zc1 BK34;have hfz20_0:=zf BK34;obtain ⟨p44,q44,ad44,e44,hx44_0⟩:=zp (Kd.at_int HR0_0.out x8_2)
         cases e44
         replace hx44_0:=zd HB hx44_0;replace p44:=eq_true p44;replace q44:=eq_true q44;have hcz21_0:=zc0 BK39;have hcz21_1:=zc1 BK39;have hfz21_0:=zf BK39
         go_wp2
         repeat (go_quiet (fail);try go_wp2)
         go_roundg k2
         case measure=>have:=HK1.out;have:=HK2.out;omega
         case rel=>exact ⟨(((Go.bits .and .i64 t57 (ji13)) == (Go.bits .and .i64 a1_1 (ji13)))),(wrap64 (x8_2+1)),(by first|rfl|(simp;done)|(simp only [← hji13] <;> (first|rfl|simp))|(simp [*];done)),zT,H',⟨by have:=HK1.out;have:=HK2.out;omega⟩,⟨by refine zj ?_;exact BK34.out⟩,⟨by refine zj ?_;exact BK39.out⟩,⟨zv2 HB GE34 GE39⟩⟩
       ·replace c14:=Bool.eq_false_iff.mpr c14;subst c14
        have H1:(ancepsref40_fails.l1 k2 x5_1 t57 false (wrap64 (x8_2+1)) l0_0 l0_1 a1_0 a1_1)=some r:=by rw [if_neg (show ¬ (false=true) by decide)] at H;exact H
        clear H;have H:=H1;clear H1;have H':=zA H;clear H;have hnb22:=NB34_39.out;have hnc22:=NB39_34.out;have hcz23_0:=zc0 BK34;have hcz23_1:=zc1 BK34;have hfz23_0:=zf BK34;obtain ⟨p44,q44,ad44,e44,hx44_0⟩:=zp (Kd.at_int HR0_0.out x8_2)
        cases e44
        replace hx44_0:=zd HB hx44_0;replace p44:=eq_true p44;replace q44:=eq_true q44
        go_wp2
        repeat (go_quiet (fail);try go_wp2)
        go_roundg k2
        case measure=>have:=HK1.out;have:=HK2.out;omega
        case rel=>exact ⟨(false),(wrap64 (x8_2+1)),zT,zT,H',⟨by have:=HK1.out;have:=HK2.out;omega⟩,⟨by refine zj ?_;exact BK34.out⟩,⟨by refine zj ?_;exact BK39.out⟩,⟨zv2 HB GE34 GE39⟩⟩
      ·by_cases c24:x7_2=true
       ·subst c24
        have H1:(some false)=some r:=by rw [if_pos rfl] at H;exact H
        clear H;have H:=H1;clear H1;obtain rfl:=Option.some.inj H;have hnb25:=NB34_39.out;have hnc25:=NB39_34.out;have hcz26_0:=zc0 BK34;have hcz26_1:=zc1 BK34;have hfz26_0:=zf BK34
        go_wp2
        repeat (go_quiet (fail);try go_wp2)
        go_ret
        exact ⟨ze,zv2 HB GE34 GE39⟩
       ·replace c24:=Bool.eq_false_iff.mpr c24;subst c24
        have H1:(ancepsref40_fails.l0 k2 (wrap64 (x5_1+1)) l0_0 l0_1 a1_0 a1_1)=some r:=by rw [if_neg (show ¬ (false=true) by decide)] at H;exact H
        clear H;have H:=H1;clear H1;have H':=zA H;clear H;have hnb27:=NB34_39.out;have hnc27:=NB39_34.out;have hcz28_0:=zc0 BK34;have hcz28_1:=zc1 BK34;have hfz28_0:=zf BK34
        go_wp2
        repeat (go_quiet (fail);try go_wp2)
        go_roundg k2
        case measure=>have:=HK1.out;have:=HK2.out;omega
        case rel=>exact ⟨(wrap64 (x5_1+1)),zT,H',⟨by have:=HK1.out;have:=HK2.out;omega⟩,⟨by refine zj ?_;exact BK34.out⟩,⟨by refine zj ?_;exact BK39.out⟩,⟨zv2 HB GE34 GE39⟩⟩
   ·obtain rfl:=Option.some.inj H;have hnb29:=NB34_39.out;have hnc29:=NB39_34.out;have hcz30_0:=zc0 BK34;have hcz30_1:=zc1 BK34;have hfz30_0:=zf BK34
    go_wp2
    repeat (go_quiet (fail);try go_wp2)
    go_ret
    exact ⟨ze,zv2 HB GE34 GE39⟩
end Go.Proofs.Ytkaalbbbpebpdaa.T
