import Derived.Test.YtkjghablbeaioaaGreatB0
import Derived.Test.YtkjghablbeaioaaGreatB2
import Derived.Test.YtkjghablbeaioaaGreatB3
import Derived.Test.YtkjghablbeaioaaGreatB5
import Derived.Test.YtkjghablbeaioaaGreatB7
namespace Go.Proofs.YtkjghablbeaioaaGreat.B
open Go.RowKit Go.Proofs.YtkjghablbeaioaaGreatW.PrintWords Go.Proofs.YtkjghablbeaioaaGreatW.PrintLast Go.Proofs.YtkjghablbeaioaaGreatW.PrintMore
attribute [local go_sem] max2_int min2_int max_two min_two max_three min_three max_four min_four Tryz.underlying23 Tryz.underlying3
set_option linter.unusedVariables false
set_option linter.unusedSimpArgs false
mutual
def slices_Concat_int_int.l0:Nat→List (List Int)→Int→List (List Int)→Int→Int→Option (List Int)
 | 0,_,_,_,_,_=>none
 | k+1,x0,x3,x9,x10,x11=>if x11<x10 then (if 0≤x11 then (if x11<(x9.length:Int) then (if (wrap64 (x3+((rd_L1 x9 x11).length:Int)))<0 then (none) else (slices_Concat_int_int.l0 k x0 (wrap64 (x3+((rd_L1 x9 x11).length:Int))) x9 x10 (wrap64 (x11+1)))) else (none)) else (none)) else ((slices_Grow_int_int.f ([]:List Int) x3).bind fun t68=>(slices_Concat_int_int.l1 k t68 x0 (x0.length:Int) 0))
def slices_Concat_int_int.l1:Nat→List Int→List (List Int)→Int→Int→Option (List Int)
 | 0,_,_,_,_=>none
 | k+1,x6,x25,x26,x27=>if x27<x26 then (if 0≤x27 then (if x27<(x25.length:Int) then (if x6.length+(rd_L1 x25 x27).length<17592186044416 then (slices_Concat_int_int.l1 k (x6++(rd_L1 x25 x27)) x25 x26 (wrap64 (x27+1))) else (none)) else (none)) else (none)) else (some x6)
end
def slices_Concat_int_int.f (k:Nat) (l0:List (List Int)):Option (List Int):=slices_Concat_int_int.l0 k l0 0 l0 (l0.length:Int) 0
set_option maxHeartbeats 8000000 in
set_option maxRecDepth 100000 in
theorem slices_Concat_int_int.calls (k:Nat) (A0:Option Addr) (c0:Nat) (l0:List (List Int)) (r:List Int) (w:World) (hr0:Kd.C (Kd.slice 3 (Kd.int .i64)) w A0 l0.length l0) (hc0:l0.length≤c0) (h:slices_Concat_int_int.f k l0=some r) :
  Calls Tryz.prog 57 #[.slice A0 l0.length c0] w fun e w'=>∃ v0_:Value,e=.returned (v0_)∧Kd.R (Kd.int .i64) 3 w' w.heap.size (fun _=>True) v0_ r∧Below w.heap.size w w':=by
 have HR0:=zA hr0;have HC0:=zA hc0;clear hr0 hc0;have HB:=zA (Below.refl w.heap.size w);have H:(slices_Concat_int_int.l0 k l0 0 l0 (l0.length:Int) 0)=some r:=h;clear h;have H':=zA H;clear H
 go_enter Tryz.func57,Tryz.ntmps57
 go_wp2
 go_loopg [3,11] k (fun kq v3 v11 w'=>∃ (x3_1:Int) (x11_1:Int),v3=.int .i64 x3_1∧v11=.int .i64 x11_1∧Aside0 (slices_Concat_int_int.l0 kq l0 x3_1 l0 (l0.length:Int) x11_1=some r)∧Aside0 (kq≤k)∧Aside0 (Below w.heap.size w w'))
 case atStart=>exact ⟨(0),(0),zT,zT,H',⟨Nat.le_refl _⟩,⟨zv0 HB⟩⟩
 case round=>
  clear H';obtain ⟨x3_1,x11_1,rfl,rfl,HA,HK1,HB⟩:=hrel
  cases gk with
  | zero=>exact absurd HA.out (by simp [slices_Concat_int_int.l0])
  | succ k1=>
   have H:=HA.out;clear HA;simp only [slices_Concat_int_int.l0] at H
   rcases ifd H with ⟨c2b0,H⟩|⟨c2b0,H⟩
   ·obtain ⟨c3b0,H⟩:=ifd1 H;obtain ⟨c4b0,H⟩:=ifd1 H;obtain ⟨c5b0,H⟩:=ifd2 H;have H':=zA H;clear H;obtain ⟨p37,q37,ad37,A37_0,c37_0,e37,hx37_0,hl37_0,hi37_0⟩:=zp (at_L1 HR0.out x11_1)
    cases e37
    replace hx37_0:=zd HB hx37_0;have HR37_0:=zA hi37_0;have HC37_0:=zA hl37_0;clear hi37_0 hl37_0;replace p37:=eq_true p37;replace q37:=eq_true q37
    go_wp2
    go_roundg k1
    case measure=>have:=HK1.out;omega
    case rel=>exact ⟨(wrap64 (x3_1+((rd_L1 l0 x11_1).length:Int))),(wrap64 (x11_1+1)),zT,zT,H',⟨by have:=HK1.out;omega⟩,⟨zv0 HB⟩⟩
   ·obtain ⟨t68,A6,H⟩:=zo H;have H':=zA H;clear H
    go_wp2_with (first|((with_reducible refine gate_callee (f:=85) rfl ?_);refine zgo 24 Tryz.func85 #[.slice none 0 0,.int .i64 x3_1] ?_;(refine (slices_Grow_int_int.calls (fun k_=>some k_=(.slice none 0 0:Value).ownBlock) (.slice none 0 0) ([]:List Int) x3_1 t68 w _ ?side1 ?side2 A6.out).mono ?_);(case side1=>repeat (first|(with_reducible first|exact HB.out|apply below_alloc|apply pw_below_drewN|apply below_drew1)|exact HB.out));(case side2=>exact Kd.R_nil _ _ _ _ _);rintro e w7 ⟨v79,rfl,ho0,hb,hkp⟩;refine ⟨_,rfl,?_⟩;have HO72:=zA (Kd.R_mono (ok':=fun k_=>True) ho0 (fun k_ hk_=>trivial));replace HB:=zA (hb);(try clear hb);(try clear hkp);(try clear ho0)))
    go_loopg [6,27] k1 (fun kq v6 v27 w'=>∃ (x6_2:List Int) (x27_2:Int),v27=.int .i64 x27_2∧Aside0 (slices_Concat_int_int.l1 kq x6_2 l0 (l0.length:Int) x27_2=some r)∧Aside0 (kq≤k1)∧Aside0 (Kd.R (Kd.int .i64) 3 w' w.heap.size (fun _=>True) v6 x6_2)∧Aside0 (Below w.heap.size w w'))
    case atStart=>exact ⟨(t68),(0),zT,H',⟨Nat.le_refl _⟩,⟨by refine zr ?_;exact HO72.out⟩,⟨zv0 HB⟩⟩
    case round=>
     clear H'
     try clear c2
     try clear c2b0
     obtain ⟨x6_2,x27_2,rfl,HA,HK2,HO_6,HB⟩:=hrel
     cases gk with
     | zero=>exact absurd HA.out (by simp [slices_Concat_int_int.l1])
     | succ k2=>
      have H:=HA.out;clear HA;simp only [slices_Concat_int_int.l1] at H
      rcases ifd H with ⟨c8b0,H⟩|⟨c8b0,H⟩
      ·obtain ⟨c9b0,H⟩:=ifd1 H;obtain ⟨c10b0,H⟩:=ifd1 H;obtain ⟨c11,H⟩:=if1 H;have LMc11:=zA c11;clear c11
       first|(replace H:=zyb (x6_2++(rd_L1 l0 x27_2)) H;obtain ⟨y46,Ny46,H⟩:=H)|(obtain ⟨y46,hy46⟩:=zY (x6_2++(rd_L1 l0 x27_2));(try rw (occs:=.pos [1]) [← hy46] at H);have Ny46:=zA hy46;clear hy46)
       have H':=zA H;clear H;obtain ⟨p36,q36,ad36,A36_0,c36_0,e36,hx36_0,hl36_0,hi36_0⟩:=zp (at_L1 HR0.out x27_2)
       cases e36
       replace hx36_0:=zd HB hx36_0;have HR36_0:=zA hi36_0;have HC36_0:=zA hl36_0;clear hi36_0 hl36_0;replace p36:=eq_true p36;replace q36:=eq_true q36
       go_wp2_with (first|((with_reducible refine gate_builtin (b:=.append) (xs:=#[.tmp 31,.tmp 32]) rfl ?_);at_builtin;refine Kd.R_append_rows (Kd.int .i64) (w0:=w) w.heap.size rfl (.tmp 31) (.tmp 32) 23 3 (.int .i64 0) 8 rfl Tryz.underlying23 info3 rfl (by decide) (by omega) u6 x6_2 (rd_L1 l0 x27_2) _ _ _ (fun _=>True) (fun _=>False) rfl rfl ?aO ?aR (fun _ _ h=>h) (fun _ h=>h.elim) ?aF ?aB ?aS ?aL ?_;(case aR=>exact zC (Kd.C_below HR36_0.out HB.out));(case aB=>exact zB);(case aF=>exact (fun _ _=>trivial));(case aO=>exact (zR HO_6));(case aS=>exact (below_size zB));(case aL=>have:=LMc11.out;omega);intro v80 w12 ho hb hg hat;rw [← Ny46.out] at ho;have HO73:=zA (ho);replace HB:=zA (hb);clear HO_6;clear ho hb hg hat))
       go_roundg k2
       case measure=>have:=HK1.out;have:=HK2.out;omega
       case rel=>exact ⟨(y46),(wrap64 (x27_2+1)),zT,H',⟨by have:=HK1.out;have:=HK2.out;omega⟩,⟨by refine zr ?_;exact HO73.out⟩,⟨zv0 HB⟩⟩
      ·obtain rfl:=Option.some.inj H
       go_wp2
       go_ret
       exact ⟨_,ze,by refine zr ?_;exact HO_6.out,zv0 HB⟩
def conflict_Blame.f (k:Nat) (l0:List (S49)):Option (List Int×Int):=(conflict_Cores.f k l0).bind fun bt43=>(if bt43.2=0 then ((slices_Concat_int_int.f k bt43.1).bind fun t41=>((slices_Sort_int_int.f t41).bind fun t56=>((slices_Compact_int_int.f t56).bind fun t67=>(some (t67,0))))) else (some (([]:List Int),bt43.2)))
set_option maxHeartbeats 8000000 in
set_option maxRecDepth 100000 in
theorem conflict_Blame.calls (k:Nat) (A0:Option Addr) (c0:Nat) (l0:List (S49)) (r1:List Int) (r2:Int) (w:World) (hr0:Kd.C k49 w A0 l0.length l0) (hc0:l0.length≤c0) (h:conflict_Blame.f k l0=some (r1,r2)) :
  Calls Tryz.prog 24 #[.slice A0 l0.length c0] w fun e w'=>∃ v0_:Value,e=.returned (.tuple #[v0_,.int .i64 r2])∧Kd.R (Kd.int .i64) 3 w' w.heap.size (fun _=>True) v0_ r1∧Below w.heap.size w w':=by
 have HR0:=zA hr0;have HC0:=zA hc0;clear hr0 hc0;have HB:=zA (Below.refl w.heap.size w);have H:((conflict_Cores.f k l0).bind fun bt43=>(if bt43.2=0 then ((slices_Concat_int_int.f k bt43.1).bind fun t41=>((slices_Sort_int_int.f t41).bind fun t56=>((slices_Compact_int_int.f t56).bind fun t67=>(some (t67,0))))) else (some (([]:List Int),bt43.2))))=some (r1,r2):=h;clear h;obtain ⟨t43,t74,A2,H⟩:=zO H
 dsimp only at H
 have HC3:=zA H;clear H
 go_enter Tryz.func24,Tryz.ntmps24
 go_upto_if 13 with (first|((with_reducible refine gate_callee (f:=22) rfl ?_);refine zgo 9 Tryz.func22 #[.slice A0 l0.length c0] ?_;(with_reducible refine (conflict_Cores.calls k _ _ l0 t43 t74 _ ?side1 HC0.out A2.out).mono ?_);(case side1=>repeat (first|exact HR0.out|(with_reducible refine Kd.C_alloc ?_ _)|(with_reducible refine Kd.C_drewN ?_ _)|(with_reducible refine Kd.C_drew ?_)));rintro e w4 ⟨v81,rfl,ho0,hb⟩;refine ⟨_,rfl,?_⟩;have HO47:=zA (Kd.N_lower (Kd.N_mono (ok':=fun k_=>True) ho0 (fun k_ hk_=>trivial)) (below_size zB));replace HB:=zu hb;clear hb;(try clear ho0)))
 (try simp only [Act.put,zi,zs,zt]);have H:=HC3.out;clear HC3
 rcases ife H with ⟨c5b0,c5b1,H⟩|⟨c5,c5b0,c5b1,H⟩
 ·(first|rw [c5b0]|(simp only [i64_w,i32_w];rw [c5b0])|skip)
  (try rw [c5b1]);obtain ⟨t41,A6,H⟩:=zo H;obtain ⟨t56,A7,H⟩:=zo H;obtain ⟨t67,A8,H⟩:=zo H;simp only [Option.some.injEq,Prod.mk.injEq] at H;obtain ⟨rfl,rfl⟩:=H;obtain ⟨Ao9,co9,eo9⟩:=Kd.N_slice HO47.out;subst eo9
  go_wp2_with (first|((with_reducible refine gate_callee (f:=57) rfl ?_);refine zgo 16 Tryz.func57 #[.slice Ao9 t43.length co9] ?_;(with_reducible refine (slices_Concat_int_int.calls k _ _ t43 t41 _ ?side1 ?side2 A6.out).mono ?_);(case side1=>exact zC (Kd.N_reads' HO47.out).2.2);(case side2=>exact (Kd.N_reads' HO47.out).2.1);rintro e w10 ⟨v82,rfl,ho0,hb⟩;refine ⟨_,rfl,?_⟩;have HO62:=zA (Kd.R_lower ho0 (below_size zB));replace HO47:=zA (Kd.N_elder' (zN HO47) (Kd.R_base ho0) hb);replace HB:=zu hb;clear hb;(try clear ho0);obtain ⟨Ao11,co11,eo11⟩:=Kd.R_slice HO62.out;subst eo11)|((with_reducible refine gate_callee (f:=58) rfl ?_);refine zgo 18 Tryz.func58 #[.slice Ao11 t41.length co11] ?_;(with_reducible refine (slices_Sort_int_int.calls (fun k_=>some k_=(.slice Ao11 t41.length co11:Value).ownBlock) (.slice Ao11 t41.length co11) t41 t56 w _ ?side1 ?side2 A7.out).mono ?_);(case side1=>repeat (first|(with_reducible first|exact HB.out|apply below_alloc|apply pw_below_drewN|apply below_drew1)|exact HB.out));(case side2=>exact Kd.R_tight rfl HO62.out);rintro e w12 ⟨rfl,hy0,hb,hkp⟩;refine ⟨_,rfl,?_⟩;replace HO47:=zA (Kd.N_mono (ok':=fun k_=>some k_≠(.slice Ao11 t41.length co11:Value).ownBlock) (Kd.N_keptB (HO47.out) hkp (fun k_ hk_ hs_=>(hk_.2) hs_)) (fun k_ hk_=>hk_.1.2));replace HO62:=zA (Kd.R_reok rfl hy0 (fun k_ e_=>HO62.out.1 k_ e_));replace HB:=zA (hb);(try clear hb);(try clear hkp);(try clear hy0))|((with_reducible refine gate_callee (f:=59) rfl ?_);refine zgo 20 Tryz.func59 #[.slice Ao11 t41.length co11] ?_;(with_reducible refine (slices_Compact_int_int.calls (fun k_=>some k_=(.slice Ao11 t41.length co11:Value).ownBlock) (.slice Ao11 t41.length co11) t56 t67 w _ ?side1 ?side2 A8.out).mono ?_);(case side1=>repeat (first|(with_reducible first|exact HB.out|apply below_alloc|apply pw_below_drewN|apply below_drew1)|exact HB.out));(case side2=>exact Kd.R_tight rfl HO62.out);rintro e w13 ⟨v75,rfl,ho0,hb,hkp⟩;refine ⟨_,rfl,?_⟩;have HO76:=zA (Kd.R_mono (ok':=fun k_=>True) ho0 (fun k_ hk_=>trivial));replace HO47:=zA (Kd.N_mono (ok':=fun k_=>some k_≠(v75:Value).ownBlock) (Kd.N_keptB (HO47.out) hkp (fun k_ hk_ hs_=>(hk_) hs_)) (fun k_ hk_=>fun e_=>Or.elim (ho0.1 k_ e_.symm) (fun hs_=>hk_.2.1 hs_) (fun hn_=>Nat.not_le.2 hk_.2.2 hn_)));replace HB:=zA (hb);clear HO62;(try clear hb);(try clear hkp);(try clear ho0)))
  go_ret2
  exact ⟨_,ze,by refine zr ?_;exact HO76.out,zv0 HB⟩
 ·(first|rw [c5b0]|(simp only [i64_w,i32_w];rw [c5b0])|skip)
  (try rw [c5b1]);simp only [Option.some.injEq,Prod.mk.injEq] at H;obtain ⟨rfl,rfl⟩:=H
  go_wp2
  go_ret2
  exact ⟨_,ze,by first|exact Kd.R_nil _ _ _ _ _|exact Kd.N_nil _ _ _ _ _|exact Kd.V_nil _ _ _ _ _|exact Kd.Q_nil _ _ _ _ _|exact Kd.S_nil _ _ _ _ _,zv0 HB⟩
def conflict_ascending.l0:Nat→List Int→Int→List Int→Int→Int→Option (Bool)
 | 0,_,_,_,_,_=>none
 | k+1,x0,x1,x7,x8,x9=>if x9<x8 then (if 0≤x9 then (if x9<(x7.length:Int) then (if (rd x7 x9)<0 then (some false) else (if (rd x7 x9)≥x1 then (some false) else (if x9>0 then (if 0≤(wrap64 (x9 - 1)) then (if (wrap64 (x9 - 1))<(x0.length:Int) then (if (rd x0 (wrap64 (x9 - 1)))≥(rd x7 x9) then (some false) else (conflict_ascending.l0 k x0 x1 x7 x8 (wrap64 (x9+1)))) else (none)) else (none)) else (conflict_ascending.l0 k x0 x1 x7 x8 (wrap64 (x9+1)))))) else (none)) else (none)) else (some true)
def conflict_ascending.f (k:Nat) (l0:List Int) (a1:Int):Option (Bool):=conflict_ascending.l0 k l0 a1 l0 (l0.length:Int) 0
set_option maxHeartbeats 8000000 in
set_option maxRecDepth 100000 in
theorem conflict_ascending.calls (k:Nat) (A0:Option Addr) (c0:Nat) (l0:List Int) (a1:Int) (r:Bool) (w:World) (hr0:Kd.C (Kd.int .i64) w A0 l0.length l0) (hc0:l0.length≤c0) (h:conflict_ascending.f k l0 a1=some r) :
  Calls Tryz.prog 31 #[.slice A0 l0.length c0,.int .i64 a1] w fun e w'=>e=.returned (.bool r)∧Drawn0 w w':=by
 have HR0:=zA hr0;have HC0:=zA hc0;clear hr0 hc0;have H:(conflict_ascending.l0 k l0 a1 l0 (l0.length:Int) 0)=some r:=h;clear h;have H':=zA H;clear H
 go_enter Tryz.func31,Tryz.ntmps31
 go_wp2
 go_loopg [9] k (fun kq v9 w'=>∃ (x9_1:Int),v9=.int .i64 x9_1∧Aside0 (conflict_ascending.l0 kq l0 a1 l0 (l0.length:Int) x9_1=some r)∧Aside0 (kq≤k)∧Drawn0 w w')
 case atStart=>exact ⟨(0),zT,H',⟨Nat.le_refl _⟩,by repeat (first|exact Drawn0.refl _|apply Drawn0.step)⟩
 case round=>
  clear H';obtain ⟨x9_1,rfl,HA,HK1,⟨m1,rfl⟩⟩:=hrel
  cases gk with
  | zero=>exact absurd HA.out (by simp [conflict_ascending.l0])
  | succ k1=>
   have H:=HA.out;clear HA;simp only [conflict_ascending.l0] at H
   rcases ifd H with ⟨c3b0,H⟩|⟨c3b0,H⟩
   ·obtain ⟨c4b0,H⟩:=ifd1 H;obtain ⟨c5b0,H⟩:=ifd1 H
    rcases ifd H with ⟨c6b0,H⟩|⟨c6b0,H⟩
    ·obtain rfl:=Option.some.inj H;obtain ⟨p33,q33,ad33,e33,hx33_0⟩:=zp (Kd.at_int HR0.out x9_1)
     cases e33
     replace p33:=eq_true p33;replace q33:=eq_true q33
     go_wp2
     go_ret
     exact ⟨by first|rfl|(simp;done)|(simp [*];done),by repeat (first|exact Drawn0.refl _|apply Drawn0.step)⟩
    ·rcases if0 H with ⟨c7,H⟩|⟨c7,H⟩
     ·have c7b0:decide (a1≤(rd l0 x9_1))=true:=decide_eq_true c7;clear c7;obtain rfl:=Option.some.inj H;obtain ⟨p33,q33,ad33,e33,hx33_0⟩:=zp (Kd.at_int HR0.out x9_1)
      cases e33
      replace p33:=eq_true p33;replace q33:=eq_true q33
      go_wp2
      go_ret
      exact ⟨by first|rfl|(simp;done)|(simp [*];done),by repeat (first|exact Drawn0.refl _|apply Drawn0.step)⟩
     ·have c7b0:decide (a1≤(rd l0 x9_1))=false:=decide_eq_false c7;clear c7
      rcases if0 H with ⟨c8,H⟩|⟨c8,H⟩
      ·have c8b0:decide (0<x9_1)=true:=decide_eq_true c8;clear c8;obtain ⟨ji9,hji9⟩:=zZ (wrap64 (x9_1 - 1))
       first|rw [hji9] at H|simp only [hji9] at H
       have hji9w:(IntKind.i64.wrap (x9_1 - 1))=ji9:=(i64_w _).trans hji9;obtain ⟨c10b0,H⟩:=ifd1 H;obtain ⟨c11b0,H⟩:=ifd1 H
       rcases if0 H with ⟨c12,H⟩|⟨c12,H⟩
       ·have c12b0:decide ((rd l0 x9_1)≤(rd l0 (ji9)))=true:=decide_eq_true c12;clear c12;obtain rfl:=Option.some.inj H;obtain ⟨p33,q33,ad33,e33,hx33_0⟩:=zp (Kd.at_int HR0.out x9_1)
        cases e33
        replace p33:=eq_true p33;replace q33:=eq_true q33;obtain ⟨p38,q38,ad38,e38,hx38_0⟩:=zp (Kd.at_int HR0.out (ji9))
        obtain rfl:ad33=ad38:=(by injection e38)
        replace p38:=eq_true p38;replace q38:=eq_true q38
        go_wp2
        go_ret
        exact ⟨by first|rfl|(simp;done)|(simp only [← hji9] <;> (first|rfl|simp))|(simp [*];done),by repeat (first|exact Drawn0.refl _|apply Drawn0.step)⟩
       ·have c12b0:decide ((rd l0 x9_1)≤(rd l0 (ji9)))=false:=decide_eq_false c12;clear c12;have H':=zA H;clear H;obtain ⟨p33,q33,ad33,e33,hx33_0⟩:=zp (Kd.at_int HR0.out x9_1)
        cases e33
        replace p33:=eq_true p33;replace q33:=eq_true q33;obtain ⟨p38,q38,ad38,e38,hx38_0⟩:=zp (Kd.at_int HR0.out (ji9))
        obtain rfl:ad33=ad38:=(by injection e38)
        replace p38:=eq_true p38;replace q38:=eq_true q38
        go_wp2
        go_roundg k1
        case measure=>have:=HK1.out;omega
        case rel=>exact ⟨(wrap64 (x9_1+1)),zT,H',⟨by have:=HK1.out;omega⟩,by repeat (first|exact Drawn0.refl _|apply Drawn0.step)⟩
      ·have c8b0:decide (0<x9_1)=false:=decide_eq_false c8;clear c8;have H':=zA H;clear H;obtain ⟨p33,q33,ad33,e33,hx33_0⟩:=zp (Kd.at_int HR0.out x9_1)
       cases e33
       replace p33:=eq_true p33;replace q33:=eq_true q33
       go_wp2
       go_roundg k1
       case measure=>have:=HK1.out;omega
       case rel=>exact ⟨(wrap64 (x9_1+1)),zT,H',⟨by have:=HK1.out;omega⟩,by repeat (first|exact Drawn0.refl _|apply Drawn0.step)⟩
   ·obtain rfl:=Option.some.inj H
    go_wp2
    go_ret
    exact ⟨by first|rfl|(simp;done)|(simp [*];done),by repeat (first|exact Drawn0.refl _|apply Drawn0.step)⟩
section
open Go.Sort Go.Shelf
def slices_Delete_int_int.f (l0:List Int) (a1:Int) (a2:Int):Option (List Int):=if 0≤a1 then (if a1<a2 then (if a2≤(l0.length:Int) then some (l0.take a1.toNat++l0.drop a2.toNat) else none) else none) else none
theorem slices_Delete_int_int.calls (P0_:Nat→Prop) (u70_:Value) (l0:List Int) (a1:Int) (a2:Int) (r:List Int) (w0 w:World) (hB:Below w0.heap.size w0 w) (ho0:Kd.R (Kd.int .i64) 3 w w0.heap.size P0_ u70_ l0) (h:slices_Delete_int_int.f l0 a1 a2=some r) :
 Calls Tryz.prog 61 #[u70_,.int .i64 a1,.int .i64 a2] w fun e w'=>∃ v0_:Value,e=.returned (v0_)∧Kd.R (Kd.int .i64) 3 w' w0.heap.size (fun k_=>(P0_ k_∨w.heap.size≤k_)) v0_ r∧Below w0.heap.size w0 w'∧Kept w w' (fun k_=>P0_ k_):=by
 unfold slices_Delete_int_int.f at h
 by_cases h0:0≤a1
 case neg=>rw [if_neg h0] at h;cases h
 rw [if_pos h0] at h
 by_cases h1:a1<a2
 case neg=>rw [if_neg h1] at h;cases h
 rw [if_pos h1] at h
 by_cases h2:a2≤(l0.length:Int)
 case neg=>rw [if_neg h2] at h;cases h
 rw [if_pos h2] at h;obtain rfl:=Option.some.inj h;clear h
 obtain ⟨i,rfl⟩:∃ i:Nat,a1=i:=⟨a1.toNat,by omega⟩
 obtain ⟨j,rfl⟩:∃ j:Nat,a2=j:=⟨a2.toNat,by omega⟩
 simp only [Int.toNat_natCast];obtain ⟨A,c,rfl⟩:=Kd.R_slice ho0
 have hone:OneCell (Value.int .i64):=fun _=>rfl
 have had:∃ g,A=some ⟨g,0,none⟩:=by
  have ho:=Kd.own_of_R (enc:=Value.int .i64) (h1:=fun _=>rfl) ho0
  rcases ho.2 with ⟨_,h3⟩|⟨g,_,_,h3,_⟩
  ·omega
  ·injection h3 with h3;exact ⟨g,h3⟩
 obtain ⟨g,rfl⟩:=had;obtain ⟨k1,k2,k3,k4,k5,k6,k7⟩:=int_row ho0;obtain ⟨i0,hi0,hz1⟩:=Option.map_eq_some_iff.1 (show (Tryz.prog.info? 3).map (fun i=>i.size)=some 1 by kernel_rfl);have key:=AnyE.slices_Delete laysDel (Value.int .i64) hone 0 Tryz.zeroValue3 i0 hi0 hz1 g 0 c i j l0.toArray w k7 (by simpa using k5) (by unfold maxLen at k6;omega) (by omega) (by simp;omega);rw [List.size_toArray] at key;refine key.mono ?_;rintro e w' ⟨rfl,q,rfl⟩
 have hlen:(l0.take i++l0.drop j).length=l0.length - (j - i):=by simp;omega
 have hr:=int_row_put (ok':=fun k_=>(P0_ k_∨w.heap.size≤k_)) (ys:=(l0.take i++l0.drop j)++List.replicate (j - i) 0) (k:=(l0.take i++l0.drop j).length) ho0 q #[] (by simp;omega) (by omega) (.inl k1);rw [List.take_left,grow_empty] at hr;have hb:=put_below hB k2 q #[] ((l0.take i++l0.drop j)++List.replicate (j - i) 0).toArray;have hk:=put_kept (ok:=fun k_=>P0_ k_) (w:=w) q #[] ((l0.take i++l0.drop j)++List.replicate (j - i) 0).toArray k1;rw [grow_empty] at hb hk;rw [hlen] at hr;exact ⟨_,rfl,hr,hb,hk⟩
end
def conflict_Shrink.l0:Nat→List (S49)→List Int→List Int→Int→Int→Option (List Int×Int)
 | 0,_,_,_,_,_=>none
 | k+1,x0,x7,x27,x28,x29=>if x29<x28 then (if 0≤x29 then (if x29<(x27.length:Int) then ((slices_Index_int_int.f k x7 (rd x27 x29)).bind fun t48=>((slices_Clone_int_int.f x7).bind fun t53=>((slices_Delete_int_int.f t53 t48 (wrap64 (t48+1))).bind fun t51=>((conflict_solvable.f k x0 t51).bind fun t69=>(if t69=true then (conflict_Shrink.l0 k x0 x7 x27 x28 (wrap64 (x29+1))) else (conflict_Shrink.l0 k x0 t51 x27 x28 (wrap64 (x29+1)))))))) else (none)) else (none)) else (some (x7,0))
def conflict_Shrink.f (k:Nat) (l0:List (S49)) (l1:List Int):Option (List Int×Int):=(conflict_valid.f k l0).bind fun t55=>(if t55=0 then ((conflict_ascending.f k l1 (l0.length:Int)).bind fun t63=>(if t63=true then ((conflict_solvable.f k l0 l1).bind fun t52=>(if t52=true then (some (([]:List Int),11)) else ((slices_Clone_int_int.f l1).bind fun t45=>(conflict_Shrink.l0 k l0 t45 l1 (l1.length:Int) 0)))) else (some (([]:List Int),1)))) else (some (([]:List Int),t55)))
set_option maxHeartbeats 8000000 in
set_option maxRecDepth 100000 in
theorem conflict_Shrink.calls (k:Nat) (A0:Option Addr) (c0:Nat) (l0:List (S49)) (A1:Option Addr) (c1:Nat) (l1:List Int) (r1:List Int) (r2:Int) (w:World) (hr0:Kd.C k49 w A0 l0.length l0) (hc0:l0.length≤c0) (hr1:Kd.C (Kd.int .i64) w A1 l1.length l1) (hc1:l1.length≤c1) (h:conflict_Shrink.f k l0 l1=some (r1,r2)) :
  Calls Tryz.prog 25 #[.slice A0 l0.length c0,.slice A1 l1.length c1] w fun e w'=>∃ v0_:Value,e=.returned (.tuple #[v0_,.int .i64 r2])∧Kd.R (Kd.int .i64) 3 w' w.heap.size (fun _=>True) v0_ r1∧Below w.heap.size w w':=by
 have HR0:=zA hr0;have HC0:=zA hc0;clear hr0 hc0;have HR1:=zA hr1;have HC1:=zA hc1;clear hr1 hc1;have HB:=zA (Below.refl w.heap.size w);have H:((conflict_valid.f k l0).bind fun t55=>(if t55=0 then ((conflict_ascending.f k l1 (l0.length:Int)).bind fun t63=>(if t63=true then ((conflict_solvable.f k l0 l1).bind fun t52=>(if t52=true then (some (([]:List Int),11)) else ((slices_Clone_int_int.f l1).bind fun t45=>(conflict_Shrink.l0 k l0 t45 l1 (l1.length:Int) 0)))) else (some (([]:List Int),1)))) else (some (([]:List Int),t55))))=some (r1,r2):=h;clear h;obtain ⟨t55,A3,H⟩:=zo H;have HC4:=zA H;clear H
 go_enter Tryz.func25,Tryz.ntmps25
 go_upto_if 15 with (first|((with_reducible refine gate_callee (f:=30) rfl ?_);refine zgo 13 Tryz.func30 #[.slice A0 l0.length c0] ?_;(with_reducible refine (conflict_valid.calls k _ _ l0 t55 _ ?side1 HC0.out A3.out).mono ?_);(case side1=>repeat (first|exact HR0.out|(with_reducible refine Kd.C_alloc ?_ _)|(with_reducible refine Kd.C_drewN ?_ _)|(with_reducible refine Kd.C_drew ?_)));rintro e w5 ⟨rfl,hb⟩;refine ⟨_,rfl,?_⟩;replace HB:=zu hb;clear hb))
 (try simp only [Act.put,zi,zs,zt]);have H:=HC4.out;clear HC4
 rcases ife H with ⟨c6b0,c6b1,H⟩|⟨c6,c6b0,c6b1,H⟩
 ·(first|rw [c6b0]|(simp only [i64_w,i32_w];rw [c6b0])|skip)
  (try rw [c6b1]);obtain ⟨t63,A7,H⟩:=zo H;have HC8:=zA H;clear H
  go_upto_if 21 with (first|((with_reducible refine gate_callee (f:=31) rfl ?_);refine zgo 20 Tryz.func31 #[.slice A1 l1.length c1,.int .i64 (l0.length:Int)] ?_;(with_reducible refine (conflict_ascending.calls k _ _ l1 (l0.length:Int) t63 _ (zD HR1 HB) HC1.out A7.out).mono ?_);rintro e w' ⟨rfl,⟨nd,rfl⟩⟩;refine ⟨_,rfl,?_⟩))
  (try simp only [Act.put,zi,zs,zt]);have H:=HC8.out;clear HC8
  by_cases c9:t63=true
  ·subst c9
   have H1:((conflict_solvable.f k l0 l1).bind fun t52=>(if t52=true then (some (([]:List Int),11)) else ((slices_Clone_int_int.f l1).bind fun t45=>(conflict_Shrink.l0 k l0 t45 l1 (l1.length:Int) 0))))=some (r1,r2):=by rw [if_pos rfl] at H;exact H
   clear H;have H:=H1;clear H1;obtain ⟨t52,A10,H⟩:=zo H;have HC11:=zA H;clear H
   go_upto_if 24 with (first|((with_reducible refine gate_callee (f:=54) rfl ?_);refine zgo 24 Tryz.func54 #[.slice A0 l0.length c0,.slice A1 l1.length c1] ?_;(with_reducible refine (conflict_solvable.calls k _ _ l0 _ _ l1 t52 _ (zD HR0 HB) HC0.out (zD HR1 HB) HC1.out A10.out).mono ?_);rintro e w12 ⟨rfl,hb⟩;refine ⟨_,rfl,?_⟩;replace HB:=zu hb;clear hb))
   (try simp only [Act.put,zi,zs,zt]);have H:=HC11.out;clear HC11
   by_cases c13:t52=true
   ·subst c13
    have H1:(some (([]:List Int),11))=some (r1,r2):=by rw [if_pos rfl] at H;exact H
    clear H;have H:=H1;clear H1;simp only [Option.some.injEq,Prod.mk.injEq] at H;obtain ⟨rfl,rfl⟩:=H
    go_wp2
    go_ret2
    exact ⟨_,ze,by first|exact Kd.R_nil _ _ _ _ _|exact Kd.N_nil _ _ _ _ _|exact Kd.V_nil _ _ _ _ _|exact Kd.Q_nil _ _ _ _ _|exact Kd.S_nil _ _ _ _ _,zv0 HB⟩
   ·replace c13:=Bool.eq_false_iff.mpr c13;subst c13
    have H1:((slices_Clone_int_int.f l1).bind fun t45=>(conflict_Shrink.l0 k l0 t45 l1 (l1.length:Int) 0))=some (r1,r2):=by rw [if_neg (show ¬ (false=true) by decide)] at H;exact H
    clear H;have H:=H1;clear H1;obtain ⟨t45,A14,H⟩:=zo H;have H':=zA H;clear H
    go_wp2_with (first|((with_reducible refine gate_callee (f:=11) rfl ?_);refine zgo 26 Tryz.func11 #[.slice A1 l1.length c1] ?_;(with_reducible refine (slices_Clone_int_int.calls _ _ l1 t45 _ (zD HR1 HB) HC1.out A14.out).mono ?_);rintro e w15 ⟨v83,rfl,ho0,hb⟩;refine ⟨_,rfl,?_⟩;have HO77:=zA (Kd.R_lower ho0 (below_size zB));replace HB:=zu hb;clear hb;(try clear ho0)))
    go_loopg [7,29] k (fun kq v7 v29 w'=>∃ (x7_1:List Int) (x29_1:Int),v29=.int .i64 x29_1∧Aside0 (conflict_Shrink.l0 kq l0 x7_1 l1 (l1.length:Int) x29_1=some (r1,r2))∧Aside0 (kq≤k)∧Aside0 (Kd.R (Kd.int .i64) 3 w' w.heap.size (fun _=>True) v7 x7_1)∧Aside0 (Below w.heap.size w w'))
    case atStart=>exact ⟨(t45),(0),zT,H',⟨Nat.le_refl _⟩,⟨by refine zr ?_;exact HO77.out⟩,⟨zv0 HB⟩⟩
    case round=>
     clear H'
     try clear c1
     try clear c6
     try clear c6b0
     try clear c6b1
     try clear c9
     try clear c13
     obtain ⟨x7_1,x29_1,rfl,HA,HK1,HO_7,HB⟩:=hrel
     cases gk with
     | zero=>exact absurd HA.out (by simp [conflict_Shrink.l0])
     | succ k1=>
      have H:=HA.out;clear HA;simp only [conflict_Shrink.l0] at H
      rcases ifd H with ⟨c16b0,H⟩|⟨c16b0,H⟩
      ·(first|rw [c16b0]|(simp only [i64_w,i32_w];rw [c16b0])|skip)
       obtain ⟨c17b0,H⟩:=ifd1 H;obtain ⟨c18b0,H⟩:=ifd1 H;obtain ⟨t48,A19,H⟩:=zo H;obtain ⟨t53,A20,H⟩:=zo H;obtain ⟨t51,A21,H⟩:=zo H;obtain ⟨t69,A22,H⟩:=zo H;have HC23:=zA H;clear H;obtain ⟨p44,q44,ad44,e44,hx44_0⟩:=zp (Kd.at_int HR1.out x29_1)
       cases e44
       replace hx44_0:=zd HB hx44_0;replace p44:=eq_true p44;replace q44:=eq_true q44;obtain ⟨Ao24,co24,eo24⟩:=Kd.R_slice HO_7.out;subst eo24
       go_upto_if 45 with (first|((with_reducible refine gate_callee (f:=60) rfl ?_);refine zgo 35 Tryz.func60 #[.slice Ao24 x7_1.length co24,.int .i64 (rd l1 x29_1)] ?_;(with_reducible refine (slices_Index_int_int.calls k1 _ _ x7_1 (rd l1 x29_1) t48 _ ?side1 ?side2 A19.out).mono ?_);(case side1=>exact zC (Kd.R_reads' HO_7.out).2.2);(case side2=>exact (Kd.R_reads' HO_7.out).2.1);rintro e w' ⟨rfl,⟨nd,rfl⟩⟩;refine ⟨_,rfl,?_⟩)|((with_reducible refine gate_callee (f:=11) rfl ?_);refine zgo 37 Tryz.func11 #[.slice Ao24 x7_1.length co24] ?_;(with_reducible refine (slices_Clone_int_int.calls _ _ x7_1 t53 _ ?side1 ?side2 A20.out).mono ?_);(case side1=>exact zC (Kd.R_reads' HO_7.out).2.2);(case side2=>exact (Kd.R_reads' HO_7.out).2.1);rintro e w25 ⟨v84,rfl,ho0,hb⟩;refine ⟨_,rfl,?_⟩;have HO71:=zA (Kd.R_lower (Kd.R_new' ho0 (Kd.R_lt (zR HO_7))) (below_size zB));replace HO_7:=zA (Kd.R_elder' (zR HO_7) (Kd.R_base ho0) hb);replace HB:=zu hb;clear hb;(try clear ho0);obtain ⟨Ao26,co26,eo26⟩:=Kd.R_slice HO71.out;subst eo26)|((with_reducible refine gate_callee (f:=61) rfl ?_);refine zgo 41 Tryz.func61 #[.slice Ao26 t53.length co26,.int .i64 t48,.int .i64 (wrap64 (t48+1))] ?_;(with_reducible refine (slices_Delete_int_int.calls (fun k_=>some k_=(.slice Ao26 t53.length co26:Value).ownBlock) (.slice Ao26 t53.length co26) t53 t48 (wrap64 (t48+1)) t51 w _ ?side1 ?side2 A21.out).mono ?_);(case side1=>repeat (first|(with_reducible first|exact HB.out|apply below_alloc|apply pw_below_drewN|apply below_drew1)|exact HB.out));(case side2=>exact Kd.R_tight rfl HO71.out);rintro e w27 ⟨v78,rfl,ho0,hb,hkp⟩;refine ⟨_,rfl,?_⟩;have HO65:=zA (Kd.R_mono (ok':=fun k_=>some k_≠(.slice Ao24 x7_1.length co24:Value).ownBlock) ho0 (fun k_ hk_=>Or.elim hk_ (fun hs_=>fun e_=>(((HO_7.out).1 k_ e_.symm).2) hs_) (fun hn_=>(Kd.fresh' (Kd.R_lt (zR HO_7)) k_ hn_))));replace HO_7:=zA (Kd.R_mono (ok':=fun k_=>some k_≠(v78:Value).ownBlock) (Kd.R_keptB (HO_7.out) hkp (fun k_ hk_ hs_=>(hk_.2) hs_)) (fun k_ hk_=>fun e_=>Or.elim (ho0.1 k_ e_.symm) (fun hs_=>hk_.2.1 hs_) (fun hn_=>Nat.not_le.2 hk_.2.2 hn_)));replace HB:=zA (hb);clear HO71;(try clear hb);(try clear hkp);(try clear ho0);obtain ⟨Ao28,co28,eo28⟩:=Kd.R_slice HO65.out;subst eo28)|((with_reducible refine gate_callee (f:=54) rfl ?_);refine zgo 44 Tryz.func54 #[.slice A0 l0.length c0,.slice Ao28 t51.length co28] ?_;(with_reducible refine (conflict_solvable.calls k1 _ _ l0 _ _ t51 t69 _ (zD HR0 HB) HC0.out ?side3 ?side4 A22.out).mono ?_);(case side3=>exact zC (Kd.R_reads' HO65.out).2.2);(case side4=>exact (Kd.R_reads' HO65.out).2.1);rintro e w29 ⟨rfl,hb⟩;refine ⟨_,rfl,?_⟩;replace HO_7:=zA (Kd.R_below (zR HO_7) hb);replace HO65:=zA (Kd.R_below (zR HO65) hb);replace HB:=zu hb;clear hb))
       (try simp only [Act.put,zi,zs,zt]);have H:=HC23.out;clear HC23
       by_cases c30:t69=true
       ·subst c30
        have H1:(conflict_Shrink.l0 k1 l0 x7_1 l1 (l1.length:Int) (wrap64 (x29_1+1)))=some (r1,r2):=by rw [if_pos rfl] at H;exact H
        clear H;have H:=H1;clear H1;have H':=zA H;clear H
        go_wp2
        go_roundg k1
        case measure=>have:=HK1.out;omega
        case rel=>exact ⟨(x7_1),(wrap64 (x29_1+1)),zT,H',⟨by have:=HK1.out;omega⟩,⟨by refine zr ?_;exact Kd.R_mono HO_7.out (fun _ hk=>trivial)⟩,⟨zv0 HB⟩⟩
       ·replace c30:=Bool.eq_false_iff.mpr c30;subst c30
        have H1:(conflict_Shrink.l0 k1 l0 t51 l1 (l1.length:Int) (wrap64 (x29_1+1)))=some (r1,r2):=by rw [if_neg (show ¬ (false=true) by decide)] at H;exact H
        clear H;have H:=H1;clear H1;have H':=zA H;clear H
        go_wp2
        go_roundg k1
        case measure=>have:=HK1.out;omega
        case rel=>exact ⟨(t51),(wrap64 (x29_1+1)),zT,H',⟨by have:=HK1.out;omega⟩,⟨by refine zr ?_;exact Kd.R_mono HO65.out (fun _ hk=>trivial)⟩,⟨zv0 HB⟩⟩
      ·(first|rw [c16b0]|(simp only [i64_w,i32_w];rw [c16b0])|skip)
       simp only [Option.some.injEq,Prod.mk.injEq] at H;obtain ⟨rfl,rfl⟩:=H
       go_wp2
       go_ret2
       exact ⟨_,ze,by refine zr ?_;exact HO_7.out,zv0 HB⟩
  ·replace c9:=Bool.eq_false_iff.mpr c9;subst c9
   have H1:(some (([]:List Int),1))=some (r1,r2):=by rw [if_neg (show ¬ (false=true) by decide)] at H;exact H
   clear H;have H:=H1;clear H1;simp only [Option.some.injEq,Prod.mk.injEq] at H;obtain ⟨rfl,rfl⟩:=H
   go_wp2
   go_ret2
   exact ⟨_,ze,by first|exact Kd.R_nil _ _ _ _ _|exact Kd.N_nil _ _ _ _ _|exact Kd.V_nil _ _ _ _ _|exact Kd.Q_nil _ _ _ _ _|exact Kd.S_nil _ _ _ _ _,zv0 HB⟩
 ·(first|rw [c6b0]|(simp only [i64_w,i32_w];rw [c6b0])|skip)
  (try rw [c6b1]);simp only [Option.some.injEq,Prod.mk.injEq] at H;obtain ⟨rfl,rfl⟩:=H
  go_wp2
  go_ret2
  exact ⟨_,ze,by first|exact Kd.R_nil _ _ _ _ _|exact Kd.N_nil _ _ _ _ _|exact Kd.V_nil _ _ _ _ _|exact Kd.Q_nil _ _ _ _ _|exact Kd.S_nil _ _ _ _ _,zv0 HB⟩
def ancepsref42_Ints.l0:Nat→List Int→List Int→Int→Option (Bool)
 | 0,_,_,_=>none
 | k+1,x0,x1,x5=>if x5<(x0.length:Int) then (if 0≤x5 then (if x5<(x1.length:Int) then (if (rd x0 x5)=(rd x1 x5) then (ancepsref42_Ints.l0 k x0 x1 (wrap64 (x5+1))) else (some false)) else (none)) else (none)) else (some true)
def ancepsref42_Ints.f (k:Nat) (l0:List Int) (l1:List Int):Option (Bool):=if (l0.length:Int)=(l1.length:Int) then (ancepsref42_Ints.l0 k l0 l1 0) else (some false)
set_option maxHeartbeats 8000000 in
set_option maxRecDepth 100000 in
theorem ancepsref42_Ints.calls (k:Nat) (A0:Option Addr) (c0:Nat) (l0:List Int) (A1:Option Addr) (c1:Nat) (l1:List Int) (r:Bool) (w:World) (hr0:Kd.C (Kd.int .i64) w A0 l0.length l0) (hc0:l0.length≤c0) (hr1:Kd.C (Kd.int .i64) w A1 l1.length l1) (hc1:l1.length≤c1) (h:ancepsref42_Ints.f k l0 l1=some r) :
  Calls Tryz.prog 50 #[.slice A0 l0.length c0,.slice A1 l1.length c1] w fun e w'=>e=.returned (.bool r)∧Drawn0 w w':=by
 have HR0:=zA hr0;have HC0:=zA hc0;clear hr0 hc0;have HR1:=zA hr1;have HC1:=zA hc1;clear hr1 hc1;have H:(if (l0.length:Int)=(l1.length:Int) then (ancepsref42_Ints.l0 k l0 l1 0) else (some false))=some r:=h;clear h
 rcases if0 H with ⟨c3,H⟩|⟨c3,H⟩
 ·have c3b0:((l0.length:Int) == (l1.length:Int))=true:=beq_iff_eq.mpr c3;have c3b1:((l0.length:Int) != (l1.length:Int))=false:=bne_eq_false_iff_eq.mpr c3
  have c3b2:(l0.length == l1.length)=true:=by first|simpa using c3|(simp at c3 ⊢;omega)
  clear c3;have H':=zA H;clear H
  go_enter Tryz.func50,Tryz.ntmps50
  go_wp2
  repeat (go_quiet (fail);try go_wp2)
  go_loopg [5] k (fun kq v5 w'=>∃ (x5_1:Int),v5=.int .i64 x5_1∧Aside0 (ancepsref42_Ints.l0 kq l0 l1 x5_1=some r)∧Aside0 (kq≤k)∧Drawn0 w w')
  case atStart=>exact ⟨(0),zT,H',⟨Nat.le_refl _⟩,by repeat (first|exact Drawn0.refl _|apply Drawn0.step)⟩
  case round=>
   clear H'
   try clear c3
   try clear c3b0
   try clear c3b1
   try clear c3b2
   obtain ⟨x5_1,rfl,HA,HK1,⟨m1,rfl⟩⟩:=hrel
   cases gk with
   | zero=>exact absurd HA.out (by simp [ancepsref42_Ints.l0])
   | succ k1=>
    have H:=HA.out;clear HA;simp only [ancepsref42_Ints.l0] at H
    rcases ifd H with ⟨c4b0,H⟩|⟨c4b0,H⟩
    ·obtain ⟨c5b0,H⟩:=ifd1 H;obtain ⟨c6b0,H⟩:=ifd1 H
     rcases ife H with ⟨c7b0,c7b1,H⟩|⟨c7,c7b0,c7b1,H⟩
     ·have H':=zA H;clear H;obtain ⟨p39,q39,ad39,e39,hx39_0⟩:=zp (Kd.at_int HR0.out x5_1)
      cases e39
      replace p39:=eq_true p39;replace q39:=eq_true q39;obtain ⟨p40,q40,ad40,e40,hx40_0⟩:=zp (Kd.at_int HR1.out x5_1)
      cases e40
      replace p40:=eq_true p40;replace q40:=eq_true q40
      go_wp2
      repeat (go_quiet (fail);try go_wp2)
      go_roundg k1
      case measure=>have:=HK1.out;omega
      case rel=>exact ⟨(wrap64 (x5_1+1)),zT,H',⟨by have:=HK1.out;omega⟩,by repeat (first|exact Drawn0.refl _|apply Drawn0.step)⟩
     ·obtain rfl:=Option.some.inj H;obtain ⟨p39,q39,ad39,e39,hx39_0⟩:=zp (Kd.at_int HR0.out x5_1)
      cases e39
      replace p39:=eq_true p39;replace q39:=eq_true q39;obtain ⟨p40,q40,ad40,e40,hx40_0⟩:=zp (Kd.at_int HR1.out x5_1)
      cases e40
      replace p40:=eq_true p40;replace q40:=eq_true q40
      go_wp2
      repeat (go_quiet (fail);try go_wp2)
      go_ret
      exact ⟨by first|rfl|(simp;done)|(simp [*];done),by repeat (first|exact Drawn0.refl _|apply Drawn0.step)⟩
    ·obtain rfl:=Option.some.inj H
     go_wp2
     repeat (go_quiet (fail);try go_wp2)
     go_ret
     exact ⟨by first|rfl|(simp;done)|(simp [*];done),by repeat (first|exact Drawn0.refl _|apply Drawn0.step)⟩
 ·have c3b0:((l0.length:Int) == (l1.length:Int))=false:=beq_eq_false_iff_ne.mpr c3;have c3b1:((l0.length:Int) != (l1.length:Int))=true:=bne_iff_ne.mpr c3
  have c3b2:(l0.length == l1.length)=false:=by first|simpa using c3|(simp at c3 ⊢;omega)
  obtain rfl:=Option.some.inj H
  go_enter Tryz.func50,Tryz.ntmps50
  go_wp2
  repeat (go_quiet (fail);try go_wp2)
  go_ret
  exact ⟨by first|rfl|(simp;done)|(simp [*];done),by repeat (first|exact Drawn0.refl _|apply Drawn0.step)⟩
def ancepsref42_Lists.l0:Nat→List (List Int)→List (List Int)→Int→Option (Bool)
 | 0,_,_,_=>none
 | k+1,x0,x1,x5=>if x5<(x0.length:Int) then (if 0≤x5 then (if x5<(x1.length:Int) then ((ancepsref42_Ints.f k (rd_L1 x0 x5) (rd_L1 x1 x5)).bind fun t66=>(if t66=true then (ancepsref42_Lists.l0 k x0 x1 (wrap64 (x5+1))) else (some false))) else (none)) else (none)) else (some true)
def ancepsref42_Lists.f (k:Nat) (l0:List (List Int)) (l1:List (List Int)):Option (Bool):=if (l0.length:Int)=(l1.length:Int) then (ancepsref42_Lists.l0 k l0 l1 0) else (some false)
set_option maxHeartbeats 8000000 in
set_option maxRecDepth 100000 in
theorem ancepsref42_Lists.calls (k:Nat) (A0:Option Addr) (c0:Nat) (l0:List (List Int)) (A1:Option Addr) (c1:Nat) (l1:List (List Int)) (r:Bool) (w:World) (hr0:Kd.C (Kd.slice 3 (Kd.int .i64)) w A0 l0.length l0) (hc0:l0.length≤c0) (hr1:Kd.C (Kd.slice 3 (Kd.int .i64)) w A1 l1.length l1) (hc1:l1.length≤c1) (h:ancepsref42_Lists.f k l0 l1=some r) :
  Calls Tryz.prog 26 #[.slice A0 l0.length c0,.slice A1 l1.length c1] w fun e w'=>e=.returned (.bool r)∧Drawn0 w w':=by
 have HR0:=zA hr0;have HC0:=zA hc0;clear hr0 hc0;have HR1:=zA hr1;have HC1:=zA hc1;clear hr1 hc1;have H:(if (l0.length:Int)=(l1.length:Int) then (ancepsref42_Lists.l0 k l0 l1 0) else (some false))=some r:=h;clear h
 rcases if0 H with ⟨c3,H⟩|⟨c3,H⟩
 ·have c3b0:((l0.length:Int) == (l1.length:Int))=true:=beq_iff_eq.mpr c3;have c3b1:((l0.length:Int) != (l1.length:Int))=false:=bne_eq_false_iff_eq.mpr c3
  have c3b2:(l0.length == l1.length)=true:=by first|simpa using c3|(simp at c3 ⊢;omega)
  clear c3;have H':=zA H;clear H
  go_enter Tryz.func26,Tryz.ntmps26
  go_wp2
  repeat (go_quiet (fail);try go_wp2)
  go_loopg [5] k (fun kq v5 w'=>∃ (x5_1:Int),v5=.int .i64 x5_1∧Aside0 (ancepsref42_Lists.l0 kq l0 l1 x5_1=some r)∧Aside0 (kq≤k)∧Drawn0 w w')
  case atStart=>exact ⟨(0),zT,H',⟨Nat.le_refl _⟩,by repeat (first|exact Drawn0.refl _|apply Drawn0.step)⟩
  case round=>
   clear H'
   try clear c3
   try clear c3b0
   try clear c3b1
   try clear c3b2
   obtain ⟨x5_1,rfl,HA,HK1,⟨m1,rfl⟩⟩:=hrel
   cases gk with
   | zero=>exact absurd HA.out (by simp [ancepsref42_Lists.l0])
   | succ k1=>
    have H:=HA.out;clear HA;simp only [ancepsref42_Lists.l0] at H
    rcases ifd H with ⟨c4b0,H⟩|⟨c4b0,H⟩
    ·obtain ⟨c5b0,H⟩:=ifd1 H;obtain ⟨c6b0,H⟩:=ifd1 H;obtain ⟨t66,A7,H⟩:=zo H;have HC8:=zA H;clear H;obtain ⟨p34,q34,ad34,A34_0,c34_0,e34,hx34_0,hl34_0,hi34_0⟩:=zp (at_L1 HR0.out x5_1)
     cases e34
     have HR34_0:=zA hi34_0;have HC34_0:=zA hl34_0;clear hi34_0 hl34_0;replace p34:=eq_true p34;replace q34:=eq_true q34;obtain ⟨p35,q35,ad35,A35_0,c35_0,e35,hx35_0,hl35_0,hi35_0⟩:=zp (at_L1 HR1.out x5_1)
     cases e35
     have HR35_0:=zA hi35_0;have HC35_0:=zA hl35_0;clear hi35_0 hl35_0;replace p35:=eq_true p35;replace q35:=eq_true q35
     go_upto_if 26 with (first|(go_at_call 50;(with_reducible refine (ancepsref42_Ints.calls k1 _ _ (rd_L1 l0 x5_1) _ _ (rd_L1 l1 x5_1) t66 _ ?side1 HC34_0.out ?side3 HC35_0.out A7.out).mono ?_);(case side1=>repeat (first|exact HR34_0.out|(with_reducible refine Kd.C_alloc ?_ _)|(with_reducible refine Kd.C_drewN ?_ _)|(with_reducible refine Kd.C_drew ?_)));(case side3=>repeat (first|exact HR35_0.out|(with_reducible refine Kd.C_alloc ?_ _)|(with_reducible refine Kd.C_drewN ?_ _)|(with_reducible refine Kd.C_drew ?_)));rintro e w' ⟨rfl,⟨nd,rfl⟩⟩;(try first|exact ⟨rfl,_,World.drewN_drewN _ _ _⟩|exact ⟨rfl,_,Eq.trans (World.drewN_drewN _ _ _) (congrArg (World.drewN _) (Nat.add_assoc _ _ _))⟩)))
     repeat (go_quiet (first|(go_at_call 50;(with_reducible refine (ancepsref42_Ints.calls k1 _ _ (rd_L1 l0 x5_1) _ _ (rd_L1 l1 x5_1) t66 _ ?side1 HC34_0.out ?side3 HC35_0.out A7.out).mono ?_);(case side1=>repeat (first|exact HR34_0.out|(with_reducible refine Kd.C_alloc ?_ _)|(with_reducible refine Kd.C_drewN ?_ _)|(with_reducible refine Kd.C_drew ?_)));(case side3=>repeat (first|exact HR35_0.out|(with_reducible refine Kd.C_alloc ?_ _)|(with_reducible refine Kd.C_drewN ?_ _)|(with_reducible refine Kd.C_drew ?_)));rintro e w' ⟨rfl,⟨nd,rfl⟩⟩;(try first|exact ⟨rfl,_,World.drewN_drewN _ _ _⟩|exact ⟨rfl,_,Eq.trans (World.drewN_drewN _ _ _) (congrArg (World.drewN _) (Nat.add_assoc _ _ _))⟩)));go_upto_if 26 with (first|(go_at_call 50;(with_reducible refine (ancepsref42_Ints.calls k1 _ _ (rd_L1 l0 x5_1) _ _ (rd_L1 l1 x5_1) t66 _ ?side1 HC34_0.out ?side3 HC35_0.out A7.out).mono ?_);(case side1=>repeat (first|exact HR34_0.out|(with_reducible refine Kd.C_alloc ?_ _)|(with_reducible refine Kd.C_drewN ?_ _)|(with_reducible refine Kd.C_drew ?_)));(case side3=>repeat (first|exact HR35_0.out|(with_reducible refine Kd.C_alloc ?_ _)|(with_reducible refine Kd.C_drewN ?_ _)|(with_reducible refine Kd.C_drew ?_)));rintro e w' ⟨rfl,⟨nd,rfl⟩⟩;(try first|exact ⟨rfl,_,World.drewN_drewN _ _ _⟩|exact ⟨rfl,_,Eq.trans (World.drewN_drewN _ _ _) (congrArg (World.drewN _) (Nat.add_assoc _ _ _))⟩))))
     (try simp only [Act.put,zi,zs,zt]);have H:=HC8.out;clear HC8
     by_cases c9:t66=true
     ·subst c9
      have H1:(ancepsref42_Lists.l0 k1 l0 l1 (wrap64 (x5_1+1)))=some r:=by rw [if_pos rfl] at H;exact H
      clear H;have H:=H1;clear H1;have H':=zA H;clear H
      go_wp2
      repeat (go_quiet (fail);try go_wp2)
      go_roundg k1
      case measure=>have:=HK1.out;omega
      case rel=>exact ⟨(wrap64 (x5_1+1)),zT,H',⟨by have:=HK1.out;omega⟩,by repeat (first|exact Drawn0.refl _|apply Drawn0.step)⟩
     ·replace c9:=Bool.eq_false_iff.mpr c9;subst c9
      have H1:(some false)=some r:=by rw [if_neg (show ¬ (false=true) by decide)] at H;exact H
      clear H;have H:=H1;clear H1;obtain rfl:=Option.some.inj H
      go_wp2
      repeat (go_quiet (fail);try go_wp2)
      go_ret
      exact ⟨by first|rfl|(simp;done)|(simp [*];done),by repeat (first|exact Drawn0.refl _|apply Drawn0.step)⟩
    ·obtain rfl:=Option.some.inj H
     go_wp2
     repeat (go_quiet (fail);try go_wp2)
     go_ret
     exact ⟨by first|rfl|(simp;done)|(simp [*];done),by repeat (first|exact Drawn0.refl _|apply Drawn0.step)⟩
 ·have c3b0:((l0.length:Int) == (l1.length:Int))=false:=beq_eq_false_iff_ne.mpr c3;have c3b1:((l0.length:Int) != (l1.length:Int))=true:=bne_iff_ne.mpr c3
  have c3b2:(l0.length == l1.length)=false:=by first|simpa using c3|(simp at c3 ⊢;omega)
  obtain rfl:=Option.some.inj H
  go_enter Tryz.func26,Tryz.ntmps26
  go_wp2
  repeat (go_quiet (fail);try go_wp2)
  go_ret
  exact ⟨by first|rfl|(simp;done)|(simp [*];done),by repeat (first|exact Drawn0.refl _|apply Drawn0.step)⟩
end Go.Proofs.YtkjghablbeaioaaGreat.B
