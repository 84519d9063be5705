import Derived.Test.YtngpkbbljnbojaaGreatA0
import Derived.Test.YtngpkbbljnbojaaGreatA12
import Derived.Test.YtngpkbbljnbojaaGreatA13
import Derived.Test.YtngpkbbljnbojaaGreatA17
namespace Go.Proofs.YtngpkbbljnbojaaGreat.A
open Go.RowKit Go.Proofs.YtngpkbbljnbojaaGreatW.PrintWords Go.Proofs.YtngpkbbljnbojaaGreatW.PrintLast Go.Proofs.YtngpkbbljnbojaaGreatW.PrintMore
attribute [local go_sem] max2_int min2_int max_two min_two max_three min_three max_four min_four Tryz.underlying103 Tryz.underlying124 Tryz.underlying3 Tryz.underlying40 Tryz.underlying63
set_option linter.unusedVariables false
set_option linter.unusedSimpArgs false
mutual
def ancepsref40_split.l0:Nat→List (S63)→List Int→List (S103)→Int→Int→Int→Option ((List (S103)))
 | 0,_,_,_,_,_,_=>none
 | k+1,x0,x1,x3,x9,x57,x58=>if x9<(x0.length:Int) then (if 0≤x9 then ((ancepsref40_fails.f k ((rd_T63 x0 x9).f0) ((rd_T63 x0 x9).f1) x57 x58).bind fun t69=>(if t69=true then (if x3.length<4398046511104 then (some (x3++[(⟨(-1),0,0,x9⟩:S103)])) else (none)) else (ancepsref40_split.l0 k x0 x1 x3 (wrap64 (x9+1)) x57 x58))) else (none)) else (if 0<(x1.length:Int) then (if x3.length<4398046511104 then (if 1≤(x1.length:Int) then ((ancepsref40_choices_with.f x57 x58 (rd x1 0) 0).bind fun bt62=>((ancepsref40_split.f k x0 (x1.drop 1) bt62.1 bt62.2 (x3++[(⟨rd x1 0,wrap64 ((x3.length:Int)+1),0,0⟩:S103)])).bind fun t45=>(if 0≤(x3.length:Int) then (if (x3.length:Int)<(t45.length:Int) then ((ancepsref40_choices_with.f x57 x58 (rd x1 0) 1).bind fun bt65=>((ancepsref40_split.f k x0 (x1.drop 1) bt65.1 bt65.2 (t45.set ((x3.length:Int):Int).toNat (⟨(rd_T103 t45 (x3.length:Int)).f0,(rd_T103 t45 (x3.length:Int)).f1,(t45.length:Int),(rd_T103 t45 (x3.length:Int)).f3⟩:S103))).bind fun t72=>(some t72))) else (none)) else (none)))) else (none)) else (none)) else (none))
def ancepsref40_split.f:Nat→List (S63)→List Int→Int→Int→List (S103)→Option ((List (S103)))
 | 0,_,_,_,_,_=>none
 | k+1,l0,l1,a2_0,a2_1,l3=>if (l3.length:Int)>2000 then (some l3) else (ancepsref40_split.l0 k l0 l1 l3 0 a2_0 a2_1)
end
def ancepsref40_split.T10:Bool×List (List Nat×List Nat):=(true,[([],[]),([],[]),([1],[1]),([],[]),([],[]),([4],[4]),([5],[5]),([3,6],[3,6]),([],[]),([0,2,7,8,7],[0,2,7,8]),([9,9,0,1,2,3,4,5,6,7,8,9],[8,9])])
def ancepsref40_split.B10:List Nat:=[0,0,2,0,0,16,48,120,0,511,1023]
theorem ancepsref40_split.tab10:rtab .any (opsOf Tryz.f102 10)=ancepsref40_split.T10:=by kernel_rfl
theorem ancepsref40_split.bits10:waitsOk ancepsref40_split.T10.2 ancepsref40_split.B10=true:=by kernel_rfl
def ancepsref40_split.T12:Bool×List (List Nat×List Nat):=(true,[([],[]),([],[]),([1],[1]),([],[]),([],[]),([4],[4]),([5],[5]),([3,6],[3,6]),([],[]),([0,2,7,8,7],[0,2,7,8]),([9,9,0,1,2,3,4,5,6,7,8,9],[9])])
def ancepsref40_split.B12:List Nat:=[0,0,2,0,0,16,48,120,0,511,1023]
theorem ancepsref40_split.tab12:rtab .any (opsOf Tryz.f102 12)=ancepsref40_split.T12:=by kernel_rfl
theorem ancepsref40_split.bits12:waitsOk ancepsref40_split.T12.2 ancepsref40_split.B12=true:=by kernel_rfl
set_option maxHeartbeats 8000000 in
set_option maxRecDepth 100000 in
theorem ancepsref40_split.calls (k:Nat):∀ (A0:Option Addr) (c0:Nat) (l0:List (S63)) (A1:Option Addr) (c1:Nat) (l1:List Int) (a2_0:Int) (a2_1:Int) (P3_:Nat→Prop) (u67_:Value) (l3:List (S103)) (r:List (S103)) (w0 w:World) (hB:Below w0.heap.size w0 w) (hr0:∀ W_,Kept w W_ (fun k_=>P3_ k_)→Kd.C k63 W_ A0 l0.length l0) (hc0:l0.length≤c0) (hr1:∀ W_,Kept w W_ (fun k_=>P3_ k_)→Kd.C (Kd.int .i64) W_ A1 l1.length l1) (hc1:l1.length≤c1) (ho3:Kd.R k103 103 w w0.heap.size P3_ u67_ l3) (h:ancepsref40_split.f k l0 l1 a2_0 a2_1 l3=some r),
  Calls Tryz.prog 102 #[.slice A0 l0.length c0,.slice A1 l1.length c1,.agg #[.int .i64 a2_0,.int .i64 a2_1],u67_] w fun e w'=>∃ v0_:Value,e=.returned (v0_)∧Kd.R k103 103 w' w0.heap.size (fun k_=>(P3_ k_∨w.heap.size≤k_)) v0_ r∧Below w0.heap.size w0 w'∧Kept w w' (fun k_=>P3_ k_):=by
 induction k using Nat.strongRecOn with
 | _ k ih=>
 intro A0 c0 l0 A1 c1 l1 a2_0 a2_1 P3_ u67_ l3 r w0 w hB hr0 hc0 hr1 hc1 ho3 h
 cases k with
 | zero=>exact absurd h (by simp [ancepsref40_split.f])
 | succ k=>
 simp only [ancepsref40_split.f] at h;have HR0:=zA hr0;have HC0:=zA hc0;clear hr0 hc0;have HR1:=zA hr1;have HC1:=zA hc1;clear hr1 hc1;have HO3:=zA (show Kd.R k103 103 w w0.heap.size (fun k_=>(P3_ k_∨w.heap.size≤k_)) u67_ l3 from Kd.R_mono ho3 (fun k_ hk=>(.inl hk)));have HK:=zA (Kept.refl w (fun k_=>P3_ k_));have HW0:=zA hB.size;have HB:=zA hB;clear hB;have H:(if (l3.length:Int)>2000 then (some l3) else (ancepsref40_split.l0 k l0 l1 l3 0 a2_0 a2_1))=some r:=h;clear h;have HC5:=zA H;clear H
 go_enter Tryz.func102,Tryz.ntmps102
 go_upto_if 13 with (first|((with_reducible refine gate_dst (N:=6) rfl ?_);refine box_event ?hg (N:=6) ?hd (cs:=#[.int .i64 a2_0,.int .i64 a2_1]) (t:=124) ?hr ?_;(case hd=>rfl);(case hg=>rfl);(case hr=>first|(go_simp;done)|(go_simp;rfl));intro gb42 hg w6 hbox hb;have BK42:=zA (hbox);have GW42:=zA ((by rw [hg];exact (by first|exact HK.out.1|exact (show Kept w _ (fun k_=>P3_ k_) from zkp0 HK).1):w.heap.size≤gb42));have GE42:=zA ((zG hg (below_size zB):w0.heap.size≤gb42));replace HO3:=zA (Kd.R_below (zR HO3) hb);replace HK:=zA (Kept.below (S:=(fun k_=>P3_ k_)) (zkp0 HK) hb);replace HB:=zu hb;clear hb hbox hg;obtain ⟨Ao7,co7,eo7⟩:=Kd.R_slice HO3.out;subst eo7))
 (try simp only [Act.put,zi,zs,zt]);have H:=HC5.out;clear HC5
 rcases if0 H with ⟨c8,H⟩|⟨c8,H⟩
 ·have c8b0:decide (2000<(l3.length:Int))=true:=decide_eq_true c8;have c8b1:decide (2000<l3.length)=true:=decide_eq_true (by omega);clear c8
  (first|rw [c8b0]|(simp only [i64_w,i32_w];rw [c8b0])|skip)
  (try rw [c8b1]);obtain rfl:=Option.some.inj H
  go_wp2
  go_ret
  exact ⟨_,ze,by refine zr ?_;exact HO3.out,zv1 HB GE42,zkp1 HK GW42⟩
 ·have c8b0:decide (2000<(l3.length:Int))=false:=decide_eq_false c8;have c8b1:decide (2000<l3.length)=false:=decide_eq_false (by omega);clear c8
  (first|rw [c8b0]|(simp only [i64_w,i32_w];rw [c8b0])|skip)
  (try rw [c8b1]);have H':=zA H;clear H
  go_wp2
  go_loopg [9] k (fun kq v9 w'=>∃ (x9_1:Int),v9=.int .i64 x9_1∧Aside0 (ancepsref40_split.l0 kq l0 l1 l3 x9_1 a2_0 a2_1=some r)∧Aside0 (kq≤k)∧Aside0 (Kd.R k103 103 w' w0.heap.size (fun k_=>(P3_ k_∨w.heap.size≤k_)) (.slice Ao7 l3.length co7) l3)∧Aside0 (w'.heap[gb42]?=some (.cells #[.int .i64 a2_0,.int .i64 a2_1] 124 (0,0)))∧Aside0 (Kept w w' (fun k_=>P3_ k_))∧Aside0 (Below w0.heap.size w0 w'))
  case atStart=>exact ⟨(0),zT,H',⟨Nat.le_refl _⟩,⟨by refine zr ?_;exact HO3.out⟩,⟨by refine zj ?_;exact BK42.out⟩,⟨zkp1 HK GW42⟩,⟨zv1 HB GE42⟩⟩
  case round=>
   clear H'
   try clear c8
   try clear c8b0
   try clear c8b1
   obtain ⟨x9_1,rfl,HA,HK1,HO_3,BK42,HK,HB⟩:=hrel
   cases gk with
   | zero=>exact absurd HA.out (by simp [ancepsref40_split.l0])
   | succ k1=>
    have H:=HA.out;clear HA;simp only [ancepsref40_split.l0] at H
    rcases ifd H with ⟨c9b0,H⟩|⟨c9b0,H⟩
    ·obtain ⟨c10b0,H⟩:=ifd1 H;obtain ⟨t69,A11,H⟩:=zo H;have HC12:=zA H;clear H
     try go_wp2
     replace HO_3:=zA (Kd.R_drew HO_3.out);replace BK42:=zA (blk_drew BK42.out);replace HK:=zA (Kept.drew HK.out);replace HB:=zA (below_drew1 HB.out);obtain ⟨p44,q44,ad44,A44_0,c44_0,A44_1,c44_1,e44,hx44_0,hx44_1,hl44_0,hi44_0,hl44_1,hi44_1⟩:=zp (at_T63 (Kd.C_kept_now HR0.out HK.out) x9_1);have hw44_1:=hx44_1;have hw44_0:=hx44_0
     cases e44
     have HR44_0:=zA hi44_0;have HC44_0:=zA hl44_0;clear hi44_0 hl44_0;have HR44_1:=zA hi44_1;have HC44_1:=zA hl44_1;clear hi44_1 hl44_1;replace p44:=eq_true p44;replace q44:=eq_true q44;refine start_ (n:=6) (S:=fun w'=>w'.cell? ⟨gb42,0,none⟩=some (.int .i64 a2_0)∧w'.cell? ⟨gb42,1,none⟩=some (.int .i64 a2_1)∧w'.cell? (ad44.add ((x9_1).toNat * 2))=some (.slice A44_0 ((rd_T63 l0 x9_1).f0).length c44_0)∧w'.cell? ⟨(ad44.add ((x9_1).toNat * 2)).block,(ad44.add ((x9_1).toNat * 2)).off+1,none⟩=some (.slice A44_1 ((rd_T63 l0 x9_1).f1).length c44_1)) (ds:=[]) (bz 6 0) zK rfl rfl ⟨zc0 BK42,zc1 BK42,hx44_0,hx44_1⟩ (fun hHeld=>?_)
     generalize wr.drew=w13 at HO_3 BK42 HK HB HR44_0 HR44_1 hx44_0 hx44_1 hHeld ⊢
     refine pure_ (i:=0) (N:=some 21) (v:=?_) (a':=?_) (bz 6 1) rfl rfl zK (fun _ _ _ h=>h) (Or.inl ⟨by rfl,?_⟩) ?_ ?_;rotate_left
     ·intro w'
      go_simp
      with_reducible rfl
     rotate_left
     ·simp only [Act.put,zi,zs,zt,i64_w,i32_w];rfl
     refine pure_ (i:=1) (N:=some 22) (v:=?_) (a':=?_) (bz 6 3) rfl rfl zK (fun _ _ _ h=>h) (Or.inl ⟨by rfl,?_⟩) ?_ ?_;rotate_left
     ·intro w'
      go_simp
      with_reducible rfl
     rotate_left
     ·simp only [Act.put,zi,zs,zt,i64_w,i32_w];rfl
     refine pure_ (i:=2) (N:=some 23) (v:=?_) (a':=?_) (bz 6 7) rfl rfl zK (fun _ _ _ h=>h) (Or.inl ⟨by rfl,?_⟩) ?_ ?_;rotate_left
     ·intro w'
      go_simp
      with_reducible rfl
     rotate_left
     ·simp only [Act.put,zi,zs,zt,i64_w,i32_w];rfl
     refine take_ (i:=3) (N:=some 24) (v:=?_) (a':=?_) (bz 6 15) rfl rfl zK (fun _ _ _ h=>h) (Or.inl ⟨by rfl,?_⟩) hHeld ?_ ?_;rotate_left
     ·rintro w' ⟨s0,s1,s2,s3⟩
      go_simp
      with_reducible rfl
     rotate_left
     ·simp only [Act.put,zi,zs,zt,i64_w,i32_w];rfl
     refine take_ (i:=4) (N:=some 25) (v:=?_) (a':=?_) (bz 6 31) rfl rfl zK (fun _ _ _ h=>h) (Or.inl ⟨by rfl,?_⟩) hHeld ?_ ?_;rotate_left
     ·rintro w' ⟨s0,s1,s2,s3⟩
      go_simp
      with_reducible rfl
     rotate_left
     ·simp only [Act.put,zi,zs,zt,i64_w,i32_w];rfl
     refine one_ (i:=5) (N:=some 26) (bz 6 63) rfl rfl zK (by decide) (fun K hK=>?_);refine goes_ Tryz.func121 zK rfl #[.agg #[.slice A44_0 ((rd_T63 l0 x9_1).f0).length c44_0,.slice A44_1 ((rd_T63 l0 x9_1).f1).length c44_1],.agg #[.int .i64 a2_0,.int .i64 a2_1]] (by rfl) rfl rfl zM ?_
     with_reducible refine (ancepsref40_fails.calls k1 _ _ ((rd_T63 l0 x9_1).f0) _ _ ((rd_T63 l0 x9_1).f1) a2_0 a2_1 t69 _ ?side1 ?side2 ?side3 ?side4 A11.out).mono ?_
     (case side1=>repeat (first|exact (by repeat (first|(with_reducible exact HR44_0.out)|(with_reducible refine Kd.C_alloc ?_ _)|(with_reducible refine Kd.C_drewN ?_ _)|(with_reducible refine Kd.C_drew ?_)|exact HR44_0.out))|(with_reducible refine Kd.C_alloc ?_ _)|(with_reducible refine Kd.C_drewN ?_ _)|(with_reducible refine Kd.C_drew ?_)));(case side2=>exact HC44_0.out);(case side3=>repeat (first|exact (by repeat (first|(with_reducible exact HR44_1.out)|(with_reducible refine Kd.C_alloc ?_ _)|(with_reducible refine Kd.C_drewN ?_ _)|(with_reducible refine Kd.C_drew ?_)|exact HR44_1.out))|(with_reducible refine Kd.C_alloc ?_ _)|(with_reducible refine Kd.C_drewN ?_ _)|(with_reducible refine Kd.C_drew ?_)));(case side4=>exact HC44_1.out);rintro e w14 ⟨rfl,hb⟩;have HS2_:=(hb.cell (World.block_lt_of_cell? _ _ (hHeld.2.2.1))).trans (hHeld.2.2.1);have HS3_:=(hb.cell (World.block_lt_of_cell? _ _ (hHeld.2.2.2))).trans (hHeld.2.2.2);refine ⟨_,rfl,?_⟩;replace HO_3:=zA (Kd.R_below (zR HO_3) hb);replace BK42:=zw BK42 hb;replace HR44_0:=zA (Kd.C_below (by repeat (first|(with_reducible exact HR44_0.out)|(with_reducible refine Kd.C_alloc ?_ _)|(with_reducible refine Kd.C_drewN ?_ _)|(with_reducible refine Kd.C_drew ?_)|exact HR44_0.out)) hb);replace HR44_1:=zA (Kd.C_below (by repeat (first|(with_reducible exact HR44_1.out)|(with_reducible refine Kd.C_alloc ?_ _)|(with_reducible refine Kd.C_drewN ?_ _)|(with_reducible refine Kd.C_drew ?_)|exact HR44_1.out)) hb);replace HK:=zA (Kept.below (S:=(fun k_=>P3_ k_)) (zkp1 HK GW42) hb);replace HB:=zu hb;(try clear hb);(try clear hb2);(try clear hk);(try clear hi);refine hK.out _ _ ⟨zc0 BK42,zc1 BK42,HS2_,HS3_⟩ (fun hHeld=>?_);clear hK K;refine norm_ (a':=?_) ?_ ?_;rotate_left
     ·show Act.put _ (some 26) _=_
      simp only [Act.put,zi,zs,zt,i64_w,i32_w];rfl
     refine done_ zK ?_
     go_upto_if 26 with (fail)
     (try simp only [Act.put,zi,zs,zt]);have H:=HC12.out;clear HC12
     by_cases c15:t69=true
     ·subst c15
      have H1:(if l3.length<4398046511104 then (some (l3++[(⟨(-1),0,0,x9_1⟩:S103)])) else (none))=some r:=by rw [if_pos rfl] at H;exact H
      clear H;have H:=H1;clear H1;obtain ⟨c16,H⟩:=if1 H;have LMc16:=zA c16;clear c16
      first|(replace H:=zyb (l3++[(⟨(-1),0,0,x9_1⟩:S103)]) H;obtain ⟨y59,Ny59,H⟩:=H)|(obtain ⟨y59,hy59⟩:=zY (l3++[(⟨(-1),0,0,x9_1⟩:S103)]);(try rw (occs:=.pos [1]) [← hy59] at H);have Ny59:=zA hy59;clear hy59)
      obtain rfl:=Option.some.inj H
      go_wp2_with (first|((with_reducible refine gate_builtin (b:=.append) (xs:=#[.tmp 27,.tmp 30]) rfl ?_);at_builtin;refine Kd.R_append k103 (w0:=w0) w0.heap.size rfl (.tmp 27) (.tmp 30) 38 103 (.agg #[(.int .i64 0),(.int .i64 0),(.int .i64 0),(.int .i64 0)]) 32 rfl Tryz.underlying38 info103 rfl (by decide) (by omega) (.slice Ao7 l3.length co7) l3 (⟨(-1),0,0,x9_1⟩:S103) [.int .i64 (-1),.int .i64 0,.int .i64 0,.int .i64 x9_1] (fun k_=>(P3_ k_∨w.heap.size≤k_)) (fun _=>False) rfl rfl ?aP (fun _ hk=>hk.elim) ?aF ?aO ?aB ?aS ?aL ?_;(case aP=>exact k103_mkM _ _ _ (⟨(-1),0,0,x9_1⟩:S103));(case aB=>exact zB);(case aF=>exact (fun k_ hk=>(.inr (Nat.le_trans (by first|exact HK.out.1|exact (show Kept w _ (fun k_=>P3_ k_) from zkp1 HK GW42).1) hk))));(case aO=>exact (zR HO_3));(case aS=>exact (below_size zB));(case aL=>have:=LMc16.out;omega);intro v81 w17 ho hb hg hat;rw [← Ny59.out] at ho;have HO79:=zA (ho);replace BK42:=zA (blk_grown (g:=gb42) (o:=.cells #[.int .i64 a2_0,.int .i64 a2_1] 124 (0,0)) (zk BK42) hg (Kd.R_ne HO_3.out BK42.out (by decide)));replace HB:=zA (hb);replace HK:=zA (Kept.of_grown (S:=(fun k_=>P3_ k_)) hg (zkp1 HK GW42) (fun k_ e_=>(HO_3.out.1 k_ e_)));clear HO_3;clear ho hb hg hat))
      go_ret
      exact ⟨_,ze,by refine zr ?_;exact HO79.out,zv1 HB GE42,zkp1 HK GW42⟩
     ·replace c15:=Bool.eq_false_iff.mpr c15;subst c15
      have H1:(ancepsref40_split.l0 k1 l0 l1 l3 (wrap64 (x9_1+1)) a2_0 a2_1)=some r:=by rw [if_neg (show ¬ (false=true) by decide)] at H;exact H
      clear H;have H:=H1;clear H1;have H':=zA H;clear H
      go_wp2
      go_roundg k1
      case measure=>have:=HK1.out;omega
      case rel=>exact ⟨(wrap64 (x9_1+1)),zT,H',⟨by have:=HK1.out;omega⟩,⟨by refine zr ?_;exact HO_3.out⟩,⟨by refine zj ?_;exact BK42.out⟩,⟨zkp1 HK GW42⟩,⟨zv1 HB GE42⟩⟩
    ·obtain ⟨c18,H⟩:=if1 H;have c18b0:decide (0<(l1.length:Int))=true:=decide_eq_true c18;have c18b1:decide (0<l1.length)=true:=decide_eq_true (by omega);clear c18;obtain ⟨c19,H⟩:=if1 H;have LMc19:=zA c19;clear c19
     first|(replace H:=zyb (l3++[(⟨rd l1 0,wrap64 ((l3.length:Int)+1),0,0⟩:S103)]) H;obtain ⟨y53,Ny53,H⟩:=H)|(obtain ⟨y53,hy53⟩:=zY (l3++[(⟨rd l1 0,wrap64 ((l3.length:Int)+1),0,0⟩:S103)]);(try rw (occs:=.pos [1]) [← hy53] at H);have Ny53:=zA hy53;clear hy53)
     obtain ⟨c20,H⟩:=if1 H;have c20b0:=eq_true c20;have c20b1:decide (1≤(l1.length:Int))=true:=decide_eq_true c20;clear c20;obtain ⟨t62,t73,A21,H⟩:=zO H
     dsimp only at H
     obtain ⟨t45,A22,H⟩:=zo H;obtain ⟨c23,H⟩:=if1 H;have c23b0:decide (0≤(l3.length:Int))=true:=decide_eq_true c23;have c23b1:decide (0≤l3.length)=true:=decide_eq_true (by omega);clear c23;obtain ⟨c24,H⟩:=if1 H;have c24b0:decide ((l3.length:Int)<(t45.length:Int))=true:=decide_eq_true c24;have c24b1:decide (l3.length<t45.length)=true:=decide_eq_true (Int.ofNat_lt.mp c24);clear c24
     first|(replace H:=zyb (t45.set ((l3.length:Int):Int).toNat (⟨(rd_T103 t45 (l3.length:Int)).f0,(rd_T103 t45 (l3.length:Int)).f1,(t45.length:Int),(rd_T103 t45 (l3.length:Int)).f3⟩:S103)) H;obtain ⟨y55,Ny55,H⟩:=H)|(obtain ⟨y55,hy55⟩:=zY (t45.set ((l3.length:Int):Int).toNat (⟨(rd_T103 t45 (l3.length:Int)).f0,(rd_T103 t45 (l3.length:Int)).f1,(t45.length:Int),(rd_T103 t45 (l3.length:Int)).f3⟩:S103));(try rw (occs:=.pos [1]) [← hy55] at H);have Ny55:=zA hy55;clear hy55)
     have c26b0:=eq_true (of_decide_eq_true zh:1≤(l1.length:Int));obtain ⟨t65,t74,A27,H⟩:=zO H
     dsimp only at H
     obtain ⟨t72,A28,H⟩:=zo H;obtain rfl:=Option.some.inj H
     have p50:0≤(0:Int):=(by omega)
     have q50:0<(l1.length:Int):=of_decide_eq_true zh;obtain ⟨ad50,e50,hx50_0⟩:=Kd.at_int (Kd.C_kept_now HR1.out HK.out) 0 p50 q50
     cases e50
     have qi50:(0<l1.length)=True:=eq_true (by omega);(try rw [show ((0:Int)).toNat=0 from rfl] at hx50_0);(try rw [Addr.add_zero'] at hx50_0);replace p50:=eq_true p50;replace q50:=eq_true q50
     try go_wp2_with (first|((with_reducible refine gate_builtin (b:=.append) (xs:=#[.tmp 34,.tmp 41]) rfl ?_);at_builtin;refine Kd.R_append k103 (w0:=w0) w0.heap.size rfl (.tmp 34) (.tmp 41) 38 103 (.agg #[(.int .i64 0),(.int .i64 0),(.int .i64 0),(.int .i64 0)]) 32 rfl Tryz.underlying38 info103 rfl (by decide) (by omega) (.slice Ao7 l3.length co7) l3 (⟨rd l1 0,wrap64 ((l3.length:Int)+1),0,0⟩:S103) [.int .i64 (rd l1 0),.int .i64 (wrap64 ((l3.length:Int)+1)),.int .i64 0,.int .i64 0] (fun k_=>(P3_ k_∨w.heap.size≤k_)) (fun _=>False) rfl rfl ?aP (fun _ hk=>hk.elim) ?aF ?aO ?aB ?aS ?aL ?_;(case aP=>exact k103_mkM _ _ _ (⟨rd l1 0,wrap64 ((l3.length:Int)+1),0,0⟩:S103));(case aB=>exact zB);(case aF=>exact (fun k_ hk=>(.inr (Nat.le_trans (by first|exact HK.out.1|exact (show Kept w _ (fun k_=>P3_ k_) from zkp1 HK GW42).1) hk))));(case aO=>exact (zR HO_3));(case aS=>exact (below_size zB));(case aL=>have:=LMc19.out;omega);intro v82 w29 ho hb hg hat;rw [← Ny53.out] at ho;have HO51:=zA (ho);replace BK42:=zA (blk_grown (g:=gb42) (o:=.cells #[.int .i64 a2_0,.int .i64 a2_1] 124 (0,0)) (zk BK42) hg (Kd.R_ne HO_3.out BK42.out (by decide)));replace HB:=zA (hb);replace HK:=zA (Kept.of_grown (S:=(fun k_=>P3_ k_)) hg (zkp1 HK GW42) (fun k_ e_=>(HO_3.out.1 k_ e_)));clear HO_3;clear ho hb hg hat))
     replace HO51:=zA (Kd.R_drew HO51.out);replace BK42:=zA (blk_drew BK42.out);replace HK:=zA (Kept.drew HK.out);replace HB:=zA (below_drew1 HB.out);obtain ⟨i75,hi75,_,hsz31,_⟩:=info_parts info3;obtain ⟨A31,hcut31,hA31,hC31⟩:=print_drop_of (P:=Tryz.prog) (Value.int .i64) 0 43 3 .i64 Tryz.underlying43 hi75 hsz31 (some ad50) c1 l1 1 (by omega) (of_decide_eq_true zh) HC1.out;have HR70:=zA (fun W_ hk_=>Kd.C_of_reads (h1:=fun _=>rfl) (hA31 _ (Kd.reads_of_C (HR1.out W_ hk_))));have HC70:=zA hC31;clear hA31 hC31 hi75 hsz31
     have p47:0≤(0:Int):=(by omega)
     have q47:0<(l1.length:Int):=of_decide_eq_true zh;obtain ⟨ad47,e47,hx47_0⟩:=Kd.at_int (Kd.C_kept_now HR1.out HK.out) 0 p47 q47;have hw47_0:=hx47_0;(try rw [show ((0:Int)).toNat=0 from rfl] at hw47_0);(try rw [show 0 * 1=0 from rfl] at hw47_0);(try rw [Addr.add_zero'] at hw47_0)
     obtain rfl:ad50=ad47:=(by injection e47)
     have qi47:(0<l1.length)=True:=eq_true (by omega);(try rw [show ((0:Int)).toNat=0 from rfl] at hx47_0);(try rw [Addr.add_zero'] at hx47_0);replace p47:=eq_true p47;replace q47:=eq_true q47;refine start_ (n:=11) (S:=fun w'=>w'.cell? ⟨gb42,0,none⟩=some (.int .i64 a2_0)∧w'.cell? ⟨gb42,1,none⟩=some (.int .i64 a2_1)∧w'.cell? ad50=some (.int .i64 (rd l1 0))) (ds:=[]) (bz 11 0) zK rfl rfl ⟨zc0 BK42,zc1 BK42,(by have h_:=Kd.foot_int (HR1.out _ (by repeat (first|exact HK.out|apply Kept.alloc|apply Kept.drewN|apply Kept.drew))) (0:Int) (of_eq_true p47) (of_eq_true q47);rw [show ((0:Int)).toNat=0 from rfl,Addr.add_zero'] at h_;exact h_)⟩ (fun hHeld=>?_);refine with_tabW ancepsref40_split.tab10 ancepsref40_split.bits10 (fun HT_ HW_=>?_)
     generalize w29.drew=w30 at HO51 BK42 HK HB HR70 hx47_0 hHeld ⊢
     refine zP 0 43 (bz 11 1) HT_ ?_;refine zP 1 44 (bz 11 3) HT_ ?_;refine zP 2 45 (bz 11 7) HT_ ?_;refine zP 4 47 (bz 11 23) HT_ ?_;refine zP 5 48 (bz 11 55) HT_ ?_;refine zP 8 51 (bz 11 311) HT_ ?_;refine zQ 3 46 (bz 11 319) HT_ HW_ hHeld ?_;refine zQ 6 49 (bz 11 383) HT_ HW_ hHeld ?_;refine one_ (i:=7) (N:=some 50) (bz 11 511) rfl rfl (one_of HT_.out zK) (by decide) (fun K hK=>?_);refine goes_ Tryz.func122 zK rfl #[.agg #[.int .i64 a2_0,.int .i64 a2_1],.int .i64 (rd l1 0),.int .i64 0] (by rfl) rfl rfl zM ?_
     with_reducible refine (ancepsref40_choices_with.calls a2_0 a2_1 (rd l1 0) 0 t62 t73 _ A21.out).mono ?_
     rintro e w32 ⟨rfl,hb⟩;refine ⟨_,rfl,?_⟩;replace HO51:=zA (Kd.R_below (zR HO51) hb);replace BK42:=zw BK42 hb;replace HK:=zA (Kept.below (S:=(fun k_=>P3_ k_)) (zkp1 HK GW42) hb);replace HB:=zu hb;(try clear hb);(try clear hb2);(try clear hk);(try clear hi);obtain ⟨Ao33,co33,eo33⟩:=Kd.R_slice HO51.out
     (first|subst eo33|(injection eo33 with f1_ f2_ f3_;have f4_:=f1_.symm;have f5_:=f3_.symm;clear f1_ f2_ f3_;subst f4_;subst f5_))
     refine hK.out _ _ ⟨zc0 BK42,zc1 BK42,(by have h_:=Kd.foot_int (HR1.out _ (by repeat (first|exact HK.out|apply Kept.alloc|apply Kept.drewN|apply Kept.drew))) (0:Int) (of_eq_true p47) (of_eq_true q47);rw [show ((0:Int)).toNat=0 from rfl,Addr.add_zero'] at h_;exact h_)⟩ (fun hHeld=>?_);clear hK K;refine norm_ (a':=?_) ?_ ?_;rotate_left
     ·show Act.put _ (some 50) _=_
      simp only [Act.put,zi,zs,zt,i64_w,i32_w];rfl
     refine one_ (i:=9) (N:=some 52) (bz 11 1023) rfl rfl (one_of HT_.out zK) (by decide) (fun K hK=>?_);refine goes_ Tryz.func102 zK rfl #[.slice A0 l0.length c0,.slice A31 (l1.drop 1).length (c1 - 1),.agg #[.int .i64 t62,.int .i64 t73],.slice Ao33 y53.length co33] (by rfl) rfl rfl (by (try simp only [List.map_toArray,List.map_cons,List.map_nil]);first|done|(rw [show (l1.drop 1).length=(l1.length - 1) from List.length_drop] <;> rfl)|rfl|(simp only [List.length_drop,List.length_take];rfl)) ?_
     with_reducible refine (ih k1 (by have:=HK1.out;omega) _ _ l0 _ _ (l1.drop 1) t62 t73 (fun k_=>some k_=(.slice Ao33 y53.length co33:Value).ownBlock) (.slice Ao33 y53.length co33) y53 t45 w0 _ ?side1 ?side2 ?side3 ?side4 ?side5 ?side6 A22.out).mono ?_
     (case side1=>repeat (first|(with_reducible first|exact HB.out|apply below_alloc|apply pw_below_drewN|apply below_drew1|refine below_set ?_ GE42.out)|exact HB.out));(case side2=>exact Kd.C_kept_call HR0.out (zkp1 HK GW42) (fun k_ hs_=>(fun e_=>(HO51.out.1 k_ e_.symm)) hs_));(case side3=>exact HC0.out);(case side4=>exact Kd.C_kept_call HR70.out (zkp1 HK GW42) (fun k_ hs_=>(fun e_=>(HO51.out.1 k_ e_.symm)) hs_));(case side5=>exact HC70.out);(case side6=>exact Kd.R_tight rfl HO51.out);rintro e w34 ⟨v83,rfl,ho0,hb,hkp⟩;refine ⟨_,rfl,?_⟩;have HO49:=zA (Kd.R_mono (ok':=fun k_=>(P3_ k_∨w.heap.size≤k_)) ho0 (fun k_ hk_=>Or.elim hk_ (fun hs_=>(HO51.out.1 k_ (hs_).symm)) (fun hn_=>(.inr (Nat.le_trans (by first|exact HK.out.1|exact (show Kept w _ (fun k_=>P3_ k_) from zkp1 HK GW42).1) hn_)))));replace BK42:=zA (blk_kept (zk BK42) hkp (fun hs_=>(fun e_=>(Kd.R_ne HO51.out BK42.out (by decide)) e_) hs_));replace HK:=zA (Kept.then_ (S:=(fun k_=>P3_ k_)) (zkp1 HK GW42) hkp (fun k_ hs_=>(fun e_=>(HO51.out.1 k_ e_.symm)) hs_));replace HB:=zA (hb);clear HO51;(try clear hb);(try clear hkp);(try clear ho0);refine hK.out _ _ ⟨zc0 BK42,zc1 BK42,(by have h_:=Kd.foot_int (HR1.out _ (by repeat (first|exact HK.out|apply Kept.alloc|apply Kept.drewN|apply Kept.drew))) (0:Int) (of_eq_true p47) (of_eq_true q47);rw [show ((0:Int)).toNat=0 from rfl,Addr.add_zero'] at h_;exact h_)⟩ (fun hHeld=>?_);clear hK K;refine norm_ (a':=?_) ?_ ?_;rotate_left
     ·show Act.put _ (some 52) _=_
      simp only [Act.put,zi,zs,zt,i64_w,i32_w];rfl
     refine zP 10 3 (bz 11 2047) HT_ ?_;refine done_ (done_of HT_.out zK) ?_;obtain ⟨Ao35,co35,eo35⟩:=Kd.R_slice HO49.out;subst eo35;have p25:0≤((l3.length:Int):Int):=of_decide_eq_true zh;have q25:((l3.length:Int):Int)<((t45.length:Int):Int):=of_decide_eq_true zh;obtain ⟨go25,co25,eo25,gb25,gl25,cl25,HG25⟩:=Kd.R_form HO49.out (by omega)
     (first|cases eo25|(injection eo25 with ea_ en_ ec_;(first|subst ea_|(injection ea_ with ea_;subst ea_));subst ec_;clear en_))
     have GB25:=zA gb25;have GG25:=zA HG25;clear gb25 gl25 HG25;have HMgo25:=zA (show (P3_ go25∨w.heap.size≤go25) from (HO49.out.1 _ rfl));obtain ⟨ce25,hcl25,hM25,hcc25,hfr25⟩:=Kd.R_elem HO49.out z103 ((l3.length:Int):Int) p25 q25;obtain rfl:=k103_openM hM25;have hx25_0:w34.cell? ⟨go25,((l3.length:Int):Int).toNat * 4,none⟩=some (.int .i64 ((rd_T103 t45 (l3.length:Int)).f0)):=hcc25 0 _ rfl;have hx25_1:w34.cell? ⟨go25,((l3.length:Int):Int).toNat * 4+1,none⟩=some (.int .i64 ((rd_T103 t45 (l3.length:Int)).f1)):=hcc25 1 _ rfl;have hx25_2:w34.cell? ⟨go25,((l3.length:Int):Int).toNat * 4+2,none⟩=some (.int .i64 ((rd_T103 t45 (l3.length:Int)).f2)):=hcc25 2 _ rfl;have hx25_3:w34.cell? ⟨go25,((l3.length:Int):Int).toNat * 4+3,none⟩=some (.int .i64 ((rd_T103 t45 (l3.length:Int)).f3)):=hcc25 3 _ rfl;have hf25_0:w34.frozen? ⟨go25,((l3.length:Int):Int).toNat * 4,none⟩=false:=hfr25 0;have hf25_1:w34.frozen? ⟨go25,((l3.length:Int):Int).toNat * 4+1,none⟩=false:=hfr25 1;have hf25_2:w34.frozen? ⟨go25,((l3.length:Int):Int).toNat * 4+2,none⟩=false:=hfr25 2;have hf25_3:w34.frozen? ⟨go25,((l3.length:Int):Int).toNat * 4+3,none⟩=false:=hfr25 3;clear hcl25 hcc25 hfr25 hM25;replace p25:=eq_true p25;replace q25:=eq_true q25;have HX36:=zA (show Kd.R k103 103 w34 w0.heap.size (fun k_=>(P3_ k_∨w.heap.size≤k_)) (.slice (some ⟨go25,0,none⟩) t45.length co35) t45 from (zR HO49));obtain ⟨ce36,hcl36,hM36,hcc36,hfr36⟩:=Kd.R_elem HX36.out z103 ((l3.length:Int):Int) (of_decide_eq_true zh) (by have h_:((l3.length:Int):Int)<((t45.length:Int):Int):=of_decide_eq_true zh;first|exact h_|(have e_:=(Kd.R_reads' HO49.out).1;omega)|simpa using h_);obtain rfl:=k103_openM hM36;have HP36:=Kd.R_seg HX36.out ((l3.length:Int):Int) (of_decide_eq_true zh) (by have h_:((l3.length:Int):Int)<((t45.length:Int):Int):=of_decide_eq_true zh;first|exact h_|(have e_:=(Kd.R_reads' HO49.out).1;omega)|simpa using h_) (seg:=[.int .i64 (t45.length:Int)]) (j:=2) hcl36 hcc36 (show 3≤4 from by decide) (x':=(⟨(rd_T103 t45 (l3.length:Int)).f0,(rd_T103 t45 (l3.length:Int)).f1,(t45.length:Int),(rd_T103 t45 (l3.length:Int)).f3⟩:S103)) (k103_mkM _ _ _ (⟨(rd_T103 t45 (l3.length:Int)).f0,(rd_T103 t45 (l3.length:Int)).f1,(t45.length:Int),(rd_T103 t45 (l3.length:Int)).f3⟩:S103)) (fun _ hk=>hk);have hx36_2:=hcc36 2 _ rfl;(try simp only [show (k103).sz=4 from rfl,Nat.mul_one,Nat.add_zero,Int.toNat_natCast] at hx36_2);have hf36_2:=hfr36 2;(try simp only [show (k103).sz=4 from rfl,Nat.mul_one,Nat.add_zero,Int.toNat_natCast] at hf36_2);clear hcl36 hcc36 hfr36 hM36
     try go_wp2_with (first|((with_reducible refine gate_store (t:=3) (p:=58) rfl ?_);refine store_event (t:=3) (p:=58) (v:=?vo_w37) (w1:=(w34.setCell ⟨go25,((l3.length:Int):Int).toNat * 4+2,none⟩ (.int .i64 (t45.length:Int)))) ?hg ?ho ?hn ?hr ?_;(case ho=>rfl);(case hg=>rfl);(case hn=>rfl);(case hr=>first|(go_simp;done)|(go_simp;rfl));intro w37 hw;have hg:w34.grownBy w37 (some go25):=(by rw [hw];exact HP36.2);have hp_:Kd.R k103 103 w37 w0.heap.size (fun k_=>(P3_ k_∨w.heap.size≤k_)) (.slice (some ⟨go25,0,none⟩) t45.length co35) y55:=(by rw [hw,Ny55.out];exact HP36.1);clear HP36;replace BK42:=zA (blk_grown (g:=gb42) (o:=.cells #[.int .i64 a2_0,.int .i64 a2_1] 124 (0,0)) (zk BK42) hg (Kd.R_ne HO49.out BK42.out (by decide)));replace HB:=zA ((by rw [hw];exact below_set (HB.out) GB25.out:Below w0.heap.size w0 w37));replace HK:=zA (Kept.of_grown (S:=(fun k_=>P3_ k_)) hg (zkp1 HK GW42) (fun k_ e_=>(HO49.out.1 k_ e_)));replace HO49:=zA (hp_);clear hg hw hp_))
     replace HO49:=zA (Kd.R_drew HO49.out);replace BK42:=zA (blk_drew BK42.out);replace HK:=zA (Kept.drew HK.out);replace HB:=zA (below_drew1 HB.out)
     try clear hcut31
     obtain ⟨i77,hi77,_,hsz39,_⟩:=info_parts info3;obtain ⟨A39,hcut39,hA39,hC39⟩:=print_drop_of (P:=Tryz.prog) (Value.int .i64) 0 43 3 .i64 Tryz.underlying43 hi77 hsz39 (some ad50) c1 l1 1 (by omega) (of_decide_eq_true zh) HC1.out;have HR71:=zA (fun W_ hk_=>Kd.C_of_reads (h1:=fun _=>rfl) (hA39 _ (Kd.reads_of_C (HR1.out W_ hk_))));have HC71:=zA hC39;clear hA39 hC39 hi77 hsz39
     have p48:0≤(0:Int):=(by omega)
     have q48:0<(l1.length:Int):=of_decide_eq_true zh;obtain ⟨ad48,e48,hx48_0⟩:=Kd.at_int (Kd.C_kept_now HR1.out HK.out) 0 p48 q48;have hw48_0:=hx48_0;(try rw [show ((0:Int)).toNat=0 from rfl] at hw48_0);(try rw [show 0 * 1=0 from rfl] at hw48_0);(try rw [Addr.add_zero'] at hw48_0)
     obtain rfl:ad50=ad48:=(by injection e48)
     have qi48:(0<l1.length)=True:=eq_true (by omega);(try rw [show ((0:Int)).toNat=0 from rfl] at hx48_0);(try rw [Addr.add_zero'] at hx48_0);replace p48:=eq_true p48;replace q48:=eq_true q48;refine start_ (n:=11) (S:=fun w'=>w'.cell? ⟨gb42,0,none⟩=some (.int .i64 a2_0)∧w'.cell? ⟨gb42,1,none⟩=some (.int .i64 a2_1)∧w'.cell? ad50=some (.int .i64 (rd l1 0))) (ds:=[]) (bz 11 0) zK rfl rfl ⟨zc0 BK42,zc1 BK42,(by have h_:=Kd.foot_int (HR1.out _ (by repeat (first|exact HK.out|apply Kept.alloc|apply Kept.drewN|apply Kept.drew))) (0:Int) (of_eq_true p48) (of_eq_true q48);rw [show ((0:Int)).toNat=0 from rfl,Addr.add_zero'] at h_;exact h_)⟩ (fun hHeld=>?_);refine with_tabW ancepsref40_split.tab12 ancepsref40_split.bits12 (fun HT_ HW_=>?_)
     generalize w37.drew=w38 at HO49 BK42 HK HB HR71 hx48_0 hHeld ⊢
     refine zP 0 59 (bz 11 1) HT_ ?_;refine zP 1 60 (bz 11 3) HT_ ?_;refine zP 2 61 (bz 11 7) HT_ ?_;refine zP 4 63 (bz 11 23) HT_ ?_;refine zP 5 64 (bz 11 55) HT_ ?_;refine zP 8 67 (bz 11 311) HT_ ?_;refine zQ 3 62 (bz 11 319) HT_ HW_ hHeld ?_;refine zQ 6 65 (bz 11 383) HT_ HW_ hHeld ?_;refine one_ (i:=7) (N:=some 66) (bz 11 511) rfl rfl (one_of HT_.out zK) (by decide) (fun K hK=>?_);refine goes_ Tryz.func122 zK rfl #[.agg #[.int .i64 a2_0,.int .i64 a2_1],.int .i64 (rd l1 0),.int .i64 1] (by rfl) rfl rfl zM ?_
     with_reducible refine (ancepsref40_choices_with.calls a2_0 a2_1 (rd l1 0) 1 t65 t74 _ A27.out).mono ?_
     rintro e w40 ⟨rfl,hb⟩;refine ⟨_,rfl,?_⟩;replace HO49:=zA (Kd.R_below (zR HO49) hb);replace BK42:=zw BK42 hb;replace HK:=zA (Kept.below (S:=(fun k_=>P3_ k_)) (zkp1 HK GW42) hb);replace HB:=zu hb;(try clear hb);(try clear hb2);(try clear hk);(try clear hi);refine hK.out _ _ ⟨zc0 BK42,zc1 BK42,(by have h_:=Kd.foot_int (HR1.out _ (by repeat (first|exact HK.out|apply Kept.alloc|apply Kept.drewN|apply Kept.drew))) (0:Int) (of_eq_true p48) (of_eq_true q48);rw [show ((0:Int)).toNat=0 from rfl,Addr.add_zero'] at h_;exact h_)⟩ (fun hHeld=>?_);clear hK K;refine norm_ (a':=?_) ?_ ?_;rotate_left
     ·show Act.put _ (some 66) _=_
      simp only [Act.put,zi,zs,zt,i64_w,i32_w];rfl
     refine one_ (i:=9) (N:=some 68) (bz 11 1023) rfl rfl (one_of HT_.out zK) (by decide) (fun K hK=>?_);refine goes_ Tryz.func102 zK rfl #[.slice A0 l0.length c0,.slice A39 (l1.drop 1).length (c1 - 1),.agg #[.int .i64 t65,.int .i64 t74],.slice (some ⟨go25,0,none⟩) t45.length co35] (by rfl) rfl rfl (by (try simp only [List.map_toArray,List.map_cons,List.map_nil]);first|done|(rw [show (l1.drop 1).length=(l1.length - 1) from List.length_drop] <;> rfl)|rfl|(simp only [List.length_drop,List.length_take];rfl)) ?_
     with_reducible refine (ih k1 (by have:=HK1.out;omega) _ _ l0 _ _ (l1.drop 1) t65 t74 (fun k_=>some k_=(.slice (some ⟨go25,0,none⟩) t45.length co35:Value).ownBlock) (.slice (some ⟨go25,0,none⟩) t45.length co35) y55 t72 w0 _ ?side1 ?side2 ?side3 ?side4 ?side5 ?side6 A28.out).mono ?_
     (case side1=>repeat (first|(with_reducible first|exact HB.out|apply below_alloc|apply pw_below_drewN|apply below_drew1|refine below_set ?_ GE42.out)|exact HB.out));(case side2=>exact Kd.C_kept_call HR0.out (zkp1 HK GW42) (fun k_ hs_=>(fun e_=>(HO49.out.1 k_ e_.symm)) hs_));(case side3=>exact HC0.out);(case side4=>exact Kd.C_kept_call HR71.out (zkp1 HK GW42) (fun k_ hs_=>(fun e_=>(HO49.out.1 k_ e_.symm)) hs_));(case side5=>exact HC71.out);(case side6=>exact Kd.R_tight rfl HO49.out);rintro e w41 ⟨v84,rfl,ho0,hb,hkp⟩;refine ⟨_,rfl,?_⟩;have HO80:=zA (Kd.R_mono (ok':=fun k_=>(P3_ k_∨w.heap.size≤k_)) ho0 (fun k_ hk_=>Or.elim hk_ (fun hs_=>(HO49.out.1 k_ (hs_).symm)) (fun hn_=>(.inr (Nat.le_trans (by first|exact HK.out.1|exact (show Kept w _ (fun k_=>P3_ k_) from zkp1 HK GW42).1) hn_)))));replace BK42:=zA (blk_kept (zk BK42) hkp (fun hs_=>(fun e_=>(Kd.R_ne HO49.out BK42.out (by decide)) e_) hs_));replace HK:=zA (Kept.then_ (S:=(fun k_=>P3_ k_)) (zkp1 HK GW42) hkp (fun k_ hs_=>(fun e_=>(HO49.out.1 k_ e_.symm)) hs_));replace HB:=zA (hb);clear HO49;(try clear hb);(try clear hkp);(try clear ho0);refine hK.out _ _ ⟨zc0 BK42,zc1 BK42,(by have h_:=Kd.foot_int (HR1.out _ (by repeat (first|exact HK.out|apply Kept.alloc|apply Kept.drewN|apply Kept.drew))) (0:Int) (of_eq_true p48) (of_eq_true q48);rw [show ((0:Int)).toNat=0 from rfl,Addr.add_zero'] at h_;exact h_)⟩ (fun hHeld=>?_);clear hK K;refine norm_ (a':=?_) ?_ ?_;rotate_left
     ·show Act.put _ (some 68) _=_
      simp only [Act.put,zi,zs,zt,i64_w,i32_w];rfl
     refine zP 10 8 (bz 11 2047) HT_ ?_;refine done_ (done_of HT_.out zK) ?_
     try go_wp2
     go_ret
     exact ⟨_,ze,by refine zr ?_;exact HO80.out,zv1 HB GE42,zkp1 HK GW42⟩
def ancepsref40_Refute.f (k:Nat) (l0:List (S63)):Option ((List (S103))×Int):=(ancepsref40_Valid.f k l0).bind fun t61=>(if t61=0 then ((ancepsref40_solutions.f k l0 1).bind fun t56=>(if (t56.length:Int)>0 then (some (([]:List (S103)),11)) else ((ancepsref40_Vars.f k l0).bind fun t60=>((ancepsref40_split.f k l0 t60 0 0 ([]:List (S103))).bind fun t52=>(if (t52.length:Int)>2000 then (some (([]:List (S103)),3)) else (some (t52,0))))))) else (some (([]:List (S103)),t61)))
set_option maxHeartbeats 8000000 in
set_option maxRecDepth 100000 in
theorem ancepsref40_Refute.calls (k:Nat) (A0:Option Addr) (c0:Nat) (l0:List (S63)) (r1:List (S103)) (r2:Int) (w:World) (hr0:Kd.C k63 w A0 l0.length l0) (hc0:l0.length≤c0) (h:ancepsref40_Refute.f k l0=some (r1,r2)) :
  Calls Tryz.prog 76 #[.slice A0 l0.length c0] w fun e w'=>∃ v0_:Value,e=.returned (.tuple #[.agg #[v0_],.int .i64 r2])∧Kd.R k103 103 w' w.heap.size (fun _=>True) v0_ r1∧Below w.heap.size w w':=by
 have HR0:=zA hr0;have HC0:=zA hc0;clear hr0 hc0;have HB:=zA (Below.refl w.heap.size w);have H:((ancepsref40_Valid.f k l0).bind fun t61=>(if t61=0 then ((ancepsref40_solutions.f k l0 1).bind fun t56=>(if (t56.length:Int)>0 then (some (([]:List (S103)),11)) else ((ancepsref40_Vars.f k l0).bind fun t60=>((ancepsref40_split.f k l0 t60 0 0 ([]:List (S103))).bind fun t52=>(if (t52.length:Int)>2000 then (some (([]:List (S103)),3)) else (some (t52,0))))))) else (some (([]:List (S103)),t61))))=some (r1,r2):=h;clear h;obtain ⟨t61,A2,H⟩:=zo H;have HC3:=zA H;clear H
 go_enter Tryz.func76,Tryz.ntmps76
 go_upto_if 9 with (first|((with_reducible refine gd 2 rfl ?_);refine zx #[.slice none 0 0] 40 ?_;intro gb46 hg w4 BK46 hb GW46 HB1;have GE46:=GW46;clear HB hb hg;have HB:=HB1;clear HB1)|((with_reducible refine gate_callee (f:=33) rfl ?_);refine zgo 7 Tryz.func33 #[.slice A0 l0.length c0] ?_;(with_reducible refine (ancepsref40_Valid.calls k _ _ l0 t61 _ (zD HR0 HB) HC0.out A2.out).mono ?_);rintro e w5 ⟨rfl,hb⟩;refine ⟨_,rfl,?_⟩;replace BK46:=zw BK46 hb;replace HB:=zu hb;clear hb))
 (try simp only [Act.put,zi,zs,zt]);have H:=HC3.out;clear HC3
 rcases ife H with ⟨c6b0,c6b1,H⟩|⟨c6,c6b0,c6b1,H⟩
 ·(first|rw [c6b0]|(simp only [i64_w,i32_w];rw [c6b0])|skip)
  (try rw [c6b1]);obtain ⟨t56,A7,H⟩:=zo H;have HC8:=zA H;clear H
  go_upto_if 15 with (first|((with_reducible refine gate_callee (f:=54) rfl ?_);refine zgo 13 Tryz.func54 #[.slice A0 l0.length c0,.int .i64 1] ?_;(with_reducible refine (ancepsref40_solutions.calls k _ _ l0 1 t56 _ (zD HR0 HB) HC0.out A7.out).mono ?_);rintro e w9 ⟨v85,rfl,ho0,hb⟩;refine ⟨_,rfl,?_⟩;have HO66:=zA (Kd.R_lower ho0 (below_size zB));replace BK46:=zw BK46 hb;replace HB:=zu hb;clear hb;(try clear ho0);obtain ⟨Ao10,co10,eo10⟩:=Kd.R_slice HO66.out;subst eo10))
  (try simp only [Act.put,zi,zs,zt]);have H:=HC8.out;clear HC8
  rcases if0 H with ⟨c11,H⟩|⟨c11,H⟩
  ·have c11b0:decide (0<(t56.length:Int))=true:=decide_eq_true c11;have c11b1:decide (0<t56.length)=true:=decide_eq_true (by omega);clear c11
   (first|rw [c11b0]|(simp only [i64_w,i32_w];rw [c11b0])|skip)
   (try rw [c11b1]);simp only [Option.some.injEq,Prod.mk.injEq] at H;obtain ⟨rfl,rfl⟩:=H;have hcz12_0:=zc0 BK46;have hfz12_0:=zf BK46 0
   go_wp2
   refine bodyPost_ret (results_ct rfl _ _ gb46 40 #[.slice none 0 0] (0,0) _ rfl (by refine zj ?_;refine blk_put (cs:=#[.slice none 0 0]) ?_ 0 _ rfl;refine zj ?_;exact BK46.out) Tryz.underlying40 rfl zK) rfl ?_;exact ⟨_,ze,by first|exact Kd.R_nil _ _ _ _ _|exact Kd.N_nil _ _ _ _ _|exact Kd.V_nil _ _ _ _ _|exact Kd.Q_nil _ _ _ _ _|exact Kd.S_nil _ _ _ _ _,zv1 HB GE46⟩
  ·have c11b0:decide (0<(t56.length:Int))=false:=decide_eq_false c11;have c11b1:decide (0<t56.length)=false:=decide_eq_false (by omega);clear c11
   (first|rw [c11b0]|(simp only [i64_w,i32_w];rw [c11b0])|skip)
   (try rw [c11b1]);obtain ⟨t60,A13,H⟩:=zo H;obtain ⟨t52,A14,H⟩:=zo H;have HC15:=zA H;clear H
   go_upto_if 24 with (first|((with_reducible refine gate_callee (f:=34) rfl ?_);refine zgo 19 Tryz.func34 #[.slice A0 l0.length c0] ?_;(with_reducible refine (ancepsref40_Vars.calls k _ _ l0 t60 _ (zD HR0 HB) HC0.out A13.out).mono ?_);rintro e w16 ⟨v86,rfl,ho0,hb⟩;refine ⟨_,rfl,?_⟩;have HO68:=zA (Kd.R_lower (Kd.R_new' ho0 (Kd.R_lt (zR HO66))) (below_size zB));replace HO66:=zA (Kd.R_elder' (zR HO66) (Kd.R_base ho0) hb);replace BK46:=zw BK46 hb;replace HB:=zu hb;clear hb;(try clear ho0);obtain ⟨Ao17,co17,eo17⟩:=Kd.R_slice HO68.out;subst eo17)|((with_reducible refine gate_callee (f:=102) rfl ?_);refine zgo 21 Tryz.func102 #[.slice A0 l0.length c0,.slice Ao17 t60.length co17,.agg #[.int .i64 0,.int .i64 0],.slice none 0 0] ?_;(refine (ancepsref40_split.calls k _ _ l0 _ _ t60 0 0 (fun k_=>some k_=(.slice none 0 0:Value).ownBlock) (.slice none 0 0) ([]:List (S103)) t52 w _ ?side1 ?side2 ?side3 ?side4 ?side5 ?side6 A14.out).mono ?_);(case side1=>repeat (first|(with_reducible first|exact HB.out|apply below_alloc|apply pw_below_drewN|apply below_drew1|refine below_set ?_ GE46.out)|exact HB.out));(case side2=>exact Kd.C_kept_came k63_heap HR0.out zB (fun k_ hs_=>(fun e_=>by simp [Value.ownBlock] at e_) hs_));(case side3=>exact HC0.out);(case side4=>exact Kd.C_kept_own (HO68.out) (fun k_ hk_ hs_=>(fun e_=>by simp [Value.ownBlock] at e_) hs_));(case side5=>exact (Kd.R_reads' HO68.out).2.1);(case side6=>exact Kd.R_nil _ _ _ _ _);rintro e w18 ⟨v87,rfl,ho0,hb,hkp⟩;refine ⟨_,rfl,?_⟩;have HO78:=zA (Kd.R_mono (ok':=fun k_=>True) ho0 (fun k_ hk_=>trivial));replace BK46:=zA (blk_kept (zk BK46) hkp (fun hs_=>(fun e_=>by simp [Value.ownBlock] at e_) hs_));replace HO66:=zA (Kd.R_mono (ok':=fun k_=>some k_≠(.slice Ao17 t60.length co17:Value).ownBlock) (Kd.R_keptB (HO66.out) hkp (fun k_ hk_ hs_=>(fun e_=>by simp [Value.ownBlock] at e_) hs_)) (fun k_ hk_=>hk_.1.2));replace HO68:=zA (Kd.R_mono (ok':=fun k_=>some k_≠(.slice Ao10 t56.length co10:Value).ownBlock) (Kd.R_keptB (HO68.out) hkp (fun k_ hk_ hs_=>(fun e_=>by simp [Value.ownBlock] at e_) hs_)) (fun k_ hk_=>hk_.1.2));replace HB:=zA (hb);(try clear hb);(try clear hkp);(try clear ho0);obtain ⟨Ao19,co19,eo19⟩:=Kd.R_slice HO78.out;subst eo19))
   (try simp only [Act.put,zi,zs,zt]);have H:=HC15.out;clear HC15
   rcases if0 H with ⟨c20,H⟩|⟨c20,H⟩
   ·have c20b0:decide (2000<(t52.length:Int))=true:=decide_eq_true c20;have c20b1:decide (2000<t52.length)=true:=decide_eq_true (by omega);clear c20
    (first|rw [c20b0]|(simp only [i64_w,i32_w];rw [c20b0])|skip)
    (try rw [c20b1]);simp only [Option.some.injEq,Prod.mk.injEq] at H;obtain ⟨rfl,rfl⟩:=H;have hcz21_0:=zc0 BK46;have hfz21_0:=zf BK46 0
    go_wp2
    refine bodyPost_ret (results_ct rfl _ _ gb46 40 #[.slice none 0 0] (0,0) _ rfl (by refine zj ?_;refine blk_put (cs:=#[.slice none 0 0]) ?_ 0 _ rfl;refine zj ?_;exact BK46.out) Tryz.underlying40 rfl zK) rfl ?_;exact ⟨_,ze,by first|exact Kd.R_nil _ _ _ _ _|exact Kd.N_nil _ _ _ _ _|exact Kd.V_nil _ _ _ _ _|exact Kd.Q_nil _ _ _ _ _|exact Kd.S_nil _ _ _ _ _,zv1 HB GE46⟩
   ·have c20b0:decide (2000<(t52.length:Int))=false:=decide_eq_false c20;have c20b1:decide (2000<t52.length)=false:=decide_eq_false (by omega);clear c20
    (first|rw [c20b0]|(simp only [i64_w,i32_w];rw [c20b0])|skip)
    (try rw [c20b1]);simp only [Option.some.injEq,Prod.mk.injEq] at H;obtain ⟨rfl,rfl⟩:=H;have hcz22_0:=zc0 BK46;have hfz22_0:=zf BK46 0
    go_wp2
    refine bodyPost_ret (results_ct rfl _ _ gb46 40 #[.slice Ao19 t52.length co19] (0,0) _ rfl (by refine zj ?_;refine blk_put (cs:=#[.slice none 0 0]) ?_ 0 _ rfl;refine zj ?_;exact BK46.out) Tryz.underlying40 rfl zK) rfl ?_;exact ⟨_,ze,by refine zr ?_;exact Kd.R_mono (Kd.R_far (p:=⟨gb46,0,none⟩) (Kd.R_types HO78.out BK46.out (by decide)) (fun _ hk=>hk.2) (.slice Ao19 t52.length co19)) (fun _ hk=>trivial),zv1 HB GE46⟩
 ·(first|rw [c6b0]|(simp only [i64_w,i32_w];rw [c6b0])|skip)
  (try rw [c6b1]);simp only [Option.some.injEq,Prod.mk.injEq] at H;obtain ⟨rfl,rfl⟩:=H;have hcz23_0:=zc0 BK46;have hfz23_0:=zf BK46 0
  go_wp2
  refine bodyPost_ret (results_ct rfl _ _ gb46 40 #[.slice none 0 0] (0,0) _ rfl (by refine zj ?_;refine blk_put (cs:=#[.slice none 0 0]) ?_ 0 _ rfl;refine zj ?_;exact BK46.out) Tryz.underlying40 rfl zK) rfl ?_;exact ⟨_,ze,by first|exact Kd.R_nil _ _ _ _ _|exact Kd.N_nil _ _ _ _ _|exact Kd.V_nil _ _ _ _ _|exact Kd.Q_nil _ _ _ _ _|exact Kd.S_nil _ _ _ _ _,zv1 HB GE46⟩
end Go.Proofs.YtngpkbbljnbojaaGreat.A
