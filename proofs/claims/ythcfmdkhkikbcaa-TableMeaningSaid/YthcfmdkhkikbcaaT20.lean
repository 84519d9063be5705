import Derived.Test.YthcfmdkhkikbcaaT0
import Derived.Test.YthcfmdkhkikbcaaT6
namespace Go.Proofs.Ythcfmdkhkikbcaa.T
open Go.RowKit Go.Proofs.YthcfmdkhkikbcaaW.PrintWords Go.Proofs.YthcfmdkhkikbcaaW.PrintLast Go.Proofs.YthcfmdkhkikbcaaW.PrintMore
attribute [local go_sem] max2_int min2_int max_two min_two max_three min_three max_four min_four
set_option linter.unusedVariables false
set_option linter.unusedSimpArgs false
def ancepsref38_Both.l0:Nat→List Int→List Int→List Int→Int→Option (List Int)
 | 0,_,_,_,_=>none
 | k+1,x0,x1,x5,x6=>if x6<24 then ((ancepsref38_in.f k x0 x6).bind fun t700=>(if t700=true then (if x5.length<17592186044416 then (ancepsref38_Both.l0 k x0 x1 (x5++[x6]) (wrap64 (x6+1))) else (none)) else ((ancepsref38_in.f k x1 x6).bind fun t704=>(if t704=true then (if x5.length<17592186044416 then (ancepsref38_Both.l0 k x0 x1 (x5++[x6]) (wrap64 (x6+1))) else (none)) else (ancepsref38_Both.l0 k x0 x1 x5 (wrap64 (x6+1))))))) else (some x5)
def ancepsref38_Both.f (k:Nat) (l0:List Int) (l1:List Int):Option (List Int):=ancepsref38_Both.l0 k l0 l1 ([]:List Int) 0
theorem ancepsref38_Both.mono_l:∀ k,(∀ y0 y1 y2 y3,LeO (ancepsref38_Both.l0 k y0 y1 y2 y3) (ancepsref38_Both.l0 (k+1) y0 y1 y2 y3))
 | 0=>fun _ _ _ _ r h=>by simp [ancepsref38_Both.l0] at h
 | k+1=>by
  have ih0:=ancepsref38_Both.mono_l k
  ·intro y0 y1 y2 y3
   unfold ancepsref38_Both.l0
   repeat' first
   | (with_reducible exact ih0 _ _ _ _)
   | (with_reducible exact ancepsref38_in.mono _ _ _)
   | (with_reducible exact LeO.refl _)
   | (with_reducible exact LeO.none _)
   | (with_reducible refine LeO.ite ?_ ?_)
   | (with_reducible refine LeO.bind ?_ (fun _=>?_))
   | exact LeO.none _
   | refine LeO.ite ?_ ?_
   | refine LeO.bind ?_ (fun _=>?_)
theorem ancepsref38_Both.mono:∀ a0 a1 k,LeO (ancepsref38_Both.f k a0 a1) (ancepsref38_Both.f (k+1) a0 a1):=by
 intro a0 a1 k
 have ih0:=ancepsref38_Both.mono_l k
 unfold ancepsref38_Both.f
 repeat' first
   | (with_reducible exact ih0 _ _ _ _)
   | (with_reducible exact ancepsref38_in.mono _ _ _)
   | (with_reducible exact LeO.refl _)
   | (with_reducible exact LeO.none _)
   | (with_reducible refine LeO.ite ?_ ?_)
   | (with_reducible refine LeO.bind ?_ (fun _=>?_))
   | exact LeO.none _
   | refine LeO.ite ?_ ?_
   | refine LeO.bind ?_ (fun _=>?_)
set_option maxHeartbeats 8000000 in
set_option maxRecDepth 100000 in
theorem ancepsref38_Both.calls (k:Nat) (A0:Option Addr) (c0:Nat) (l0:List Int) (A1:Option Addr) (c1:Nat) (l1:List Int) (r:List Int) (w:World) (hr0:Kd.C (Kd.int .i64) w A0 l0.length l0) (hc0:l0.length≤c0) (hr1:Kd.C (Kd.int .i64) w A1 l1.length l1) (hc1:l1.length≤c1) (h:ancepsref38_Both.f k l0 l1=some r) :
  Calls Try.prog 14 #[.slice A0 l0.length c0,.slice A1 l1.length c1] w fun e w'=>∃ v0_:Value,e=.returned (v0_)∧Kd.R (Kd.int .i64) 3 w' w.heap.size (fun _=>True) v0_ r∧Below w.heap.size w w':=by
 have HR0:=zA hr0
 have HC0:=zA hc0
 clear hr0 hc0
 have HR1:=zA hr1
 have HC1:=zA hc1
 clear hr1 hc1
 have HB:=zA (Below.refl w.heap.size w)
 have H:(ancepsref38_Both.l0 k l0 l1 ([]:List Int) 0)=some r:=h
 clear h
 have H':=zA H
 clear H
 go_enter Try.func14,Try.ntmps14
 go_wp2
 go_loopg [5,6] k (fun kq v5 v6 w'=>∃ (x5_1:List Int) (x6_1:Int),v6=.int .i64 x6_1∧Aside0 (ancepsref38_Both.l0 kq l0 l1 x5_1 x6_1=some r)∧Aside0 (kq≤k)∧Aside0 (Kd.R (Kd.int .i64) 3 w' w.heap.size (fun _=>True) v5 x5_1)∧Aside0 (Below w.heap.size w w'))
 case atStart=>exact ⟨(([]:List Int)),(0),zT,H',⟨Nat.le_refl _⟩,⟨by first|exact Kd.R_nil _ _ _ _ _|exact Kd.N_nil _ _ _ _ _|exact Kd.V_nil _ _ _ _ _|exact Kd.Q_nil _ _ _ _ _|exact Kd.S_nil _ _ _ _ _⟩,⟨by repeat (first|(with_reducible first|exact HB.out|apply below_alloc|apply pw_below_drewN|apply below_drew1)|exact HB.out)⟩⟩
 case round=>
  clear H'
  obtain ⟨x5_1,x6_1,rfl,HA,HK1,HO_5,HB⟩:=hrel
  cases gk with
  | zero=>exact absurd HA.out (by simp [ancepsref38_Both.l0])
  | succ k1=>
   have H:=HA.out
   clear HA
   simp only [ancepsref38_Both.l0] at H
   by_cases c3:x6_1<24
   ·rw [if_pos c3] at H
    have c3b0:decide (x6_1<24)=true:=decide_eq_true c3
    clear c3
    replace H:=Option.bind_eq_some_iff.mp H
    obtain ⟨t700,A40,H⟩:=H
    replace H:(if t700=true then (if x5_1.length<17592186044416 then (ancepsref38_Both.l0 k1 l0 l1 (x5_1++[x6_1]) (wrap64 (x6_1+1))) else (none)) else ((ancepsref38_in.f k1 l1 x6_1).bind fun t704=>(if t704=true then (if x5_1.length<17592186044416 then (ancepsref38_Both.l0 k1 l0 l1 (x5_1++[x6_1]) (wrap64 (x6_1+1))) else (none)) else (ancepsref38_Both.l0 k1 l0 l1 x5_1 (wrap64 (x6_1+1))))))=some r:=H
    have A4:=zA A40
    clear A40
    by_cases c5:t700=true
    ·subst c5
     have H1:(if x5_1.length<17592186044416 then (ancepsref38_Both.l0 k1 l0 l1 (x5_1++[x6_1]) (wrap64 (x6_1+1))) else (none))=some r:=by rw [if_pos rfl] at H;exact H
     clear H
     have H:=H1
     clear H1
     have HC6:=zA H
     clear H
     go_upto_if 18 with (first|((with_reducible refine gate_callee (f:=45) rfl ?_);refine goesL_ (some 13) rfl rfl Try.func45 zK rfl #[.slice A0 l0.length c0,.int .i64 x6_1] rfl zM ?_;(with_reducible refine (ancepsref38_in.calls k1 _ _ l0 x6_1 true _ ?side1 ?side2 A4.out).mono ?_);(case side1=>exact zC (Kd.C_below HR0.out HB.out));(case side2=>exact HC0.out);rintro e w' ⟨rfl,⟨nd,rfl⟩⟩;refine ⟨_,rfl,?_⟩))
     (try simp only [Act.put,zi,zs,zt])
     have H:=HC6.out
     clear HC6
     by_cases c7:x5_1.length<17592186044416
     ·rw [if_pos c7] at H
      have LMc7:=zA c7
      clear c7
      obtain ⟨y701,hy701⟩:∃ y_:List Int,y_=(x5_1++[x6_1]):=⟨_,rfl⟩
      replace H:(ancepsref38_Both.l0 k1 l0 l1 y701 (wrap64 (x6_1+1)))=some r:=by first|(rw [hy701];with_reducible exact H)|(have H2_:=(Option.bind_some _ _).symm.trans H;rw [hy701];with_reducible exact H2_)|(have H2_:=(Option.bind_some _ _).symm.trans H;with_reducible exact H2_)|with_reducible exact H|(rw [hy701];exact H)|exact H
      have Ny701:=zA hy701
      clear hy701
      have H':=zA H
      clear H
      go_wp2_with (first|((with_reducible refine gate_builtin (b:=.append) (xs:=#[.tmp 19,.tmp 21]) rfl ?_);at_builtin;refine Kd.R_append (Kd.int .i64) (w0:=w) w.heap.size rfl (.tmp 19) (.tmp 21) 27 3 (.int .i64 0) 8 rfl Try.underlying27 info3 rfl (by decide) (by omega) u5 x5_1 x6_1 [.int .i64 x6_1] (fun _=>True) (fun _=>False) rfl rfl ?aP (fun _ hk=>hk.elim) ?aF ?aO ?aB ?aS ?aL ?_;(case aP=>exact rfl);(case aB=>exact zB);(case aF=>exact (fun _ _=>trivial));(case aO=>exact (zR HO_5));(case aS=>exact (below_size zB));(case aL=>have:=LMc7.out;omega);intro v702 w8 ho hb hg hat;rw [← Ny701.out] at ho;have HO703:=zA (ho);replace HB:=zA (hb);clear HO_5;clear ho hb hg hat))
      go_roundg k1
      case measure=>have:=HK1.out;omega
      case rel=>exact ⟨(y701),(wrap64 (x6_1+1)),zT,H',⟨by have:=HK1.out;omega⟩,⟨by refine zr ?_;exact HO703.out⟩,⟨by repeat (first|(with_reducible first|exact HB.out|apply below_alloc|apply pw_below_drewN|apply below_drew1)|exact HB.out)⟩⟩
     ·rw [if_neg c7] at H
      exact absurd H (by simp)
    ·replace c5:=Bool.eq_false_iff.mpr c5
     subst c5
     have H1:((ancepsref38_in.f k1 l1 x6_1).bind fun t704=>(if t704=true then (if x5_1.length<17592186044416 then (ancepsref38_Both.l0 k1 l0 l1 (x5_1++[x6_1]) (wrap64 (x6_1+1))) else (none)) else (ancepsref38_Both.l0 k1 l0 l1 x5_1 (wrap64 (x6_1+1)))))=some r:=by rw [if_neg (show ¬ (false=true) by decide)] at H;exact H
     clear H
     have H:=H1
     clear H1
     replace H:=Option.bind_eq_some_iff.mp H
     obtain ⟨t704,A90,H⟩:=H
     replace H:(if t704=true then (if x5_1.length<17592186044416 then (ancepsref38_Both.l0 k1 l0 l1 (x5_1++[x6_1]) (wrap64 (x6_1+1))) else (none)) else (ancepsref38_Both.l0 k1 l0 l1 x5_1 (wrap64 (x6_1+1))))=some r:=H
     have A9:=zA A90
     clear A90
     have HC10:=zA H
     clear H
     go_upto_if 18 with (first|((with_reducible refine gate_callee (f:=45) rfl ?_);refine goesL_ (some 13) rfl rfl Try.func45 zK rfl #[.slice A0 l0.length c0,.int .i64 x6_1] rfl zM ?_;(with_reducible refine (ancepsref38_in.calls k1 _ _ l0 x6_1 false _ ?side1 ?side2 A4.out).mono ?_);(case side1=>exact zC (Kd.C_below HR0.out HB.out));(case side2=>exact HC0.out);rintro e w' ⟨rfl,⟨nd,rfl⟩⟩;refine ⟨_,rfl,?_⟩)|(go_at_call 45;(with_reducible refine (ancepsref38_in.calls k1 _ _ l1 x6_1 t704 _ ?side1 ?side2 A9.out).mono ?_);(case side1=>repeat (first|exact (Kd.C_below HR1.out zB)|(with_reducible refine Kd.C_alloc ?_ _)|(with_reducible refine Kd.C_drewN ?_ _)|(with_reducible refine Kd.C_drew ?_)));(case side2=>exact HC1.out);rintro e w' ⟨rfl,⟨nd,rfl⟩⟩))
     (try simp only [Act.put,zi,zs,zt])
     have H:=HC10.out
     clear HC10
     by_cases c11:t704=true
     ·subst c11
      have H1:(if x5_1.length<17592186044416 then (ancepsref38_Both.l0 k1 l0 l1 (x5_1++[x6_1]) (wrap64 (x6_1+1))) else (none))=some r:=by rw [if_pos rfl] at H;exact H
      clear H
      have H:=H1
      clear H1
      by_cases c12:x5_1.length<17592186044416
      ·rw [if_pos c12] at H
       have LMc12:=zA c12
       clear c12
       obtain ⟨y705,hy705⟩:∃ y_:List Int,y_=(x5_1++[x6_1]):=⟨_,rfl⟩
       replace H:(ancepsref38_Both.l0 k1 l0 l1 y705 (wrap64 (x6_1+1)))=some r:=by first|(rw [hy705];with_reducible exact H)|(have H2_:=(Option.bind_some _ _).symm.trans H;rw [hy705];with_reducible exact H2_)|(have H2_:=(Option.bind_some _ _).symm.trans H;with_reducible exact H2_)|with_reducible exact H|(rw [hy705];exact H)|exact H
       have Ny705:=zA hy705
       clear hy705
       have H':=zA H
       clear H
       go_wp2_with (first|((with_reducible refine gate_builtin (b:=.append) (xs:=#[.tmp 19,.tmp 21]) rfl ?_);at_builtin;refine Kd.R_append (Kd.int .i64) (w0:=w) w.heap.size rfl (.tmp 19) (.tmp 21) 27 3 (.int .i64 0) 8 rfl Try.underlying27 info3 rfl (by decide) (by omega) u5 x5_1 x6_1 [.int .i64 x6_1] (fun _=>True) (fun _=>False) rfl rfl ?aP (fun _ hk=>hk.elim) ?aF ?aO ?aB ?aS ?aL ?_;(case aP=>exact rfl);(case aB=>exact zB);(case aF=>exact (fun _ _=>trivial));(case aO=>exact (zR HO_5));(case aS=>exact (below_size zB));(case aL=>have:=LMc12.out;omega);intro v706 w13 ho hb hg hat;rw [← Ny705.out] at ho;have HO707:=zA (ho);replace HB:=zA (hb);clear HO_5;clear ho hb hg hat))
       go_roundg k1
       case measure=>have:=HK1.out;omega
       case rel=>exact ⟨(y705),(wrap64 (x6_1+1)),zT,H',⟨by have:=HK1.out;omega⟩,⟨by refine zr ?_;exact HO707.out⟩,⟨by repeat (first|(with_reducible first|exact HB.out|apply below_alloc|apply pw_below_drewN|apply below_drew1)|exact HB.out)⟩⟩
      ·rw [if_neg c12] at H
       exact absurd H (by simp)
     ·replace c11:=Bool.eq_false_iff.mpr c11
      subst c11
      have H1:(ancepsref38_Both.l0 k1 l0 l1 x5_1 (wrap64 (x6_1+1)))=some r:=by rw [if_neg (show ¬ (false=true) by decide)] at H;exact H
      clear H
      have H:=H1
      clear H1
      have H':=zA H
      clear H
      go_wp2
      go_roundg k1
      case measure=>have:=HK1.out;omega
      case rel=>exact ⟨(x5_1),(wrap64 (x6_1+1)),zT,H',⟨by have:=HK1.out;omega⟩,⟨by refine zr ?_;exact HO_5.out⟩,⟨by repeat (first|(with_reducible first|exact HB.out|apply below_alloc|apply pw_below_drewN|apply below_drew1)|exact HB.out)⟩⟩
   ·rw [if_neg c3] at H
    have c3b0:decide (x6_1<24)=false:=decide_eq_false c3
    clear c3
    obtain rfl:=Option.some.inj H
    go_wp2
    go_ret
    exact ⟨_,ze,by refine zr ?_;exact HO_5.out,by repeat (first|(with_reducible first|exact HB.out|apply below_alloc|apply pw_below_drewN|apply below_drew1)|exact HB.out)⟩
end Go.Proofs.Ythcfmdkhkikbcaa.T
