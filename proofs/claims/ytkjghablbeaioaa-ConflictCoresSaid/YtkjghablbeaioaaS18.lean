import Derived.Test.YtkjghablbeaioaaS0
namespace Go.Proofs.Ytkjghablbeaioaa.S
open Go.RowKit Go.Proofs.YtkjghablbeaioaaW.PrintWords Go.Proofs.YtkjghablbeaioaaW.PrintLast Go.Proofs.YtkjghablbeaioaaW.PrintMore
attribute [local go_sem] max2_int min2_int max_two min_two max_three min_three max_four min_four
set_option linter.unusedVariables false
set_option linter.unusedSimpArgs false
def ancepsref42_Has.l0:Nat→List Int→Int→Int→Option (Bool)
 | 0,_,_,_=>none
 | k+1,x0,x1,x5=>if x5<(x0.length:Int) then (if 0≤x5 then (if (rd x0 x5)=x1 then (some true) else (ancepsref42_Has.l0 k x0 x1 (wrap64 (x5+1)))) else (none)) else (some false)
def ancepsref42_Has.f (k:Nat) (l0:List Int) (a1:Int):Option (Bool):=ancepsref42_Has.l0 k l0 a1 0
theorem ancepsref42_Has.mono_l:∀ k,(∀ y0 y1 y2,LeO (ancepsref42_Has.l0 k y0 y1 y2) (ancepsref42_Has.l0 (k+1) y0 y1 y2))
 | 0=>fun _ _ _ r h=>by simp [ancepsref42_Has.l0] at h
 | k+1=>by
  have ih0:=ancepsref42_Has.mono_l k
  ·intro y0 y1 y2
   unfold ancepsref42_Has.l0
   repeat' first
   | (with_reducible exact ih0 _ _ _)
   | (with_reducible exact LeO.refl _)
   | (with_reducible exact LeO.none _)
   | (with_reducible refine LeO.ite ?_ ?_)
   | (with_reducible refine LeO.bind ?_ (fun _=>?_))
   | exact LeO.none _
   | refine LeO.ite ?_ ?_
   | refine LeO.bind ?_ (fun _=>?_)
theorem ancepsref42_Has.mono:∀ a0 a1 k,LeO (ancepsref42_Has.f k a0 a1) (ancepsref42_Has.f (k+1) a0 a1):=by
 intro a0 a1 k
 have ih0:=ancepsref42_Has.mono_l k
 unfold ancepsref42_Has.f
 repeat' first
   | (with_reducible exact ih0 _ _ _)
   | (with_reducible exact LeO.refl _)
   | (with_reducible exact LeO.none _)
   | (with_reducible refine LeO.ite ?_ ?_)
   | (with_reducible refine LeO.bind ?_ (fun _=>?_))
   | exact LeO.none _
   | refine LeO.ite ?_ ?_
   | refine LeO.bind ?_ (fun _=>?_)
set_option maxHeartbeats 8000000 in
set_option maxRecDepth 100000 in
theorem ancepsref42_Has.calls (k:Nat) (A0:Option Addr) (c0:Nat) (l0:List Int) (a1:Int) (r:Bool) (w:World) (hr0:Kd.C (Kd.int .i64) w A0 l0.length l0) (hc0:l0.length≤c0) (h:ancepsref42_Has.f k l0 a1=some r) :
  Calls Try.prog 62 #[.slice A0 l0.length c0,.int .i64 a1] w fun e w'=>e=.returned (.bool r)∧Drawn0 w w':=by
 have hu3:=Try.underlying3
 have HR0:=zA hr0
 have HC0:=zA hc0
 clear hr0 hc0
 have H:(ancepsref42_Has.l0 k l0 a1 0)=some r:=h
 clear h
 have H':=zA H
 clear H
 go_enter Try.func62,Try.ntmps62
 go_wp2
 go_loopg [5] k (fun kq v5 w'=>∃ (x5_1:Int),v5=.int .i64 x5_1∧Aside0 (ancepsref42_Has.l0 kq l0 a1 x5_1=some r)∧Aside0 (kq≤k)∧Drawn0 w w')
 case atStart=>exact ⟨(0),zT,H',⟨Nat.le_refl _⟩,by repeat (first|exact Drawn0.refl _|apply Drawn0.step)⟩
 case round=>
  clear H'
  obtain ⟨x5_1,rfl,HA,HK1,⟨m1,rfl⟩⟩:=hrel
  cases gk with
  | zero=>exact absurd HA.out (by simp [ancepsref42_Has.l0])
  | succ k1=>
   have H:=HA.out
   clear HA
   simp only [ancepsref42_Has.l0] at H
   by_cases c3:x5_1<(l0.length:Int)
   ·rw [if_pos c3] at H
    have c3b0:decide (x5_1<(l0.length:Int))=true:=decide_eq_true c3
    clear c3
    by_cases c4:0≤x5_1
    ·rw [if_pos c4] at H
     have c4b0:decide (0≤x5_1)=true:=decide_eq_true c4
     clear c4
     by_cases c5:(rd l0 x5_1)=a1
     ·rw [if_pos c5] at H
      have c5b0:((rd l0 x5_1) == a1)=true:=beq_iff_eq.mpr c5
      have c5b1:((rd l0 x5_1) != a1)=false:=bne_eq_false_iff_eq.mpr c5
      clear c5
      obtain rfl:=Option.some.inj H
      have p665:0≤(x5_1:Int):=of_decide_eq_true zh
      have q665:x5_1<(l0.length:Int):=of_decide_eq_true zh
      obtain ⟨ad665,e665,hx665_0⟩:=Kd.at_int HR0.out x5_1 p665 q665
      cases e665
      replace p665:=eq_true p665
      replace q665:=eq_true q665
      go_wp2
      go_ret
      exact ⟨by first|rfl|(simp;done)|(simp [*];done),by repeat (first|exact Drawn0.refl _|apply Drawn0.step)⟩
     ·rw [if_neg c5] at H
      have c5b0:((rd l0 x5_1) == a1)=false:=beq_eq_false_iff_ne.mpr c5
      have c5b1:((rd l0 x5_1) != a1)=true:=bne_iff_ne.mpr c5
      have H':=zA H
      clear H
      have p665:0≤(x5_1:Int):=of_decide_eq_true zh
      have q665:x5_1<(l0.length:Int):=of_decide_eq_true zh
      obtain ⟨ad665,e665,hx665_0⟩:=Kd.at_int HR0.out x5_1 p665 q665
      cases e665
      replace p665:=eq_true p665
      replace q665:=eq_true q665
      go_wp2
      go_roundg k1
      case measure=>have:=HK1.out;omega
      case rel=>exact ⟨(wrap64 (x5_1+1)),zT,H',⟨by have:=HK1.out;omega⟩,by repeat (first|exact Drawn0.refl _|apply Drawn0.step)⟩
    ·rw [if_neg c4] at H
     exact absurd H (by simp)
   ·rw [if_neg c3] at H
    have c3b0:decide (x5_1<(l0.length:Int))=false:=decide_eq_false c3
    clear c3
    obtain rfl:=Option.some.inj H
    go_wp2
    go_ret
    exact ⟨by first|rfl|(simp;done)|(simp [*];done),by repeat (first|exact Drawn0.refl _|apply Drawn0.step)⟩
mutual
def ancepsref42_Union.l0:Nat→List (List Int)→Int→List Int→Int→Option (List Int)
 | 0,_,_,_,_=>none
 | k+1,x0,x1,x5,x6=>if x6<x1 then (ancepsref42_Union.l1 k x0 x1 x5 x6 false 0) else (some x5)
def ancepsref42_Union.l1:Nat→List (List Int)→Int→List Int→Int→Bool→Int→Option (List Int)
 | 0,_,_,_,_,_,_=>none
 | k+1,x0,x1,x5,x6,x7,x8=>if x8<(x0.length:Int) then (if x7=true then (ancepsref42_Union.l1 k x0 x1 x5 x6 true (wrap64 (x8+1))) else (if 0≤x8 then ((ancepsref42_Has.f k (rd_L1 x0 x8) x6).bind fun t692=>(ancepsref42_Union.l1 k x0 x1 x5 x6 t692 (wrap64 (x8+1)))) else (none))) else (if x7=true then (if x5.length<17592186044416 then (ancepsref42_Union.l0 k x0 x1 (x5++[x6]) (wrap64 (x6+1))) else (none)) else (ancepsref42_Union.l0 k x0 x1 x5 (wrap64 (x6+1))))
end
def ancepsref42_Union.f (k:Nat) (l0:List (List Int)) (a1:Int):Option (List Int):=ancepsref42_Union.l0 k l0 a1 ([]:List Int) 0
theorem ancepsref42_Union.mono_l:∀ k,(∀ y0 y1 y2 y3,LeO (ancepsref42_Union.l0 k y0 y1 y2 y3) (ancepsref42_Union.l0 (k+1) y0 y1 y2 y3))∧(∀ y0 y1 y2 y3 y4 y5,LeO (ancepsref42_Union.l1 k y0 y1 y2 y3 y4 y5) (ancepsref42_Union.l1 (k+1) y0 y1 y2 y3 y4 y5))
 | 0=>⟨fun _ _ _ _ r h=>by simp [ancepsref42_Union.l0] at h,fun _ _ _ _ _ _ r h=>by simp [ancepsref42_Union.l1] at h⟩
 | k+1=>by
  obtain ⟨ih0,ih1⟩:=ancepsref42_Union.mono_l k
  refine ⟨?_,?_⟩
  ·intro y0 y1 y2 y3
   unfold ancepsref42_Union.l0
   repeat' first
   | (with_reducible exact ih0 _ _ _ _)
   | (with_reducible exact ih1 _ _ _ _ _ _)
   | (with_reducible exact ancepsref42_Has.mono _ _ _)
   | (with_reducible exact LeO.refl _)
   | (with_reducible exact LeO.none _)
   | (with_reducible refine LeO.ite ?_ ?_)
   | (with_reducible refine LeO.bind ?_ (fun _=>?_))
   | exact LeO.none _
   | refine LeO.ite ?_ ?_
   | refine LeO.bind ?_ (fun _=>?_)
  ·intro y0 y1 y2 y3 y4 y5
   unfold ancepsref42_Union.l1
   repeat' first
   | (with_reducible exact ih0 _ _ _ _)
   | (with_reducible exact ih1 _ _ _ _ _ _)
   | (with_reducible exact ancepsref42_Has.mono _ _ _)
   | (with_reducible exact LeO.refl _)
   | (with_reducible exact LeO.none _)
   | (with_reducible refine LeO.ite ?_ ?_)
   | (with_reducible refine LeO.bind ?_ (fun _=>?_))
   | exact LeO.none _
   | refine LeO.ite ?_ ?_
   | refine LeO.bind ?_ (fun _=>?_)
theorem ancepsref42_Union.mono:∀ a0 a1 k,LeO (ancepsref42_Union.f k a0 a1) (ancepsref42_Union.f (k+1) a0 a1):=by
 intro a0 a1 k
 obtain ⟨ih0,ih1⟩:=ancepsref42_Union.mono_l k
 unfold ancepsref42_Union.f
 repeat' first
   | (with_reducible exact ih0 _ _ _ _)
   | (with_reducible exact ih1 _ _ _ _ _ _)
   | (with_reducible exact ancepsref42_Has.mono _ _ _)
   | (with_reducible exact LeO.refl _)
   | (with_reducible exact LeO.none _)
   | (with_reducible refine LeO.ite ?_ ?_)
   | (with_reducible refine LeO.bind ?_ (fun _=>?_))
   | exact LeO.none _
   | refine LeO.ite ?_ ?_
   | refine LeO.bind ?_ (fun _=>?_)
set_option maxHeartbeats 8000000 in
set_option maxRecDepth 100000 in
theorem ancepsref42_Union.calls (k:Nat) (A0:Option Addr) (c0:Nat) (l0:List (List Int)) (a1:Int) (r:List Int) (w:World) (hr0:Kd.C (Kd.slice 3 (Kd.int .i64)) w A0 l0.length l0) (hc0:l0.length≤c0) (h:ancepsref42_Union.f k l0 a1=some r) :
  Calls Try.prog 28 #[.slice A0 l0.length c0,.int .i64 a1] w fun e w'=>∃ v0_:Value,e=.returned (v0_)∧Kd.R (Kd.int .i64) 3 w' w.heap.size (fun _=>True) v0_ r∧Below w.heap.size w w':=by
 have hu30:=Try.underlying30
 have HR0:=zA hr0
 have HC0:=zA hc0
 clear hr0 hc0
 have HB:=zA (Below.refl w.heap.size w)
 have H:(ancepsref42_Union.l0 k l0 a1 ([]:List Int) 0)=some r:=h
 clear h
 have H':=zA H
 clear H
 go_enter Try.func28,Try.ntmps28
 go_wp2
 go_loopg [5,6] k (fun kq v5 v6 w'=>∃ (x5_1:List Int) (x6_1:Int),v6=.int .i64 x6_1∧Aside0 (ancepsref42_Union.l0 kq l0 a1 x5_1 x6_1=some r)∧Aside0 (kq≤k)∧Aside0 (Kd.R (Kd.int .i64) 3 w' w.heap.size (fun _=>True) v5 x5_1)∧Aside0 (Below w.heap.size w w'))
 case atStart=>exact ⟨(([]:List Int)),(0),zT,H',⟨Nat.le_refl _⟩,⟨by first|exact Kd.R_nil _ _ _ _ _|exact Kd.N_nil _ _ _ _ _|exact Kd.V_nil _ _ _ _ _|exact Kd.Q_nil _ _ _ _ _|exact Kd.S_nil _ _ _ _ _⟩,⟨by repeat (first|(with_reducible first|exact HB.out|apply below_alloc|apply pw_below_drewN|apply below_drew1)|exact HB.out)⟩⟩
 case round=>
  clear H'
  obtain ⟨x5_1,x6_1,rfl,HA,HK1,HO_5,HB⟩:=hrel
  cases gk with
  | zero=>exact absurd HA.out (by simp [ancepsref42_Union.l0])
  | succ k1=>
   have H:=HA.out
   clear HA
   simp only [ancepsref42_Union.l0] at H
   by_cases c3:x6_1<a1
   ·rw [if_pos c3] at H
    have c3b0:decide (x6_1<a1)=true:=decide_eq_true c3
    clear c3
    have H':=zA H
    clear H
    go_wp2
    go_loopg [7,8] k1 (fun kq v7 v8 w'=>∃ (x7_2:Bool) (x8_2:Int),v7=.bool x7_2∧v8=.int .i64 x8_2∧Aside0 (ancepsref42_Union.l1 kq l0 a1 x5_1 x6_1 x7_2 x8_2=some r)∧Aside0 (kq≤k1)∧Aside0 (Kd.R (Kd.int .i64) 3 w' w.heap.size (fun _=>True) u5 x5_1)∧Aside0 (Below w.heap.size w w'))
    case atStart=>exact ⟨(false),(0),zT,zT,H',⟨Nat.le_refl _⟩,⟨by refine zr ?_;exact HO_5.out⟩,⟨by repeat (first|(with_reducible first|exact HB.out|apply below_alloc|apply pw_below_drewN|apply below_drew1)|exact HB.out)⟩⟩
    case round=>
     clear H'
     try clear c3
     try clear c3b0
     obtain ⟨x7_2,x8_2,rfl,rfl,HA,HK2,HO_5,HB⟩:=hrel
     cases gk with
     | zero=>exact absurd HA.out (by simp [ancepsref42_Union.l1])
     | succ k2=>
      have H:=HA.out
      clear HA
      simp only [ancepsref42_Union.l1] at H
      by_cases c4:x8_2<(l0.length:Int)
      ·rw [if_pos c4] at H
       have c4b0:decide (x8_2<(l0.length:Int))=true:=decide_eq_true c4
       clear c4
       by_cases c5:x7_2=true
       ·subst c5
        have H1:(ancepsref42_Union.l1 k2 l0 a1 x5_1 x6_1 true (wrap64 (x8_2+1)))=some r:=by rw [if_pos rfl] at H;exact H
        clear H
        have H:=H1
        clear H1
        have H':=zA H
        clear H
        go_wp2
        go_roundg k2
        case measure=>have:=HK1.out;have:=HK2.out;omega
        case rel=>exact ⟨(true),(wrap64 (x8_2+1)),zT,zT,H',⟨by have:=HK1.out;have:=HK2.out;omega⟩,⟨by refine zr ?_;exact HO_5.out⟩,⟨by repeat (first|(with_reducible first|exact HB.out|apply below_alloc|apply pw_below_drewN|apply below_drew1)|exact HB.out)⟩⟩
       ·replace c5:=Bool.eq_false_iff.mpr c5
        subst c5
        have H1:(if 0≤x8_2 then ((ancepsref42_Has.f k2 (rd_L1 l0 x8_2) x6_1).bind fun t692=>(ancepsref42_Union.l1 k2 l0 a1 x5_1 x6_1 t692 (wrap64 (x8_2+1)))) else (none))=some r:=by rw [if_neg (show ¬ (false=true) by decide)] at H;exact H
        clear H
        have H:=H1
        clear H1
        by_cases c6:0≤x8_2
        ·rw [if_pos c6] at H
         have c6b0:decide (0≤x8_2)=true:=decide_eq_true c6
         clear c6
         replace H:=Option.bind_eq_some_iff.mp H
         obtain ⟨t692,A70,H⟩:=H
         replace H:(ancepsref42_Union.l1 k2 l0 a1 x5_1 x6_1 t692 (wrap64 (x8_2+1)))=some r:=H
         have A7:=zA A70
         clear A70
         have H':=zA H
         clear H
         have p691:0≤(x8_2:Int):=of_decide_eq_true zh
         have q691:x8_2<(l0.length:Int):=of_decide_eq_true zh
         obtain ⟨ad691,A691_0,c691_0,e691,hx691_0,hl691_0,hi691_0⟩:=at_L1 HR0.out x8_2 p691 q691
         cases e691
         replace hx691_0:=(HB.out.cell (World.block_lt_of_cell? w _ hx691_0)).trans hx691_0
         have HR691_0:=zA hi691_0
         have HC691_0:=zA hl691_0
         clear hi691_0 hl691_0
         replace p691:=eq_true p691
         replace q691:=eq_true q691
         go_wp2_with (first|(go_at_call 62;(with_reducible refine (ancepsref42_Has.calls k2 _ _ (rd_L1 l0 x8_2) x6_1 t692 _ ?side1 ?side2 A7.out).mono ?_);(case side1=>exact zC (Kd.C_below HR691_0.out HB.out));(case side2=>exact HC691_0.out);rintro e w' ⟨rfl,⟨nd,rfl⟩⟩))
         go_roundg k2
         case measure=>have:=HK1.out;have:=HK2.out;omega
         case rel=>exact ⟨(t692),(wrap64 (x8_2+1)),zT,zT,H',⟨by have:=HK1.out;have:=HK2.out;omega⟩,⟨by refine zr ?_;exact HO_5.out⟩,⟨by repeat (first|(with_reducible first|exact HB.out|apply below_alloc|apply pw_below_drewN|apply below_drew1)|exact HB.out)⟩⟩
        ·rw [if_neg c6] at H
         exact absurd H (by simp)
      ·rw [if_neg c4] at H
       have c4b0:decide (x8_2<(l0.length:Int))=false:=decide_eq_false c4
       clear c4
       by_cases c8:x7_2=true
       ·subst c8
        have H1:(if x5_1.length<17592186044416 then (ancepsref42_Union.l0 k2 l0 a1 (x5_1++[x6_1]) (wrap64 (x6_1+1))) else (none))=some r:=by rw [if_pos rfl] at H;exact H
        clear H
        have H:=H1
        clear H1
        by_cases c9:x5_1.length<17592186044416
        ·rw [if_pos c9] at H
         have LMc9:=zA c9
         clear c9
         obtain ⟨y693,hy693⟩:∃ y_:List Int,y_=(x5_1++[x6_1]):=⟨_,rfl⟩
         replace H:(ancepsref42_Union.l0 k2 l0 a1 y693 (wrap64 (x6_1+1)))=some r:=by first|(rw [hy693];with_reducible exact H)|(have H2_:=(Option.bind_some _ _).symm.trans H;rw [hy693];with_reducible exact H2_)|(have H2_:=(Option.bind_some _ _).symm.trans H;with_reducible exact H2_)|with_reducible exact H|(rw [hy693];exact H)|exact H
         have Ny693:=zA hy693
         clear hy693
         have H':=zA H
         clear H
         go_wp2_with (first|((with_reducible refine gate_builtin (b:=.append) (xs:=#[.tmp 30,.tmp 32]) rfl ?_);at_builtin;refine Kd.R_append (Kd.int .i64) (w0:=w) w.heap.size rfl (.tmp 30) (.tmp 32) 30 3 (.int .i64 0) 8 rfl Try.underlying30 info3 rfl (by decide) (by omega) u5 x5_1 x6_1 [.int .i64 x6_1] (fun _=>True) (fun _=>False) rfl rfl ?aP (fun _ hk=>hk.elim) ?aF ?aO ?aB ?aS ?aL ?_;(case aP=>exact rfl);(case aB=>exact zB);(case aF=>exact (fun _ _=>trivial));(case aO=>exact (zR HO_5));(case aS=>exact (below_size zB));(case aL=>have:=LMc9.out;omega);intro v694 w10 ho hb hg hat;rw [← Ny693.out] at ho;have HO695:=zA (ho);replace HB:=zA (hb);clear HO_5;clear ho hb hg hat))
         go_roundg k2
         case measure=>have:=HK1.out;have:=HK2.out;omega
         case rel=>exact ⟨(y693),(wrap64 (x6_1+1)),zT,H',⟨by have:=HK1.out;have:=HK2.out;omega⟩,⟨by refine zr ?_;exact HO695.out⟩,⟨by repeat (first|(with_reducible first|exact HB.out|apply below_alloc|apply pw_below_drewN|apply below_drew1)|exact HB.out)⟩⟩
        ·rw [if_neg c9] at H
         exact absurd H (by simp)
       ·replace c8:=Bool.eq_false_iff.mpr c8
        subst c8
        have H1:(ancepsref42_Union.l0 k2 l0 a1 x5_1 (wrap64 (x6_1+1)))=some r:=by rw [if_neg (show ¬ (false=true) by decide)] at H;exact H
        clear H
        have H:=H1
        clear H1
        have H':=zA H
        clear H
        go_wp2
        go_roundg k2
        case measure=>have:=HK1.out;have:=HK2.out;omega
        case rel=>exact ⟨(x5_1),(wrap64 (x6_1+1)),zT,H',⟨by have:=HK1.out;have:=HK2.out;omega⟩,⟨by refine zr ?_;exact HO_5.out⟩,⟨by repeat (first|(with_reducible first|exact HB.out|apply below_alloc|apply pw_below_drewN|apply below_drew1)|exact HB.out)⟩⟩
   ·rw [if_neg c3] at H
    have c3b0:decide (x6_1<a1)=false:=decide_eq_false c3
    clear c3
    obtain rfl:=Option.some.inj H
    go_wp2
    go_ret
    exact ⟨_,ze,by refine zr ?_;exact HO_5.out,by repeat (first|(with_reducible first|exact HB.out|apply below_alloc|apply pw_below_drewN|apply below_drew1)|exact HB.out)⟩
end Go.Proofs.Ytkjghablbeaioaa.S
