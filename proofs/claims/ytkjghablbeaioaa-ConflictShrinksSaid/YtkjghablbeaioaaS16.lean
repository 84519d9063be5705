import Derived.Test.YtkjghablbeaioaaS0
namespace Go.Proofs.Ytkjghablbeaioaa.S
open Go.RowKit Go.Proofs.YtkjghablbeaioaaW.PrintWords Go.Proofs.YtkjghablbeaioaaW.PrintLast Go.Proofs.YtkjghablbeaioaaW.PrintMore
attribute [local go_sem] max2_int min2_int max_two min_two max_three min_three max_four min_four
set_option linter.unusedVariables false
set_option linter.unusedSimpArgs false
def ancepsref42_Without.f (l0:List Int) (a1:Int):Option (List Int):=(some (([]:List Int):List Int)).bind fun y639=>(if 0≤a1 then (if a1≤(l0.length:Int) then (if y639.length+(l0.take (a1:Int).toNat).length<17592186044416 then ((some (y639++(l0.take (a1:Int).toNat):List Int)).bind fun y643=>(if 0≤(wrap64 (a1+1)) then (if (wrap64 (a1+1))≤(l0.length:Int) then (if y643.length+(l0.drop ((wrap64 (a1+1)):Int).toNat).length<17592186044416 then (some (y643++(l0.drop ((wrap64 (a1+1)):Int).toNat))) else (none)) else (none)) else (none))) else (none)) else (none)) else (none))
def ancepsref42_Without.T1:Bool×List (List Nat×List Nat):=(true,[([],[]),([],[]),([],[]),([1,2],[1,2]),([0,3],[0,3]),([],[]),([],[]),([6],[6]),([5,7],[5,7]),([4,8,4],[4,8]),([9,9,0,1,2,3,4,5,6,7,8,9],[9])])
def ancepsref42_Without.B1:List Nat:=[0,0,0,6,15,0,0,64,224,511,1023]
theorem ancepsref42_Without.tab1:rtab .any (opsOf Try.f58 1)=ancepsref42_Without.T1:=by kernel_rfl
theorem ancepsref42_Without.bits1:waitsOk ancepsref42_Without.T1.2 ancepsref42_Without.B1=true:=by kernel_rfl
set_option maxHeartbeats 8000000 in
set_option maxRecDepth 100000 in
theorem ancepsref42_Without.calls (A0:Option Addr) (c0:Nat) (l0:List Int) (a1:Int) (r:List Int) (w:World) (hr0:Kd.C (Kd.int .i64) w A0 l0.length l0) (hc0:l0.length≤c0) (h:ancepsref42_Without.f l0 a1=some r) :
  Calls Try.prog 58 #[.slice A0 l0.length c0,.int .i64 a1] w fun e w'=>∃ v0_:Value,e=.returned (v0_)∧Kd.R (Kd.int .i64) 3 w' w.heap.size (fun _=>True) v0_ r∧Below w.heap.size w w':=by
 have HR0:=zA hr0
 have HC0:=zA hc0
 clear hr0 hc0
 have HB:=zA (Below.refl w.heap.size w)
 have H:((some (([]:List Int):List Int)).bind fun y639=>(if 0≤a1 then (if a1≤(l0.length:Int) then (if y639.length+(l0.take (a1:Int).toNat).length<17592186044416 then ((some (y639++(l0.take (a1:Int).toNat):List Int)).bind fun y643=>(if 0≤(wrap64 (a1+1)) then (if (wrap64 (a1+1))≤(l0.length:Int) then (if y643.length+(l0.drop ((wrap64 (a1+1)):Int).toNat).length<17592186044416 then (some (y643++(l0.drop ((wrap64 (a1+1)):Int).toNat))) else (none)) else (none)) else (none))) else (none)) else (none)) else (none)))=some r:=h
 clear h
 obtain ⟨y639,hy639⟩:∃ y_:List Int,y_=(([]:List Int)):=⟨_,rfl⟩
 replace H:(if 0≤a1 then (if a1≤(l0.length:Int) then (if y639.length+(l0.take (a1:Int).toNat).length<17592186044416 then ((some (y639++(l0.take (a1:Int).toNat):List Int)).bind fun y643=>(if 0≤(wrap64 (a1+1)) then (if (wrap64 (a1+1))≤(l0.length:Int) then (if y643.length+(l0.drop ((wrap64 (a1+1)):Int).toNat).length<17592186044416 then (some (y643++(l0.drop ((wrap64 (a1+1)):Int).toNat))) else (none)) else (none)) else (none))) else (none)) else (none)) else (none))=some r:=by first|(rw [hy639];with_reducible exact H)|(have H2_:=(Option.bind_some _ _).symm.trans H;rw [hy639];with_reducible exact H2_)|(have H2_:=(Option.bind_some _ _).symm.trans H;with_reducible exact H2_)|with_reducible exact H|(rw [hy639];exact H)|exact H
 have Ny639:=zA hy639
 clear hy639
 by_cases c3:0≤a1
 ·rw [if_pos c3] at H
  have c3b0:=eq_true c3
  have c3b1:decide (0≤a1)=true:=decide_eq_true c3
  clear c3
  by_cases c4:a1≤(l0.length:Int)
  ·rw [if_pos c4] at H
   have c4b0:=eq_true c4
   have c4b1:decide (a1≤(l0.length:Int))=true:=decide_eq_true c4
   clear c4
   by_cases c5:y639.length+(l0.take (a1:Int).toNat).length<17592186044416
   ·rw [if_pos c5] at H
    have LMc5:=zA c5
    clear c5
    obtain ⟨y643,hy643⟩:∃ y_:List Int,y_=(y639++(l0.take (a1:Int).toNat)):=⟨_,rfl⟩
    replace H:(if 0≤(wrap64 (a1+1)) then (if (wrap64 (a1+1))≤(l0.length:Int) then (if y643.length+(l0.drop ((wrap64 (a1+1)):Int).toNat).length<17592186044416 then (some (y643++(l0.drop ((wrap64 (a1+1)):Int).toNat))) else (none)) else (none)) else (none))=some r:=by first|(rw [hy643];with_reducible exact H)|(have H2_:=(Option.bind_some _ _).symm.trans H;rw [hy643];with_reducible exact H2_)|(have H2_:=(Option.bind_some _ _).symm.trans H;with_reducible exact H2_)|with_reducible exact H|(rw [hy643];exact H)|exact H
    have Ny643:=zA hy643
    clear hy643
    obtain ⟨ji6,hji6⟩:∃ j_:Int,(wrap64 (a1+1))=j_:=⟨_,rfl⟩
    replace H:(if 0≤(ji6) then (if (ji6)≤(l0.length:Int) then (if y643.length+(l0.drop ((ji6):Int).toNat).length<17592186044416 then (some (y643++(l0.drop ((ji6):Int).toNat))) else (none)) else (none)) else (none))=some r:=by first|(rw [hji6] at H;exact H)|(simp only [hji6] at H ⊢;exact H)
    have hji6w:(IntKind.i64.wrap (a1+1))=ji6:=(i64_w _).trans hji6
    by_cases c7:0≤(ji6)
    ·rw [if_pos c7] at H
     have c7b0:=eq_true c7
     have c7b1:decide (0≤(ji6))=true:=decide_eq_true c7
     clear c7
     by_cases c8:(ji6)≤(l0.length:Int)
     ·rw [if_pos c8] at H
      have c8b0:=eq_true c8
      have c8b1:decide ((ji6)≤(l0.length:Int))=true:=decide_eq_true c8
      clear c8
      by_cases c9:y643.length+(l0.drop ((ji6):Int).toNat).length<17592186044416
      ·rw [if_pos c9] at H
       have LMc9:=zA c9
       clear c9
       obtain ⟨y647,hy647⟩:∃ y_:List Int,y_=(y643++(l0.drop ((ji6):Int).toNat)):=⟨_,rfl⟩
       replace H:(some y647)=some r:=by first|(rw [hy647];with_reducible exact H)|(have H2_:=(Option.bind_some _ _).symm.trans H;rw [hy647];with_reducible exact H2_)|(have H2_:=(Option.bind_some _ _).symm.trans H;with_reducible exact H2_)|with_reducible exact H|(rw [hy647];exact H)|exact H
       have Ny647:=zA hy647
       clear hy647
       obtain rfl:=Option.some.inj H
       go_enter Try.func58,Try.ntmps58
       try go_wp2
       replace HB:=zA (below_drew1 HB.out)
       obtain ⟨i011,hi011,_,hsz11,_⟩:=info_parts info3
       obtain ⟨hcut11,hA11,hC11⟩:=print_take_of (P:=Try.prog) (Value.int .i64) 0 30 3 .i64 Try.underlying30 hi011 hsz11 A0 c0 l0 a1 (of_decide_eq_true zh) (of_decide_eq_true zh) HC0.out
       have HR642:=zA (Kd.C_of_reads (h1:=fun _=>rfl) (hA11 _ (Kd.reads_of_C HR0.out)))
       have HC642:=zA hC11
       clear hA11 hC11 hi011 hsz11
       obtain ⟨i012,hi012,_,hsz12,_⟩:=info_parts info3
       obtain ⟨A12,hcut12,hA12,hC12⟩:=print_drop_of (P:=Try.prog) (Value.int .i64) 0 30 3 .i64 Try.underlying30 hi012 hsz12 A0 c0 l0 (ji6) (of_decide_eq_true zh) (of_decide_eq_true zh) HC0.out
       have HR646:=zA (Kd.C_of_reads (h1:=fun _=>rfl) (hA12 _ (Kd.reads_of_C HR0.out)))
       have HC646:=zA hC12
       clear hA12 hC12 hi012 hsz12
       refine start_ (n:=11) (S:=fun w'=>True) (ds:=[]) #[false,false,false,false,false,false,false,false,false,false,false] zK rfl rfl trivial (fun hHeld=>?_);refine with_tabW ancepsref42_Without.tab1 ancepsref42_Without.bits1 (fun HT_ HW_=>?_)
       generalize w.drew=w10 at HB HR642 HR646 hHeld ⊢
       refine pure_ (i:=1) (N:=some 6) (v:=?_) (a':=?_) #[false,true,false,false,false,false,false,false,false,false,false] rfl rfl (any_of HT_.out zK) (fun _ _ _ h=>h) (Or.inl ⟨by rfl,?_⟩) ?_ ?_
       rotate_left
       ·intro w'
        go_simp
        with_reducible rfl
       rotate_left
       ·simp only [Act.put,zi,zs,zt,i64_w,i32_w]
        rfl
       refine pure_ (i:=2) (N:=some 7) (v:=?_) (a':=?_) #[false,true,true,false,false,false,false,false,false,false,false] rfl rfl (any_of HT_.out zK) (fun _ _ _ h=>h) (Or.inl ⟨by rfl,?_⟩) ?_ ?_
       rotate_left
       ·intro w'
        go_simp
        with_reducible rfl
       rotate_left
       ·simp only [Act.put,zi,zs,zt,i64_w,i32_w]
        rfl
       refine pure_ (i:=3) (N:=some 8) (v:=?_) (a':=?_) #[false,true,true,true,false,false,false,false,false,false,false] rfl rfl (any_of HT_.out zK) (fun _ _ _ h=>h) (Or.inl ⟨by rfl,?_⟩) ?_ ?_
       rotate_left
       ·intro w'
        go_simp
        with_reducible rfl
       rotate_left
       ·simp only [Act.put,zi,zs,zt,i64_w,i32_w]
        rfl
       refine pure_ (i:=5) (N:=some 10) (v:=?_) (a':=?_) #[false,true,true,true,false,true,false,false,false,false,false] rfl rfl (any_of HT_.out zK) (fun _ _ _ h=>h) (Or.inl ⟨by rfl,?_⟩) ?_ ?_
       rotate_left
       ·intro w'
        go_simp
        with_reducible rfl
       rotate_left
       ·simp only [Act.put,zi,zs,zt,i64_w,i32_w]
        rfl
       refine pure_ (i:=6) (N:=some 11) (v:=?_) (a':=?_) #[false,true,true,true,false,true,true,false,false,false,false] rfl rfl (any_of HT_.out zK) (fun _ _ _ h=>h) (Or.inl ⟨by rfl,?_⟩) ?_ ?_
       rotate_left
       ·intro w'
        go_simp
        with_reducible rfl
       rotate_left
       ·simp only [Act.put,zi,zs,zt,i64_w,i32_w]
        rfl
       refine pure_ (i:=7) (N:=some 12) (v:=?_) (a':=?_) #[false,true,true,true,false,true,true,true,false,false,false] rfl rfl (any_of HT_.out zK) (fun _ _ _ h=>h) (Or.inl ⟨by rfl,?_⟩) ?_ ?_
       rotate_left
       ·intro w'
        go_simp
        with_reducible rfl
       rotate_left
       ·simp only [Act.put,zi,zs,zt,i64_w,i32_w]
        rfl
       refine pure_ (i:=8) (N:=some 13) (v:=?_) (a':=?_) #[false,true,true,true,false,true,true,true,true,false,false] rfl rfl (any_of HT_.out zK) (fun _ _ _ h=>h) (Or.inl ⟨by rfl,?_⟩) ?_ ?_
       rotate_left
       ·intro w'
        go_simp
        with_reducible rfl
       rotate_left
       ·simp only [Act.put,zi,zs,zt,i64_w,i32_w]
        rfl
       refine one_ (i:=0) (N:=some 5) #[true,true,true,true,false,true,true,true,true,false,false] rfl rfl (one_of HT_.out zK) (by decide) (fun K hK=>?_)
       refine Kd.R_lit_step (Kd.int .i64) _ 3 ?hg (N:=5) ?hd (xs:=([]:List Int)) (inner:=[]) (ok:=fun _=>True) (okp:=fun _=>True) ?hr ?hp (fun _ hk=>hk) trivial (Below.refl _ _) (Nat.le_refl _) (by simp) ?_;(case hd=>rfl);(case hg=>rfl);(case hr=>first|(go_simp;done)|(go_simp;rfl));(case hp=>exact (Reps.none _ _))
       intro v640 w13 ho14 hb hg_ hnew_
       clear hg_ hnew_
       (first|rw [← Ny639.out] at ho14|(simp only [Int.reduceToNat] at ho14;rw [← Ny639.out] at ho14))
       have HO641:=zA (Kd.R_lower ho14 (below_size zB))
       replace HB:=zA (below_step zB hb)
       clear hb ho14
       refine hK.out _ _ trivial (fun hHeld=>?_)
       clear hK K
       refine norm_ (a':=?_) ?_ ?_
       rotate_left
       ·show Act.put _ (some 5) _=_
        simp only [Act.put,zi,zs,zt,i64_w,i32_w]
        rfl
       refine one_ (i:=4) (N:=some 9) #[true,true,true,true,true,true,true,true,true,false,false] rfl rfl (one_of HT_.out zK) (by decide) (fun K hK=>?_)
       refine Kd.R_append_rows_step (Kd.int .i64) (w0:=w) w.heap.size (by rfl) (.tmp 5) (.tmp 8) 30 3 (.int .i64 0) 8 rfl Try.underlying30 info3 rfl (by decide) (by omega) v640 y639 (l0.take (a1:Int).toNat) _ _ _ (fun _=>True) (fun _=>False) rfl rfl ?aO ?aR (fun _ _ h=>h) (fun _ h=>h.elim) ?aF ?aB ?aS ?aL ?_
       (case aR=>first|(rw [← show (l0.take (a1:Int).toNat).length=a1.toNat from (by rw [List.length_take];have h_:(a1:Int)≤(l0.length:Int):=of_decide_eq_true zh;omega)];(repeat (first|exact (Kd.C_below HR642.out HB.out)|(with_reducible refine Kd.C_alloc ?_ _)|(with_reducible refine Kd.C_drewN ?_ _)|(with_reducible refine Kd.C_drew ?_)));done)|((repeat (first|exact (Kd.C_below HR642.out HB.out)|(with_reducible refine Kd.C_alloc ?_ _)|(with_reducible refine Kd.C_drewN ?_ _)|(with_reducible refine Kd.C_drew ?_)));done)|(have hl_:(l0.take (a1:Int).toNat).length=a1.toNat:=(by rw [List.length_take];have h_:(a1:Int)≤(l0.length:Int):=of_decide_eq_true zh;omega);have h_:=(Kd.C_below HR642.out HB.out);rw [hl_] at h_;repeat (first|exact h_|(with_reducible refine Kd.C_alloc ?_ _)|(with_reducible refine Kd.C_drewN ?_ _)|(with_reducible refine Kd.C_drew ?_))))
       (case aB=>exact zB)
       (case aF=>exact (fun _ _=>trivial))
       (case aO=>exact (zR HO641))
       (case aS=>exact (below_size zB))
       (case aL=>have:=LMc5.out;have hlx_:=(show (l0.take (a1:Int).toNat).length=a1.toNat from (by rw [List.length_take];have h_:(a1:Int)≤(l0.length:Int):=of_decide_eq_true zh;omega));omega)
       intro v644 w15 ho hb hg hat
       rw [← Ny643.out] at ho
       have HO645:=zA (ho)
       replace HB:=zA (hb)
       clear HO641
       clear ho hb hg hat
       refine hK.out _ _ trivial (fun hHeld=>?_)
       clear hK K
       refine norm_ (a':=?_) ?_ ?_
       rotate_left
       ·show Act.put _ (some 9) _=_
        simp only [Act.put,zi,zs,zt,i64_w,i32_w]
        rfl
       refine one_ (i:=9) (N:=some 14) #[true,true,true,true,true,true,true,true,true,true,false] rfl rfl (one_of HT_.out zK) (by decide) (fun K hK=>?_)
       refine Kd.R_append_rows_step (Kd.int .i64) (w0:=w) w.heap.size (by rfl) (.tmp 9) (.tmp 13) 30 3 (.int .i64 0) 8 rfl Try.underlying30 info3 rfl (by decide) (by omega) v644 y643 (l0.drop ((ji6):Int).toNat) _ _ _ (fun _=>True) (fun _=>False) rfl rfl ?aO ?aR (fun _ _ h=>h) (fun _ h=>h.elim) ?aF ?aB ?aS ?aL ?_
       (case aR=>first|(rw [← show (l0.drop ((ji6):Int).toNat).length=(l0.length - (ji6).toNat) from List.length_drop];(repeat (first|exact (Kd.C_below HR646.out HB.out)|(with_reducible refine Kd.C_alloc ?_ _)|(with_reducible refine Kd.C_drewN ?_ _)|(with_reducible refine Kd.C_drew ?_)));done)|((repeat (first|exact (Kd.C_below HR646.out HB.out)|(with_reducible refine Kd.C_alloc ?_ _)|(with_reducible refine Kd.C_drewN ?_ _)|(with_reducible refine Kd.C_drew ?_)));done)|(have hl_:(l0.drop ((ji6):Int).toNat).length=(l0.length - (ji6).toNat):=List.length_drop;have h_:=(Kd.C_below HR646.out HB.out);rw [hl_] at h_;repeat (first|exact h_|(with_reducible refine Kd.C_alloc ?_ _)|(with_reducible refine Kd.C_drewN ?_ _)|(with_reducible refine Kd.C_drew ?_))))
       (case aB=>exact zB)
       (case aF=>exact (fun _ _=>trivial))
       (case aO=>exact (zR HO645))
       (case aS=>exact (below_size zB))
       (case aL=>have:=LMc9.out;have hlx_:=(show (l0.drop ((ji6):Int).toNat).length=(l0.length - (ji6).toNat) from List.length_drop);omega)
       intro v648 w16 ho hb hg hat
       rw [← Ny647.out] at ho
       have HO649:=zA (ho)
       replace HB:=zA (hb)
       clear HO645
       clear ho hb hg hat
       refine hK.out _ _ trivial (fun hHeld=>?_)
       clear hK K
       refine norm_ (a':=?_) ?_ ?_
       rotate_left
       ·show Act.put _ (some 14) _=_
        simp only [Act.put,zi,zs,zt,i64_w,i32_w]
        rfl
       refine pure_ (i:=10) (N:=some 4) (v:=?_) (a':=?_) #[true,true,true,true,true,true,true,true,true,true,true] rfl rfl (any_of HT_.out zK) (fun _ _ _ h=>h) (Or.inl ⟨by rfl,?_⟩) ?_ ?_
       rotate_left
       ·intro w'
        go_simp
        with_reducible rfl
       rotate_left
       ·simp only [Act.put,zi,zs,zt,i64_w,i32_w]
        rfl
       refine done_ (done_of HT_.out zK) ?_
       try go_wp2
       go_ret
       exact ⟨_,by first|rfl|(simp [errW_none,errW_some] <;> rfl)|(simp only [← hji6];first|rfl|(simp [errW_none,errW_some] <;> rfl))|(simp [*,errW_none,errW_some] <;> rfl),by refine zr ?_;exact HO649.out,by repeat (first|(with_reducible first|exact HB.out|apply below_alloc|apply pw_below_drewN|apply below_drew1)|exact HB.out)⟩
      ·rw [if_neg c9] at H
       exact absurd H (by simp)
     ·rw [if_neg c8] at H
      exact absurd H (by simp)
    ·rw [if_neg c7] at H
     exact absurd H (by simp)
   ·rw [if_neg c5] at H
    exact absurd H (by simp)
  ·rw [if_neg c4] at H
   exact absurd H (by simp)
 ·rw [if_neg c3] at H
  exact absurd H (by simp)
end Go.Proofs.Ytkjghablbeaioaa.S
