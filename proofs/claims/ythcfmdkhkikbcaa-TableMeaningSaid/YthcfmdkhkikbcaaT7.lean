import Derived.Test.YthcfmdkhkikbcaaT0
import Derived.Test.YthcfmdkhkikbcaaT1
import Derived.Test.YthcfmdkhkikbcaaT6
import Derived.Test.YthcfmdkhkikbcaaT9
namespace Go.Proofs.Ythcfmdkhkikbcaa.T
open Go.RowKit Go.Proofs.YthcfmdkhkikbcaaW.PrintWords Go.Proofs.YthcfmdkhkikbcaaW.PrintLast Go.Proofs.YthcfmdkhkikbcaaW.PrintMore
attribute [local go_sem] max2_int min2_int max_two min_two max_three min_three max_four min_four
set_option linter.unusedVariables false
set_option linter.unusedSimpArgs false
def ancepsref38_Few.f (l0_0:List Int) (l0_1:List Int):Option (Bool):=if (l0_0.length:Int)≤12 then (some (decide ((l0_1.length:Int)≤1030))) else (some false)
set_option maxHeartbeats 8000000 in
set_option maxRecDepth 100000 in
theorem ancepsref38_Few.calls (A0_0:Option Addr) (c0_0:Nat) (l0_0:List Int) (A0_1:Option Addr) (c0_1:Nat) (l0_1:List Int) (r:Bool) (w:World) (hr0_0:Kd.C (Kd.int .i64) w A0_0 l0_0.length l0_0) (hc0_0:l0_0.length≤c0_0) (hr0_1:Kd.C (Kd.int .i64) w A0_1 l0_1.length l0_1) (hc0_1:l0_1.length≤c0_1) (h:ancepsref38_Few.f l0_0 l0_1=some r) :
  Calls Try.prog 19 #[.agg #[.slice A0_0 l0_0.length c0_0,.slice A0_1 l0_1.length c0_1]] w fun e w'=>e=.returned (.bool r)∧Below w.heap.size w w':=by
 have hu29:=Try.underlying29
 have hu27:=Try.underlying27
 have HR0_0:=zA hr0_0
 have HC0_0:=zA hc0_0
 clear hr0_0 hc0_0
 have HR0_1:=zA hr0_1
 have HC0_1:=zA hc0_1
 clear hr0_1 hc0_1
 have HB:=zA (Below.refl w.heap.size w)
 have H:(if (l0_0.length:Int)≤12 then (some (decide ((l0_1.length:Int)≤1030))) else (some false))=some r:=h
 clear h
 have HC2:=zA H
 clear H
 go_enter Try.func19,Try.ntmps19
 go_upto_region 1 with (first|((with_reducible refine gate_dst (N:=1) rfl ?_);(try (refine gate_guard (by rfl) ?_;dsimp only));refine box_event ?hg (N:=1) ?hd (cs:=#[.slice A0_0 l0_0.length c0_0,.slice A0_1 l0_1.length c0_1]) (t:=29) ?hr ?_;(case hd=>rfl);(case hg=>rfl);(case hr=>first|(go_simp;done)|(go_simp;rfl));intro gb427 hg w3 hbox hb;have BK427:=zA (hbox);have GW427:=zA (zG hg (below_size zB):w.heap.size≤gb427);have GE427:=GW427;replace HB:=zA (below_step zB hb);clear hb hbox hg))
 (try simp only [Act.put,zi,zs,zt])
 have H:=HC2.out
 clear HC2
 by_cases c4:(l0_0.length:Int)≤12
 ·rw [if_pos c4] at H
  have c4b0:decide ((l0_0.length:Int)≤12)=true:=decide_eq_true c4
  have c4b1:decide (l0_0.length≤12)=true:=decide_eq_true (by omega)
  clear c4
  (first|rw [c4b0]|(simp only [i64_w,i32_w];rw [c4b0])|skip)
  (try rw [c4b1])
  obtain rfl:=Option.some.inj H
  have hcz5_0:w3.cell? ⟨gb427,0,none⟩=some (.slice A0_0 l0_0.length c0_0):=(blk_cell BK427.out 0).trans rfl
  have hcz5_1:w3.cell? ⟨gb427,1,none⟩=some (.slice A0_1 l0_1.length c0_1):=(blk_cell BK427.out 1).trans rfl
  have hfz5_0:=blk_frozen BK427.out 0
  have hfz5_1:=blk_frozen BK427.out 1
  go_wp2
  go_ret
  exact ⟨ze,by repeat (first|(with_reducible first|exact HB.out|apply below_alloc|apply pw_below_drewN|apply below_drew1|refine below_set ?_ GE427.out)|exact HB.out)⟩
 ·rw [if_neg c4] at H
  have c4b0:decide ((l0_0.length:Int)≤12)=false:=decide_eq_false c4
  have c4b1:decide (l0_0.length≤12)=false:=decide_eq_false (by omega)
  clear c4
  (first|rw [c4b0]|(simp only [i64_w,i32_w];rw [c4b0])|skip)
  (try rw [c4b1])
  obtain rfl:=Option.some.inj H
  have hcz6_0:w3.cell? ⟨gb427,0,none⟩=some (.slice A0_0 l0_0.length c0_0):=(blk_cell BK427.out 0).trans rfl
  have hcz6_1:w3.cell? ⟨gb427,1,none⟩=some (.slice A0_1 l0_1.length c0_1):=(blk_cell BK427.out 1).trans rfl
  have hfz6_0:=blk_frozen BK427.out 0
  have hfz6_1:=blk_frozen BK427.out 1
  go_wp2
  go_ret
  exact ⟨ze,by repeat (first|(with_reducible first|exact HB.out|apply below_alloc|apply pw_below_drewN|apply below_drew1|refine below_set ?_ GE427.out)|exact HB.out)⟩
def ancepslaw38_own.f (l0_0:List Int) (l0_1:List Int):Option (List Int×List Int):=(slices_Clone_int_int.f l0_0).bind fun t433=>((slices_Clone_int_int.f l0_1).bind fun t436=>(some (t433,t436)))
def ancepslaw38_own.T1:Bool×List (List Nat×List Nat):=(true,[([],[]),([0],[0]),([1],[1]),([],[]),([3],[3]),([4,2],[4]),([2,5],[2,5]),([6,5,0,1,2,3,4,5,6],[6])])
def ancepslaw38_own.B1:List Nat:=[0,1,3,0,8,31,63,127]
theorem ancepslaw38_own.tab1:rtab .any (opsOf Try.f21 1)=ancepslaw38_own.T1:=by kernel_rfl
theorem ancepslaw38_own.bits1:waitsOk ancepslaw38_own.T1.2 ancepslaw38_own.B1=true:=by kernel_rfl
set_option maxHeartbeats 8000000 in
set_option maxRecDepth 100000 in
theorem ancepslaw38_own.calls (A0_0:Option Addr) (c0_0:Nat) (l0_0:List Int) (A0_1:Option Addr) (c0_1:Nat) (l0_1:List Int) (r1:List Int) (r2:List Int) (w:World) (hr0_0:Kd.C (Kd.int .i64) w A0_0 l0_0.length l0_0) (hc0_0:l0_0.length≤c0_0) (hr0_1:Kd.C (Kd.int .i64) w A0_1 l0_1.length l0_1) (hc0_1:l0_1.length≤c0_1) (h:ancepslaw38_own.f l0_0 l0_1=some (r1,r2)) :
  Calls Try.prog 21 #[.agg #[.slice A0_0 l0_0.length c0_0,.slice A0_1 l0_1.length c0_1]] w fun e w'=>∃ v0_ v1_:Value,e=.returned (.agg #[v0_,v1_])∧Kd.R (Kd.int .i64) 3 w' w.heap.size (fun k_=>some k_≠(v1_:Value).ownBlock) v0_ r1∧Kd.R (Kd.int .i64) 3 w' w.heap.size (fun k_=>some k_≠(v0_:Value).ownBlock) v1_ r2∧Below w.heap.size w w':=by
 have hu29:=Try.underlying29
 have hu27:=Try.underlying27
 have HR0_0:=zA hr0_0
 have HC0_0:=zA hc0_0
 clear hr0_0 hc0_0
 have HR0_1:=zA hr0_1
 have HC0_1:=zA hc0_1
 clear hr0_1 hc0_1
 have HB:=zA (Below.refl w.heap.size w)
 have H:((slices_Clone_int_int.f l0_0).bind fun t433=>((slices_Clone_int_int.f l0_1).bind fun t436=>(some (t433,t436))))=some (r1,r2):=h
 clear h
 replace H:=Option.bind_eq_some_iff.mp H
 obtain ⟨t433,A20,H⟩:=H
 replace H:((slices_Clone_int_int.f l0_1).bind fun t436=>(some (t433,t436)))=some (r1,r2):=H
 have A2:=zA A20
 clear A20
 replace H:=Option.bind_eq_some_iff.mp H
 obtain ⟨t436,A30,H⟩:=H
 replace H:(some (t433,t436))=some (r1,r2):=H
 have A3:=zA A30
 clear A30
 simp only [Option.some.injEq,Prod.mk.injEq] at H
 obtain ⟨rfl,rfl⟩:=H
 go_enter Try.func21,Try.ntmps21
 try go_wp2_with (first|((with_reducible refine gate_dst (N:=1) rfl ?_);refine box_event ?hg (N:=1) ?hd (cs:=#[.slice A0_0 l0_0.length c0_0,.slice A0_1 l0_1.length c0_1]) (t:=29) ?hr ?_;(case hd=>rfl);(case hg=>rfl);(case hr=>first|(go_simp;done)|(go_simp;rfl));intro gb431 hg w4 hbox hb;have BK431:=zA (hbox);have GW431:=zA (zG hg (below_size zB):w.heap.size≤gb431);have GE431:=GW431;replace HB:=zA (below_step zB hb);clear hb hbox hg)|((with_reducible refine gate_dst (N:=2) rfl ?_);refine box_event ?hg (N:=2) ?hd (cs:=#[.slice none 0 0,.slice none 0 0]) (t:=29) ?hr ?_;(case hd=>rfl);(case hg=>rfl);(case hr=>first|(go_simp;done)|(go_simp;rfl));intro gb432 hg w5 hbox hb;have BK432:=zA (hbox);have GW432:=zA (zG hg (below_size zB):w.heap.size≤gb432);have GE432:=GW432;have NB431_432:=zA ((zl hg (zk BK431):gb431≠gb432));have NB432_431:=zA ((zg hg (zk BK431):gb432≠gb431));replace BK431:=zA (zb BK431 hb);replace HB:=zA (below_step zB hb);clear hb hbox hg))
 replace BK431:=zA (blk_drew BK431.out)
 replace BK432:=zA (blk_drew BK432.out)
 replace HB:=zA (below_drew1 HB.out)
 refine start_ (n:=8) (S:=fun w'=>w'.cell? ⟨gb431,0,none⟩=some (.slice A0_0 l0_0.length c0_0)∧w'.cell? ⟨gb431,1,none⟩=some (.slice A0_1 l0_1.length c0_1)) (ds:=[]) #[false,false,false,false,false,false,false,false] zK rfl rfl ⟨(blk_cell BK431.out 0).trans rfl,(blk_cell BK431.out 1).trans rfl⟩ (fun hHeld=>?_);refine with_tabW ancepslaw38_own.tab1 ancepslaw38_own.bits1 (fun HT_ HW_=>?_)
 generalize w5.drew=w6 at BK431 BK432 HB hHeld ⊢
 refine pure_ (i:=0) (N:=some 3) (v:=?_) (a':=?_) #[true,false,false,false,false,false,false,false] rfl rfl (any_of HT_.out zK) (fun _ _ _ h=>h) (Or.inl ⟨by rfl,?_⟩) ?_ ?_
 rotate_left
 ·intro w'
  go_simp
  with_reducible rfl
 rotate_left
 ·simp only [Act.put,zi,zs,zt,i64_w,i32_w]
  rfl
 refine pure_ (i:=3) (N:=some 6) (v:=?_) (a':=?_) #[true,false,false,true,false,false,false,false] rfl rfl (any_of HT_.out zK) (fun _ _ _ h=>h) (Or.inl ⟨by rfl,?_⟩) ?_ ?_
 rotate_left
 ·intro w'
  go_simp
  with_reducible rfl
 rotate_left
 ·simp only [Act.put,zi,zs,zt,i64_w,i32_w]
  rfl
 refine take_ (i:=1) (N:=some 4) (v:=?_) (a':=?_) #[true,true,false,true,false,false,false,false] rfl rfl (take_ofW HT_.out HW_.out zK) (fun _ _ _ h=>h) (Or.inl ⟨by rfl,?_⟩) hHeld ?_ ?_
 rotate_left
 ·rintro w' ⟨s0,s1⟩
  go_simp
  with_reducible rfl
 rotate_left
 ·simp only [Act.put,zi,zs,zt,i64_w,i32_w]
  rfl
 refine take_ (i:=4) (N:=some 7) (v:=?_) (a':=?_) #[true,true,false,true,true,false,false,false] rfl rfl (take_ofW HT_.out HW_.out zK) (fun _ _ _ h=>h) (Or.inl ⟨by rfl,?_⟩) hHeld ?_ ?_
 rotate_left
 ·rintro w' ⟨s0,s1⟩
  go_simp
  with_reducible rfl
 rotate_left
 ·simp only [Act.put,zi,zs,zt,i64_w,i32_w]
  rfl
 refine one_ (i:=2) (N:=some 5) #[true,true,true,true,true,false,false,false] rfl rfl (one_of HT_.out zK) (by decide) (fun K hK=>?_)
 refine goes_ Try.func42 zK rfl #[.slice A0_0 l0_0.length c0_0] (by rfl) rfl rfl zM ?_
 with_reducible refine (slices_Clone_int_int.calls _ _ l0_0 t433 _ ?side1 ?side2 A2.out).mono ?_
 (case side1=>exact zC (Kd.C_below HR0_0.out HB.out))
 (case side2=>exact HC0_0.out)
 rintro e w7 ⟨v434,rfl,ho0,hb⟩
 refine ⟨_,rfl,?_⟩
 have HO435:=zA (Kd.R_lower ho0 (below_size zB))
 replace BK431:=zA (zb BK431 hb)
 replace BK432:=zA (zb BK432 hb)
 replace HB:=zA (below_step zB hb)
 (try clear hb)
 (try clear hb2)
 (try clear hk)
 (try clear hi)
 (try clear ho0)
 refine hK.out _ _ ⟨(blk_cell BK431.out 0).trans rfl,(blk_cell BK431.out 1).trans rfl⟩ (fun hHeld=>?_)
 clear hK K
 refine norm_ (a':=?_) ?_ ?_
 rotate_left
 ·show Act.put _ (some 5) _=_
  simp only [Act.put,zi,zs,zt,i64_w,i32_w]
  rfl
 refine one_ (i:=5) (N:=some 8) #[true,true,true,true,true,true,false,false] rfl rfl (one_of HT_.out zK) (by decide) (fun K hK=>?_)
 refine goes_ Try.func42 zK rfl #[.slice A0_1 l0_1.length c0_1] (by rfl) rfl rfl zM ?_
 with_reducible refine (slices_Clone_int_int.calls _ _ l0_1 t436 _ ?side1 ?side2 A3.out).mono ?_
 (case side1=>exact zC (Kd.C_below HR0_1.out HB.out))
 (case side2=>exact HC0_1.out)
 rintro e w8 ⟨v437,rfl,ho0,hb⟩
 refine ⟨_,rfl,?_⟩
 have HO438:=zA (Kd.R_lower (Kd.R_new' ho0 (Kd.R_lt (zR HO435))) (below_size zB))
 replace HO435:=zA (Kd.R_elder' (zR HO435) (Kd.R_base ho0) hb)
 replace BK431:=zA (zb BK431 hb)
 replace BK432:=zA (zb BK432 hb)
 replace HB:=zA (below_step zB hb)
 (try clear hb)
 (try clear hb2)
 (try clear hk)
 (try clear hi)
 (try clear ho0)
 obtain ⟨Ao9,co9,eo9⟩:=Kd.R_slice HO438.out
 (first|subst eo9|(injection eo9 with f1_ f2_ f3_;have f4_:=f1_.symm;have f5_:=f3_.symm;clear f1_ f2_ f3_;subst f4_;subst f5_))
 obtain ⟨Ao10,co10,eo10⟩:=Kd.R_slice HO435.out
 (first|subst eo10|(injection eo10 with f1_ f2_ f3_;have f4_:=f1_.symm;have f5_:=f3_.symm;clear f1_ f2_ f3_;subst f4_;subst f5_))
 refine hK.out _ _ ⟨(blk_cell BK431.out 0).trans rfl,(blk_cell BK431.out 1).trans rfl⟩ (fun hHeld=>?_)
 clear hK K
 refine norm_ (a':=?_) ?_ ?_
 rotate_left
 ·show Act.put _ (some 8) _=_
  simp only [Act.put,zi,zs,zt,i64_w,i32_w]
  rfl
 refine pure_ (i:=6) (N:=some 9) (v:=?_) (a':=?_) #[true,true,true,true,true,true,true,false] rfl rfl (any_of HT_.out zK) (fun _ _ _ h=>h) (Or.inl ⟨by rfl,?_⟩) ?_ ?_
 rotate_left
 ·intro w'
  go_simp
  with_reducible rfl
 rotate_left
 ·simp only [Act.put,zi,zs,zt,i64_w,i32_w]
  rfl
 refine one_ (i:=7) (N:=none) #[true,true,true,true,true,true,true,true] rfl rfl (one_of HT_.out zK) (by decide) (fun K hK=>?_)
 have hs11:w8.cell? ⟨gb432,0,none⟩=some (.slice none 0 0):=(blk_cell BK432.out 0).trans rfl
 have hfs11:=blk_frozen BK432.out 0
 have hns11_0:=NB431_432.out
 have hms11_0:=NB432_431.out
 have hs12:w8.cell? ⟨gb432,1,none⟩=some (.slice none 0 0):=(blk_cell BK432.out 1).trans rfl
 have hfs12:=blk_frozen BK432.out 1
 have hns12_0:=NB431_432.out
 have hms12_0:=NB432_431.out
 refine skip_ (w1:=?_) (by rfl) rfl ?_ ?_
 rotate_left
 ·go_simp
  rfl
 refine hK.out _ _ ⟨((cell_far (p:=⟨gb432,_,none⟩) NB431_432.out _).trans (((cell_far (p:=⟨gb432,_,none⟩) NB431_432.out _).trans (hHeld.1)))),((cell_far (p:=⟨gb432,_,none⟩) NB431_432.out _).trans (((cell_far (p:=⟨gb432,_,none⟩) NB431_432.out _).trans (hHeld.2))))⟩ (fun hHeld=>?_)
 clear hK K
 refine done_ (done_of HT_.out zK) ?_
 try go_wp2
 refine bodyPost_ret (results_cell_row rfl _ _ gb432 29 #[.slice Ao10 t433.length co10,.slice Ao9 t436.length co9] (0,0) _ rfl (by refine zj ?_;refine blk_put (cs:=#[.slice Ao10 t433.length co10,.slice none 0 0]) ?_ 1 _ rfl;refine zj ?_;refine blk_put (cs:=#[.slice none 0 0,.slice none 0 0]) ?_ 0 _ rfl;refine zj ?_;exact BK432.out) Try.underlying29 rfl zK) rfl ?_
 exact ⟨_,_,ze,by refine zr ?_;exact Kd.R_mono (Kd.R_far (p:=⟨gb432,1,none⟩) (Kd.R_far (p:=⟨gb432,0,none⟩) (Kd.R_types HO435.out BK432.out (by decide)) (fun _ hk=>hk.2) (.slice Ao10 t433.length co10)) (fun _ hk=>hk.2) (.slice Ao9 t436.length co9)) (fun _ hk=>hk.1.2),by refine zr ?_;exact Kd.R_mono (Kd.R_far (p:=⟨gb432,1,none⟩) (Kd.R_far (p:=⟨gb432,0,none⟩) (Kd.R_types HO438.out BK432.out (by decide)) (fun _ hk=>hk.2) (.slice Ao10 t433.length co10)) (fun _ hk=>hk.2) (.slice Ao9 t436.length co9)) (fun _ hk=>hk.1.2),by repeat (first|(with_reducible first|exact HB.out|apply below_alloc|apply pw_below_drewN|apply below_drew1|refine below_set ?_ GE431.out|refine below_set ?_ GE432.out)|exact HB.out)⟩
mutual
def ancepsref38_projected.l0:Nat→List Int→List Bool→Int→List Int→List Int→List Int→Option (List Int×List Int)
 | 0,_,_,_,_,_,_=>none
 | k+1,x1,x6,x7,x463000,x463001,x471000=>if x7<(x463001.length:Int) then (if 0≤x7 then ((ancepsref38_Assignment.f k x463000 (rd x463001 x7)).bind fun t475=>((ancepsref38_Row.f k x1 t475).bind fun t476=>(if 0≤t476 then (if t476<(x6.length:Int) then (ancepsref38_projected.l0 k x1 (x6.set (t476:Int).toNat true) (wrap64 (x7+1)) x463000 x463001 x471000) else (none)) else (none)))) else (none)) else (ancepsref38_projected.l1 k x6 0 x471000 ([]:List Int))
def ancepsref38_projected.l1:Nat→List Bool→Int→List Int→List Int→Option (List Int×List Int)
 | 0,_,_,_,_=>none
 | k+1,x6,x8,x471000,x471001=>if x8<(x6.length:Int) then (if 0≤x8 then (if rdOf false x6 x8=true then (if x471001.length<17592186044416 then (ancepsref38_projected.l1 k x6 (wrap64 (x8+1)) x471000 (x471001++[x8])) else (none)) else (ancepsref38_projected.l1 k x6 (wrap64 (x8+1)) x471000 x471001)) else (none)) else (some (x471000,x471001))
end
def ancepsref38_projected.f (k:Nat) (l0_0:List Int) (l0_1:List Int) (l1:List Int):Option (List Int×List Int):=(some (([]:List Int):List Int)).bind fun y464=>(if y464.length+l1.length<17592186044416 then (if 0≤(shl .i64 1 (l1.length:Int)) then (if (shl .i64 1 (l1.length:Int):Int).toNat≤281474976710656 then (ancepsref38_projected.l0 k l1 (List.replicate (shl .i64 1 (l1.length:Int):Int).toNat false) 0 l0_0 l0_1 (y464++l1)) else (none)) else (none)) else (none))
theorem ancepsref38_projected.mono_l:∀ k,(∀ y0 y1 y2 y3 y4 y5,LeO (ancepsref38_projected.l0 k y0 y1 y2 y3 y4 y5) (ancepsref38_projected.l0 (k+1) y0 y1 y2 y3 y4 y5))∧(∀ y0 y1 y2 y3,LeO (ancepsref38_projected.l1 k y0 y1 y2 y3) (ancepsref38_projected.l1 (k+1) y0 y1 y2 y3))
 | 0=>⟨fun _ _ _ _ _ _ r h=>by simp [ancepsref38_projected.l0] at h,fun _ _ _ _ r h=>by simp [ancepsref38_projected.l1] at h⟩
 | k+1=>by
  obtain ⟨ih0,ih1⟩:=ancepsref38_projected.mono_l k
  refine ⟨?_,?_⟩
  ·intro y0 y1 y2 y3 y4 y5
   unfold ancepsref38_projected.l0
   repeat' first
   | (with_reducible exact ih0 _ _ _ _ _ _)
   | (with_reducible exact ih1 _ _ _ _)
   | (with_reducible exact ancepsref38_Assignment.mono _ _ _)
   | (with_reducible exact ancepsref38_Row.mono _ _ _)
   | (with_reducible exact LeO.refl _)
   | (with_reducible exact LeO.none _)
   | (with_reducible refine LeO.ite ?_ ?_)
   | (with_reducible refine LeO.bind ?_ (fun _=>?_))
   | exact LeO.none _
   | refine LeO.ite ?_ ?_
   | refine LeO.bind ?_ (fun _=>?_)
  ·intro y0 y1 y2 y3
   unfold ancepsref38_projected.l1
   repeat' first
   | (with_reducible exact ih0 _ _ _ _ _ _)
   | (with_reducible exact ih1 _ _ _ _)
   | (with_reducible exact ancepsref38_Assignment.mono _ _ _)
   | (with_reducible exact ancepsref38_Row.mono _ _ _)
   | (with_reducible exact LeO.refl _)
   | (with_reducible exact LeO.none _)
   | (with_reducible refine LeO.ite ?_ ?_)
   | (with_reducible refine LeO.bind ?_ (fun _=>?_))
   | exact LeO.none _
   | refine LeO.ite ?_ ?_
   | refine LeO.bind ?_ (fun _=>?_)
theorem ancepsref38_projected.mono:∀ a0 a1 a2 k,LeO (ancepsref38_projected.f k a0 a1 a2) (ancepsref38_projected.f (k+1) a0 a1 a2):=by
 intro a0 a1 a2 k
 obtain ⟨ih0,ih1⟩:=ancepsref38_projected.mono_l k
 unfold ancepsref38_projected.f
 repeat' first
   | (with_reducible exact ih0 _ _ _ _ _ _)
   | (with_reducible exact ih1 _ _ _ _)
   | (with_reducible exact ancepsref38_Assignment.mono _ _ _)
   | (with_reducible exact ancepsref38_Row.mono _ _ _)
   | (with_reducible exact LeO.refl _)
   | (with_reducible exact LeO.none _)
   | (with_reducible refine LeO.ite ?_ ?_)
   | (with_reducible refine LeO.bind ?_ (fun _=>?_))
   | exact LeO.none _
   | refine LeO.ite ?_ ?_
   | refine LeO.bind ?_ (fun _=>?_)
def ancepsref38_projected.T6:Bool×List (List Nat×List Nat):=(true,[([],[]),([],[]),([],[]),([2],[2]),([],[]),([4],[4]),([],[]),([5,6],[5,6]),([7],[7]),([3,8],[3,8]),([1,9,9],[1,9]),([0,10,0,1,2,3,4,5,6,7,8,9,10],[0,10]),([11,10,0,1,2,3,4,5,6,7,8,9,10],[11])])
def ancepsref38_projected.B6:List Nat:=[0,0,0,4,0,16,0,112,240,508,1022,2047,4095]
theorem ancepsref38_projected.tab6:rtab .any (opsOf Try.f52 6)=ancepsref38_projected.T6:=by kernel_rfl
theorem ancepsref38_projected.bits6:waitsOk ancepsref38_projected.T6.2 ancepsref38_projected.B6=true:=by kernel_rfl
set_option maxHeartbeats 8000000 in
set_option maxRecDepth 100000 in
theorem ancepsref38_projected.calls (k:Nat) (A0_0:Option Addr) (c0_0:Nat) (l0_0:List Int) (A0_1:Option Addr) (c0_1:Nat) (l0_1:List Int) (A1:Option Addr) (c1:Nat) (l1:List Int) (r1:List Int) (r2:List Int) (w:World) (hr0_0:Kd.C (Kd.int .i64) w A0_0 l0_0.length l0_0) (hc0_0:l0_0.length≤c0_0) (hr0_1:Kd.C (Kd.int .i64) w A0_1 l0_1.length l0_1) (hc0_1:l0_1.length≤c0_1) (hr1:Kd.C (Kd.int .i64) w A1 l1.length l1) (hc1:l1.length≤c1) (h:ancepsref38_projected.f k l0_0 l0_1 l1=some (r1,r2)) :
  Calls Try.prog 52 #[.agg #[.slice A0_0 l0_0.length c0_0,.slice A0_1 l0_1.length c0_1],.slice A1 l1.length c1] w fun e w'=>∃ v0_ v1_:Value,e=.returned (.agg #[v0_,v1_])∧Kd.R (Kd.int .i64) 3 w' w.heap.size (fun k_=>some k_≠(v1_:Value).ownBlock) v0_ r1∧Kd.R (Kd.int .i64) 3 w' w.heap.size (fun k_=>some k_≠(v0_:Value).ownBlock) v1_ r2∧Below w.heap.size w w':=by
 have hu29:=Try.underlying29
 have hu27:=Try.underlying27
 have hu3:=Try.underlying3
 have hu4:=Try.underlying4
 have HR0_0:=zA hr0_0
 have HC0_0:=zA hc0_0
 clear hr0_0 hc0_0
 have HR0_1:=zA hr0_1
 have HC0_1:=zA hc0_1
 clear hr0_1 hc0_1
 have HR1:=zA hr1
 have HC1:=zA hc1
 clear hr1 hc1
 have HB:=zA (Below.refl w.heap.size w)
 have H:((some (([]:List Int):List Int)).bind fun y464=>(if y464.length+l1.length<17592186044416 then (if 0≤(shl .i64 1 (l1.length:Int)) then (if (shl .i64 1 (l1.length:Int):Int).toNat≤281474976710656 then (ancepsref38_projected.l0 k l1 (List.replicate (shl .i64 1 (l1.length:Int):Int).toNat false) 0 l0_0 l0_1 (y464++l1)) else (none)) else (none)) else (none)))=some (r1,r2):=h
 clear h
 obtain ⟨y464,hy464⟩:∃ y_:List Int,y_=(([]:List Int)):=⟨_,rfl⟩
 replace H:(if y464.length+l1.length<17592186044416 then (if 0≤(shl .i64 1 (l1.length:Int)) then (if (shl .i64 1 (l1.length:Int):Int).toNat≤281474976710656 then (ancepsref38_projected.l0 k l1 (List.replicate (shl .i64 1 (l1.length:Int):Int).toNat false) 0 l0_0 l0_1 (y464++l1)) else (none)) else (none)) else (none))=some (r1,r2):=by first|(rw [hy464];with_reducible exact H)|(have H2_:=(Option.bind_some _ _).symm.trans H;rw [hy464];with_reducible exact H2_)|(have H2_:=(Option.bind_some _ _).symm.trans H;with_reducible exact H2_)|with_reducible exact H|(rw [hy464];exact H)|exact H
 have Ny464:=zA hy464
 clear hy464
 by_cases c3:y464.length+l1.length<17592186044416
 ·rw [if_pos c3] at H
  have LMc3:=zA c3
  clear c3
  obtain ⟨y467,hy467⟩:∃ y_:List Int,y_=(y464++l1):=⟨_,rfl⟩
  replace H:(if 0≤(shl .i64 1 (l1.length:Int)) then (if (shl .i64 1 (l1.length:Int):Int).toNat≤281474976710656 then (ancepsref38_projected.l0 k l1 (List.replicate (shl .i64 1 (l1.length:Int):Int).toNat false) 0 l0_0 l0_1 y467) else (none)) else (none))=some (r1,r2):=by first|(rw [hy467];with_reducible exact H)|(have H2_:=(Option.bind_some _ _).symm.trans H;rw [hy467];with_reducible exact H2_)|(have H2_:=(Option.bind_some _ _).symm.trans H;with_reducible exact H2_)|with_reducible exact H|(rw [hy467];exact H)|exact H
  have Ny467:=zA hy467
  clear hy467
  obtain ⟨ji4,hji4⟩:∃ j_:Int,(shl .i64 1 (l1.length:Int))=j_:=⟨_,rfl⟩
  replace H:(if 0≤(ji4) then (if (ji4:Int).toNat≤281474976710656 then (ancepsref38_projected.l0 k l1 (List.replicate (ji4:Int).toNat false) 0 l0_0 l0_1 y467) else (none)) else (none))=some (r1,r2):=by first|(rw [hji4] at H;exact H)|(simp only [hji4] at H ⊢;exact H)
  have hji4_:(IntKind.i64.wrap (1 * 2 ^ min (l1.length:Int).toNat 64))=ji4:=hji4
  have hji4z:(l1.length:Int)≤64→(IntKind.i64.wrap (1 * 2 ^ (l1.length:Int).toNat))=ji4:=shl_small hji4
  have hji4p:(IntKind.i64.wrap (1 * 2 ^ min l1.length 64))=ji4:=hji4_
  have hji4q:(l1.length:Int)≤64→(IntKind.i64.wrap (1 * 2 ^ l1.length))=ji4:=hji4z
  have hji4r:(IntKind.i64.wrap (2 ^ min l1.length 64))=ji4:=by have h_:=hji4p;rw [Int.one_mul] at h_;exact h_
  have hji4s:(l1.length:Int)≤64→(IntKind.i64.wrap (2 ^ l1.length))=ji4:=fun hle_=>by have h_:=hji4q hle_;rw [Int.one_mul] at h_;exact h_
  have hji4u:(IntKind.i64.wrap (2 ^ min (l1.length:Int).toNat 64))=ji4:=by have h_:=hji4_;rw [Int.one_mul] at h_;exact h_
  have hji4v:(l1.length:Int)≤64→(IntKind.i64.wrap (2 ^ (l1.length:Int).toNat))=ji4:=fun hle_=>by have h_:=hji4z hle_;rw [Int.one_mul] at h_;exact h_
  have hji4y:(wrap64 (1 * 2 ^ min (l1.length:Int).toNat 64))=ji4:=(i64_w _).symm.trans hji4_
  have hji4x:(l1.length:Int)≤64→(wrap64 (1 * 2 ^ (l1.length:Int).toNat))=ji4:=fun h_=>(i64_w _).symm.trans (hji4z h_)
  by_cases c5:0≤(ji4)
  ·rw [if_pos c5] at H
   have c5b0:=eq_true c5
   have c5b1:decide (0≤(ji4))=true:=decide_eq_true c5
   clear c5
   by_cases c6:(ji4:Int).toNat≤281474976710656
   ·rw [if_pos c6] at H
    have c6b0:=eq_true c6
    have c6b1:decide ((ji4:Int).toNat≤281474976710656)=true:=decide_eq_true c6
    clear c6
    obtain ⟨y471,hy471⟩:∃ y_:List Bool,y_=(List.replicate (ji4:Int).toNat false):=⟨_,rfl⟩
    replace H:(ancepsref38_projected.l0 k l1 y471 0 l0_0 l0_1 y467)=some (r1,r2):=by first|(rw [hy471];with_reducible exact H)|(have H2_:=(Option.bind_some _ _).symm.trans H;rw [hy471];with_reducible exact H2_)|(have H2_:=(Option.bind_some _ _).symm.trans H;with_reducible exact H2_)|with_reducible exact H|(rw [hy471];exact H)|exact H
    have Ny471:=zA hy471
    clear hy471
    have H':=zA H
    clear H
    go_enter Try.func52,Try.ntmps52
    go_wp2_with (first|((with_reducible refine gate_dst (N:=2) rfl ?_);refine box_event ?hg (N:=2) ?hd (cs:=#[.slice A0_0 l0_0.length c0_0,.slice A0_1 l0_1.length c0_1]) (t:=29) ?hr ?_;(case hd=>rfl);(case hg=>rfl);(case hr=>first|(go_simp;done)|(go_simp;rfl));intro gb462 hg w7 hbox hb;have BK462:=zA (hbox);have GW462:=zA (zG hg (below_size zB):w.heap.size≤gb462);have GE462:=GW462;replace HB:=zA (below_step zB hb);clear hb hbox hg)|((with_reducible refine gate_dst (N:=4) rfl ?_);refine box_event ?hg (N:=4) ?hd (cs:=#[.slice none 0 0,.slice none 0 0]) (t:=29) ?hr ?_;(case hd=>rfl);(case hg=>rfl);(case hr=>first|(go_simp;done)|(go_simp;rfl));intro gb463 hg w8 hbox hb;have BK463:=zA (hbox);have GW463:=zA (zG hg (below_size zB):w.heap.size≤gb463);have GE463:=GW463;have NB462_463:=zA ((zl hg (zk BK462):gb462≠gb463));have NB463_462:=zA ((zg hg (zk BK462):gb463≠gb462));replace BK462:=zA (zb BK462 hb);replace HB:=zA (below_step zB hb);clear hb hbox hg)|((with_reducible refine gate_dst (N:=9) rfl ?_);refine Kd.R_lit (Kd.int .i64) _ 3 ?hg (N:=9) ?hd (xs:=([]:List Int)) (inner:=[]) (ok:=fun _=>True) (okp:=fun _=>True) ?hr ?hp (fun _ hk=>hk) trivial (Below.refl _ _) (Nat.le_refl _) (by simp) ?_;(case hd=>rfl);(case hg=>rfl);(case hr=>first|(go_simp;done)|(go_simp;rfl));(case hp=>exact (Reps.none _ _));intro v465 w9 ho10 hb hg_ hnew_;clear hg_ hnew_;(first|rw [← Ny464.out] at ho10|(simp only [Int.reduceToNat] at ho10;rw [← Ny464.out] at ho10));have HO466:=zA (Kd.R_lower ho10 (below_size zB));replace BK462:=zA (zb BK462 hb);replace BK463:=zA (zb BK463 hb);replace HB:=zA (below_step zB hb);clear hb ho10)|((with_reducible refine gate_builtin (b:=.append) (xs:=#[.tmp 9,.tmp 10]) rfl ?_);at_builtin;refine Kd.R_append_rows (Kd.int .i64) (w0:=w) w.heap.size rfl (.tmp 9) (.tmp 10) 27 3 (.int .i64 0) 8 rfl Try.underlying27 info3 rfl (by decide) (by omega) v465 y464 l1 _ _ _ (fun _=>True) (fun _=>False) rfl rfl ?aO ?aR (fun _ _ h=>h) (fun _ h=>h.elim) ?aF ?aB ?aS ?aL ?_;(case aR=>exact zC (Kd.C_below HR1.out HB.out));(case aB=>exact zB);(case aF=>exact (fun _ _=>trivial));(case aO=>exact (zR HO466));(case aS=>exact (below_size zB));(case aL=>have:=LMc3.out;omega);intro v468 w11 ho hb hg hat;rw [← Ny467.out] at ho;have HO469:=zA (ho);replace BK462:=zA (blk_grown (g:=gb462) (o:=.cells #[.slice A0_0 l0_0.length c0_0,.slice A0_1 l0_1.length c0_1] 29 (0,0)) (zk BK462) hg (Kd.R_ne HO466.out BK462.out (by decide)));replace BK463:=zA (blk_grown (g:=gb463) (o:=.cells #[.slice none 0 0,.slice none 0 0] 29 (0,0)) (zk BK463) hg (Kd.R_ne HO466.out BK463.out (by decide)));replace HB:=zA (hb);clear HO466;clear ho hb hg hat;obtain ⟨Ao12,co12,eo12⟩:=Kd.R_slice HO469.out;subst eo12)|((with_reducible refine gate_dst (N:=5) rfl ?_);refine box_event ?hg (N:=5) ?hd (cs:=#[.slice none 0 0,.slice none 0 0]) (t:=29) ?hr ?_;(case hd=>rfl);(case hg=>rfl);(case hr=>first|(go_simp;done)|(go_simp;rfl));intro gb470 hg w13 hbox hb;have BK470:=zA (hbox);have GW470:=zA (zG hg (below_size zB):w.heap.size≤gb470);have GE470:=GW470;have NB462_470:=zA ((zl hg (zk BK462):gb462≠gb470));have NB470_462:=zA ((zg hg (zk BK462):gb470≠gb462));have NB463_470:=zA ((zl hg (zk BK463):gb463≠gb470));have NB470_463:=zA ((zg hg (zk BK463):gb470≠gb463));replace HO469:=zA (Kd.R_below (zR HO469) hb);replace BK462:=zA (zb BK462 hb);replace BK463:=zA (zb BK463 hb);replace HB:=zA (below_step zB hb);clear hb hbox hg;have hnb14:=NB470_462.out;have hnc14:=NB462_470.out;have hnb15:=NB470_463.out;have hnc15:=NB463_470.out;have hcz16_0:w13.cell? ⟨gb470,0,none⟩=some (.slice none 0 0):=(blk_cell BK470.out 0).trans rfl;have hcz16_1:w13.cell? ⟨gb470,1,none⟩=some (.slice none 0 0):=(blk_cell BK470.out 1).trans rfl;have hfz16_0:=blk_frozen BK470.out 0;have hfz16_1:=blk_frozen BK470.out 1)|((with_reducible refine gate_dst (N:=16) rfl ?_);refine Kd.R_make Kd.bool _ 4 rfl (N:=16) rfl 74 _ _ rfl ji4 rfl rfl Try.underlying74 (.bool false) 1 info4 rfl (by decide) (by omega) false (ok:=fun _=>True) (okp:=fun _=>True) rfl (fun _ hk=>hk) trivial (of_decide_eq_true zh) (Nat.le_trans (Nat.mul_le_mul_right _ (of_decide_eq_true zh:ji4.toNat≤281474976710656)) (by omega)) (Below.refl _ _) (Nat.le_refl _) ?_;intro v472 w17 ho18 hb hg_ hnew_;clear hg_ hnew_;(first|rw [← Ny471.out] at ho18|(simp only [Int.reduceToNat] at ho18;rw [← Ny471.out] at ho18));have HO473:=zA (Kd.R_lower ho18 (below_size zB));replace HO469:=zA (Kd.R_below (by refine zr ?_;exact (Kd.R_mono (Kd.R_far (p:=⟨gb470,1,none⟩) (Kd.R_far (p:=⟨gb470,0,none⟩) (Kd.R_types HO469.out BK470.out (by decide)) (fun _ hk=>hk.2) (.slice Ao12 y467.length co12)) (fun _ hk=>hk.2) (.slice none 0 0)) (fun _ h_=>h_.1))) hb);replace BK462:=zA (blk_below (g:=gb462) (o:=.cells #[.slice A0_0 l0_0.length c0_0,.slice A0_1 l0_1.length c0_1] 29 (0,0)) (by refine zj ?_;refine blk_far ?_ NB462_470.out _;refine zj ?_;refine blk_far ?_ NB462_470.out _;refine zj ?_;exact BK462.out) hb);replace BK463:=zA (blk_below (g:=gb463) (o:=.cells #[.slice none 0 0,.slice none 0 0] 29 (0,0)) (by refine zj ?_;refine blk_far ?_ NB463_470.out _;refine zj ?_;refine blk_far ?_ NB463_470.out _;refine zj ?_;exact BK463.out) hb);replace BK470:=zA (blk_below (g:=gb470) (o:=.cells #[.slice Ao12 y467.length co12,.slice none 0 0] 29 (0,0)) (by refine zj ?_;refine blk_put (cs:=#[.slice Ao12 y467.length co12,.slice none 0 0]) ?_ 1 _ rfl;refine zj ?_;refine blk_put (cs:=#[.slice none 0 0,.slice none 0 0]) ?_ 0 _ rfl;refine zj ?_;exact BK470.out) hb);replace HB:=zA (below_step zB hb);clear hb ho18))
    go_loopg [7] k (fun kq v7 w'=>∃ (x6_1:List Bool) (x7_1:Int),v7=.int .i64 x7_1∧Aside0 (ancepsref38_projected.l0 kq l1 x6_1 x7_1 l0_0 l0_1 y467=some (r1,r2))∧Aside0 (kq≤k)∧Aside0 (Kd.R Kd.bool 4 w' w.heap.size (fun _=>True) v472 x6_1)∧Aside0 (Kd.R (Kd.int .i64) 3 w' w.heap.size (fun _=>True) (.slice Ao12 y467.length co12) y467)∧Aside0 (w'.heap[gb462]?=some (.cells #[(.slice A0_0 l0_0.length c0_0),(.slice A0_1 l0_1.length c0_1)] 29 (0,0)))∧Aside0 (w'.heap[gb463]?=some (.cells #[(.slice none 0 0),(.slice none 0 0)] 29 (0,0)))∧Aside0 (w'.heap[gb470]?=some (.cells #[(.slice Ao12 y467.length co12),(.slice none 0 0)] 29 (0,0)))∧Aside0 (Below w.heap.size w w'))
    case atStart=>exact ⟨(y471),(0),zT,H',⟨Nat.le_refl _⟩,⟨by refine zr ?_;exact HO473.out⟩,⟨by refine zr ?_;exact HO469.out⟩,⟨by refine zj ?_;exact BK462.out⟩,⟨by refine zj ?_;exact BK463.out⟩,⟨by refine zj ?_;exact BK470.out⟩,⟨by repeat (first|(with_reducible first|exact HB.out|apply below_alloc|apply pw_below_drewN|apply below_drew1|refine below_set ?_ GE462.out|refine below_set ?_ GE463.out|refine below_set ?_ GE470.out)|exact HB.out)⟩⟩
    case round=>
     clear H'
     try clear c3
     try clear c5
     try clear c5b0
     try clear c5b1
     try clear c6
     try clear c6b0
     try clear c6b1
     try clear hcz16_0
     try clear hcz16_1
     try clear hfz16_0
     try clear hfz16_1
     obtain ⟨x6_1,x7_1,rfl,HA,HK1,HO_6,HO_471000,BK462,BK463,BK470,HB⟩:=hrel
     cases gk with
     | zero=>exact absurd HA.out (by simp [ancepsref38_projected.l0])
     | succ k1=>
      have H:=HA.out
      clear HA
      simp only [ancepsref38_projected.l0] at H
      by_cases c19:x7_1<(l0_1.length:Int)
      ·rw [if_pos c19] at H
       have c19b0:decide (x7_1<(l0_1.length:Int))=true:=decide_eq_true c19
       clear c19
       by_cases c20:0≤x7_1
       ·rw [if_pos c20] at H
        have c20b0:decide (0≤x7_1)=true:=decide_eq_true c20
        clear c20
        replace H:=Option.bind_eq_some_iff.mp H
        obtain ⟨t475,A210,H⟩:=H
        replace H:((ancepsref38_Row.f k1 l1 t475).bind fun t476=>(if 0≤t476 then (if t476<(x6_1.length:Int) then (ancepsref38_projected.l0 k1 l1 (x6_1.set (t476:Int).toNat true) (wrap64 (x7_1+1)) l0_0 l0_1 y467) else (none)) else (none)))=some (r1,r2):=H
        have A21:=zA A210
        clear A210
        replace H:=Option.bind_eq_some_iff.mp H
        obtain ⟨t476,A220,H⟩:=H
        replace H:(if 0≤t476 then (if t476<(x6_1.length:Int) then (ancepsref38_projected.l0 k1 l1 (x6_1.set (t476:Int).toNat true) (wrap64 (x7_1+1)) l0_0 l0_1 y467) else (none)) else (none))=some (r1,r2):=H
        have A22:=zA A220
        clear A220
        by_cases c23:0≤t476
        ·rw [if_pos c23] at H
         have c23b0:decide (0≤t476)=true:=decide_eq_true c23
         clear c23
         by_cases c24:t476<(x6_1.length:Int)
         ·rw [if_pos c24] at H
          have c24b0:decide (t476<(x6_1.length:Int))=true:=decide_eq_true c24
          clear c24
          obtain ⟨y477,hy477⟩:∃ y_:List Bool,y_=(x6_1.set (t476:Int).toNat true):=⟨_,rfl⟩
          replace H:(ancepsref38_projected.l0 k1 l1 y477 (wrap64 (x7_1+1)) l0_0 l0_1 y467)=some (r1,r2):=by first|(rw [hy477];with_reducible exact H)|(have H2_:=(Option.bind_some _ _).symm.trans H;rw [hy477];with_reducible exact H2_)|(have H2_:=(Option.bind_some _ _).symm.trans H;with_reducible exact H2_)|with_reducible exact H|(rw [hy477];exact H)|exact H
          have Ny477:=zA hy477
          clear hy477
          have H':=zA H
          clear H
          have hnb26:=NB462_463.out
          have hnc26:=NB463_462.out
          have hnb27:=NB462_470.out
          have hnc27:=NB470_462.out
          have hcz28_0:wr.cell? ⟨gb462,0,none⟩=some (.slice A0_0 l0_0.length c0_0):=(blk_cell BK462.out 0).trans rfl
          have hcz28_1:wr.cell? ⟨gb462,1,none⟩=some (.slice A0_1 l0_1.length c0_1):=(blk_cell BK462.out 1).trans rfl
          have hfz28_0:=blk_frozen BK462.out 0
          have hfz28_1:=blk_frozen BK462.out 1
          try go_wp2
          replace HO_6:=zA (Kd.R_drew HO_6.out)
          replace HO_471000:=zA (Kd.R_drew HO_471000.out)
          replace BK462:=zA (blk_drew BK462.out)
          replace BK463:=zA (blk_drew BK463.out)
          replace BK470:=zA (blk_drew BK470.out)
          replace HB:=zA (below_drew1 HB.out)
          have p474:0≤(x7_1:Int):=of_decide_eq_true zh
          have q474:x7_1<(l0_1.length:Int):=of_decide_eq_true zh
          obtain ⟨ad474,e474,hx474_0⟩:=Kd.at_int HR0_1.out x7_1 p474 q474
          have hw474_0:=hx474_0
          cases e474
          replace hx474_0:=(HB.out.cell (World.block_lt_of_cell? w _ hx474_0)).trans hx474_0
          replace p474:=eq_true p474
          replace q474:=eq_true q474
          refine start_ (n:=13) (S:=fun w'=>w'.cell? ⟨gb462,0,none⟩=some (.slice A0_0 l0_0.length c0_0)∧w'.cell? ⟨gb462,1,none⟩=some (.slice (some ad474) l0_1.length c0_1)∧w'.cell? (ad474.add (x7_1).toNat)=some (.int .i64 (rd l0_1 x7_1))) (ds:=[12]) #[false,false,false,false,false,false,false,false,false,false,false,false,false] zK rfl rfl ⟨(blk_cell BK462.out 0).trans rfl,(blk_cell BK462.out 1).trans rfl,((HB.out.cell (World.block_lt_of_cell? w _ hw474_0)).trans hw474_0)⟩ (fun hHeld=>?_);refine with_tabW ancepsref38_projected.tab6 ancepsref38_projected.bits6 (fun HT_ HW_=>?_)
          generalize wr.drew=w29 at HO_6 HO_471000 BK462 BK463 BK470 HB hx474_0 hHeld ⊢
          refine pure_ (i:=0) (N:=some 24) (v:=?_) (a':=?_) #[true,false,false,false,false,false,false,false,false,false,false,false,false] rfl rfl (any_of HT_.out zK) (fun _ _ _ h=>h) (Or.inl ⟨by rfl,?_⟩) ?_ ?_
          rotate_left
          ·intro w'
           go_simp
           with_reducible rfl
          rotate_left
          ·simp only [Act.put,zi,zs,zt,i64_w,i32_w]
           rfl
          refine pure_ (i:=1) (N:=some 25) (v:=?_) (a':=?_) #[true,true,false,false,false,false,false,false,false,false,false,false,false] rfl rfl (any_of HT_.out zK) (fun _ _ _ h=>h) (Or.inl ⟨by rfl,?_⟩) ?_ ?_
          rotate_left
          ·intro w'
           go_simp
           with_reducible rfl
          rotate_left
          ·simp only [Act.put,zi,zs,zt,i64_w,i32_w]
           rfl
          refine pure_ (i:=2) (N:=some 26) (v:=?_) (a':=?_) #[true,true,true,false,false,false,false,false,false,false,false,false,false] rfl rfl (any_of HT_.out zK) (fun _ _ _ h=>h) (Or.inl ⟨by rfl,?_⟩) ?_ ?_
          rotate_left
          ·intro w'
           go_simp
           with_reducible rfl
          rotate_left
          ·simp only [Act.put,zi,zs,zt,i64_w,i32_w]
           rfl
          refine pure_ (i:=4) (N:=some 28) (v:=?_) (a':=?_) #[true,true,true,false,true,false,false,false,false,false,false,false,false] rfl rfl (any_of HT_.out zK) (fun _ _ _ h=>h) (Or.inl ⟨by rfl,?_⟩) ?_ ?_
          rotate_left
          ·intro w'
           go_simp
           with_reducible rfl
          rotate_left
          ·simp only [Act.put,zi,zs,zt,i64_w,i32_w]
           rfl
          refine pure_ (i:=6) (N:=some 30) (v:=?_) (a':=?_) #[true,true,true,false,true,false,true,false,false,false,false,false,false] rfl rfl (any_of HT_.out zK) (fun _ _ _ h=>h) (Or.inl ⟨by rfl,?_⟩) ?_ ?_
          rotate_left
          ·intro w'
           go_simp
           with_reducible rfl
          rotate_left
          ·simp only [Act.put,zi,zs,zt,i64_w,i32_w]
           rfl
          refine take_ (i:=3) (N:=some 27) (v:=?_) (a':=?_) #[true,true,true,true,true,false,true,false,false,false,false,false,false] rfl rfl (take_ofW HT_.out HW_.out zK) (fun _ _ _ h=>h) (Or.inl ⟨by rfl,?_⟩) hHeld ?_ ?_
          rotate_left
          ·rintro w' ⟨s0,s1,s2⟩
           go_simp
           with_reducible rfl
          rotate_left
          ·simp only [Act.put,zi,zs,zt,i64_w,i32_w]
           rfl
          refine take_ (i:=5) (N:=some 29) (v:=?_) (a':=?_) #[true,true,true,true,true,true,true,false,false,false,false,false,false] rfl rfl (take_ofW HT_.out HW_.out zK) (fun _ _ _ h=>h) (Or.inl ⟨by rfl,?_⟩) hHeld ?_ ?_
          rotate_left
          ·rintro w' ⟨s0,s1,s2⟩
           go_simp
           with_reducible rfl
          rotate_left
          ·simp only [Act.put,zi,zs,zt,i64_w,i32_w]
           rfl
          refine pure_ (i:=7) (N:=some 31) (v:=?_) (a':=?_) #[true,true,true,true,true,true,true,true,false,false,false,false,false] rfl rfl (any_of HT_.out zK) (fun _ _ _ h=>h) (Or.inl ⟨by rfl,?_⟩) ?_ ?_
          rotate_left
          ·intro w'
           go_simp
           with_reducible rfl
          rotate_left
          ·simp only [Act.put,zi,zs,zt,i64_w,i32_w]
           rfl
          refine take_ (i:=8) (N:=some 32) (v:=?_) (a':=?_) #[true,true,true,true,true,true,true,true,true,false,false,false,false] rfl rfl (take_ofW HT_.out HW_.out zK) (fun _ _ _ h=>h) (Or.inl ⟨by rfl,?_⟩) hHeld ?_ ?_
          rotate_left
          ·rintro w' ⟨s0,s1,s2⟩
           go_simp
           with_reducible rfl
          rotate_left
          ·simp only [Act.put,zi,zs,zt,i64_w,i32_w]
           rfl
          refine one_ (i:=9) (N:=some 33) #[true,true,true,true,true,true,true,true,true,true,false,false,false] rfl rfl (one_of HT_.out zK) (by decide) (fun K hK=>?_)
          refine goes_ Try.func39 zK rfl #[.slice A0_0 l0_0.length c0_0,.int .i64 (rd l0_1 x7_1)] (by rfl) rfl rfl zM ?_
          with_reducible refine (ancepsref38_Assignment.calls k1 _ _ l0_0 (rd l0_1 x7_1) t475 _ ?side1 ?side2 A21.out).mono ?_
          (case side1=>exact zC (Kd.C_below HR0_0.out HB.out))
          (case side2=>exact HC0_0.out)
          rintro e w' ⟨rfl,⟨nd,rfl⟩⟩
          refine ⟨_,rfl,?_⟩
          refine hK.out _ _ ⟨(blk_cell BK462.out 0).trans rfl,(blk_cell BK462.out 1).trans rfl,((HB.out.cell (World.block_lt_of_cell? w _ hw474_0)).trans hw474_0)⟩ (fun hHeld=>?_)
          clear hK K
          refine norm_ (a':=?_) ?_ ?_
          rotate_left
          ·show Act.put _ (some 33) _=_
           simp only [Act.put,zi,zs,zt,i64_w,i32_w]
           rfl
          refine one_ (i:=10) (N:=some 34) #[true,true,true,true,true,true,true,true,true,true,true,false,false] rfl rfl (one_of HT_.out zK) (by decide) (fun K hK=>?_)
          refine goes_ Try.func56 zK rfl #[.slice A1 l1.length c1,.int .i64 t475] (by rfl) rfl rfl zM ?_
          with_reducible refine (ancepsref38_Row.calls k1 _ _ l1 t475 t476 _ ?side1 ?side2 A22.out).mono ?_
          (case side1=>repeat (first|exact (Kd.C_below HR1.out zB)|(with_reducible refine Kd.C_alloc ?_ _)|(with_reducible refine Kd.C_drewN ?_ _)|(with_reducible refine Kd.C_drew ?_)))
          (case side2=>exact HC1.out)
          rintro e w' ⟨rfl,⟨nd,rfl⟩⟩
          refine ⟨_,rfl,?_⟩
          have p25:0≤(t476:Int):=of_decide_eq_true zh
          have q25:(t476:Int)<((x6_1.length:Int):Int):=of_decide_eq_true zh
          obtain ⟨go25,co25,eo25,gb25,gl25,cl25,HG25⟩:=Kd.R_form HO_6.out (by omega)
          (first|cases eo25|(injection eo25 with ea_ en_ ec_;(first|subst ea_|(injection ea_ with ea_;subst ea_));subst ec_;clear en_))
          have GB25:=zA gb25
          have GG25:=zA HG25
          clear gb25 gl25 HG25
          obtain ⟨hx25_0,hf25_0⟩:=Kd.R_celln false HO_6.out (t476:Int) p25 q25
          replace p25:=eq_true p25
          replace q25:=eq_true q25
          have HP30:=Kd.R_putn HO_6.out (t476:Int) true
          rw [← Ny477.out] at HP30
          have HQ30:=zA HP30
          clear HP30
          refine hK.out _ _ ⟨(blk_cell BK462.out 0).trans rfl,(blk_cell BK462.out 1).trans rfl,((HB.out.cell (World.block_lt_of_cell? w _ hw474_0)).trans hw474_0)⟩ (fun hHeld=>?_)
          clear hK K
          refine norm_ (a':=?_) ?_ ?_
          rotate_left
          ·show Act.put _ (some 34) _=_
           simp only [Act.put,zi,zs,zt,i64_w,i32_w]
           rfl
          refine pure_ (i:=11) (N:=some 35) (v:=?_) (a':=?_) #[true,true,true,true,true,true,true,true,true,true,true,true,false] rfl rfl (any_of HT_.out zK) (fun _ _ _ h=>h) (Or.inl ⟨by rfl,?_⟩) ?_ ?_
          rotate_left
          ·intro w'
           go_simp
           with_reducible rfl
          rotate_left
          ·simp only [Act.put,zi,zs,zt,i64_w,i32_w]
           rfl
          refine last_ (i:=12) (N:=none) #[true,true,true,true,true,true,true,true,true,true,true,true,true] rfl rfl (one_of HT_.out zK) (by decide) (fun K hK=>?_)
          refine skip_ (w1:=?_) (by rfl) rfl ?_ ?_
          rotate_left
          ·go_simp
           rfl
          refine hK.out _ _ ?_
          clear hK K
          refine done_ (done_of HT_.out zK) ?_
          try go_wp2
          go_roundg k1
          case measure=>have:=HK1.out;omega
          case rel=>exact ⟨(y477),(wrap64 (x7_1+1)),zT,H',⟨by have:=HK1.out;omega⟩,⟨by refine zr ?_;exact HQ30.out⟩,⟨by refine zr ?_;exact Kd.R_mono (Kd.R_far (p:=⟨go25,(t476:Int).toNat,none⟩) (Kd.R_types HO_471000.out GG25.out (by decide)) (fun _ hk=>hk.2) (.bool true)) (fun _ hk=>trivial)⟩,⟨by refine zj ?_;refine blk_far ?_ (by have h_:=Kd.R_ne HO_6.out BK462.out (by decide);intro e_;exact h_ (by rw [e_];rfl)) _;refine zj ?_;exact BK462.out⟩,⟨by refine zj ?_;refine blk_far ?_ (by have h_:=Kd.R_ne HO_6.out BK463.out (by decide);intro e_;exact h_ (by rw [e_];rfl)) _;refine zj ?_;exact BK463.out⟩,⟨by refine zj ?_;refine blk_far ?_ (by have h_:=Kd.R_ne HO_6.out BK470.out (by decide);intro e_;exact h_ (by rw [e_];rfl)) _;refine zj ?_;exact BK470.out⟩,⟨by repeat (first|(with_reducible first|exact HB.out|apply below_alloc|apply pw_below_drewN|apply below_drew1|refine below_set ?_ GB25.out|refine below_set ?_ GE462.out|refine below_set ?_ GE463.out|refine below_set ?_ GE470.out)|exact HB.out)⟩⟩
         ·rw [if_neg c24] at H
          exact absurd H (by simp)
        ·rw [if_neg c23] at H
         exact absurd H (by simp)
       ·rw [if_neg c20] at H
        exact absurd H (by simp)
      ·rw [if_neg c19] at H
       have c19b0:decide (x7_1<(l0_1.length:Int))=false:=decide_eq_false c19
       clear c19
       have H':=zA H
       clear H
       have hnb31:=NB462_463.out
       have hnc31:=NB463_462.out
       have hnb32:=NB462_470.out
       have hnc32:=NB470_462.out
       have hcz33_0:wr.cell? ⟨gb462,0,none⟩=some (.slice A0_0 l0_0.length c0_0):=(blk_cell BK462.out 0).trans rfl
       have hcz33_1:wr.cell? ⟨gb462,1,none⟩=some (.slice A0_1 l0_1.length c0_1):=(blk_cell BK462.out 1).trans rfl
       have hfz33_0:=blk_frozen BK462.out 0
       have hfz33_1:=blk_frozen BK462.out 1
       go_wp2
       go_loopg [8] k1 (fun kq v8 w'=>∃ (x8_2:Int) (x471001_2:List Int) (u471001:Value),v8=.int .i64 x8_2∧Aside0 (ancepsref38_projected.l1 kq x6_1 x8_2 y467 x471001_2=some (r1,r2))∧Aside0 (kq≤k1)∧Aside0 (Kd.R Kd.bool 4 w' w.heap.size (fun _=>True) v472 x6_1)∧Aside0 (Kd.R (Kd.int .i64) 3 w' w.heap.size (fun k_=>some k_≠(u471001:Value).ownBlock) (.slice Ao12 y467.length co12) y467)∧Aside0 (Kd.R (Kd.int .i64) 3 w' w.heap.size (fun k_=>some k_≠((.slice Ao12 y467.length co12):Value).ownBlock) u471001 x471001_2)∧Aside0 (w'.heap[gb462]?=some (.cells #[(.slice A0_0 l0_0.length c0_0),(.slice A0_1 l0_1.length c0_1)] 29 (0,0)))∧Aside0 (w'.heap[gb463]?=some (.cells #[(.slice none 0 0),(.slice none 0 0)] 29 (0,0)))∧Aside0 (w'.heap[gb470]?=some (.cells #[(.slice Ao12 y467.length co12),u471001] 29 (0,0)))∧Aside0 (Below w.heap.size w w'))
       case atStart=>exact ⟨(0),(([]:List Int)),(.slice none 0 0),zT,H',⟨Nat.le_refl _⟩,⟨by refine zr ?_;exact HO_6.out⟩,⟨by refine zr ?_;exact Kd.R_mono HO_471000.out (fun _ hk=>(by simp [Value.ownBlock]))⟩,⟨by first|exact Kd.R_nil _ _ _ _ _|exact Kd.N_nil _ _ _ _ _|exact Kd.V_nil _ _ _ _ _|exact Kd.Q_nil _ _ _ _ _|exact Kd.S_nil _ _ _ _ _⟩,⟨by refine zj ?_;exact BK462.out⟩,⟨by refine zj ?_;exact BK463.out⟩,⟨by refine zj ?_;exact BK470.out⟩,⟨by repeat (first|(with_reducible first|exact HB.out|apply below_alloc|apply pw_below_drewN|apply below_drew1|refine below_set ?_ GE462.out|refine below_set ?_ GE463.out|refine below_set ?_ GE470.out)|exact HB.out)⟩⟩
       case round=>
        clear H'
        try clear c3
        try clear c5
        try clear c5b0
        try clear c5b1
        try clear c6
        try clear c6b0
        try clear c6b1
        try clear c19
        try clear c19b0
        try clear hcz16_0
        try clear hcz16_1
        try clear hcz33_0
        try clear hcz33_1
        try clear hfz16_0
        try clear hfz16_1
        try clear hfz33_0
        try clear hfz33_1
        obtain ⟨x8_2,x471001_2,u471001,rfl,HA,HK2,HO_6,HO_471000,HO_471001,BK462,BK463,BK470,HB⟩:=hrel
        cases gk with
        | zero=>exact absurd HA.out (by simp [ancepsref38_projected.l1])
        | succ k2=>
         have H:=HA.out
         clear HA
         simp only [ancepsref38_projected.l1] at H
         by_cases c34:x8_2<(x6_1.length:Int)
         ·rw [if_pos c34] at H
          have c34b0:decide (x8_2<(x6_1.length:Int))=true:=decide_eq_true c34
          clear c34
          by_cases c35:0≤x8_2
          ·rw [if_pos c35] at H
           have c35b0:decide (0≤x8_2)=true:=decide_eq_true c35
           clear c35
           obtain ⟨bq36,hbq36⟩:∃ b_:Bool,b_=(rdOf false x6_1 x8_2):=⟨_,rfl⟩
           replace H:(if bq36=true then (if x471001_2.length<17592186044416 then (ancepsref38_projected.l1 k2 x6_1 (wrap64 (x8_2+1)) y467 (x471001_2++[x8_2])) else (none)) else (ancepsref38_projected.l1 k2 x6_1 (wrap64 (x8_2+1)) y467 x471001_2))=some (r1,r2):=by rw [← hbq36] at H;exact H
           have Nbq36:=zA hbq36
           clear hbq36
           by_cases c37:bq36=true
           ·subst c37
            have H1:(if x471001_2.length<17592186044416 then (ancepsref38_projected.l1 k2 x6_1 (wrap64 (x8_2+1)) y467 (x471001_2++[x8_2])) else (none))=some (r1,r2):=by rw [if_pos rfl] at H;exact H
            clear H
            have H:=H1
            clear H1
            by_cases c38:x471001_2.length<17592186044416
            ·rw [if_pos c38] at H
             have LMc38:=zA c38
             clear c38
             obtain ⟨y479,hy479⟩:∃ y_:List Int,y_=(x471001_2++[x8_2]):=⟨_,rfl⟩
             replace H:(ancepsref38_projected.l1 k2 x6_1 (wrap64 (x8_2+1)) y467 y479)=some (r1,r2):=by first|(rw [hy479];with_reducible exact H)|(have H2_:=(Option.bind_some _ _).symm.trans H;rw [hy479];with_reducible exact H2_)|(have H2_:=(Option.bind_some _ _).symm.trans H;with_reducible exact H2_)|with_reducible exact H|(rw [hy479];exact H)|exact H
             have Ny479:=zA hy479
             clear hy479
             have H':=zA H
             clear H
             obtain ⟨Ao39,co39,eo39⟩:=Kd.R_slice HO_6.out
             subst eo39
             have p478:0≤(x8_2:Int):=of_decide_eq_true zh
             have q478:x8_2<(x6_1.length:Int):=of_decide_eq_true zh
             obtain ⟨ad478,e478,hx478_0⟩:=Kd.at_bool (Kd.R_reads' HO_6.out).2.2 x8_2 p478 q478
             (try rw [← Nbq36.out] at hx478_0)
             cases e478
             replace p478:=eq_true p478
             replace q478:=eq_true q478
             have hnb40:=NB470_462.out
             have hnc40:=NB462_470.out
             have hnb41:=NB470_463.out
             have hnc41:=NB463_470.out
             have hcz42_0:wr.cell? ⟨gb470,0,none⟩=some (.slice Ao12 y467.length co12):=(blk_cell BK470.out 0).trans rfl
             have hcz42_1:wr.cell? ⟨gb470,1,none⟩=some (u471001):=(blk_cell BK470.out 1).trans rfl
             have hfz42_0:=blk_frozen BK470.out 0
             have hfz42_1:=blk_frozen BK470.out 1
             go_wp2_with (first|((with_reducible refine gate_builtin (b:=.append) (xs:=#[.tmp 47,.tmp 49]) rfl ?_);at_builtin;refine Kd.R_append (Kd.int .i64) (w0:=w) w.heap.size rfl (.tmp 47) (.tmp 49) 27 3 (.int .i64 0) 8 rfl Try.underlying27 info3 rfl (by decide) (by omega) u471001 x471001_2 x8_2 [.int .i64 x8_2] (fun k_=>some k_≠(.slice Ao12 y467.length co12:Value).ownBlock) (fun _=>False) rfl rfl ?aP (fun _ hk=>hk.elim) ?aF ?aO ?aB ?aS ?aL ?_;(case aP=>exact rfl);(case aB=>exact zB);(case aF=>exact (fun k_ hk=>Kd.fresh' (Kd.R_lt (zR HO_471000)) k_ hk));(case aO=>exact (zR HO_471001));(case aS=>exact (below_size zB));(case aL=>have:=LMc38.out;omega);intro v480 w43 ho hb hg hat;rw [← Ny479.out] at ho;have HO481:=zA (ho);replace HO_6:=zA (Kd.R_over' (zR HO_6) (Kd.R_typed (zR HO_471001)) (by decide) hg);replace HO_471000:=zA (Kd.R_after (ok:=(fun _=>True)) (by refine zr ?_;exact Kd.R_mono HO_471000.out (fun _ hk=>⟨trivial,hk⟩)) hg hat);replace BK462:=zA (blk_grown (g:=gb462) (o:=.cells #[.slice A0_0 l0_0.length c0_0,.slice A0_1 l0_1.length c0_1] 29 (0,0)) (zk BK462) hg (Kd.R_ne HO_471001.out BK462.out (by decide)));replace BK463:=zA (blk_grown (g:=gb463) (o:=.cells #[.slice none 0 0,.slice none 0 0] 29 (0,0)) (zk BK463) hg (Kd.R_ne HO_471001.out BK463.out (by decide)));replace BK470:=zA (blk_grown (g:=gb470) (o:=.cells #[.slice Ao12 y467.length co12,u471001] 29 (0,0)) (zk BK470) hg (Kd.R_ne HO_471001.out BK470.out (by decide)));replace HB:=zA (hb);clear HO_471001;clear ho hb hg hat;obtain ⟨Ao44,co44,eo44⟩:=Kd.R_slice HO481.out;subst eo44;have hcz45_0:w43.cell? ⟨gb470,0,none⟩=some (.slice Ao12 y467.length co12):=(blk_cell BK470.out 0).trans rfl;have hcz45_1:w43.cell? ⟨gb470,1,none⟩=some (u471001):=(blk_cell BK470.out 1).trans rfl;have hfz45_0:=blk_frozen BK470.out 0;have hfz45_1:=blk_frozen BK470.out 1))
             go_roundg k2
             case measure=>have:=HK1.out;have:=HK2.out;omega
             case rel=>exact ⟨(wrap64 (x8_2+1)),(y479),(.slice Ao44 y479.length co44),zT,H',⟨by have:=HK1.out;have:=HK2.out;omega⟩,⟨by refine zr ?_;exact Kd.R_mono (Kd.R_far (p:=⟨gb470,1,none⟩) (Kd.R_types HO_6.out BK470.out (by decide)) (fun _ hk=>hk.2) (.slice Ao44 y479.length co44)) (fun _ hk=>trivial)⟩,⟨by refine zr ?_;exact Kd.R_mono (Kd.R_far (p:=⟨gb470,1,none⟩) (Kd.R_types HO_471000.out BK470.out (by decide)) (fun _ hk=>hk.2) (.slice Ao44 y479.length co44)) (fun _ hk=>hk.1.2)⟩,⟨by refine zr ?_;exact Kd.R_mono (Kd.R_far (p:=⟨gb470,1,none⟩) (Kd.R_types HO481.out BK470.out (by decide)) (fun _ hk=>hk.2) (.slice Ao44 y479.length co44)) (fun _ hk=>hk.1)⟩,⟨by refine zj ?_;refine blk_far ?_ NB462_470.out _;refine zj ?_;exact BK462.out⟩,⟨by refine zj ?_;refine blk_far ?_ NB463_470.out _;refine zj ?_;exact BK463.out⟩,⟨by refine zj ?_;refine blk_put (cs:=#[.slice Ao12 y467.length co12,u471001]) ?_ 1 _ rfl;refine zj ?_;exact BK470.out⟩,⟨by repeat (first|(with_reducible first|exact HB.out|apply below_alloc|apply pw_below_drewN|apply below_drew1|refine below_set ?_ GE462.out|refine below_set ?_ GE463.out|refine below_set ?_ GE470.out)|exact HB.out)⟩⟩
            ·rw [if_neg c38] at H
             exact absurd H (by simp)
           ·replace c37:=Bool.eq_false_iff.mpr c37
            subst c37
            have H1:(ancepsref38_projected.l1 k2 x6_1 (wrap64 (x8_2+1)) y467 x471001_2)=some (r1,r2):=by rw [if_neg (show ¬ (false=true) by decide)] at H;exact H
            clear H
            have H:=H1
            clear H1
            have H':=zA H
            clear H
            obtain ⟨Ao46,co46,eo46⟩:=Kd.R_slice HO_6.out
            subst eo46
            have p478:0≤(x8_2:Int):=of_decide_eq_true zh
            have q478:x8_2<(x6_1.length:Int):=of_decide_eq_true zh
            obtain ⟨ad478,e478,hx478_0⟩:=Kd.at_bool (Kd.R_reads' HO_6.out).2.2 x8_2 p478 q478
            (try rw [← Nbq36.out] at hx478_0)
            cases e478
            replace p478:=eq_true p478
            replace q478:=eq_true q478
            go_wp2
            go_roundg k2
            case measure=>have:=HK1.out;have:=HK2.out;omega
            case rel=>exact ⟨(wrap64 (x8_2+1)),(x471001_2),(u471001),zT,H',⟨by have:=HK1.out;have:=HK2.out;omega⟩,⟨by refine zr ?_;exact HO_6.out⟩,⟨by refine zr ?_;exact HO_471000.out⟩,⟨by refine zr ?_;exact HO_471001.out⟩,⟨by refine zj ?_;exact BK462.out⟩,⟨by refine zj ?_;exact BK463.out⟩,⟨by refine zj ?_;exact BK470.out⟩,⟨by repeat (first|(with_reducible first|exact HB.out|apply below_alloc|apply pw_below_drewN|apply below_drew1|refine below_set ?_ GE462.out|refine below_set ?_ GE463.out|refine below_set ?_ GE470.out)|exact HB.out)⟩⟩
          ·rw [if_neg c35] at H
           exact absurd H (by simp)
         ·rw [if_neg c34] at H
          have c34b0:decide (x8_2<(x6_1.length:Int))=false:=decide_eq_false c34
          clear c34
          simp only [Option.some.injEq,Prod.mk.injEq] at H
          obtain ⟨rfl,rfl⟩:=H
          obtain ⟨Ao47,co47,eo47⟩:=Kd.R_slice HO_6.out
          subst eo47
          have hnb48:=NB470_462.out
          have hnc48:=NB462_470.out
          have hnb49:=NB470_463.out
          have hnc49:=NB463_470.out
          have hcz50_0:wr.cell? ⟨gb470,0,none⟩=some (.slice Ao12 y467.length co12):=(blk_cell BK470.out 0).trans rfl
          have hcz50_1:wr.cell? ⟨gb470,1,none⟩=some (u471001):=(blk_cell BK470.out 1).trans rfl
          have hfz50_0:=blk_frozen BK470.out 0
          have hfz50_1:=blk_frozen BK470.out 1
          have hnb51:=NB463_462.out
          have hnc51:=NB462_463.out
          have hcz52_0:wr.cell? ⟨gb463,0,none⟩=some (.slice none 0 0):=(blk_cell BK463.out 0).trans rfl
          have hcz52_1:wr.cell? ⟨gb463,1,none⟩=some (.slice none 0 0):=(blk_cell BK463.out 1).trans rfl
          have hfz52_0:=blk_frozen BK463.out 0
          have hfz52_1:=blk_frozen BK463.out 1
          obtain ⟨Ao53,co53,eo53⟩:=Kd.R_slice HO_471001.out
          subst eo53
          go_wp2
          refine bodyPost_ret (results_cell_row rfl _ _ gb463 29 #[.slice Ao12 y467.length co12,.slice Ao53 x471001_2.length co53] (0,0) _ rfl (by refine zj ?_;refine blk_put (cs:=#[.slice Ao12 y467.length co12,.slice none 0 0]) ?_ 1 _ rfl;refine zj ?_;refine blk_put (cs:=#[.slice none 0 0,.slice none 0 0]) ?_ 0 _ rfl;refine zj ?_;exact BK463.out) Try.underlying29 rfl zK) rfl ?_
          exact ⟨_,_,by first|rfl|(simp [errW_none,errW_some] <;> rfl)|(simp only [← hji4];first|rfl|(simp [errW_none,errW_some] <;> rfl))|(simp [*,errW_none,errW_some] <;> rfl),by refine zr ?_;exact Kd.R_mono (Kd.R_far (p:=⟨gb463,1,none⟩) (Kd.R_far (p:=⟨gb463,0,none⟩) (Kd.R_types HO_471000.out BK463.out (by decide)) (fun _ hk=>hk.2) (.slice Ao12 y467.length co12)) (fun _ hk=>hk.2) (.slice Ao53 x471001_2.length co53)) (fun _ hk=>hk.1),by refine zr ?_;exact Kd.R_mono (Kd.R_far (p:=⟨gb463,1,none⟩) (Kd.R_far (p:=⟨gb463,0,none⟩) (Kd.R_types HO_471001.out BK463.out (by decide)) (fun _ hk=>hk.2) (.slice Ao12 y467.length co12)) (fun _ hk=>hk.2) (.slice Ao53 x471001_2.length co53)) (fun _ hk=>hk.1),by repeat (first|(with_reducible first|exact HB.out|apply below_alloc|apply pw_below_drewN|apply below_drew1|refine below_set ?_ GE462.out|refine below_set ?_ GE463.out|refine below_set ?_ GE470.out)|exact HB.out)⟩
   ·rw [if_neg c6] at H
    exact absurd H (by simp)
  ·rw [if_neg c5] at H
   exact absurd H (by simp)
 ·rw [if_neg c3] at H
  exact absurd H (by simp)
end Go.Proofs.Ythcfmdkhkikbcaa.T
