import Derived.Test.YthcfmdkhkikbcaaT0
import Derived.Test.YthcfmdkhkikbcaaT9
import Derived.Test.YthcfmdkhkikbcaaT10
namespace Go.Proofs.Ythcfmdkhkikbcaa.T
open Go.RowKit Go.Proofs.YthcfmdkhkikbcaaW.PrintWords Go.Proofs.YthcfmdkhkikbcaaW.PrintLast Go.Proofs.YthcfmdkhkikbcaaW.PrintMore
attribute [local go_sem] max2_int min2_int max_two min_two max_three min_three max_four min_four
set_option linter.unusedVariables false
set_option linter.unusedSimpArgs false
def ancepsref38_Matters.l0:Nat→Int→Int→List Int→List Int→Option (Bool)
 | 0,_,_,_,_=>none
 | k+1,x1,x5,x459000,x459001=>if x5<(shl .i64 1 (x459000.length:Int)) then ((ancepsref38_Assignment.f k x459000 x5).bind fun t459=>((ancepsref38_Holds.f k x459000 x459001 t459).bind fun t460=>(if 0≤x1 then ((ancepsref38_Holds.f k x459000 x459001 (Go.bits .xor .i64 t459 (shl .i64 1 x1))).bind fun t461=>(if (t460 != t461)=true then (some true) else (ancepsref38_Matters.l0 k x1 (wrap64 (x5+1)) x459000 x459001))) else (none)))) else (some false)
def ancepsref38_Matters.f (k:Nat) (l0_0:List Int) (l0_1:List Int) (a1:Int):Option (Bool):=ancepsref38_Matters.l0 k a1 0 l0_0 l0_1
theorem ancepsref38_Matters.mono_l:∀ k,(∀ y0 y1 y2 y3,LeO (ancepsref38_Matters.l0 k y0 y1 y2 y3) (ancepsref38_Matters.l0 (k+1) y0 y1 y2 y3))
 | 0=>fun _ _ _ _ r h=>by simp [ancepsref38_Matters.l0] at h
 | k+1=>by
  have ih0:=ancepsref38_Matters.mono_l k
  ·intro y0 y1 y2 y3
   unfold ancepsref38_Matters.l0
   repeat' first
   | (with_reducible exact ih0 _ _ _ _)
   | (with_reducible exact ancepsref38_Assignment.mono _ _ _)
   | (with_reducible exact ancepsref38_Holds.mono _ _ _ _)
   | (with_reducible exact LeO.refl _)
   | (with_reducible exact LeO.none _)
   | (with_reducible refine LeO.ite ?_ ?_)
   | (with_reducible refine LeO.bind ?_ (fun _=>?_))
   | exact LeO.none _
   | refine LeO.ite ?_ ?_
   | refine LeO.bind ?_ (fun _=>?_)
theorem ancepsref38_Matters.mono:∀ a0 a1 a2 k,LeO (ancepsref38_Matters.f k a0 a1 a2) (ancepsref38_Matters.f (k+1) a0 a1 a2):=by
 intro a0 a1 a2 k
 have ih0:=ancepsref38_Matters.mono_l k
 unfold ancepsref38_Matters.f
 repeat' first
   | (with_reducible exact ih0 _ _ _ _)
   | (with_reducible exact ancepsref38_Assignment.mono _ _ _)
   | (with_reducible exact ancepsref38_Holds.mono _ _ _ _)
   | (with_reducible exact LeO.refl _)
   | (with_reducible exact LeO.none _)
   | (with_reducible refine LeO.ite ?_ ?_)
   | (with_reducible refine LeO.bind ?_ (fun _=>?_))
   | exact LeO.none _
   | refine LeO.ite ?_ ?_
   | refine LeO.bind ?_ (fun _=>?_)
def ancepsref38_Matters.T5:Bool×List (List Nat×List Nat):=(true,[([],[]),([],[]),([0,1],[0,1]),([],[]),([],[]),([],[]),([5],[5]),([4,6],[4,6]),([3,7,2],[3,7]),([2,8],[2,8])])
def ancepsref38_Matters.B5:List Nat:=[0,0,3,0,0,0,32,112,255,511]
theorem ancepsref38_Matters.tab5:rtab .any (opsOf Try.f37 5)=ancepsref38_Matters.T5:=by kernel_rfl
theorem ancepsref38_Matters.bits5:waitsOk ancepsref38_Matters.T5.2 ancepsref38_Matters.B5=true:=by kernel_rfl
set_option maxHeartbeats 8000000 in
set_option maxRecDepth 100000 in
theorem ancepsref38_Matters.calls (k:Nat) (A0_0:Option Addr) (c0_0:Nat) (l0_0:List Int) (A0_1:Option Addr) (c0_1:Nat) (l0_1:List Int) (a1:Int) (r:Bool) (w:World) (hr0_0:Kd.C (Kd.int .i64) w A0_0 l0_0.length l0_0) (hc0_0:l0_0.length≤c0_0) (hr0_1:Kd.C (Kd.int .i64) w A0_1 l0_1.length l0_1) (hc0_1:l0_1.length≤c0_1) (h:ancepsref38_Matters.f k l0_0 l0_1 a1=some r) :
  Calls Try.prog 37 #[.agg #[.slice A0_0 l0_0.length c0_0,.slice A0_1 l0_1.length c0_1],.int .i64 a1] w fun e w'=>e=.returned (.bool r)∧Below w.heap.size w w':=by
 have hu29:=Try.underlying29
 have hu27:=Try.underlying27
 have HR0_0:=zA hr0_0
 have HC0_0:=zA hc0_0
 clear hr0_0 hc0_0
 have HR0_1:=zA hr0_1
 have HC0_1:=zA hc0_1
 clear hr0_1 hc0_1
 have HB:=zA (Below.refl w.heap.size w)
 have H:(ancepsref38_Matters.l0 k a1 0 l0_0 l0_1)=some r:=h
 clear h
 have H':=zA H
 clear H
 go_enter Try.func37,Try.ntmps37
 go_wp2_with (first|((with_reducible refine gate_dst (N:=2) rfl ?_);refine box_event ?hg (N:=2) ?hd (cs:=#[.slice A0_0 l0_0.length c0_0,.slice A0_1 l0_1.length c0_1]) (t:=29) ?hr ?_;(case hd=>rfl);(case hg=>rfl);(case hr=>first|(go_simp;done)|(go_simp;rfl));intro gb458 hg w3 hbox hb;have BK458:=zA (hbox);have GW458:=zA (zG hg (below_size zB):w.heap.size≤gb458);have GE458:=GW458;replace HB:=zA (below_step zB hb);clear hb hbox hg))
 go_loopg [5] k (fun kq v5 w'=>∃ (x5_1:Int),v5=.int .i64 x5_1∧Aside0 (ancepsref38_Matters.l0 kq a1 x5_1 l0_0 l0_1=some r)∧Aside0 (kq≤k)∧Aside0 (w'.heap[gb458]?=some (.cells #[(.slice A0_0 l0_0.length c0_0),(.slice A0_1 l0_1.length c0_1)] 29 (0,0)))∧Aside0 (Below w.heap.size w w'))
 case atStart=>exact ⟨(0),zT,H',⟨Nat.le_refl _⟩,⟨by refine zj ?_;exact BK458.out⟩,⟨by repeat (first|(with_reducible first|exact HB.out|apply below_alloc|apply pw_below_drewN|apply below_drew1|refine below_set ?_ GE458.out)|exact HB.out)⟩⟩
 case round=>
  clear H'
  obtain ⟨x5_1,rfl,HA,HK1,BK458,HB⟩:=hrel
  cases gk with
  | zero=>exact absurd HA.out (by simp [ancepsref38_Matters.l0])
  | succ k1=>
   have H:=HA.out
   clear HA
   simp only [ancepsref38_Matters.l0] at H
   obtain ⟨ji4,hji4⟩:∃ j_:Int,(shl .i64 1 (l0_0.length:Int))=j_:=⟨_,rfl⟩
   replace H:(if x5_1<(ji4) then ((ancepsref38_Assignment.f k1 l0_0 x5_1).bind fun t459=>((ancepsref38_Holds.f k1 l0_0 l0_1 t459).bind fun t460=>(if 0≤a1 then ((ancepsref38_Holds.f k1 l0_0 l0_1 (Go.bits .xor .i64 t459 (shl .i64 1 a1))).bind fun t461=>(if (t460 != t461)=true then (some true) else (ancepsref38_Matters.l0 k1 a1 (wrap64 (x5_1+1)) l0_0 l0_1))) else (none)))) else (some false))=some r:=by first|(rw [hji4] at H;exact H)|(simp only [hji4] at H ⊢;exact H)
   have hji4_:(IntKind.i64.wrap (1 * 2 ^ min (l0_0.length:Int).toNat 64))=ji4:=hji4
   have hji4z:(l0_0.length:Int)≤64→(IntKind.i64.wrap (1 * 2 ^ (l0_0.length:Int).toNat))=ji4:=shl_small hji4
   have hji4p:(IntKind.i64.wrap (1 * 2 ^ min l0_0.length 64))=ji4:=hji4_
   have hji4q:(l0_0.length:Int)≤64→(IntKind.i64.wrap (1 * 2 ^ l0_0.length))=ji4:=hji4z
   have hji4r:(IntKind.i64.wrap (2 ^ min l0_0.length 64))=ji4:=by have h_:=hji4p;rw [Int.one_mul] at h_;exact h_
   have hji4s:(l0_0.length:Int)≤64→(IntKind.i64.wrap (2 ^ l0_0.length))=ji4:=fun hle_=>by have h_:=hji4q hle_;rw [Int.one_mul] at h_;exact h_
   have hji4u:(IntKind.i64.wrap (2 ^ min (l0_0.length:Int).toNat 64))=ji4:=by have h_:=hji4_;rw [Int.one_mul] at h_;exact h_
   have hji4v:(l0_0.length:Int)≤64→(IntKind.i64.wrap (2 ^ (l0_0.length:Int).toNat))=ji4:=fun hle_=>by have h_:=hji4z hle_;rw [Int.one_mul] at h_;exact h_
   have hji4y:(wrap64 (1 * 2 ^ min (l0_0.length:Int).toNat 64))=ji4:=(i64_w _).symm.trans hji4_
   have hji4x:(l0_0.length:Int)≤64→(wrap64 (1 * 2 ^ (l0_0.length:Int).toNat))=ji4:=fun h_=>(i64_w _).symm.trans (hji4z h_)
   by_cases c5:x5_1<(ji4)
   ·rw [if_pos c5] at H
    have c5b0:decide (x5_1<(ji4))=true:=decide_eq_true c5
    clear c5
    replace H:=Option.bind_eq_some_iff.mp H
    obtain ⟨t459,A60,H⟩:=H
    replace H:((ancepsref38_Holds.f k1 l0_0 l0_1 t459).bind fun t460=>(if 0≤a1 then ((ancepsref38_Holds.f k1 l0_0 l0_1 (Go.bits .xor .i64 t459 (shl .i64 1 a1))).bind fun t461=>(if (t460 != t461)=true then (some true) else (ancepsref38_Matters.l0 k1 a1 (wrap64 (x5_1+1)) l0_0 l0_1))) else (none)))=some r:=H
    have A6:=zA A60
    clear A60
    replace H:=Option.bind_eq_some_iff.mp H
    obtain ⟨t460,A70,H⟩:=H
    replace H:(if 0≤a1 then ((ancepsref38_Holds.f k1 l0_0 l0_1 (Go.bits .xor .i64 t459 (shl .i64 1 a1))).bind fun t461=>(if (t460 != t461)=true then (some true) else (ancepsref38_Matters.l0 k1 a1 (wrap64 (x5_1+1)) l0_0 l0_1))) else (none))=some r:=H
    have A7:=zA A70
    clear A70
    by_cases c8:0≤a1
    ·rw [if_pos c8] at H
     have c8b0:=eq_true c8
     have c8b1:decide (0≤a1)=true:=decide_eq_true c8
     clear c8
     obtain ⟨ji9,hji9⟩:∃ j_:Int,(shl .i64 1 a1)=j_:=⟨_,rfl⟩
     replace H:((ancepsref38_Holds.f k1 l0_0 l0_1 (Go.bits .xor .i64 t459 (ji9))).bind fun t461=>(if (t460 != t461)=true then (some true) else (ancepsref38_Matters.l0 k1 a1 (wrap64 (x5_1+1)) l0_0 l0_1)))=some r:=by first|(rw [hji9] at H;exact H)|(simp only [hji9] at H ⊢;exact H)
     (try rw [hji9] at A6)
     (try rw [hji9] at A7)
     have hji9_:(IntKind.i64.wrap (1 * 2 ^ min a1.toNat 64))=ji9:=hji9
     have hji9z:a1≤64→(IntKind.i64.wrap (1 * 2 ^ a1.toNat))=ji9:=shl_small hji9
     have hji9u:(IntKind.i64.wrap (2 ^ min a1.toNat 64))=ji9:=by have h_:=hji9_;rw [Int.one_mul] at h_;exact h_
     have hji9v:a1≤64→(IntKind.i64.wrap (2 ^ a1.toNat))=ji9:=fun hle_=>by have h_:=hji9z hle_;rw [Int.one_mul] at h_;exact h_
     have hji9y:(wrap64 (1 * 2 ^ min a1.toNat 64))=ji9:=(i64_w _).symm.trans hji9_
     have hji9x:a1≤64→(wrap64 (1 * 2 ^ a1.toNat))=ji9:=fun h_=>(i64_w _).symm.trans (hji9z h_)
     replace H:=Option.bind_eq_some_iff.mp H
     obtain ⟨t461,A100,H⟩:=H
     replace H:(if (t460 != t461)=true then (some true) else (ancepsref38_Matters.l0 k1 a1 (wrap64 (x5_1+1)) l0_0 l0_1))=some r:=H
     have A10:=zA A100
     clear A100
     have HC11:=zA H
     clear H
     have hcz12_0:wr.cell? ⟨gb458,0,none⟩=some (.slice A0_0 l0_0.length c0_0):=(blk_cell BK458.out 0).trans rfl
     have hcz12_1:wr.cell? ⟨gb458,1,none⟩=some (.slice A0_1 l0_1.length c0_1):=(blk_cell BK458.out 1).trans rfl
     have hfz12_0:=blk_frozen BK458.out 0
     have hfz12_1:=blk_frozen BK458.out 1
     try go_wp2_with (first|((with_reducible refine gate_callee (f:=39) rfl ?_);refine goesL_ (some 18) rfl rfl Try.func39 zK rfl #[.slice A0_0 l0_0.length c0_0,.int .i64 x5_1] rfl zM ?_;(with_reducible refine (ancepsref38_Assignment.calls k1 _ _ l0_0 x5_1 t459 _ ?side1 ?side2 A6.out).mono ?_);(case side1=>exact zC (Kd.C_below HR0_0.out HB.out));(case side2=>exact HC0_0.out);rintro e w' ⟨rfl,⟨nd,rfl⟩⟩;refine ⟨_,rfl,?_⟩))
     (try (rw [drewN_self wr];generalize hq_:World.drewN wr _=wr;replace BK458:Aside0 (wr.heap[gb458]?=some (.cells #[.slice A0_0 l0_0.length c0_0,.slice A0_1 l0_1.length c0_1] 29 (0,0))):=⟨by rw [← hq_];exact (zk BK458)⟩;replace HB:Aside0 (Below w.heap.size w wr):=⟨by rw [← hq_];exact zB⟩;clear hq_))
     replace BK458:=zA (blk_drew BK458.out)
     replace HB:=zA (below_drew1 HB.out)
     refine start_ (n:=10) (S:=fun w'=>w'.cell? ⟨gb458,0,none⟩=some (.slice A0_0 l0_0.length c0_0)∧w'.cell? ⟨gb458,1,none⟩=some (.slice A0_1 l0_1.length c0_1)) (ds:=[]) #[false,false,false,false,false,false,false,false,false,false] zK rfl rfl ⟨(blk_cell BK458.out 0).trans rfl,(blk_cell BK458.out 1).trans rfl⟩ (fun hHeld=>?_);refine with_tabW ancepsref38_Matters.tab5 ancepsref38_Matters.bits5 (fun HT_ HW_=>?_)
     generalize wr.drew=w13 at BK458 HB hHeld ⊢
     refine pure_ (i:=1) (N:=some 20) (v:=?_) (a':=?_) #[false,true,false,false,false,false,false,false,false,false] rfl rfl (any_of HT_.out zK) (fun _ _ _ h=>h) (Or.inl ⟨by rfl,?_⟩) ?_ ?_
     rotate_left
     ·intro w'
      go_simp
      with_reducible rfl
     rotate_left
     ·simp only [Act.put,zi,zs,zt,i64_w,i32_w]
      rfl
     refine pure_ (i:=4) (N:=some 23) (v:=?_) (a':=?_) #[false,true,false,false,true,false,false,false,false,false] rfl rfl (any_of HT_.out zK) (fun _ _ _ h=>h) (Or.inl ⟨by rfl,?_⟩) ?_ ?_
     rotate_left
     ·intro w'
      go_simp
      with_reducible rfl
     rotate_left
     ·simp only [Act.put,zi,zs,zt,i64_w,i32_w]
      rfl
     refine pure_ (i:=5) (N:=some 24) (v:=?_) (a':=?_) #[false,true,false,false,true,true,false,false,false,false] rfl rfl (any_of HT_.out zK) (fun _ _ _ h=>h) (Or.inl ⟨by rfl,?_⟩) ?_ ?_
     rotate_left
     ·intro w'
      go_simp
      with_reducible rfl
     rotate_left
     ·simp only [Act.put,zi,zs,zt,i64_w,i32_w]
      rfl
     refine pure_ (i:=6) (N:=some 25) (v:=?_) (a':=?_) #[false,true,false,false,true,true,true,false,false,false] rfl rfl (any_of HT_.out zK) (fun _ _ _ h=>h) (Or.inl ⟨by rfl,?_⟩) ?_ ?_
     rotate_left
     ·intro w'
      go_simp
      with_reducible rfl
     rotate_left
     ·simp only [Act.put,zi,zs,zt,i64_w,i32_w]
      rfl
     refine pure_ (i:=7) (N:=some 26) (v:=?_) (a':=?_) #[false,true,false,false,true,true,true,true,false,false] rfl rfl (any_of HT_.out zK) (fun _ _ _ h=>h) (Or.inl ⟨by rfl,?_⟩) ?_ ?_
     rotate_left
     ·intro w'
      go_simp
      with_reducible rfl
     rotate_left
     ·simp only [Act.put,zi,zs,zt,i64_w,i32_w]
      rfl
     refine take_ (i:=0) (N:=some 19) (v:=?_) (a':=?_) #[true,true,false,false,true,true,true,true,false,false] rfl rfl (take_ofW HT_.out HW_.out zK) (fun _ _ _ h=>h) (Or.inl ⟨by rfl,?_⟩) hHeld ?_ ?_
     rotate_left
     ·rintro w' ⟨s0,s1⟩
      go_simp
      with_reducible rfl
     rotate_left
     ·simp only [Act.put,zi,zs,zt,i64_w,i32_w]
      rfl
     refine take_ (i:=3) (N:=some 22) (v:=?_) (a':=?_) #[true,true,false,true,true,true,true,true,false,false] rfl rfl (take_ofW HT_.out HW_.out zK) (fun _ _ _ h=>h) (Or.inl ⟨by rfl,?_⟩) hHeld ?_ ?_
     rotate_left
     ·rintro w' ⟨s0,s1⟩
      go_simp
      with_reducible rfl
     rotate_left
     ·simp only [Act.put,zi,zs,zt,i64_w,i32_w]
      rfl
     refine one_ (i:=2) (N:=some 21) #[true,true,true,true,true,true,true,true,false,false] rfl rfl (one_of HT_.out zK) (by decide) (fun K hK=>?_)
     refine goes_ Try.func29 zK rfl #[.agg #[.slice A0_0 l0_0.length c0_0,.slice A0_1 l0_1.length c0_1],.int .i64 t459] (by rfl) rfl rfl zM ?_
     with_reducible refine (ancepsref38_Holds.calls k1 _ _ l0_0 _ _ l0_1 t459 t460 _ ?side1 ?side2 ?side3 ?side4 A7.out).mono ?_
     (case side1=>exact zC (Kd.C_below HR0_0.out HB.out))
     (case side2=>exact HC0_0.out)
     (case side3=>exact zC (Kd.C_below HR0_1.out HB.out))
     (case side4=>exact HC0_1.out)
     rintro e w14 ⟨rfl,hb⟩
     refine ⟨_,rfl,?_⟩
     replace BK458:=zA (blk_below (zk BK458) hb)
     replace HB:=zA (below_step zB hb)
     (try clear hb)
     (try clear hb2)
     (try clear hk)
     (try clear hi)
     refine hK.out _ _ ⟨(blk_cell BK458.out 0).trans rfl,(blk_cell BK458.out 1).trans rfl⟩ (fun hHeld=>?_)
     clear hK K
     refine norm_ (a':=?_) ?_ ?_
     rotate_left
     ·show Act.put _ (some 21) _=_
      simp only [Act.put,zi,zs,zt,i64_w,i32_w]
      rfl
     refine one_ (i:=8) (N:=some 27) #[true,true,true,true,true,true,true,true,true,false] rfl rfl (one_of HT_.out zK) (by decide) (fun K hK=>?_)
     refine goes_ Try.func29 zK rfl #[.agg #[.slice A0_0 l0_0.length c0_0,.slice A0_1 l0_1.length c0_1],.int .i64 (Go.bits .xor .i64 t459 (ji9))] (by rfl) rfl rfl (by (try simp only [List.map_toArray,List.map_cons,List.map_nil]);first|done|(simp only [hji9];rfl)|rfl|(simp only [List.length_drop,List.length_take];rfl)) ?_
     with_reducible refine (ancepsref38_Holds.calls k1 _ _ l0_0 _ _ l0_1 (Go.bits .xor .i64 t459 (ji9)) t461 _ ?side1 ?side2 ?side3 ?side4 A10.out).mono ?_
     (case side1=>exact zC (Kd.C_below HR0_0.out HB.out))
     (case side2=>exact HC0_0.out)
     (case side3=>exact zC (Kd.C_below HR0_1.out HB.out))
     (case side4=>exact HC0_1.out)
     rintro e w15 ⟨rfl,hb⟩
     refine ⟨_,rfl,?_⟩
     replace BK458:=zA (blk_below (zk BK458) hb)
     replace HB:=zA (below_step zB hb)
     (try clear hb)
     (try clear hb2)
     (try clear hk)
     (try clear hi)
     refine hK.out _ _ ⟨(blk_cell BK458.out 0).trans rfl,(blk_cell BK458.out 1).trans rfl⟩ (fun hHeld=>?_)
     clear hK K
     refine norm_ (a':=?_) ?_ ?_
     rotate_left
     ·show Act.put _ (some 27) _=_
      simp only [Act.put,zi,zs,zt,i64_w,i32_w]
      rfl
     refine pure_ (i:=9) (N:=some 28) (v:=?_) (a':=?_) #[true,true,true,true,true,true,true,true,true,true] rfl rfl (any_of HT_.out zK) (fun _ _ _ h=>h) (Or.inl ⟨by rfl,?_⟩) ?_ ?_
     rotate_left
     ·intro w'
      go_simp
      with_reducible rfl
     rotate_left
     ·simp only [Act.put,zi,zs,zt,i64_w,i32_w]
      rfl
     refine done_ (done_of HT_.out zK) ?_
     go_upto_if 28 with (fail)
     (try simp only [Act.put,zi,zs,zt])
     have H:=HC11.out
     clear HC11
     by_cases c16:(t460 != t461)=true
     ·rw [if_pos c16] at H
      have c16b0:(t460 != t461)=true:=c16
      (try (have c16b1:decide (t460=t461)=false:=by simpa using c16))
      (try (have c16b2:(t460 == t461)=false:=by simpa using c16))
      (try (have c16b3:¬ (t460=t461):=by simpa using c16))
      clear c16
      (first|rw [c16b0]|(simp only [i64_w,i32_w];rw [c16b0])|skip)
      (try rw [c16b1])
      (try rw [c16b2])
      (try rw [c16b3])
      obtain rfl:=Option.some.inj H
      go_wp2
      go_ret
      exact ⟨by first|rfl|(simp [errW_none,errW_some] <;> rfl)|(simp only [← hji4,← hji9];first|rfl|(simp [errW_none,errW_some] <;> rfl))|(simp [*,errW_none,errW_some] <;> rfl),by repeat (first|(with_reducible first|exact HB.out|apply below_alloc|apply pw_below_drewN|apply below_drew1|refine below_set ?_ GE458.out)|exact HB.out)⟩
     ·rw [if_neg c16] at H
      have c16b0:(t460 != t461)=false:=by simpa using c16
      (try (have c16b1:decide (t460=t461)=true:=by simpa using c16))
      (try (have c16b2:(t460 == t461)=true:=by simpa using c16))
      clear c16
      (first|rw [c16b0]|(simp only [i64_w,i32_w];rw [c16b0])|skip)
      (try rw [c16b1])
      (try rw [c16b2])
      have H':=zA H
      clear H
      go_wp2
      go_roundg k1
      case measure=>have:=HK1.out;omega
      case rel=>exact ⟨(wrap64 (x5_1+1)),zT,H',⟨by have:=HK1.out;omega⟩,⟨by refine zj ?_;exact BK458.out⟩,⟨by repeat (first|(with_reducible first|exact HB.out|apply below_alloc|apply pw_below_drewN|apply below_drew1|refine below_set ?_ GE458.out)|exact HB.out)⟩⟩
    ·rw [if_neg c8] at H
     exact absurd H (by simp)
   ·rw [if_neg c5] at H
    have c5b0:decide (x5_1<(ji4))=false:=decide_eq_false c5
    clear c5
    obtain rfl:=Option.some.inj H
    have hcz17_0:wr.cell? ⟨gb458,0,none⟩=some (.slice A0_0 l0_0.length c0_0):=(blk_cell BK458.out 0).trans rfl
    have hcz17_1:wr.cell? ⟨gb458,1,none⟩=some (.slice A0_1 l0_1.length c0_1):=(blk_cell BK458.out 1).trans rfl
    have hfz17_0:=blk_frozen BK458.out 0
    have hfz17_1:=blk_frozen BK458.out 1
    go_wp2
    go_ret
    exact ⟨by first|rfl|(simp [errW_none,errW_some] <;> rfl)|(simp only [← hji4];first|rfl|(simp [errW_none,errW_some] <;> rfl))|(simp [*,errW_none,errW_some] <;> rfl),by repeat (first|(with_reducible first|exact HB.out|apply below_alloc|apply pw_below_drewN|apply below_drew1|refine below_set ?_ GE458.out)|exact HB.out)⟩
end Go.Proofs.Ythcfmdkhkikbcaa.T
