import Derived.Test.YthcfmdkhkikbcaaT0
import Derived.Test.YthcfmdkhkikbcaaT2
import Derived.Test.YthcfmdkhkikbcaaT5
import Derived.Test.YthcfmdkhkikbcaaT7
import Derived.Test.YthcfmdkhkikbcaaT18
import Derived.Test.YthcfmdkhkikbcaaT19
import Derived.Test.YthcfmdkhkikbcaaT21
import Derived.Test.YthcfmdkhkikbcaaT22
import Derived.Test.YthcfmdkhkikbcaaT23
import Derived.Test.YthcfmdkhkikbcaaT24
namespace Go.Proofs.Ythcfmdkhkikbcaa.T
open Go.RowKit Go.Proofs.YthcfmdkhkikbcaaW.PrintWords Go.Proofs.YthcfmdkhkikbcaaW.PrintLast Go.Proofs.YthcfmdkhkikbcaaW.PrintMore
attribute [local go_sem] max2_int min2_int max_two min_two max_three min_three max_four min_four
set_option linter.unusedVariables false
set_option linter.unusedSimpArgs false
mutual
def ancepslaw38_TableTwo.j0:Nat→Bool→List Int→List Int→List Int→List Int→Option (Bool)
 | 0,_,_,_,_,_=>none
 | k+1,x24,x800000,x800001,x801000,x801001=>if x24=true then ((ancepslaw38_awake.f k).bind fun t804=>(some t804)) else ((ancepslaw38_own.f x800000 x800001).bind fun bt805=>((ancepslaw38_own.f x801000 x801001).bind fun bt811=>((table_Join.f k bt805.1 bt805.2 bt811.1 bt811.2).bind fun bt817=>((ancepsref38_Join.f k x800000 x800001 x801000 x801001).bind fun bt825=>(if bt817.2.2=bt825.2.2 then ((ancepsref38_Equal.f k bt817.1 bt817.2.1 bt825.1 bt825.2.1).bind fun t833=>(ancepslaw38_TableTwo.j1 k (!t833) x800000 x800001 x801000 x801001)) else (ancepslaw38_TableTwo.j1 k true x800000 x800001 x801000 x801001))))))
def ancepslaw38_TableTwo.j1:Nat→Bool→List Int→List Int→List Int→List Int→Option (Bool)
 | 0,_,_,_,_,_=>none
 | k+1,x48,x800000,x800001,x801000,x801001=>if x48=true then (some false) else ((ancepslaw38_own.f x800000 x800001).bind fun bt834=>((ancepslaw38_own.f x801000 x801001).bind fun bt840=>((table_Union.f k bt834.1 bt834.2 bt840.1 bt840.2).bind fun bt846=>((ancepsref38_Union.f k x800000 x800001 x801000 x801001).bind fun bt853=>(if bt846.2.2=bt853.2.2 then ((ancepsref38_Equal.f k bt846.1 bt846.2.1 bt853.1 bt853.2.1).bind fun t860=>(ancepslaw38_TableTwo.j2 k (!t860) x800000 x800001 x801000 x801001)) else (ancepslaw38_TableTwo.j2 k true x800000 x800001 x801000 x801001))))))
def ancepslaw38_TableTwo.j2:Nat→Bool→List Int→List Int→List Int→List Int→Option (Bool)
 | 0,_,_,_,_,_=>none
 | k+1,x71,x800000,x800001,x801000,x801001=>if x71=true then (some false) else ((ancepslaw38_own.f x800000 x800001).bind fun bt861=>((ancepslaw38_own.f x801000 x801001).bind fun bt867=>((table_Minus.f k bt861.1 bt861.2 bt867.1 bt867.2).bind fun bt873=>((ancepsref38_Minus.f k x800000 x800001 x801000 x801001).bind fun bt880=>(if bt873.2.2=bt880.2.2 then ((ancepsref38_Equal.f k bt873.1 bt873.2.1 bt880.1 bt880.2.1).bind fun t887=>(ancepslaw38_TableTwo.j3 k (!t887) x800000 x800001 x801000 x801001)) else (ancepslaw38_TableTwo.j3 k true x800000 x800001 x801000 x801001))))))
def ancepslaw38_TableTwo.j3:Nat→Bool→List Int→List Int→List Int→List Int→Option (Bool)
 | 0,_,_,_,_,_=>none
 | k+1,x94,x800000,x800001,x801000,x801001=>if x94=true then (some false) else ((ancepslaw38_own.f x800000 x800001).bind fun bt888=>((ancepslaw38_own.f x801000 x801001).bind fun bt894=>((table_Same.f k bt888.1 bt888.2 bt894.1 bt894.2).bind fun bt900=>((ancepsref38_Same.f k x800000 x800001 x801000 x801001).bind fun bt902=>(if (bt900.1 == bt902.1)=true then (some (bt900.2 == bt902.2)) else (some false))))))
end
def ancepslaw38_TableTwo.f (k:Nat) (l0_0:List Int) (l0_1:List Int) (l1_0:List Int) (l1_1:List Int):Option (Bool):=(ancepslaw38_awake.f k).bind fun t801=>(if t801=true then ((ancepsref38_Few.f l0_0 l0_1).bind fun t802=>(if t802=true then ((ancepsref38_Few.f l1_0 l1_1).bind fun t803=>(ancepslaw38_TableTwo.j0 k (!t803) l0_0 l0_1 l1_0 l1_1)) else (ancepslaw38_TableTwo.j0 k true l0_0 l0_1 l1_0 l1_1))) else (ancepslaw38_TableTwo.j0 k true l0_0 l0_1 l1_0 l1_1))
theorem ancepslaw38_TableTwo.mono_l:∀ k,(∀ y0 y1 y2 y3 y4,LeO (ancepslaw38_TableTwo.j0 k y0 y1 y2 y3 y4) (ancepslaw38_TableTwo.j0 (k+1) y0 y1 y2 y3 y4))∧(∀ y0 y1 y2 y3 y4,LeO (ancepslaw38_TableTwo.j1 k y0 y1 y2 y3 y4) (ancepslaw38_TableTwo.j1 (k+1) y0 y1 y2 y3 y4))∧(∀ y0 y1 y2 y3 y4,LeO (ancepslaw38_TableTwo.j2 k y0 y1 y2 y3 y4) (ancepslaw38_TableTwo.j2 (k+1) y0 y1 y2 y3 y4))∧(∀ y0 y1 y2 y3 y4,LeO (ancepslaw38_TableTwo.j3 k y0 y1 y2 y3 y4) (ancepslaw38_TableTwo.j3 (k+1) y0 y1 y2 y3 y4))
 | 0=>⟨fun _ _ _ _ _ r h=>by simp [ancepslaw38_TableTwo.j0] at h,fun _ _ _ _ _ r h=>by simp [ancepslaw38_TableTwo.j1] at h,fun _ _ _ _ _ r h=>by simp [ancepslaw38_TableTwo.j2] at h,fun _ _ _ _ _ r h=>by simp [ancepslaw38_TableTwo.j3] at h⟩
 | k+1=>by
  obtain ⟨ih0,ih1,ih2,ih3⟩:=ancepslaw38_TableTwo.mono_l k
  refine ⟨?_,?_,?_,?_⟩
  ·intro y0 y1 y2 y3 y4
   unfold ancepslaw38_TableTwo.j0
   repeat' first
   | (with_reducible exact ih0 _ _ _ _ _)
   | (with_reducible exact ih1 _ _ _ _ _)
   | (with_reducible exact ih2 _ _ _ _ _)
   | (with_reducible exact ih3 _ _ _ _ _)
   | (with_reducible exact ancepslaw38_awake.mono _)
   | (with_reducible exact ancepsref38_Equal.mono _ _ _ _ _)
   | (with_reducible exact ancepsref38_Join.mono _ _ _ _ _)
   | (with_reducible exact ancepsref38_Minus.mono _ _ _ _ _)
   | (with_reducible exact ancepsref38_Same.mono _ _ _ _ _)
   | (with_reducible exact ancepsref38_Union.mono _ _ _ _ _)
   | (with_reducible exact table_Join.mono _ _ _ _ _)
   | (with_reducible exact table_Minus.mono _ _ _ _ _)
   | (with_reducible exact table_Same.mono _ _ _ _ _)
   | (with_reducible exact table_Union.mono _ _ _ _ _)
   | (with_reducible exact LeO.refl _)
   | (with_reducible exact LeO.none _)
   | (with_reducible refine LeO.ite ?_ ?_)
   | (with_reducible refine LeO.bind ?_ (fun _=>?_))
   | exact LeO.none _
   | refine LeO.ite ?_ ?_
   | refine LeO.bind ?_ (fun _=>?_)
  ·intro y0 y1 y2 y3 y4
   unfold ancepslaw38_TableTwo.j1
   repeat' first
   | (with_reducible exact ih0 _ _ _ _ _)
   | (with_reducible exact ih1 _ _ _ _ _)
   | (with_reducible exact ih2 _ _ _ _ _)
   | (with_reducible exact ih3 _ _ _ _ _)
   | (with_reducible exact ancepslaw38_awake.mono _)
   | (with_reducible exact ancepsref38_Equal.mono _ _ _ _ _)
   | (with_reducible exact ancepsref38_Join.mono _ _ _ _ _)
   | (with_reducible exact ancepsref38_Minus.mono _ _ _ _ _)
   | (with_reducible exact ancepsref38_Same.mono _ _ _ _ _)
   | (with_reducible exact ancepsref38_Union.mono _ _ _ _ _)
   | (with_reducible exact table_Join.mono _ _ _ _ _)
   | (with_reducible exact table_Minus.mono _ _ _ _ _)
   | (with_reducible exact table_Same.mono _ _ _ _ _)
   | (with_reducible exact table_Union.mono _ _ _ _ _)
   | (with_reducible exact LeO.refl _)
   | (with_reducible exact LeO.none _)
   | (with_reducible refine LeO.ite ?_ ?_)
   | (with_reducible refine LeO.bind ?_ (fun _=>?_))
   | exact LeO.none _
   | refine LeO.ite ?_ ?_
   | refine LeO.bind ?_ (fun _=>?_)
  ·intro y0 y1 y2 y3 y4
   unfold ancepslaw38_TableTwo.j2
   repeat' first
   | (with_reducible exact ih0 _ _ _ _ _)
   | (with_reducible exact ih1 _ _ _ _ _)
   | (with_reducible exact ih2 _ _ _ _ _)
   | (with_reducible exact ih3 _ _ _ _ _)
   | (with_reducible exact ancepslaw38_awake.mono _)
   | (with_reducible exact ancepsref38_Equal.mono _ _ _ _ _)
   | (with_reducible exact ancepsref38_Join.mono _ _ _ _ _)
   | (with_reducible exact ancepsref38_Minus.mono _ _ _ _ _)
   | (with_reducible exact ancepsref38_Same.mono _ _ _ _ _)
   | (with_reducible exact ancepsref38_Union.mono _ _ _ _ _)
   | (with_reducible exact table_Join.mono _ _ _ _ _)
   | (with_reducible exact table_Minus.mono _ _ _ _ _)
   | (with_reducible exact table_Same.mono _ _ _ _ _)
   | (with_reducible exact table_Union.mono _ _ _ _ _)
   | (with_reducible exact LeO.refl _)
   | (with_reducible exact LeO.none _)
   | (with_reducible refine LeO.ite ?_ ?_)
   | (with_reducible refine LeO.bind ?_ (fun _=>?_))
   | exact LeO.none _
   | refine LeO.ite ?_ ?_
   | refine LeO.bind ?_ (fun _=>?_)
  ·intro y0 y1 y2 y3 y4
   unfold ancepslaw38_TableTwo.j3
   repeat' first
   | (with_reducible exact ih0 _ _ _ _ _)
   | (with_reducible exact ih1 _ _ _ _ _)
   | (with_reducible exact ih2 _ _ _ _ _)
   | (with_reducible exact ih3 _ _ _ _ _)
   | (with_reducible exact ancepslaw38_awake.mono _)
   | (with_reducible exact ancepsref38_Equal.mono _ _ _ _ _)
   | (with_reducible exact ancepsref38_Join.mono _ _ _ _ _)
   | (with_reducible exact ancepsref38_Minus.mono _ _ _ _ _)
   | (with_reducible exact ancepsref38_Same.mono _ _ _ _ _)
   | (with_reducible exact ancepsref38_Union.mono _ _ _ _ _)
   | (with_reducible exact table_Join.mono _ _ _ _ _)
   | (with_reducible exact table_Minus.mono _ _ _ _ _)
   | (with_reducible exact table_Same.mono _ _ _ _ _)
   | (with_reducible exact table_Union.mono _ _ _ _ _)
   | (with_reducible exact LeO.refl _)
   | (with_reducible exact LeO.none _)
   | (with_reducible refine LeO.ite ?_ ?_)
   | (with_reducible refine LeO.bind ?_ (fun _=>?_))
   | exact LeO.none _
   | refine LeO.ite ?_ ?_
   | refine LeO.bind ?_ (fun _=>?_)
theorem ancepslaw38_TableTwo.mono:∀ a0 a1 a2 a3 k,LeO (ancepslaw38_TableTwo.f k a0 a1 a2 a3) (ancepslaw38_TableTwo.f (k+1) a0 a1 a2 a3):=by
 intro a0 a1 a2 a3 k
 obtain ⟨ih0,ih1,ih2,ih3⟩:=ancepslaw38_TableTwo.mono_l k
 unfold ancepslaw38_TableTwo.f
 repeat' first
   | (with_reducible exact ih0 _ _ _ _ _)
   | (with_reducible exact ih1 _ _ _ _ _)
   | (with_reducible exact ih2 _ _ _ _ _)
   | (with_reducible exact ih3 _ _ _ _ _)
   | (with_reducible exact ancepslaw38_awake.mono _)
   | (with_reducible exact ancepsref38_Equal.mono _ _ _ _ _)
   | (with_reducible exact ancepsref38_Join.mono _ _ _ _ _)
   | (with_reducible exact ancepsref38_Minus.mono _ _ _ _ _)
   | (with_reducible exact ancepsref38_Same.mono _ _ _ _ _)
   | (with_reducible exact ancepsref38_Union.mono _ _ _ _ _)
   | (with_reducible exact table_Join.mono _ _ _ _ _)
   | (with_reducible exact table_Minus.mono _ _ _ _ _)
   | (with_reducible exact table_Same.mono _ _ _ _ _)
   | (with_reducible exact table_Union.mono _ _ _ _ _)
   | (with_reducible exact LeO.refl _)
   | (with_reducible exact LeO.none _)
   | (with_reducible refine LeO.ite ?_ ?_)
   | (with_reducible refine LeO.bind ?_ (fun _=>?_))
   | exact LeO.none _
   | refine LeO.ite ?_ ?_
   | refine LeO.bind ?_ (fun _=>?_)
def ancepslaw38_TableTwo.T3:Bool×List (List Nat×List Nat):=(true,[([],[]),([0],[0]),([],[]),([2,1],[2]),([1,3,3],[1,3]),([4],[4]),([5],[5]),([5],[5]),([],[]),([8,6,4,0,1,2,3,4,5,6,8],[6,8]),([7,9,0,1,2,3,4,5,6,7,8,9],[7])])
def ancepslaw38_TableTwo.B3:List Nat:=[0,1,0,7,15,31,63,63,0,383,1023]
theorem ancepslaw38_TableTwo.tab3:rtab .any (opsOf Try.f6 3)=ancepslaw38_TableTwo.T3:=by kernel_rfl
theorem ancepslaw38_TableTwo.bits3:waitsOk ancepslaw38_TableTwo.T3.2 ancepslaw38_TableTwo.B3=true:=by kernel_rfl
def ancepslaw38_TableTwo.T7:Bool×List (List Nat×List Nat):=(true,[([],[]),([0],[0]),([],[]),([2,1],[2]),([1,3,3],[1,3]),([4],[4]),([5],[5]),([5],[5]),([6,4,0,1,2,3,4,5,6],[6]),([7,8,0,1,2,3,4,5,6,7,8],[7])])
def ancepslaw38_TableTwo.B7:List Nat:=[0,1,0,7,15,31,63,63,127,511]
theorem ancepslaw38_TableTwo.tab7:rtab .any (opsOf Try.f6 7)=ancepslaw38_TableTwo.T7:=by kernel_rfl
theorem ancepslaw38_TableTwo.bits7:waitsOk ancepslaw38_TableTwo.T7.2 ancepslaw38_TableTwo.B7=true:=by kernel_rfl
def ancepslaw38_TableTwo.T11:Bool×List (List Nat×List Nat):=(true,[([],[]),([0],[0]),([],[]),([2,1],[2]),([1,3,3],[1,3]),([4],[4]),([5],[5]),([5],[5]),([6,4,0,1,2,3,4,5,6],[6]),([7,8,0,1,2,3,4,5,6,7,8],[7])])
def ancepslaw38_TableTwo.B11:List Nat:=[0,1,0,7,15,31,63,63,127,511]
theorem ancepslaw38_TableTwo.tab11:rtab .any (opsOf Try.f6 11)=ancepslaw38_TableTwo.T11:=by kernel_rfl
theorem ancepslaw38_TableTwo.bits11:waitsOk ancepslaw38_TableTwo.T11.2 ancepslaw38_TableTwo.B11=true:=by kernel_rfl
def ancepslaw38_TableTwo.T15:Bool×List (List Nat×List Nat):=(true,[([],[]),([0],[0]),([],[]),([2,1],[2]),([1,3,3],[1,3]),([4],[4]),([5],[5]),([5],[5]),([6,4,0,1,2,3,4,5,6],[6]),([7,8,0,1,2,3,4,5,6,7,8],[7])])
def ancepslaw38_TableTwo.B15:List Nat:=[0,1,0,7,15,31,63,63,127,511]
theorem ancepslaw38_TableTwo.tab15:rtab .any (opsOf Try.f6 15)=ancepslaw38_TableTwo.T15:=by kernel_rfl
theorem ancepslaw38_TableTwo.bits15:waitsOk ancepslaw38_TableTwo.T15.2 ancepslaw38_TableTwo.B15=true:=by kernel_rfl
set_option maxHeartbeats 8000000 in
set_option maxRecDepth 100000 in
theorem ancepslaw38_TableTwo.calls (k:Nat) (A0_0:Option Addr) (c0_0:Nat) (l0_0:List Int) (A0_1:Option Addr) (c0_1:Nat) (l0_1:List Int) (A1_0:Option Addr) (c1_0:Nat) (l1_0:List Int) (A1_1:Option Addr) (c1_1:Nat) (l1_1:List Int) (r:Bool) (w:World) (hr0_0:Kd.C (Kd.int .i64) w A0_0 l0_0.length l0_0) (hc0_0:l0_0.length≤c0_0) (hr0_1:Kd.C (Kd.int .i64) w A0_1 l0_1.length l0_1) (hc0_1:l0_1.length≤c0_1) (hr1_0:Kd.C (Kd.int .i64) w A1_0 l1_0.length l1_0) (hc1_0:l1_0.length≤c1_0) (hr1_1:Kd.C (Kd.int .i64) w A1_1 l1_1.length l1_1) (hc1_1:l1_1.length≤c1_1) (h:ancepslaw38_TableTwo.f k l0_0 l0_1 l1_0 l1_1=some r) :
  Calls Try.prog 6 #[.agg #[.slice A0_0 l0_0.length c0_0,.slice A0_1 l0_1.length c0_1],.agg #[.slice A1_0 l1_0.length c1_0,.slice A1_1 l1_1.length c1_1]] w fun e w'=>e=.returned (.bool r)∧Below w.heap.size w w':=by
 have hu29:=Try.underlying29
 have HR0_0:=zA hr0_0
 have HC0_0:=zA hc0_0
 clear hr0_0 hc0_0
 have HR0_1:=zA hr0_1
 have HC0_1:=zA hc0_1
 clear hr0_1 hc0_1
 have HR1_0:=zA hr1_0
 have HC1_0:=zA hc1_0
 clear hr1_0 hc1_0
 have HR1_1:=zA hr1_1
 have HC1_1:=zA hc1_1
 clear hr1_1 hc1_1
 have HB:=zA (Below.refl w.heap.size w)
 have H:((ancepslaw38_awake.f k).bind fun t801=>(if t801=true then ((ancepsref38_Few.f l0_0 l0_1).bind fun t802=>(if t802=true then ((ancepsref38_Few.f l1_0 l1_1).bind fun t803=>(ancepslaw38_TableTwo.j0 k (!t803) l0_0 l0_1 l1_0 l1_1)) else (ancepslaw38_TableTwo.j0 k true l0_0 l0_1 l1_0 l1_1))) else (ancepslaw38_TableTwo.j0 k true l0_0 l0_1 l1_0 l1_1)))=some r:=h
 clear h
 have HC3:=zA H
 clear H
 go_enter Try.func6,Try.ntmps6
 go_upto_region 1 with (first|((with_reducible refine gate_dst (N:=2) rfl ?_);refine box_event ?hg (N:=2) ?hd (cs:=#[.slice A0_0 l0_0.length c0_0,.slice A0_1 l0_1.length c0_1]) (t:=29) ?hr ?_;(case hd=>rfl);(case hg=>rfl);(case hr=>first|(go_simp;done)|(go_simp;rfl));intro gb799 hg w4 hbox hb;have BK799:=zA (hbox);have GW799:=zA (zG hg (below_size zB):w.heap.size≤gb799);have GE799:=GW799;replace HB:=zA (below_step zB hb);clear hb hbox hg)|((with_reducible refine gate_dst (N:=3) rfl ?_);refine box_event ?hg (N:=3) ?hd (cs:=#[.slice A1_0 l1_0.length c1_0,.slice A1_1 l1_1.length c1_1]) (t:=29) ?hr ?_;(case hd=>rfl);(case hg=>rfl);(case hr=>first|(go_simp;done)|(go_simp;rfl));intro gb800 hg w5 hbox hb;have BK800:=zA (hbox);have GW800:=zA (zG hg (below_size zB):w.heap.size≤gb800);have GE800:=GW800;have NB799_800:=zA ((zl hg (zk BK799):gb799≠gb800));have NB800_799:=zA ((zg hg (zk BK799):gb800≠gb799));replace BK799:=zA (zb BK799 hb);replace HB:=zA (below_step zB hb);clear hb hbox hg))
 (try simp only [Act.put,zi,zs,zt])
 go_cut [24] (fun v24 wc=>∃ (kq:Nat) (x24_2:Bool),v24=.bool x24_2∧Aside0 (ancepslaw38_TableTwo.j0 kq x24_2 l0_0 l0_1 l1_0 l1_1=some r)∧Aside0 (kq≤k)∧Aside0 (wc.heap[gb799]?=some (.cells #[(.slice A0_0 l0_0.length c0_0),(.slice A0_1 l0_1.length c0_1)] 29 (0,0)))∧Aside0 (wc.heap[gb800]?=some (.cells #[(.slice A1_0 l1_0.length c1_0),(.slice A1_1 l1_1.length c1_1)] 29 (0,0)))∧Aside0 (Below w.heap.size w wc))
 case first=>
  have H:=HC3.out
  clear HC3
  replace H:=Option.bind_eq_some_iff.mp H
  obtain ⟨t801,A60,H⟩:=H
  replace H:(if t801=true then ((ancepsref38_Few.f l0_0 l0_1).bind fun t802=>(if t802=true then ((ancepsref38_Few.f l1_0 l1_1).bind fun t803=>(ancepslaw38_TableTwo.j0 k (!t803) l0_0 l0_1 l1_0 l1_1)) else (ancepslaw38_TableTwo.j0 k true l0_0 l0_1 l1_0 l1_1))) else (ancepslaw38_TableTwo.j0 k true l0_0 l0_1 l1_0 l1_1))=some r:=H
  have A6:=zA A60
  clear A60
  by_cases c7:t801=true
  ·subst c7
   have H1:((ancepsref38_Few.f l0_0 l0_1).bind fun t802=>(if t802=true then ((ancepsref38_Few.f l1_0 l1_1).bind fun t803=>(ancepslaw38_TableTwo.j0 k (!t803) l0_0 l0_1 l1_0 l1_1)) else (ancepslaw38_TableTwo.j0 k true l0_0 l0_1 l1_0 l1_1)))=some r:=by rw [if_pos rfl] at H;exact H
   clear H
   have H:=H1
   clear H1
   replace H:=Option.bind_eq_some_iff.mp H
   obtain ⟨t802,A80,H⟩:=H
   replace H:(if t802=true then ((ancepsref38_Few.f l1_0 l1_1).bind fun t803=>(ancepslaw38_TableTwo.j0 k (!t803) l0_0 l0_1 l1_0 l1_1)) else (ancepslaw38_TableTwo.j0 k true l0_0 l0_1 l1_0 l1_1))=some r:=H
   have A8:=zA A80
   clear A80
   by_cases c9:t802=true
   ·subst c9
    have H1:((ancepsref38_Few.f l1_0 l1_1).bind fun t803=>(ancepslaw38_TableTwo.j0 k (!t803) l0_0 l0_1 l1_0 l1_1))=some r:=by rw [if_pos rfl] at H;exact H
    clear H
    have H:=H1
    clear H1
    replace H:=Option.bind_eq_some_iff.mp H
    obtain ⟨t803,A100,H⟩:=H
    replace H:(ancepslaw38_TableTwo.j0 k (!t803) l0_0 l0_1 l1_0 l1_1)=some r:=H
    have A10:=zA A100
    clear A100
    have H':=zA H
    clear H
    go_wp2_with (first|((with_reducible refine gate_callee (f:=12) rfl ?_);refine goesL_ (some 13) rfl rfl Try.func12 zK rfl #[] rfl zM ?_;(with_reducible refine (ancepslaw38_awake.calls k  true _ A6.out).mono ?_);rintro e w11 ⟨rfl,hb⟩;refine ⟨_,rfl,?_⟩;replace BK799:=zA (zb BK799 hb);replace BK800:=zA (zb BK800 hb);replace HB:=zA (below_step zB hb);(try clear hb);(try clear hb2);(try clear hk);(try clear hi);have hnb12:=NB799_800.out;have hnc12:=NB800_799.out;have hcz13_0:w11.cell? ⟨gb799,0,none⟩=some (.slice A0_0 l0_0.length c0_0):=(blk_cell BK799.out 0).trans rfl;have hcz13_1:w11.cell? ⟨gb799,1,none⟩=some (.slice A0_1 l0_1.length c0_1):=(blk_cell BK799.out 1).trans rfl;have hfz13_0:=blk_frozen BK799.out 0;have hfz13_1:=blk_frozen BK799.out 1)|(go_at_call 19;(with_reducible refine (ancepsref38_Few.calls _ _ l0_0 _ _ l0_1 true _ ?side1 ?side2 ?side3 ?side4 A8.out).mono ?_);(case side1=>exact zC (Kd.C_below HR0_0.out HB.out));(case side2=>exact HC0_0.out);(case side3=>exact zC (Kd.C_below HR0_1.out HB.out));(case side4=>exact HC0_1.out);rintro e w14 ⟨rfl,hb⟩;replace BK799:=zA (zb BK799 hb);replace BK800:=zA (zb BK800 hb);replace HB:=zA (below_step zB hb);(try clear hb);(try clear hb2);(try clear hk);(try clear hi);have hcz15_0:w14.cell? ⟨gb800,0,none⟩=some (.slice A1_0 l1_0.length c1_0):=(blk_cell BK800.out 0).trans rfl;have hcz15_1:w14.cell? ⟨gb800,1,none⟩=some (.slice A1_1 l1_1.length c1_1):=(blk_cell BK800.out 1).trans rfl;have hfz15_0:=blk_frozen BK800.out 0;have hfz15_1:=blk_frozen BK800.out 1)|(go_at_call 19;(with_reducible refine (ancepsref38_Few.calls _ _ l1_0 _ _ l1_1 t803 _ ?side1 ?side2 ?side3 ?side4 A10.out).mono ?_);(case side1=>exact zC (Kd.C_below HR1_0.out HB.out));(case side2=>exact HC1_0.out);(case side3=>exact zC (Kd.C_below HR1_1.out HB.out));(case side4=>exact HC1_1.out);rintro e w16 ⟨rfl,hb⟩;replace BK799:=zA (zb BK799 hb);replace BK800:=zA (zb BK800 hb);replace HB:=zA (below_step zB hb);(try clear hb);(try clear hb2);(try clear hk);(try clear hi)))
    go_meet
    case rel=>exact ⟨_,(!t803),zT,H',⟨by first|omega|exact Nat.le_refl _⟩,⟨by refine zj ?_;exact BK799.out⟩,⟨by refine zj ?_;exact BK800.out⟩,⟨by repeat (first|(with_reducible first|exact HB.out|apply below_alloc|apply pw_below_drewN|apply below_drew1|refine below_set ?_ GE799.out|refine below_set ?_ GE800.out)|exact HB.out)⟩⟩
   ·replace c9:=Bool.eq_false_iff.mpr c9
    subst c9
    have H1:(ancepslaw38_TableTwo.j0 k true l0_0 l0_1 l1_0 l1_1)=some r:=by rw [if_neg (show ¬ (false=true) by decide)] at H;exact H
    clear H
    have H:=H1
    clear H1
    have H':=zA H
    clear H
    go_wp2_with (first|((with_reducible refine gate_callee (f:=12) rfl ?_);refine goesL_ (some 13) rfl rfl Try.func12 zK rfl #[] rfl zM ?_;(with_reducible refine (ancepslaw38_awake.calls k  true _ A6.out).mono ?_);rintro e w17 ⟨rfl,hb⟩;refine ⟨_,rfl,?_⟩;replace BK799:=zA (zb BK799 hb);replace BK800:=zA (zb BK800 hb);replace HB:=zA (below_step zB hb);(try clear hb);(try clear hb2);(try clear hk);(try clear hi);have hnb18:=NB799_800.out;have hnc18:=NB800_799.out;have hcz19_0:w17.cell? ⟨gb799,0,none⟩=some (.slice A0_0 l0_0.length c0_0):=(blk_cell BK799.out 0).trans rfl;have hcz19_1:w17.cell? ⟨gb799,1,none⟩=some (.slice A0_1 l0_1.length c0_1):=(blk_cell BK799.out 1).trans rfl;have hfz19_0:=blk_frozen BK799.out 0;have hfz19_1:=blk_frozen BK799.out 1)|(go_at_call 19;(with_reducible refine (ancepsref38_Few.calls _ _ l0_0 _ _ l0_1 false _ ?side1 ?side2 ?side3 ?side4 A8.out).mono ?_);(case side1=>exact zC (Kd.C_below HR0_0.out HB.out));(case side2=>exact HC0_0.out);(case side3=>exact zC (Kd.C_below HR0_1.out HB.out));(case side4=>exact HC0_1.out);rintro e w20 ⟨rfl,hb⟩;replace BK799:=zA (zb BK799 hb);replace BK800:=zA (zb BK800 hb);replace HB:=zA (below_step zB hb);(try clear hb);(try clear hb2);(try clear hk);(try clear hi)))
    go_meet
    case rel=>exact ⟨_,(true),zT,H',⟨by first|omega|exact Nat.le_refl _⟩,⟨by refine zj ?_;exact BK799.out⟩,⟨by refine zj ?_;exact BK800.out⟩,⟨by repeat (first|(with_reducible first|exact HB.out|apply below_alloc|apply pw_below_drewN|apply below_drew1|refine below_set ?_ GE799.out|refine below_set ?_ GE800.out)|exact HB.out)⟩⟩
  ·replace c7:=Bool.eq_false_iff.mpr c7
   subst c7
   have H1:(ancepslaw38_TableTwo.j0 k true l0_0 l0_1 l1_0 l1_1)=some r:=by rw [if_neg (show ¬ (false=true) by decide)] at H;exact H
   clear H
   have H:=H1
   clear H1
   have H':=zA H
   clear H
   go_wp2_with (first|((with_reducible refine gate_callee (f:=12) rfl ?_);refine goesL_ (some 13) rfl rfl Try.func12 zK rfl #[] rfl zM ?_;(with_reducible refine (ancepslaw38_awake.calls k  false _ A6.out).mono ?_);rintro e w21 ⟨rfl,hb⟩;refine ⟨_,rfl,?_⟩;replace BK799:=zA (zb BK799 hb);replace BK800:=zA (zb BK800 hb);replace HB:=zA (below_step zB hb);(try clear hb);(try clear hb2);(try clear hk);(try clear hi)))
   go_meet
   case rel=>exact ⟨_,(true),zT,H',⟨by first|omega|exact Nat.le_refl _⟩,⟨by refine zj ?_;exact BK799.out⟩,⟨by refine zj ?_;exact BK800.out⟩,⟨by repeat (first|(with_reducible first|exact HB.out|apply below_alloc|apply pw_below_drewN|apply below_drew1|refine below_set ?_ GE799.out|refine below_set ?_ GE800.out)|exact HB.out)⟩⟩
 case rest=>
  clear HC3
  obtain ⟨kq,x24_2,rfl,HA,HJ2,BK799,BK800,HB⟩:=hcut
  cases kq with
  | zero=>exact absurd HA.out (by simp [ancepslaw38_TableTwo.j0])
  | succ kj2=>
   have H:=HA.out
   clear HA
   simp only [ancepslaw38_TableTwo.j0] at H
   by_cases c22:x24_2=true
   ·subst c22
    have H1:((ancepslaw38_awake.f kj2).bind fun t804=>(some t804))=some r:=by rw [if_pos rfl] at H;exact H
    clear H
    have H:=H1
    clear H1
    replace H:=Option.bind_eq_some_iff.mp H
    obtain ⟨t804,A230,H⟩:=H
    replace H:(some t804)=some r:=H
    have A23:=zA A230
    clear A230
    obtain rfl:=Option.some.inj H
    go_wp2_with (first|((with_reducible refine gate_callee (f:=12) rfl ?_);refine goesL_ (some 25) rfl rfl Try.func12 zK rfl #[] rfl zM ?_;(with_reducible refine (ancepslaw38_awake.calls kj2  t804 _ A23.out).mono ?_);rintro e w24 ⟨rfl,hb⟩;refine ⟨_,rfl,?_⟩;replace BK799:=zA (zb BK799 hb);replace BK800:=zA (zb BK800 hb);replace HB:=zA (below_step zB hb);(try clear hb);(try clear hb2);(try clear hk);(try clear hi)))
    go_ret
    exact ⟨ze,by repeat (first|(with_reducible first|exact HB.out|apply below_alloc|apply pw_below_drewN|apply below_drew1|refine below_set ?_ GE799.out|refine below_set ?_ GE800.out)|exact HB.out)⟩
   ·replace c22:=Bool.eq_false_iff.mpr c22
    subst c22
    have H1:((ancepslaw38_own.f l0_0 l0_1).bind fun bt805=>((ancepslaw38_own.f l1_0 l1_1).bind fun bt811=>((table_Join.f kj2 bt805.1 bt805.2 bt811.1 bt811.2).bind fun bt817=>((ancepsref38_Join.f kj2 l0_0 l0_1 l1_0 l1_1).bind fun bt825=>(if bt817.2.2=bt825.2.2 then ((ancepsref38_Equal.f kj2 bt817.1 bt817.2.1 bt825.1 bt825.2.1).bind fun t833=>(ancepslaw38_TableTwo.j1 kj2 (!t833) l0_0 l0_1 l1_0 l1_1)) else (ancepslaw38_TableTwo.j1 kj2 true l0_0 l0_1 l1_0 l1_1))))))=some r:=by rw [if_neg (show ¬ (false=true) by decide)] at H;exact H
    clear H
    have H:=H1
    clear H1
    replace H:=Option.bind_eq_some_iff.mp H
    obtain ⟨⟨t805,t808⟩,A250,H⟩:=H
    replace H:((ancepslaw38_own.f l1_0 l1_1).bind fun bt811=>((table_Join.f kj2 t805 t808 bt811.1 bt811.2).bind fun bt817=>((ancepsref38_Join.f kj2 l0_0 l0_1 l1_0 l1_1).bind fun bt825=>(if bt817.2.2=bt825.2.2 then ((ancepsref38_Equal.f kj2 bt817.1 bt817.2.1 bt825.1 bt825.2.1).bind fun t833=>(ancepslaw38_TableTwo.j1 kj2 (!t833) l0_0 l0_1 l1_0 l1_1)) else (ancepslaw38_TableTwo.j1 kj2 true l0_0 l0_1 l1_0 l1_1)))))=some r:=H
    have A25:=zA A250
    clear A250
    replace H:=Option.bind_eq_some_iff.mp H
    obtain ⟨⟨t811,t814⟩,A260,H⟩:=H
    replace H:((table_Join.f kj2 t805 t808 t811 t814).bind fun bt817=>((ancepsref38_Join.f kj2 l0_0 l0_1 l1_0 l1_1).bind fun bt825=>(if bt817.2.2=bt825.2.2 then ((ancepsref38_Equal.f kj2 bt817.1 bt817.2.1 bt825.1 bt825.2.1).bind fun t833=>(ancepslaw38_TableTwo.j1 kj2 (!t833) l0_0 l0_1 l1_0 l1_1)) else (ancepslaw38_TableTwo.j1 kj2 true l0_0 l0_1 l1_0 l1_1))))=some r:=H
    have A26:=zA A260
    clear A260
    replace H:=Option.bind_eq_some_iff.mp H
    obtain ⟨⟨t817,t820,t823⟩,A270,H⟩:=H
    replace H:((ancepsref38_Join.f kj2 l0_0 l0_1 l1_0 l1_1).bind fun bt825=>(if t823=bt825.2.2 then ((ancepsref38_Equal.f kj2 t817 t820 bt825.1 bt825.2.1).bind fun t833=>(ancepslaw38_TableTwo.j1 kj2 (!t833) l0_0 l0_1 l1_0 l1_1)) else (ancepslaw38_TableTwo.j1 kj2 true l0_0 l0_1 l1_0 l1_1)))=some r:=H
    have A27:=zA A270
    clear A270
    replace H:=Option.bind_eq_some_iff.mp H
    obtain ⟨⟨t825,t828,t831⟩,A280,H⟩:=H
    replace H:(if t823=t831 then ((ancepsref38_Equal.f kj2 t817 t820 t825 t828).bind fun t833=>(ancepslaw38_TableTwo.j1 kj2 (!t833) l0_0 l0_1 l1_0 l1_1)) else (ancepslaw38_TableTwo.j1 kj2 true l0_0 l0_1 l1_0 l1_1))=some r:=H
    have A28:=zA A280
    clear A280
    have HC29:=zA H
    clear H
    try go_wp2
    replace BK799:=zA (blk_drew BK799.out)
    replace BK800:=zA (blk_drew BK800.out)
    replace HB:=zA (below_drew1 HB.out)
    refine start_ (n:=11) (S:=fun w'=>w'.cell? ⟨gb799,0,none⟩=some (.slice A0_0 l0_0.length c0_0)∧w'.cell? ⟨gb799,1,none⟩=some (.slice A0_1 l0_1.length c0_1)∧w'.cell? ⟨gb800,0,none⟩=some (.slice A1_0 l1_0.length c1_0)∧w'.cell? ⟨gb800,1,none⟩=some (.slice A1_1 l1_1.length c1_1)) (ds:=[]) #[false,false,false,false,false,false,false,false,false,false,false] zK rfl rfl ⟨(blk_cell BK799.out 0).trans rfl,(blk_cell BK799.out 1).trans rfl,(blk_cell BK800.out 0).trans rfl,(blk_cell BK800.out 1).trans rfl⟩ (fun hHeld=>?_);refine with_tabW ancepslaw38_TableTwo.tab3 ancepslaw38_TableTwo.bits3 (fun HT_ HW_=>?_)
    generalize wc.drew=w30 at BK799 BK800 HB hHeld ⊢
    refine take_ (i:=0) (N:=some 27) (v:=?_) (a':=?_) #[true,false,false,false,false,false,false,false,false,false,false] rfl rfl (take_ofW HT_.out HW_.out zK) (fun _ _ _ h=>h) (Or.inl ⟨by rfl,?_⟩) hHeld ?_ ?_
    rotate_left
    ·rintro w' ⟨s0,s1,s2,s3⟩
     go_simp
     with_reducible rfl
    rotate_left
    ·simp only [Act.put,zi,zs,zt,i64_w,i32_w]
     rfl
    refine take_ (i:=2) (N:=some 29) (v:=?_) (a':=?_) #[true,false,true,false,false,false,false,false,false,false,false] rfl rfl (take_ofW HT_.out HW_.out zK) (fun _ _ _ h=>h) (Or.inl ⟨by rfl,?_⟩) hHeld ?_ ?_
    rotate_left
    ·rintro w' ⟨s0,s1,s2,s3⟩
     go_simp
     with_reducible rfl
    rotate_left
    ·simp only [Act.put,zi,zs,zt,i64_w,i32_w]
     rfl
    refine join_ (σ:=Value×Value×Value×Value×Value×Value×Nat) 2 #[true,true,true,true,true,true,true,true,true,false,false] (fun s_=>[(28,.agg #[s_.1,s_.2.1]),(30,.agg #[s_.2.2.1,s_.2.2.2.1]),(31,.tuple #[.agg #[s_.2.2.2.2.1,s_.2.2.2.2.2.1],.int .i64 t823]),(5,.pointer (some ⟨s_.2.2.2.2.2.2,0,none⟩)),(26,.tuple #[.agg #[s_.2.2.2.2.1,s_.2.2.2.2.2.1],.int .i64 t823]),(32,.agg #[s_.2.2.2.2.1,s_.2.2.2.2.2.1]),(33,.int .i64 t823)]) (fun s_ w'=>(w'.cell? ⟨gb799,0,none⟩=some (.slice A0_0 l0_0.length c0_0)∧w'.cell? ⟨gb799,1,none⟩=some (.slice A0_1 l0_1.length c0_1)∧w'.cell? ⟨gb800,0,none⟩=some (.slice A1_0 l1_0.length c1_0)∧w'.cell? ⟨gb800,1,none⟩=some (.slice A1_1 l1_1.length c1_1))∧(Kd.R (Kd.int .i64) 3 w' w.heap.size (fun k_=>some k_≠(s_.2.1:Value).ownBlock∧some k_≠(s_.2.2.1:Value).ownBlock∧some k_≠(s_.2.2.2.1:Value).ownBlock∧some k_≠(s_.2.2.2.2.1:Value).ownBlock∧some k_≠(s_.2.2.2.2.2.1:Value).ownBlock) s_.1 t805)∧(Kd.R (Kd.int .i64) 3 w' w.heap.size (fun k_=>some k_≠(s_.1:Value).ownBlock∧some k_≠(s_.2.2.1:Value).ownBlock∧some k_≠(s_.2.2.2.1:Value).ownBlock∧some k_≠(s_.2.2.2.2.1:Value).ownBlock∧some k_≠(s_.2.2.2.2.2.1:Value).ownBlock) s_.2.1 t808)∧(Kd.R (Kd.int .i64) 3 w' w.heap.size (fun k_=>some k_≠(s_.1:Value).ownBlock∧some k_≠(s_.2.1:Value).ownBlock∧some k_≠(s_.2.2.2.1:Value).ownBlock∧some k_≠(s_.2.2.2.2.1:Value).ownBlock∧some k_≠(s_.2.2.2.2.2.1:Value).ownBlock) s_.2.2.1 t811)∧(Kd.R (Kd.int .i64) 3 w' w.heap.size (fun k_=>some k_≠(s_.1:Value).ownBlock∧some k_≠(s_.2.1:Value).ownBlock∧some k_≠(s_.2.2.1:Value).ownBlock∧some k_≠(s_.2.2.2.2.1:Value).ownBlock∧some k_≠(s_.2.2.2.2.2.1:Value).ownBlock) s_.2.2.2.1 t814)∧(Kd.R (Kd.int .i64) 3 w' w.heap.size (fun k_=>some k_≠(s_.1:Value).ownBlock∧some k_≠(s_.2.1:Value).ownBlock∧some k_≠(s_.2.2.1:Value).ownBlock∧some k_≠(s_.2.2.2.1:Value).ownBlock∧some k_≠(s_.2.2.2.2.2.1:Value).ownBlock) s_.2.2.2.2.1 t817)∧(Kd.R (Kd.int .i64) 3 w' w.heap.size (fun k_=>some k_≠(s_.1:Value).ownBlock∧some k_≠(s_.2.1:Value).ownBlock∧some k_≠(s_.2.2.1:Value).ownBlock∧some k_≠(s_.2.2.2.1:Value).ownBlock∧some k_≠(s_.2.2.2.2.1:Value).ownBlock) s_.2.2.2.2.2.1 t820)∧(w'.heap[gb799]?=some (.cells #[.slice A0_0 l0_0.length c0_0,.slice A0_1 l0_1.length c0_1] 29 (0,0)))∧(w'.heap[gb800]?=some (.cells #[.slice A1_0 l1_0.length c1_0,.slice A1_1 l1_1.length c1_1] 29 (0,0)))∧(w'.heap[s_.2.2.2.2.2.2]?=some (.cells #[.slice none 0 0,.slice none 0 0] 29 (0,0)))∧(w.heap.size≤s_.2.2.2.2.2.2)∧(w.heap.size≤s_.2.2.2.2.2.2)∧(gb799≠s_.2.2.2.2.2.2)∧(s_.2.2.2.2.2.2≠gb799)∧(gb800≠s_.2.2.2.2.2.2)∧(s_.2.2.2.2.2.2≠gb800)∧(Below w.heap.size w w')) ?_ ?_
    rotate_left
    ·intro hCont
     refine two_ (i:=1) (j:=8) (Ni:=some 28) (Nj:=some 5) #[true,true,true,false,false,false,false,false,false,false,false] #[true,false,true,false,false,false,false,false,true,false,false] rfl rfl rfl rfl (two_of HT_.out zK) (by decide) (by decide) (fun K hK=>?_) (fun K hK=>?_)
     ·skip
      refine goes_ Try.func21 zK rfl #[.agg #[.slice A0_0 l0_0.length c0_0,.slice A0_1 l0_1.length c0_1]] (by rfl) rfl rfl zM ?_
      with_reducible refine (ancepslaw38_own.calls _ _ l0_0 _ _ l0_1 t805 t808 _ ?side1 ?side2 ?side3 ?side4 A25.out).mono ?_
      (case side1=>exact zC (Kd.C_below HR0_0.out HB.out))
      (case side2=>exact HC0_0.out)
      (case side3=>exact zC (Kd.C_below HR0_1.out HB.out))
      (case side4=>exact HC0_1.out)
      rintro e w31 ⟨v806,v809,rfl,ho0,ho1,hb⟩
      refine ⟨_,rfl,?_⟩
      have HO807:=zA (Kd.R_lower ho0 (below_size zB))
      have HO810:=zA (Kd.R_lower ho1 (below_size zB))
      replace BK799:=zA (zb BK799 hb)
      replace BK800:=zA (zb BK800 hb)
      replace HB:=zA (below_step zB hb)
      (try clear hb)
      (try clear hb2)
      (try clear hk)
      (try clear hi)
      (try clear ho0)
      (try clear ho1)
      refine hK.out _ _ ⟨(blk_cell BK799.out 0).trans rfl,(blk_cell BK799.out 1).trans rfl,(blk_cell BK800.out 0).trans rfl,(blk_cell BK800.out 1).trans rfl⟩ (fun hHeld=>?_)
      clear hK K
      refine norm_ (a':=?_) ?_ ?_
      rotate_left
      ·show Act.put _ (some 28) _=_
       simp only [Act.put,zi,zs,zt,i64_w,i32_w]
       rfl
      refine two_ (i:=3) (j:=8) (Ni:=some 30) (Nj:=some 5) #[true,true,true,true,false,false,false,false,false,false,false] #[true,true,true,false,false,false,false,false,true,false,false] rfl rfl rfl rfl (two_of HT_.out zK) (by decide) (by decide) (fun K hK=>?_) (fun K hK=>?_)
      ·skip
       refine goes_ Try.func21 zK rfl #[.agg #[.slice A1_0 l1_0.length c1_0,.slice A1_1 l1_1.length c1_1]] (by rfl) rfl rfl zM ?_
       with_reducible refine (ancepslaw38_own.calls _ _ l1_0 _ _ l1_1 t811 t814 _ ?side1 ?side2 ?side3 ?side4 A26.out).mono ?_
       (case side1=>exact zC (Kd.C_below HR1_0.out HB.out))
       (case side2=>exact HC1_0.out)
       (case side3=>exact zC (Kd.C_below HR1_1.out HB.out))
       (case side4=>exact HC1_1.out)
       rintro e w32 ⟨v812,v815,rfl,ho0,ho1,hb⟩
       refine ⟨_,rfl,?_⟩
       have HO813:=zA (Kd.R_lower (Kd.R_new' (Kd.R_new' ho0 (Kd.R_lt (zR HO807))) (Kd.R_lt (zR HO810))) (below_size zB))
       have HO816:=zA (Kd.R_lower (Kd.R_new' (Kd.R_new' ho1 (Kd.R_lt (zR HO807))) (Kd.R_lt (zR HO810))) (below_size zB))
       replace HO807:=zA (Kd.R_mono (Kd.R_told (Kd.R_told (Kd.R_old (zR HO807) hb) (Kd.R_base ho0)) (Kd.R_base ho1)) (fun _ h_=>h_.1))
       replace HO810:=zA (Kd.R_mono (Kd.R_told (Kd.R_told (Kd.R_old (zR HO810) hb) (Kd.R_base ho0)) (Kd.R_base ho1)) (fun _ h_=>h_.1))
       replace BK799:=zA (zb BK799 hb)
       replace BK800:=zA (zb BK800 hb)
       replace HB:=zA (below_step zB hb)
       (try clear hb)
       (try clear hb2)
       (try clear hk)
       (try clear hi)
       (try clear ho0)
       (try clear ho1)
       obtain ⟨Ao33,co33,eo33⟩:=Kd.R_slice HO807.out
       (first|subst eo33|(injection eo33 with f1_ f2_ f3_;have f4_:=f1_.symm;have f5_:=f3_.symm;clear f1_ f2_ f3_;subst f4_;subst f5_))
       obtain ⟨Ao34,co34,eo34⟩:=Kd.R_slice HO810.out
       (first|subst eo34|(injection eo34 with f1_ f2_ f3_;have f4_:=f1_.symm;have f5_:=f3_.symm;clear f1_ f2_ f3_;subst f4_;subst f5_))
       obtain ⟨Ao35,co35,eo35⟩:=Kd.R_slice HO813.out
       (first|subst eo35|(injection eo35 with f1_ f2_ f3_;have f4_:=f1_.symm;have f5_:=f3_.symm;clear f1_ f2_ f3_;subst f4_;subst f5_))
       obtain ⟨Ao36,co36,eo36⟩:=Kd.R_slice HO816.out
       (first|subst eo36|(injection eo36 with f1_ f2_ f3_;have f4_:=f1_.symm;have f5_:=f3_.symm;clear f1_ f2_ f3_;subst f4_;subst f5_))
       refine hK.out _ _ ⟨(blk_cell BK799.out 0).trans rfl,(blk_cell BK799.out 1).trans rfl,(blk_cell BK800.out 0).trans rfl,(blk_cell BK800.out 1).trans rfl⟩ (fun hHeld=>?_)
       clear hK K
       refine norm_ (a':=?_) ?_ ?_
       rotate_left
       ·show Act.put _ (some 30) _=_
        simp only [Act.put,zi,zs,zt,i64_w,i32_w]
        rfl
       refine two_ (i:=4) (j:=8) (Ni:=some 31) (Nj:=some 5) #[true,true,true,true,true,false,false,false,false,false,false] #[true,true,true,true,false,false,false,false,true,false,false] rfl rfl rfl rfl (two_of HT_.out zK) (by decide) (by decide) (fun K hK=>?_) (fun K hK=>?_)
       ·skip
        refine goes_ Try.func15 zK rfl #[.agg #[.slice Ao33 t805.length co33,.slice Ao34 t808.length co34],.agg #[.slice Ao35 t811.length co35,.slice Ao36 t814.length co36]] (by rfl) rfl rfl zM ?_
        with_reducible refine (table_Join.calls kj2 _ _ t805 _ _ t808 _ _ t811 _ _ t814 t817 t820 t823 _ ?side1 ?side2 ?side3 ?side4 ?side5 ?side6 ?side7 ?side8 A27.out).mono ?_
        (case side1=>exact zC (Kd.R_reads' HO807.out).2.2)
        (case side2=>exact (Kd.R_reads' HO807.out).2.1)
        (case side3=>exact zC (Kd.R_reads' HO810.out).2.2)
        (case side4=>exact (Kd.R_reads' HO810.out).2.1)
        (case side5=>exact zC (Kd.R_reads' HO813.out).2.2)
        (case side6=>exact (Kd.R_reads' HO813.out).2.1)
        (case side7=>exact zC (Kd.R_reads' HO816.out).2.2)
        (case side8=>exact (Kd.R_reads' HO816.out).2.1)
        rintro e w37 ⟨v818,v821,rfl,ho0,ho1,hb⟩
        refine ⟨_,rfl,?_⟩
        have HO819:=zA (Kd.R_lower (Kd.R_new' (Kd.R_new' (Kd.R_new' (Kd.R_new' ho0 (Kd.R_lt (zR HO807))) (Kd.R_lt (zR HO810))) (Kd.R_lt (zR HO813))) (Kd.R_lt (zR HO816))) (below_size zB))
        have HO822:=zA (Kd.R_lower (Kd.R_new' (Kd.R_new' (Kd.R_new' (Kd.R_new' ho1 (Kd.R_lt (zR HO807))) (Kd.R_lt (zR HO810))) (Kd.R_lt (zR HO813))) (Kd.R_lt (zR HO816))) (below_size zB))
        replace HO807:=zA (Kd.R_mono (Kd.R_told (Kd.R_told (Kd.R_old (zR HO807) hb) (Kd.R_base ho0)) (Kd.R_base ho1)) (fun _ h_=>h_.1))
        replace HO810:=zA (Kd.R_mono (Kd.R_told (Kd.R_told (Kd.R_old (zR HO810) hb) (Kd.R_base ho0)) (Kd.R_base ho1)) (fun _ h_=>h_.1))
        replace HO813:=zA (Kd.R_mono (Kd.R_told (Kd.R_told (Kd.R_old (zR HO813) hb) (Kd.R_base ho0)) (Kd.R_base ho1)) (fun _ h_=>h_.1))
        replace HO816:=zA (Kd.R_mono (Kd.R_told (Kd.R_told (Kd.R_old (zR HO816) hb) (Kd.R_base ho0)) (Kd.R_base ho1)) (fun _ h_=>h_.1))
        replace BK799:=zA (zb BK799 hb)
        replace BK800:=zA (zb BK800 hb)
        replace HB:=zA (below_step zB hb)
        (try clear hb)
        (try clear hb2)
        (try clear hk)
        (try clear hi)
        (try clear ho0)
        (try clear ho1)
        refine hK.out _ _ ⟨(blk_cell BK799.out 0).trans rfl,(blk_cell BK799.out 1).trans rfl,(blk_cell BK800.out 0).trans rfl,(blk_cell BK800.out 1).trans rfl⟩ (fun hHeld=>?_)
        clear hK K
        refine norm_ (a':=?_) ?_ ?_
        rotate_left
        ·show Act.put _ (some 31) _=_
         simp only [Act.put,zi,zs,zt,i64_w,i32_w]
         rfl
        refine pure_ (i:=5) (N:=some 26) (v:=?_) (a':=?_) #[true,true,true,true,true,true,false,false,false,false,false] rfl rfl (any_of HT_.out zK) (fun _ _ _ h=>h) (Or.inl ⟨by rfl,?_⟩) ?_ ?_
        rotate_left
        ·intro w'
         go_simp
         with_reducible rfl
        rotate_left
        ·simp only [Act.put,zi,zs,zt,i64_w,i32_w]
         rfl
        refine pure_ (i:=6) (N:=some 32) (v:=?_) (a':=?_) #[true,true,true,true,true,true,true,false,false,false,false] rfl rfl (any_of HT_.out zK) (fun _ _ _ h=>h) (Or.inl ⟨by rfl,?_⟩) ?_ ?_
        rotate_left
        ·intro w'
         go_simp
         with_reducible rfl
        rotate_left
        ·simp only [Act.put,zi,zs,zt,i64_w,i32_w]
         rfl
        refine pure_ (i:=7) (N:=some 33) (v:=?_) (a':=?_) #[true,true,true,true,true,true,true,true,false,false,false] rfl rfl (any_of HT_.out zK) (fun _ _ _ h=>h) (Or.inl ⟨by rfl,?_⟩) ?_ ?_
        rotate_left
        ·intro w'
         go_simp
         with_reducible rfl
        rotate_left
        ·simp only [Act.put,zi,zs,zt,i64_w,i32_w]
         rfl
        refine one_ (i:=8) (N:=some 5) #[true,true,true,true,true,true,true,true,true,false,false] rfl rfl (one_of HT_.out zK) (by decide) (fun K hK=>?_)
        refine box_step ?hg (N:=5) ?hd (cs:=#[.slice none 0 0,.slice none 0 0]) (t:=29) ?hr ?_;(case hd=>rfl);(case hg=>rfl);(case hr=>first|(go_simp;done)|(go_simp;rfl))
        intro gb824 hg w38 hbox hb
        have BK824:=zA (hbox)
        have GW824:=zA ((zG hg (below_size zB):w.heap.size≤gb824))
        have GE824:=zA ((zG hg (below_size zB):w.heap.size≤gb824))
        have NB799_824:=zA ((zl hg (zk BK799):gb799≠gb824))
        have NB824_799:=zA ((zg hg (zk BK799):gb824≠gb799))
        have NB800_824:=zA ((zl hg (zk BK800):gb800≠gb824))
        have NB824_800:=zA ((zg hg (zk BK800):gb824≠gb800))
        replace HO807:=zA (Kd.R_below (zR HO807) hb)
        replace HO810:=zA (Kd.R_below (zR HO810) hb)
        replace HO813:=zA (Kd.R_below (zR HO813) hb)
        replace HO816:=zA (Kd.R_below (zR HO816) hb)
        replace HO819:=zA (Kd.R_below (zR HO819) hb)
        replace HO822:=zA (Kd.R_below (zR HO822) hb)
        replace BK799:=zA (zb BK799 hb)
        replace BK800:=zA (zb BK800 hb)
        replace HB:=zA (below_step zB hb)
        clear hb hbox hg
        refine hK.out _ _ ⟨(blk_cell BK799.out 0).trans rfl,(blk_cell BK799.out 1).trans rfl,(blk_cell BK800.out 0).trans rfl,(blk_cell BK800.out 1).trans rfl⟩ (fun hHeld=>?_)
        clear hK K
        refine norm_ (a':=?_) ?_ ?_
        rotate_left
        ·show Act.put _ (some 5) _=_
         simp only [Act.put,zi,zs,zt,i64_w,i32_w]
         rfl
        exact norm_ (by simp only [putAll,Act.put,zi,zs,zt]) (hCont (.slice Ao33 t805.length co33,.slice Ao34 t808.length co34,.slice Ao35 t811.length co35,.slice Ao36 t814.length co36,v818,v821,gb824) _ ⟨hHeld,(by refine zr ?_;exact Kd.R_mono HO807.out (fun _ hk=>⟨hk.1.1.1.1,⟨hk.1.1.1.2,⟨hk.1.1.2,⟨hk.1.2,hk.2⟩⟩⟩⟩)),(by refine zr ?_;exact Kd.R_mono HO810.out (fun _ hk=>⟨hk.1.1.1.1,⟨hk.1.1.1.2,⟨hk.1.1.2,⟨hk.1.2,hk.2⟩⟩⟩⟩)),(by refine zr ?_;exact Kd.R_mono HO813.out (fun _ hk=>⟨hk.1.1.1.2,⟨hk.1.1.2,⟨hk.1.1.1.1,⟨hk.1.2,hk.2⟩⟩⟩⟩)),(by refine zr ?_;exact Kd.R_mono HO816.out (fun _ hk=>⟨hk.1.1.1.2,⟨hk.1.1.2,⟨hk.1.1.1.1,⟨hk.1.2,hk.2⟩⟩⟩⟩)),(by refine zr ?_;exact Kd.R_mono HO819.out (fun _ hk=>⟨hk.1.1.1.2,⟨hk.1.1.2,⟨hk.1.2,⟨hk.2,hk.1.1.1.1⟩⟩⟩⟩)),(by refine zr ?_;exact Kd.R_mono HO822.out (fun _ hk=>⟨hk.1.1.1.2,⟨hk.1.1.2,⟨hk.1.2,⟨hk.2,hk.1.1.1.1⟩⟩⟩⟩)),(zk BK799),(zk BK800),(zk BK824),GW824.out,GE824.out,NB799_824.out,NB824_799.out,NB800_824.out,NB824_800.out,zB⟩)
       ·skip
        refine box_step ?hg (N:=5) ?hd (cs:=#[.slice none 0 0,.slice none 0 0]) (t:=29) ?hr ?_;(case hd=>rfl);(case hg=>rfl);(case hr=>first|(go_simp;done)|(go_simp;rfl))
        intro gb824 hg w33 hbox hb
        have BK824:=zA (hbox)
        have GW824:=zA ((zG hg (below_size zB):w.heap.size≤gb824))
        have GE824:=zA ((zG hg (below_size zB):w.heap.size≤gb824))
        have NB799_824:=zA ((zl hg (zk BK799):gb799≠gb824))
        have NB824_799:=zA ((zg hg (zk BK799):gb824≠gb799))
        have NB800_824:=zA ((zl hg (zk BK800):gb800≠gb824))
        have NB824_800:=zA ((zg hg (zk BK800):gb824≠gb800))
        replace HO807:=zA (Kd.R_below (zR HO807) hb)
        replace HO810:=zA (Kd.R_below (zR HO810) hb)
        replace HO813:=zA (Kd.R_below (zR HO813) hb)
        replace HO816:=zA (Kd.R_below (zR HO816) hb)
        replace BK799:=zA (zb BK799 hb)
        replace BK800:=zA (zb BK800 hb)
        replace HB:=zA (below_step zB hb)
        clear hb hbox hg
        obtain ⟨Ao34,co34,eo34⟩:=Kd.R_slice HO807.out
        (first|subst eo34|(injection eo34 with f1_ f2_ f3_;have f4_:=f1_.symm;have f5_:=f3_.symm;clear f1_ f2_ f3_;subst f4_;subst f5_))
        obtain ⟨Ao35,co35,eo35⟩:=Kd.R_slice HO810.out
        (first|subst eo35|(injection eo35 with f1_ f2_ f3_;have f4_:=f1_.symm;have f5_:=f3_.symm;clear f1_ f2_ f3_;subst f4_;subst f5_))
        obtain ⟨Ao36,co36,eo36⟩:=Kd.R_slice HO813.out
        (first|subst eo36|(injection eo36 with f1_ f2_ f3_;have f4_:=f1_.symm;have f5_:=f3_.symm;clear f1_ f2_ f3_;subst f4_;subst f5_))
        obtain ⟨Ao37,co37,eo37⟩:=Kd.R_slice HO816.out
        (first|subst eo37|(injection eo37 with f1_ f2_ f3_;have f4_:=f1_.symm;have f5_:=f3_.symm;clear f1_ f2_ f3_;subst f4_;subst f5_))
        refine hK.out _ _ ⟨(blk_cell BK799.out 0).trans rfl,(blk_cell BK799.out 1).trans rfl,(blk_cell BK800.out 0).trans rfl,(blk_cell BK800.out 1).trans rfl⟩ (fun hHeld=>?_)
        clear hK K
        refine norm_ (a':=?_) ?_ ?_
        rotate_left
        ·show Act.put _ (some 5) _=_
         simp only [Act.put,zi,zs,zt,i64_w,i32_w]
         rfl
        refine one_ (i:=4) (N:=some 31) #[true,true,true,true,true,false,false,false,true,false,false] rfl rfl (one_of HT_.out zK) (by decide) (fun K hK=>?_)
        refine goes_ Try.func15 zK rfl #[.agg #[.slice Ao34 t805.length co34,.slice Ao35 t808.length co35],.agg #[.slice Ao36 t811.length co36,.slice Ao37 t814.length co37]] (by rfl) rfl rfl zM ?_
        with_reducible refine (table_Join.calls kj2 _ _ t805 _ _ t808 _ _ t811 _ _ t814 t817 t820 t823 _ ?side1 ?side2 ?side3 ?side4 ?side5 ?side6 ?side7 ?side8 A27.out).mono ?_
        (case side1=>exact zC (Kd.R_reads' HO807.out).2.2)
        (case side2=>exact (Kd.R_reads' HO807.out).2.1)
        (case side3=>exact zC (Kd.R_reads' HO810.out).2.2)
        (case side4=>exact (Kd.R_reads' HO810.out).2.1)
        (case side5=>exact zC (Kd.R_reads' HO813.out).2.2)
        (case side6=>exact (Kd.R_reads' HO813.out).2.1)
        (case side7=>exact zC (Kd.R_reads' HO816.out).2.2)
        (case side8=>exact (Kd.R_reads' HO816.out).2.1)
        rintro e w38 ⟨v818,v821,rfl,ho0,ho1,hb⟩
        refine ⟨_,rfl,?_⟩
        have HO819:=zA (Kd.R_lower (Kd.R_new' (Kd.R_new' (Kd.R_new' (Kd.R_new' ho0 (Kd.R_lt (zR HO807))) (Kd.R_lt (zR HO810))) (Kd.R_lt (zR HO813))) (Kd.R_lt (zR HO816))) (below_size zB))
        have HO822:=zA (Kd.R_lower (Kd.R_new' (Kd.R_new' (Kd.R_new' (Kd.R_new' ho1 (Kd.R_lt (zR HO807))) (Kd.R_lt (zR HO810))) (Kd.R_lt (zR HO813))) (Kd.R_lt (zR HO816))) (below_size zB))
        replace HO807:=zA (Kd.R_mono (Kd.R_told (Kd.R_told (Kd.R_old (zR HO807) hb) (Kd.R_base ho0)) (Kd.R_base ho1)) (fun _ h_=>h_.1))
        replace HO810:=zA (Kd.R_mono (Kd.R_told (Kd.R_told (Kd.R_old (zR HO810) hb) (Kd.R_base ho0)) (Kd.R_base ho1)) (fun _ h_=>h_.1))
        replace HO813:=zA (Kd.R_mono (Kd.R_told (Kd.R_told (Kd.R_old (zR HO813) hb) (Kd.R_base ho0)) (Kd.R_base ho1)) (fun _ h_=>h_.1))
        replace HO816:=zA (Kd.R_mono (Kd.R_told (Kd.R_told (Kd.R_old (zR HO816) hb) (Kd.R_base ho0)) (Kd.R_base ho1)) (fun _ h_=>h_.1))
        replace BK799:=zA (zb BK799 hb)
        replace BK800:=zA (zb BK800 hb)
        replace BK824:=zA (zb BK824 hb)
        replace HB:=zA (below_step zB hb)
        (try clear hb)
        (try clear hb2)
        (try clear hk)
        (try clear hi)
        (try clear ho0)
        (try clear ho1)
        refine hK.out _ _ ⟨(blk_cell BK799.out 0).trans rfl,(blk_cell BK799.out 1).trans rfl,(blk_cell BK800.out 0).trans rfl,(blk_cell BK800.out 1).trans rfl⟩ (fun hHeld=>?_)
        clear hK K
        refine norm_ (a':=?_) ?_ ?_
        rotate_left
        ·show Act.put _ (some 31) _=_
         simp only [Act.put,zi,zs,zt,i64_w,i32_w]
         rfl
        refine pure_ (i:=5) (N:=some 26) (v:=?_) (a':=?_) #[true,true,true,true,true,true,false,false,true,false,false] rfl rfl (any_of HT_.out zK) (fun _ _ _ h=>h) (Or.inl ⟨by rfl,?_⟩) ?_ ?_
        rotate_left
        ·intro w'
         go_simp
         with_reducible rfl
        rotate_left
        ·simp only [Act.put,zi,zs,zt,i64_w,i32_w]
         rfl
        refine pure_ (i:=6) (N:=some 32) (v:=?_) (a':=?_) #[true,true,true,true,true,true,true,false,true,false,false] rfl rfl (any_of HT_.out zK) (fun _ _ _ h=>h) (Or.inl ⟨by rfl,?_⟩) ?_ ?_
        rotate_left
        ·intro w'
         go_simp
         with_reducible rfl
        rotate_left
        ·simp only [Act.put,zi,zs,zt,i64_w,i32_w]
         rfl
        refine pure_ (i:=7) (N:=some 33) (v:=?_) (a':=?_) #[true,true,true,true,true,true,true,true,true,false,false] rfl rfl (any_of HT_.out zK) (fun _ _ _ h=>h) (Or.inl ⟨by rfl,?_⟩) ?_ ?_
        rotate_left
        ·intro w'
         go_simp
         with_reducible rfl
        rotate_left
        ·simp only [Act.put,zi,zs,zt,i64_w,i32_w]
         rfl
        exact norm_ (by simp only [putAll,Act.put,zi,zs,zt]) (hCont (.slice Ao34 t805.length co34,.slice Ao35 t808.length co35,.slice Ao36 t811.length co36,.slice Ao37 t814.length co37,v818,v821,gb824) _ ⟨hHeld,(by refine zr ?_;exact Kd.R_mono HO807.out (fun _ hk=>⟨hk.1.1.1.1,⟨hk.1.1.1.2,⟨hk.1.1.2,⟨hk.1.2,hk.2⟩⟩⟩⟩)),(by refine zr ?_;exact Kd.R_mono HO810.out (fun _ hk=>⟨hk.1.1.1.1,⟨hk.1.1.1.2,⟨hk.1.1.2,⟨hk.1.2,hk.2⟩⟩⟩⟩)),(by refine zr ?_;exact Kd.R_mono HO813.out (fun _ hk=>⟨hk.1.1.1.2,⟨hk.1.1.2,⟨hk.1.1.1.1,⟨hk.1.2,hk.2⟩⟩⟩⟩)),(by refine zr ?_;exact Kd.R_mono HO816.out (fun _ hk=>⟨hk.1.1.1.2,⟨hk.1.1.2,⟨hk.1.1.1.1,⟨hk.1.2,hk.2⟩⟩⟩⟩)),(by refine zr ?_;exact Kd.R_mono HO819.out (fun _ hk=>⟨hk.1.1.1.2,⟨hk.1.1.2,⟨hk.1.2,⟨hk.2,hk.1.1.1.1⟩⟩⟩⟩)),(by refine zr ?_;exact Kd.R_mono HO822.out (fun _ hk=>⟨hk.1.1.1.2,⟨hk.1.1.2,⟨hk.1.2,⟨hk.2,hk.1.1.1.1⟩⟩⟩⟩)),(zk BK799),(zk BK800),(zk BK824),GW824.out,GE824.out,NB799_824.out,NB824_799.out,NB800_824.out,NB824_800.out,zB⟩)
      ·skip
       refine box_step ?hg (N:=5) ?hd (cs:=#[.slice none 0 0,.slice none 0 0]) (t:=29) ?hr ?_;(case hd=>rfl);(case hg=>rfl);(case hr=>first|(go_simp;done)|(go_simp;rfl))
       intro gb824 hg w32 hbox hb
       have BK824:=zA (hbox)
       have GW824:=zA ((zG hg (below_size zB):w.heap.size≤gb824))
       have GE824:=zA ((zG hg (below_size zB):w.heap.size≤gb824))
       have NB799_824:=zA ((zl hg (zk BK799):gb799≠gb824))
       have NB824_799:=zA ((zg hg (zk BK799):gb824≠gb799))
       have NB800_824:=zA ((zl hg (zk BK800):gb800≠gb824))
       have NB824_800:=zA ((zg hg (zk BK800):gb824≠gb800))
       replace HO807:=zA (Kd.R_below (zR HO807) hb)
       replace HO810:=zA (Kd.R_below (zR HO810) hb)
       replace BK799:=zA (zb BK799 hb)
       replace BK800:=zA (zb BK800 hb)
       replace HB:=zA (below_step zB hb)
       clear hb hbox hg
       refine hK.out _ _ ⟨(blk_cell BK799.out 0).trans rfl,(blk_cell BK799.out 1).trans rfl,(blk_cell BK800.out 0).trans rfl,(blk_cell BK800.out 1).trans rfl⟩ (fun hHeld=>?_)
       clear hK K
       refine norm_ (a':=?_) ?_ ?_
       rotate_left
       ·show Act.put _ (some 5) _=_
        simp only [Act.put,zi,zs,zt,i64_w,i32_w]
        rfl
       refine one_ (i:=3) (N:=some 30) #[true,true,true,true,false,false,false,false,true,false,false] rfl rfl (one_of HT_.out zK) (by decide) (fun K hK=>?_)
       refine goes_ Try.func21 zK rfl #[.agg #[.slice A1_0 l1_0.length c1_0,.slice A1_1 l1_1.length c1_1]] (by rfl) rfl rfl zM ?_
       with_reducible refine (ancepslaw38_own.calls _ _ l1_0 _ _ l1_1 t811 t814 _ ?side1 ?side2 ?side3 ?side4 A26.out).mono ?_
       (case side1=>exact zC (Kd.C_below HR1_0.out HB.out))
       (case side2=>exact HC1_0.out)
       (case side3=>exact zC (Kd.C_below HR1_1.out HB.out))
       (case side4=>exact HC1_1.out)
       rintro e w33 ⟨v812,v815,rfl,ho0,ho1,hb⟩
       refine ⟨_,rfl,?_⟩
       have HO813:=zA (Kd.R_lower (Kd.R_new' (Kd.R_new' ho0 (Kd.R_lt (zR HO807))) (Kd.R_lt (zR HO810))) (below_size zB))
       have HO816:=zA (Kd.R_lower (Kd.R_new' (Kd.R_new' ho1 (Kd.R_lt (zR HO807))) (Kd.R_lt (zR HO810))) (below_size zB))
       replace HO807:=zA (Kd.R_mono (Kd.R_told (Kd.R_told (Kd.R_old (zR HO807) hb) (Kd.R_base ho0)) (Kd.R_base ho1)) (fun _ h_=>h_.1))
       replace HO810:=zA (Kd.R_mono (Kd.R_told (Kd.R_told (Kd.R_old (zR HO810) hb) (Kd.R_base ho0)) (Kd.R_base ho1)) (fun _ h_=>h_.1))
       replace BK799:=zA (zb BK799 hb)
       replace BK800:=zA (zb BK800 hb)
       replace BK824:=zA (zb BK824 hb)
       replace HB:=zA (below_step zB hb)
       (try clear hb)
       (try clear hb2)
       (try clear hk)
       (try clear hi)
       (try clear ho0)
       (try clear ho1)
       obtain ⟨Ao34,co34,eo34⟩:=Kd.R_slice HO807.out
       (first|subst eo34|(injection eo34 with f1_ f2_ f3_;have f4_:=f1_.symm;have f5_:=f3_.symm;clear f1_ f2_ f3_;subst f4_;subst f5_))
       obtain ⟨Ao35,co35,eo35⟩:=Kd.R_slice HO810.out
       (first|subst eo35|(injection eo35 with f1_ f2_ f3_;have f4_:=f1_.symm;have f5_:=f3_.symm;clear f1_ f2_ f3_;subst f4_;subst f5_))
       obtain ⟨Ao36,co36,eo36⟩:=Kd.R_slice HO813.out
       (first|subst eo36|(injection eo36 with f1_ f2_ f3_;have f4_:=f1_.symm;have f5_:=f3_.symm;clear f1_ f2_ f3_;subst f4_;subst f5_))
       obtain ⟨Ao37,co37,eo37⟩:=Kd.R_slice HO816.out
       (first|subst eo37|(injection eo37 with f1_ f2_ f3_;have f4_:=f1_.symm;have f5_:=f3_.symm;clear f1_ f2_ f3_;subst f4_;subst f5_))
       refine hK.out _ _ ⟨(blk_cell BK799.out 0).trans rfl,(blk_cell BK799.out 1).trans rfl,(blk_cell BK800.out 0).trans rfl,(blk_cell BK800.out 1).trans rfl⟩ (fun hHeld=>?_)
       clear hK K
       refine norm_ (a':=?_) ?_ ?_
       rotate_left
       ·show Act.put _ (some 30) _=_
        simp only [Act.put,zi,zs,zt,i64_w,i32_w]
        rfl
       refine one_ (i:=4) (N:=some 31) #[true,true,true,true,true,false,false,false,true,false,false] rfl rfl (one_of HT_.out zK) (by decide) (fun K hK=>?_)
       refine goes_ Try.func15 zK rfl #[.agg #[.slice Ao34 t805.length co34,.slice Ao35 t808.length co35],.agg #[.slice Ao36 t811.length co36,.slice Ao37 t814.length co37]] (by rfl) rfl rfl zM ?_
       with_reducible refine (table_Join.calls kj2 _ _ t805 _ _ t808 _ _ t811 _ _ t814 t817 t820 t823 _ ?side1 ?side2 ?side3 ?side4 ?side5 ?side6 ?side7 ?side8 A27.out).mono ?_
       (case side1=>exact zC (Kd.R_reads' HO807.out).2.2)
       (case side2=>exact (Kd.R_reads' HO807.out).2.1)
       (case side3=>exact zC (Kd.R_reads' HO810.out).2.2)
       (case side4=>exact (Kd.R_reads' HO810.out).2.1)
       (case side5=>exact zC (Kd.R_reads' HO813.out).2.2)
       (case side6=>exact (Kd.R_reads' HO813.out).2.1)
       (case side7=>exact zC (Kd.R_reads' HO816.out).2.2)
       (case side8=>exact (Kd.R_reads' HO816.out).2.1)
       rintro e w38 ⟨v818,v821,rfl,ho0,ho1,hb⟩
       refine ⟨_,rfl,?_⟩
       have HO819:=zA (Kd.R_lower (Kd.R_new' (Kd.R_new' (Kd.R_new' (Kd.R_new' ho0 (Kd.R_lt (zR HO807))) (Kd.R_lt (zR HO810))) (Kd.R_lt (zR HO813))) (Kd.R_lt (zR HO816))) (below_size zB))
       have HO822:=zA (Kd.R_lower (Kd.R_new' (Kd.R_new' (Kd.R_new' (Kd.R_new' ho1 (Kd.R_lt (zR HO807))) (Kd.R_lt (zR HO810))) (Kd.R_lt (zR HO813))) (Kd.R_lt (zR HO816))) (below_size zB))
       replace HO807:=zA (Kd.R_mono (Kd.R_told (Kd.R_told (Kd.R_old (zR HO807) hb) (Kd.R_base ho0)) (Kd.R_base ho1)) (fun _ h_=>h_.1))
       replace HO810:=zA (Kd.R_mono (Kd.R_told (Kd.R_told (Kd.R_old (zR HO810) hb) (Kd.R_base ho0)) (Kd.R_base ho1)) (fun _ h_=>h_.1))
       replace HO813:=zA (Kd.R_mono (Kd.R_told (Kd.R_told (Kd.R_old (zR HO813) hb) (Kd.R_base ho0)) (Kd.R_base ho1)) (fun _ h_=>h_.1))
       replace HO816:=zA (Kd.R_mono (Kd.R_told (Kd.R_told (Kd.R_old (zR HO816) hb) (Kd.R_base ho0)) (Kd.R_base ho1)) (fun _ h_=>h_.1))
       replace BK799:=zA (zb BK799 hb)
       replace BK800:=zA (zb BK800 hb)
       replace BK824:=zA (zb BK824 hb)
       replace HB:=zA (below_step zB hb)
       (try clear hb)
       (try clear hb2)
       (try clear hk)
       (try clear hi)
       (try clear ho0)
       (try clear ho1)
       refine hK.out _ _ ⟨(blk_cell BK799.out 0).trans rfl,(blk_cell BK799.out 1).trans rfl,(blk_cell BK800.out 0).trans rfl,(blk_cell BK800.out 1).trans rfl⟩ (fun hHeld=>?_)
       clear hK K
       refine norm_ (a':=?_) ?_ ?_
       rotate_left
       ·show Act.put _ (some 31) _=_
        simp only [Act.put,zi,zs,zt,i64_w,i32_w]
        rfl
       refine pure_ (i:=5) (N:=some 26) (v:=?_) (a':=?_) #[true,true,true,true,true,true,false,false,true,false,false] rfl rfl (any_of HT_.out zK) (fun _ _ _ h=>h) (Or.inl ⟨by rfl,?_⟩) ?_ ?_
       rotate_left
       ·intro w'
        go_simp
        with_reducible rfl
       rotate_left
       ·simp only [Act.put,zi,zs,zt,i64_w,i32_w]
        rfl
       refine pure_ (i:=6) (N:=some 32) (v:=?_) (a':=?_) #[true,true,true,true,true,true,true,false,true,false,false] rfl rfl (any_of HT_.out zK) (fun _ _ _ h=>h) (Or.inl ⟨by rfl,?_⟩) ?_ ?_
       rotate_left
       ·intro w'
        go_simp
        with_reducible rfl
       rotate_left
       ·simp only [Act.put,zi,zs,zt,i64_w,i32_w]
        rfl
       refine pure_ (i:=7) (N:=some 33) (v:=?_) (a':=?_) #[true,true,true,true,true,true,true,true,true,false,false] rfl rfl (any_of HT_.out zK) (fun _ _ _ h=>h) (Or.inl ⟨by rfl,?_⟩) ?_ ?_
       rotate_left
       ·intro w'
        go_simp
        with_reducible rfl
       rotate_left
       ·simp only [Act.put,zi,zs,zt,i64_w,i32_w]
        rfl
       exact norm_ (by simp only [putAll,Act.put,zi,zs,zt]) (hCont (.slice Ao34 t805.length co34,.slice Ao35 t808.length co35,.slice Ao36 t811.length co36,.slice Ao37 t814.length co37,v818,v821,gb824) _ ⟨hHeld,(by refine zr ?_;exact Kd.R_mono HO807.out (fun _ hk=>⟨hk.1.1.1.1,⟨hk.1.1.1.2,⟨hk.1.1.2,⟨hk.1.2,hk.2⟩⟩⟩⟩)),(by refine zr ?_;exact Kd.R_mono HO810.out (fun _ hk=>⟨hk.1.1.1.1,⟨hk.1.1.1.2,⟨hk.1.1.2,⟨hk.1.2,hk.2⟩⟩⟩⟩)),(by refine zr ?_;exact Kd.R_mono HO813.out (fun _ hk=>⟨hk.1.1.1.2,⟨hk.1.1.2,⟨hk.1.1.1.1,⟨hk.1.2,hk.2⟩⟩⟩⟩)),(by refine zr ?_;exact Kd.R_mono HO816.out (fun _ hk=>⟨hk.1.1.1.2,⟨hk.1.1.2,⟨hk.1.1.1.1,⟨hk.1.2,hk.2⟩⟩⟩⟩)),(by refine zr ?_;exact Kd.R_mono HO819.out (fun _ hk=>⟨hk.1.1.1.2,⟨hk.1.1.2,⟨hk.1.2,⟨hk.2,hk.1.1.1.1⟩⟩⟩⟩)),(by refine zr ?_;exact Kd.R_mono HO822.out (fun _ hk=>⟨hk.1.1.1.2,⟨hk.1.1.2,⟨hk.1.2,⟨hk.2,hk.1.1.1.1⟩⟩⟩⟩)),(zk BK799),(zk BK800),(zk BK824),GW824.out,GE824.out,NB799_824.out,NB824_799.out,NB800_824.out,NB824_800.out,zB⟩)
     ·skip
      refine box_step ?hg (N:=5) ?hd (cs:=#[.slice none 0 0,.slice none 0 0]) (t:=29) ?hr ?_;(case hd=>rfl);(case hg=>rfl);(case hr=>first|(go_simp;done)|(go_simp;rfl))
      intro gb824 hg w31 hbox hb
      have BK824:=zA (hbox)
      have GW824:=zA ((zG hg (below_size zB):w.heap.size≤gb824))
      have GE824:=zA ((zG hg (below_size zB):w.heap.size≤gb824))
      have NB799_824:=zA ((zl hg (zk BK799):gb799≠gb824))
      have NB824_799:=zA ((zg hg (zk BK799):gb824≠gb799))
      have NB800_824:=zA ((zl hg (zk BK800):gb800≠gb824))
      have NB824_800:=zA ((zg hg (zk BK800):gb824≠gb800))
      replace BK799:=zA (zb BK799 hb)
      replace BK800:=zA (zb BK800 hb)
      replace HB:=zA (below_step zB hb)
      clear hb hbox hg
      refine hK.out _ _ ⟨(blk_cell BK799.out 0).trans rfl,(blk_cell BK799.out 1).trans rfl,(blk_cell BK800.out 0).trans rfl,(blk_cell BK800.out 1).trans rfl⟩ (fun hHeld=>?_)
      clear hK K
      refine norm_ (a':=?_) ?_ ?_
      rotate_left
      ·show Act.put _ (some 5) _=_
       simp only [Act.put,zi,zs,zt,i64_w,i32_w]
       rfl
      refine one_ (i:=1) (N:=some 28) #[true,true,true,false,false,false,false,false,true,false,false] rfl rfl (one_of HT_.out zK) (by decide) (fun K hK=>?_)
      refine goes_ Try.func21 zK rfl #[.agg #[.slice A0_0 l0_0.length c0_0,.slice A0_1 l0_1.length c0_1]] (by rfl) rfl rfl zM ?_
      with_reducible refine (ancepslaw38_own.calls _ _ l0_0 _ _ l0_1 t805 t808 _ ?side1 ?side2 ?side3 ?side4 A25.out).mono ?_
      (case side1=>exact zC (Kd.C_below HR0_0.out HB.out))
      (case side2=>exact HC0_0.out)
      (case side3=>exact zC (Kd.C_below HR0_1.out HB.out))
      (case side4=>exact HC0_1.out)
      rintro e w32 ⟨v806,v809,rfl,ho0,ho1,hb⟩
      refine ⟨_,rfl,?_⟩
      have HO807:=zA (Kd.R_lower ho0 (below_size zB))
      have HO810:=zA (Kd.R_lower ho1 (below_size zB))
      replace BK799:=zA (zb BK799 hb)
      replace BK800:=zA (zb BK800 hb)
      replace BK824:=zA (zb BK824 hb)
      replace HB:=zA (below_step zB hb)
      (try clear hb)
      (try clear hb2)
      (try clear hk)
      (try clear hi)
      (try clear ho0)
      (try clear ho1)
      refine hK.out _ _ ⟨(blk_cell BK799.out 0).trans rfl,(blk_cell BK799.out 1).trans rfl,(blk_cell BK800.out 0).trans rfl,(blk_cell BK800.out 1).trans rfl⟩ (fun hHeld=>?_)
      clear hK K
      refine norm_ (a':=?_) ?_ ?_
      rotate_left
      ·show Act.put _ (some 28) _=_
       simp only [Act.put,zi,zs,zt,i64_w,i32_w]
       rfl
      refine one_ (i:=3) (N:=some 30) #[true,true,true,true,false,false,false,false,true,false,false] rfl rfl (one_of HT_.out zK) (by decide) (fun K hK=>?_)
      refine goes_ Try.func21 zK rfl #[.agg #[.slice A1_0 l1_0.length c1_0,.slice A1_1 l1_1.length c1_1]] (by rfl) rfl rfl zM ?_
      with_reducible refine (ancepslaw38_own.calls _ _ l1_0 _ _ l1_1 t811 t814 _ ?side1 ?side2 ?side3 ?side4 A26.out).mono ?_
      (case side1=>exact zC (Kd.C_below HR1_0.out HB.out))
      (case side2=>exact HC1_0.out)
      (case side3=>exact zC (Kd.C_below HR1_1.out HB.out))
      (case side4=>exact HC1_1.out)
      rintro e w33 ⟨v812,v815,rfl,ho0,ho1,hb⟩
      refine ⟨_,rfl,?_⟩
      have HO813:=zA (Kd.R_lower (Kd.R_new' (Kd.R_new' ho0 (Kd.R_lt (zR HO807))) (Kd.R_lt (zR HO810))) (below_size zB))
      have HO816:=zA (Kd.R_lower (Kd.R_new' (Kd.R_new' ho1 (Kd.R_lt (zR HO807))) (Kd.R_lt (zR HO810))) (below_size zB))
      replace HO807:=zA (Kd.R_mono (Kd.R_told (Kd.R_told (Kd.R_old (zR HO807) hb) (Kd.R_base ho0)) (Kd.R_base ho1)) (fun _ h_=>h_.1))
      replace HO810:=zA (Kd.R_mono (Kd.R_told (Kd.R_told (Kd.R_old (zR HO810) hb) (Kd.R_base ho0)) (Kd.R_base ho1)) (fun _ h_=>h_.1))
      replace BK799:=zA (zb BK799 hb)
      replace BK800:=zA (zb BK800 hb)
      replace BK824:=zA (zb BK824 hb)
      replace HB:=zA (below_step zB hb)
      (try clear hb)
      (try clear hb2)
      (try clear hk)
      (try clear hi)
      (try clear ho0)
      (try clear ho1)
      obtain ⟨Ao34,co34,eo34⟩:=Kd.R_slice HO807.out
      (first|subst eo34|(injection eo34 with f1_ f2_ f3_;have f4_:=f1_.symm;have f5_:=f3_.symm;clear f1_ f2_ f3_;subst f4_;subst f5_))
      obtain ⟨Ao35,co35,eo35⟩:=Kd.R_slice HO810.out
      (first|subst eo35|(injection eo35 with f1_ f2_ f3_;have f4_:=f1_.symm;have f5_:=f3_.symm;clear f1_ f2_ f3_;subst f4_;subst f5_))
      obtain ⟨Ao36,co36,eo36⟩:=Kd.R_slice HO813.out
      (first|subst eo36|(injection eo36 with f1_ f2_ f3_;have f4_:=f1_.symm;have f5_:=f3_.symm;clear f1_ f2_ f3_;subst f4_;subst f5_))
      obtain ⟨Ao37,co37,eo37⟩:=Kd.R_slice HO816.out
      (first|subst eo37|(injection eo37 with f1_ f2_ f3_;have f4_:=f1_.symm;have f5_:=f3_.symm;clear f1_ f2_ f3_;subst f4_;subst f5_))
      refine hK.out _ _ ⟨(blk_cell BK799.out 0).trans rfl,(blk_cell BK799.out 1).trans rfl,(blk_cell BK800.out 0).trans rfl,(blk_cell BK800.out 1).trans rfl⟩ (fun hHeld=>?_)
      clear hK K
      refine norm_ (a':=?_) ?_ ?_
      rotate_left
      ·show Act.put _ (some 30) _=_
       simp only [Act.put,zi,zs,zt,i64_w,i32_w]
       rfl
      refine one_ (i:=4) (N:=some 31) #[true,true,true,true,true,false,false,false,true,false,false] rfl rfl (one_of HT_.out zK) (by decide) (fun K hK=>?_)
      refine goes_ Try.func15 zK rfl #[.agg #[.slice Ao34 t805.length co34,.slice Ao35 t808.length co35],.agg #[.slice Ao36 t811.length co36,.slice Ao37 t814.length co37]] (by rfl) rfl rfl zM ?_
      with_reducible refine (table_Join.calls kj2 _ _ t805 _ _ t808 _ _ t811 _ _ t814 t817 t820 t823 _ ?side1 ?side2 ?side3 ?side4 ?side5 ?side6 ?side7 ?side8 A27.out).mono ?_
      (case side1=>exact zC (Kd.R_reads' HO807.out).2.2)
      (case side2=>exact (Kd.R_reads' HO807.out).2.1)
      (case side3=>exact zC (Kd.R_reads' HO810.out).2.2)
      (case side4=>exact (Kd.R_reads' HO810.out).2.1)
      (case side5=>exact zC (Kd.R_reads' HO813.out).2.2)
      (case side6=>exact (Kd.R_reads' HO813.out).2.1)
      (case side7=>exact zC (Kd.R_reads' HO816.out).2.2)
      (case side8=>exact (Kd.R_reads' HO816.out).2.1)
      rintro e w38 ⟨v818,v821,rfl,ho0,ho1,hb⟩
      refine ⟨_,rfl,?_⟩
      have HO819:=zA (Kd.R_lower (Kd.R_new' (Kd.R_new' (Kd.R_new' (Kd.R_new' ho0 (Kd.R_lt (zR HO807))) (Kd.R_lt (zR HO810))) (Kd.R_lt (zR HO813))) (Kd.R_lt (zR HO816))) (below_size zB))
      have HO822:=zA (Kd.R_lower (Kd.R_new' (Kd.R_new' (Kd.R_new' (Kd.R_new' ho1 (Kd.R_lt (zR HO807))) (Kd.R_lt (zR HO810))) (Kd.R_lt (zR HO813))) (Kd.R_lt (zR HO816))) (below_size zB))
      replace HO807:=zA (Kd.R_mono (Kd.R_told (Kd.R_told (Kd.R_old (zR HO807) hb) (Kd.R_base ho0)) (Kd.R_base ho1)) (fun _ h_=>h_.1))
      replace HO810:=zA (Kd.R_mono (Kd.R_told (Kd.R_told (Kd.R_old (zR HO810) hb) (Kd.R_base ho0)) (Kd.R_base ho1)) (fun _ h_=>h_.1))
      replace HO813:=zA (Kd.R_mono (Kd.R_told (Kd.R_told (Kd.R_old (zR HO813) hb) (Kd.R_base ho0)) (Kd.R_base ho1)) (fun _ h_=>h_.1))
      replace HO816:=zA (Kd.R_mono (Kd.R_told (Kd.R_told (Kd.R_old (zR HO816) hb) (Kd.R_base ho0)) (Kd.R_base ho1)) (fun _ h_=>h_.1))
      replace BK799:=zA (zb BK799 hb)
      replace BK800:=zA (zb BK800 hb)
      replace BK824:=zA (zb BK824 hb)
      replace HB:=zA (below_step zB hb)
      (try clear hb)
      (try clear hb2)
      (try clear hk)
      (try clear hi)
      (try clear ho0)
      (try clear ho1)
      refine hK.out _ _ ⟨(blk_cell BK799.out 0).trans rfl,(blk_cell BK799.out 1).trans rfl,(blk_cell BK800.out 0).trans rfl,(blk_cell BK800.out 1).trans rfl⟩ (fun hHeld=>?_)
      clear hK K
      refine norm_ (a':=?_) ?_ ?_
      rotate_left
      ·show Act.put _ (some 31) _=_
       simp only [Act.put,zi,zs,zt,i64_w,i32_w]
       rfl
      refine pure_ (i:=5) (N:=some 26) (v:=?_) (a':=?_) #[true,true,true,true,true,true,false,false,true,false,false] rfl rfl (any_of HT_.out zK) (fun _ _ _ h=>h) (Or.inl ⟨by rfl,?_⟩) ?_ ?_
      rotate_left
      ·intro w'
       go_simp
       with_reducible rfl
      rotate_left
      ·simp only [Act.put,zi,zs,zt,i64_w,i32_w]
       rfl
      refine pure_ (i:=6) (N:=some 32) (v:=?_) (a':=?_) #[true,true,true,true,true,true,true,false,true,false,false] rfl rfl (any_of HT_.out zK) (fun _ _ _ h=>h) (Or.inl ⟨by rfl,?_⟩) ?_ ?_
      rotate_left
      ·intro w'
       go_simp
       with_reducible rfl
      rotate_left
      ·simp only [Act.put,zi,zs,zt,i64_w,i32_w]
       rfl
      refine pure_ (i:=7) (N:=some 33) (v:=?_) (a':=?_) #[true,true,true,true,true,true,true,true,true,false,false] rfl rfl (any_of HT_.out zK) (fun _ _ _ h=>h) (Or.inl ⟨by rfl,?_⟩) ?_ ?_
      rotate_left
      ·intro w'
       go_simp
       with_reducible rfl
      rotate_left
      ·simp only [Act.put,zi,zs,zt,i64_w,i32_w]
       rfl
      exact norm_ (by simp only [putAll,Act.put,zi,zs,zt]) (hCont (.slice Ao34 t805.length co34,.slice Ao35 t808.length co35,.slice Ao36 t811.length co36,.slice Ao37 t814.length co37,v818,v821,gb824) _ ⟨hHeld,(by refine zr ?_;exact Kd.R_mono HO807.out (fun _ hk=>⟨hk.1.1.1.1,⟨hk.1.1.1.2,⟨hk.1.1.2,⟨hk.1.2,hk.2⟩⟩⟩⟩)),(by refine zr ?_;exact Kd.R_mono HO810.out (fun _ hk=>⟨hk.1.1.1.1,⟨hk.1.1.1.2,⟨hk.1.1.2,⟨hk.1.2,hk.2⟩⟩⟩⟩)),(by refine zr ?_;exact Kd.R_mono HO813.out (fun _ hk=>⟨hk.1.1.1.2,⟨hk.1.1.2,⟨hk.1.1.1.1,⟨hk.1.2,hk.2⟩⟩⟩⟩)),(by refine zr ?_;exact Kd.R_mono HO816.out (fun _ hk=>⟨hk.1.1.1.2,⟨hk.1.1.2,⟨hk.1.1.1.1,⟨hk.1.2,hk.2⟩⟩⟩⟩)),(by refine zr ?_;exact Kd.R_mono HO819.out (fun _ hk=>⟨hk.1.1.1.2,⟨hk.1.1.2,⟨hk.1.2,⟨hk.2,hk.1.1.1.1⟩⟩⟩⟩)),(by refine zr ?_;exact Kd.R_mono HO822.out (fun _ hk=>⟨hk.1.1.1.2,⟨hk.1.1.2,⟨hk.1.2,⟨hk.2,hk.1.1.1.1⟩⟩⟩⟩)),(zk BK799),(zk BK800),(zk BK824),GW824.out,GE824.out,NB799_824.out,NB824_799.out,NB800_824.out,NB824_800.out,zB⟩)
    rintro ⟨v806,v809,v812,v815,v818,v821,gb824⟩ w39 ⟨hS_,h0_,h1_,h2_,h3_,h4_,h5_,h6_,h7_,h8_,h9_,h10_,h11_,h12_,h13_,h14_,h15_⟩
    have HO807:Aside0 (Kd.R (Kd.int .i64) 3 w39 w.heap.size (fun k_=>some k_≠(v809:Value).ownBlock∧some k_≠(v812:Value).ownBlock∧some k_≠(v815:Value).ownBlock∧some k_≠(v818:Value).ownBlock∧some k_≠(v821:Value).ownBlock) v806 t805):=⟨h0_⟩
    have HO810:Aside0 (Kd.R (Kd.int .i64) 3 w39 w.heap.size (fun k_=>some k_≠(v806:Value).ownBlock∧some k_≠(v812:Value).ownBlock∧some k_≠(v815:Value).ownBlock∧some k_≠(v818:Value).ownBlock∧some k_≠(v821:Value).ownBlock) v809 t808):=⟨h1_⟩
    have HO813:Aside0 (Kd.R (Kd.int .i64) 3 w39 w.heap.size (fun k_=>some k_≠(v806:Value).ownBlock∧some k_≠(v809:Value).ownBlock∧some k_≠(v815:Value).ownBlock∧some k_≠(v818:Value).ownBlock∧some k_≠(v821:Value).ownBlock) v812 t811):=⟨h2_⟩
    have HO816:Aside0 (Kd.R (Kd.int .i64) 3 w39 w.heap.size (fun k_=>some k_≠(v806:Value).ownBlock∧some k_≠(v809:Value).ownBlock∧some k_≠(v812:Value).ownBlock∧some k_≠(v818:Value).ownBlock∧some k_≠(v821:Value).ownBlock) v815 t814):=⟨h3_⟩
    have HO819:Aside0 (Kd.R (Kd.int .i64) 3 w39 w.heap.size (fun k_=>some k_≠(v806:Value).ownBlock∧some k_≠(v809:Value).ownBlock∧some k_≠(v812:Value).ownBlock∧some k_≠(v815:Value).ownBlock∧some k_≠(v821:Value).ownBlock) v818 t817):=⟨h4_⟩
    have HO822:Aside0 (Kd.R (Kd.int .i64) 3 w39 w.heap.size (fun k_=>some k_≠(v806:Value).ownBlock∧some k_≠(v809:Value).ownBlock∧some k_≠(v812:Value).ownBlock∧some k_≠(v815:Value).ownBlock∧some k_≠(v818:Value).ownBlock) v821 t820):=⟨h5_⟩
    have BK824:Aside0 (w39.heap[gb824]?=some (.cells #[.slice none 0 0,.slice none 0 0] 29 (0,0))):=⟨h8_⟩
    have GW824:Aside0 (w.heap.size≤gb824):=⟨h9_⟩
    have GE824:Aside0 (w.heap.size≤gb824):=⟨h10_⟩
    have NB799_824:Aside0 (gb799≠gb824):=⟨h11_⟩
    have NB824_799:Aside0 (gb824≠gb799):=⟨h12_⟩
    have NB800_824:Aside0 (gb800≠gb824):=⟨h13_⟩
    have NB824_800:Aside0 (gb824≠gb800):=⟨h14_⟩
    replace BK799:Aside0 (w39.heap[gb799]?=some (.cells #[.slice A0_0 l0_0.length c0_0,.slice A0_1 l0_1.length c0_1] 29 (0,0))):=⟨h6_⟩
    replace BK800:Aside0 (w39.heap[gb800]?=some (.cells #[.slice A1_0 l1_0.length c1_0,.slice A1_1 l1_1.length c1_1] 29 (0,0))):=⟨h7_⟩
    replace HB:Aside0 (Below w.heap.size w w39):=⟨h15_⟩
    clear h0_ h1_ h2_ h3_ h4_ h5_ h6_ h7_ h8_ h9_ h10_ h11_ h12_ h13_ h14_ h15_
    have hHeld:w39.cell? ⟨gb799,0,none⟩=some (.slice A0_0 l0_0.length c0_0)∧w39.cell? ⟨gb799,1,none⟩=some (.slice A0_1 l0_1.length c0_1)∧w39.cell? ⟨gb800,0,none⟩=some (.slice A1_0 l1_0.length c1_0)∧w39.cell? ⟨gb800,1,none⟩=some (.slice A1_1 l1_1.length c1_1):=hS_
    obtain ⟨Ao40,co40,eo40⟩:=Kd.R_slice HO819.out
    (first|subst eo40|(injection eo40 with f1_ f2_ f3_;have f4_:=f1_.symm;have f5_:=f3_.symm;clear f1_ f2_ f3_;subst f4_;subst f5_))
    obtain ⟨Ao42,co42,eo42⟩:=Kd.R_slice HO822.out
    (first|subst eo42|(injection eo42 with f1_ f2_ f3_;have f4_:=f1_.symm;have f5_:=f3_.symm;clear f1_ f2_ f3_;subst f4_;subst f5_))
    refine norm_ (a':=?_) ?_ ?_
    rotate_left
    ·simp only [putAll,Act.put,zi,zs,zt]
     rfl
    refine one_ (i:=9) (N:=none) #[true,true,true,true,true,true,true,true,true,true,false] rfl rfl (one_of HT_.out zK) (by decide) (fun K hK=>?_)
    have hs41:w39.cell? ⟨gb824,0,none⟩=some (.slice none 0 0):=(blk_cell BK824.out 0).trans rfl
    have hfs41:=blk_frozen BK824.out 0
    have hns41_0:=NB799_824.out
    have hns41_1:=NB800_824.out
    have hms41_0:=NB824_799.out
    have hms41_1:=NB824_800.out
    have hs43:w39.cell? ⟨gb824,1,none⟩=some (.slice none 0 0):=(blk_cell BK824.out 1).trans rfl
    have hfs43:=blk_frozen BK824.out 1
    have hns43_0:=NB799_824.out
    have hns43_1:=NB800_824.out
    have hms43_0:=NB824_799.out
    have hms43_1:=NB824_800.out
    refine skip_ (w1:=?_) (by rfl) rfl ?_ ?_
    rotate_left
    ·go_simp
     rfl
    refine hK.out _ _ ⟨((cell_far (p:=⟨gb824,_,none⟩) NB799_824.out _).trans (((cell_far (p:=⟨gb824,_,none⟩) NB799_824.out _).trans (hHeld.1)))),((cell_far (p:=⟨gb824,_,none⟩) NB799_824.out _).trans (((cell_far (p:=⟨gb824,_,none⟩) NB799_824.out _).trans (hHeld.2.1)))),((cell_far (p:=⟨gb824,_,none⟩) NB800_824.out _).trans (((cell_far (p:=⟨gb824,_,none⟩) NB800_824.out _).trans (hHeld.2.2.1)))),((cell_far (p:=⟨gb824,_,none⟩) NB800_824.out _).trans (((cell_far (p:=⟨gb824,_,none⟩) NB800_824.out _).trans (hHeld.2.2.2))))⟩ (fun hHeld=>?_)
    clear hK K
    refine pure_ (i:=10) (N:=some 6) (v:=?_) (a':=?_) #[true,true,true,true,true,true,true,true,true,true,true] rfl rfl (any_of HT_.out zK) (fun _ _ _ h=>h) (Or.inl ⟨by rfl,?_⟩) ?_ ?_
    rotate_left
    ·intro w'
     go_simp
     with_reducible rfl
    rotate_left
    ·simp only [Act.put,zi,zs,zt,i64_w,i32_w]
     rfl
    refine done_ (done_of HT_.out zK) ?_
    have hnb44:=NB799_800.out
    have hnc44:=NB800_799.out
    have hnb45:=NB799_824.out
    have hnc45:=NB824_799.out
    have hcz46_0:w39.cell? ⟨gb799,0,none⟩=some (.slice A0_0 l0_0.length c0_0):=(blk_cell BK799.out 0).trans rfl
    have hcz46_1:w39.cell? ⟨gb799,1,none⟩=some (.slice A0_1 l0_1.length c0_1):=(blk_cell BK799.out 1).trans rfl
    have hfz46_0:=blk_frozen BK799.out 0
    have hfz46_1:=blk_frozen BK799.out 1
    have hnb47:=NB800_824.out
    have hnc47:=NB824_800.out
    have hcz48_0:w39.cell? ⟨gb800,0,none⟩=some (.slice A1_0 l1_0.length c1_0):=(blk_cell BK800.out 0).trans rfl
    have hcz48_1:w39.cell? ⟨gb800,1,none⟩=some (.slice A1_1 l1_1.length c1_1):=(blk_cell BK800.out 1).trans rfl
    have hfz48_0:=blk_frozen BK800.out 0
    have hfz48_1:=blk_frozen BK800.out 1
    go_upto_region 5 with (first|((with_reducible refine gate_callee (f:=30) rfl ?_);refine goesL_ (some 37) rfl rfl Try.func30 zK rfl #[.agg #[.slice A0_0 l0_0.length c0_0,.slice A0_1 l0_1.length c0_1],.agg #[.slice A1_0 l1_0.length c1_0,.slice A1_1 l1_1.length c1_1]] rfl zM ?_;(with_reducible refine (ancepsref38_Join.calls kj2 _ _ l0_0 _ _ l0_1 _ _ l1_0 _ _ l1_1 t825 t828 t831 _ ?side1 ?side2 ?side3 ?side4 ?side5 ?side6 ?side7 ?side8 A28.out).mono ?_);(case side1=>exact Kd.C_below HR0_0.out zB);(case side2=>exact HC0_0.out);(case side3=>exact Kd.C_below HR0_1.out zB);(case side4=>exact HC0_1.out);(case side5=>exact Kd.C_below HR1_0.out zB);(case side6=>exact HC1_0.out);(case side7=>exact Kd.C_below HR1_1.out zB);(case side8=>exact HC1_1.out);rintro e w49 ⟨v826,v829,rfl,ho0,ho1,hb⟩;refine ⟨_,rfl,?_⟩;have HO827:=zA (Kd.R_lower (Kd.R_new' (Kd.R_new' (Kd.R_new' (Kd.R_new' (Kd.R_new' (Kd.R_new' ho0 (Kd.R_lt (by refine zr ?_;exact (Kd.R_mono (Kd.R_far (p:=⟨gb824,1,none⟩) (Kd.R_far (p:=⟨gb824,0,none⟩) (Kd.R_types HO807.out BK824.out (by decide)) (fun _ hk=>hk.2) (.slice Ao40 t817.length co40)) (fun _ hk=>hk.2) (.slice Ao42 t820.length co42)) (fun _ h_=>h_.1))))) (Kd.R_lt (by refine zr ?_;exact (Kd.R_mono (Kd.R_far (p:=⟨gb824,1,none⟩) (Kd.R_far (p:=⟨gb824,0,none⟩) (Kd.R_types HO810.out BK824.out (by decide)) (fun _ hk=>hk.2) (.slice Ao40 t817.length co40)) (fun _ hk=>hk.2) (.slice Ao42 t820.length co42)) (fun _ h_=>h_.1))))) (Kd.R_lt (by refine zr ?_;exact (Kd.R_mono (Kd.R_far (p:=⟨gb824,1,none⟩) (Kd.R_far (p:=⟨gb824,0,none⟩) (Kd.R_types HO813.out BK824.out (by decide)) (fun _ hk=>hk.2) (.slice Ao40 t817.length co40)) (fun _ hk=>hk.2) (.slice Ao42 t820.length co42)) (fun _ h_=>h_.1))))) (Kd.R_lt (by refine zr ?_;exact (Kd.R_mono (Kd.R_far (p:=⟨gb824,1,none⟩) (Kd.R_far (p:=⟨gb824,0,none⟩) (Kd.R_types HO816.out BK824.out (by decide)) (fun _ hk=>hk.2) (.slice Ao40 t817.length co40)) (fun _ hk=>hk.2) (.slice Ao42 t820.length co42)) (fun _ h_=>h_.1))))) (Kd.R_lt (by refine zr ?_;exact (Kd.R_mono (Kd.R_far (p:=⟨gb824,1,none⟩) (Kd.R_far (p:=⟨gb824,0,none⟩) (Kd.R_types HO819.out BK824.out (by decide)) (fun _ hk=>hk.2) (.slice Ao40 t817.length co40)) (fun _ hk=>hk.2) (.slice Ao42 t820.length co42)) (fun _ h_=>h_.1))))) (Kd.R_lt (by refine zr ?_;exact (Kd.R_mono (Kd.R_far (p:=⟨gb824,1,none⟩) (Kd.R_far (p:=⟨gb824,0,none⟩) (Kd.R_types HO822.out BK824.out (by decide)) (fun _ hk=>hk.2) (.slice Ao40 t817.length co40)) (fun _ hk=>hk.2) (.slice Ao42 t820.length co42)) (fun _ h_=>h_.1))))) (below_size zB));have HO830:=zA (Kd.R_lower (Kd.R_new' (Kd.R_new' (Kd.R_new' (Kd.R_new' (Kd.R_new' (Kd.R_new' ho1 (Kd.R_lt (by refine zr ?_;exact (Kd.R_mono (Kd.R_far (p:=⟨gb824,1,none⟩) (Kd.R_far (p:=⟨gb824,0,none⟩) (Kd.R_types HO807.out BK824.out (by decide)) (fun _ hk=>hk.2) (.slice Ao40 t817.length co40)) (fun _ hk=>hk.2) (.slice Ao42 t820.length co42)) (fun _ h_=>h_.1))))) (Kd.R_lt (by refine zr ?_;exact (Kd.R_mono (Kd.R_far (p:=⟨gb824,1,none⟩) (Kd.R_far (p:=⟨gb824,0,none⟩) (Kd.R_types HO810.out BK824.out (by decide)) (fun _ hk=>hk.2) (.slice Ao40 t817.length co40)) (fun _ hk=>hk.2) (.slice Ao42 t820.length co42)) (fun _ h_=>h_.1))))) (Kd.R_lt (by refine zr ?_;exact (Kd.R_mono (Kd.R_far (p:=⟨gb824,1,none⟩) (Kd.R_far (p:=⟨gb824,0,none⟩) (Kd.R_types HO813.out BK824.out (by decide)) (fun _ hk=>hk.2) (.slice Ao40 t817.length co40)) (fun _ hk=>hk.2) (.slice Ao42 t820.length co42)) (fun _ h_=>h_.1))))) (Kd.R_lt (by refine zr ?_;exact (Kd.R_mono (Kd.R_far (p:=⟨gb824,1,none⟩) (Kd.R_far (p:=⟨gb824,0,none⟩) (Kd.R_types HO816.out BK824.out (by decide)) (fun _ hk=>hk.2) (.slice Ao40 t817.length co40)) (fun _ hk=>hk.2) (.slice Ao42 t820.length co42)) (fun _ h_=>h_.1))))) (Kd.R_lt (by refine zr ?_;exact (Kd.R_mono (Kd.R_far (p:=⟨gb824,1,none⟩) (Kd.R_far (p:=⟨gb824,0,none⟩) (Kd.R_types HO819.out BK824.out (by decide)) (fun _ hk=>hk.2) (.slice Ao40 t817.length co40)) (fun _ hk=>hk.2) (.slice Ao42 t820.length co42)) (fun _ h_=>h_.1))))) (Kd.R_lt (by refine zr ?_;exact (Kd.R_mono (Kd.R_far (p:=⟨gb824,1,none⟩) (Kd.R_far (p:=⟨gb824,0,none⟩) (Kd.R_types HO822.out BK824.out (by decide)) (fun _ hk=>hk.2) (.slice Ao40 t817.length co40)) (fun _ hk=>hk.2) (.slice Ao42 t820.length co42)) (fun _ h_=>h_.1))))) (below_size zB));replace HO807:=zA (Kd.R_mono (Kd.R_told (Kd.R_told (Kd.R_old (by refine zr ?_;exact (Kd.R_mono (Kd.R_far (p:=⟨gb824,1,none⟩) (Kd.R_far (p:=⟨gb824,0,none⟩) (Kd.R_types HO807.out BK824.out (by decide)) (fun _ hk=>hk.2) (.slice Ao40 t817.length co40)) (fun _ hk=>hk.2) (.slice Ao42 t820.length co42)) (fun _ h_=>h_.1))) hb) (Kd.R_base ho0)) (Kd.R_base ho1)) (fun _ h_=>h_.1));replace HO810:=zA (Kd.R_mono (Kd.R_told (Kd.R_told (Kd.R_old (by refine zr ?_;exact (Kd.R_mono (Kd.R_far (p:=⟨gb824,1,none⟩) (Kd.R_far (p:=⟨gb824,0,none⟩) (Kd.R_types HO810.out BK824.out (by decide)) (fun _ hk=>hk.2) (.slice Ao40 t817.length co40)) (fun _ hk=>hk.2) (.slice Ao42 t820.length co42)) (fun _ h_=>h_.1))) hb) (Kd.R_base ho0)) (Kd.R_base ho1)) (fun _ h_=>h_.1));replace HO813:=zA (Kd.R_mono (Kd.R_told (Kd.R_told (Kd.R_old (by refine zr ?_;exact (Kd.R_mono (Kd.R_far (p:=⟨gb824,1,none⟩) (Kd.R_far (p:=⟨gb824,0,none⟩) (Kd.R_types HO813.out BK824.out (by decide)) (fun _ hk=>hk.2) (.slice Ao40 t817.length co40)) (fun _ hk=>hk.2) (.slice Ao42 t820.length co42)) (fun _ h_=>h_.1))) hb) (Kd.R_base ho0)) (Kd.R_base ho1)) (fun _ h_=>h_.1));replace HO816:=zA (Kd.R_mono (Kd.R_told (Kd.R_told (Kd.R_old (by refine zr ?_;exact (Kd.R_mono (Kd.R_far (p:=⟨gb824,1,none⟩) (Kd.R_far (p:=⟨gb824,0,none⟩) (Kd.R_types HO816.out BK824.out (by decide)) (fun _ hk=>hk.2) (.slice Ao40 t817.length co40)) (fun _ hk=>hk.2) (.slice Ao42 t820.length co42)) (fun _ h_=>h_.1))) hb) (Kd.R_base ho0)) (Kd.R_base ho1)) (fun _ h_=>h_.1));replace HO819:=zA (Kd.R_mono (Kd.R_told (Kd.R_told (Kd.R_old (by refine zr ?_;exact (Kd.R_mono (Kd.R_far (p:=⟨gb824,1,none⟩) (Kd.R_far (p:=⟨gb824,0,none⟩) (Kd.R_types HO819.out BK824.out (by decide)) (fun _ hk=>hk.2) (.slice Ao40 t817.length co40)) (fun _ hk=>hk.2) (.slice Ao42 t820.length co42)) (fun _ h_=>h_.1))) hb) (Kd.R_base ho0)) (Kd.R_base ho1)) (fun _ h_=>h_.1));replace HO822:=zA (Kd.R_mono (Kd.R_told (Kd.R_told (Kd.R_old (by refine zr ?_;exact (Kd.R_mono (Kd.R_far (p:=⟨gb824,1,none⟩) (Kd.R_far (p:=⟨gb824,0,none⟩) (Kd.R_types HO822.out BK824.out (by decide)) (fun _ hk=>hk.2) (.slice Ao40 t817.length co40)) (fun _ hk=>hk.2) (.slice Ao42 t820.length co42)) (fun _ h_=>h_.1))) hb) (Kd.R_base ho0)) (Kd.R_base ho1)) (fun _ h_=>h_.1));replace BK799:=zA (blk_below (g:=gb799) (o:=.cells #[.slice A0_0 l0_0.length c0_0,.slice A0_1 l0_1.length c0_1] 29 (0,0)) (by refine zj ?_;refine blk_far ?_ NB799_824.out _;refine zj ?_;refine blk_far ?_ NB799_824.out _;refine zj ?_;exact BK799.out) hb);replace BK800:=zA (blk_below (g:=gb800) (o:=.cells #[.slice A1_0 l1_0.length c1_0,.slice A1_1 l1_1.length c1_1] 29 (0,0)) (by refine zj ?_;refine blk_far ?_ NB800_824.out _;refine zj ?_;refine blk_far ?_ NB800_824.out _;refine zj ?_;exact BK800.out) hb);replace BK824:=zA (blk_below (g:=gb824) (o:=.cells #[.slice Ao40 t817.length co40,.slice Ao42 t820.length co42] 29 (0,0)) (by refine zj ?_;refine blk_put (cs:=#[.slice Ao40 t817.length co40,.slice none 0 0]) ?_ 1 _ rfl;refine zj ?_;refine blk_put (cs:=#[.slice none 0 0,.slice none 0 0]) ?_ 0 _ rfl;refine zj ?_;exact BK824.out) hb);replace HB:=zA (below_step zB hb);(try clear hb);(try clear hb2);(try clear hk);(try clear hi);(try clear ho0);(try clear ho1))|((with_reducible refine gate_dst (N:=7) rfl ?_);refine box_event ?hg (N:=7) ?hd (cs:=#[.slice none 0 0,.slice none 0 0]) (t:=29) ?hr ?_;(case hd=>rfl);(case hg=>rfl);(case hr=>first|(go_simp;done)|(go_simp;rfl));intro gb832 hg w50 hbox hb;have BK832:=zA (hbox);have GW832:=zA (zG hg (below_size zB):w.heap.size≤gb832);have GE832:=GW832;have NB799_832:=zA ((zl hg (zk BK799):gb799≠gb832));have NB832_799:=zA ((zg hg (zk BK799):gb832≠gb799));have NB800_832:=zA ((zl hg (zk BK800):gb800≠gb832));have NB832_800:=zA ((zg hg (zk BK800):gb832≠gb800));have NB824_832:=zA ((zl hg (zk BK824):gb824≠gb832));have NB832_824:=zA ((zg hg (zk BK824):gb832≠gb824));replace HO807:=zA (Kd.R_below (zR HO807) hb);replace HO810:=zA (Kd.R_below (zR HO810) hb);replace HO813:=zA (Kd.R_below (zR HO813) hb);replace HO816:=zA (Kd.R_below (zR HO816) hb);replace HO819:=zA (Kd.R_below (zR HO819) hb);replace HO822:=zA (Kd.R_below (zR HO822) hb);replace HO827:=zA (Kd.R_below (zR HO827) hb);replace HO830:=zA (Kd.R_below (zR HO830) hb);replace BK799:=zA (zb BK799 hb);replace BK800:=zA (zb BK800 hb);replace BK824:=zA (zb BK824 hb);replace HB:=zA (below_step zB hb);clear hb hbox hg;obtain ⟨Ao51,co51,eo51⟩:=Kd.R_slice HO827.out;subst eo51;have hnb52:=NB832_799.out;have hnc52:=NB799_832.out;have hnb53:=NB832_800.out;have hnc53:=NB800_832.out;have hnb54:=NB832_824.out;have hnc54:=NB824_832.out;have hcz55_0:w50.cell? ⟨gb832,0,none⟩=some (.slice none 0 0):=(blk_cell BK832.out 0).trans rfl;have hcz55_1:w50.cell? ⟨gb832,1,none⟩=some (.slice none 0 0):=(blk_cell BK832.out 1).trans rfl;have hfz55_0:=blk_frozen BK832.out 0;have hfz55_1:=blk_frozen BK832.out 1;obtain ⟨Ao56,co56,eo56⟩:=Kd.R_slice HO830.out;subst eo56))
    (try simp only [Act.put,zi,zs,zt])
    go_cut [48] (fun v48 wc=>∃ (kq:Nat) (x48_28:Bool),v48=.bool x48_28∧Aside0 (ancepslaw38_TableTwo.j1 kq x48_28 l0_0 l0_1 l1_0 l1_1=some r)∧Aside0 (kq≤kj2)∧Aside0 (Kd.R (Kd.int .i64) 3 wc w.heap.size (fun k_=>some k_≠((.slice Ao42 t820.length co42):Value).ownBlock∧some k_≠((.slice Ao51 t825.length co51):Value).ownBlock∧some k_≠((.slice Ao56 t828.length co56):Value).ownBlock) (.slice Ao40 t817.length co40) t817)∧Aside0 (Kd.R (Kd.int .i64) 3 wc w.heap.size (fun k_=>some k_≠((.slice Ao40 t817.length co40):Value).ownBlock∧some k_≠((.slice Ao51 t825.length co51):Value).ownBlock∧some k_≠((.slice Ao56 t828.length co56):Value).ownBlock) (.slice Ao42 t820.length co42) t820)∧Aside0 (Kd.R (Kd.int .i64) 3 wc w.heap.size (fun k_=>some k_≠((.slice Ao40 t817.length co40):Value).ownBlock∧some k_≠((.slice Ao42 t820.length co42):Value).ownBlock∧some k_≠((.slice Ao56 t828.length co56):Value).ownBlock) (.slice Ao51 t825.length co51) t825)∧Aside0 (Kd.R (Kd.int .i64) 3 wc w.heap.size (fun k_=>some k_≠((.slice Ao40 t817.length co40):Value).ownBlock∧some k_≠((.slice Ao42 t820.length co42):Value).ownBlock∧some k_≠((.slice Ao51 t825.length co51):Value).ownBlock) (.slice Ao56 t828.length co56) t828)∧Aside0 (wc.heap[gb799]?=some (.cells #[(.slice A0_0 l0_0.length c0_0),(.slice A0_1 l0_1.length c0_1)] 29 (0,0)))∧Aside0 (wc.heap[gb800]?=some (.cells #[(.slice A1_0 l1_0.length c1_0),(.slice A1_1 l1_1.length c1_1)] 29 (0,0)))∧Aside0 (wc.heap[gb824]?=some (.cells #[(.slice Ao40 t817.length co40),(.slice Ao42 t820.length co42)] 29 (0,0)))∧Aside0 (wc.heap[gb832]?=some (.cells #[(.slice Ao51 t825.length co51),(.slice Ao56 t828.length co56)] 29 (0,0)))∧Aside0 (Below w.heap.size w wc))
    case first=>
     have H:=HC29.out
     clear HC29
     by_cases c57:t823=t831
     ·rw [if_pos c57] at H
      have c57b0:(t823 == t831)=true:=beq_iff_eq.mpr c57
      have c57b1:(t823 != t831)=false:=bne_eq_false_iff_eq.mpr c57
      clear c57
      (first|rw [c57b0]|(simp only [i64_w,i32_w];rw [c57b0])|skip)
      (try rw [c57b1])
      replace H:=Option.bind_eq_some_iff.mp H
      obtain ⟨t833,A580,H⟩:=H
      replace H:(ancepslaw38_TableTwo.j1 kj2 (!t833) l0_0 l0_1 l1_0 l1_1)=some r:=H
      have A58:=zA A580
      clear A580
      have H':=zA H
      clear H
      have hnb59:=NB824_799.out
      have hnc59:=NB799_824.out
      have hnb60:=NB824_800.out
      have hnc60:=NB800_824.out
      have hnb61:=NB824_832.out
      have hnc61:=NB832_824.out
      have hcz62_0:w50.cell? ⟨gb824,0,none⟩=some (.slice Ao40 t817.length co40):=(blk_cell BK824.out 0).trans rfl
      have hcz62_1:w50.cell? ⟨gb824,1,none⟩=some (.slice Ao42 t820.length co42):=(blk_cell BK824.out 1).trans rfl
      have hfz62_0:=blk_frozen BK824.out 0
      have hfz62_1:=blk_frozen BK824.out 1
      have hnb63:=NB832_799.out
      have hnc63:=NB799_832.out
      have hnb64:=NB832_800.out
      have hnc64:=NB800_832.out
      have hcz65_0:w50.cell? ⟨gb832,0,none⟩=some (.slice none 0 0):=(blk_cell BK832.out 0).trans rfl
      have hcz65_1:w50.cell? ⟨gb832,1,none⟩=some (.slice none 0 0):=(blk_cell BK832.out 1).trans rfl
      have hfz65_0:=blk_frozen BK832.out 0
      have hfz65_1:=blk_frozen BK832.out 1
      go_wp2_with (first|(go_at_call 18;(with_reducible refine (ancepsref38_Equal.calls kj2 _ _ t817 _ _ t820 _ _ t825 _ _ t828 t833 _ ?side1 ?side2 ?side3 ?side4 ?side5 ?side6 ?side7 ?side8 A58.out).mono ?_);(case side1=>refine (Kd.R_reads' (e:=3) (base:=w.heap.size) (ok:=fun k_=>(((some k_≠(v806:Value).ownBlock∧(some k_≠(v809:Value).ownBlock∧(some k_≠(v812:Value).ownBlock∧(some k_≠(v815:Value).ownBlock∧some k_≠(.slice Ao42 t820.length co42:Value).ownBlock))))∧some k_≠(.slice Ao51 t825.length co51:Value).ownBlock)∧some k_≠(.slice Ao56 t828.length co56:Value).ownBlock)) (n:=t817.length) (c:=co40) ?_).2.2;exact (by refine zr ?_;exact (Kd.R_mono (Kd.R_far (p:=⟨gb832,1,none⟩) (Kd.R_far (p:=⟨gb832,0,none⟩) (Kd.R_types HO819.out BK832.out (by decide)) (fun _ hk=>hk.2) (.slice Ao51 t825.length co51)) (fun _ hk=>hk.2) (.slice Ao56 t828.length co56)) (fun _ h_=>h_.1))));(case side2=>exact (Kd.R_reads' HO819.out).2.1);(case side3=>refine (Kd.R_reads' (e:=3) (base:=w.heap.size) (ok:=fun k_=>(((some k_≠(v806:Value).ownBlock∧(some k_≠(v809:Value).ownBlock∧(some k_≠(v812:Value).ownBlock∧(some k_≠(v815:Value).ownBlock∧some k_≠(.slice Ao40 t817.length co40:Value).ownBlock))))∧some k_≠(.slice Ao51 t825.length co51:Value).ownBlock)∧some k_≠(.slice Ao56 t828.length co56:Value).ownBlock)) (n:=t820.length) (c:=co42) ?_).2.2;exact (by refine zr ?_;exact (Kd.R_mono (Kd.R_far (p:=⟨gb832,1,none⟩) (Kd.R_far (p:=⟨gb832,0,none⟩) (Kd.R_types HO822.out BK832.out (by decide)) (fun _ hk=>hk.2) (.slice Ao51 t825.length co51)) (fun _ hk=>hk.2) (.slice Ao56 t828.length co56)) (fun _ h_=>h_.1))));(case side4=>exact (Kd.R_reads' HO822.out).2.1);(case side5=>refine (Kd.R_reads' (e:=3) (base:=w.heap.size) (ok:=fun k_=>((((((some k_≠(.slice Ao56 t828.length co56:Value).ownBlock∧some k_≠(v806:Value).ownBlock)∧some k_≠(v809:Value).ownBlock)∧some k_≠(v812:Value).ownBlock)∧some k_≠(v815:Value).ownBlock)∧some k_≠(.slice Ao40 t817.length co40:Value).ownBlock)∧some k_≠(.slice Ao42 t820.length co42:Value).ownBlock)) (n:=t825.length) (c:=co51) ?_).2.2;exact (by refine zr ?_;exact (Kd.R_mono (Kd.R_far (p:=⟨gb832,1,none⟩) (Kd.R_far (p:=⟨gb832,0,none⟩) (Kd.R_types HO827.out BK832.out (by decide)) (fun _ hk=>hk.2) (.slice Ao51 t825.length co51)) (fun _ hk=>hk.2) (.slice Ao56 t828.length co56)) (fun _ h_=>h_.1))));(case side6=>exact (Kd.R_reads' HO827.out).2.1);(case side7=>refine (Kd.R_reads' (e:=3) (base:=w.heap.size) (ok:=fun k_=>((((((some k_≠(.slice Ao51 t825.length co51:Value).ownBlock∧some k_≠(v806:Value).ownBlock)∧some k_≠(v809:Value).ownBlock)∧some k_≠(v812:Value).ownBlock)∧some k_≠(v815:Value).ownBlock)∧some k_≠(.slice Ao40 t817.length co40:Value).ownBlock)∧some k_≠(.slice Ao42 t820.length co42:Value).ownBlock)) (n:=t828.length) (c:=co56) ?_).2.2;exact (by refine zr ?_;exact (Kd.R_mono (Kd.R_far (p:=⟨gb832,1,none⟩) (Kd.R_far (p:=⟨gb832,0,none⟩) (Kd.R_types HO830.out BK832.out (by decide)) (fun _ hk=>hk.2) (.slice Ao51 t825.length co51)) (fun _ hk=>hk.2) (.slice Ao56 t828.length co56)) (fun _ h_=>h_.1))));(case side8=>exact (Kd.R_reads' HO830.out).2.1);rintro e w66 ⟨rfl,hb⟩;replace HO807:=zA (Kd.R_below (by refine zr ?_;exact (Kd.R_mono (Kd.R_far (p:=⟨gb832,1,none⟩) (Kd.R_far (p:=⟨gb832,0,none⟩) (Kd.R_types HO807.out BK832.out (by decide)) (fun _ hk=>hk.2) (.slice Ao51 t825.length co51)) (fun _ hk=>hk.2) (.slice Ao56 t828.length co56)) (fun _ h_=>h_.1))) hb);replace HO810:=zA (Kd.R_below (by refine zr ?_;exact (Kd.R_mono (Kd.R_far (p:=⟨gb832,1,none⟩) (Kd.R_far (p:=⟨gb832,0,none⟩) (Kd.R_types HO810.out BK832.out (by decide)) (fun _ hk=>hk.2) (.slice Ao51 t825.length co51)) (fun _ hk=>hk.2) (.slice Ao56 t828.length co56)) (fun _ h_=>h_.1))) hb);replace HO813:=zA (Kd.R_below (by refine zr ?_;exact (Kd.R_mono (Kd.R_far (p:=⟨gb832,1,none⟩) (Kd.R_far (p:=⟨gb832,0,none⟩) (Kd.R_types HO813.out BK832.out (by decide)) (fun _ hk=>hk.2) (.slice Ao51 t825.length co51)) (fun _ hk=>hk.2) (.slice Ao56 t828.length co56)) (fun _ h_=>h_.1))) hb);replace HO816:=zA (Kd.R_below (by refine zr ?_;exact (Kd.R_mono (Kd.R_far (p:=⟨gb832,1,none⟩) (Kd.R_far (p:=⟨gb832,0,none⟩) (Kd.R_types HO816.out BK832.out (by decide)) (fun _ hk=>hk.2) (.slice Ao51 t825.length co51)) (fun _ hk=>hk.2) (.slice Ao56 t828.length co56)) (fun _ h_=>h_.1))) hb);replace HO819:=zA (Kd.R_below (by refine zr ?_;exact (Kd.R_mono (Kd.R_far (p:=⟨gb832,1,none⟩) (Kd.R_far (p:=⟨gb832,0,none⟩) (Kd.R_types HO819.out BK832.out (by decide)) (fun _ hk=>hk.2) (.slice Ao51 t825.length co51)) (fun _ hk=>hk.2) (.slice Ao56 t828.length co56)) (fun _ h_=>h_.1))) hb);replace HO822:=zA (Kd.R_below (by refine zr ?_;exact (Kd.R_mono (Kd.R_far (p:=⟨gb832,1,none⟩) (Kd.R_far (p:=⟨gb832,0,none⟩) (Kd.R_types HO822.out BK832.out (by decide)) (fun _ hk=>hk.2) (.slice Ao51 t825.length co51)) (fun _ hk=>hk.2) (.slice Ao56 t828.length co56)) (fun _ h_=>h_.1))) hb);replace HO827:=zA (Kd.R_below (by refine zr ?_;exact (Kd.R_mono (Kd.R_far (p:=⟨gb832,1,none⟩) (Kd.R_far (p:=⟨gb832,0,none⟩) (Kd.R_types HO827.out BK832.out (by decide)) (fun _ hk=>hk.2) (.slice Ao51 t825.length co51)) (fun _ hk=>hk.2) (.slice Ao56 t828.length co56)) (fun _ h_=>h_.1))) hb);replace HO830:=zA (Kd.R_below (by refine zr ?_;exact (Kd.R_mono (Kd.R_far (p:=⟨gb832,1,none⟩) (Kd.R_far (p:=⟨gb832,0,none⟩) (Kd.R_types HO830.out BK832.out (by decide)) (fun _ hk=>hk.2) (.slice Ao51 t825.length co51)) (fun _ hk=>hk.2) (.slice Ao56 t828.length co56)) (fun _ h_=>h_.1))) hb);replace BK799:=zA (blk_below (g:=gb799) (o:=.cells #[.slice A0_0 l0_0.length c0_0,.slice A0_1 l0_1.length c0_1] 29 (0,0)) (by refine zj ?_;refine blk_far ?_ NB799_832.out _;refine zj ?_;refine blk_far ?_ NB799_832.out _;refine zj ?_;exact BK799.out) hb);replace BK800:=zA (blk_below (g:=gb800) (o:=.cells #[.slice A1_0 l1_0.length c1_0,.slice A1_1 l1_1.length c1_1] 29 (0,0)) (by refine zj ?_;refine blk_far ?_ NB800_832.out _;refine zj ?_;refine blk_far ?_ NB800_832.out _;refine zj ?_;exact BK800.out) hb);replace BK824:=zA (blk_below (g:=gb824) (o:=.cells #[.slice Ao40 t817.length co40,.slice Ao42 t820.length co42] 29 (0,0)) (by refine zj ?_;refine blk_far ?_ NB824_832.out _;refine zj ?_;refine blk_far ?_ NB824_832.out _;refine zj ?_;exact BK824.out) hb);replace BK832:=zA (blk_below (g:=gb832) (o:=.cells #[.slice Ao51 t825.length co51,.slice Ao56 t828.length co56] 29 (0,0)) (by refine zj ?_;refine blk_put (cs:=#[.slice Ao51 t825.length co51,.slice none 0 0]) ?_ 1 _ rfl;refine zj ?_;refine blk_put (cs:=#[.slice none 0 0,.slice none 0 0]) ?_ 0 _ rfl;refine zj ?_;exact BK832.out) hb);replace HB:=zA (below_step zB hb);(try clear hb);(try clear hb2);(try clear hk);(try clear hi)))
      go_meet
      case rel=>exact ⟨_,(!t833),zT,H',⟨by have:=HJ2.out;first|omega|exact Nat.le_refl _⟩,⟨by refine zr ?_;exact Kd.R_mono HO819.out (fun _ hk=>⟨hk.1.1.2.2.2.2,⟨hk.1.2,hk.2⟩⟩)⟩,⟨by refine zr ?_;exact Kd.R_mono HO822.out (fun _ hk=>⟨hk.1.1.2.2.2.2,⟨hk.1.2,hk.2⟩⟩)⟩,⟨by refine zr ?_;exact Kd.R_mono HO827.out (fun _ hk=>⟨hk.1.2,⟨hk.2,hk.1.1.1.1.1.1⟩⟩)⟩,⟨by refine zr ?_;exact Kd.R_mono HO830.out (fun _ hk=>⟨hk.1.2,⟨hk.2,hk.1.1.1.1.1.1⟩⟩)⟩,⟨by refine zj ?_;exact BK799.out⟩,⟨by refine zj ?_;exact BK800.out⟩,⟨by refine zj ?_;exact BK824.out⟩,⟨by refine zj ?_;exact BK832.out⟩,⟨by repeat (first|(with_reducible first|exact HB.out|apply below_alloc|apply pw_below_drewN|apply below_drew1|refine below_set ?_ GE799.out|refine below_set ?_ GE800.out|refine below_set ?_ GE824.out|refine below_set ?_ GE832.out)|exact HB.out)⟩⟩
     ·rw [if_neg c57] at H
      have c57b0:(t823 == t831)=false:=beq_eq_false_iff_ne.mpr c57
      have c57b1:(t823 != t831)=true:=bne_iff_ne.mpr c57
      (first|rw [c57b0]|(simp only [i64_w,i32_w];rw [c57b0])|skip)
      (try rw [c57b1])
      have H':=zA H
      clear H
      go_wp2
      go_meet
      case rel=>exact ⟨_,(true),zT,H',⟨by have:=HJ2.out;first|omega|exact Nat.le_refl _⟩,⟨by refine zr ?_;exact Kd.R_mono (Kd.R_far (p:=⟨gb832,1,none⟩) (Kd.R_far (p:=⟨gb832,0,none⟩) (Kd.R_types HO819.out BK832.out (by decide)) (fun _ hk=>hk.2) (.slice Ao51 t825.length co51)) (fun _ hk=>hk.2) (.slice Ao56 t828.length co56)) (fun _ hk=>⟨hk.1.1.1.2.2.2.2,⟨hk.1.1.2,hk.1.2⟩⟩)⟩,⟨by refine zr ?_;exact Kd.R_mono (Kd.R_far (p:=⟨gb832,1,none⟩) (Kd.R_far (p:=⟨gb832,0,none⟩) (Kd.R_types HO822.out BK832.out (by decide)) (fun _ hk=>hk.2) (.slice Ao51 t825.length co51)) (fun _ hk=>hk.2) (.slice Ao56 t828.length co56)) (fun _ hk=>⟨hk.1.1.1.2.2.2.2,⟨hk.1.1.2,hk.1.2⟩⟩)⟩,⟨by refine zr ?_;exact Kd.R_mono (Kd.R_far (p:=⟨gb832,1,none⟩) (Kd.R_far (p:=⟨gb832,0,none⟩) (Kd.R_types HO827.out BK832.out (by decide)) (fun _ hk=>hk.2) (.slice Ao51 t825.length co51)) (fun _ hk=>hk.2) (.slice Ao56 t828.length co56)) (fun _ hk=>⟨hk.1.1.2,⟨hk.1.2,hk.1.1.1.1.1.1.1⟩⟩)⟩,⟨by refine zr ?_;exact Kd.R_mono (Kd.R_far (p:=⟨gb832,1,none⟩) (Kd.R_far (p:=⟨gb832,0,none⟩) (Kd.R_types HO830.out BK832.out (by decide)) (fun _ hk=>hk.2) (.slice Ao51 t825.length co51)) (fun _ hk=>hk.2) (.slice Ao56 t828.length co56)) (fun _ hk=>⟨hk.1.1.2,⟨hk.1.2,hk.1.1.1.1.1.1.1⟩⟩)⟩,⟨by refine zj ?_;refine blk_far ?_ NB799_832.out _;refine zj ?_;refine blk_far ?_ NB799_832.out _;refine zj ?_;exact BK799.out⟩,⟨by refine zj ?_;refine blk_far ?_ NB800_832.out _;refine zj ?_;refine blk_far ?_ NB800_832.out _;refine zj ?_;exact BK800.out⟩,⟨by refine zj ?_;refine blk_far ?_ NB824_832.out _;refine zj ?_;refine blk_far ?_ NB824_832.out _;refine zj ?_;exact BK824.out⟩,⟨by refine zj ?_;refine blk_put (cs:=#[.slice Ao51 t825.length co51,.slice none 0 0]) ?_ 1 _ rfl;refine zj ?_;refine blk_put (cs:=#[.slice none 0 0,.slice none 0 0]) ?_ 0 _ rfl;refine zj ?_;exact BK832.out⟩,⟨by repeat (first|(with_reducible first|exact HB.out|apply below_alloc|apply pw_below_drewN|apply below_drew1|refine below_set ?_ GE799.out|refine below_set ?_ GE800.out|refine below_set ?_ GE824.out|refine below_set ?_ GE832.out)|exact HB.out)⟩⟩
    case rest=>
     clear HC29
     try clear c22
     try clear hcz46_0
     try clear hcz46_1
     try clear hcz48_0
     try clear hcz48_1
     try clear hcz55_0
     try clear hcz55_1
     try clear hfz46_0
     try clear hfz46_1
     try clear hfz48_0
     try clear hfz48_1
     try clear hfz55_0
     try clear hfz55_1
     obtain ⟨kq,x48_28,rfl,HA,HJ28,HO_825000,HO_825001,HO_833000,HO_833001,BK799,BK800,BK824,BK832,HB⟩:=hcut
     cases kq with
     | zero=>exact absurd HA.out (by simp [ancepslaw38_TableTwo.j1])
     | succ kj28=>
      have H:=HA.out
      clear HA
      simp only [ancepslaw38_TableTwo.j1] at H
      by_cases c67:x48_28=true
      ·subst c67
       have H1:(some false)=some r:=by rw [if_pos rfl] at H;exact H
       clear H
       have H:=H1
       clear H1
       obtain rfl:=Option.some.inj H
       go_wp2
       go_ret
       exact ⟨ze,by repeat (first|(with_reducible first|exact HB.out|apply below_alloc|apply pw_below_drewN|apply below_drew1|refine below_set ?_ GE799.out|refine below_set ?_ GE800.out|refine below_set ?_ GE824.out|refine below_set ?_ GE832.out)|exact HB.out)⟩
      ·replace c67:=Bool.eq_false_iff.mpr c67
       subst c67
       have H1:((ancepslaw38_own.f l0_0 l0_1).bind fun bt834=>((ancepslaw38_own.f l1_0 l1_1).bind fun bt840=>((table_Union.f kj28 bt834.1 bt834.2 bt840.1 bt840.2).bind fun bt846=>((ancepsref38_Union.f kj28 l0_0 l0_1 l1_0 l1_1).bind fun bt853=>(if bt846.2.2=bt853.2.2 then ((ancepsref38_Equal.f kj28 bt846.1 bt846.2.1 bt853.1 bt853.2.1).bind fun t860=>(ancepslaw38_TableTwo.j2 kj28 (!t860) l0_0 l0_1 l1_0 l1_1)) else (ancepslaw38_TableTwo.j2 kj28 true l0_0 l0_1 l1_0 l1_1))))))=some r:=by rw [if_neg (show ¬ (false=true) by decide)] at H;exact H
       clear H
       have H:=H1
       clear H1
       replace H:=Option.bind_eq_some_iff.mp H
       obtain ⟨⟨t834,t837⟩,A680,H⟩:=H
       replace H:((ancepslaw38_own.f l1_0 l1_1).bind fun bt840=>((table_Union.f kj28 t834 t837 bt840.1 bt840.2).bind fun bt846=>((ancepsref38_Union.f kj28 l0_0 l0_1 l1_0 l1_1).bind fun bt853=>(if bt846.2.2=bt853.2.2 then ((ancepsref38_Equal.f kj28 bt846.1 bt846.2.1 bt853.1 bt853.2.1).bind fun t860=>(ancepslaw38_TableTwo.j2 kj28 (!t860) l0_0 l0_1 l1_0 l1_1)) else (ancepslaw38_TableTwo.j2 kj28 true l0_0 l0_1 l1_0 l1_1)))))=some r:=H
       have A68:=zA A680
       clear A680
       replace H:=Option.bind_eq_some_iff.mp H
       obtain ⟨⟨t840,t843⟩,A690,H⟩:=H
       replace H:((table_Union.f kj28 t834 t837 t840 t843).bind fun bt846=>((ancepsref38_Union.f kj28 l0_0 l0_1 l1_0 l1_1).bind fun bt853=>(if bt846.2.2=bt853.2.2 then ((ancepsref38_Equal.f kj28 bt846.1 bt846.2.1 bt853.1 bt853.2.1).bind fun t860=>(ancepslaw38_TableTwo.j2 kj28 (!t860) l0_0 l0_1 l1_0 l1_1)) else (ancepslaw38_TableTwo.j2 kj28 true l0_0 l0_1 l1_0 l1_1))))=some r:=H
       have A69:=zA A690
       clear A690
       replace H:=Option.bind_eq_some_iff.mp H
       obtain ⟨⟨t846,t849,t852⟩,A700,H⟩:=H
       replace H:((ancepsref38_Union.f kj28 l0_0 l0_1 l1_0 l1_1).bind fun bt853=>(if t852=bt853.2.2 then ((ancepsref38_Equal.f kj28 t846 t849 bt853.1 bt853.2.1).bind fun t860=>(ancepslaw38_TableTwo.j2 kj28 (!t860) l0_0 l0_1 l1_0 l1_1)) else (ancepslaw38_TableTwo.j2 kj28 true l0_0 l0_1 l1_0 l1_1)))=some r:=H
       have A70:=zA A700
       clear A700
       replace H:=Option.bind_eq_some_iff.mp H
       obtain ⟨⟨t853,t856,t859⟩,A710,H⟩:=H
       replace H:(if t852=t859 then ((ancepsref38_Equal.f kj28 t846 t849 t853 t856).bind fun t860=>(ancepslaw38_TableTwo.j2 kj28 (!t860) l0_0 l0_1 l1_0 l1_1)) else (ancepslaw38_TableTwo.j2 kj28 true l0_0 l0_1 l1_0 l1_1))=some r:=H
       have A71:=zA A710
       clear A710
       have HC72:=zA H
       clear H
       try go_wp2
       replace HO_825000:=zA (Kd.R_drew HO_825000.out)
       replace HO_825001:=zA (Kd.R_drew HO_825001.out)
       replace HO_833000:=zA (Kd.R_drew HO_833000.out)
       replace HO_833001:=zA (Kd.R_drew HO_833001.out)
       replace BK799:=zA (blk_drew BK799.out)
       replace BK800:=zA (blk_drew BK800.out)
       replace BK824:=zA (blk_drew BK824.out)
       replace BK832:=zA (blk_drew BK832.out)
       replace HB:=zA (below_drew1 HB.out)
       refine start_ (n:=10) (S:=fun w'=>w'.cell? ⟨gb799,0,none⟩=some (.slice A0_0 l0_0.length c0_0)∧w'.cell? ⟨gb799,1,none⟩=some (.slice A0_1 l0_1.length c0_1)∧w'.cell? ⟨gb800,0,none⟩=some (.slice A1_0 l1_0.length c1_0)∧w'.cell? ⟨gb800,1,none⟩=some (.slice A1_1 l1_1.length c1_1)) (ds:=[]) #[false,false,false,false,false,false,false,false,false,false] zK rfl rfl ⟨(blk_cell BK799.out 0).trans rfl,(blk_cell BK799.out 1).trans rfl,(blk_cell BK800.out 0).trans rfl,(blk_cell BK800.out 1).trans rfl⟩ (fun hHeld=>?_);refine with_tabW ancepslaw38_TableTwo.tab7 ancepslaw38_TableTwo.bits7 (fun HT_ HW_=>?_)
       generalize wc.drew=w73 at HO_825000 HO_825001 HO_833000 HO_833001 BK799 BK800 BK824 BK832 HB hHeld ⊢
       refine take_ (i:=0) (N:=some 50) (v:=?_) (a':=?_) #[true,false,false,false,false,false,false,false,false,false] rfl rfl (take_ofW HT_.out HW_.out zK) (fun _ _ _ h=>h) (Or.inl ⟨by rfl,?_⟩) hHeld ?_ ?_
       rotate_left
       ·rintro w' ⟨s0,s1,s2,s3⟩
        go_simp
        with_reducible rfl
       rotate_left
       ·simp only [Act.put,zi,zs,zt,i64_w,i32_w]
        rfl
       refine take_ (i:=2) (N:=some 52) (v:=?_) (a':=?_) #[true,false,true,false,false,false,false,false,false,false] rfl rfl (take_ofW HT_.out HW_.out zK) (fun _ _ _ h=>h) (Or.inl ⟨by rfl,?_⟩) hHeld ?_ ?_
       rotate_left
       ·rintro w' ⟨s0,s1,s2,s3⟩
        go_simp
        with_reducible rfl
       rotate_left
       ·simp only [Act.put,zi,zs,zt,i64_w,i32_w]
        rfl
       refine one_ (i:=1) (N:=some 51) #[true,true,true,false,false,false,false,false,false,false] rfl rfl (one_of HT_.out zK) (by decide) (fun K hK=>?_)
       refine goes_ Try.func21 zK rfl #[.agg #[.slice A0_0 l0_0.length c0_0,.slice A0_1 l0_1.length c0_1]] (by rfl) rfl rfl zM ?_
       with_reducible refine (ancepslaw38_own.calls _ _ l0_0 _ _ l0_1 t834 t837 _ ?side1 ?side2 ?side3 ?side4 A68.out).mono ?_
       (case side1=>exact zC (Kd.C_below HR0_0.out HB.out))
       (case side2=>exact HC0_0.out)
       (case side3=>exact zC (Kd.C_below HR0_1.out HB.out))
       (case side4=>exact HC0_1.out)
       rintro e w74 ⟨v835,v838,rfl,ho0,ho1,hb⟩
       refine ⟨_,rfl,?_⟩
       have HO836:=zA (Kd.R_lower (Kd.R_new' (Kd.R_new' (Kd.R_new' (Kd.R_new' ho0 (Kd.R_lt (zR HO_825000))) (Kd.R_lt (zR HO_825001))) (Kd.R_lt (zR HO_833000))) (Kd.R_lt (zR HO_833001))) (below_size zB))
       have HO839:=zA (Kd.R_lower (Kd.R_new' (Kd.R_new' (Kd.R_new' (Kd.R_new' ho1 (Kd.R_lt (zR HO_825000))) (Kd.R_lt (zR HO_825001))) (Kd.R_lt (zR HO_833000))) (Kd.R_lt (zR HO_833001))) (below_size zB))
       replace HO_825000:=zA (Kd.R_mono (Kd.R_told (Kd.R_told (Kd.R_old (zR HO_825000) hb) (Kd.R_base ho0)) (Kd.R_base ho1)) (fun _ h_=>h_.1))
       replace HO_825001:=zA (Kd.R_mono (Kd.R_told (Kd.R_told (Kd.R_old (zR HO_825001) hb) (Kd.R_base ho0)) (Kd.R_base ho1)) (fun _ h_=>h_.1))
       replace HO_833000:=zA (Kd.R_mono (Kd.R_told (Kd.R_told (Kd.R_old (zR HO_833000) hb) (Kd.R_base ho0)) (Kd.R_base ho1)) (fun _ h_=>h_.1))
       replace HO_833001:=zA (Kd.R_mono (Kd.R_told (Kd.R_told (Kd.R_old (zR HO_833001) hb) (Kd.R_base ho0)) (Kd.R_base ho1)) (fun _ h_=>h_.1))
       replace BK799:=zA (zb BK799 hb)
       replace BK800:=zA (zb BK800 hb)
       replace BK824:=zA (zb BK824 hb)
       replace BK832:=zA (zb BK832 hb)
       replace HB:=zA (below_step zB hb)
       (try clear hb)
       (try clear hb2)
       (try clear hk)
       (try clear hi)
       (try clear ho0)
       (try clear ho1)
       refine hK.out _ _ ⟨(blk_cell BK799.out 0).trans rfl,(blk_cell BK799.out 1).trans rfl,(blk_cell BK800.out 0).trans rfl,(blk_cell BK800.out 1).trans rfl⟩ (fun hHeld=>?_)
       clear hK K
       refine norm_ (a':=?_) ?_ ?_
       rotate_left
       ·show Act.put _ (some 51) _=_
        simp only [Act.put,zi,zs,zt,i64_w,i32_w]
        rfl
       refine one_ (i:=3) (N:=some 53) #[true,true,true,true,false,false,false,false,false,false] rfl rfl (one_of HT_.out zK) (by decide) (fun K hK=>?_)
       refine goes_ Try.func21 zK rfl #[.agg #[.slice A1_0 l1_0.length c1_0,.slice A1_1 l1_1.length c1_1]] (by rfl) rfl rfl zM ?_
       with_reducible refine (ancepslaw38_own.calls _ _ l1_0 _ _ l1_1 t840 t843 _ ?side1 ?side2 ?side3 ?side4 A69.out).mono ?_
       (case side1=>exact zC (Kd.C_below HR1_0.out HB.out))
       (case side2=>exact HC1_0.out)
       (case side3=>exact zC (Kd.C_below HR1_1.out HB.out))
       (case side4=>exact HC1_1.out)
       rintro e w75 ⟨v841,v844,rfl,ho0,ho1,hb⟩
       refine ⟨_,rfl,?_⟩
       have HO842:=zA (Kd.R_lower (Kd.R_new' (Kd.R_new' (Kd.R_new' (Kd.R_new' (Kd.R_new' (Kd.R_new' ho0 (Kd.R_lt (zR HO_825000))) (Kd.R_lt (zR HO_825001))) (Kd.R_lt (zR HO_833000))) (Kd.R_lt (zR HO_833001))) (Kd.R_lt (zR HO836))) (Kd.R_lt (zR HO839))) (below_size zB))
       have HO845:=zA (Kd.R_lower (Kd.R_new' (Kd.R_new' (Kd.R_new' (Kd.R_new' (Kd.R_new' (Kd.R_new' ho1 (Kd.R_lt (zR HO_825000))) (Kd.R_lt (zR HO_825001))) (Kd.R_lt (zR HO_833000))) (Kd.R_lt (zR HO_833001))) (Kd.R_lt (zR HO836))) (Kd.R_lt (zR HO839))) (below_size zB))
       replace HO_825000:=zA (Kd.R_mono (Kd.R_told (Kd.R_told (Kd.R_old (zR HO_825000) hb) (Kd.R_base ho0)) (Kd.R_base ho1)) (fun _ h_=>h_.1))
       replace HO_825001:=zA (Kd.R_mono (Kd.R_told (Kd.R_told (Kd.R_old (zR HO_825001) hb) (Kd.R_base ho0)) (Kd.R_base ho1)) (fun _ h_=>h_.1))
       replace HO_833000:=zA (Kd.R_mono (Kd.R_told (Kd.R_told (Kd.R_old (zR HO_833000) hb) (Kd.R_base ho0)) (Kd.R_base ho1)) (fun _ h_=>h_.1))
       replace HO_833001:=zA (Kd.R_mono (Kd.R_told (Kd.R_told (Kd.R_old (zR HO_833001) hb) (Kd.R_base ho0)) (Kd.R_base ho1)) (fun _ h_=>h_.1))
       replace HO836:=zA (Kd.R_mono (Kd.R_told (Kd.R_told (Kd.R_old (zR HO836) hb) (Kd.R_base ho0)) (Kd.R_base ho1)) (fun _ h_=>h_.1))
       replace HO839:=zA (Kd.R_mono (Kd.R_told (Kd.R_told (Kd.R_old (zR HO839) hb) (Kd.R_base ho0)) (Kd.R_base ho1)) (fun _ h_=>h_.1))
       replace BK799:=zA (zb BK799 hb)
       replace BK800:=zA (zb BK800 hb)
       replace BK824:=zA (zb BK824 hb)
       replace BK832:=zA (zb BK832 hb)
       replace HB:=zA (below_step zB hb)
       (try clear hb)
       (try clear hb2)
       (try clear hk)
       (try clear hi)
       (try clear ho0)
       (try clear ho1)
       obtain ⟨Ao76,co76,eo76⟩:=Kd.R_slice HO836.out
       (first|subst eo76|(injection eo76 with f1_ f2_ f3_;have f4_:=f1_.symm;have f5_:=f3_.symm;clear f1_ f2_ f3_;subst f4_;subst f5_))
       obtain ⟨Ao77,co77,eo77⟩:=Kd.R_slice HO839.out
       (first|subst eo77|(injection eo77 with f1_ f2_ f3_;have f4_:=f1_.symm;have f5_:=f3_.symm;clear f1_ f2_ f3_;subst f4_;subst f5_))
       obtain ⟨Ao78,co78,eo78⟩:=Kd.R_slice HO842.out
       (first|subst eo78|(injection eo78 with f1_ f2_ f3_;have f4_:=f1_.symm;have f5_:=f3_.symm;clear f1_ f2_ f3_;subst f4_;subst f5_))
       obtain ⟨Ao79,co79,eo79⟩:=Kd.R_slice HO845.out
       (first|subst eo79|(injection eo79 with f1_ f2_ f3_;have f4_:=f1_.symm;have f5_:=f3_.symm;clear f1_ f2_ f3_;subst f4_;subst f5_))
       refine hK.out _ _ ⟨(blk_cell BK799.out 0).trans rfl,(blk_cell BK799.out 1).trans rfl,(blk_cell BK800.out 0).trans rfl,(blk_cell BK800.out 1).trans rfl⟩ (fun hHeld=>?_)
       clear hK K
       refine norm_ (a':=?_) ?_ ?_
       rotate_left
       ·show Act.put _ (some 53) _=_
        simp only [Act.put,zi,zs,zt,i64_w,i32_w]
        rfl
       refine one_ (i:=4) (N:=some 54) #[true,true,true,true,true,false,false,false,false,false] rfl rfl (one_of HT_.out zK) (by decide) (fun K hK=>?_)
       refine goes_ Try.func16 zK rfl #[.agg #[.slice Ao76 t834.length co76,.slice Ao77 t837.length co77],.agg #[.slice Ao78 t840.length co78,.slice Ao79 t843.length co79]] (by rfl) rfl rfl zM ?_
       with_reducible refine (table_Union.calls kj28 _ _ t834 _ _ t837 _ _ t840 _ _ t843 t846 t849 t852 _ ?side1 ?side2 ?side3 ?side4 ?side5 ?side6 ?side7 ?side8 A70.out).mono ?_
       (case side1=>exact zC (Kd.R_reads' HO836.out).2.2)
       (case side2=>exact (Kd.R_reads' HO836.out).2.1)
       (case side3=>exact zC (Kd.R_reads' HO839.out).2.2)
       (case side4=>exact (Kd.R_reads' HO839.out).2.1)
       (case side5=>exact zC (Kd.R_reads' HO842.out).2.2)
       (case side6=>exact (Kd.R_reads' HO842.out).2.1)
       (case side7=>exact zC (Kd.R_reads' HO845.out).2.2)
       (case side8=>exact (Kd.R_reads' HO845.out).2.1)
       rintro e w80 ⟨v847,v850,rfl,ho0,ho1,hb⟩
       refine ⟨_,rfl,?_⟩
       have HO848:=zA (Kd.R_lower (Kd.R_new' (Kd.R_new' (Kd.R_new' (Kd.R_new' (Kd.R_new' (Kd.R_new' (Kd.R_new' (Kd.R_new' ho0 (Kd.R_lt (zR HO_825000))) (Kd.R_lt (zR HO_825001))) (Kd.R_lt (zR HO_833000))) (Kd.R_lt (zR HO_833001))) (Kd.R_lt (zR HO836))) (Kd.R_lt (zR HO839))) (Kd.R_lt (zR HO842))) (Kd.R_lt (zR HO845))) (below_size zB))
       have HO851:=zA (Kd.R_lower (Kd.R_new' (Kd.R_new' (Kd.R_new' (Kd.R_new' (Kd.R_new' (Kd.R_new' (Kd.R_new' (Kd.R_new' ho1 (Kd.R_lt (zR HO_825000))) (Kd.R_lt (zR HO_825001))) (Kd.R_lt (zR HO_833000))) (Kd.R_lt (zR HO_833001))) (Kd.R_lt (zR HO836))) (Kd.R_lt (zR HO839))) (Kd.R_lt (zR HO842))) (Kd.R_lt (zR HO845))) (below_size zB))
       replace HO_825000:=zA (Kd.R_mono (Kd.R_told (Kd.R_told (Kd.R_old (zR HO_825000) hb) (Kd.R_base ho0)) (Kd.R_base ho1)) (fun _ h_=>h_.1))
       replace HO_825001:=zA (Kd.R_mono (Kd.R_told (Kd.R_told (Kd.R_old (zR HO_825001) hb) (Kd.R_base ho0)) (Kd.R_base ho1)) (fun _ h_=>h_.1))
       replace HO_833000:=zA (Kd.R_mono (Kd.R_told (Kd.R_told (Kd.R_old (zR HO_833000) hb) (Kd.R_base ho0)) (Kd.R_base ho1)) (fun _ h_=>h_.1))
       replace HO_833001:=zA (Kd.R_mono (Kd.R_told (Kd.R_told (Kd.R_old (zR HO_833001) hb) (Kd.R_base ho0)) (Kd.R_base ho1)) (fun _ h_=>h_.1))
       replace HO836:=zA (Kd.R_mono (Kd.R_told (Kd.R_told (Kd.R_old (zR HO836) hb) (Kd.R_base ho0)) (Kd.R_base ho1)) (fun _ h_=>h_.1))
       replace HO839:=zA (Kd.R_mono (Kd.R_told (Kd.R_told (Kd.R_old (zR HO839) hb) (Kd.R_base ho0)) (Kd.R_base ho1)) (fun _ h_=>h_.1))
       replace HO842:=zA (Kd.R_mono (Kd.R_told (Kd.R_told (Kd.R_old (zR HO842) hb) (Kd.R_base ho0)) (Kd.R_base ho1)) (fun _ h_=>h_.1))
       replace HO845:=zA (Kd.R_mono (Kd.R_told (Kd.R_told (Kd.R_old (zR HO845) hb) (Kd.R_base ho0)) (Kd.R_base ho1)) (fun _ h_=>h_.1))
       replace BK799:=zA (zb BK799 hb)
       replace BK800:=zA (zb BK800 hb)
       replace BK824:=zA (zb BK824 hb)
       replace BK832:=zA (zb BK832 hb)
       replace HB:=zA (below_step zB hb)
       (try clear hb)
       (try clear hb2)
       (try clear hk)
       (try clear hi)
       (try clear ho0)
       (try clear ho1)
       obtain ⟨Ao81,co81,eo81⟩:=Kd.R_slice HO848.out
       (first|subst eo81|(injection eo81 with f1_ f2_ f3_;have f4_:=f1_.symm;have f5_:=f3_.symm;clear f1_ f2_ f3_;subst f4_;subst f5_))
       obtain ⟨Ao83,co83,eo83⟩:=Kd.R_slice HO851.out
       (first|subst eo83|(injection eo83 with f1_ f2_ f3_;have f4_:=f1_.symm;have f5_:=f3_.symm;clear f1_ f2_ f3_;subst f4_;subst f5_))
       refine hK.out _ _ ⟨(blk_cell BK799.out 0).trans rfl,(blk_cell BK799.out 1).trans rfl,(blk_cell BK800.out 0).trans rfl,(blk_cell BK800.out 1).trans rfl⟩ (fun hHeld=>?_)
       clear hK K
       refine norm_ (a':=?_) ?_ ?_
       rotate_left
       ·show Act.put _ (some 54) _=_
        simp only [Act.put,zi,zs,zt,i64_w,i32_w]
        rfl
       refine pure_ (i:=5) (N:=some 49) (v:=?_) (a':=?_) #[true,true,true,true,true,true,false,false,false,false] rfl rfl (any_of HT_.out zK) (fun _ _ _ h=>h) (Or.inl ⟨by rfl,?_⟩) ?_ ?_
       rotate_left
       ·intro w'
        go_simp
        with_reducible rfl
       rotate_left
       ·simp only [Act.put,zi,zs,zt,i64_w,i32_w]
        rfl
       refine pure_ (i:=6) (N:=some 55) (v:=?_) (a':=?_) #[true,true,true,true,true,true,true,false,false,false] rfl rfl (any_of HT_.out zK) (fun _ _ _ h=>h) (Or.inl ⟨by rfl,?_⟩) ?_ ?_
       rotate_left
       ·intro w'
        go_simp
        with_reducible rfl
       rotate_left
       ·simp only [Act.put,zi,zs,zt,i64_w,i32_w]
        rfl
       refine pure_ (i:=7) (N:=some 56) (v:=?_) (a':=?_) #[true,true,true,true,true,true,true,true,false,false] rfl rfl (any_of HT_.out zK) (fun _ _ _ h=>h) (Or.inl ⟨by rfl,?_⟩) ?_ ?_
       rotate_left
       ·intro w'
        go_simp
        with_reducible rfl
       rotate_left
       ·simp only [Act.put,zi,zs,zt,i64_w,i32_w]
        rfl
       refine one_ (i:=8) (N:=none) #[true,true,true,true,true,true,true,true,true,false] rfl rfl (one_of HT_.out zK) (by decide) (fun K hK=>?_)
       have hs82:w80.cell? ⟨gb824,0,none⟩=some (.slice Ao40 t817.length co40):=(blk_cell BK824.out 0).trans rfl
       have hfs82:=blk_frozen BK824.out 0
       have hns82_0:=NB799_824.out
       have hns82_1:=NB800_824.out
       have hns82_3:=NB832_824.out
       have hms82_0:=NB824_799.out
       have hms82_1:=NB824_800.out
       have hms82_3:=NB824_832.out
       have hs84:w80.cell? ⟨gb824,1,none⟩=some (.slice Ao42 t820.length co42):=(blk_cell BK824.out 1).trans rfl
       have hfs84:=blk_frozen BK824.out 1
       have hns84_0:=NB799_824.out
       have hns84_1:=NB800_824.out
       have hns84_3:=NB832_824.out
       have hms84_0:=NB824_799.out
       have hms84_1:=NB824_800.out
       have hms84_3:=NB824_832.out
       refine skip_ (w1:=?_) (by rfl) rfl ?_ ?_
       rotate_left
       ·go_simp
        rfl
       refine hK.out _ _ ⟨((cell_far (p:=⟨gb824,_,none⟩) NB799_824.out _).trans (((cell_far (p:=⟨gb824,_,none⟩) NB799_824.out _).trans (hHeld.1)))),((cell_far (p:=⟨gb824,_,none⟩) NB799_824.out _).trans (((cell_far (p:=⟨gb824,_,none⟩) NB799_824.out _).trans (hHeld.2.1)))),((cell_far (p:=⟨gb824,_,none⟩) NB800_824.out _).trans (((cell_far (p:=⟨gb824,_,none⟩) NB800_824.out _).trans (hHeld.2.2.1)))),((cell_far (p:=⟨gb824,_,none⟩) NB800_824.out _).trans (((cell_far (p:=⟨gb824,_,none⟩) NB800_824.out _).trans (hHeld.2.2.2))))⟩ (fun hHeld=>?_)
       clear hK K
       refine pure_ (i:=9) (N:=some 6) (v:=?_) (a':=?_) #[true,true,true,true,true,true,true,true,true,true] rfl rfl (any_of HT_.out zK) (fun _ _ _ h=>h) (Or.inl ⟨by rfl,?_⟩) ?_ ?_
       rotate_left
       ·intro w'
        go_simp
        with_reducible rfl
       rotate_left
       ·simp only [Act.put,zi,zs,zt,i64_w,i32_w]
        rfl
       refine done_ (done_of HT_.out zK) ?_
       have hnb85:=NB799_800.out
       have hnc85:=NB800_799.out
       have hnb86:=NB799_824.out
       have hnc86:=NB824_799.out
       have hnb87:=NB799_832.out
       have hnc87:=NB832_799.out
       have hcz88_0:w80.cell? ⟨gb799,0,none⟩=some (.slice A0_0 l0_0.length c0_0):=(blk_cell BK799.out 0).trans rfl
       have hcz88_1:w80.cell? ⟨gb799,1,none⟩=some (.slice A0_1 l0_1.length c0_1):=(blk_cell BK799.out 1).trans rfl
       have hfz88_0:=blk_frozen BK799.out 0
       have hfz88_1:=blk_frozen BK799.out 1
       have hnb89:=NB800_824.out
       have hnc89:=NB824_800.out
       have hnb90:=NB800_832.out
       have hnc90:=NB832_800.out
       have hcz91_0:w80.cell? ⟨gb800,0,none⟩=some (.slice A1_0 l1_0.length c1_0):=(blk_cell BK800.out 0).trans rfl
       have hcz91_1:w80.cell? ⟨gb800,1,none⟩=some (.slice A1_1 l1_1.length c1_1):=(blk_cell BK800.out 1).trans rfl
       have hfz91_0:=blk_frozen BK800.out 0
       have hfz91_1:=blk_frozen BK800.out 1
       go_upto_region 9 with (first|((with_reducible refine gate_callee (f:=31) rfl ?_);refine goesL_ (some 60) rfl rfl Try.func31 zK rfl #[.agg #[.slice A0_0 l0_0.length c0_0,.slice A0_1 l0_1.length c0_1],.agg #[.slice A1_0 l1_0.length c1_0,.slice A1_1 l1_1.length c1_1]] rfl zM ?_;(with_reducible refine (ancepsref38_Union.calls kj28 _ _ l0_0 _ _ l0_1 _ _ l1_0 _ _ l1_1 t853 t856 t859 _ ?side1 ?side2 ?side3 ?side4 ?side5 ?side6 ?side7 ?side8 A71.out).mono ?_);(case side1=>exact Kd.C_below HR0_0.out zB);(case side2=>exact HC0_0.out);(case side3=>exact Kd.C_below HR0_1.out zB);(case side4=>exact HC0_1.out);(case side5=>exact Kd.C_below HR1_0.out zB);(case side6=>exact HC1_0.out);(case side7=>exact Kd.C_below HR1_1.out zB);(case side8=>exact HC1_1.out);rintro e w92 ⟨v854,v857,rfl,ho0,ho1,hb⟩;refine ⟨_,rfl,?_⟩;have HO855:=zA (Kd.R_lower (Kd.R_new' (Kd.R_new' (Kd.R_new' (Kd.R_new' (Kd.R_new' (Kd.R_new' (Kd.R_new' (Kd.R_new' (Kd.R_new' (Kd.R_new' ho0 (Kd.R_lt (by refine zr ?_;exact (Kd.R_mono (Kd.R_far (p:=⟨gb824,1,none⟩) (Kd.R_far (p:=⟨gb824,0,none⟩) (Kd.R_types HO_825000.out BK824.out (by decide)) (fun _ hk=>hk.2) (.slice Ao81 t846.length co81)) (fun _ hk=>hk.2) (.slice Ao83 t849.length co83)) (fun _ h_=>h_.1))))) (Kd.R_lt (by refine zr ?_;exact (Kd.R_mono (Kd.R_far (p:=⟨gb824,1,none⟩) (Kd.R_far (p:=⟨gb824,0,none⟩) (Kd.R_types HO_825001.out BK824.out (by decide)) (fun _ hk=>hk.2) (.slice Ao81 t846.length co81)) (fun _ hk=>hk.2) (.slice Ao83 t849.length co83)) (fun _ h_=>h_.1))))) (Kd.R_lt (by refine zr ?_;exact (Kd.R_mono (Kd.R_far (p:=⟨gb824,1,none⟩) (Kd.R_far (p:=⟨gb824,0,none⟩) (Kd.R_types HO_833000.out BK824.out (by decide)) (fun _ hk=>hk.2) (.slice Ao81 t846.length co81)) (fun _ hk=>hk.2) (.slice Ao83 t849.length co83)) (fun _ h_=>h_.1))))) (Kd.R_lt (by refine zr ?_;exact (Kd.R_mono (Kd.R_far (p:=⟨gb824,1,none⟩) (Kd.R_far (p:=⟨gb824,0,none⟩) (Kd.R_types HO_833001.out BK824.out (by decide)) (fun _ hk=>hk.2) (.slice Ao81 t846.length co81)) (fun _ hk=>hk.2) (.slice Ao83 t849.length co83)) (fun _ h_=>h_.1))))) (Kd.R_lt (by refine zr ?_;exact (Kd.R_mono (Kd.R_far (p:=⟨gb824,1,none⟩) (Kd.R_far (p:=⟨gb824,0,none⟩) (Kd.R_types HO836.out BK824.out (by decide)) (fun _ hk=>hk.2) (.slice Ao81 t846.length co81)) (fun _ hk=>hk.2) (.slice Ao83 t849.length co83)) (fun _ h_=>h_.1))))) (Kd.R_lt (by refine zr ?_;exact (Kd.R_mono (Kd.R_far (p:=⟨gb824,1,none⟩) (Kd.R_far (p:=⟨gb824,0,none⟩) (Kd.R_types HO839.out BK824.out (by decide)) (fun _ hk=>hk.2) (.slice Ao81 t846.length co81)) (fun _ hk=>hk.2) (.slice Ao83 t849.length co83)) (fun _ h_=>h_.1))))) (Kd.R_lt (by refine zr ?_;exact (Kd.R_mono (Kd.R_far (p:=⟨gb824,1,none⟩) (Kd.R_far (p:=⟨gb824,0,none⟩) (Kd.R_types HO842.out BK824.out (by decide)) (fun _ hk=>hk.2) (.slice Ao81 t846.length co81)) (fun _ hk=>hk.2) (.slice Ao83 t849.length co83)) (fun _ h_=>h_.1))))) (Kd.R_lt (by refine zr ?_;exact (Kd.R_mono (Kd.R_far (p:=⟨gb824,1,none⟩) (Kd.R_far (p:=⟨gb824,0,none⟩) (Kd.R_types HO845.out BK824.out (by decide)) (fun _ hk=>hk.2) (.slice Ao81 t846.length co81)) (fun _ hk=>hk.2) (.slice Ao83 t849.length co83)) (fun _ h_=>h_.1))))) (Kd.R_lt (by refine zr ?_;exact (Kd.R_mono (Kd.R_far (p:=⟨gb824,1,none⟩) (Kd.R_far (p:=⟨gb824,0,none⟩) (Kd.R_types HO848.out BK824.out (by decide)) (fun _ hk=>hk.2) (.slice Ao81 t846.length co81)) (fun _ hk=>hk.2) (.slice Ao83 t849.length co83)) (fun _ h_=>h_.1))))) (Kd.R_lt (by refine zr ?_;exact (Kd.R_mono (Kd.R_far (p:=⟨gb824,1,none⟩) (Kd.R_far (p:=⟨gb824,0,none⟩) (Kd.R_types HO851.out BK824.out (by decide)) (fun _ hk=>hk.2) (.slice Ao81 t846.length co81)) (fun _ hk=>hk.2) (.slice Ao83 t849.length co83)) (fun _ h_=>h_.1))))) (below_size zB));have HO858:=zA (Kd.R_lower (Kd.R_new' (Kd.R_new' (Kd.R_new' (Kd.R_new' (Kd.R_new' (Kd.R_new' (Kd.R_new' (Kd.R_new' (Kd.R_new' (Kd.R_new' ho1 (Kd.R_lt (by refine zr ?_;exact (Kd.R_mono (Kd.R_far (p:=⟨gb824,1,none⟩) (Kd.R_far (p:=⟨gb824,0,none⟩) (Kd.R_types HO_825000.out BK824.out (by decide)) (fun _ hk=>hk.2) (.slice Ao81 t846.length co81)) (fun _ hk=>hk.2) (.slice Ao83 t849.length co83)) (fun _ h_=>h_.1))))) (Kd.R_lt (by refine zr ?_;exact (Kd.R_mono (Kd.R_far (p:=⟨gb824,1,none⟩) (Kd.R_far (p:=⟨gb824,0,none⟩) (Kd.R_types HO_825001.out BK824.out (by decide)) (fun _ hk=>hk.2) (.slice Ao81 t846.length co81)) (fun _ hk=>hk.2) (.slice Ao83 t849.length co83)) (fun _ h_=>h_.1))))) (Kd.R_lt (by refine zr ?_;exact (Kd.R_mono (Kd.R_far (p:=⟨gb824,1,none⟩) (Kd.R_far (p:=⟨gb824,0,none⟩) (Kd.R_types HO_833000.out BK824.out (by decide)) (fun _ hk=>hk.2) (.slice Ao81 t846.length co81)) (fun _ hk=>hk.2) (.slice Ao83 t849.length co83)) (fun _ h_=>h_.1))))) (Kd.R_lt (by refine zr ?_;exact (Kd.R_mono (Kd.R_far (p:=⟨gb824,1,none⟩) (Kd.R_far (p:=⟨gb824,0,none⟩) (Kd.R_types HO_833001.out BK824.out (by decide)) (fun _ hk=>hk.2) (.slice Ao81 t846.length co81)) (fun _ hk=>hk.2) (.slice Ao83 t849.length co83)) (fun _ h_=>h_.1))))) (Kd.R_lt (by refine zr ?_;exact (Kd.R_mono (Kd.R_far (p:=⟨gb824,1,none⟩) (Kd.R_far (p:=⟨gb824,0,none⟩) (Kd.R_types HO836.out BK824.out (by decide)) (fun _ hk=>hk.2) (.slice Ao81 t846.length co81)) (fun _ hk=>hk.2) (.slice Ao83 t849.length co83)) (fun _ h_=>h_.1))))) (Kd.R_lt (by refine zr ?_;exact (Kd.R_mono (Kd.R_far (p:=⟨gb824,1,none⟩) (Kd.R_far (p:=⟨gb824,0,none⟩) (Kd.R_types HO839.out BK824.out (by decide)) (fun _ hk=>hk.2) (.slice Ao81 t846.length co81)) (fun _ hk=>hk.2) (.slice Ao83 t849.length co83)) (fun _ h_=>h_.1))))) (Kd.R_lt (by refine zr ?_;exact (Kd.R_mono (Kd.R_far (p:=⟨gb824,1,none⟩) (Kd.R_far (p:=⟨gb824,0,none⟩) (Kd.R_types HO842.out BK824.out (by decide)) (fun _ hk=>hk.2) (.slice Ao81 t846.length co81)) (fun _ hk=>hk.2) (.slice Ao83 t849.length co83)) (fun _ h_=>h_.1))))) (Kd.R_lt (by refine zr ?_;exact (Kd.R_mono (Kd.R_far (p:=⟨gb824,1,none⟩) (Kd.R_far (p:=⟨gb824,0,none⟩) (Kd.R_types HO845.out BK824.out (by decide)) (fun _ hk=>hk.2) (.slice Ao81 t846.length co81)) (fun _ hk=>hk.2) (.slice Ao83 t849.length co83)) (fun _ h_=>h_.1))))) (Kd.R_lt (by refine zr ?_;exact (Kd.R_mono (Kd.R_far (p:=⟨gb824,1,none⟩) (Kd.R_far (p:=⟨gb824,0,none⟩) (Kd.R_types HO848.out BK824.out (by decide)) (fun _ hk=>hk.2) (.slice Ao81 t846.length co81)) (fun _ hk=>hk.2) (.slice Ao83 t849.length co83)) (fun _ h_=>h_.1))))) (Kd.R_lt (by refine zr ?_;exact (Kd.R_mono (Kd.R_far (p:=⟨gb824,1,none⟩) (Kd.R_far (p:=⟨gb824,0,none⟩) (Kd.R_types HO851.out BK824.out (by decide)) (fun _ hk=>hk.2) (.slice Ao81 t846.length co81)) (fun _ hk=>hk.2) (.slice Ao83 t849.length co83)) (fun _ h_=>h_.1))))) (below_size zB));replace HO_825000:=zA (Kd.R_mono (Kd.R_told (Kd.R_told (Kd.R_old (by refine zr ?_;exact (Kd.R_mono (Kd.R_far (p:=⟨gb824,1,none⟩) (Kd.R_far (p:=⟨gb824,0,none⟩) (Kd.R_types HO_825000.out BK824.out (by decide)) (fun _ hk=>hk.2) (.slice Ao81 t846.length co81)) (fun _ hk=>hk.2) (.slice Ao83 t849.length co83)) (fun _ h_=>h_.1))) hb) (Kd.R_base ho0)) (Kd.R_base ho1)) (fun _ h_=>h_.1));replace HO_825001:=zA (Kd.R_mono (Kd.R_told (Kd.R_told (Kd.R_old (by refine zr ?_;exact (Kd.R_mono (Kd.R_far (p:=⟨gb824,1,none⟩) (Kd.R_far (p:=⟨gb824,0,none⟩) (Kd.R_types HO_825001.out BK824.out (by decide)) (fun _ hk=>hk.2) (.slice Ao81 t846.length co81)) (fun _ hk=>hk.2) (.slice Ao83 t849.length co83)) (fun _ h_=>h_.1))) hb) (Kd.R_base ho0)) (Kd.R_base ho1)) (fun _ h_=>h_.1));replace HO_833000:=zA (Kd.R_mono (Kd.R_told (Kd.R_told (Kd.R_old (by refine zr ?_;exact (Kd.R_mono (Kd.R_far (p:=⟨gb824,1,none⟩) (Kd.R_far (p:=⟨gb824,0,none⟩) (Kd.R_types HO_833000.out BK824.out (by decide)) (fun _ hk=>hk.2) (.slice Ao81 t846.length co81)) (fun _ hk=>hk.2) (.slice Ao83 t849.length co83)) (fun _ h_=>h_.1))) hb) (Kd.R_base ho0)) (Kd.R_base ho1)) (fun _ h_=>h_.1));replace HO_833001:=zA (Kd.R_mono (Kd.R_told (Kd.R_told (Kd.R_old (by refine zr ?_;exact (Kd.R_mono (Kd.R_far (p:=⟨gb824,1,none⟩) (Kd.R_far (p:=⟨gb824,0,none⟩) (Kd.R_types HO_833001.out BK824.out (by decide)) (fun _ hk=>hk.2) (.slice Ao81 t846.length co81)) (fun _ hk=>hk.2) (.slice Ao83 t849.length co83)) (fun _ h_=>h_.1))) hb) (Kd.R_base ho0)) (Kd.R_base ho1)) (fun _ h_=>h_.1));replace HO836:=zA (Kd.R_mono (Kd.R_told (Kd.R_told (Kd.R_old (by refine zr ?_;exact (Kd.R_mono (Kd.R_far (p:=⟨gb824,1,none⟩) (Kd.R_far (p:=⟨gb824,0,none⟩) (Kd.R_types HO836.out BK824.out (by decide)) (fun _ hk=>hk.2) (.slice Ao81 t846.length co81)) (fun _ hk=>hk.2) (.slice Ao83 t849.length co83)) (fun _ h_=>h_.1))) hb) (Kd.R_base ho0)) (Kd.R_base ho1)) (fun _ h_=>h_.1));replace HO839:=zA (Kd.R_mono (Kd.R_told (Kd.R_told (Kd.R_old (by refine zr ?_;exact (Kd.R_mono (Kd.R_far (p:=⟨gb824,1,none⟩) (Kd.R_far (p:=⟨gb824,0,none⟩) (Kd.R_types HO839.out BK824.out (by decide)) (fun _ hk=>hk.2) (.slice Ao81 t846.length co81)) (fun _ hk=>hk.2) (.slice Ao83 t849.length co83)) (fun _ h_=>h_.1))) hb) (Kd.R_base ho0)) (Kd.R_base ho1)) (fun _ h_=>h_.1));replace HO842:=zA (Kd.R_mono (Kd.R_told (Kd.R_told (Kd.R_old (by refine zr ?_;exact (Kd.R_mono (Kd.R_far (p:=⟨gb824,1,none⟩) (Kd.R_far (p:=⟨gb824,0,none⟩) (Kd.R_types HO842.out BK824.out (by decide)) (fun _ hk=>hk.2) (.slice Ao81 t846.length co81)) (fun _ hk=>hk.2) (.slice Ao83 t849.length co83)) (fun _ h_=>h_.1))) hb) (Kd.R_base ho0)) (Kd.R_base ho1)) (fun _ h_=>h_.1));replace HO845:=zA (Kd.R_mono (Kd.R_told (Kd.R_told (Kd.R_old (by refine zr ?_;exact (Kd.R_mono (Kd.R_far (p:=⟨gb824,1,none⟩) (Kd.R_far (p:=⟨gb824,0,none⟩) (Kd.R_types HO845.out BK824.out (by decide)) (fun _ hk=>hk.2) (.slice Ao81 t846.length co81)) (fun _ hk=>hk.2) (.slice Ao83 t849.length co83)) (fun _ h_=>h_.1))) hb) (Kd.R_base ho0)) (Kd.R_base ho1)) (fun _ h_=>h_.1));replace HO848:=zA (Kd.R_mono (Kd.R_told (Kd.R_told (Kd.R_old (by refine zr ?_;exact (Kd.R_mono (Kd.R_far (p:=⟨gb824,1,none⟩) (Kd.R_far (p:=⟨gb824,0,none⟩) (Kd.R_types HO848.out BK824.out (by decide)) (fun _ hk=>hk.2) (.slice Ao81 t846.length co81)) (fun _ hk=>hk.2) (.slice Ao83 t849.length co83)) (fun _ h_=>h_.1))) hb) (Kd.R_base ho0)) (Kd.R_base ho1)) (fun _ h_=>h_.1));replace HO851:=zA (Kd.R_mono (Kd.R_told (Kd.R_told (Kd.R_old (by refine zr ?_;exact (Kd.R_mono (Kd.R_far (p:=⟨gb824,1,none⟩) (Kd.R_far (p:=⟨gb824,0,none⟩) (Kd.R_types HO851.out BK824.out (by decide)) (fun _ hk=>hk.2) (.slice Ao81 t846.length co81)) (fun _ hk=>hk.2) (.slice Ao83 t849.length co83)) (fun _ h_=>h_.1))) hb) (Kd.R_base ho0)) (Kd.R_base ho1)) (fun _ h_=>h_.1));replace BK799:=zA (blk_below (g:=gb799) (o:=.cells #[.slice A0_0 l0_0.length c0_0,.slice A0_1 l0_1.length c0_1] 29 (0,0)) (by refine zj ?_;refine blk_far ?_ NB799_824.out _;refine zj ?_;refine blk_far ?_ NB799_824.out _;refine zj ?_;exact BK799.out) hb);replace BK800:=zA (blk_below (g:=gb800) (o:=.cells #[.slice A1_0 l1_0.length c1_0,.slice A1_1 l1_1.length c1_1] 29 (0,0)) (by refine zj ?_;refine blk_far ?_ NB800_824.out _;refine zj ?_;refine blk_far ?_ NB800_824.out _;refine zj ?_;exact BK800.out) hb);replace BK824:=zA (blk_below (g:=gb824) (o:=.cells #[.slice Ao81 t846.length co81,.slice Ao83 t849.length co83] 29 (0,0)) (by refine zj ?_;refine blk_put (cs:=#[.slice Ao81 t846.length co81,.slice Ao42 t820.length co42]) ?_ 1 _ rfl;refine zj ?_;refine blk_put (cs:=#[.slice Ao40 t817.length co40,.slice Ao42 t820.length co42]) ?_ 0 _ rfl;refine zj ?_;exact BK824.out) hb);replace BK832:=zA (blk_below (g:=gb832) (o:=.cells #[.slice Ao51 t825.length co51,.slice Ao56 t828.length co56] 29 (0,0)) (by refine zj ?_;refine blk_far ?_ NB832_824.out _;refine zj ?_;refine blk_far ?_ NB832_824.out _;refine zj ?_;exact BK832.out) hb);replace HB:=zA (below_step zB hb);(try clear hb);(try clear hb2);(try clear hk);(try clear hi);(try clear ho0);(try clear ho1);obtain ⟨Ao93,co93,eo93⟩:=Kd.R_slice HO855.out;subst eo93;have hnb94:=NB832_824.out;have hnc94:=NB824_832.out;have hcz95_0:w92.cell? ⟨gb832,0,none⟩=some (.slice Ao51 t825.length co51):=(blk_cell BK832.out 0).trans rfl;have hcz95_1:w92.cell? ⟨gb832,1,none⟩=some (.slice Ao56 t828.length co56):=(blk_cell BK832.out 1).trans rfl;have hfz95_0:=blk_frozen BK832.out 0;have hfz95_1:=blk_frozen BK832.out 1;obtain ⟨Ao96,co96,eo96⟩:=Kd.R_slice HO858.out;subst eo96))
       (try simp only [Act.put,zi,zs,zt])
       go_cut [71] (fun v71 wc=>∃ (kq:Nat) (x71_71:Bool),v71=.bool x71_71∧Aside0 (ancepslaw38_TableTwo.j2 kq x71_71 l0_0 l0_1 l1_0 l1_1=some r)∧Aside0 (kq≤kj28)∧Aside0 (Kd.R (Kd.int .i64) 3 wc w.heap.size (fun k_=>some k_≠((.slice Ao83 t849.length co83):Value).ownBlock∧some k_≠((.slice Ao93 t853.length co93):Value).ownBlock∧some k_≠((.slice Ao96 t856.length co96):Value).ownBlock) (.slice Ao81 t846.length co81) t846)∧Aside0 (Kd.R (Kd.int .i64) 3 wc w.heap.size (fun k_=>some k_≠((.slice Ao81 t846.length co81):Value).ownBlock∧some k_≠((.slice Ao93 t853.length co93):Value).ownBlock∧some k_≠((.slice Ao96 t856.length co96):Value).ownBlock) (.slice Ao83 t849.length co83) t849)∧Aside0 (Kd.R (Kd.int .i64) 3 wc w.heap.size (fun k_=>some k_≠((.slice Ao81 t846.length co81):Value).ownBlock∧some k_≠((.slice Ao83 t849.length co83):Value).ownBlock∧some k_≠((.slice Ao96 t856.length co96):Value).ownBlock) (.slice Ao93 t853.length co93) t853)∧Aside0 (Kd.R (Kd.int .i64) 3 wc w.heap.size (fun k_=>some k_≠((.slice Ao81 t846.length co81):Value).ownBlock∧some k_≠((.slice Ao83 t849.length co83):Value).ownBlock∧some k_≠((.slice Ao93 t853.length co93):Value).ownBlock) (.slice Ao96 t856.length co96) t856)∧Aside0 (wc.heap[gb799]?=some (.cells #[(.slice A0_0 l0_0.length c0_0),(.slice A0_1 l0_1.length c0_1)] 29 (0,0)))∧Aside0 (wc.heap[gb800]?=some (.cells #[(.slice A1_0 l1_0.length c1_0),(.slice A1_1 l1_1.length c1_1)] 29 (0,0)))∧Aside0 (wc.heap[gb824]?=some (.cells #[(.slice Ao81 t846.length co81),(.slice Ao83 t849.length co83)] 29 (0,0)))∧Aside0 (wc.heap[gb832]?=some (.cells #[(.slice Ao93 t853.length co93),(.slice Ao96 t856.length co96)] 29 (0,0)))∧Aside0 (Below w.heap.size w wc))
       case first=>
        have H:=HC72.out
        clear HC72
        by_cases c97:t852=t859
        ·rw [if_pos c97] at H
         have c97b0:(t852 == t859)=true:=beq_iff_eq.mpr c97
         have c97b1:(t852 != t859)=false:=bne_eq_false_iff_eq.mpr c97
         clear c97
         (first|rw [c97b0]|(simp only [i64_w,i32_w];rw [c97b0])|skip)
         (try rw [c97b1])
         replace H:=Option.bind_eq_some_iff.mp H
         obtain ⟨t860,A980,H⟩:=H
         replace H:(ancepslaw38_TableTwo.j2 kj28 (!t860) l0_0 l0_1 l1_0 l1_1)=some r:=H
         have A98:=zA A980
         clear A980
         have H':=zA H
         clear H
         have hnb99:=NB824_799.out
         have hnc99:=NB799_824.out
         have hnb100:=NB824_800.out
         have hnc100:=NB800_824.out
         have hnb101:=NB824_832.out
         have hnc101:=NB832_824.out
         have hcz102_0:w92.cell? ⟨gb824,0,none⟩=some (.slice Ao81 t846.length co81):=(blk_cell BK824.out 0).trans rfl
         have hcz102_1:w92.cell? ⟨gb824,1,none⟩=some (.slice Ao83 t849.length co83):=(blk_cell BK824.out 1).trans rfl
         have hfz102_0:=blk_frozen BK824.out 0
         have hfz102_1:=blk_frozen BK824.out 1
         have hnb103:=NB832_799.out
         have hnc103:=NB799_832.out
         have hnb104:=NB832_800.out
         have hnc104:=NB800_832.out
         have hcz105_0:w92.cell? ⟨gb832,0,none⟩=some (.slice Ao51 t825.length co51):=(blk_cell BK832.out 0).trans rfl
         have hcz105_1:w92.cell? ⟨gb832,1,none⟩=some (.slice Ao56 t828.length co56):=(blk_cell BK832.out 1).trans rfl
         have hfz105_0:=blk_frozen BK832.out 0
         have hfz105_1:=blk_frozen BK832.out 1
         go_wp2_with (first|(go_at_call 18;(with_reducible refine (ancepsref38_Equal.calls kj28 _ _ t846 _ _ t849 _ _ t853 _ _ t856 t860 _ ?side1 ?side2 ?side3 ?side4 ?side5 ?side6 ?side7 ?side8 A98.out).mono ?_);(case side1=>refine (Kd.R_reads' (e:=3) (base:=w.heap.size) (ok:=fun k_=>((((((((((some k_≠(.slice Ao83 t849.length co83:Value).ownBlock∧some k_≠(.slice Ao40 t817.length co40:Value).ownBlock)∧some k_≠(.slice Ao42 t820.length co42:Value).ownBlock)∧some k_≠(.slice Ao51 t825.length co51:Value).ownBlock)∧some k_≠(.slice Ao56 t828.length co56:Value).ownBlock)∧some k_≠(.slice Ao76 t834.length co76:Value).ownBlock)∧some k_≠(.slice Ao77 t837.length co77:Value).ownBlock)∧some k_≠(.slice Ao78 t840.length co78:Value).ownBlock)∧some k_≠(.slice Ao79 t843.length co79:Value).ownBlock)∧some k_≠(.slice Ao93 t853.length co93:Value).ownBlock)∧some k_≠(.slice Ao96 t856.length co96:Value).ownBlock)) (n:=t846.length) (c:=co81) ?_).2.2;exact (by refine zr ?_;exact (Kd.R_mono (Kd.R_far (p:=⟨gb832,1,none⟩) (Kd.R_far (p:=⟨gb832,0,none⟩) (Kd.R_types HO848.out BK832.out (by decide)) (fun _ hk=>hk.2) (.slice Ao93 t853.length co93)) (fun _ hk=>hk.2) (.slice Ao96 t856.length co96)) (fun _ h_=>h_.1))));(case side2=>exact (Kd.R_reads' HO848.out).2.1);(case side3=>refine (Kd.R_reads' (e:=3) (base:=w.heap.size) (ok:=fun k_=>((((((((((some k_≠(.slice Ao81 t846.length co81:Value).ownBlock∧some k_≠(.slice Ao40 t817.length co40:Value).ownBlock)∧some k_≠(.slice Ao42 t820.length co42:Value).ownBlock)∧some k_≠(.slice Ao51 t825.length co51:Value).ownBlock)∧some k_≠(.slice Ao56 t828.length co56:Value).ownBlock)∧some k_≠(.slice Ao76 t834.length co76:Value).ownBlock)∧some k_≠(.slice Ao77 t837.length co77:Value).ownBlock)∧some k_≠(.slice Ao78 t840.length co78:Value).ownBlock)∧some k_≠(.slice Ao79 t843.length co79:Value).ownBlock)∧some k_≠(.slice Ao93 t853.length co93:Value).ownBlock)∧some k_≠(.slice Ao96 t856.length co96:Value).ownBlock)) (n:=t849.length) (c:=co83) ?_).2.2;exact (by refine zr ?_;exact (Kd.R_mono (Kd.R_far (p:=⟨gb832,1,none⟩) (Kd.R_far (p:=⟨gb832,0,none⟩) (Kd.R_types HO851.out BK832.out (by decide)) (fun _ hk=>hk.2) (.slice Ao93 t853.length co93)) (fun _ hk=>hk.2) (.slice Ao96 t856.length co96)) (fun _ h_=>h_.1))));(case side4=>exact (Kd.R_reads' HO851.out).2.1);(case side5=>refine (Kd.R_reads' (e:=3) (base:=w.heap.size) (ok:=fun k_=>((((((((((some k_≠(.slice Ao96 t856.length co96:Value).ownBlock∧some k_≠(.slice Ao40 t817.length co40:Value).ownBlock)∧some k_≠(.slice Ao42 t820.length co42:Value).ownBlock)∧some k_≠(.slice Ao51 t825.length co51:Value).ownBlock)∧some k_≠(.slice Ao56 t828.length co56:Value).ownBlock)∧some k_≠(.slice Ao76 t834.length co76:Value).ownBlock)∧some k_≠(.slice Ao77 t837.length co77:Value).ownBlock)∧some k_≠(.slice Ao78 t840.length co78:Value).ownBlock)∧some k_≠(.slice Ao79 t843.length co79:Value).ownBlock)∧some k_≠(.slice Ao81 t846.length co81:Value).ownBlock)∧some k_≠(.slice Ao83 t849.length co83:Value).ownBlock)) (n:=t853.length) (c:=co93) ?_).2.2;exact (by refine zr ?_;exact (Kd.R_mono (Kd.R_far (p:=⟨gb832,1,none⟩) (Kd.R_far (p:=⟨gb832,0,none⟩) (Kd.R_types HO855.out BK832.out (by decide)) (fun _ hk=>hk.2) (.slice Ao93 t853.length co93)) (fun _ hk=>hk.2) (.slice Ao96 t856.length co96)) (fun _ h_=>h_.1))));(case side6=>exact (Kd.R_reads' HO855.out).2.1);(case side7=>refine (Kd.R_reads' (e:=3) (base:=w.heap.size) (ok:=fun k_=>((((((((((some k_≠(.slice Ao93 t853.length co93:Value).ownBlock∧some k_≠(.slice Ao40 t817.length co40:Value).ownBlock)∧some k_≠(.slice Ao42 t820.length co42:Value).ownBlock)∧some k_≠(.slice Ao51 t825.length co51:Value).ownBlock)∧some k_≠(.slice Ao56 t828.length co56:Value).ownBlock)∧some k_≠(.slice Ao76 t834.length co76:Value).ownBlock)∧some k_≠(.slice Ao77 t837.length co77:Value).ownBlock)∧some k_≠(.slice Ao78 t840.length co78:Value).ownBlock)∧some k_≠(.slice Ao79 t843.length co79:Value).ownBlock)∧some k_≠(.slice Ao81 t846.length co81:Value).ownBlock)∧some k_≠(.slice Ao83 t849.length co83:Value).ownBlock)) (n:=t856.length) (c:=co96) ?_).2.2;exact (by refine zr ?_;exact (Kd.R_mono (Kd.R_far (p:=⟨gb832,1,none⟩) (Kd.R_far (p:=⟨gb832,0,none⟩) (Kd.R_types HO858.out BK832.out (by decide)) (fun _ hk=>hk.2) (.slice Ao93 t853.length co93)) (fun _ hk=>hk.2) (.slice Ao96 t856.length co96)) (fun _ h_=>h_.1))));(case side8=>exact (Kd.R_reads' HO858.out).2.1);rintro e w106 ⟨rfl,hb⟩;replace HO_825000:=zA (Kd.R_below (by refine zr ?_;exact (Kd.R_mono (Kd.R_far (p:=⟨gb832,1,none⟩) (Kd.R_far (p:=⟨gb832,0,none⟩) (Kd.R_types HO_825000.out BK832.out (by decide)) (fun _ hk=>hk.2) (.slice Ao93 t853.length co93)) (fun _ hk=>hk.2) (.slice Ao96 t856.length co96)) (fun _ h_=>h_.1))) hb);replace HO_825001:=zA (Kd.R_below (by refine zr ?_;exact (Kd.R_mono (Kd.R_far (p:=⟨gb832,1,none⟩) (Kd.R_far (p:=⟨gb832,0,none⟩) (Kd.R_types HO_825001.out BK832.out (by decide)) (fun _ hk=>hk.2) (.slice Ao93 t853.length co93)) (fun _ hk=>hk.2) (.slice Ao96 t856.length co96)) (fun _ h_=>h_.1))) hb);replace HO_833000:=zA (Kd.R_below (by refine zr ?_;exact (Kd.R_mono (Kd.R_far (p:=⟨gb832,1,none⟩) (Kd.R_far (p:=⟨gb832,0,none⟩) (Kd.R_types HO_833000.out BK832.out (by decide)) (fun _ hk=>hk.2) (.slice Ao93 t853.length co93)) (fun _ hk=>hk.2) (.slice Ao96 t856.length co96)) (fun _ h_=>h_.1))) hb);replace HO_833001:=zA (Kd.R_below (by refine zr ?_;exact (Kd.R_mono (Kd.R_far (p:=⟨gb832,1,none⟩) (Kd.R_far (p:=⟨gb832,0,none⟩) (Kd.R_types HO_833001.out BK832.out (by decide)) (fun _ hk=>hk.2) (.slice Ao93 t853.length co93)) (fun _ hk=>hk.2) (.slice Ao96 t856.length co96)) (fun _ h_=>h_.1))) hb);replace HO836:=zA (Kd.R_below (by refine zr ?_;exact (Kd.R_mono (Kd.R_far (p:=⟨gb832,1,none⟩) (Kd.R_far (p:=⟨gb832,0,none⟩) (Kd.R_types HO836.out BK832.out (by decide)) (fun _ hk=>hk.2) (.slice Ao93 t853.length co93)) (fun _ hk=>hk.2) (.slice Ao96 t856.length co96)) (fun _ h_=>h_.1))) hb);replace HO839:=zA (Kd.R_below (by refine zr ?_;exact (Kd.R_mono (Kd.R_far (p:=⟨gb832,1,none⟩) (Kd.R_far (p:=⟨gb832,0,none⟩) (Kd.R_types HO839.out BK832.out (by decide)) (fun _ hk=>hk.2) (.slice Ao93 t853.length co93)) (fun _ hk=>hk.2) (.slice Ao96 t856.length co96)) (fun _ h_=>h_.1))) hb);replace HO842:=zA (Kd.R_below (by refine zr ?_;exact (Kd.R_mono (Kd.R_far (p:=⟨gb832,1,none⟩) (Kd.R_far (p:=⟨gb832,0,none⟩) (Kd.R_types HO842.out BK832.out (by decide)) (fun _ hk=>hk.2) (.slice Ao93 t853.length co93)) (fun _ hk=>hk.2) (.slice Ao96 t856.length co96)) (fun _ h_=>h_.1))) hb);replace HO845:=zA (Kd.R_below (by refine zr ?_;exact (Kd.R_mono (Kd.R_far (p:=⟨gb832,1,none⟩) (Kd.R_far (p:=⟨gb832,0,none⟩) (Kd.R_types HO845.out BK832.out (by decide)) (fun _ hk=>hk.2) (.slice Ao93 t853.length co93)) (fun _ hk=>hk.2) (.slice Ao96 t856.length co96)) (fun _ h_=>h_.1))) hb);replace HO848:=zA (Kd.R_below (by refine zr ?_;exact (Kd.R_mono (Kd.R_far (p:=⟨gb832,1,none⟩) (Kd.R_far (p:=⟨gb832,0,none⟩) (Kd.R_types HO848.out BK832.out (by decide)) (fun _ hk=>hk.2) (.slice Ao93 t853.length co93)) (fun _ hk=>hk.2) (.slice Ao96 t856.length co96)) (fun _ h_=>h_.1))) hb);replace HO851:=zA (Kd.R_below (by refine zr ?_;exact (Kd.R_mono (Kd.R_far (p:=⟨gb832,1,none⟩) (Kd.R_far (p:=⟨gb832,0,none⟩) (Kd.R_types HO851.out BK832.out (by decide)) (fun _ hk=>hk.2) (.slice Ao93 t853.length co93)) (fun _ hk=>hk.2) (.slice Ao96 t856.length co96)) (fun _ h_=>h_.1))) hb);replace HO855:=zA (Kd.R_below (by refine zr ?_;exact (Kd.R_mono (Kd.R_far (p:=⟨gb832,1,none⟩) (Kd.R_far (p:=⟨gb832,0,none⟩) (Kd.R_types HO855.out BK832.out (by decide)) (fun _ hk=>hk.2) (.slice Ao93 t853.length co93)) (fun _ hk=>hk.2) (.slice Ao96 t856.length co96)) (fun _ h_=>h_.1))) hb);replace HO858:=zA (Kd.R_below (by refine zr ?_;exact (Kd.R_mono (Kd.R_far (p:=⟨gb832,1,none⟩) (Kd.R_far (p:=⟨gb832,0,none⟩) (Kd.R_types HO858.out BK832.out (by decide)) (fun _ hk=>hk.2) (.slice Ao93 t853.length co93)) (fun _ hk=>hk.2) (.slice Ao96 t856.length co96)) (fun _ h_=>h_.1))) hb);replace BK799:=zA (blk_below (g:=gb799) (o:=.cells #[.slice A0_0 l0_0.length c0_0,.slice A0_1 l0_1.length c0_1] 29 (0,0)) (by refine zj ?_;refine blk_far ?_ NB799_832.out _;refine zj ?_;refine blk_far ?_ NB799_832.out _;refine zj ?_;exact BK799.out) hb);replace BK800:=zA (blk_below (g:=gb800) (o:=.cells #[.slice A1_0 l1_0.length c1_0,.slice A1_1 l1_1.length c1_1] 29 (0,0)) (by refine zj ?_;refine blk_far ?_ NB800_832.out _;refine zj ?_;refine blk_far ?_ NB800_832.out _;refine zj ?_;exact BK800.out) hb);replace BK824:=zA (blk_below (g:=gb824) (o:=.cells #[.slice Ao81 t846.length co81,.slice Ao83 t849.length co83] 29 (0,0)) (by refine zj ?_;refine blk_far ?_ NB824_832.out _;refine zj ?_;refine blk_far ?_ NB824_832.out _;refine zj ?_;exact BK824.out) hb);replace BK832:=zA (blk_below (g:=gb832) (o:=.cells #[.slice Ao93 t853.length co93,.slice Ao96 t856.length co96] 29 (0,0)) (by refine zj ?_;refine blk_put (cs:=#[.slice Ao93 t853.length co93,.slice Ao56 t828.length co56]) ?_ 1 _ rfl;refine zj ?_;refine blk_put (cs:=#[.slice Ao51 t825.length co51,.slice Ao56 t828.length co56]) ?_ 0 _ rfl;refine zj ?_;exact BK832.out) hb);replace HB:=zA (below_step zB hb);(try clear hb);(try clear hb2);(try clear hk);(try clear hi)))
         go_meet
         case rel=>exact ⟨_,(!t860),zT,H',⟨by have:=HJ2.out;have:=HJ28.out;first|omega|exact Nat.le_refl _⟩,⟨by refine zr ?_;exact Kd.R_mono HO848.out (fun _ hk=>⟨hk.1.1.1.1.1.1.1.1.1.1,⟨hk.1.2,hk.2⟩⟩)⟩,⟨by refine zr ?_;exact Kd.R_mono HO851.out (fun _ hk=>⟨hk.1.1.1.1.1.1.1.1.1.1,⟨hk.1.2,hk.2⟩⟩)⟩,⟨by refine zr ?_;exact Kd.R_mono HO855.out (fun _ hk=>⟨hk.1.2,⟨hk.2,hk.1.1.1.1.1.1.1.1.1.1⟩⟩)⟩,⟨by refine zr ?_;exact Kd.R_mono HO858.out (fun _ hk=>⟨hk.1.2,⟨hk.2,hk.1.1.1.1.1.1.1.1.1.1⟩⟩)⟩,⟨by refine zj ?_;exact BK799.out⟩,⟨by refine zj ?_;exact BK800.out⟩,⟨by refine zj ?_;exact BK824.out⟩,⟨by refine zj ?_;exact BK832.out⟩,⟨by repeat (first|(with_reducible first|exact HB.out|apply below_alloc|apply pw_below_drewN|apply below_drew1|refine below_set ?_ GE799.out|refine below_set ?_ GE800.out|refine below_set ?_ GE824.out|refine below_set ?_ GE832.out)|exact HB.out)⟩⟩
        ·rw [if_neg c97] at H
         have c97b0:(t852 == t859)=false:=beq_eq_false_iff_ne.mpr c97
         have c97b1:(t852 != t859)=true:=bne_iff_ne.mpr c97
         (first|rw [c97b0]|(simp only [i64_w,i32_w];rw [c97b0])|skip)
         (try rw [c97b1])
         have H':=zA H
         clear H
         go_wp2
         go_meet
         case rel=>exact ⟨_,(true),zT,H',⟨by have:=HJ2.out;have:=HJ28.out;first|omega|exact Nat.le_refl _⟩,⟨by refine zr ?_;exact Kd.R_mono (Kd.R_far (p:=⟨gb832,1,none⟩) (Kd.R_far (p:=⟨gb832,0,none⟩) (Kd.R_types HO848.out BK832.out (by decide)) (fun _ hk=>hk.2) (.slice Ao93 t853.length co93)) (fun _ hk=>hk.2) (.slice Ao96 t856.length co96)) (fun _ hk=>⟨hk.1.1.1.1.1.1.1.1.1.1.1,⟨hk.1.1.2,hk.1.2⟩⟩)⟩,⟨by refine zr ?_;exact Kd.R_mono (Kd.R_far (p:=⟨gb832,1,none⟩) (Kd.R_far (p:=⟨gb832,0,none⟩) (Kd.R_types HO851.out BK832.out (by decide)) (fun _ hk=>hk.2) (.slice Ao93 t853.length co93)) (fun _ hk=>hk.2) (.slice Ao96 t856.length co96)) (fun _ hk=>⟨hk.1.1.1.1.1.1.1.1.1.1.1,⟨hk.1.1.2,hk.1.2⟩⟩)⟩,⟨by refine zr ?_;exact Kd.R_mono (Kd.R_far (p:=⟨gb832,1,none⟩) (Kd.R_far (p:=⟨gb832,0,none⟩) (Kd.R_types HO855.out BK832.out (by decide)) (fun _ hk=>hk.2) (.slice Ao93 t853.length co93)) (fun _ hk=>hk.2) (.slice Ao96 t856.length co96)) (fun _ hk=>⟨hk.1.1.2,⟨hk.1.2,hk.1.1.1.1.1.1.1.1.1.1.1⟩⟩)⟩,⟨by refine zr ?_;exact Kd.R_mono (Kd.R_far (p:=⟨gb832,1,none⟩) (Kd.R_far (p:=⟨gb832,0,none⟩) (Kd.R_types HO858.out BK832.out (by decide)) (fun _ hk=>hk.2) (.slice Ao93 t853.length co93)) (fun _ hk=>hk.2) (.slice Ao96 t856.length co96)) (fun _ hk=>⟨hk.1.1.2,⟨hk.1.2,hk.1.1.1.1.1.1.1.1.1.1.1⟩⟩)⟩,⟨by refine zj ?_;refine blk_far ?_ NB799_832.out _;refine zj ?_;refine blk_far ?_ NB799_832.out _;refine zj ?_;exact BK799.out⟩,⟨by refine zj ?_;refine blk_far ?_ NB800_832.out _;refine zj ?_;refine blk_far ?_ NB800_832.out _;refine zj ?_;exact BK800.out⟩,⟨by refine zj ?_;refine blk_far ?_ NB824_832.out _;refine zj ?_;refine blk_far ?_ NB824_832.out _;refine zj ?_;exact BK824.out⟩,⟨by refine zj ?_;refine blk_put (cs:=#[.slice Ao93 t853.length co93,.slice Ao56 t828.length co56]) ?_ 1 _ rfl;refine zj ?_;refine blk_put (cs:=#[.slice Ao51 t825.length co51,.slice Ao56 t828.length co56]) ?_ 0 _ rfl;refine zj ?_;exact BK832.out⟩,⟨by repeat (first|(with_reducible first|exact HB.out|apply below_alloc|apply pw_below_drewN|apply below_drew1|refine below_set ?_ GE799.out|refine below_set ?_ GE800.out|refine below_set ?_ GE824.out|refine below_set ?_ GE832.out)|exact HB.out)⟩⟩
       case rest=>
        clear HC72
        try clear c22
        try clear c67
        try clear hcz46_0
        try clear hcz46_1
        try clear hcz48_0
        try clear hcz48_1
        try clear hcz55_0
        try clear hcz55_1
        try clear hcz88_0
        try clear hcz88_1
        try clear hcz91_0
        try clear hcz91_1
        try clear hcz95_0
        try clear hcz95_1
        try clear hfz46_0
        try clear hfz46_1
        try clear hfz48_0
        try clear hfz48_1
        try clear hfz55_0
        try clear hfz55_1
        try clear hfz88_0
        try clear hfz88_1
        try clear hfz91_0
        try clear hfz91_1
        try clear hfz95_0
        try clear hfz95_1
        obtain ⟨kq,x71_71,rfl,HA,HJ71,HO_825000,HO_825001,HO_833000,HO_833001,BK799,BK800,BK824,BK832,HB⟩:=hcut
        cases kq with
        | zero=>exact absurd HA.out (by simp [ancepslaw38_TableTwo.j2])
        | succ kj71=>
         have H:=HA.out
         clear HA
         simp only [ancepslaw38_TableTwo.j2] at H
         by_cases c107:x71_71=true
         ·subst c107
          have H1:(some false)=some r:=by rw [if_pos rfl] at H;exact H
          clear H
          have H:=H1
          clear H1
          obtain rfl:=Option.some.inj H
          go_wp2
          go_ret
          exact ⟨ze,by repeat (first|(with_reducible first|exact HB.out|apply below_alloc|apply pw_below_drewN|apply below_drew1|refine below_set ?_ GE799.out|refine below_set ?_ GE800.out|refine below_set ?_ GE824.out|refine below_set ?_ GE832.out)|exact HB.out)⟩
         ·replace c107:=Bool.eq_false_iff.mpr c107
          subst c107
          have H1:((ancepslaw38_own.f l0_0 l0_1).bind fun bt861=>((ancepslaw38_own.f l1_0 l1_1).bind fun bt867=>((table_Minus.f kj71 bt861.1 bt861.2 bt867.1 bt867.2).bind fun bt873=>((ancepsref38_Minus.f kj71 l0_0 l0_1 l1_0 l1_1).bind fun bt880=>(if bt873.2.2=bt880.2.2 then ((ancepsref38_Equal.f kj71 bt873.1 bt873.2.1 bt880.1 bt880.2.1).bind fun t887=>(ancepslaw38_TableTwo.j3 kj71 (!t887) l0_0 l0_1 l1_0 l1_1)) else (ancepslaw38_TableTwo.j3 kj71 true l0_0 l0_1 l1_0 l1_1))))))=some r:=by rw [if_neg (show ¬ (false=true) by decide)] at H;exact H
          clear H
          have H:=H1
          clear H1
          replace H:=Option.bind_eq_some_iff.mp H
          obtain ⟨⟨t861,t864⟩,A1080,H⟩:=H
          replace H:((ancepslaw38_own.f l1_0 l1_1).bind fun bt867=>((table_Minus.f kj71 t861 t864 bt867.1 bt867.2).bind fun bt873=>((ancepsref38_Minus.f kj71 l0_0 l0_1 l1_0 l1_1).bind fun bt880=>(if bt873.2.2=bt880.2.2 then ((ancepsref38_Equal.f kj71 bt873.1 bt873.2.1 bt880.1 bt880.2.1).bind fun t887=>(ancepslaw38_TableTwo.j3 kj71 (!t887) l0_0 l0_1 l1_0 l1_1)) else (ancepslaw38_TableTwo.j3 kj71 true l0_0 l0_1 l1_0 l1_1)))))=some r:=H
          have A108:=zA A1080
          clear A1080
          replace H:=Option.bind_eq_some_iff.mp H
          obtain ⟨⟨t867,t870⟩,A1090,H⟩:=H
          replace H:((table_Minus.f kj71 t861 t864 t867 t870).bind fun bt873=>((ancepsref38_Minus.f kj71 l0_0 l0_1 l1_0 l1_1).bind fun bt880=>(if bt873.2.2=bt880.2.2 then ((ancepsref38_Equal.f kj71 bt873.1 bt873.2.1 bt880.1 bt880.2.1).bind fun t887=>(ancepslaw38_TableTwo.j3 kj71 (!t887) l0_0 l0_1 l1_0 l1_1)) else (ancepslaw38_TableTwo.j3 kj71 true l0_0 l0_1 l1_0 l1_1))))=some r:=H
          have A109:=zA A1090
          clear A1090
          replace H:=Option.bind_eq_some_iff.mp H
          obtain ⟨⟨t873,t876,t879⟩,A1100,H⟩:=H
          replace H:((ancepsref38_Minus.f kj71 l0_0 l0_1 l1_0 l1_1).bind fun bt880=>(if t879=bt880.2.2 then ((ancepsref38_Equal.f kj71 t873 t876 bt880.1 bt880.2.1).bind fun t887=>(ancepslaw38_TableTwo.j3 kj71 (!t887) l0_0 l0_1 l1_0 l1_1)) else (ancepslaw38_TableTwo.j3 kj71 true l0_0 l0_1 l1_0 l1_1)))=some r:=H
          have A110:=zA A1100
          clear A1100
          replace H:=Option.bind_eq_some_iff.mp H
          obtain ⟨⟨t880,t883,t886⟩,A1110,H⟩:=H
          replace H:(if t879=t886 then ((ancepsref38_Equal.f kj71 t873 t876 t880 t883).bind fun t887=>(ancepslaw38_TableTwo.j3 kj71 (!t887) l0_0 l0_1 l1_0 l1_1)) else (ancepslaw38_TableTwo.j3 kj71 true l0_0 l0_1 l1_0 l1_1))=some r:=H
          have A111:=zA A1110
          clear A1110
          have HC112:=zA H
          clear H
          try go_wp2
          replace HO_825000:=zA (Kd.R_drew HO_825000.out)
          replace HO_825001:=zA (Kd.R_drew HO_825001.out)
          replace HO_833000:=zA (Kd.R_drew HO_833000.out)
          replace HO_833001:=zA (Kd.R_drew HO_833001.out)
          replace BK799:=zA (blk_drew BK799.out)
          replace BK800:=zA (blk_drew BK800.out)
          replace BK824:=zA (blk_drew BK824.out)
          replace BK832:=zA (blk_drew BK832.out)
          replace HB:=zA (below_drew1 HB.out)
          refine start_ (n:=10) (S:=fun w'=>w'.cell? ⟨gb799,0,none⟩=some (.slice A0_0 l0_0.length c0_0)∧w'.cell? ⟨gb799,1,none⟩=some (.slice A0_1 l0_1.length c0_1)∧w'.cell? ⟨gb800,0,none⟩=some (.slice A1_0 l1_0.length c1_0)∧w'.cell? ⟨gb800,1,none⟩=some (.slice A1_1 l1_1.length c1_1)) (ds:=[]) #[false,false,false,false,false,false,false,false,false,false] zK rfl rfl ⟨(blk_cell BK799.out 0).trans rfl,(blk_cell BK799.out 1).trans rfl,(blk_cell BK800.out 0).trans rfl,(blk_cell BK800.out 1).trans rfl⟩ (fun hHeld=>?_);refine with_tabW ancepslaw38_TableTwo.tab11 ancepslaw38_TableTwo.bits11 (fun HT_ HW_=>?_)
          generalize wc.drew=w113 at HO_825000 HO_825001 HO_833000 HO_833001 BK799 BK800 BK824 BK832 HB hHeld ⊢
          refine take_ (i:=0) (N:=some 73) (v:=?_) (a':=?_) #[true,false,false,false,false,false,false,false,false,false] rfl rfl (take_ofW HT_.out HW_.out zK) (fun _ _ _ h=>h) (Or.inl ⟨by rfl,?_⟩) hHeld ?_ ?_
          rotate_left
          ·rintro w' ⟨s0,s1,s2,s3⟩
           go_simp
           with_reducible rfl
          rotate_left
          ·simp only [Act.put,zi,zs,zt,i64_w,i32_w]
           rfl
          refine take_ (i:=2) (N:=some 75) (v:=?_) (a':=?_) #[true,false,true,false,false,false,false,false,false,false] rfl rfl (take_ofW HT_.out HW_.out zK) (fun _ _ _ h=>h) (Or.inl ⟨by rfl,?_⟩) hHeld ?_ ?_
          rotate_left
          ·rintro w' ⟨s0,s1,s2,s3⟩
           go_simp
           with_reducible rfl
          rotate_left
          ·simp only [Act.put,zi,zs,zt,i64_w,i32_w]
           rfl
          refine one_ (i:=1) (N:=some 74) #[true,true,true,false,false,false,false,false,false,false] rfl rfl (one_of HT_.out zK) (by decide) (fun K hK=>?_)
          refine goes_ Try.func21 zK rfl #[.agg #[.slice A0_0 l0_0.length c0_0,.slice A0_1 l0_1.length c0_1]] (by rfl) rfl rfl zM ?_
          with_reducible refine (ancepslaw38_own.calls _ _ l0_0 _ _ l0_1 t861 t864 _ ?side1 ?side2 ?side3 ?side4 A108.out).mono ?_
          (case side1=>exact zC (Kd.C_below HR0_0.out HB.out))
          (case side2=>exact HC0_0.out)
          (case side3=>exact zC (Kd.C_below HR0_1.out HB.out))
          (case side4=>exact HC0_1.out)
          rintro e w114 ⟨v862,v865,rfl,ho0,ho1,hb⟩
          refine ⟨_,rfl,?_⟩
          have HO863:=zA (Kd.R_lower (Kd.R_new' (Kd.R_new' (Kd.R_new' (Kd.R_new' ho0 (Kd.R_lt (zR HO_825000))) (Kd.R_lt (zR HO_825001))) (Kd.R_lt (zR HO_833000))) (Kd.R_lt (zR HO_833001))) (below_size zB))
          have HO866:=zA (Kd.R_lower (Kd.R_new' (Kd.R_new' (Kd.R_new' (Kd.R_new' ho1 (Kd.R_lt (zR HO_825000))) (Kd.R_lt (zR HO_825001))) (Kd.R_lt (zR HO_833000))) (Kd.R_lt (zR HO_833001))) (below_size zB))
          replace HO_825000:=zA (Kd.R_mono (Kd.R_told (Kd.R_told (Kd.R_old (zR HO_825000) hb) (Kd.R_base ho0)) (Kd.R_base ho1)) (fun _ h_=>h_.1))
          replace HO_825001:=zA (Kd.R_mono (Kd.R_told (Kd.R_told (Kd.R_old (zR HO_825001) hb) (Kd.R_base ho0)) (Kd.R_base ho1)) (fun _ h_=>h_.1))
          replace HO_833000:=zA (Kd.R_mono (Kd.R_told (Kd.R_told (Kd.R_old (zR HO_833000) hb) (Kd.R_base ho0)) (Kd.R_base ho1)) (fun _ h_=>h_.1))
          replace HO_833001:=zA (Kd.R_mono (Kd.R_told (Kd.R_told (Kd.R_old (zR HO_833001) hb) (Kd.R_base ho0)) (Kd.R_base ho1)) (fun _ h_=>h_.1))
          replace BK799:=zA (zb BK799 hb)
          replace BK800:=zA (zb BK800 hb)
          replace BK824:=zA (zb BK824 hb)
          replace BK832:=zA (zb BK832 hb)
          replace HB:=zA (below_step zB hb)
          (try clear hb)
          (try clear hb2)
          (try clear hk)
          (try clear hi)
          (try clear ho0)
          (try clear ho1)
          refine hK.out _ _ ⟨(blk_cell BK799.out 0).trans rfl,(blk_cell BK799.out 1).trans rfl,(blk_cell BK800.out 0).trans rfl,(blk_cell BK800.out 1).trans rfl⟩ (fun hHeld=>?_)
          clear hK K
          refine norm_ (a':=?_) ?_ ?_
          rotate_left
          ·show Act.put _ (some 74) _=_
           simp only [Act.put,zi,zs,zt,i64_w,i32_w]
           rfl
          refine one_ (i:=3) (N:=some 76) #[true,true,true,true,false,false,false,false,false,false] rfl rfl (one_of HT_.out zK) (by decide) (fun K hK=>?_)
          refine goes_ Try.func21 zK rfl #[.agg #[.slice A1_0 l1_0.length c1_0,.slice A1_1 l1_1.length c1_1]] (by rfl) rfl rfl zM ?_
          with_reducible refine (ancepslaw38_own.calls _ _ l1_0 _ _ l1_1 t867 t870 _ ?side1 ?side2 ?side3 ?side4 A109.out).mono ?_
          (case side1=>exact zC (Kd.C_below HR1_0.out HB.out))
          (case side2=>exact HC1_0.out)
          (case side3=>exact zC (Kd.C_below HR1_1.out HB.out))
          (case side4=>exact HC1_1.out)
          rintro e w115 ⟨v868,v871,rfl,ho0,ho1,hb⟩
          refine ⟨_,rfl,?_⟩
          have HO869:=zA (Kd.R_lower (Kd.R_new' (Kd.R_new' (Kd.R_new' (Kd.R_new' (Kd.R_new' (Kd.R_new' ho0 (Kd.R_lt (zR HO_825000))) (Kd.R_lt (zR HO_825001))) (Kd.R_lt (zR HO_833000))) (Kd.R_lt (zR HO_833001))) (Kd.R_lt (zR HO863))) (Kd.R_lt (zR HO866))) (below_size zB))
          have HO872:=zA (Kd.R_lower (Kd.R_new' (Kd.R_new' (Kd.R_new' (Kd.R_new' (Kd.R_new' (Kd.R_new' ho1 (Kd.R_lt (zR HO_825000))) (Kd.R_lt (zR HO_825001))) (Kd.R_lt (zR HO_833000))) (Kd.R_lt (zR HO_833001))) (Kd.R_lt (zR HO863))) (Kd.R_lt (zR HO866))) (below_size zB))
          replace HO_825000:=zA (Kd.R_mono (Kd.R_told (Kd.R_told (Kd.R_old (zR HO_825000) hb) (Kd.R_base ho0)) (Kd.R_base ho1)) (fun _ h_=>h_.1))
          replace HO_825001:=zA (Kd.R_mono (Kd.R_told (Kd.R_told (Kd.R_old (zR HO_825001) hb) (Kd.R_base ho0)) (Kd.R_base ho1)) (fun _ h_=>h_.1))
          replace HO_833000:=zA (Kd.R_mono (Kd.R_told (Kd.R_told (Kd.R_old (zR HO_833000) hb) (Kd.R_base ho0)) (Kd.R_base ho1)) (fun _ h_=>h_.1))
          replace HO_833001:=zA (Kd.R_mono (Kd.R_told (Kd.R_told (Kd.R_old (zR HO_833001) hb) (Kd.R_base ho0)) (Kd.R_base ho1)) (fun _ h_=>h_.1))
          replace HO863:=zA (Kd.R_mono (Kd.R_told (Kd.R_told (Kd.R_old (zR HO863) hb) (Kd.R_base ho0)) (Kd.R_base ho1)) (fun _ h_=>h_.1))
          replace HO866:=zA (Kd.R_mono (Kd.R_told (Kd.R_told (Kd.R_old (zR HO866) hb) (Kd.R_base ho0)) (Kd.R_base ho1)) (fun _ h_=>h_.1))
          replace BK799:=zA (zb BK799 hb)
          replace BK800:=zA (zb BK800 hb)
          replace BK824:=zA (zb BK824 hb)
          replace BK832:=zA (zb BK832 hb)
          replace HB:=zA (below_step zB hb)
          (try clear hb)
          (try clear hb2)
          (try clear hk)
          (try clear hi)
          (try clear ho0)
          (try clear ho1)
          obtain ⟨Ao116,co116,eo116⟩:=Kd.R_slice HO863.out
          (first|subst eo116|(injection eo116 with f1_ f2_ f3_;have f4_:=f1_.symm;have f5_:=f3_.symm;clear f1_ f2_ f3_;subst f4_;subst f5_))
          obtain ⟨Ao117,co117,eo117⟩:=Kd.R_slice HO866.out
          (first|subst eo117|(injection eo117 with f1_ f2_ f3_;have f4_:=f1_.symm;have f5_:=f3_.symm;clear f1_ f2_ f3_;subst f4_;subst f5_))
          obtain ⟨Ao118,co118,eo118⟩:=Kd.R_slice HO869.out
          (first|subst eo118|(injection eo118 with f1_ f2_ f3_;have f4_:=f1_.symm;have f5_:=f3_.symm;clear f1_ f2_ f3_;subst f4_;subst f5_))
          obtain ⟨Ao119,co119,eo119⟩:=Kd.R_slice HO872.out
          (first|subst eo119|(injection eo119 with f1_ f2_ f3_;have f4_:=f1_.symm;have f5_:=f3_.symm;clear f1_ f2_ f3_;subst f4_;subst f5_))
          refine hK.out _ _ ⟨(blk_cell BK799.out 0).trans rfl,(blk_cell BK799.out 1).trans rfl,(blk_cell BK800.out 0).trans rfl,(blk_cell BK800.out 1).trans rfl⟩ (fun hHeld=>?_)
          clear hK K
          refine norm_ (a':=?_) ?_ ?_
          rotate_left
          ·show Act.put _ (some 76) _=_
           simp only [Act.put,zi,zs,zt,i64_w,i32_w]
           rfl
          refine one_ (i:=4) (N:=some 77) #[true,true,true,true,true,false,false,false,false,false] rfl rfl (one_of HT_.out zK) (by decide) (fun K hK=>?_)
          refine goes_ Try.func27 zK rfl #[.agg #[.slice Ao116 t861.length co116,.slice Ao117 t864.length co117],.agg #[.slice Ao118 t867.length co118,.slice Ao119 t870.length co119]] (by rfl) rfl rfl zM ?_
          with_reducible refine (table_Minus.calls kj71 _ _ t861 _ _ t864 _ _ t867 _ _ t870 t873 t876 t879 _ ?side1 ?side2 ?side3 ?side4 ?side5 ?side6 ?side7 ?side8 A110.out).mono ?_
          (case side1=>exact zC (Kd.R_reads' HO863.out).2.2)
          (case side2=>exact (Kd.R_reads' HO863.out).2.1)
          (case side3=>exact zC (Kd.R_reads' HO866.out).2.2)
          (case side4=>exact (Kd.R_reads' HO866.out).2.1)
          (case side5=>exact zC (Kd.R_reads' HO869.out).2.2)
          (case side6=>exact (Kd.R_reads' HO869.out).2.1)
          (case side7=>exact zC (Kd.R_reads' HO872.out).2.2)
          (case side8=>exact (Kd.R_reads' HO872.out).2.1)
          rintro e w120 ⟨v874,v877,rfl,ho0,ho1,hb⟩
          refine ⟨_,rfl,?_⟩
          have HO875:=zA (Kd.R_lower (Kd.R_new' (Kd.R_new' (Kd.R_new' (Kd.R_new' (Kd.R_new' (Kd.R_new' (Kd.R_new' (Kd.R_new' ho0 (Kd.R_lt (zR HO_825000))) (Kd.R_lt (zR HO_825001))) (Kd.R_lt (zR HO_833000))) (Kd.R_lt (zR HO_833001))) (Kd.R_lt (zR HO863))) (Kd.R_lt (zR HO866))) (Kd.R_lt (zR HO869))) (Kd.R_lt (zR HO872))) (below_size zB))
          have HO878:=zA (Kd.R_lower (Kd.R_new' (Kd.R_new' (Kd.R_new' (Kd.R_new' (Kd.R_new' (Kd.R_new' (Kd.R_new' (Kd.R_new' ho1 (Kd.R_lt (zR HO_825000))) (Kd.R_lt (zR HO_825001))) (Kd.R_lt (zR HO_833000))) (Kd.R_lt (zR HO_833001))) (Kd.R_lt (zR HO863))) (Kd.R_lt (zR HO866))) (Kd.R_lt (zR HO869))) (Kd.R_lt (zR HO872))) (below_size zB))
          replace HO_825000:=zA (Kd.R_mono (Kd.R_told (Kd.R_told (Kd.R_old (zR HO_825000) hb) (Kd.R_base ho0)) (Kd.R_base ho1)) (fun _ h_=>h_.1))
          replace HO_825001:=zA (Kd.R_mono (Kd.R_told (Kd.R_told (Kd.R_old (zR HO_825001) hb) (Kd.R_base ho0)) (Kd.R_base ho1)) (fun _ h_=>h_.1))
          replace HO_833000:=zA (Kd.R_mono (Kd.R_told (Kd.R_told (Kd.R_old (zR HO_833000) hb) (Kd.R_base ho0)) (Kd.R_base ho1)) (fun _ h_=>h_.1))
          replace HO_833001:=zA (Kd.R_mono (Kd.R_told (Kd.R_told (Kd.R_old (zR HO_833001) hb) (Kd.R_base ho0)) (Kd.R_base ho1)) (fun _ h_=>h_.1))
          replace HO863:=zA (Kd.R_mono (Kd.R_told (Kd.R_told (Kd.R_old (zR HO863) hb) (Kd.R_base ho0)) (Kd.R_base ho1)) (fun _ h_=>h_.1))
          replace HO866:=zA (Kd.R_mono (Kd.R_told (Kd.R_told (Kd.R_old (zR HO866) hb) (Kd.R_base ho0)) (Kd.R_base ho1)) (fun _ h_=>h_.1))
          replace HO869:=zA (Kd.R_mono (Kd.R_told (Kd.R_told (Kd.R_old (zR HO869) hb) (Kd.R_base ho0)) (Kd.R_base ho1)) (fun _ h_=>h_.1))
          replace HO872:=zA (Kd.R_mono (Kd.R_told (Kd.R_told (Kd.R_old (zR HO872) hb) (Kd.R_base ho0)) (Kd.R_base ho1)) (fun _ h_=>h_.1))
          replace BK799:=zA (zb BK799 hb)
          replace BK800:=zA (zb BK800 hb)
          replace BK824:=zA (zb BK824 hb)
          replace BK832:=zA (zb BK832 hb)
          replace HB:=zA (below_step zB hb)
          (try clear hb)
          (try clear hb2)
          (try clear hk)
          (try clear hi)
          (try clear ho0)
          (try clear ho1)
          obtain ⟨Ao121,co121,eo121⟩:=Kd.R_slice HO875.out
          (first|subst eo121|(injection eo121 with f1_ f2_ f3_;have f4_:=f1_.symm;have f5_:=f3_.symm;clear f1_ f2_ f3_;subst f4_;subst f5_))
          obtain ⟨Ao123,co123,eo123⟩:=Kd.R_slice HO878.out
          (first|subst eo123|(injection eo123 with f1_ f2_ f3_;have f4_:=f1_.symm;have f5_:=f3_.symm;clear f1_ f2_ f3_;subst f4_;subst f5_))
          refine hK.out _ _ ⟨(blk_cell BK799.out 0).trans rfl,(blk_cell BK799.out 1).trans rfl,(blk_cell BK800.out 0).trans rfl,(blk_cell BK800.out 1).trans rfl⟩ (fun hHeld=>?_)
          clear hK K
          refine norm_ (a':=?_) ?_ ?_
          rotate_left
          ·show Act.put _ (some 77) _=_
           simp only [Act.put,zi,zs,zt,i64_w,i32_w]
           rfl
          refine pure_ (i:=5) (N:=some 72) (v:=?_) (a':=?_) #[true,true,true,true,true,true,false,false,false,false] rfl rfl (any_of HT_.out zK) (fun _ _ _ h=>h) (Or.inl ⟨by rfl,?_⟩) ?_ ?_
          rotate_left
          ·intro w'
           go_simp
           with_reducible rfl
          rotate_left
          ·simp only [Act.put,zi,zs,zt,i64_w,i32_w]
           rfl
          refine pure_ (i:=6) (N:=some 78) (v:=?_) (a':=?_) #[true,true,true,true,true,true,true,false,false,false] rfl rfl (any_of HT_.out zK) (fun _ _ _ h=>h) (Or.inl ⟨by rfl,?_⟩) ?_ ?_
          rotate_left
          ·intro w'
           go_simp
           with_reducible rfl
          rotate_left
          ·simp only [Act.put,zi,zs,zt,i64_w,i32_w]
           rfl
          refine pure_ (i:=7) (N:=some 79) (v:=?_) (a':=?_) #[true,true,true,true,true,true,true,true,false,false] rfl rfl (any_of HT_.out zK) (fun _ _ _ h=>h) (Or.inl ⟨by rfl,?_⟩) ?_ ?_
          rotate_left
          ·intro w'
           go_simp
           with_reducible rfl
          rotate_left
          ·simp only [Act.put,zi,zs,zt,i64_w,i32_w]
           rfl
          refine one_ (i:=8) (N:=none) #[true,true,true,true,true,true,true,true,true,false] rfl rfl (one_of HT_.out zK) (by decide) (fun K hK=>?_)
          have hs122:w120.cell? ⟨gb824,0,none⟩=some (.slice Ao81 t846.length co81):=(blk_cell BK824.out 0).trans rfl
          have hfs122:=blk_frozen BK824.out 0
          have hns122_0:=NB799_824.out
          have hns122_1:=NB800_824.out
          have hns122_3:=NB832_824.out
          have hms122_0:=NB824_799.out
          have hms122_1:=NB824_800.out
          have hms122_3:=NB824_832.out
          have hs124:w120.cell? ⟨gb824,1,none⟩=some (.slice Ao83 t849.length co83):=(blk_cell BK824.out 1).trans rfl
          have hfs124:=blk_frozen BK824.out 1
          have hns124_0:=NB799_824.out
          have hns124_1:=NB800_824.out
          have hns124_3:=NB832_824.out
          have hms124_0:=NB824_799.out
          have hms124_1:=NB824_800.out
          have hms124_3:=NB824_832.out
          refine skip_ (w1:=?_) (by rfl) rfl ?_ ?_
          rotate_left
          ·go_simp
           rfl
          refine hK.out _ _ ⟨((cell_far (p:=⟨gb824,_,none⟩) NB799_824.out _).trans (((cell_far (p:=⟨gb824,_,none⟩) NB799_824.out _).trans (hHeld.1)))),((cell_far (p:=⟨gb824,_,none⟩) NB799_824.out _).trans (((cell_far (p:=⟨gb824,_,none⟩) NB799_824.out _).trans (hHeld.2.1)))),((cell_far (p:=⟨gb824,_,none⟩) NB800_824.out _).trans (((cell_far (p:=⟨gb824,_,none⟩) NB800_824.out _).trans (hHeld.2.2.1)))),((cell_far (p:=⟨gb824,_,none⟩) NB800_824.out _).trans (((cell_far (p:=⟨gb824,_,none⟩) NB800_824.out _).trans (hHeld.2.2.2))))⟩ (fun hHeld=>?_)
          clear hK K
          refine pure_ (i:=9) (N:=some 6) (v:=?_) (a':=?_) #[true,true,true,true,true,true,true,true,true,true] rfl rfl (any_of HT_.out zK) (fun _ _ _ h=>h) (Or.inl ⟨by rfl,?_⟩) ?_ ?_
          rotate_left
          ·intro w'
           go_simp
           with_reducible rfl
          rotate_left
          ·simp only [Act.put,zi,zs,zt,i64_w,i32_w]
           rfl
          refine done_ (done_of HT_.out zK) ?_
          have hnb125:=NB799_800.out
          have hnc125:=NB800_799.out
          have hnb126:=NB799_824.out
          have hnc126:=NB824_799.out
          have hnb127:=NB799_832.out
          have hnc127:=NB832_799.out
          have hcz128_0:w120.cell? ⟨gb799,0,none⟩=some (.slice A0_0 l0_0.length c0_0):=(blk_cell BK799.out 0).trans rfl
          have hcz128_1:w120.cell? ⟨gb799,1,none⟩=some (.slice A0_1 l0_1.length c0_1):=(blk_cell BK799.out 1).trans rfl
          have hfz128_0:=blk_frozen BK799.out 0
          have hfz128_1:=blk_frozen BK799.out 1
          have hnb129:=NB800_824.out
          have hnc129:=NB824_800.out
          have hnb130:=NB800_832.out
          have hnc130:=NB832_800.out
          have hcz131_0:w120.cell? ⟨gb800,0,none⟩=some (.slice A1_0 l1_0.length c1_0):=(blk_cell BK800.out 0).trans rfl
          have hcz131_1:w120.cell? ⟨gb800,1,none⟩=some (.slice A1_1 l1_1.length c1_1):=(blk_cell BK800.out 1).trans rfl
          have hfz131_0:=blk_frozen BK800.out 0
          have hfz131_1:=blk_frozen BK800.out 1
          go_upto_region 13 with (first|((with_reducible refine gate_callee (f:=32) rfl ?_);refine goesL_ (some 83) rfl rfl Try.func32 zK rfl #[.agg #[.slice A0_0 l0_0.length c0_0,.slice A0_1 l0_1.length c0_1],.agg #[.slice A1_0 l1_0.length c1_0,.slice A1_1 l1_1.length c1_1]] rfl zM ?_;(with_reducible refine (ancepsref38_Minus.calls kj71 _ _ l0_0 _ _ l0_1 _ _ l1_0 _ _ l1_1 t880 t883 t886 _ ?side1 ?side2 ?side3 ?side4 ?side5 ?side6 ?side7 ?side8 A111.out).mono ?_);(case side1=>exact Kd.C_below HR0_0.out zB);(case side2=>exact HC0_0.out);(case side3=>exact Kd.C_below HR0_1.out zB);(case side4=>exact HC0_1.out);(case side5=>exact Kd.C_below HR1_0.out zB);(case side6=>exact HC1_0.out);(case side7=>exact Kd.C_below HR1_1.out zB);(case side8=>exact HC1_1.out);rintro e w132 ⟨v881,v884,rfl,ho0,ho1,hb⟩;refine ⟨_,rfl,?_⟩;have HO882:=zA (Kd.R_lower (Kd.R_new' (Kd.R_new' (Kd.R_new' (Kd.R_new' (Kd.R_new' (Kd.R_new' (Kd.R_new' (Kd.R_new' (Kd.R_new' (Kd.R_new' ho0 (Kd.R_lt (by refine zr ?_;exact (Kd.R_mono (Kd.R_far (p:=⟨gb824,1,none⟩) (Kd.R_far (p:=⟨gb824,0,none⟩) (Kd.R_types HO_825000.out BK824.out (by decide)) (fun _ hk=>hk.2) (.slice Ao121 t873.length co121)) (fun _ hk=>hk.2) (.slice Ao123 t876.length co123)) (fun _ h_=>h_.1))))) (Kd.R_lt (by refine zr ?_;exact (Kd.R_mono (Kd.R_far (p:=⟨gb824,1,none⟩) (Kd.R_far (p:=⟨gb824,0,none⟩) (Kd.R_types HO_825001.out BK824.out (by decide)) (fun _ hk=>hk.2) (.slice Ao121 t873.length co121)) (fun _ hk=>hk.2) (.slice Ao123 t876.length co123)) (fun _ h_=>h_.1))))) (Kd.R_lt (by refine zr ?_;exact (Kd.R_mono (Kd.R_far (p:=⟨gb824,1,none⟩) (Kd.R_far (p:=⟨gb824,0,none⟩) (Kd.R_types HO_833000.out BK824.out (by decide)) (fun _ hk=>hk.2) (.slice Ao121 t873.length co121)) (fun _ hk=>hk.2) (.slice Ao123 t876.length co123)) (fun _ h_=>h_.1))))) (Kd.R_lt (by refine zr ?_;exact (Kd.R_mono (Kd.R_far (p:=⟨gb824,1,none⟩) (Kd.R_far (p:=⟨gb824,0,none⟩) (Kd.R_types HO_833001.out BK824.out (by decide)) (fun _ hk=>hk.2) (.slice Ao121 t873.length co121)) (fun _ hk=>hk.2) (.slice Ao123 t876.length co123)) (fun _ h_=>h_.1))))) (Kd.R_lt (by refine zr ?_;exact (Kd.R_mono (Kd.R_far (p:=⟨gb824,1,none⟩) (Kd.R_far (p:=⟨gb824,0,none⟩) (Kd.R_types HO863.out BK824.out (by decide)) (fun _ hk=>hk.2) (.slice Ao121 t873.length co121)) (fun _ hk=>hk.2) (.slice Ao123 t876.length co123)) (fun _ h_=>h_.1))))) (Kd.R_lt (by refine zr ?_;exact (Kd.R_mono (Kd.R_far (p:=⟨gb824,1,none⟩) (Kd.R_far (p:=⟨gb824,0,none⟩) (Kd.R_types HO866.out BK824.out (by decide)) (fun _ hk=>hk.2) (.slice Ao121 t873.length co121)) (fun _ hk=>hk.2) (.slice Ao123 t876.length co123)) (fun _ h_=>h_.1))))) (Kd.R_lt (by refine zr ?_;exact (Kd.R_mono (Kd.R_far (p:=⟨gb824,1,none⟩) (Kd.R_far (p:=⟨gb824,0,none⟩) (Kd.R_types HO869.out BK824.out (by decide)) (fun _ hk=>hk.2) (.slice Ao121 t873.length co121)) (fun _ hk=>hk.2) (.slice Ao123 t876.length co123)) (fun _ h_=>h_.1))))) (Kd.R_lt (by refine zr ?_;exact (Kd.R_mono (Kd.R_far (p:=⟨gb824,1,none⟩) (Kd.R_far (p:=⟨gb824,0,none⟩) (Kd.R_types HO872.out BK824.out (by decide)) (fun _ hk=>hk.2) (.slice Ao121 t873.length co121)) (fun _ hk=>hk.2) (.slice Ao123 t876.length co123)) (fun _ h_=>h_.1))))) (Kd.R_lt (by refine zr ?_;exact (Kd.R_mono (Kd.R_far (p:=⟨gb824,1,none⟩) (Kd.R_far (p:=⟨gb824,0,none⟩) (Kd.R_types HO875.out BK824.out (by decide)) (fun _ hk=>hk.2) (.slice Ao121 t873.length co121)) (fun _ hk=>hk.2) (.slice Ao123 t876.length co123)) (fun _ h_=>h_.1))))) (Kd.R_lt (by refine zr ?_;exact (Kd.R_mono (Kd.R_far (p:=⟨gb824,1,none⟩) (Kd.R_far (p:=⟨gb824,0,none⟩) (Kd.R_types HO878.out BK824.out (by decide)) (fun _ hk=>hk.2) (.slice Ao121 t873.length co121)) (fun _ hk=>hk.2) (.slice Ao123 t876.length co123)) (fun _ h_=>h_.1))))) (below_size zB));have HO885:=zA (Kd.R_lower (Kd.R_new' (Kd.R_new' (Kd.R_new' (Kd.R_new' (Kd.R_new' (Kd.R_new' (Kd.R_new' (Kd.R_new' (Kd.R_new' (Kd.R_new' ho1 (Kd.R_lt (by refine zr ?_;exact (Kd.R_mono (Kd.R_far (p:=⟨gb824,1,none⟩) (Kd.R_far (p:=⟨gb824,0,none⟩) (Kd.R_types HO_825000.out BK824.out (by decide)) (fun _ hk=>hk.2) (.slice Ao121 t873.length co121)) (fun _ hk=>hk.2) (.slice Ao123 t876.length co123)) (fun _ h_=>h_.1))))) (Kd.R_lt (by refine zr ?_;exact (Kd.R_mono (Kd.R_far (p:=⟨gb824,1,none⟩) (Kd.R_far (p:=⟨gb824,0,none⟩) (Kd.R_types HO_825001.out BK824.out (by decide)) (fun _ hk=>hk.2) (.slice Ao121 t873.length co121)) (fun _ hk=>hk.2) (.slice Ao123 t876.length co123)) (fun _ h_=>h_.1))))) (Kd.R_lt (by refine zr ?_;exact (Kd.R_mono (Kd.R_far (p:=⟨gb824,1,none⟩) (Kd.R_far (p:=⟨gb824,0,none⟩) (Kd.R_types HO_833000.out BK824.out (by decide)) (fun _ hk=>hk.2) (.slice Ao121 t873.length co121)) (fun _ hk=>hk.2) (.slice Ao123 t876.length co123)) (fun _ h_=>h_.1))))) (Kd.R_lt (by refine zr ?_;exact (Kd.R_mono (Kd.R_far (p:=⟨gb824,1,none⟩) (Kd.R_far (p:=⟨gb824,0,none⟩) (Kd.R_types HO_833001.out BK824.out (by decide)) (fun _ hk=>hk.2) (.slice Ao121 t873.length co121)) (fun _ hk=>hk.2) (.slice Ao123 t876.length co123)) (fun _ h_=>h_.1))))) (Kd.R_lt (by refine zr ?_;exact (Kd.R_mono (Kd.R_far (p:=⟨gb824,1,none⟩) (Kd.R_far (p:=⟨gb824,0,none⟩) (Kd.R_types HO863.out BK824.out (by decide)) (fun _ hk=>hk.2) (.slice Ao121 t873.length co121)) (fun _ hk=>hk.2) (.slice Ao123 t876.length co123)) (fun _ h_=>h_.1))))) (Kd.R_lt (by refine zr ?_;exact (Kd.R_mono (Kd.R_far (p:=⟨gb824,1,none⟩) (Kd.R_far (p:=⟨gb824,0,none⟩) (Kd.R_types HO866.out BK824.out (by decide)) (fun _ hk=>hk.2) (.slice Ao121 t873.length co121)) (fun _ hk=>hk.2) (.slice Ao123 t876.length co123)) (fun _ h_=>h_.1))))) (Kd.R_lt (by refine zr ?_;exact (Kd.R_mono (Kd.R_far (p:=⟨gb824,1,none⟩) (Kd.R_far (p:=⟨gb824,0,none⟩) (Kd.R_types HO869.out BK824.out (by decide)) (fun _ hk=>hk.2) (.slice Ao121 t873.length co121)) (fun _ hk=>hk.2) (.slice Ao123 t876.length co123)) (fun _ h_=>h_.1))))) (Kd.R_lt (by refine zr ?_;exact (Kd.R_mono (Kd.R_far (p:=⟨gb824,1,none⟩) (Kd.R_far (p:=⟨gb824,0,none⟩) (Kd.R_types HO872.out BK824.out (by decide)) (fun _ hk=>hk.2) (.slice Ao121 t873.length co121)) (fun _ hk=>hk.2) (.slice Ao123 t876.length co123)) (fun _ h_=>h_.1))))) (Kd.R_lt (by refine zr ?_;exact (Kd.R_mono (Kd.R_far (p:=⟨gb824,1,none⟩) (Kd.R_far (p:=⟨gb824,0,none⟩) (Kd.R_types HO875.out BK824.out (by decide)) (fun _ hk=>hk.2) (.slice Ao121 t873.length co121)) (fun _ hk=>hk.2) (.slice Ao123 t876.length co123)) (fun _ h_=>h_.1))))) (Kd.R_lt (by refine zr ?_;exact (Kd.R_mono (Kd.R_far (p:=⟨gb824,1,none⟩) (Kd.R_far (p:=⟨gb824,0,none⟩) (Kd.R_types HO878.out BK824.out (by decide)) (fun _ hk=>hk.2) (.slice Ao121 t873.length co121)) (fun _ hk=>hk.2) (.slice Ao123 t876.length co123)) (fun _ h_=>h_.1))))) (below_size zB));replace HO_825000:=zA (Kd.R_mono (Kd.R_told (Kd.R_told (Kd.R_old (by refine zr ?_;exact (Kd.R_mono (Kd.R_far (p:=⟨gb824,1,none⟩) (Kd.R_far (p:=⟨gb824,0,none⟩) (Kd.R_types HO_825000.out BK824.out (by decide)) (fun _ hk=>hk.2) (.slice Ao121 t873.length co121)) (fun _ hk=>hk.2) (.slice Ao123 t876.length co123)) (fun _ h_=>h_.1))) hb) (Kd.R_base ho0)) (Kd.R_base ho1)) (fun _ h_=>h_.1));replace HO_825001:=zA (Kd.R_mono (Kd.R_told (Kd.R_told (Kd.R_old (by refine zr ?_;exact (Kd.R_mono (Kd.R_far (p:=⟨gb824,1,none⟩) (Kd.R_far (p:=⟨gb824,0,none⟩) (Kd.R_types HO_825001.out BK824.out (by decide)) (fun _ hk=>hk.2) (.slice Ao121 t873.length co121)) (fun _ hk=>hk.2) (.slice Ao123 t876.length co123)) (fun _ h_=>h_.1))) hb) (Kd.R_base ho0)) (Kd.R_base ho1)) (fun _ h_=>h_.1));replace HO_833000:=zA (Kd.R_mono (Kd.R_told (Kd.R_told (Kd.R_old (by refine zr ?_;exact (Kd.R_mono (Kd.R_far (p:=⟨gb824,1,none⟩) (Kd.R_far (p:=⟨gb824,0,none⟩) (Kd.R_types HO_833000.out BK824.out (by decide)) (fun _ hk=>hk.2) (.slice Ao121 t873.length co121)) (fun _ hk=>hk.2) (.slice Ao123 t876.length co123)) (fun _ h_=>h_.1))) hb) (Kd.R_base ho0)) (Kd.R_base ho1)) (fun _ h_=>h_.1));replace HO_833001:=zA (Kd.R_mono (Kd.R_told (Kd.R_told (Kd.R_old (by refine zr ?_;exact (Kd.R_mono (Kd.R_far (p:=⟨gb824,1,none⟩) (Kd.R_far (p:=⟨gb824,0,none⟩) (Kd.R_types HO_833001.out BK824.out (by decide)) (fun _ hk=>hk.2) (.slice Ao121 t873.length co121)) (fun _ hk=>hk.2) (.slice Ao123 t876.length co123)) (fun _ h_=>h_.1))) hb) (Kd.R_base ho0)) (Kd.R_base ho1)) (fun _ h_=>h_.1));replace HO863:=zA (Kd.R_mono (Kd.R_told (Kd.R_told (Kd.R_old (by refine zr ?_;exact (Kd.R_mono (Kd.R_far (p:=⟨gb824,1,none⟩) (Kd.R_far (p:=⟨gb824,0,none⟩) (Kd.R_types HO863.out BK824.out (by decide)) (fun _ hk=>hk.2) (.slice Ao121 t873.length co121)) (fun _ hk=>hk.2) (.slice Ao123 t876.length co123)) (fun _ h_=>h_.1))) hb) (Kd.R_base ho0)) (Kd.R_base ho1)) (fun _ h_=>h_.1));replace HO866:=zA (Kd.R_mono (Kd.R_told (Kd.R_told (Kd.R_old (by refine zr ?_;exact (Kd.R_mono (Kd.R_far (p:=⟨gb824,1,none⟩) (Kd.R_far (p:=⟨gb824,0,none⟩) (Kd.R_types HO866.out BK824.out (by decide)) (fun _ hk=>hk.2) (.slice Ao121 t873.length co121)) (fun _ hk=>hk.2) (.slice Ao123 t876.length co123)) (fun _ h_=>h_.1))) hb) (Kd.R_base ho0)) (Kd.R_base ho1)) (fun _ h_=>h_.1));replace HO869:=zA (Kd.R_mono (Kd.R_told (Kd.R_told (Kd.R_old (by refine zr ?_;exact (Kd.R_mono (Kd.R_far (p:=⟨gb824,1,none⟩) (Kd.R_far (p:=⟨gb824,0,none⟩) (Kd.R_types HO869.out BK824.out (by decide)) (fun _ hk=>hk.2) (.slice Ao121 t873.length co121)) (fun _ hk=>hk.2) (.slice Ao123 t876.length co123)) (fun _ h_=>h_.1))) hb) (Kd.R_base ho0)) (Kd.R_base ho1)) (fun _ h_=>h_.1));replace HO872:=zA (Kd.R_mono (Kd.R_told (Kd.R_told (Kd.R_old (by refine zr ?_;exact (Kd.R_mono (Kd.R_far (p:=⟨gb824,1,none⟩) (Kd.R_far (p:=⟨gb824,0,none⟩) (Kd.R_types HO872.out BK824.out (by decide)) (fun _ hk=>hk.2) (.slice Ao121 t873.length co121)) (fun _ hk=>hk.2) (.slice Ao123 t876.length co123)) (fun _ h_=>h_.1))) hb) (Kd.R_base ho0)) (Kd.R_base ho1)) (fun _ h_=>h_.1));replace HO875:=zA (Kd.R_mono (Kd.R_told (Kd.R_told (Kd.R_old (by refine zr ?_;exact (Kd.R_mono (Kd.R_far (p:=⟨gb824,1,none⟩) (Kd.R_far (p:=⟨gb824,0,none⟩) (Kd.R_types HO875.out BK824.out (by decide)) (fun _ hk=>hk.2) (.slice Ao121 t873.length co121)) (fun _ hk=>hk.2) (.slice Ao123 t876.length co123)) (fun _ h_=>h_.1))) hb) (Kd.R_base ho0)) (Kd.R_base ho1)) (fun _ h_=>h_.1));replace HO878:=zA (Kd.R_mono (Kd.R_told (Kd.R_told (Kd.R_old (by refine zr ?_;exact (Kd.R_mono (Kd.R_far (p:=⟨gb824,1,none⟩) (Kd.R_far (p:=⟨gb824,0,none⟩) (Kd.R_types HO878.out BK824.out (by decide)) (fun _ hk=>hk.2) (.slice Ao121 t873.length co121)) (fun _ hk=>hk.2) (.slice Ao123 t876.length co123)) (fun _ h_=>h_.1))) hb) (Kd.R_base ho0)) (Kd.R_base ho1)) (fun _ h_=>h_.1));replace BK799:=zA (blk_below (g:=gb799) (o:=.cells #[.slice A0_0 l0_0.length c0_0,.slice A0_1 l0_1.length c0_1] 29 (0,0)) (by refine zj ?_;refine blk_far ?_ NB799_824.out _;refine zj ?_;refine blk_far ?_ NB799_824.out _;refine zj ?_;exact BK799.out) hb);replace BK800:=zA (blk_below (g:=gb800) (o:=.cells #[.slice A1_0 l1_0.length c1_0,.slice A1_1 l1_1.length c1_1] 29 (0,0)) (by refine zj ?_;refine blk_far ?_ NB800_824.out _;refine zj ?_;refine blk_far ?_ NB800_824.out _;refine zj ?_;exact BK800.out) hb);replace BK824:=zA (blk_below (g:=gb824) (o:=.cells #[.slice Ao121 t873.length co121,.slice Ao123 t876.length co123] 29 (0,0)) (by refine zj ?_;refine blk_put (cs:=#[.slice Ao121 t873.length co121,.slice Ao83 t849.length co83]) ?_ 1 _ rfl;refine zj ?_;refine blk_put (cs:=#[.slice Ao81 t846.length co81,.slice Ao83 t849.length co83]) ?_ 0 _ rfl;refine zj ?_;exact BK824.out) hb);replace BK832:=zA (blk_below (g:=gb832) (o:=.cells #[.slice Ao93 t853.length co93,.slice Ao96 t856.length co96] 29 (0,0)) (by refine zj ?_;refine blk_far ?_ NB832_824.out _;refine zj ?_;refine blk_far ?_ NB832_824.out _;refine zj ?_;exact BK832.out) hb);replace HB:=zA (below_step zB hb);(try clear hb);(try clear hb2);(try clear hk);(try clear hi);(try clear ho0);(try clear ho1);obtain ⟨Ao133,co133,eo133⟩:=Kd.R_slice HO882.out;subst eo133;have hnb134:=NB832_824.out;have hnc134:=NB824_832.out;have hcz135_0:w132.cell? ⟨gb832,0,none⟩=some (.slice Ao93 t853.length co93):=(blk_cell BK832.out 0).trans rfl;have hcz135_1:w132.cell? ⟨gb832,1,none⟩=some (.slice Ao96 t856.length co96):=(blk_cell BK832.out 1).trans rfl;have hfz135_0:=blk_frozen BK832.out 0;have hfz135_1:=blk_frozen BK832.out 1;obtain ⟨Ao136,co136,eo136⟩:=Kd.R_slice HO885.out;subst eo136))
          (try simp only [Act.put,zi,zs,zt])
          go_cut [94] (fun v94 wc=>∃ (kq:Nat) (x94_111:Bool),v94=.bool x94_111∧Aside0 (ancepslaw38_TableTwo.j3 kq x94_111 l0_0 l0_1 l1_0 l1_1=some r)∧Aside0 (kq≤kj71)∧Aside0 (Kd.R (Kd.int .i64) 3 wc w.heap.size (fun k_=>some k_≠((.slice Ao123 t876.length co123):Value).ownBlock∧some k_≠((.slice Ao133 t880.length co133):Value).ownBlock∧some k_≠((.slice Ao136 t883.length co136):Value).ownBlock) (.slice Ao121 t873.length co121) t873)∧Aside0 (Kd.R (Kd.int .i64) 3 wc w.heap.size (fun k_=>some k_≠((.slice Ao121 t873.length co121):Value).ownBlock∧some k_≠((.slice Ao133 t880.length co133):Value).ownBlock∧some k_≠((.slice Ao136 t883.length co136):Value).ownBlock) (.slice Ao123 t876.length co123) t876)∧Aside0 (Kd.R (Kd.int .i64) 3 wc w.heap.size (fun k_=>some k_≠((.slice Ao121 t873.length co121):Value).ownBlock∧some k_≠((.slice Ao123 t876.length co123):Value).ownBlock∧some k_≠((.slice Ao136 t883.length co136):Value).ownBlock) (.slice Ao133 t880.length co133) t880)∧Aside0 (Kd.R (Kd.int .i64) 3 wc w.heap.size (fun k_=>some k_≠((.slice Ao121 t873.length co121):Value).ownBlock∧some k_≠((.slice Ao123 t876.length co123):Value).ownBlock∧some k_≠((.slice Ao133 t880.length co133):Value).ownBlock) (.slice Ao136 t883.length co136) t883)∧Aside0 (wc.heap[gb799]?=some (.cells #[(.slice A0_0 l0_0.length c0_0),(.slice A0_1 l0_1.length c0_1)] 29 (0,0)))∧Aside0 (wc.heap[gb800]?=some (.cells #[(.slice A1_0 l1_0.length c1_0),(.slice A1_1 l1_1.length c1_1)] 29 (0,0)))∧Aside0 (wc.heap[gb824]?=some (.cells #[(.slice Ao121 t873.length co121),(.slice Ao123 t876.length co123)] 29 (0,0)))∧Aside0 (wc.heap[gb832]?=some (.cells #[(.slice Ao133 t880.length co133),(.slice Ao136 t883.length co136)] 29 (0,0)))∧Aside0 (Below w.heap.size w wc))
          case first=>
           have H:=HC112.out
           clear HC112
           by_cases c137:t879=t886
           ·rw [if_pos c137] at H
            have c137b0:(t879 == t886)=true:=beq_iff_eq.mpr c137
            have c137b1:(t879 != t886)=false:=bne_eq_false_iff_eq.mpr c137
            clear c137
            (first|rw [c137b0]|(simp only [i64_w,i32_w];rw [c137b0])|skip)
            (try rw [c137b1])
            replace H:=Option.bind_eq_some_iff.mp H
            obtain ⟨t887,A1380,H⟩:=H
            replace H:(ancepslaw38_TableTwo.j3 kj71 (!t887) l0_0 l0_1 l1_0 l1_1)=some r:=H
            have A138:=zA A1380
            clear A1380
            have H':=zA H
            clear H
            have hnb139:=NB824_799.out
            have hnc139:=NB799_824.out
            have hnb140:=NB824_800.out
            have hnc140:=NB800_824.out
            have hnb141:=NB824_832.out
            have hnc141:=NB832_824.out
            have hcz142_0:w132.cell? ⟨gb824,0,none⟩=some (.slice Ao121 t873.length co121):=(blk_cell BK824.out 0).trans rfl
            have hcz142_1:w132.cell? ⟨gb824,1,none⟩=some (.slice Ao123 t876.length co123):=(blk_cell BK824.out 1).trans rfl
            have hfz142_0:=blk_frozen BK824.out 0
            have hfz142_1:=blk_frozen BK824.out 1
            have hnb143:=NB832_799.out
            have hnc143:=NB799_832.out
            have hnb144:=NB832_800.out
            have hnc144:=NB800_832.out
            have hcz145_0:w132.cell? ⟨gb832,0,none⟩=some (.slice Ao93 t853.length co93):=(blk_cell BK832.out 0).trans rfl
            have hcz145_1:w132.cell? ⟨gb832,1,none⟩=some (.slice Ao96 t856.length co96):=(blk_cell BK832.out 1).trans rfl
            have hfz145_0:=blk_frozen BK832.out 0
            have hfz145_1:=blk_frozen BK832.out 1
            go_wp2_with (first|(go_at_call 18;(with_reducible refine (ancepsref38_Equal.calls kj71 _ _ t873 _ _ t876 _ _ t880 _ _ t883 t887 _ ?side1 ?side2 ?side3 ?side4 ?side5 ?side6 ?side7 ?side8 A138.out).mono ?_);(case side1=>refine (Kd.R_reads' (e:=3) (base:=w.heap.size) (ok:=fun k_=>((((((((((some k_≠(.slice Ao123 t876.length co123:Value).ownBlock∧some k_≠(.slice Ao81 t846.length co81:Value).ownBlock)∧some k_≠(.slice Ao83 t849.length co83:Value).ownBlock)∧some k_≠(.slice Ao93 t853.length co93:Value).ownBlock)∧some k_≠(.slice Ao96 t856.length co96:Value).ownBlock)∧some k_≠(.slice Ao116 t861.length co116:Value).ownBlock)∧some k_≠(.slice Ao117 t864.length co117:Value).ownBlock)∧some k_≠(.slice Ao118 t867.length co118:Value).ownBlock)∧some k_≠(.slice Ao119 t870.length co119:Value).ownBlock)∧some k_≠(.slice Ao133 t880.length co133:Value).ownBlock)∧some k_≠(.slice Ao136 t883.length co136:Value).ownBlock)) (n:=t873.length) (c:=co121) ?_).2.2;exact (by refine zr ?_;exact (Kd.R_mono (Kd.R_far (p:=⟨gb832,1,none⟩) (Kd.R_far (p:=⟨gb832,0,none⟩) (Kd.R_types HO875.out BK832.out (by decide)) (fun _ hk=>hk.2) (.slice Ao133 t880.length co133)) (fun _ hk=>hk.2) (.slice Ao136 t883.length co136)) (fun _ h_=>h_.1))));(case side2=>exact (Kd.R_reads' HO875.out).2.1);(case side3=>refine (Kd.R_reads' (e:=3) (base:=w.heap.size) (ok:=fun k_=>((((((((((some k_≠(.slice Ao121 t873.length co121:Value).ownBlock∧some k_≠(.slice Ao81 t846.length co81:Value).ownBlock)∧some k_≠(.slice Ao83 t849.length co83:Value).ownBlock)∧some k_≠(.slice Ao93 t853.length co93:Value).ownBlock)∧some k_≠(.slice Ao96 t856.length co96:Value).ownBlock)∧some k_≠(.slice Ao116 t861.length co116:Value).ownBlock)∧some k_≠(.slice Ao117 t864.length co117:Value).ownBlock)∧some k_≠(.slice Ao118 t867.length co118:Value).ownBlock)∧some k_≠(.slice Ao119 t870.length co119:Value).ownBlock)∧some k_≠(.slice Ao133 t880.length co133:Value).ownBlock)∧some k_≠(.slice Ao136 t883.length co136:Value).ownBlock)) (n:=t876.length) (c:=co123) ?_).2.2;exact (by refine zr ?_;exact (Kd.R_mono (Kd.R_far (p:=⟨gb832,1,none⟩) (Kd.R_far (p:=⟨gb832,0,none⟩) (Kd.R_types HO878.out BK832.out (by decide)) (fun _ hk=>hk.2) (.slice Ao133 t880.length co133)) (fun _ hk=>hk.2) (.slice Ao136 t883.length co136)) (fun _ h_=>h_.1))));(case side4=>exact (Kd.R_reads' HO878.out).2.1);(case side5=>refine (Kd.R_reads' (e:=3) (base:=w.heap.size) (ok:=fun k_=>((((((((((some k_≠(.slice Ao136 t883.length co136:Value).ownBlock∧some k_≠(.slice Ao81 t846.length co81:Value).ownBlock)∧some k_≠(.slice Ao83 t849.length co83:Value).ownBlock)∧some k_≠(.slice Ao93 t853.length co93:Value).ownBlock)∧some k_≠(.slice Ao96 t856.length co96:Value).ownBlock)∧some k_≠(.slice Ao116 t861.length co116:Value).ownBlock)∧some k_≠(.slice Ao117 t864.length co117:Value).ownBlock)∧some k_≠(.slice Ao118 t867.length co118:Value).ownBlock)∧some k_≠(.slice Ao119 t870.length co119:Value).ownBlock)∧some k_≠(.slice Ao121 t873.length co121:Value).ownBlock)∧some k_≠(.slice Ao123 t876.length co123:Value).ownBlock)) (n:=t880.length) (c:=co133) ?_).2.2;exact (by refine zr ?_;exact (Kd.R_mono (Kd.R_far (p:=⟨gb832,1,none⟩) (Kd.R_far (p:=⟨gb832,0,none⟩) (Kd.R_types HO882.out BK832.out (by decide)) (fun _ hk=>hk.2) (.slice Ao133 t880.length co133)) (fun _ hk=>hk.2) (.slice Ao136 t883.length co136)) (fun _ h_=>h_.1))));(case side6=>exact (Kd.R_reads' HO882.out).2.1);(case side7=>refine (Kd.R_reads' (e:=3) (base:=w.heap.size) (ok:=fun k_=>((((((((((some k_≠(.slice Ao133 t880.length co133:Value).ownBlock∧some k_≠(.slice Ao81 t846.length co81:Value).ownBlock)∧some k_≠(.slice Ao83 t849.length co83:Value).ownBlock)∧some k_≠(.slice Ao93 t853.length co93:Value).ownBlock)∧some k_≠(.slice Ao96 t856.length co96:Value).ownBlock)∧some k_≠(.slice Ao116 t861.length co116:Value).ownBlock)∧some k_≠(.slice Ao117 t864.length co117:Value).ownBlock)∧some k_≠(.slice Ao118 t867.length co118:Value).ownBlock)∧some k_≠(.slice Ao119 t870.length co119:Value).ownBlock)∧some k_≠(.slice Ao121 t873.length co121:Value).ownBlock)∧some k_≠(.slice Ao123 t876.length co123:Value).ownBlock)) (n:=t883.length) (c:=co136) ?_).2.2;exact (by refine zr ?_;exact (Kd.R_mono (Kd.R_far (p:=⟨gb832,1,none⟩) (Kd.R_far (p:=⟨gb832,0,none⟩) (Kd.R_types HO885.out BK832.out (by decide)) (fun _ hk=>hk.2) (.slice Ao133 t880.length co133)) (fun _ hk=>hk.2) (.slice Ao136 t883.length co136)) (fun _ h_=>h_.1))));(case side8=>exact (Kd.R_reads' HO885.out).2.1);rintro e w146 ⟨rfl,hb⟩;replace HO_825000:=zA (Kd.R_below (by refine zr ?_;exact (Kd.R_mono (Kd.R_far (p:=⟨gb832,1,none⟩) (Kd.R_far (p:=⟨gb832,0,none⟩) (Kd.R_types HO_825000.out BK832.out (by decide)) (fun _ hk=>hk.2) (.slice Ao133 t880.length co133)) (fun _ hk=>hk.2) (.slice Ao136 t883.length co136)) (fun _ h_=>h_.1))) hb);replace HO_825001:=zA (Kd.R_below (by refine zr ?_;exact (Kd.R_mono (Kd.R_far (p:=⟨gb832,1,none⟩) (Kd.R_far (p:=⟨gb832,0,none⟩) (Kd.R_types HO_825001.out BK832.out (by decide)) (fun _ hk=>hk.2) (.slice Ao133 t880.length co133)) (fun _ hk=>hk.2) (.slice Ao136 t883.length co136)) (fun _ h_=>h_.1))) hb);replace HO_833000:=zA (Kd.R_below (by refine zr ?_;exact (Kd.R_mono (Kd.R_far (p:=⟨gb832,1,none⟩) (Kd.R_far (p:=⟨gb832,0,none⟩) (Kd.R_types HO_833000.out BK832.out (by decide)) (fun _ hk=>hk.2) (.slice Ao133 t880.length co133)) (fun _ hk=>hk.2) (.slice Ao136 t883.length co136)) (fun _ h_=>h_.1))) hb);replace HO_833001:=zA (Kd.R_below (by refine zr ?_;exact (Kd.R_mono (Kd.R_far (p:=⟨gb832,1,none⟩) (Kd.R_far (p:=⟨gb832,0,none⟩) (Kd.R_types HO_833001.out BK832.out (by decide)) (fun _ hk=>hk.2) (.slice Ao133 t880.length co133)) (fun _ hk=>hk.2) (.slice Ao136 t883.length co136)) (fun _ h_=>h_.1))) hb);replace HO863:=zA (Kd.R_below (by refine zr ?_;exact (Kd.R_mono (Kd.R_far (p:=⟨gb832,1,none⟩) (Kd.R_far (p:=⟨gb832,0,none⟩) (Kd.R_types HO863.out BK832.out (by decide)) (fun _ hk=>hk.2) (.slice Ao133 t880.length co133)) (fun _ hk=>hk.2) (.slice Ao136 t883.length co136)) (fun _ h_=>h_.1))) hb);replace HO866:=zA (Kd.R_below (by refine zr ?_;exact (Kd.R_mono (Kd.R_far (p:=⟨gb832,1,none⟩) (Kd.R_far (p:=⟨gb832,0,none⟩) (Kd.R_types HO866.out BK832.out (by decide)) (fun _ hk=>hk.2) (.slice Ao133 t880.length co133)) (fun _ hk=>hk.2) (.slice Ao136 t883.length co136)) (fun _ h_=>h_.1))) hb);replace HO869:=zA (Kd.R_below (by refine zr ?_;exact (Kd.R_mono (Kd.R_far (p:=⟨gb832,1,none⟩) (Kd.R_far (p:=⟨gb832,0,none⟩) (Kd.R_types HO869.out BK832.out (by decide)) (fun _ hk=>hk.2) (.slice Ao133 t880.length co133)) (fun _ hk=>hk.2) (.slice Ao136 t883.length co136)) (fun _ h_=>h_.1))) hb);replace HO872:=zA (Kd.R_below (by refine zr ?_;exact (Kd.R_mono (Kd.R_far (p:=⟨gb832,1,none⟩) (Kd.R_far (p:=⟨gb832,0,none⟩) (Kd.R_types HO872.out BK832.out (by decide)) (fun _ hk=>hk.2) (.slice Ao133 t880.length co133)) (fun _ hk=>hk.2) (.slice Ao136 t883.length co136)) (fun _ h_=>h_.1))) hb);replace HO875:=zA (Kd.R_below (by refine zr ?_;exact (Kd.R_mono (Kd.R_far (p:=⟨gb832,1,none⟩) (Kd.R_far (p:=⟨gb832,0,none⟩) (Kd.R_types HO875.out BK832.out (by decide)) (fun _ hk=>hk.2) (.slice Ao133 t880.length co133)) (fun _ hk=>hk.2) (.slice Ao136 t883.length co136)) (fun _ h_=>h_.1))) hb);replace HO878:=zA (Kd.R_below (by refine zr ?_;exact (Kd.R_mono (Kd.R_far (p:=⟨gb832,1,none⟩) (Kd.R_far (p:=⟨gb832,0,none⟩) (Kd.R_types HO878.out BK832.out (by decide)) (fun _ hk=>hk.2) (.slice Ao133 t880.length co133)) (fun _ hk=>hk.2) (.slice Ao136 t883.length co136)) (fun _ h_=>h_.1))) hb);replace HO882:=zA (Kd.R_below (by refine zr ?_;exact (Kd.R_mono (Kd.R_far (p:=⟨gb832,1,none⟩) (Kd.R_far (p:=⟨gb832,0,none⟩) (Kd.R_types HO882.out BK832.out (by decide)) (fun _ hk=>hk.2) (.slice Ao133 t880.length co133)) (fun _ hk=>hk.2) (.slice Ao136 t883.length co136)) (fun _ h_=>h_.1))) hb);replace HO885:=zA (Kd.R_below (by refine zr ?_;exact (Kd.R_mono (Kd.R_far (p:=⟨gb832,1,none⟩) (Kd.R_far (p:=⟨gb832,0,none⟩) (Kd.R_types HO885.out BK832.out (by decide)) (fun _ hk=>hk.2) (.slice Ao133 t880.length co133)) (fun _ hk=>hk.2) (.slice Ao136 t883.length co136)) (fun _ h_=>h_.1))) hb);replace BK799:=zA (blk_below (g:=gb799) (o:=.cells #[.slice A0_0 l0_0.length c0_0,.slice A0_1 l0_1.length c0_1] 29 (0,0)) (by refine zj ?_;refine blk_far ?_ NB799_832.out _;refine zj ?_;refine blk_far ?_ NB799_832.out _;refine zj ?_;exact BK799.out) hb);replace BK800:=zA (blk_below (g:=gb800) (o:=.cells #[.slice A1_0 l1_0.length c1_0,.slice A1_1 l1_1.length c1_1] 29 (0,0)) (by refine zj ?_;refine blk_far ?_ NB800_832.out _;refine zj ?_;refine blk_far ?_ NB800_832.out _;refine zj ?_;exact BK800.out) hb);replace BK824:=zA (blk_below (g:=gb824) (o:=.cells #[.slice Ao121 t873.length co121,.slice Ao123 t876.length co123] 29 (0,0)) (by refine zj ?_;refine blk_far ?_ NB824_832.out _;refine zj ?_;refine blk_far ?_ NB824_832.out _;refine zj ?_;exact BK824.out) hb);replace BK832:=zA (blk_below (g:=gb832) (o:=.cells #[.slice Ao133 t880.length co133,.slice Ao136 t883.length co136] 29 (0,0)) (by refine zj ?_;refine blk_put (cs:=#[.slice Ao133 t880.length co133,.slice Ao96 t856.length co96]) ?_ 1 _ rfl;refine zj ?_;refine blk_put (cs:=#[.slice Ao93 t853.length co93,.slice Ao96 t856.length co96]) ?_ 0 _ rfl;refine zj ?_;exact BK832.out) hb);replace HB:=zA (below_step zB hb);(try clear hb);(try clear hb2);(try clear hk);(try clear hi)))
            go_meet
            case rel=>exact ⟨_,(!t887),zT,H',⟨by have:=HJ2.out;have:=HJ28.out;have:=HJ71.out;first|omega|exact Nat.le_refl _⟩,⟨by refine zr ?_;exact Kd.R_mono HO875.out (fun _ hk=>⟨hk.1.1.1.1.1.1.1.1.1.1,⟨hk.1.2,hk.2⟩⟩)⟩,⟨by refine zr ?_;exact Kd.R_mono HO878.out (fun _ hk=>⟨hk.1.1.1.1.1.1.1.1.1.1,⟨hk.1.2,hk.2⟩⟩)⟩,⟨by refine zr ?_;exact Kd.R_mono HO882.out (fun _ hk=>⟨hk.1.2,⟨hk.2,hk.1.1.1.1.1.1.1.1.1.1⟩⟩)⟩,⟨by refine zr ?_;exact Kd.R_mono HO885.out (fun _ hk=>⟨hk.1.2,⟨hk.2,hk.1.1.1.1.1.1.1.1.1.1⟩⟩)⟩,⟨by refine zj ?_;exact BK799.out⟩,⟨by refine zj ?_;exact BK800.out⟩,⟨by refine zj ?_;exact BK824.out⟩,⟨by refine zj ?_;exact BK832.out⟩,⟨by repeat (first|(with_reducible first|exact HB.out|apply below_alloc|apply pw_below_drewN|apply below_drew1|refine below_set ?_ GE799.out|refine below_set ?_ GE800.out|refine below_set ?_ GE824.out|refine below_set ?_ GE832.out)|exact HB.out)⟩⟩
           ·rw [if_neg c137] at H
            have c137b0:(t879 == t886)=false:=beq_eq_false_iff_ne.mpr c137
            have c137b1:(t879 != t886)=true:=bne_iff_ne.mpr c137
            (first|rw [c137b0]|(simp only [i64_w,i32_w];rw [c137b0])|skip)
            (try rw [c137b1])
            have H':=zA H
            clear H
            go_wp2
            go_meet
            case rel=>exact ⟨_,(true),zT,H',⟨by have:=HJ2.out;have:=HJ28.out;have:=HJ71.out;first|omega|exact Nat.le_refl _⟩,⟨by refine zr ?_;exact Kd.R_mono (Kd.R_far (p:=⟨gb832,1,none⟩) (Kd.R_far (p:=⟨gb832,0,none⟩) (Kd.R_types HO875.out BK832.out (by decide)) (fun _ hk=>hk.2) (.slice Ao133 t880.length co133)) (fun _ hk=>hk.2) (.slice Ao136 t883.length co136)) (fun _ hk=>⟨hk.1.1.1.1.1.1.1.1.1.1.1,⟨hk.1.1.2,hk.1.2⟩⟩)⟩,⟨by refine zr ?_;exact Kd.R_mono (Kd.R_far (p:=⟨gb832,1,none⟩) (Kd.R_far (p:=⟨gb832,0,none⟩) (Kd.R_types HO878.out BK832.out (by decide)) (fun _ hk=>hk.2) (.slice Ao133 t880.length co133)) (fun _ hk=>hk.2) (.slice Ao136 t883.length co136)) (fun _ hk=>⟨hk.1.1.1.1.1.1.1.1.1.1.1,⟨hk.1.1.2,hk.1.2⟩⟩)⟩,⟨by refine zr ?_;exact Kd.R_mono (Kd.R_far (p:=⟨gb832,1,none⟩) (Kd.R_far (p:=⟨gb832,0,none⟩) (Kd.R_types HO882.out BK832.out (by decide)) (fun _ hk=>hk.2) (.slice Ao133 t880.length co133)) (fun _ hk=>hk.2) (.slice Ao136 t883.length co136)) (fun _ hk=>⟨hk.1.1.2,⟨hk.1.2,hk.1.1.1.1.1.1.1.1.1.1.1⟩⟩)⟩,⟨by refine zr ?_;exact Kd.R_mono (Kd.R_far (p:=⟨gb832,1,none⟩) (Kd.R_far (p:=⟨gb832,0,none⟩) (Kd.R_types HO885.out BK832.out (by decide)) (fun _ hk=>hk.2) (.slice Ao133 t880.length co133)) (fun _ hk=>hk.2) (.slice Ao136 t883.length co136)) (fun _ hk=>⟨hk.1.1.2,⟨hk.1.2,hk.1.1.1.1.1.1.1.1.1.1.1⟩⟩)⟩,⟨by refine zj ?_;refine blk_far ?_ NB799_832.out _;refine zj ?_;refine blk_far ?_ NB799_832.out _;refine zj ?_;exact BK799.out⟩,⟨by refine zj ?_;refine blk_far ?_ NB800_832.out _;refine zj ?_;refine blk_far ?_ NB800_832.out _;refine zj ?_;exact BK800.out⟩,⟨by refine zj ?_;refine blk_far ?_ NB824_832.out _;refine zj ?_;refine blk_far ?_ NB824_832.out _;refine zj ?_;exact BK824.out⟩,⟨by refine zj ?_;refine blk_put (cs:=#[.slice Ao133 t880.length co133,.slice Ao96 t856.length co96]) ?_ 1 _ rfl;refine zj ?_;refine blk_put (cs:=#[.slice Ao93 t853.length co93,.slice Ao96 t856.length co96]) ?_ 0 _ rfl;refine zj ?_;exact BK832.out⟩,⟨by repeat (first|(with_reducible first|exact HB.out|apply below_alloc|apply pw_below_drewN|apply below_drew1|refine below_set ?_ GE799.out|refine below_set ?_ GE800.out|refine below_set ?_ GE824.out|refine below_set ?_ GE832.out)|exact HB.out)⟩⟩
          case rest=>
           clear HC112
           try clear c22
           try clear c67
           try clear c107
           try clear hcz128_0
           try clear hcz128_1
           try clear hcz131_0
           try clear hcz131_1
           try clear hcz135_0
           try clear hcz135_1
           try clear hcz46_0
           try clear hcz46_1
           try clear hcz48_0
           try clear hcz48_1
           try clear hcz55_0
           try clear hcz55_1
           try clear hcz88_0
           try clear hcz88_1
           try clear hcz91_0
           try clear hcz91_1
           try clear hcz95_0
           try clear hcz95_1
           try clear hfz128_0
           try clear hfz128_1
           try clear hfz131_0
           try clear hfz131_1
           try clear hfz135_0
           try clear hfz135_1
           try clear hfz46_0
           try clear hfz46_1
           try clear hfz48_0
           try clear hfz48_1
           try clear hfz55_0
           try clear hfz55_1
           try clear hfz88_0
           try clear hfz88_1
           try clear hfz91_0
           try clear hfz91_1
           try clear hfz95_0
           try clear hfz95_1
           obtain ⟨kq,x94_111,rfl,HA,HJ111,HO_825000,HO_825001,HO_833000,HO_833001,BK799,BK800,BK824,BK832,HB⟩:=hcut
           cases kq with
           | zero=>exact absurd HA.out (by simp [ancepslaw38_TableTwo.j3])
           | succ kj111=>
            have H:=HA.out
            clear HA
            simp only [ancepslaw38_TableTwo.j3] at H
            by_cases c147:x94_111=true
            ·subst c147
             have H1:(some false)=some r:=by rw [if_pos rfl] at H;exact H
             clear H
             have H:=H1
             clear H1
             obtain rfl:=Option.some.inj H
             go_wp2
             go_ret
             exact ⟨ze,by repeat (first|(with_reducible first|exact HB.out|apply below_alloc|apply pw_below_drewN|apply below_drew1|refine below_set ?_ GE799.out|refine below_set ?_ GE800.out|refine below_set ?_ GE824.out|refine below_set ?_ GE832.out)|exact HB.out)⟩
            ·replace c147:=Bool.eq_false_iff.mpr c147
             subst c147
             have H1:((ancepslaw38_own.f l0_0 l0_1).bind fun bt888=>((ancepslaw38_own.f l1_0 l1_1).bind fun bt894=>((table_Same.f kj111 bt888.1 bt888.2 bt894.1 bt894.2).bind fun bt900=>((ancepsref38_Same.f kj111 l0_0 l0_1 l1_0 l1_1).bind fun bt902=>(if (bt900.1 == bt902.1)=true then (some (bt900.2 == bt902.2)) else (some false))))))=some r:=by rw [if_neg (show ¬ (false=true) by decide)] at H;exact H
             clear H
             have H:=H1
             clear H1
             replace H:=Option.bind_eq_some_iff.mp H
             obtain ⟨⟨t888,t891⟩,A1480,H⟩:=H
             replace H:((ancepslaw38_own.f l1_0 l1_1).bind fun bt894=>((table_Same.f kj111 t888 t891 bt894.1 bt894.2).bind fun bt900=>((ancepsref38_Same.f kj111 l0_0 l0_1 l1_0 l1_1).bind fun bt902=>(if (bt900.1 == bt902.1)=true then (some (bt900.2 == bt902.2)) else (some false)))))=some r:=H
             have A148:=zA A1480
             clear A1480
             replace H:=Option.bind_eq_some_iff.mp H
             obtain ⟨⟨t894,t897⟩,A1490,H⟩:=H
             replace H:((table_Same.f kj111 t888 t891 t894 t897).bind fun bt900=>((ancepsref38_Same.f kj111 l0_0 l0_1 l1_0 l1_1).bind fun bt902=>(if (bt900.1 == bt902.1)=true then (some (bt900.2 == bt902.2)) else (some false))))=some r:=H
             have A149:=zA A1490
             clear A1490
             replace H:=Option.bind_eq_some_iff.mp H
             obtain ⟨⟨t900,t901⟩,A1500,H⟩:=H
             replace H:((ancepsref38_Same.f kj111 l0_0 l0_1 l1_0 l1_1).bind fun bt902=>(if (t900 == bt902.1)=true then (some (t901 == bt902.2)) else (some false)))=some r:=H
             have A150:=zA A1500
             clear A1500
             replace H:=Option.bind_eq_some_iff.mp H
             obtain ⟨⟨t902,t903⟩,A1510,H⟩:=H
             replace H:(if (t900 == t902)=true then (some (t901 == t903)) else (some false))=some r:=H
             have A151:=zA A1510
             clear A1510
             have HC152:=zA H
             clear H
             try go_wp2
             replace HO_825000:=zA (Kd.R_drew HO_825000.out)
             replace HO_825001:=zA (Kd.R_drew HO_825001.out)
             replace HO_833000:=zA (Kd.R_drew HO_833000.out)
             replace HO_833001:=zA (Kd.R_drew HO_833001.out)
             replace BK799:=zA (blk_drew BK799.out)
             replace BK800:=zA (blk_drew BK800.out)
             replace BK824:=zA (blk_drew BK824.out)
             replace BK832:=zA (blk_drew BK832.out)
             replace HB:=zA (below_drew1 HB.out)
             refine start_ (n:=10) (S:=fun w'=>w'.cell? ⟨gb799,0,none⟩=some (.slice A0_0 l0_0.length c0_0)∧w'.cell? ⟨gb799,1,none⟩=some (.slice A0_1 l0_1.length c0_1)∧w'.cell? ⟨gb800,0,none⟩=some (.slice A1_0 l1_0.length c1_0)∧w'.cell? ⟨gb800,1,none⟩=some (.slice A1_1 l1_1.length c1_1)) (ds:=[]) #[false,false,false,false,false,false,false,false,false,false] zK rfl rfl ⟨(blk_cell BK799.out 0).trans rfl,(blk_cell BK799.out 1).trans rfl,(blk_cell BK800.out 0).trans rfl,(blk_cell BK800.out 1).trans rfl⟩ (fun hHeld=>?_);refine with_tabW ancepslaw38_TableTwo.tab15 ancepslaw38_TableTwo.bits15 (fun HT_ HW_=>?_)
             generalize wc.drew=w153 at HO_825000 HO_825001 HO_833000 HO_833001 BK799 BK800 BK824 BK832 HB hHeld ⊢
             refine take_ (i:=0) (N:=some 96) (v:=?_) (a':=?_) #[true,false,false,false,false,false,false,false,false,false] rfl rfl (take_ofW HT_.out HW_.out zK) (fun _ _ _ h=>h) (Or.inl ⟨by rfl,?_⟩) hHeld ?_ ?_
             rotate_left
             ·rintro w' ⟨s0,s1,s2,s3⟩
              go_simp
              with_reducible rfl
             rotate_left
             ·simp only [Act.put,zi,zs,zt,i64_w,i32_w]
              rfl
             refine take_ (i:=2) (N:=some 98) (v:=?_) (a':=?_) #[true,false,true,false,false,false,false,false,false,false] rfl rfl (take_ofW HT_.out HW_.out zK) (fun _ _ _ h=>h) (Or.inl ⟨by rfl,?_⟩) hHeld ?_ ?_
             rotate_left
             ·rintro w' ⟨s0,s1,s2,s3⟩
              go_simp
              with_reducible rfl
             rotate_left
             ·simp only [Act.put,zi,zs,zt,i64_w,i32_w]
              rfl
             refine one_ (i:=1) (N:=some 97) #[true,true,true,false,false,false,false,false,false,false] rfl rfl (one_of HT_.out zK) (by decide) (fun K hK=>?_)
             refine goes_ Try.func21 zK rfl #[.agg #[.slice A0_0 l0_0.length c0_0,.slice A0_1 l0_1.length c0_1]] (by rfl) rfl rfl zM ?_
             with_reducible refine (ancepslaw38_own.calls _ _ l0_0 _ _ l0_1 t888 t891 _ ?side1 ?side2 ?side3 ?side4 A148.out).mono ?_
             (case side1=>exact zC (Kd.C_below HR0_0.out HB.out))
             (case side2=>exact HC0_0.out)
             (case side3=>exact zC (Kd.C_below HR0_1.out HB.out))
             (case side4=>exact HC0_1.out)
             rintro e w154 ⟨v889,v892,rfl,ho0,ho1,hb⟩
             refine ⟨_,rfl,?_⟩
             have HO890:=zA (Kd.R_lower (Kd.R_new' (Kd.R_new' (Kd.R_new' (Kd.R_new' ho0 (Kd.R_lt (zR HO_825000))) (Kd.R_lt (zR HO_825001))) (Kd.R_lt (zR HO_833000))) (Kd.R_lt (zR HO_833001))) (below_size zB))
             have HO893:=zA (Kd.R_lower (Kd.R_new' (Kd.R_new' (Kd.R_new' (Kd.R_new' ho1 (Kd.R_lt (zR HO_825000))) (Kd.R_lt (zR HO_825001))) (Kd.R_lt (zR HO_833000))) (Kd.R_lt (zR HO_833001))) (below_size zB))
             replace HO_825000:=zA (Kd.R_mono (Kd.R_told (Kd.R_told (Kd.R_old (zR HO_825000) hb) (Kd.R_base ho0)) (Kd.R_base ho1)) (fun _ h_=>h_.1))
             replace HO_825001:=zA (Kd.R_mono (Kd.R_told (Kd.R_told (Kd.R_old (zR HO_825001) hb) (Kd.R_base ho0)) (Kd.R_base ho1)) (fun _ h_=>h_.1))
             replace HO_833000:=zA (Kd.R_mono (Kd.R_told (Kd.R_told (Kd.R_old (zR HO_833000) hb) (Kd.R_base ho0)) (Kd.R_base ho1)) (fun _ h_=>h_.1))
             replace HO_833001:=zA (Kd.R_mono (Kd.R_told (Kd.R_told (Kd.R_old (zR HO_833001) hb) (Kd.R_base ho0)) (Kd.R_base ho1)) (fun _ h_=>h_.1))
             replace BK799:=zA (zb BK799 hb)
             replace BK800:=zA (zb BK800 hb)
             replace BK824:=zA (zb BK824 hb)
             replace BK832:=zA (zb BK832 hb)
             replace HB:=zA (below_step zB hb)
             (try clear hb)
             (try clear hb2)
             (try clear hk)
             (try clear hi)
             (try clear ho0)
             (try clear ho1)
             refine hK.out _ _ ⟨(blk_cell BK799.out 0).trans rfl,(blk_cell BK799.out 1).trans rfl,(blk_cell BK800.out 0).trans rfl,(blk_cell BK800.out 1).trans rfl⟩ (fun hHeld=>?_)
             clear hK K
             refine norm_ (a':=?_) ?_ ?_
             rotate_left
             ·show Act.put _ (some 97) _=_
              simp only [Act.put,zi,zs,zt,i64_w,i32_w]
              rfl
             refine one_ (i:=3) (N:=some 99) #[true,true,true,true,false,false,false,false,false,false] rfl rfl (one_of HT_.out zK) (by decide) (fun K hK=>?_)
             refine goes_ Try.func21 zK rfl #[.agg #[.slice A1_0 l1_0.length c1_0,.slice A1_1 l1_1.length c1_1]] (by rfl) rfl rfl zM ?_
             with_reducible refine (ancepslaw38_own.calls _ _ l1_0 _ _ l1_1 t894 t897 _ ?side1 ?side2 ?side3 ?side4 A149.out).mono ?_
             (case side1=>exact zC (Kd.C_below HR1_0.out HB.out))
             (case side2=>exact HC1_0.out)
             (case side3=>exact zC (Kd.C_below HR1_1.out HB.out))
             (case side4=>exact HC1_1.out)
             rintro e w155 ⟨v895,v898,rfl,ho0,ho1,hb⟩
             refine ⟨_,rfl,?_⟩
             have HO896:=zA (Kd.R_lower (Kd.R_new' (Kd.R_new' (Kd.R_new' (Kd.R_new' (Kd.R_new' (Kd.R_new' ho0 (Kd.R_lt (zR HO_825000))) (Kd.R_lt (zR HO_825001))) (Kd.R_lt (zR HO_833000))) (Kd.R_lt (zR HO_833001))) (Kd.R_lt (zR HO890))) (Kd.R_lt (zR HO893))) (below_size zB))
             have HO899:=zA (Kd.R_lower (Kd.R_new' (Kd.R_new' (Kd.R_new' (Kd.R_new' (Kd.R_new' (Kd.R_new' ho1 (Kd.R_lt (zR HO_825000))) (Kd.R_lt (zR HO_825001))) (Kd.R_lt (zR HO_833000))) (Kd.R_lt (zR HO_833001))) (Kd.R_lt (zR HO890))) (Kd.R_lt (zR HO893))) (below_size zB))
             replace HO_825000:=zA (Kd.R_mono (Kd.R_told (Kd.R_told (Kd.R_old (zR HO_825000) hb) (Kd.R_base ho0)) (Kd.R_base ho1)) (fun _ h_=>h_.1))
             replace HO_825001:=zA (Kd.R_mono (Kd.R_told (Kd.R_told (Kd.R_old (zR HO_825001) hb) (Kd.R_base ho0)) (Kd.R_base ho1)) (fun _ h_=>h_.1))
             replace HO_833000:=zA (Kd.R_mono (Kd.R_told (Kd.R_told (Kd.R_old (zR HO_833000) hb) (Kd.R_base ho0)) (Kd.R_base ho1)) (fun _ h_=>h_.1))
             replace HO_833001:=zA (Kd.R_mono (Kd.R_told (Kd.R_told (Kd.R_old (zR HO_833001) hb) (Kd.R_base ho0)) (Kd.R_base ho1)) (fun _ h_=>h_.1))
             replace HO890:=zA (Kd.R_mono (Kd.R_told (Kd.R_told (Kd.R_old (zR HO890) hb) (Kd.R_base ho0)) (Kd.R_base ho1)) (fun _ h_=>h_.1))
             replace HO893:=zA (Kd.R_mono (Kd.R_told (Kd.R_told (Kd.R_old (zR HO893) hb) (Kd.R_base ho0)) (Kd.R_base ho1)) (fun _ h_=>h_.1))
             replace BK799:=zA (zb BK799 hb)
             replace BK800:=zA (zb BK800 hb)
             replace BK824:=zA (zb BK824 hb)
             replace BK832:=zA (zb BK832 hb)
             replace HB:=zA (below_step zB hb)
             (try clear hb)
             (try clear hb2)
             (try clear hk)
             (try clear hi)
             (try clear ho0)
             (try clear ho1)
             obtain ⟨Ao156,co156,eo156⟩:=Kd.R_slice HO890.out
             (first|subst eo156|(injection eo156 with f1_ f2_ f3_;have f4_:=f1_.symm;have f5_:=f3_.symm;clear f1_ f2_ f3_;subst f4_;subst f5_))
             obtain ⟨Ao157,co157,eo157⟩:=Kd.R_slice HO893.out
             (first|subst eo157|(injection eo157 with f1_ f2_ f3_;have f4_:=f1_.symm;have f5_:=f3_.symm;clear f1_ f2_ f3_;subst f4_;subst f5_))
             obtain ⟨Ao158,co158,eo158⟩:=Kd.R_slice HO896.out
             (first|subst eo158|(injection eo158 with f1_ f2_ f3_;have f4_:=f1_.symm;have f5_:=f3_.symm;clear f1_ f2_ f3_;subst f4_;subst f5_))
             obtain ⟨Ao159,co159,eo159⟩:=Kd.R_slice HO899.out
             (first|subst eo159|(injection eo159 with f1_ f2_ f3_;have f4_:=f1_.symm;have f5_:=f3_.symm;clear f1_ f2_ f3_;subst f4_;subst f5_))
             refine hK.out _ _ ⟨(blk_cell BK799.out 0).trans rfl,(blk_cell BK799.out 1).trans rfl,(blk_cell BK800.out 0).trans rfl,(blk_cell BK800.out 1).trans rfl⟩ (fun hHeld=>?_)
             clear hK K
             refine norm_ (a':=?_) ?_ ?_
             rotate_left
             ·show Act.put _ (some 99) _=_
              simp only [Act.put,zi,zs,zt,i64_w,i32_w]
              rfl
             refine one_ (i:=4) (N:=some 100) #[true,true,true,true,true,false,false,false,false,false] rfl rfl (one_of HT_.out zK) (by decide) (fun K hK=>?_)
             refine goes_ Try.func33 zK rfl #[.agg #[.slice Ao156 t888.length co156,.slice Ao157 t891.length co157],.agg #[.slice Ao158 t894.length co158,.slice Ao159 t897.length co159]] (by rfl) rfl rfl zM ?_
             with_reducible refine (table_Same.calls kj111 _ _ t888 _ _ t891 _ _ t894 _ _ t897 t900 t901 _ ?side1 ?side2 ?side3 ?side4 ?side5 ?side6 ?side7 ?side8 A150.out).mono ?_
             (case side1=>exact zC (Kd.R_reads' HO890.out).2.2)
             (case side2=>exact (Kd.R_reads' HO890.out).2.1)
             (case side3=>exact zC (Kd.R_reads' HO893.out).2.2)
             (case side4=>exact (Kd.R_reads' HO893.out).2.1)
             (case side5=>exact zC (Kd.R_reads' HO896.out).2.2)
             (case side6=>exact (Kd.R_reads' HO896.out).2.1)
             (case side7=>exact zC (Kd.R_reads' HO899.out).2.2)
             (case side8=>exact (Kd.R_reads' HO899.out).2.1)
             rintro e w160 ⟨rfl,hb⟩
             refine ⟨_,rfl,?_⟩
             replace HO_825000:=zA (Kd.R_below (zR HO_825000) hb)
             replace HO_825001:=zA (Kd.R_below (zR HO_825001) hb)
             replace HO_833000:=zA (Kd.R_below (zR HO_833000) hb)
             replace HO_833001:=zA (Kd.R_below (zR HO_833001) hb)
             replace HO890:=zA (Kd.R_below (zR HO890) hb)
             replace HO893:=zA (Kd.R_below (zR HO893) hb)
             replace HO896:=zA (Kd.R_below (zR HO896) hb)
             replace HO899:=zA (Kd.R_below (zR HO899) hb)
             replace BK799:=zA (zb BK799 hb)
             replace BK800:=zA (zb BK800 hb)
             replace BK824:=zA (zb BK824 hb)
             replace BK832:=zA (zb BK832 hb)
             replace HB:=zA (below_step zB hb)
             (try clear hb)
             (try clear hb2)
             (try clear hk)
             (try clear hi)
             refine hK.out _ _ ⟨(blk_cell BK799.out 0).trans rfl,(blk_cell BK799.out 1).trans rfl,(blk_cell BK800.out 0).trans rfl,(blk_cell BK800.out 1).trans rfl⟩ (fun hHeld=>?_)
             clear hK K
             refine norm_ (a':=?_) ?_ ?_
             rotate_left
             ·show Act.put _ (some 100) _=_
              simp only [Act.put,zi,zs,zt,i64_w,i32_w]
              rfl
             refine pure_ (i:=5) (N:=some 95) (v:=?_) (a':=?_) #[true,true,true,true,true,true,false,false,false,false] rfl rfl (any_of HT_.out zK) (fun _ _ _ h=>h) (Or.inl ⟨by rfl,?_⟩) ?_ ?_
             rotate_left
             ·intro w'
              go_simp
              with_reducible rfl
             rotate_left
             ·simp only [Act.put,zi,zs,zt,i64_w,i32_w]
              rfl
             refine pure_ (i:=6) (N:=some 101) (v:=?_) (a':=?_) #[true,true,true,true,true,true,true,false,false,false] rfl rfl (any_of HT_.out zK) (fun _ _ _ h=>h) (Or.inl ⟨by rfl,?_⟩) ?_ ?_
             rotate_left
             ·intro w'
              go_simp
              with_reducible rfl
             rotate_left
             ·simp only [Act.put,zi,zs,zt,i64_w,i32_w]
              rfl
             refine pure_ (i:=7) (N:=some 102) (v:=?_) (a':=?_) #[true,true,true,true,true,true,true,true,false,false] rfl rfl (any_of HT_.out zK) (fun _ _ _ h=>h) (Or.inl ⟨by rfl,?_⟩) ?_ ?_
             rotate_left
             ·intro w'
              go_simp
              with_reducible rfl
             rotate_left
             ·simp only [Act.put,zi,zs,zt,i64_w,i32_w]
              rfl
             refine pure_ (i:=8) (N:=some 9) (v:=?_) (a':=?_) #[true,true,true,true,true,true,true,true,true,false] rfl rfl (any_of HT_.out zK) (fun _ _ _ h=>h) (Or.inl ⟨by rfl,?_⟩) ?_ ?_
             rotate_left
             ·intro w'
              go_simp
              with_reducible rfl
             rotate_left
             ·simp only [Act.put,zi,zs,zt,i64_w,i32_w]
              rfl
             refine pure_ (i:=9) (N:=some 10) (v:=?_) (a':=?_) #[true,true,true,true,true,true,true,true,true,true] rfl rfl (any_of HT_.out zK) (fun _ _ _ h=>h) (Or.inl ⟨by rfl,?_⟩) ?_ ?_
             rotate_left
             ·intro w'
              go_simp
              with_reducible rfl
             rotate_left
             ·simp only [Act.put,zi,zs,zt,i64_w,i32_w]
              rfl
             refine done_ (done_of HT_.out zK) ?_
             have hnb161:=NB799_800.out
             have hnc161:=NB800_799.out
             have hnb162:=NB799_824.out
             have hnc162:=NB824_799.out
             have hnb163:=NB799_832.out
             have hnc163:=NB832_799.out
             have hcz164_0:w160.cell? ⟨gb799,0,none⟩=some (.slice A0_0 l0_0.length c0_0):=(blk_cell BK799.out 0).trans rfl
             have hcz164_1:w160.cell? ⟨gb799,1,none⟩=some (.slice A0_1 l0_1.length c0_1):=(blk_cell BK799.out 1).trans rfl
             have hfz164_0:=blk_frozen BK799.out 0
             have hfz164_1:=blk_frozen BK799.out 1
             have hnb165:=NB800_824.out
             have hnc165:=NB824_800.out
             have hnb166:=NB800_832.out
             have hnc166:=NB832_800.out
             have hcz167_0:w160.cell? ⟨gb800,0,none⟩=some (.slice A1_0 l1_0.length c1_0):=(blk_cell BK800.out 0).trans rfl
             have hcz167_1:w160.cell? ⟨gb800,1,none⟩=some (.slice A1_1 l1_1.length c1_1):=(blk_cell BK800.out 1).trans rfl
             have hfz167_0:=blk_frozen BK800.out 0
             have hfz167_1:=blk_frozen BK800.out 1
             go_upto_region 17 with (first|((with_reducible refine gate_callee (f:=34) rfl ?_);refine goesL_ (some 106) rfl rfl Try.func34 zK rfl #[.agg #[.slice A0_0 l0_0.length c0_0,.slice A0_1 l0_1.length c0_1],.agg #[.slice A1_0 l1_0.length c1_0,.slice A1_1 l1_1.length c1_1]] rfl zM ?_;(with_reducible refine (ancepsref38_Same.calls kj111 _ _ l0_0 _ _ l0_1 _ _ l1_0 _ _ l1_1 t902 t903 _ ?side1 ?side2 ?side3 ?side4 ?side5 ?side6 ?side7 ?side8 A151.out).mono ?_);(case side1=>exact zC (Kd.C_below HR0_0.out HB.out));(case side2=>exact HC0_0.out);(case side3=>exact zC (Kd.C_below HR0_1.out HB.out));(case side4=>exact HC0_1.out);(case side5=>exact zC (Kd.C_below HR1_0.out HB.out));(case side6=>exact HC1_0.out);(case side7=>exact zC (Kd.C_below HR1_1.out HB.out));(case side8=>exact HC1_1.out);rintro e w168 ⟨rfl,hb⟩;refine ⟨_,rfl,?_⟩;replace HO_825000:=zA (Kd.R_below (zR HO_825000) hb);replace HO_825001:=zA (Kd.R_below (zR HO_825001) hb);replace HO_833000:=zA (Kd.R_below (zR HO_833000) hb);replace HO_833001:=zA (Kd.R_below (zR HO_833001) hb);replace HO890:=zA (Kd.R_below (zR HO890) hb);replace HO893:=zA (Kd.R_below (zR HO893) hb);replace HO896:=zA (Kd.R_below (zR HO896) hb);replace HO899:=zA (Kd.R_below (zR HO899) hb);replace BK799:=zA (zb BK799 hb);replace BK800:=zA (zb BK800 hb);replace BK824:=zA (zb BK824 hb);replace BK832:=zA (zb BK832 hb);replace HB:=zA (below_step zB hb);(try clear hb);(try clear hb2);(try clear hk);(try clear hi)))
             (try simp only [Act.put,zi,zs,zt])
             have H:=HC152.out
             clear HC152
             by_cases c169:(t900 == t902)=true
             ·rw [if_pos c169] at H
              have c169b0:(t900 == t902)=true:=c169
              (try (have c169b1:decide (t900=t902)=true:=by simpa using c169))
              (try (have c169b2:(t900 == t902)=true:=by simpa using c169))
              clear c169
              (first|rw [c169b0]|(simp only [i64_w,i32_w];rw [c169b0])|skip)
              (try rw [c169b1])
              (try rw [c169b2])
              obtain rfl:=Option.some.inj H
              go_wp2
              go_ret
              exact ⟨ze,by repeat (first|(with_reducible first|exact HB.out|apply below_alloc|apply pw_below_drewN|apply below_drew1|refine below_set ?_ GE799.out|refine below_set ?_ GE800.out|refine below_set ?_ GE824.out|refine below_set ?_ GE832.out)|exact HB.out)⟩
             ·rw [if_neg c169] at H
              have c169b0:(t900 == t902)=false:=by simpa using c169
              (try (have c169b1:decide (t900=t902)=false:=by simpa using c169))
              (try (have c169b2:(t900 == t902)=false:=by simpa using c169))
              (try (have c169b3:¬ (t900=t902):=by simpa using c169))
              clear c169
              (first|rw [c169b0]|(simp only [i64_w,i32_w];rw [c169b0])|skip)
              (try rw [c169b1])
              (try rw [c169b2])
              (try rw [c169b3])
              obtain rfl:=Option.some.inj H
              go_wp2
              go_ret
              exact ⟨ze,by repeat (first|(with_reducible first|exact HB.out|apply below_alloc|apply pw_below_drewN|apply below_drew1|refine below_set ?_ GE799.out|refine below_set ?_ GE800.out|refine below_set ?_ GE824.out|refine below_set ?_ GE832.out)|exact HB.out)⟩
end Go.Proofs.Ythcfmdkhkikbcaa.T
