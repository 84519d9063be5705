import Derived.Test.YtngpkbbljnbojaaI0
import Derived.Test.YtngpkbbljnbojaaI2
import Derived.Test.YtngpkbbljnbojaaI5
import Derived.Test.YtngpkbbljnbojaaI7
import Derived.Test.YtngpkbbljnbojaaI11
import Derived.Test.YtngpkbbljnbojaaI12
import Derived.Test.YtngpkbbljnbojaaI13
namespace Go.Proofs.Ytngpkbbljnbojaa.I
open Go.RowKit Go.Proofs.YtngpkbbljnbojaaW.PrintWords Go.Proofs.YtngpkbbljnbojaaW.PrintLast Go.Proofs.YtngpkbbljnbojaaW.PrintMore
attribute [local go_sem] max2_int min2_int max_two min_two max_three min_three max_four min_four
set_option linter.unusedVariables false
set_option linter.unusedSimpArgs false
def ancepslaw41_SharedImplied.l0:Nat→List (S34)→List Int→List Int→List Int→Int→Int→Option (Bool)
 | 0,_,_,_,_,_,_=>none
 | k+1,x0,x9,x11,x82,x83,x84=>if x84<x83 then (if 0≤x84 then (if x84<(x82.length:Int) then ((ancepsref40_Vars.f k x0).bind fun t724=>((slices_Contains_int_int.f k t724 (rd x82 x84)).bind fun t727=>(if t727=true then (ancepslaw41_SharedImplied.l0 k x0 x9 x11 x82 x83 (wrap64 (x84+1))) else (some (decide ((x11.length:Int)≥(x9.length:Int))))))) else (none)) else (none)) else ((slices_Equal_int_int.f k x9 x11).bind fun t728=>(some t728))
def ancepslaw41_SharedImplied.f (k:Nat) (l0:List (S34)) (l1_0:List Int) (l1_1:List Int):Option (Bool):=(ancepslaw41_awake.f k).bind fun t696=>(if t696=true then ((ancepsref41_FewTables.f k l0).bind fun t99=>(if t99=true then ((ancepsref38_Few.f l1_0 l1_1).bind fun t89=>(if t89=true then ((ancepslaw41_own.f k l0).bind fun t78=>((shared_Implied.f k t78 l1_0 l1_1).bind fun bt74=>((ancepsref41_Implied.f k l0 l1_0 l1_1).bind fun bt75=>(if (bt74.1 != bt75.1)=true then (if (bt74.1 == bt75.1)=true then (some (bt74.2 == bt75.2)) else (none)) else (if bt74.2=bt75.2 then (if bt74.1=true then ((ancepsref40_All.f k l0).bind fun bt79=>((ancepslaw41_own.f k l0).bind fun t80=>((some (([(⟨l1_0,l1_1⟩:S34)]:List (S34)):List (S34))).bind fun y76=>(if t80.length+y76.length<2932031007402 then ((ancepsref40_All.f k (t80++y76)).bind fun bt77=>(if bt79.2=0 then (if bt77.2=0 then (ancepslaw41_SharedImplied.l0 k l0 bt79.1 bt77.1 l1_0 (l1_0.length:Int) 0) else (some true)) else (some true))) else (none))))) else (if (bt74.1 == bt75.1)=true then (some (bt74.2 == bt75.2)) else (none))) else (if (bt74.1 == bt75.1)=true then (some (bt74.2 == bt75.2)) else (none))))))) else ((ancepslaw41_awake.f k).bind fun t88=>(some t88)))) else ((ancepslaw41_awake.f k).bind fun t92=>(some t92)))) else ((ancepslaw41_awake.f k).bind fun t731=>(some t731)))
theorem ancepslaw41_SharedImplied.mono_l:∀ k,(∀ y0 y1 y2 y3 y4 y5,LeO (ancepslaw41_SharedImplied.l0 k y0 y1 y2 y3 y4 y5) (ancepslaw41_SharedImplied.l0 (k+1) y0 y1 y2 y3 y4 y5))
 | 0=>fun _ _ _ _ _ _ r h=>by simp [ancepslaw41_SharedImplied.l0] at h
 | k+1=>by
  have ih0:=ancepslaw41_SharedImplied.mono_l k
  ·intro y0 y1 y2 y3 y4 y5
   unfold ancepslaw41_SharedImplied.l0
   repeat' first
   | (with_reducible exact ih0 _ _ _ _ _ _)
   | (with_reducible exact ancepslaw41_awake.mono _)
   | (with_reducible exact ancepslaw41_own.mono _ _)
   | (with_reducible exact ancepsref40_All.mono _ _)
   | (with_reducible exact ancepsref40_Vars.mono _ _)
   | (with_reducible exact ancepsref41_FewTables.mono _ _)
   | (with_reducible exact ancepsref41_Implied.mono _ _ _ _)
   | (with_reducible exact shared_Implied.mono _ _ _ _)
   | (with_reducible exact slices_Contains_int_int.mono _ _ _)
   | (with_reducible exact slices_Equal_int_int.mono _ _ _)
   | (with_reducible exact LeO.refl _)
   | (with_reducible exact LeO.none _)
   | (with_reducible refine LeO.ite ?_ ?_)
   | (with_reducible refine LeO.bind ?_ (fun _=>?_))
   | exact LeO.none _
   | refine LeO.ite ?_ ?_
   | refine LeO.bind ?_ (fun _=>?_)
theorem ancepslaw41_SharedImplied.mono:∀ a0 a1 a2 k,LeO (ancepslaw41_SharedImplied.f k a0 a1 a2) (ancepslaw41_SharedImplied.f (k+1) a0 a1 a2):=by
 intro a0 a1 a2 k;have ih0:=ancepslaw41_SharedImplied.mono_l k
 unfold ancepslaw41_SharedImplied.f
 repeat' first
   | (with_reducible exact ih0 _ _ _ _ _ _)
   | (with_reducible exact ancepslaw41_awake.mono _)
   | (with_reducible exact ancepslaw41_own.mono _ _)
   | (with_reducible exact ancepsref40_All.mono _ _)
   | (with_reducible exact ancepsref40_Vars.mono _ _)
   | (with_reducible exact ancepsref41_FewTables.mono _ _)
   | (with_reducible exact ancepsref41_Implied.mono _ _ _ _)
   | (with_reducible exact shared_Implied.mono _ _ _ _)
   | (with_reducible exact slices_Contains_int_int.mono _ _ _)
   | (with_reducible exact slices_Equal_int_int.mono _ _ _)
   | (with_reducible exact LeO.refl _)
   | (with_reducible exact LeO.none _)
   | (with_reducible refine LeO.ite ?_ ?_)
   | (with_reducible refine LeO.bind ?_ (fun _=>?_))
   | exact LeO.none _
   | refine LeO.ite ?_ ?_
   | refine LeO.bind ?_ (fun _=>?_)
def ancepslaw41_SharedImplied.T3:Bool×List (List Nat×List Nat):=(true,[([],[]),([0],[0]),([],[]),([1,2,1],[1,2]),([3],[3]),([4],[4]),([4],[4]),([5,3,0,1,2,3,4,5],[5]),([6,7,0,1,2,3,4,5,6,7],[6])])
def ancepslaw41_SharedImplied.B3:List Nat:=[0,1,0,7,15,31,31,63,255]
theorem ancepslaw41_SharedImplied.tab3:rtab .any (opsOf Try.f4 3)=ancepslaw41_SharedImplied.T3:=by kernel_rfl
theorem ancepslaw41_SharedImplied.bits3:waitsOk ancepslaw41_SharedImplied.T3.2 ancepslaw41_SharedImplied.B3=true:=by kernel_rfl
def ancepslaw41_SharedImplied.T8:Bool×List (List Nat×List Nat):=(true,[([],[]),([0],[0]),([],[]),([2],[2]),([1,3,1],[1,3]),([4,4],[4]),([5],[5]),([6],[6]),([6],[6]),([7,5,0,1,2,3,4,5,6,7],[7]),([8,9,0,1,2,3,4,5,6,7,8,9],[8])])
def ancepslaw41_SharedImplied.B8:List Nat:=[0,1,0,4,15,31,63,127,127,255,1023]
theorem ancepslaw41_SharedImplied.tab8:rtab .any (opsOf Try.f4 8)=ancepslaw41_SharedImplied.T8:=by kernel_rfl
theorem ancepslaw41_SharedImplied.bits8:waitsOk ancepslaw41_SharedImplied.T8.2 ancepslaw41_SharedImplied.B8=true:=by kernel_rfl
set_option maxHeartbeats 8000000 in
set_option maxRecDepth 100000 in
theorem ancepslaw41_SharedImplied.calls (k:Nat) (A0:Option Addr) (c0:Nat) (l0:List (S34)) (P1_0_:Nat→Prop) (A1_0:Option Addr) (c1_0:Nat) (l1_0:List Int) (P1_1_:Nat→Prop) (A1_1:Option Addr) (c1_1:Nat) (l1_1:List Int) (r:Bool) (w:World) (hr0:Kd.C k34 w A0 l0.length l0) (hc0:l0.length≤c0) (hs1_0:Kd.V (Kd.int .i64) 3 w w.heap.size (fun k_=>P1_0_ k_) (.slice A1_0 l1_0.length c1_0) l1_0) (hs1_1:Kd.V (Kd.int .i64) 3 w w.heap.size (fun k_=>P1_1_ k_) (.slice A1_1 l1_1.length c1_1) l1_1) (h:ancepslaw41_SharedImplied.f k l0 l1_0 l1_1=some r) :
  Calls Try.prog 4 #[.slice A0 l0.length c0,.agg #[.slice A1_0 l1_0.length c1_0,.slice A1_1 l1_1.length c1_1]] w fun e w'=>e=.returned (.bool r)∧Below w.heap.size w w':=by
 have hu34:=Try.underlying34;have hu29:=Try.underlying29;have hu3:=Try.underlying3;have HR0:=zA hr0;have HC0:=zA hc0;clear hr0 hc0;have HO1_0:=zA (show Kd.V (Kd.int .i64) 3 w w.heap.size (fun k_=>((P1_0_ k_∨P1_1_ k_)∨w.heap.size≤k_)) (.slice A1_0 l1_0.length c1_0) l1_0 from Kd.V_mono hs1_0 (fun k_ hk=>.inl (.inl hk)));have HO1_1:=zA (show Kd.V (Kd.int .i64) 3 w w.heap.size (fun k_=>((P1_0_ k_∨P1_1_ k_)∨w.heap.size≤k_)) (.slice A1_1 l1_1.length c1_1) l1_1 from Kd.V_mono hs1_1 (fun k_ hk=>.inl (.inr hk)));have HB:=zA (Below.refl w.heap.size w);have H:((ancepslaw41_awake.f k).bind fun t696=>(if t696=true then ((ancepsref41_FewTables.f k l0).bind fun t99=>(if t99=true then ((ancepsref38_Few.f l1_0 l1_1).bind fun t89=>(if t89=true then ((ancepslaw41_own.f k l0).bind fun t78=>((shared_Implied.f k t78 l1_0 l1_1).bind fun bt74=>((ancepsref41_Implied.f k l0 l1_0 l1_1).bind fun bt75=>(if (bt74.1 != bt75.1)=true then (if (bt74.1 == bt75.1)=true then (some (bt74.2 == bt75.2)) else (none)) else (if bt74.2=bt75.2 then (if bt74.1=true then ((ancepsref40_All.f k l0).bind fun bt79=>((ancepslaw41_own.f k l0).bind fun t80=>((some (([(⟨l1_0,l1_1⟩:S34)]:List (S34)):List (S34))).bind fun y76=>(if t80.length+y76.length<2932031007402 then ((ancepsref40_All.f k (t80++y76)).bind fun bt77=>(if bt79.2=0 then (if bt77.2=0 then (ancepslaw41_SharedImplied.l0 k l0 bt79.1 bt77.1 l1_0 (l1_0.length:Int) 0) else (some true)) else (some true))) else (none))))) else (if (bt74.1 == bt75.1)=true then (some (bt74.2 == bt75.2)) else (none))) else (if (bt74.1 == bt75.1)=true then (some (bt74.2 == bt75.2)) else (none))))))) else ((ancepslaw41_awake.f k).bind fun t88=>(some t88)))) else ((ancepslaw41_awake.f k).bind fun t92=>(some t92)))) else ((ancepslaw41_awake.f k).bind fun t731=>(some t731))))=some r:=h;clear h;have HC3:=zA H;clear H
 go_enter Try.func4,Try.ntmps4
 go_upto_region 1 with (first|((with_reducible refine gate_dst (N:=3) rfl ?_);refine box_event ?hg (N:=3) ?hd (cs:=#[.slice A1_0 l1_0.length c1_0,.slice A1_1 l1_1.length c1_1]) (t:=34) ?hr ?_;(case hd=>rfl);(case hg=>rfl);(case hr=>first|(go_simp;done)|(go_simp;rfl));intro gb73 hg w4 hbox hb;have BK73:=zA (hbox);have GW73:=zA (zG hg (below_size zB):w.heap.size≤gb73);have GE73:=GW73;replace HO1_0:=zA (Kd.V_below (Kd.V_elderB (zV HO1_0) gb73 (Nat.le_of_eq hg.symm)) hb);replace HO1_1:=zA (Kd.V_below (Kd.V_elderB (zV HO1_1) gb73 (Nat.le_of_eq hg.symm)) hb);replace HB:=zA (below_step zB hb);clear hb hbox hg))
 (try simp only [Act.put,zi,zs,zt]);have H:=HC3.out;clear HC3;replace H:=Option.bind_eq_some_iff.mp H;obtain ⟨t696,A50,H⟩:=H;replace H:(if t696=true then ((ancepsref41_FewTables.f k l0).bind fun t99=>(if t99=true then ((ancepsref38_Few.f l1_0 l1_1).bind fun t89=>(if t89=true then ((ancepslaw41_own.f k l0).bind fun t78=>((shared_Implied.f k t78 l1_0 l1_1).bind fun bt74=>((ancepsref41_Implied.f k l0 l1_0 l1_1).bind fun bt75=>(if (bt74.1 != bt75.1)=true then (if (bt74.1 == bt75.1)=true then (some (bt74.2 == bt75.2)) else (none)) else (if bt74.2=bt75.2 then (if bt74.1=true then ((ancepsref40_All.f k l0).bind fun bt79=>((ancepslaw41_own.f k l0).bind fun t80=>((some (([(⟨l1_0,l1_1⟩:S34)]:List (S34)):List (S34))).bind fun y76=>(if t80.length+y76.length<2932031007402 then ((ancepsref40_All.f k (t80++y76)).bind fun bt77=>(if bt79.2=0 then (if bt77.2=0 then (ancepslaw41_SharedImplied.l0 k l0 bt79.1 bt77.1 l1_0 (l1_0.length:Int) 0) else (some true)) else (some true))) else (none))))) else (if (bt74.1 == bt75.1)=true then (some (bt74.2 == bt75.2)) else (none))) else (if (bt74.1 == bt75.1)=true then (some (bt74.2 == bt75.2)) else (none))))))) else ((ancepslaw41_awake.f k).bind fun t88=>(some t88)))) else ((ancepslaw41_awake.f k).bind fun t92=>(some t92)))) else ((ancepslaw41_awake.f k).bind fun t731=>(some t731)))=some r:=H;have A5:=zA A50;clear A50
 by_cases c6:t696=true
 ·subst c6
  have H1:((ancepsref41_FewTables.f k l0).bind fun t99=>(if t99=true then ((ancepsref38_Few.f l1_0 l1_1).bind fun t89=>(if t89=true then ((ancepslaw41_own.f k l0).bind fun t78=>((shared_Implied.f k t78 l1_0 l1_1).bind fun bt74=>((ancepsref41_Implied.f k l0 l1_0 l1_1).bind fun bt75=>(if (bt74.1 != bt75.1)=true then (if (bt74.1 == bt75.1)=true then (some (bt74.2 == bt75.2)) else (none)) else (if bt74.2=bt75.2 then (if bt74.1=true then ((ancepsref40_All.f k l0).bind fun bt79=>((ancepslaw41_own.f k l0).bind fun t80=>((some (([(⟨l1_0,l1_1⟩:S34)]:List (S34)):List (S34))).bind fun y76=>(if t80.length+y76.length<2932031007402 then ((ancepsref40_All.f k (t80++y76)).bind fun bt77=>(if bt79.2=0 then (if bt77.2=0 then (ancepslaw41_SharedImplied.l0 k l0 bt79.1 bt77.1 l1_0 (l1_0.length:Int) 0) else (some true)) else (some true))) else (none))))) else (if (bt74.1 == bt75.1)=true then (some (bt74.2 == bt75.2)) else (none))) else (if (bt74.1 == bt75.1)=true then (some (bt74.2 == bt75.2)) else (none))))))) else ((ancepslaw41_awake.f k).bind fun t88=>(some t88)))) else ((ancepslaw41_awake.f k).bind fun t92=>(some t92))))=some r:=by rw [if_pos rfl] at H;exact H
  clear H;have H:=H1;clear H1;replace H:=Option.bind_eq_some_iff.mp H;obtain ⟨t99,A70,H⟩:=H;replace H:(if t99=true then ((ancepsref38_Few.f l1_0 l1_1).bind fun t89=>(if t89=true then ((ancepslaw41_own.f k l0).bind fun t78=>((shared_Implied.f k t78 l1_0 l1_1).bind fun bt74=>((ancepsref41_Implied.f k l0 l1_0 l1_1).bind fun bt75=>(if (bt74.1 != bt75.1)=true then (if (bt74.1 == bt75.1)=true then (some (bt74.2 == bt75.2)) else (none)) else (if bt74.2=bt75.2 then (if bt74.1=true then ((ancepsref40_All.f k l0).bind fun bt79=>((ancepslaw41_own.f k l0).bind fun t80=>((some (([(⟨l1_0,l1_1⟩:S34)]:List (S34)):List (S34))).bind fun y76=>(if t80.length+y76.length<2932031007402 then ((ancepsref40_All.f k (t80++y76)).bind fun bt77=>(if bt79.2=0 then (if bt77.2=0 then (ancepslaw41_SharedImplied.l0 k l0 bt79.1 bt77.1 l1_0 (l1_0.length:Int) 0) else (some true)) else (some true))) else (none))))) else (if (bt74.1 == bt75.1)=true then (some (bt74.2 == bt75.2)) else (none))) else (if (bt74.1 == bt75.1)=true then (some (bt74.2 == bt75.2)) else (none))))))) else ((ancepslaw41_awake.f k).bind fun t88=>(some t88)))) else ((ancepslaw41_awake.f k).bind fun t92=>(some t92)))=some r:=H;have A7:=zA A70;clear A70
  by_cases c8:t99=true
  ·subst c8
   have H1:((ancepsref38_Few.f l1_0 l1_1).bind fun t89=>(if t89=true then ((ancepslaw41_own.f k l0).bind fun t78=>((shared_Implied.f k t78 l1_0 l1_1).bind fun bt74=>((ancepsref41_Implied.f k l0 l1_0 l1_1).bind fun bt75=>(if (bt74.1 != bt75.1)=true then (if (bt74.1 == bt75.1)=true then (some (bt74.2 == bt75.2)) else (none)) else (if bt74.2=bt75.2 then (if bt74.1=true then ((ancepsref40_All.f k l0).bind fun bt79=>((ancepslaw41_own.f k l0).bind fun t80=>((some (([(⟨l1_0,l1_1⟩:S34)]:List (S34)):List (S34))).bind fun y76=>(if t80.length+y76.length<2932031007402 then ((ancepsref40_All.f k (t80++y76)).bind fun bt77=>(if bt79.2=0 then (if bt77.2=0 then (ancepslaw41_SharedImplied.l0 k l0 bt79.1 bt77.1 l1_0 (l1_0.length:Int) 0) else (some true)) else (some true))) else (none))))) else (if (bt74.1 == bt75.1)=true then (some (bt74.2 == bt75.2)) else (none))) else (if (bt74.1 == bt75.1)=true then (some (bt74.2 == bt75.2)) else (none))))))) else ((ancepslaw41_awake.f k).bind fun t88=>(some t88))))=some r:=by rw [if_pos rfl] at H;exact H
   clear H;have H:=H1;clear H1;replace H:=Option.bind_eq_some_iff.mp H;obtain ⟨t89,A90,H⟩:=H;replace H:(if t89=true then ((ancepslaw41_own.f k l0).bind fun t78=>((shared_Implied.f k t78 l1_0 l1_1).bind fun bt74=>((ancepsref41_Implied.f k l0 l1_0 l1_1).bind fun bt75=>(if (bt74.1 != bt75.1)=true then (if (bt74.1 == bt75.1)=true then (some (bt74.2 == bt75.2)) else (none)) else (if bt74.2=bt75.2 then (if bt74.1=true then ((ancepsref40_All.f k l0).bind fun bt79=>((ancepslaw41_own.f k l0).bind fun t80=>((some (([(⟨l1_0,l1_1⟩:S34)]:List (S34)):List (S34))).bind fun y76=>(if t80.length+y76.length<2932031007402 then ((ancepsref40_All.f k (t80++y76)).bind fun bt77=>(if bt79.2=0 then (if bt77.2=0 then (ancepslaw41_SharedImplied.l0 k l0 bt79.1 bt77.1 l1_0 (l1_0.length:Int) 0) else (some true)) else (some true))) else (none))))) else (if (bt74.1 == bt75.1)=true then (some (bt74.2 == bt75.2)) else (none))) else (if (bt74.1 == bt75.1)=true then (some (bt74.2 == bt75.2)) else (none))))))) else ((ancepslaw41_awake.f k).bind fun t88=>(some t88)))=some r:=H;have A9:=zA A90;clear A90;have HC10:=zA H;clear H
   go_upto_if 26 with (first|((with_reducible refine gate_callee (f:=6) rfl ?_);refine goesL_ (some 15) rfl rfl Try.func6 zK rfl #[] rfl zM ?_;(with_reducible refine (ancepslaw41_awake.calls k  true _ A5.out).mono ?_);rintro e w11 ⟨rfl,hb⟩;refine ⟨_,rfl,?_⟩;replace HO1_0:=zA (Kd.V_below (zV HO1_0) hb);replace HO1_1:=zA (Kd.V_below (zV HO1_1) hb);replace BK73:=zA (zb BK73 hb);replace HB:=zA (below_step zB hb);(try clear hb);(try clear hb2);(try clear hk);(try clear hi))|(go_at_call 7;(with_reducible refine (ancepsref41_FewTables.calls k _ _ l0 true _ ?side1 ?side2 A7.out).mono ?_);(case side1=>exact zC (Kd.C_below HR0.out HB.out));(case side2=>exact HC0.out);rintro e w12 ⟨rfl,hb⟩;replace HO1_0:=zA (Kd.V_below (zV HO1_0) hb);replace HO1_1:=zA (Kd.V_below (zV HO1_1) hb);replace BK73:=zA (zb BK73 hb);replace HB:=zA (below_step zB hb);(try clear hb);(try clear hb2);(try clear hk);(try clear hi);have hcz13_0:w12.cell? ⟨gb73,0,none⟩=some (.slice A1_0 l1_0.length c1_0):=(blk_cell BK73.out 0).trans rfl;have hcz13_1:w12.cell? ⟨gb73,1,none⟩=some (.slice A1_1 l1_1.length c1_1):=(blk_cell BK73.out 1).trans rfl;have hfz13_0:=blk_frozen BK73.out 0;have hfz13_1:=blk_frozen BK73.out 1)|(go_at_call 12;(with_reducible refine (ancepsref38_Few.calls _ _ l1_0 _ _ l1_1 t89 _ ?side1 ?side2 ?side3 ?side4 A9.out).mono ?_);(case side1=>exact zC (Kd.V_reads' HO1_0.out).2.2);(case side2=>exact (Kd.V_reads' HO1_0.out).2.1);(case side3=>exact zC (Kd.V_reads' HO1_1.out).2.2);(case side4=>exact (Kd.V_reads' HO1_1.out).2.1);rintro e w14 ⟨rfl,hb⟩;replace HO1_0:=zA (Kd.V_below (zV HO1_0) hb);replace HO1_1:=zA (Kd.V_below (zV HO1_1) hb);replace BK73:=zA (zb BK73 hb);replace HB:=zA (below_step zB hb);(try clear hb);(try clear hb2);(try clear hk);(try clear hi)))
   (try simp only [Act.put,zi,zs,zt]);have H:=HC10.out;clear HC10
   by_cases c15:t89=true
   ·subst c15
    have H1:((ancepslaw41_own.f k l0).bind fun t78=>((shared_Implied.f k t78 l1_0 l1_1).bind fun bt74=>((ancepsref41_Implied.f k l0 l1_0 l1_1).bind fun bt75=>(if (bt74.1 != bt75.1)=true then (if (bt74.1 == bt75.1)=true then (some (bt74.2 == bt75.2)) else (none)) else (if bt74.2=bt75.2 then (if bt74.1=true then ((ancepsref40_All.f k l0).bind fun bt79=>((ancepslaw41_own.f k l0).bind fun t80=>((some (([(⟨l1_0,l1_1⟩:S34)]:List (S34)):List (S34))).bind fun y76=>(if t80.length+y76.length<2932031007402 then ((ancepsref40_All.f k (t80++y76)).bind fun bt77=>(if bt79.2=0 then (if bt77.2=0 then (ancepslaw41_SharedImplied.l0 k l0 bt79.1 bt77.1 l1_0 (l1_0.length:Int) 0) else (some true)) else (some true))) else (none))))) else (if (bt74.1 == bt75.1)=true then (some (bt74.2 == bt75.2)) else (none))) else (if (bt74.1 == bt75.1)=true then (some (bt74.2 == bt75.2)) else (none)))))))=some r:=by rw [if_pos rfl] at H;exact H
    clear H;have H:=H1;clear H1;replace H:=Option.bind_eq_some_iff.mp H;obtain ⟨t78,A160,H⟩:=H;replace H:((shared_Implied.f k t78 l1_0 l1_1).bind fun bt74=>((ancepsref41_Implied.f k l0 l1_0 l1_1).bind fun bt75=>(if (bt74.1 != bt75.1)=true then (if (bt74.1 == bt75.1)=true then (some (bt74.2 == bt75.2)) else (none)) else (if bt74.2=bt75.2 then (if bt74.1=true then ((ancepsref40_All.f k l0).bind fun bt79=>((ancepslaw41_own.f k l0).bind fun t80=>((some (([(⟨l1_0,l1_1⟩:S34)]:List (S34)):List (S34))).bind fun y76=>(if t80.length+y76.length<2932031007402 then ((ancepsref40_All.f k (t80++y76)).bind fun bt77=>(if bt79.2=0 then (if bt77.2=0 then (ancepslaw41_SharedImplied.l0 k l0 bt79.1 bt77.1 l1_0 (l1_0.length:Int) 0) else (some true)) else (some true))) else (none))))) else (if (bt74.1 == bt75.1)=true then (some (bt74.2 == bt75.2)) else (none))) else (if (bt74.1 == bt75.1)=true then (some (bt74.2 == bt75.2)) else (none))))))=some r:=H;have A16:=zA A160;clear A160;replace H:=Option.bind_eq_some_iff.mp H;obtain ⟨⟨t74,t91⟩,A170,H⟩:=H;replace H:((ancepsref41_Implied.f k l0 l1_0 l1_1).bind fun bt75=>(if (t74 != bt75.1)=true then (if (t74 == bt75.1)=true then (some (t91 == bt75.2)) else (none)) else (if t91=bt75.2 then (if t74=true then ((ancepsref40_All.f k l0).bind fun bt79=>((ancepslaw41_own.f k l0).bind fun t80=>((some (([(⟨l1_0,l1_1⟩:S34)]:List (S34)):List (S34))).bind fun y76=>(if t80.length+y76.length<2932031007402 then ((ancepsref40_All.f k (t80++y76)).bind fun bt77=>(if bt79.2=0 then (if bt77.2=0 then (ancepslaw41_SharedImplied.l0 k l0 bt79.1 bt77.1 l1_0 (l1_0.length:Int) 0) else (some true)) else (some true))) else (none))))) else (if (t74 == bt75.1)=true then (some (t91 == bt75.2)) else (none))) else (if (t74 == bt75.1)=true then (some (t91 == bt75.2)) else (none)))))=some r:=H;have A17:=zA A170;clear A170;replace H:=Option.bind_eq_some_iff.mp H;obtain ⟨⟨t75,t94⟩,A180,H⟩:=H;replace H:(if (t74 != t75)=true then (if (t74 == t75)=true then (some (t91 == t94)) else (none)) else (if t91=t94 then (if t74=true then ((ancepsref40_All.f k l0).bind fun bt79=>((ancepslaw41_own.f k l0).bind fun t80=>((some (([(⟨l1_0,l1_1⟩:S34)]:List (S34)):List (S34))).bind fun y76=>(if t80.length+y76.length<2932031007402 then ((ancepsref40_All.f k (t80++y76)).bind fun bt77=>(if bt79.2=0 then (if bt77.2=0 then (ancepslaw41_SharedImplied.l0 k l0 bt79.1 bt77.1 l1_0 (l1_0.length:Int) 0) else (some true)) else (some true))) else (none))))) else (if (t74 == t75)=true then (some (t91 == t94)) else (none))) else (if (t74 == t75)=true then (some (t91 == t94)) else (none))))=some r:=H;have A18:=zA A180;clear A180;have HC19:=zA H;clear H
    try go_wp2
    replace HO1_0:=zA (Kd.V_drew HO1_0.out);replace HO1_1:=zA (Kd.V_drew HO1_1.out);replace BK73:=zA (blk_drew BK73.out);replace HB:=zA (below_drew1 HB.out);refine start_ (n:=9) (S:=fun w'=>w'.cell? ⟨gb73,0,none⟩=some (.slice A1_0 l1_0.length c1_0)∧w'.cell? ⟨gb73,1,none⟩=some (.slice A1_1 l1_1.length c1_1)) (ds:=[]) #[false,false,false,false,false,false,false,false,false] zK rfl rfl ⟨(blk_cell BK73.out 0).trans rfl,(blk_cell BK73.out 1).trans rfl⟩ (fun hHeld=>?_);refine with_tabW ancepslaw41_SharedImplied.tab3 ancepslaw41_SharedImplied.bits3 (fun HT_ HW_=>?_)
    generalize w14.drew=w20 at HO1_0 HO1_1 BK73 HB hHeld ⊢
    refine pure_ (i:=0) (N:=some 29) (v:=?_) (a':=?_) #[true,false,false,false,false,false,false,false,false] rfl rfl (any_of HT_.out zK) (fun _ _ _ h=>h) (Or.inl ⟨by rfl,?_⟩) ?_ ?_;rotate_left
    ·intro w'
     go_simp
     with_reducible rfl
    rotate_left
    ·simp only [Act.put,zi,zs,zt,i64_w,i32_w];rfl
    refine take_ (i:=2) (N:=some 31) (v:=?_) (a':=?_) #[true,false,true,false,false,false,false,false,false] rfl rfl (take_ofW HT_.out HW_.out zK) (fun _ _ _ h=>h) (Or.inl ⟨by rfl,?_⟩) hHeld ?_ ?_;rotate_left
    ·rintro w' ⟨s0,s1⟩
     go_simp
     with_reducible rfl
    rotate_left
    ·simp only [Act.put,zi,zs,zt,i64_w,i32_w];rfl
    refine one_ (i:=1) (N:=some 30) #[true,true,true,false,false,false,false,false,false] rfl rfl (one_of HT_.out zK) (by decide) (fun K hK=>?_);refine goes_ Try.func9 zK rfl #[.slice A0 l0.length c0] (by rfl) rfl rfl zM ?_
    with_reducible refine (ancepslaw41_own.calls k _ _ l0 t78 _ ?side1 ?side2 A16.out).mono ?_
    (case side1=>exact zC (Kd.C_below HR0.out HB.out));(case side2=>exact HC0.out);rintro e w21 ⟨v700,rfl,ho0,hb⟩;refine ⟨_,rfl,?_⟩;have HO85:=zA (Kd.N_lower (Kd.N_mono (ok':=fun k_=>((P1_0_ k_∨P1_1_ k_)∨w.heap.size≤k_)∧k_≠gb73) (Kd.S_N (Kd.S_bound ho0)) (fun k_ hk_=>⟨(.inr (Nat.le_trans (below_size zB) hk_.2.1)),(Kd.freshB (g:=gb73) (o:=.cells #[.slice A1_0 l1_0.length c1_0,.slice A1_1 l1_1.length c1_1] 34 (0,0)) (zk BK73) k_ hk_.2.1)⟩)) (below_size zB));replace HO1_0:=zA (Kd.V_elder' (zV HO1_0) (Kd.N_base (Kd.S_N ho0)) hb);replace HO1_1:=zA (Kd.V_elder' (zV HO1_1) (Kd.N_base (Kd.S_N ho0)) hb);replace BK73:=zA (zb BK73 hb);replace HB:=zA (below_step zB hb);(try clear hb);(try clear hb2);(try clear hk);(try clear hi);(try clear ho0);obtain ⟨Ao22,co22,eo22⟩:=Kd.N_slice HO85.out
    (first|subst eo22|(injection eo22 with f1_ f2_ f3_;have f4_:=f1_.symm;have f5_:=f3_.symm;clear f1_ f2_ f3_;subst f4_;subst f5_))
    refine hK.out _ _ ⟨(blk_cell BK73.out 0).trans rfl,(blk_cell BK73.out 1).trans rfl⟩ (fun hHeld=>?_);clear hK K;refine norm_ (a':=?_) ?_ ?_;rotate_left
    ·show Act.put _ (some 30) _=_
     simp only [Act.put,zi,zs,zt,i64_w,i32_w];rfl
    refine one_ (i:=3) (N:=some 32) #[true,true,true,true,false,false,false,false,false] rfl rfl (one_of HT_.out zK) (by decide) (fun K hK=>?_);refine goes_ Try.func13 zK rfl #[.slice Ao22 t78.length co22,.agg #[.slice A1_0 l1_0.length c1_0,.slice A1_1 l1_1.length c1_1]] (by rfl) rfl rfl zM ?_
    with_reducible refine (shared_Implied.calls k (fun k_=>(((P1_0_ k_∨P1_1_ k_)∨w.heap.size≤k_)∧k_≠gb73)) _ _ t78 (fun k_=>((((P1_0_ k_∨P1_1_ k_)∨w.heap.size≤k_)∧k_≠gb73)∧some k_≠(.slice Ao22 t78.length co22:Value).ownBlock)) _ _ l1_0 _ _ l1_1 t74 t91 _ ?side1 ?side2 ?side3 ?side4 A17.out).mono ?_
    (case side1=>exact Kd.N_V (HO85.out));(case side2=>exact HO1_0.out);(case side3=>exact zC (Kd.V_reads' HO1_1.out).2.2);(case side4=>exact (Kd.V_reads' HO1_1.out).2.1);rintro e w23 ⟨rfl,hb⟩;refine ⟨_,rfl,?_⟩;replace HO1_0:=zA (Kd.V_below (zV HO1_0) hb);replace HO1_1:=zA (Kd.V_below (zV HO1_1) hb);replace HO85:=zA (Kd.N_below (zN HO85) hb);replace BK73:=zA (zb BK73 hb);replace HB:=zA (below_step zB hb);(try clear hb);(try clear hb2);(try clear hk);(try clear hi);refine hK.out _ _ ⟨(blk_cell BK73.out 0).trans rfl,(blk_cell BK73.out 1).trans rfl⟩ (fun hHeld=>?_);clear hK K;refine norm_ (a':=?_) ?_ ?_;rotate_left
    ·show Act.put _ (some 32) _=_
     simp only [Act.put,zi,zs,zt,i64_w,i32_w];rfl
    refine pure_ (i:=4) (N:=some 28) (v:=?_) (a':=?_) #[true,true,true,true,true,false,false,false,false] rfl rfl (any_of HT_.out zK) (fun _ _ _ h=>h) (Or.inl ⟨by rfl,?_⟩) ?_ ?_;rotate_left
    ·intro w'
     go_simp
     with_reducible rfl
    rotate_left
    ·simp only [Act.put,zi,zs,zt,i64_w,i32_w];rfl
    refine pure_ (i:=5) (N:=some 33) (v:=?_) (a':=?_) #[true,true,true,true,true,true,false,false,false] rfl rfl (any_of HT_.out zK) (fun _ _ _ h=>h) (Or.inl ⟨by rfl,?_⟩) ?_ ?_;rotate_left
    ·intro w'
     go_simp
     with_reducible rfl
    rotate_left
    ·simp only [Act.put,zi,zs,zt,i64_w,i32_w];rfl
    refine pure_ (i:=6) (N:=some 34) (v:=?_) (a':=?_) #[true,true,true,true,true,true,true,false,false] rfl rfl (any_of HT_.out zK) (fun _ _ _ h=>h) (Or.inl ⟨by rfl,?_⟩) ?_ ?_;rotate_left
    ·intro w'
     go_simp
     with_reducible rfl
    rotate_left
    ·simp only [Act.put,zi,zs,zt,i64_w,i32_w];rfl
    refine pure_ (i:=7) (N:=some 5) (v:=?_) (a':=?_) #[true,true,true,true,true,true,true,true,false] rfl rfl (any_of HT_.out zK) (fun _ _ _ h=>h) (Or.inl ⟨by rfl,?_⟩) ?_ ?_;rotate_left
    ·intro w'
     go_simp
     with_reducible rfl
    rotate_left
    ·simp only [Act.put,zi,zs,zt,i64_w,i32_w];rfl
    refine pure_ (i:=8) (N:=some 6) (v:=?_) (a':=?_) #[true,true,true,true,true,true,true,true,true] rfl rfl (any_of HT_.out zK) (fun _ _ _ h=>h) (Or.inl ⟨by rfl,?_⟩) ?_ ?_;rotate_left
    ·intro w'
     go_simp
     with_reducible rfl
    rotate_left
    ·simp only [Act.put,zi,zs,zt,i64_w,i32_w];rfl
    refine done_ (done_of HT_.out zK) ?_;have hcz24_0:w23.cell? ⟨gb73,0,none⟩=some (.slice A1_0 l1_0.length c1_0):=(blk_cell BK73.out 0).trans rfl;have hcz24_1:w23.cell? ⟨gb73,1,none⟩=some (.slice A1_1 l1_1.length c1_1):=(blk_cell BK73.out 1).trans rfl;have hfz24_0:=blk_frozen BK73.out 0;have hfz24_1:=blk_frozen BK73.out 1
    go_upto_region 5 with (first|((with_reducible refine gate_callee (f:=14) rfl ?_);refine goesL_ (some 38) rfl rfl Try.func14 zK rfl #[.slice A0 l0.length c0,.agg #[.slice A1_0 l1_0.length c1_0,.slice A1_1 l1_1.length c1_1]] rfl zM ?_;(with_reducible refine (ancepsref41_Implied.calls k _ _ l0 _ _ l1_0 _ _ l1_1 t75 t94 _ ?side1 ?side2 ?side3 ?side4 ?side5 ?side6 A18.out).mono ?_);(case side1=>exact zC (Kd.C_below HR0.out HB.out));(case side2=>exact HC0.out);(case side3=>exact zC (Kd.V_reads' HO1_0.out).2.2);(case side4=>exact (Kd.V_reads' HO1_0.out).2.1);(case side5=>exact zC (Kd.V_reads' HO1_1.out).2.2);(case side6=>exact (Kd.V_reads' HO1_1.out).2.1);rintro e w25 ⟨rfl,hb⟩;refine ⟨_,rfl,?_⟩;replace HO1_0:=zA (Kd.V_below (zV HO1_0) hb);replace HO1_1:=zA (Kd.V_below (zV HO1_1) hb);replace HO85:=zA (Kd.N_below (zN HO85) hb);replace BK73:=zA (zb BK73 hb);replace HB:=zA (below_step zB hb);(try clear hb);(try clear hb2);(try clear hk);(try clear hi)))
    (try simp only [Act.put,zi,zs,zt]);have H:=HC19.out;clear HC19
    by_cases c26:(t74 != t75)=true
    ·rw [if_pos c26] at H;have c26b0:(t74 != t75)=true:=c26;(try (have c26b1:decide (t74=t75)=false:=by simpa using c26));(try (have c26b2:(t74 == t75)=false:=by simpa using c26));(try (have c26b3:¬ (t74=t75):=by simpa using c26));clear c26
     (first|rw [c26b0]|(simp only [i64_w,i32_w];rw [c26b0])|skip)
     (try rw [c26b1]);(try rw [c26b2]);(try rw [c26b3])
     by_cases c27:(t74 == t75)=true
     ·rw [if_pos c27] at H;have c27b0:(t74 == t75)=true:=c27;(try (have c27b1:decide (t74=t75)=true:=by simpa using c27));(try (have c27b2:(t74 == t75)=true:=by simpa using c27));exact absurd c27b0 (by simpa using c26b0)
     ·rw [if_neg c27] at H;exact absurd H (by simp)
    ·rw [if_neg c26] at H
     have c26b0:(t74 != t75)=false:=by simpa using c26
     (try (have c26b1:decide (t74=t75)=true:=by simpa using c26));(try (have c26b2:(t74 == t75)=true:=by simpa using c26));clear c26
     (first|rw [c26b0]|(simp only [i64_w,i32_w];rw [c26b0])|skip)
     (try rw [c26b1]);(try rw [c26b2])
     by_cases c28:t91=t94
     ·rw [if_pos c28] at H;have c28b0:(t91 == t94)=true:=beq_iff_eq.mpr c28;have c28b1:(t91 != t94)=false:=bne_eq_false_iff_eq.mpr c28;clear c28
      by_cases c29:t74=true
      ·subst c29
       have H1:((ancepsref40_All.f k l0).bind fun bt79=>((ancepslaw41_own.f k l0).bind fun t80=>((some (([(⟨l1_0,l1_1⟩:S34)]:List (S34)):List (S34))).bind fun y76=>(if t80.length+y76.length<2932031007402 then ((ancepsref40_All.f k (t80++y76)).bind fun bt77=>(if bt79.2=0 then (if bt77.2=0 then (ancepslaw41_SharedImplied.l0 k l0 bt79.1 bt77.1 l1_0 (l1_0.length:Int) 0) else (some true)) else (some true))) else (none)))))=some r:=by rw [if_pos rfl] at H;exact H
       clear H;have H:=H1;clear H1;replace H:=Option.bind_eq_some_iff.mp H;obtain ⟨⟨t79,t95⟩,A300,H⟩:=H;replace H:((ancepslaw41_own.f k l0).bind fun t80=>((some (([(⟨l1_0,l1_1⟩:S34)]:List (S34)):List (S34))).bind fun y76=>(if t80.length+y76.length<2932031007402 then ((ancepsref40_All.f k (t80++y76)).bind fun bt77=>(if t95=0 then (if bt77.2=0 then (ancepslaw41_SharedImplied.l0 k l0 t79 bt77.1 l1_0 (l1_0.length:Int) 0) else (some true)) else (some true))) else (none))))=some r:=H;have A30:=zA A300;clear A300;replace H:=Option.bind_eq_some_iff.mp H;obtain ⟨t80,A310,H⟩:=H;replace H:((some (([(⟨l1_0,l1_1⟩:S34)]:List (S34)):List (S34))).bind fun y76=>(if t80.length+y76.length<2932031007402 then ((ancepsref40_All.f k (t80++y76)).bind fun bt77=>(if t95=0 then (if bt77.2=0 then (ancepslaw41_SharedImplied.l0 k l0 t79 bt77.1 l1_0 (l1_0.length:Int) 0) else (some true)) else (some true))) else (none)))=some r:=H;have A31:=zA A310;clear A310
       obtain ⟨y76,hy76⟩:∃ y_:List (S34),y_=(([(⟨l1_0,l1_1⟩:S34)]:List (S34))):=⟨_,rfl⟩
       replace H:(if t80.length+y76.length<2932031007402 then ((ancepsref40_All.f k (t80++y76)).bind fun bt77=>(if t95=0 then (if bt77.2=0 then (ancepslaw41_SharedImplied.l0 k l0 t79 bt77.1 l1_0 (l1_0.length:Int) 0) else (some true)) else (some true))) else (none))=some r:=by first|(rw [hy76];with_reducible exact H)|(have H2_:=(Option.bind_some _ _).symm.trans H;rw [hy76];with_reducible exact H2_)|(have H2_:=(Option.bind_some _ _).symm.trans H;with_reducible exact H2_)|with_reducible exact H|(rw [hy76];exact H)|exact H
       have Ny76:=zA hy76;clear hy76
       by_cases c32:t80.length+y76.length<2932031007402
       ·rw [if_pos c32] at H;have LMc32:=zA c32;clear c32
        obtain ⟨y96,hy96⟩:∃ y_:List (S34),y_=(t80++y76):=⟨_,rfl⟩
        replace H:((ancepsref40_All.f k y96).bind fun bt77=>(if t95=0 then (if bt77.2=0 then (ancepslaw41_SharedImplied.l0 k l0 t79 bt77.1 l1_0 (l1_0.length:Int) 0) else (some true)) else (some true)))=some r:=by first|(rw [hy96];with_reducible exact H)|(have H2_:=(Option.bind_some _ _).symm.trans H;rw [hy96];with_reducible exact H2_)|(have H2_:=(Option.bind_some _ _).symm.trans H;with_reducible exact H2_)|with_reducible exact H|(rw [hy96];exact H)|exact H
        have Ny96:=zA hy96;clear hy96;replace H:=Option.bind_eq_some_iff.mp H;obtain ⟨⟨t77,t720⟩,A330,H⟩:=H;replace H:(if t95=0 then (if t720=0 then (ancepslaw41_SharedImplied.l0 k l0 t79 t77 l1_0 (l1_0.length:Int) 0) else (some true)) else (some true))=some r:=H;have A33:=zA A330;clear A330;have HC34:=zA H;clear H
        try go_wp2_with (first|((with_reducible refine gate_callee (f:=11) rfl ?_);refine goesL_ (some 63) rfl rfl Try.func11 zK rfl #[.slice A0 l0.length c0] rfl zM ?_;(with_reducible refine (ancepsref40_All.calls k _ _ l0 t79 t95 _ ?side1 ?side2 A30.out).mono ?_);(case side1=>exact zC (Kd.C_below HR0.out HB.out));(case side2=>exact HC0.out);rintro e w35 ⟨v81,rfl,ho0,hb⟩;refine ⟨_,rfl,?_⟩;have HO86:=zA (Kd.R_lower (Kd.R_newM (M:=fun k_=>(w.heap.size≤k_)) ho0 (below_size zB) (fun k_ h_=>h_)) (below_size zB));replace HO1_0:=zA (Kd.V_elder' (zV HO1_0) (Kd.R_base ho0) hb);replace HO1_1:=zA (Kd.V_elder' (zV HO1_1) (Kd.R_base ho0) hb);replace HO85:=zA (Kd.N_elder' (zN HO85) (Kd.R_base ho0) hb);replace BK73:=zA (zb BK73 hb);replace HB:=zA (below_step zB hb);(try clear hb);(try clear hb2);(try clear hk);(try clear hi);(try clear ho0)))
        replace HO1_0:=zA (Kd.V_drew HO1_0.out);replace HO1_1:=zA (Kd.V_drew HO1_1.out);replace HO85:=zA (Kd.N_drew HO85.out);replace HO86:=zA (Kd.R_drew HO86.out);replace BK73:=zA (blk_drew BK73.out);replace HB:=zA (below_drew1 HB.out);refine start_ (n:=11) (S:=fun w'=>w'.cell? ⟨gb73,0,none⟩=some (.slice A1_0 l1_0.length c1_0)∧w'.cell? ⟨gb73,1,none⟩=some (.slice A1_1 l1_1.length c1_1)) (ds:=[]) #[false,false,false,false,false,false,false,false,false,false,false] zK rfl rfl ⟨(blk_cell BK73.out 0).trans rfl,(blk_cell BK73.out 1).trans rfl⟩ (fun hHeld=>?_);refine with_tabW ancepslaw41_SharedImplied.tab8 ancepslaw41_SharedImplied.bits8 (fun HT_ HW_=>?_)
        generalize w35.drew=w36 at HO1_0 HO1_1 HO85 HO86 BK73 HB hHeld ⊢
        refine pure_ (i:=0) (N:=some 67) (v:=?_) (a':=?_) #[true,false,false,false,false,false,false,false,false,false,false] rfl rfl (any_of HT_.out zK) (fun _ _ _ h=>h) (Or.inl ⟨by rfl,?_⟩) ?_ ?_;rotate_left
        ·intro w'
         go_simp
         with_reducible rfl
        rotate_left
        ·simp only [Act.put,zi,zs,zt,i64_w,i32_w];rfl
        refine take_ (i:=2) (N:=some 69) (v:=?_) (a':=?_) #[true,false,true,false,false,false,false,false,false,false,false] rfl rfl (take_ofW HT_.out HW_.out zK) (fun _ _ _ h=>h) (Or.inl ⟨by rfl,?_⟩) hHeld ?_ ?_;rotate_left
        ·rintro w' ⟨s0,s1⟩
         go_simp
         with_reducible rfl
        rotate_left
        ·simp only [Act.put,zi,zs,zt,i64_w,i32_w];rfl
        refine join_ (σ:=Value×Value) 7 #[true,true,true,true,false,false,false,false,false,false,false] (fun s_=>[(68,s_.1),(70,s_.2)]) (fun s_ w'=>(w'.cell? ⟨gb73,0,none⟩=some (.slice A1_0 l1_0.length c1_0)∧w'.cell? ⟨gb73,1,none⟩=some (.slice A1_1 l1_1.length c1_1))∧(Kd.V (Kd.int .i64) 3 w' w.heap.size (fun k_=>((P1_0_ k_∨P1_1_ k_)∨w.heap.size≤k_)∧some k_≠(.slice Ao22 t78.length co22:Value).ownBlock∧some k_≠(v81:Value).ownBlock∧some k_≠(s_.1:Value).ownBlock∧some k_≠(s_.2:Value).ownBlock∧k_≠gb73) (.slice A1_0 l1_0.length c1_0) l1_0)∧(Kd.V (Kd.int .i64) 3 w' w.heap.size (fun k_=>((P1_0_ k_∨P1_1_ k_)∨w.heap.size≤k_)∧some k_≠(.slice Ao22 t78.length co22:Value).ownBlock∧some k_≠(v81:Value).ownBlock∧some k_≠(s_.1:Value).ownBlock∧some k_≠(s_.2:Value).ownBlock∧k_≠gb73) (.slice A1_1 l1_1.length c1_1) l1_1)∧(Kd.N k34 34 w' w.heap.size (fun k_=>((P1_0_ k_∨P1_1_ k_)∨w.heap.size≤k_)∧some k_≠(v81:Value).ownBlock∧some k_≠(s_.1:Value).ownBlock∧some k_≠(s_.2:Value).ownBlock∧k_≠gb73) (.slice Ao22 t78.length co22) t78)∧(Kd.R (Kd.int .i64) 3 w' w.heap.size (fun k_=>(w.heap.size≤k_)) v81 t79)∧(Kd.N k34 34 w' w.heap.size (fun k_=>((P1_0_ k_∨P1_1_ k_)∨w.heap.size≤k_)∧some k_≠(.slice Ao22 t78.length co22:Value).ownBlock∧some k_≠(v81:Value).ownBlock∧some k_≠(s_.2:Value).ownBlock∧k_≠gb73) s_.1 t80)∧(Kd.N k34 34 w' w.heap.size (fun k_=>((P1_0_ k_∨P1_1_ k_)∨w.heap.size≤k_)∧some k_≠(.slice Ao22 t78.length co22:Value).ownBlock∧some k_≠(v81:Value).ownBlock∧some k_≠(s_.1:Value).ownBlock∧k_≠gb73) s_.2 y76)∧(w'.heap[gb73]?=some (.cells #[.slice A1_0 l1_0.length c1_0,.slice A1_1 l1_1.length c1_1] 34 (0,0)))∧(Below w.heap.size w w')) ?_ ?_;rotate_left
        ·intro hCont;refine two_ (i:=1) (j:=3) (Ni:=some 68) (Nj:=some 70) #[true,true,true,false,false,false,false,false,false,false,false] #[true,false,true,true,false,false,false,false,false,false,false] rfl rfl rfl rfl (two_of HT_.out zK) (by decide) (by decide) (fun K hK=>?_) (fun K hK=>?_)
         ·skip;refine goes_ Try.func9 zK rfl #[.slice A0 l0.length c0] (by rfl) rfl rfl zM ?_
          with_reducible refine (ancepslaw41_own.calls k _ _ l0 t80 _ ?side1 ?side2 A31.out).mono ?_
          (case side1=>exact zC (Kd.C_below HR0.out HB.out));(case side2=>exact HC0.out);rintro e w37 ⟨v87,rfl,ho0,hb⟩;refine ⟨_,rfl,?_⟩;have HO97:=zA (Kd.N_lower (Kd.N_mono (ok':=fun k_=>((P1_0_ k_∨P1_1_ k_)∨w.heap.size≤k_)∧some k_≠(.slice Ao22 t78.length co22:Value).ownBlock∧some k_≠(v81:Value).ownBlock∧k_≠gb73) (Kd.S_N (Kd.S_bound ho0)) (fun k_ hk_=>⟨(.inr (Nat.le_trans (below_size zB) hk_.2.1)),(Kd.fresh' (Kd.N_lt (zN HO85)) k_ hk_.2.1),(Kd.fresh' (Kd.R_lt (zR HO86)) k_ hk_.2.1),(Kd.freshB (g:=gb73) (o:=.cells #[.slice A1_0 l1_0.length c1_0,.slice A1_1 l1_1.length c1_1] 34 (0,0)) (zk BK73) k_ hk_.2.1)⟩)) (below_size zB));replace HO1_0:=zA (Kd.V_elder' (zV HO1_0) (Kd.N_base (Kd.S_N ho0)) hb);replace HO1_1:=zA (Kd.V_elder' (zV HO1_1) (Kd.N_base (Kd.S_N ho0)) hb);replace HO85:=zA (Kd.N_elder' (zN HO85) (Kd.N_base (Kd.S_N ho0)) hb);replace HO86:=zA (Kd.R_below (zR HO86) hb);replace BK73:=zA (zb BK73 hb);replace HB:=zA (below_step zB hb);(try clear hb);(try clear hb2);(try clear hk);(try clear hi);(try clear ho0);refine hK.out _ _ ⟨(blk_cell BK73.out 0).trans rfl,(blk_cell BK73.out 1).trans rfl⟩ (fun hHeld=>?_);clear hK K;refine norm_ (a':=?_) ?_ ?_;rotate_left
          ·show Act.put _ (some 68) _=_
           simp only [Act.put,zi,zs,zt,i64_w,i32_w];rfl
          refine one_ (i:=3) (N:=some 70) #[true,true,true,true,false,false,false,false,false,false,false] rfl rfl (one_of HT_.out zK) (by decide) (fun K hK=>?_);refine Kd.N_lit_step k34 _ 34 ?hg (N':=70) ?hd (xs:=([(⟨l1_0,l1_1⟩:S34)]:List (S34))) (inner:=[.slice A1_0 l1_0.length c1_0,.slice A1_1 l1_1.length c1_1]) (ok:=(fun k_=>((P1_0_ k_∨P1_1_ k_)∨w.heap.size≤k_)∧some k_≠(.slice Ao22 t78.length co22:Value).ownBlock∧some k_≠(v81:Value).ownBlock∧some k_≠(v87:Value).ownBlock∧k_≠gb73)) (okp:=(fun k_=>((P1_0_ k_∨P1_1_ k_)∨w.heap.size≤k_)∧some k_≠(.slice Ao22 t78.length co22:Value).ownBlock∧some k_≠(v81:Value).ownBlock∧some k_≠(v87:Value).ownBlock∧k_≠gb73)) ?hr ?hp (fun _ hk=>hk) ((show ∀ k_,w37.heap.size≤k_→(fun k_=>((P1_0_ k_∨P1_1_ k_)∨w.heap.size≤k_)∧some k_≠(.slice Ao22 t78.length co22:Value).ownBlock∧some k_≠(v81:Value).ownBlock∧some k_≠(v87:Value).ownBlock∧k_≠gb73) k_ from fun k_ hk=>⟨(.inr (Nat.le_trans (below_size zB) hk)),Kd.fresh' (Kd.N_lt (zN HO85)) k_ hk,Kd.fresh' (Kd.R_lt (zR HO86)) k_ hk,Kd.fresh' (Kd.N_lt (zN HO97)) k_ hk,Kd.freshB (g:=gb73) (o:=.cells #[.slice A1_0 l1_0.length c1_0,.slice A1_1 l1_1.length c1_1] 34 (0,0)) (zk BK73) k_ hk⟩) _ (Nat.le_refl _)) (Below.refl _ _) (Nat.le_refl _) (by simp) ?_;(case hd=>rfl);(case hg=>rfl);(case hr=>first|(go_simp;done)|(go_simp;rfl));(case hp=>exact (Reps.c2 (show Kd.FK k34 _ _ (⟨l1_0,l1_1⟩:S34) [.slice A1_0 l1_0.length c1_0,.slice A1_1 l1_1.length c1_1] from (k34_mkF _ _ (⟨l1_0,l1_1⟩:S34) (Kd.V_reads' (Kd.V_mono (ok':=(fun k_=>((P1_0_ k_∨P1_1_ k_)∨w.heap.size≤k_)∧some k_≠(.slice Ao22 t78.length co22:Value).ownBlock∧some k_≠(v81:Value).ownBlock∧some k_≠(v87:Value).ownBlock∧k_≠gb73)) (HO1_0.out) (fun k_ hk=>⟨hk.1.1.1.1,⟨hk.1.1.2,⟨hk.1.2,⟨hk.2,hk.1.1.1.2⟩⟩⟩⟩))).2.1 (Kd.V_F (Kd.V_mono (ok':=(fun k_=>((P1_0_ k_∨P1_1_ k_)∨w.heap.size≤k_)∧some k_≠(.slice Ao22 t78.length co22:Value).ownBlock∧some k_≠(v81:Value).ownBlock∧some k_≠(v87:Value).ownBlock∧k_≠gb73)) (HO1_0.out) (fun k_ hk=>⟨hk.1.1.1.1,⟨hk.1.1.2,⟨hk.1.2,⟨hk.2,hk.1.1.1.2⟩⟩⟩⟩))) (Kd.V_reads' (Kd.V_mono (ok':=(fun k_=>((P1_0_ k_∨P1_1_ k_)∨w.heap.size≤k_)∧some k_≠(.slice Ao22 t78.length co22:Value).ownBlock∧some k_≠(v81:Value).ownBlock∧some k_≠(v87:Value).ownBlock∧k_≠gb73)) (HO1_1.out) (fun k_ hk=>⟨hk.1.1.1.1,⟨hk.1.1.2,⟨hk.1.2,⟨hk.2,hk.1.1.1.2⟩⟩⟩⟩))).2.1 (Kd.V_F (Kd.V_mono (ok':=(fun k_=>((P1_0_ k_∨P1_1_ k_)∨w.heap.size≤k_)∧some k_≠(.slice Ao22 t78.length co22:Value).ownBlock∧some k_≠(v81:Value).ownBlock∧some k_≠(v87:Value).ownBlock∧k_≠gb73)) (HO1_1.out) (fun k_ hk=>⟨hk.1.1.1.1,⟨hk.1.1.2,⟨hk.1.2,⟨hk.2,hk.1.1.1.2⟩⟩⟩⟩))))) (Reps.none _ _)));intro v714 w38 ho39 hb hg_ hnew_;clear hg_ hnew_
          (first|rw [← Ny76.out] at ho39|(simp only [Int.reduceToNat] at ho39;rw [← Ny76.out] at ho39))
          have HO93:=zA (Kd.N_lower ho39 (below_size zB));replace HO1_0:=zA (Kd.V_elder' (zV HO1_0) (Kd.N_base ho39) hb);replace HO1_1:=zA (Kd.V_elder' (zV HO1_1) (Kd.N_base ho39) hb);replace HO85:=zA (Kd.N_elder' (zN HO85) (Kd.N_base ho39) hb);replace HO86:=zA (Kd.R_below (zR HO86) hb);replace HO97:=zA (Kd.N_elder' (zN HO97) (Kd.N_base ho39) hb);replace BK73:=zA (zb BK73 hb);replace HB:=zA (below_step zB hb);clear hb ho39;refine hK.out _ _ ⟨(blk_cell BK73.out 0).trans rfl,(blk_cell BK73.out 1).trans rfl⟩ (fun hHeld=>?_);clear hK K;refine norm_ (a':=?_) ?_ ?_;rotate_left
          ·show Act.put _ (some 70) _=_
           simp only [Act.put,zi,zs,zt,i64_w,i32_w];rfl
          exact norm_ (by simp only [putAll,Act.put,zi,zs,zt]) (hCont (v87,v714) _ ⟨hHeld,(by (with_reducible repeat (first|apply Kd.V_alloc|apply Kd.V_drewN|apply Kd.V_drew));exact Kd.V_mono HO1_0.out (fun _ hk=>⟨hk.1.1.1.1.1,⟨hk.1.1.1.2,⟨hk.1.1.2,⟨hk.1.2,⟨hk.2,hk.1.1.1.1.2⟩⟩⟩⟩⟩)),(by (with_reducible repeat (first|apply Kd.V_alloc|apply Kd.V_drewN|apply Kd.V_drew));exact Kd.V_mono HO1_1.out (fun _ hk=>⟨hk.1.1.1.1.1,⟨hk.1.1.1.2,⟨hk.1.1.2,⟨hk.1.2,⟨hk.2,hk.1.1.1.1.2⟩⟩⟩⟩⟩)),(by (with_reducible repeat (first|apply Kd.N_alloc|apply Kd.N_drewN|apply Kd.N_drew));exact Kd.N_mono HO85.out (fun _ hk=>⟨hk.1.1.1.1,⟨hk.1.1.2,⟨hk.1.2,⟨hk.2,hk.1.1.1.2⟩⟩⟩⟩)),(by refine zr ?_;exact Kd.R_mono HO86.out (fun _ hk=>hk.1)),(by (with_reducible repeat (first|apply Kd.N_alloc|apply Kd.N_drewN|apply Kd.N_drew));exact Kd.N_mono HO97.out (fun _ hk=>⟨hk.1.1,⟨hk.1.2.1,⟨hk.1.2.2.1,⟨hk.2,hk.1.2.2.2⟩⟩⟩⟩)),(zN HO93),(zk BK73),zB⟩)
         ·skip;refine Kd.N_lit_step k34 _ 34 ?hg (N':=70) ?hd (xs:=([(⟨l1_0,l1_1⟩:S34)]:List (S34))) (inner:=[.slice A1_0 l1_0.length c1_0,.slice A1_1 l1_1.length c1_1]) (ok:=(fun k_=>((P1_0_ k_∨P1_1_ k_)∨w.heap.size≤k_)∧some k_≠(.slice Ao22 t78.length co22:Value).ownBlock∧some k_≠(v81:Value).ownBlock∧k_≠gb73)) (okp:=(fun k_=>((P1_0_ k_∨P1_1_ k_)∨w.heap.size≤k_)∧some k_≠(.slice Ao22 t78.length co22:Value).ownBlock∧some k_≠(v81:Value).ownBlock∧k_≠gb73)) ?hr ?hp (fun _ hk=>hk) ((show ∀ k_,w36.heap.size≤k_→(fun k_=>((P1_0_ k_∨P1_1_ k_)∨w.heap.size≤k_)∧some k_≠(.slice Ao22 t78.length co22:Value).ownBlock∧some k_≠(v81:Value).ownBlock∧k_≠gb73) k_ from fun k_ hk=>⟨(.inr (Nat.le_trans (below_size zB) hk)),Kd.fresh' (Kd.N_lt (zN HO85)) k_ hk,Kd.fresh' (Kd.R_lt (zR HO86)) k_ hk,Kd.freshB (g:=gb73) (o:=.cells #[.slice A1_0 l1_0.length c1_0,.slice A1_1 l1_1.length c1_1] 34 (0,0)) (zk BK73) k_ hk⟩) _ (Nat.le_refl _)) (Below.refl _ _) (Nat.le_refl _) (by simp) ?_;(case hd=>rfl);(case hg=>rfl);(case hr=>first|(go_simp;done)|(go_simp;rfl));(case hp=>exact (Reps.c2 (show Kd.FK k34 _ _ (⟨l1_0,l1_1⟩:S34) [.slice A1_0 l1_0.length c1_0,.slice A1_1 l1_1.length c1_1] from (k34_mkF _ _ (⟨l1_0,l1_1⟩:S34) (Kd.V_reads' (Kd.V_mono (ok':=(fun k_=>((P1_0_ k_∨P1_1_ k_)∨w.heap.size≤k_)∧some k_≠(.slice Ao22 t78.length co22:Value).ownBlock∧some k_≠(v81:Value).ownBlock∧k_≠gb73)) (HO1_0.out) (fun k_ hk=>⟨hk.1.1.1,⟨hk.1.2,⟨hk.2,hk.1.1.2⟩⟩⟩))).2.1 (Kd.V_F (Kd.V_mono (ok':=(fun k_=>((P1_0_ k_∨P1_1_ k_)∨w.heap.size≤k_)∧some k_≠(.slice Ao22 t78.length co22:Value).ownBlock∧some k_≠(v81:Value).ownBlock∧k_≠gb73)) (HO1_0.out) (fun k_ hk=>⟨hk.1.1.1,⟨hk.1.2,⟨hk.2,hk.1.1.2⟩⟩⟩))) (Kd.V_reads' (Kd.V_mono (ok':=(fun k_=>((P1_0_ k_∨P1_1_ k_)∨w.heap.size≤k_)∧some k_≠(.slice Ao22 t78.length co22:Value).ownBlock∧some k_≠(v81:Value).ownBlock∧k_≠gb73)) (HO1_1.out) (fun k_ hk=>⟨hk.1.1.1,⟨hk.1.2,⟨hk.2,hk.1.1.2⟩⟩⟩))).2.1 (Kd.V_F (Kd.V_mono (ok':=(fun k_=>((P1_0_ k_∨P1_1_ k_)∨w.heap.size≤k_)∧some k_≠(.slice Ao22 t78.length co22:Value).ownBlock∧some k_≠(v81:Value).ownBlock∧k_≠gb73)) (HO1_1.out) (fun k_ hk=>⟨hk.1.1.1,⟨hk.1.2,⟨hk.2,hk.1.1.2⟩⟩⟩))))) (Reps.none _ _)));intro v714 w37 ho38 hb hg_ hnew_;clear hg_ hnew_
          (first|rw [← Ny76.out] at ho38|(simp only [Int.reduceToNat] at ho38;rw [← Ny76.out] at ho38))
          have HO93:=zA (Kd.N_lower ho38 (below_size zB));replace HO1_0:=zA (Kd.V_elder' (zV HO1_0) (Kd.N_base ho38) hb);replace HO1_1:=zA (Kd.V_elder' (zV HO1_1) (Kd.N_base ho38) hb);replace HO85:=zA (Kd.N_elder' (zN HO85) (Kd.N_base ho38) hb);replace HO86:=zA (Kd.R_below (zR HO86) hb);replace BK73:=zA (zb BK73 hb);replace HB:=zA (below_step zB hb);clear hb ho38;refine hK.out _ _ ⟨(blk_cell BK73.out 0).trans rfl,(blk_cell BK73.out 1).trans rfl⟩ (fun hHeld=>?_);clear hK K;refine norm_ (a':=?_) ?_ ?_;rotate_left
          ·show Act.put _ (some 70) _=_
           simp only [Act.put,zi,zs,zt,i64_w,i32_w];rfl
          refine one_ (i:=1) (N:=some 68) #[true,true,true,true,false,false,false,false,false,false,false] rfl rfl (one_of HT_.out zK) (by decide) (fun K hK=>?_);refine goes_ Try.func9 zK rfl #[.slice A0 l0.length c0] (by rfl) rfl rfl zM ?_
          with_reducible refine (ancepslaw41_own.calls k _ _ l0 t80 _ ?side1 ?side2 A31.out).mono ?_
          (case side1=>exact zC (Kd.C_below HR0.out HB.out));(case side2=>exact HC0.out);rintro e w39 ⟨v87,rfl,ho0,hb⟩;refine ⟨_,rfl,?_⟩;have HO97:=zA (Kd.N_lower (Kd.N_mono (ok':=fun k_=>((P1_0_ k_∨P1_1_ k_)∨w.heap.size≤k_)∧some k_≠(.slice Ao22 t78.length co22:Value).ownBlock∧some k_≠(v81:Value).ownBlock∧some k_≠(v714:Value).ownBlock∧k_≠gb73) (Kd.S_N (Kd.S_bound ho0)) (fun k_ hk_=>⟨(.inr (Nat.le_trans (below_size zB) hk_.2.1)),(Kd.fresh' (Kd.N_lt (zN HO85)) k_ hk_.2.1),(Kd.fresh' (Kd.R_lt (zR HO86)) k_ hk_.2.1),(Kd.fresh' (Kd.N_lt (zN HO93)) k_ hk_.2.1),(Kd.freshB (g:=gb73) (o:=.cells #[.slice A1_0 l1_0.length c1_0,.slice A1_1 l1_1.length c1_1] 34 (0,0)) (zk BK73) k_ hk_.2.1)⟩)) (below_size zB));replace HO1_0:=zA (Kd.V_elder' (zV HO1_0) (Kd.N_base (Kd.S_N ho0)) hb);replace HO1_1:=zA (Kd.V_elder' (zV HO1_1) (Kd.N_base (Kd.S_N ho0)) hb);replace HO85:=zA (Kd.N_elder' (zN HO85) (Kd.N_base (Kd.S_N ho0)) hb);replace HO86:=zA (Kd.R_below (zR HO86) hb);replace HO93:=zA (Kd.N_elder' (zN HO93) (Kd.N_base (Kd.S_N ho0)) hb);replace BK73:=zA (zb BK73 hb);replace HB:=zA (below_step zB hb);(try clear hb);(try clear hb2);(try clear hk);(try clear hi);(try clear ho0);refine hK.out _ _ ⟨(blk_cell BK73.out 0).trans rfl,(blk_cell BK73.out 1).trans rfl⟩ (fun hHeld=>?_);clear hK K;refine norm_ (a':=?_) ?_ ?_;rotate_left
          ·show Act.put _ (some 68) _=_
           simp only [Act.put,zi,zs,zt,i64_w,i32_w];rfl
          exact norm_ (by simp only [putAll,Act.put,zi,zs,zt]) (hCont (v87,v714) _ ⟨hHeld,(by (with_reducible repeat (first|apply Kd.V_alloc|apply Kd.V_drewN|apply Kd.V_drew));exact Kd.V_mono HO1_0.out (fun _ hk=>⟨hk.1.1.1.1.1,⟨hk.1.1.1.2,⟨hk.1.1.2,⟨hk.2,⟨hk.1.2,hk.1.1.1.1.2⟩⟩⟩⟩⟩)),(by (with_reducible repeat (first|apply Kd.V_alloc|apply Kd.V_drewN|apply Kd.V_drew));exact Kd.V_mono HO1_1.out (fun _ hk=>⟨hk.1.1.1.1.1,⟨hk.1.1.1.2,⟨hk.1.1.2,⟨hk.2,⟨hk.1.2,hk.1.1.1.1.2⟩⟩⟩⟩⟩)),(by (with_reducible repeat (first|apply Kd.N_alloc|apply Kd.N_drewN|apply Kd.N_drew));exact Kd.N_mono HO85.out (fun _ hk=>⟨hk.1.1.1.1,⟨hk.1.1.2,⟨hk.2,⟨hk.1.2,hk.1.1.1.2⟩⟩⟩⟩)),(by refine zr ?_;exact Kd.R_mono HO86.out (fun _ hk=>hk.1)),(zN HO97),(by (with_reducible repeat (first|apply Kd.N_alloc|apply Kd.N_drewN|apply Kd.N_drew));exact Kd.N_mono HO93.out (fun _ hk=>⟨hk.1.1,⟨hk.1.2.1,⟨hk.1.2.2.1,⟨hk.2,hk.1.2.2.2⟩⟩⟩⟩)),(zk BK73),zB⟩)
        rintro ⟨v87,v714⟩ w40 ⟨hS_,h0_,h1_,h2_,h3_,h4_,h5_,h6_,h7_⟩
        have HO97:Aside0 (Kd.N k34 34 w40 w.heap.size (fun k_=>((P1_0_ k_∨P1_1_ k_)∨w.heap.size≤k_)∧some k_≠(.slice Ao22 t78.length co22:Value).ownBlock∧some k_≠(v81:Value).ownBlock∧some k_≠(v714:Value).ownBlock∧k_≠gb73) v87 t80):=⟨h4_⟩
        have HO93:Aside0 (Kd.N k34 34 w40 w.heap.size (fun k_=>((P1_0_ k_∨P1_1_ k_)∨w.heap.size≤k_)∧some k_≠(.slice Ao22 t78.length co22:Value).ownBlock∧some k_≠(v81:Value).ownBlock∧some k_≠(v87:Value).ownBlock∧k_≠gb73) v714 y76):=⟨h5_⟩
        replace HO1_0:Aside0 (Kd.V (Kd.int .i64) 3 w40 w.heap.size (fun k_=>((P1_0_ k_∨P1_1_ k_)∨w.heap.size≤k_)∧some k_≠(.slice Ao22 t78.length co22:Value).ownBlock∧some k_≠(v81:Value).ownBlock∧some k_≠(v87:Value).ownBlock∧some k_≠(v714:Value).ownBlock∧k_≠gb73) (.slice A1_0 l1_0.length c1_0) l1_0):=⟨h0_⟩
        replace HO1_1:Aside0 (Kd.V (Kd.int .i64) 3 w40 w.heap.size (fun k_=>((P1_0_ k_∨P1_1_ k_)∨w.heap.size≤k_)∧some k_≠(.slice Ao22 t78.length co22:Value).ownBlock∧some k_≠(v81:Value).ownBlock∧some k_≠(v87:Value).ownBlock∧some k_≠(v714:Value).ownBlock∧k_≠gb73) (.slice A1_1 l1_1.length c1_1) l1_1):=⟨h1_⟩
        replace HO85:Aside0 (Kd.N k34 34 w40 w.heap.size (fun k_=>((P1_0_ k_∨P1_1_ k_)∨w.heap.size≤k_)∧some k_≠(v81:Value).ownBlock∧some k_≠(v87:Value).ownBlock∧some k_≠(v714:Value).ownBlock∧k_≠gb73) (.slice Ao22 t78.length co22) t78):=⟨h2_⟩
        replace HO86:Aside0 (Kd.R (Kd.int .i64) 3 w40 w.heap.size (fun k_=>(w.heap.size≤k_)) v81 t79):=⟨h3_⟩
        replace BK73:Aside0 (w40.heap[gb73]?=some (.cells #[.slice A1_0 l1_0.length c1_0,.slice A1_1 l1_1.length c1_1] 34 (0,0))):=⟨h6_⟩
        replace HB:Aside0 (Below w.heap.size w w40):=⟨h7_⟩
        clear h0_ h1_ h2_ h3_ h4_ h5_ h6_ h7_;have hHeld:w40.cell? ⟨gb73,0,none⟩=some (.slice A1_0 l1_0.length c1_0)∧w40.cell? ⟨gb73,1,none⟩=some (.slice A1_1 l1_1.length c1_1):=hS_;obtain ⟨Ao42,co42,eo42⟩:=Kd.N_slice HO93.out
        (first|subst eo42|(injection eo42 with f1_ f2_ f3_;have f4_:=f1_.symm;have f5_:=f3_.symm;clear f1_ f2_ f3_;subst f4_;subst f5_))
        refine norm_ (a':=?_) ?_ ?_;rotate_left
        ·simp only [putAll,Act.put,zi,zs,zt];rfl
        refine one_ (i:=4) (N:=some 71) #[true,true,true,true,true,false,false,false,false,false,false] rfl rfl (one_of HT_.out zK) (by decide) (fun K hK=>?_);refine Kd.N_append_rows_step k34 (w0:=w) w.heap.size (by rfl) (.tmp 68) (.tmp 70) 22 34 (.agg #[(.slice none 0 0),(.slice none 0 0)]) 48 rfl Try.underlying22 info34 rfl (by decide) (by omega) v87 t80 y76 _ _ _ (fun k_=>((P1_0_ k_∨P1_1_ k_)∨w.heap.size≤k_)∧some k_≠(.slice Ao22 t78.length co22:Value).ownBlock∧some k_≠(v81:Value).ownBlock∧k_≠gb73) (fun k_=>((fun k_=>((P1_0_ k_∨P1_1_ k_)∨w.heap.size≤k_)∧some k_≠(.slice Ao22 t78.length co22:Value).ownBlock∧some k_≠(v81:Value).ownBlock∧k_≠gb73)) k_∧some k_≠(v87:Value).ownBlock) rfl rfl ?aO ?aR (fun _ hk=>hk) ?aF ?aB ?aS ?aL ?_;(case aR=>exact (by skip;exact Kd.N_F (Kd.N_mono (ok':=(fun k_=>((fun k_=>((P1_0_ k_∨P1_1_ k_)∨w.heap.size≤k_)∧some k_≠(.slice Ao22 t78.length co22:Value).ownBlock∧some k_≠(v81:Value).ownBlock∧k_≠gb73)) k_∧some k_≠(v87:Value).ownBlock)) (HO93.out) (fun k_ hk=>⟨⟨hk.1,⟨hk.2.1,⟨hk.2.2.1,hk.2.2.2.2⟩⟩⟩,hk.2.2.2.1⟩))));(case aB=>exact zB);(case aF=>exact (fun k_ hk=>⟨(.inr (Nat.le_trans (below_size zB) hk)),Kd.fresh' (Kd.N_lt (zN HO85)) k_ hk,Kd.fresh' (Kd.R_lt (zR HO86)) k_ hk,Kd.freshB (g:=gb73) (o:=.cells #[.slice A1_0 l1_0.length c1_0,.slice A1_1 l1_1.length c1_1] 34 (0,0)) (zk BK73) k_ hk⟩));(case aO=>exact (by (with_reducible repeat (first|apply Kd.N_alloc|apply Kd.N_drewN|apply Kd.N_drew));exact Kd.N_mono HO97.out (fun _ hk=>⟨hk.1,⟨hk.2.1,⟨hk.2.2.1,hk.2.2.2.2⟩⟩⟩)));(case aS=>exact (below_size zB));(case aL=>have:=LMc32.out;omega);intro v717 w41 ho hb hg hat;rw [← Ny96.out] at ho;have HO718:=zA (ho);replace HO1_0:=zA (Kd.V_afterv (ok:=(fun k_=>((P1_0_ k_∨P1_1_ k_)∨w.heap.size≤k_)∧some k_≠(.slice Ao22 t78.length co22:Value).ownBlock∧some k_≠(v81:Value).ownBlock∧some k_≠(.slice Ao42 y76.length co42:Value).ownBlock∧k_≠gb73)) (by (with_reducible repeat (first|apply Kd.V_alloc|apply Kd.V_drewN|apply Kd.V_drew));exact Kd.V_mono HO1_0.out (fun _ hk=>⟨⟨hk.1,⟨hk.2.1,⟨hk.2.2.1,⟨hk.2.2.2.2.1,hk.2.2.2.2.2⟩⟩⟩⟩,hk.2.2.2.1⟩)) hg hat);replace HO1_1:=zA (Kd.V_afterv (ok:=(fun k_=>((P1_0_ k_∨P1_1_ k_)∨w.heap.size≤k_)∧some k_≠(.slice Ao22 t78.length co22:Value).ownBlock∧some k_≠(v81:Value).ownBlock∧some k_≠(.slice Ao42 y76.length co42:Value).ownBlock∧k_≠gb73)) (by (with_reducible repeat (first|apply Kd.V_alloc|apply Kd.V_drewN|apply Kd.V_drew));exact Kd.V_mono HO1_1.out (fun _ hk=>⟨⟨hk.1,⟨hk.2.1,⟨hk.2.2.1,⟨hk.2.2.2.2.1,hk.2.2.2.2.2⟩⟩⟩⟩,hk.2.2.2.1⟩)) hg hat);replace BK73:=zA (blk_grown (g:=gb73) (o:=.cells #[.slice A1_0 l1_0.length c1_0,.slice A1_1 l1_1.length c1_1] 34 (0,0)) (zk BK73) hg (Kd.N_away HO97.out (fun _ hk=>hk.2.2.2.2)));replace HO85:=zA (Kd.N_afterv (ok:=(fun k_=>((P1_0_ k_∨P1_1_ k_)∨w.heap.size≤k_)∧some k_≠(v81:Value).ownBlock∧some k_≠(.slice Ao42 y76.length co42:Value).ownBlock∧k_≠gb73)) (by (with_reducible repeat (first|apply Kd.N_alloc|apply Kd.N_drewN|apply Kd.N_drew));exact Kd.N_mono HO85.out (fun _ hk=>⟨⟨hk.1,⟨hk.2.1,⟨hk.2.2.2.1,hk.2.2.2.2⟩⟩⟩,hk.2.2.1⟩)) hg hat);replace HO86:=zA (Kd.R_over' (zR HO86) (Kd.N_typed (zN HO97)) (by decide) hg);replace HO93:=zA (Kd.N_afterv (ok:=(fun k_=>((P1_0_ k_∨P1_1_ k_)∨w.heap.size≤k_)∧some k_≠(.slice Ao22 t78.length co22:Value).ownBlock∧some k_≠(v81:Value).ownBlock∧k_≠gb73)) (by (with_reducible repeat (first|apply Kd.N_alloc|apply Kd.N_drewN|apply Kd.N_drew));exact Kd.N_mono HO93.out (fun _ hk=>⟨⟨hk.1,⟨hk.2.1,⟨hk.2.2.1,hk.2.2.2.2⟩⟩⟩,hk.2.2.2.1⟩)) hg hat);replace HB:=zA (hb);clear HO97;clear ho hb hg hat;obtain ⟨Ao43,co43,eo43⟩:=Kd.N_slice HO718.out
        (first|subst eo43|(injection eo43 with f1_ f2_ f3_;have f4_:=f1_.symm;have f5_:=f3_.symm;clear f1_ f2_ f3_;subst f4_;subst f5_))
        refine hK.out _ _ ⟨(blk_cell BK73.out 0).trans rfl,(blk_cell BK73.out 1).trans rfl⟩ (fun hHeld=>?_);clear hK K;refine norm_ (a':=?_) ?_ ?_;rotate_left
        ·show Act.put _ (some 71) _=_
         simp only [Act.put,zi,zs,zt,i64_w,i32_w];rfl
        refine one_ (i:=5) (N:=some 72) #[true,true,true,true,true,true,false,false,false,false,false] rfl rfl (one_of HT_.out zK) (by decide) (fun K hK=>?_);refine goes_ Try.func11 zK rfl #[.slice Ao43 y96.length co43] (by rfl) rfl rfl zM ?_
        with_reducible refine (ancepsref40_All.calls k _ _ y96 t77 t720 _ ?side1 ?side2 A33.out).mono ?_
        (case side1=>exact zC (Kd.N_reads' HO718.out).2.2);(case side2=>exact (Kd.N_reads' HO718.out).2.1);rintro e w44 ⟨v721,rfl,ho0,hb⟩;refine ⟨_,rfl,?_⟩;have HO722:=zA (Kd.R_lower (Kd.R_new' (Kd.R_newM (M:=fun k_=>(w.heap.size≤k_)) ho0 (below_size zB) (fun k_ h_=>h_)) (Kd.R_lt (zR HO86))) (below_size zB));replace HO1_0:=zA (Kd.V_elder' (zV HO1_0) (Kd.R_base ho0) hb);replace HO1_1:=zA (Kd.V_elder' (zV HO1_1) (Kd.R_base ho0) hb);replace HO85:=zA (Kd.N_elder' (zN HO85) (Kd.R_base ho0) hb);replace HO86:=zA (Kd.R_elder' (zR HO86) (Kd.R_base ho0) hb);replace HO93:=zA (Kd.N_elder' (zN HO93) (Kd.R_base ho0) hb);replace HO718:=zA (Kd.N_elder' (zN HO718) (Kd.R_base ho0) hb);replace BK73:=zA (zb BK73 hb);replace HB:=zA (below_step zB hb);(try clear hb);(try clear hb2);(try clear hk);(try clear hi);(try clear ho0);refine hK.out _ _ ⟨(blk_cell BK73.out 0).trans rfl,(blk_cell BK73.out 1).trans rfl⟩ (fun hHeld=>?_);clear hK K;refine norm_ (a':=?_) ?_ ?_;rotate_left
        ·show Act.put _ (some 72) _=_
         simp only [Act.put,zi,zs,zt,i64_w,i32_w];rfl
        refine pure_ (i:=6) (N:=some 66) (v:=?_) (a':=?_) #[true,true,true,true,true,true,true,false,false,false,false] rfl rfl (any_of HT_.out zK) (fun _ _ _ h=>h) (Or.inl ⟨by rfl,?_⟩) ?_ ?_;rotate_left
        ·intro w'
         go_simp
         with_reducible rfl
        rotate_left
        ·simp only [Act.put,zi,zs,zt,i64_w,i32_w];rfl
        refine pure_ (i:=7) (N:=some 73) (v:=?_) (a':=?_) #[true,true,true,true,true,true,true,true,false,false,false] rfl rfl (any_of HT_.out zK) (fun _ _ _ h=>h) (Or.inl ⟨by rfl,?_⟩) ?_ ?_;rotate_left
        ·intro w'
         go_simp
         with_reducible rfl
        rotate_left
        ·simp only [Act.put,zi,zs,zt,i64_w,i32_w];rfl
        refine pure_ (i:=8) (N:=some 74) (v:=?_) (a':=?_) #[true,true,true,true,true,true,true,true,true,false,false] rfl rfl (any_of HT_.out zK) (fun _ _ _ h=>h) (Or.inl ⟨by rfl,?_⟩) ?_ ?_;rotate_left
        ·intro w'
         go_simp
         with_reducible rfl
        rotate_left
        ·simp only [Act.put,zi,zs,zt,i64_w,i32_w];rfl
        refine pure_ (i:=9) (N:=some 11) (v:=?_) (a':=?_) #[true,true,true,true,true,true,true,true,true,true,false] rfl rfl (any_of HT_.out zK) (fun _ _ _ h=>h) (Or.inl ⟨by rfl,?_⟩) ?_ ?_;rotate_left
        ·intro w'
         go_simp
         with_reducible rfl
        rotate_left
        ·simp only [Act.put,zi,zs,zt,i64_w,i32_w];rfl
        refine pure_ (i:=10) (N:=some 12) (v:=?_) (a':=?_) #[true,true,true,true,true,true,true,true,true,true,true] rfl rfl (any_of HT_.out zK) (fun _ _ _ h=>h) (Or.inl ⟨by rfl,?_⟩) ?_ ?_;rotate_left
        ·intro w'
         go_simp
         with_reducible rfl
        rotate_left
        ·simp only [Act.put,zi,zs,zt,i64_w,i32_w];rfl
        refine done_ (done_of HT_.out zK) ?_
        go_upto_region 9 with (fail)
        (try simp only [Act.put,zi,zs,zt]);have H:=HC34.out;clear HC34
        by_cases c45:t95=0
        ·rw [if_pos c45] at H;have c45b0:(t95 == 0)=true:=beq_iff_eq.mpr c45;have c45b1:(t95 != 0)=false:=bne_eq_false_iff_eq.mpr c45;clear c45
         (first|rw [c45b0]|(simp only [i64_w,i32_w];rw [c45b0])|skip)
         (try rw [c45b1])
         by_cases c46:t720=0
         ·rw [if_pos c46] at H;have c46b0:(t720 == 0)=true:=beq_iff_eq.mpr c46;have c46b1:(t720 != 0)=false:=bne_eq_false_iff_eq.mpr c46;clear c46;have H':=zA H;clear H;have hcz47_0:w44.cell? ⟨gb73,0,none⟩=some (.slice A1_0 l1_0.length c1_0):=(blk_cell BK73.out 0).trans rfl;have hcz47_1:w44.cell? ⟨gb73,1,none⟩=some (.slice A1_1 l1_1.length c1_1):=(blk_cell BK73.out 1).trans rfl;have hfz47_0:=blk_frozen BK73.out 0;have hfz47_1:=blk_frozen BK73.out 1
          go_wp2
          go_loopg [84] k (fun kq v84 w'=>∃ (x84_1:Int),v84=.int .i64 x84_1∧Aside0 (ancepslaw41_SharedImplied.l0 kq l0 t79 t77 l1_0 (l1_0.length:Int) x84_1=some r)∧Aside0 (kq≤k)∧Aside0 (Kd.R (Kd.int .i64) 3 w' w.heap.size (fun k_=>(w.heap.size≤k_)∧some k_≠(v721:Value).ownBlock) v81 t79)∧Aside0 (Kd.R (Kd.int .i64) 3 w' w.heap.size (fun k_=>(w.heap.size≤k_)∧some k_≠(v81:Value).ownBlock) v721 t77)∧Aside0 (Kd.V (Kd.int .i64) 3 w' w.heap.size (fun k_=>((P1_0_ k_∨P1_1_ k_)∨w.heap.size≤k_)∧some k_≠(v81:Value).ownBlock∧some k_≠(v721:Value).ownBlock∧k_≠gb73) (.slice A1_0 l1_0.length c1_0) l1_0)∧Aside0 (Kd.V (Kd.int .i64) 3 w' w.heap.size (fun k_=>((P1_0_ k_∨P1_1_ k_)∨w.heap.size≤k_)∧some k_≠(v81:Value).ownBlock∧some k_≠(v721:Value).ownBlock∧k_≠gb73) (.slice A1_0 l1_0.length c1_0) l1_0)∧Aside0 (Kd.V (Kd.int .i64) 3 w' w.heap.size (fun k_=>((P1_0_ k_∨P1_1_ k_)∨w.heap.size≤k_)∧some k_≠(v81:Value).ownBlock∧some k_≠(v721:Value).ownBlock∧k_≠gb73) (.slice A1_1 l1_1.length c1_1) l1_1)∧Aside0 (w'.heap[gb73]?=some (.cells #[(.slice A1_0 l1_0.length c1_0),(.slice A1_1 l1_1.length c1_1)] 34 (0,0)))∧Aside0 (Below w.heap.size w w'))
          case atStart=>exact ⟨(0),zT,H',⟨Nat.le_refl _⟩,⟨by refine zr ?_;exact HO86.out⟩,⟨by refine zr ?_;exact Kd.R_mono HO722.out (fun _ hk=>⟨hk.1.1,hk.2⟩)⟩,⟨by (with_reducible repeat (first|apply Kd.V_alloc|apply Kd.V_drewN|apply Kd.V_drew));exact Kd.V_mono HO1_0.out (fun _ hk=>⟨hk.1.1.1,⟨hk.1.1.2.2.1,⟨hk.2,hk.1.1.2.2.2.2⟩⟩⟩)⟩,⟨by (with_reducible repeat (first|apply Kd.V_alloc|apply Kd.V_drewN|apply Kd.V_drew));exact Kd.V_mono HO1_0.out (fun _ hk=>⟨hk.1.1.1,⟨hk.1.1.2.2.1,⟨hk.2,hk.1.1.2.2.2.2⟩⟩⟩)⟩,⟨by (with_reducible repeat (first|apply Kd.V_alloc|apply Kd.V_drewN|apply Kd.V_drew));exact Kd.V_mono HO1_1.out (fun _ hk=>⟨hk.1.1.1,⟨hk.1.1.2.2.1,⟨hk.2,hk.1.1.2.2.2.2⟩⟩⟩)⟩,⟨by refine zj ?_;exact BK73.out⟩,⟨zv1 HB GE73⟩⟩
          case round=>
           clear H'
           try clear c6
           try clear c8
           try clear c15
           try clear c26
           try clear c26b0
           try clear c26b1
           try clear c26b2
           try clear c28
           try clear c28b0
           try clear c28b1
           try clear c29
           try clear c32
           try clear c45
           try clear c45b0
           try clear c45b1
           try clear c46
           try clear c46b0
           try clear c46b1
           try clear hcz13_0
           try clear hcz13_1
           try clear hcz24_0
           try clear hcz24_1
           try clear hcz47_0
           try clear hcz47_1
           try clear hfz13_0
           try clear hfz13_1
           try clear hfz24_0
           try clear hfz24_1
           try clear hfz47_0
           try clear hfz47_1
           obtain ⟨x84_1,rfl,HA,HK1,HO_9,HO_11,HO_82,HO_104,HO_105,BK73,HB⟩:=hrel
           cases gk with
           | zero=>exact absurd HA.out (by simp [ancepslaw41_SharedImplied.l0])
           | succ k1=>
            have H:=HA.out;clear HA;simp only [ancepslaw41_SharedImplied.l0] at H
            by_cases c48:x84_1<(l1_0.length:Int)
            ·rw [if_pos c48] at H;have c48b0:decide (x84_1<(l1_0.length:Int))=true:=decide_eq_true c48;clear c48
             by_cases c49:0≤x84_1
             ·rw [if_pos c49] at H;have c49b0:decide (0≤x84_1)=true:=decide_eq_true c49;clear c49
              by_cases c50:x84_1<(l1_0.length:Int)
              ·rw [if_pos c50] at H;have c50b0:decide (x84_1<(l1_0.length:Int))=true:=decide_eq_true c50;clear c50;replace H:=Option.bind_eq_some_iff.mp H;obtain ⟨t724,A510,H⟩:=H;replace H:((slices_Contains_int_int.f k1 t724 (rd l1_0 x84_1)).bind fun t727=>(if t727=true then (ancepslaw41_SharedImplied.l0 k1 l0 t79 t77 l1_0 (l1_0.length:Int) (wrap64 (x84_1+1))) else (some (decide ((t77.length:Int)≥(t79.length:Int))))))=some r:=H;have A51:=zA A510;clear A510;replace H:=Option.bind_eq_some_iff.mp H;obtain ⟨t727,A520,H⟩:=H;replace H:(if t727=true then (ancepslaw41_SharedImplied.l0 k1 l0 t79 t77 l1_0 (l1_0.length:Int) (wrap64 (x84_1+1))) else (some (decide ((t77.length:Int)≥(t79.length:Int)))))=some r:=H;have A52:=zA A520;clear A520;have HC53:=zA H;clear H;have p98:0≤(x84_1:Int):=of_decide_eq_true zh;have q98:x84_1<(l1_0.length:Int):=of_decide_eq_true zh;obtain ⟨ad98,e98,hx98_0⟩:=Kd.at_int (Kd.V_reads' HO_82.out).2.2 x84_1 p98 q98
               cases e98
               replace p98:=eq_true p98;replace q98:=eq_true q98
               go_upto_if 92 with (first|((with_reducible refine gate_callee (f:=16) rfl ?_);refine goesL_ (some 89) rfl rfl Try.func16 zK rfl #[.slice A0 l0.length c0] rfl zM ?_;(with_reducible refine (ancepsref40_Vars.calls k1 _ _ l0 t724 _ ?side1 ?side2 A51.out).mono ?_);(case side1=>exact zC (Kd.C_below HR0.out HB.out));(case side2=>exact HC0.out);rintro e w54 ⟨v725,rfl,ho0,hb⟩;refine ⟨_,rfl,?_⟩;have HO726:=zA (Kd.R_lower (Kd.R_new' (Kd.R_new' (Kd.R_newM (M:=fun k_=>(w.heap.size≤k_)) ho0 (below_size zB) (fun k_ h_=>h_)) (Kd.R_lt (zR HO_9))) (Kd.R_lt (zR HO_11))) (below_size zB));replace HO_9:=zA (Kd.R_elder' (zR HO_9) (Kd.R_base ho0) hb);replace HO_11:=zA (Kd.R_elder' (zR HO_11) (Kd.R_base ho0) hb);replace HO_82:=zA (Kd.V_elder' (zV HO_82) (Kd.R_base ho0) hb);replace HO_104:=zA (Kd.V_elder' (zV HO_104) (Kd.R_base ho0) hb);replace HO_105:=zA (Kd.V_elder' (zV HO_105) (Kd.R_base ho0) hb);replace BK73:=zA (zb BK73 hb);replace HB:=zA (below_step zB hb);(try clear hb);(try clear hb2);(try clear hk);(try clear hi);(try clear ho0);obtain ⟨Ao55,co55,eo55⟩:=Kd.R_slice HO726.out;subst eo55)|((with_reducible refine gate_callee (f:=15) rfl ?_);refine goesL_ (some 91) rfl rfl Try.func15 zK rfl #[.slice Ao55 t724.length co55,.int .i64 (rd l1_0 x84_1)] rfl zM ?_;(with_reducible refine (slices_Contains_int_int.calls k1 _ _ t724 (rd l1_0 x84_1) t727 _ ?side1 ?side2 A52.out).mono ?_);(case side1=>exact zC (Kd.R_reads' HO726.out).2.2);(case side2=>exact (Kd.R_reads' HO726.out).2.1);rintro e w' ⟨rfl,⟨nd,rfl⟩⟩;refine ⟨_,rfl,?_⟩))
               (try simp only [Act.put,zi,zs,zt]);have H:=HC53.out;clear HC53
               by_cases c56:t727=true
               ·subst c56
                have H1:(ancepslaw41_SharedImplied.l0 k1 l0 t79 t77 l1_0 (l1_0.length:Int) (wrap64 (x84_1+1)))=some r:=by rw [if_pos rfl] at H;exact H
                clear H;have H:=H1;clear H1;have H':=zA H;clear H
                go_wp2
                go_roundg k1
                case measure=>have:=HK1.out;omega
                case rel=>exact ⟨(wrap64 (x84_1+1)),zT,H',⟨by have:=HK1.out;omega⟩,⟨by refine zr ?_;exact Kd.R_mono HO_9.out (fun _ hk=>⟨hk.1.1,hk.1.2⟩)⟩,⟨by refine zr ?_;exact Kd.R_mono HO_11.out (fun _ hk=>⟨hk.1.1,hk.1.2⟩)⟩,⟨by (with_reducible repeat (first|apply Kd.V_alloc|apply Kd.V_drewN|apply Kd.V_drew));exact Kd.V_mono HO_82.out (fun _ hk=>⟨hk.1.1,⟨hk.1.2.1,⟨hk.1.2.2.1,hk.1.2.2.2⟩⟩⟩)⟩,⟨by (with_reducible repeat (first|apply Kd.V_alloc|apply Kd.V_drewN|apply Kd.V_drew));exact Kd.V_mono HO_104.out (fun _ hk=>⟨hk.1.1,⟨hk.1.2.1,⟨hk.1.2.2.1,hk.1.2.2.2⟩⟩⟩)⟩,⟨by (with_reducible repeat (first|apply Kd.V_alloc|apply Kd.V_drewN|apply Kd.V_drew));exact Kd.V_mono HO_105.out (fun _ hk=>⟨hk.1.1,⟨hk.1.2.1,⟨hk.1.2.2.1,hk.1.2.2.2⟩⟩⟩)⟩,⟨by refine zj ?_;exact BK73.out⟩,⟨zv1 HB GE73⟩⟩
               ·replace c56:=Bool.eq_false_iff.mpr c56;subst c56
                have H1:(some (decide ((t77.length:Int)≥(t79.length:Int))))=some r:=by rw [if_neg (show ¬ (false=true) by decide)] at H;exact H
                clear H;have H:=H1;clear H1;obtain rfl:=Option.some.inj H;obtain ⟨Ao57,co57,eo57⟩:=Kd.R_slice HO_11.out;subst eo57;obtain ⟨Ao58,co58,eo58⟩:=Kd.R_slice HO_9.out;subst eo58
                go_wp2
                go_ret
                exact ⟨ze,zv1 HB GE73⟩
              ·rw [if_neg c50] at H;exact absurd H (by simp)
             ·rw [if_neg c49] at H;exact absurd H (by simp)
            ·rw [if_neg c48] at H;have c48b0:decide (x84_1<(l1_0.length:Int))=false:=decide_eq_false c48;clear c48;replace H:=Option.bind_eq_some_iff.mp H;obtain ⟨t728,A590,H⟩:=H;replace H:(some t728)=some r:=H;have A59:=zA A590;clear A590;obtain rfl:=Option.some.inj H;obtain ⟨Ao60,co60,eo60⟩:=Kd.R_slice HO_9.out;subst eo60;obtain ⟨Ao61,co61,eo61⟩:=Kd.R_slice HO_11.out;subst eo61
             go_wp2_with (first|((with_reducible refine gate_callee (f:=17) rfl ?_);refine goesL_ (some 101) rfl rfl Try.func17 zK rfl #[.slice Ao60 t79.length co60,.slice Ao61 t77.length co61] rfl zM ?_;(with_reducible refine (slices_Equal_int_int.calls k1 _ _ t79 _ _ t77 t728 _ ?side1 ?side2 ?side3 ?side4 A59.out).mono ?_);(case side1=>exact zC (Kd.R_reads' HO_9.out).2.2);(case side2=>exact (Kd.R_reads' HO_9.out).2.1);(case side3=>exact zC (Kd.R_reads' HO_11.out).2.2);(case side4=>exact (Kd.R_reads' HO_11.out).2.1);rintro e w' ⟨rfl,⟨nd,rfl⟩⟩;refine ⟨_,rfl,?_⟩))
             go_ret
             exact ⟨ze,zv1 HB GE73⟩
         ·rw [if_neg c46] at H;have c46b0:(t720 == 0)=false:=beq_eq_false_iff_ne.mpr c46;have c46b1:(t720 != 0)=true:=bne_iff_ne.mpr c46;obtain rfl:=Option.some.inj H
          go_wp2
          go_ret
          exact ⟨ze,zv1 HB GE73⟩
        ·rw [if_neg c45] at H;have c45b0:(t95 == 0)=false:=beq_eq_false_iff_ne.mpr c45;have c45b1:(t95 != 0)=true:=bne_iff_ne.mpr c45
         (first|rw [c45b0]|(simp only [i64_w,i32_w];rw [c45b0])|skip)
         (try rw [c45b1]);obtain rfl:=Option.some.inj H
         go_wp2
         go_ret
         exact ⟨ze,zv1 HB GE73⟩
       ·rw [if_neg c32] at H;exact absurd H (by simp)
      ·replace c29:=Bool.eq_false_iff.mpr c29;subst c29
       have H1:(if (false == t75)=true then (some (t91 == t94)) else (none))=some r:=by rw [if_neg (show ¬ (false=true) by decide)] at H;exact H
       clear H;have H:=H1;clear H1
       by_cases c62:(false == t75)=true
       ·rw [if_pos c62] at H;have c62b0:(false == t75)=true:=c62;(try (have c62b1:decide (false=t75)=true:=by simpa using c62));(try (have c62b2:(false == t75)=true:=by simpa using c62));clear c62;obtain rfl:=Option.some.inj H
        go_wp2
        go_ret
        exact ⟨ze,zv1 HB GE73⟩
       ·rw [if_neg c62] at H;exact absurd H (by simp)
     ·rw [if_neg c28] at H;have c28b0:(t91 == t94)=false:=beq_eq_false_iff_ne.mpr c28;have c28b1:(t91 != t94)=true:=bne_iff_ne.mpr c28
      by_cases c63:(t74 == t75)=true
      ·rw [if_pos c63] at H;have c63b0:(t74 == t75)=true:=c63;(try (have c63b1:decide (t74=t75)=true:=by simpa using c63));(try (have c63b2:(t74 == t75)=true:=by simpa using c63));clear c63;obtain rfl:=Option.some.inj H
       go_wp2
       go_ret
       exact ⟨ze,zv1 HB GE73⟩
      ·rw [if_neg c63] at H;exact absurd H (by simp)
   ·replace c15:=Bool.eq_false_iff.mpr c15;subst c15
    have H1:((ancepslaw41_awake.f k).bind fun t88=>(some t88))=some r:=by rw [if_neg (show ¬ (false=true) by decide)] at H;exact H
    clear H;have H:=H1;clear H1;replace H:=Option.bind_eq_some_iff.mp H;obtain ⟨t88,A640,H⟩:=H;replace H:(some t88)=some r:=H;have A64:=zA A640;clear A640;obtain rfl:=Option.some.inj H
    go_wp2_with (first|((with_reducible refine gate_callee (f:=6) rfl ?_);refine goesL_ (some 27) rfl rfl Try.func6 zK rfl #[] rfl zM ?_;(with_reducible refine (ancepslaw41_awake.calls k  t88 _ A64.out).mono ?_);rintro e w65 ⟨rfl,hb⟩;refine ⟨_,rfl,?_⟩;replace HO1_0:=zA (Kd.V_below (zV HO1_0) hb);replace HO1_1:=zA (Kd.V_below (zV HO1_1) hb);replace BK73:=zA (zb BK73 hb);replace HB:=zA (below_step zB hb);(try clear hb);(try clear hb2);(try clear hk);(try clear hi)))
    go_ret
    exact ⟨ze,zv1 HB GE73⟩
  ·replace c8:=Bool.eq_false_iff.mpr c8;subst c8
   have H1:((ancepslaw41_awake.f k).bind fun t92=>(some t92))=some r:=by rw [if_neg (show ¬ (false=true) by decide)] at H;exact H
   clear H;have H:=H1;clear H1;replace H:=Option.bind_eq_some_iff.mp H;obtain ⟨t92,A660,H⟩:=H;replace H:(some t92)=some r:=H;have A66:=zA A660;clear A660;obtain rfl:=Option.some.inj H
   go_wp2_with (first|((with_reducible refine gate_callee (f:=6) rfl ?_);refine goesL_ (some 15) rfl rfl Try.func6 zK rfl #[] rfl zM ?_;(with_reducible refine (ancepslaw41_awake.calls k  true _ A5.out).mono ?_);rintro e w67 ⟨rfl,hb⟩;refine ⟨_,rfl,?_⟩;replace HO1_0:=zA (Kd.V_below (zV HO1_0) hb);replace HO1_1:=zA (Kd.V_below (zV HO1_1) hb);replace BK73:=zA (zb BK73 hb);replace HB:=zA (below_step zB hb);(try clear hb);(try clear hb2);(try clear hk);(try clear hi))|(go_at_call 7;(with_reducible refine (ancepsref41_FewTables.calls k _ _ l0 false _ ?side1 ?side2 A7.out).mono ?_);(case side1=>exact zC (Kd.C_below HR0.out HB.out));(case side2=>exact HC0.out);rintro e w68 ⟨rfl,hb⟩;replace HO1_0:=zA (Kd.V_below (zV HO1_0) hb);replace HO1_1:=zA (Kd.V_below (zV HO1_1) hb);replace BK73:=zA (zb BK73 hb);replace HB:=zA (below_step zB hb);(try clear hb);(try clear hb2);(try clear hk);(try clear hi))|((with_reducible refine gate_callee (f:=6) rfl ?_);refine goesL_ (some 27) rfl rfl Try.func6 zK rfl #[] rfl zM ?_;(with_reducible refine (ancepslaw41_awake.calls k  t92 _ A66.out).mono ?_);rintro e w69 ⟨rfl,hb⟩;refine ⟨_,rfl,?_⟩;replace HO1_0:=zA (Kd.V_below (zV HO1_0) hb);replace HO1_1:=zA (Kd.V_below (zV HO1_1) hb);replace BK73:=zA (zb BK73 hb);replace HB:=zA (below_step zB hb);(try clear hb);(try clear hb2);(try clear hk);(try clear hi)))
   go_ret
   exact ⟨ze,zv1 HB GE73⟩
 ·replace c6:=Bool.eq_false_iff.mpr c6;subst c6
  have H1:((ancepslaw41_awake.f k).bind fun t731=>(some t731))=some r:=by rw [if_neg (show ¬ (false=true) by decide)] at H;exact H
  clear H;have H:=H1;clear H1;replace H:=Option.bind_eq_some_iff.mp H;obtain ⟨t731,A700,H⟩:=H;replace H:(some t731)=some r:=H;have A70:=zA A700;clear A700;obtain rfl:=Option.some.inj H
  go_wp2_with (first|((with_reducible refine gate_callee (f:=6) rfl ?_);refine goesL_ (some 15) rfl rfl Try.func6 zK rfl #[] rfl zM ?_;(with_reducible refine (ancepslaw41_awake.calls k  false _ A5.out).mono ?_);rintro e w71 ⟨rfl,hb⟩;refine ⟨_,rfl,?_⟩;replace HO1_0:=zA (Kd.V_below (zV HO1_0) hb);replace HO1_1:=zA (Kd.V_below (zV HO1_1) hb);replace BK73:=zA (zb BK73 hb);replace HB:=zA (below_step zB hb);(try clear hb);(try clear hb2);(try clear hk);(try clear hi))|((with_reducible refine gate_callee (f:=6) rfl ?_);refine goesL_ (some 27) rfl rfl Try.func6 zK rfl #[] rfl zM ?_;(with_reducible refine (ancepslaw41_awake.calls k  t731 _ A70.out).mono ?_);rintro e w72 ⟨rfl,hb⟩;refine ⟨_,rfl,?_⟩;replace HO1_0:=zA (Kd.V_below (zV HO1_0) hb);replace HO1_1:=zA (Kd.V_below (zV HO1_1) hb);replace BK73:=zA (zb BK73 hb);replace HB:=zA (below_step zB hb);(try clear hb);(try clear hb2);(try clear hk);(try clear hi)))
  go_ret
  exact ⟨ze,zv1 HB GE73⟩
end Go.Proofs.Ytngpkbbljnbojaa.I
