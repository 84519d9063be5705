import Derived.Test.YtngpkbbljnbojaaI0
import Derived.Test.YtngpkbbljnbojaaI5
import Derived.Test.YtngpkbbljnbojaaI6
import Derived.Test.YtngpkbbljnbojaaI7
import Derived.Test.YtngpkbbljnbojaaI10
namespace Go.Proofs.Ytngpkbbljnbojaa.I
open Go.RowKit Go.Proofs.YtngpkbbljnbojaaW.PrintWords Go.Proofs.YtngpkbbljnbojaaW.PrintLast Go.Proofs.YtngpkbbljnbojaaW.PrintMore
attribute [local go_sem] max2_int min2_int max_two min_two max_three min_three max_four min_four
set_option linter.unusedVariables false
set_option linter.unusedSimpArgs false
def ancepslaw41_awake.f (k:Nat) :Option (Bool):=(ancepslaw41_example.f).bind fun t68=>((shared_Linked.f k t68).bind fun bt78=>((shared_Implied.f k t68 (([0,2]:List Int)) (([1,2,3]:List Int))).bind fun bt79=>((ancepslaw41_example.f).bind fun t73=>(if t73.length<2932031007402 then ((some (t73++[(⟨(([0]:List Int)),(([1]:List Int))⟩:S34)]:List (S34))).bind fun y63=>((shared_All.f k y63).bind fun bt52=>((shared_Value.f k t68 0).bind fun bt67=>(if bt78.2=0 then (if bt79.2=0 then (if bt52.2=0 then (if bt67.2=0 then (if bt79.1=true then (if bt67.1=3 then (if (bt52.1.length:Int)=3 then ((shared_Check.f k y63 bt52.1).bind fun t74=>(if t74=true then ((api_Link.f k bt78.1 (([(⟨0,1,false⟩:S59),(⟨0,2,false⟩:S59),(⟨1,2,true⟩:S59)]:List (S59)))).bind fun t71=>(if t71=true then (if 0<(bt52.1.length:Int) then (if ((rd_T65 bt52.1 0).f1)=2 then (if 1<(bt52.1.length:Int) then (if ((rd_T65 bt52.1 1).f1)=1 then (if 2<(bt52.1.length:Int) then (some (((rd_T65 bt52.1 2).f1) == 1)) else (none)) else (none)) else (none)) else (none)) else (none)) else (none))) else (none))) else (none)) else (none)) else (none)) else (none)) else (none)) else (none)) else (none))))) else (none)))))
theorem ancepslaw41_awake.mono:∀ k,LeO (ancepslaw41_awake.f k) (ancepslaw41_awake.f (k+1)):=by
 intro  k
 unfold ancepslaw41_awake.f
 repeat' first
   | (with_reducible exact api_Link.mono _ _ _)
   | (with_reducible exact shared_All.mono _ _)
   | (with_reducible exact shared_Check.mono _ _ _)
   | (with_reducible exact shared_Implied.mono _ _ _ _)
   | (with_reducible exact shared_Linked.mono _ _)
   | (with_reducible exact shared_Value.mono _ _ _)
   | (with_reducible exact LeO.refl _)
   | (with_reducible exact LeO.none _)
   | (with_reducible refine LeO.ite ?_ ?_)
   | (with_reducible refine LeO.bind ?_ (fun _=>?_))
   | exact LeO.none _
   | refine LeO.ite ?_ ?_
   | refine LeO.bind ?_ (fun _=>?_)
set_option maxHeartbeats 8000000 in
set_option maxRecDepth 100000 in
theorem ancepslaw41_awake.calls (k:Nat)  (r:Bool) (w:World) (h:ancepslaw41_awake.f k =some r) :
  Calls Try.prog 6 #[] w fun e w'=>e=.returned (.bool r)∧Below w.heap.size w w':=by
 have hu34:=Try.underlying34;have hu59:=Try.underlying59;have hu3:=Try.underlying3;have HB:=zA (Below.refl w.heap.size w);have H:((ancepslaw41_example.f).bind fun t68=>((shared_Linked.f k t68).bind fun bt78=>((shared_Implied.f k t68 (([0,2]:List Int)) (([1,2,3]:List Int))).bind fun bt79=>((ancepslaw41_example.f).bind fun t73=>(if t73.length<2932031007402 then ((some (t73++[(⟨(([0]:List Int)),(([1]:List Int))⟩:S34)]:List (S34))).bind fun y63=>((shared_All.f k y63).bind fun bt52=>((shared_Value.f k t68 0).bind fun bt67=>(if bt78.2=0 then (if bt79.2=0 then (if bt52.2=0 then (if bt67.2=0 then (if bt79.1=true then (if bt67.1=3 then (if (bt52.1.length:Int)=3 then ((shared_Check.f k y63 bt52.1).bind fun t74=>(if t74=true then ((api_Link.f k bt78.1 (([(⟨0,1,false⟩:S59),(⟨0,2,false⟩:S59),(⟨1,2,true⟩:S59)]:List (S59)))).bind fun t71=>(if t71=true then (if 0<(bt52.1.length:Int) then (if ((rd_T65 bt52.1 0).f1)=2 then (if 1<(bt52.1.length:Int) then (if ((rd_T65 bt52.1 1).f1)=1 then (if 2<(bt52.1.length:Int) then (some (((rd_T65 bt52.1 2).f1) == 1)) else (none)) else (none)) else (none)) else (none)) else (none)) else (none))) else (none))) else (none)) else (none)) else (none)) else (none)) else (none)) else (none)) else (none))))) else (none))))))=some r:=h;clear h;replace H:=Option.bind_eq_some_iff.mp H;obtain ⟨t68,A10,H⟩:=H;replace H:((shared_Linked.f k t68).bind fun bt78=>((shared_Implied.f k t68 (([0,2]:List Int)) (([1,2,3]:List Int))).bind fun bt79=>((ancepslaw41_example.f).bind fun t73=>(if t73.length<2932031007402 then ((some (t73++[(⟨(([0]:List Int)),(([1]:List Int))⟩:S34)]:List (S34))).bind fun y63=>((shared_All.f k y63).bind fun bt52=>((shared_Value.f k t68 0).bind fun bt67=>(if bt78.2=0 then (if bt79.2=0 then (if bt52.2=0 then (if bt67.2=0 then (if bt79.1=true then (if bt67.1=3 then (if (bt52.1.length:Int)=3 then ((shared_Check.f k y63 bt52.1).bind fun t74=>(if t74=true then ((api_Link.f k bt78.1 (([(⟨0,1,false⟩:S59),(⟨0,2,false⟩:S59),(⟨1,2,true⟩:S59)]:List (S59)))).bind fun t71=>(if t71=true then (if 0<(bt52.1.length:Int) then (if ((rd_T65 bt52.1 0).f1)=2 then (if 1<(bt52.1.length:Int) then (if ((rd_T65 bt52.1 1).f1)=1 then (if 2<(bt52.1.length:Int) then (some (((rd_T65 bt52.1 2).f1) == 1)) else (none)) else (none)) else (none)) else (none)) else (none)) else (none))) else (none))) else (none)) else (none)) else (none)) else (none)) else (none)) else (none)) else (none))))) else (none)))))=some r:=H;have A1:=zA A10;clear A10;replace H:=Option.bind_eq_some_iff.mp H;obtain ⟨⟨t78,t90⟩,A20,H⟩:=H;replace H:((shared_Implied.f k t68 (([0,2]:List Int)) (([1,2,3]:List Int))).bind fun bt79=>((ancepslaw41_example.f).bind fun t73=>(if t73.length<2932031007402 then ((some (t73++[(⟨(([0]:List Int)),(([1]:List Int))⟩:S34)]:List (S34))).bind fun y63=>((shared_All.f k y63).bind fun bt52=>((shared_Value.f k t68 0).bind fun bt67=>(if t90=0 then (if bt79.2=0 then (if bt52.2=0 then (if bt67.2=0 then (if bt79.1=true then (if bt67.1=3 then (if (bt52.1.length:Int)=3 then ((shared_Check.f k y63 bt52.1).bind fun t74=>(if t74=true then ((api_Link.f k t78 (([(⟨0,1,false⟩:S59),(⟨0,2,false⟩:S59),(⟨1,2,true⟩:S59)]:List (S59)))).bind fun t71=>(if t71=true then (if 0<(bt52.1.length:Int) then (if ((rd_T65 bt52.1 0).f1)=2 then (if 1<(bt52.1.length:Int) then (if ((rd_T65 bt52.1 1).f1)=1 then (if 2<(bt52.1.length:Int) then (some (((rd_T65 bt52.1 2).f1) == 1)) else (none)) else (none)) else (none)) else (none)) else (none)) else (none))) else (none))) else (none)) else (none)) else (none)) else (none)) else (none)) else (none)) else (none))))) else (none))))=some r:=H;have A2:=zA A20;clear A20
 obtain ⟨y83,hy83⟩:∃ y_:List Int,y_=(([0,2]:List Int)):=⟨_,rfl⟩
 replace H:((shared_Implied.f k t68 y83 (([1,2,3]:List Int))).bind fun bt79=>((ancepslaw41_example.f).bind fun t73=>(if t73.length<2932031007402 then ((some (t73++[(⟨(([0]:List Int)),(([1]:List Int))⟩:S34)]:List (S34))).bind fun y63=>((shared_All.f k y63).bind fun bt52=>((shared_Value.f k t68 0).bind fun bt67=>(if t90=0 then (if bt79.2=0 then (if bt52.2=0 then (if bt67.2=0 then (if bt79.1=true then (if bt67.1=3 then (if (bt52.1.length:Int)=3 then ((shared_Check.f k y63 bt52.1).bind fun t74=>(if t74=true then ((api_Link.f k t78 (([(⟨0,1,false⟩:S59),(⟨0,2,false⟩:S59),(⟨1,2,true⟩:S59)]:List (S59)))).bind fun t71=>(if t71=true then (if 0<(bt52.1.length:Int) then (if ((rd_T65 bt52.1 0).f1)=2 then (if 1<(bt52.1.length:Int) then (if ((rd_T65 bt52.1 1).f1)=1 then (if 2<(bt52.1.length:Int) then (some (((rd_T65 bt52.1 2).f1) == 1)) else (none)) else (none)) else (none)) else (none)) else (none)) else (none))) else (none))) else (none)) else (none)) else (none)) else (none)) else (none)) else (none)) else (none))))) else (none))))=some r:=by first|(rw [hy83];with_reducible exact H)|(have H2_:=(Option.bind_some _ _).symm.trans H;rw [hy83];with_reducible exact H2_)|(have H2_:=(Option.bind_some _ _).symm.trans H;with_reducible exact H2_)|with_reducible exact H|(rw [hy83];exact H)|exact H
 have Ny83:=zA hy83;clear hy83
 obtain ⟨y84,hy84⟩:∃ y_:List Int,y_=(([1,2,3]:List Int)):=⟨_,rfl⟩
 replace H:((shared_Implied.f k t68 y83 y84).bind fun bt79=>((ancepslaw41_example.f).bind fun t73=>(if t73.length<2932031007402 then ((some (t73++[(⟨(([0]:List Int)),(([1]:List Int))⟩:S34)]:List (S34))).bind fun y63=>((shared_All.f k y63).bind fun bt52=>((shared_Value.f k t68 0).bind fun bt67=>(if t90=0 then (if bt79.2=0 then (if bt52.2=0 then (if bt67.2=0 then (if bt79.1=true then (if bt67.1=3 then (if (bt52.1.length:Int)=3 then ((shared_Check.f k y63 bt52.1).bind fun t74=>(if t74=true then ((api_Link.f k t78 (([(⟨0,1,false⟩:S59),(⟨0,2,false⟩:S59),(⟨1,2,true⟩:S59)]:List (S59)))).bind fun t71=>(if t71=true then (if 0<(bt52.1.length:Int) then (if ((rd_T65 bt52.1 0).f1)=2 then (if 1<(bt52.1.length:Int) then (if ((rd_T65 bt52.1 1).f1)=1 then (if 2<(bt52.1.length:Int) then (some (((rd_T65 bt52.1 2).f1) == 1)) else (none)) else (none)) else (none)) else (none)) else (none)) else (none))) else (none))) else (none)) else (none)) else (none)) else (none)) else (none)) else (none)) else (none))))) else (none))))=some r:=by first|(rw [hy84];with_reducible exact H)|(have H2_:=(Option.bind_some _ _).symm.trans H;rw [hy84];with_reducible exact H2_)|(have H2_:=(Option.bind_some _ _).symm.trans H;with_reducible exact H2_)|with_reducible exact H|(rw [hy84];exact H)|exact H
 have Ny84:=zA hy84;clear hy84;replace H:=Option.bind_eq_some_iff.mp H;obtain ⟨⟨t79,t94⟩,A30,H⟩:=H;replace H:((ancepslaw41_example.f).bind fun t73=>(if t73.length<2932031007402 then ((some (t73++[(⟨(([0]:List Int)),(([1]:List Int))⟩:S34)]:List (S34))).bind fun y63=>((shared_All.f k y63).bind fun bt52=>((shared_Value.f k t68 0).bind fun bt67=>(if t90=0 then (if t94=0 then (if bt52.2=0 then (if bt67.2=0 then (if t79=true then (if bt67.1=3 then (if (bt52.1.length:Int)=3 then ((shared_Check.f k y63 bt52.1).bind fun t74=>(if t74=true then ((api_Link.f k t78 (([(⟨0,1,false⟩:S59),(⟨0,2,false⟩:S59),(⟨1,2,true⟩:S59)]:List (S59)))).bind fun t71=>(if t71=true then (if 0<(bt52.1.length:Int) then (if ((rd_T65 bt52.1 0).f1)=2 then (if 1<(bt52.1.length:Int) then (if ((rd_T65 bt52.1 1).f1)=1 then (if 2<(bt52.1.length:Int) then (some (((rd_T65 bt52.1 2).f1) == 1)) else (none)) else (none)) else (none)) else (none)) else (none)) else (none))) else (none))) else (none)) else (none)) else (none)) else (none)) else (none)) else (none)) else (none))))) else (none)))=some r:=H;have A3:=zA A30;clear A30;replace H:=Option.bind_eq_some_iff.mp H;obtain ⟨t73,A40,H⟩:=H;replace H:(if t73.length<2932031007402 then ((some (t73++[(⟨(([0]:List Int)),(([1]:List Int))⟩:S34)]:List (S34))).bind fun y63=>((shared_All.f k y63).bind fun bt52=>((shared_Value.f k t68 0).bind fun bt67=>(if t90=0 then (if t94=0 then (if bt52.2=0 then (if bt67.2=0 then (if t79=true then (if bt67.1=3 then (if (bt52.1.length:Int)=3 then ((shared_Check.f k y63 bt52.1).bind fun t74=>(if t74=true then ((api_Link.f k t78 (([(⟨0,1,false⟩:S59),(⟨0,2,false⟩:S59),(⟨1,2,true⟩:S59)]:List (S59)))).bind fun t71=>(if t71=true then (if 0<(bt52.1.length:Int) then (if ((rd_T65 bt52.1 0).f1)=2 then (if 1<(bt52.1.length:Int) then (if ((rd_T65 bt52.1 1).f1)=1 then (if 2<(bt52.1.length:Int) then (some (((rd_T65 bt52.1 2).f1) == 1)) else (none)) else (none)) else (none)) else (none)) else (none)) else (none))) else (none))) else (none)) else (none)) else (none)) else (none)) else (none)) else (none)) else (none))))) else (none))=some r:=H;have A4:=zA A40;clear A40
 obtain ⟨y87,hy87⟩:∃ y_:List Int,y_=(([0]:List Int)):=⟨_,rfl⟩
 replace H:(if t73.length<2932031007402 then ((some (t73++[(⟨y87,(([1]:List Int))⟩:S34)]:List (S34))).bind fun y63=>((shared_All.f k y63).bind fun bt52=>((shared_Value.f k t68 0).bind fun bt67=>(if t90=0 then (if t94=0 then (if bt52.2=0 then (if bt67.2=0 then (if t79=true then (if bt67.1=3 then (if (bt52.1.length:Int)=3 then ((shared_Check.f k y63 bt52.1).bind fun t74=>(if t74=true then ((api_Link.f k t78 (([(⟨0,1,false⟩:S59),(⟨0,2,false⟩:S59),(⟨1,2,true⟩:S59)]:List (S59)))).bind fun t71=>(if t71=true then (if 0<(bt52.1.length:Int) then (if ((rd_T65 bt52.1 0).f1)=2 then (if 1<(bt52.1.length:Int) then (if ((rd_T65 bt52.1 1).f1)=1 then (if 2<(bt52.1.length:Int) then (some (((rd_T65 bt52.1 2).f1) == 1)) else (none)) else (none)) else (none)) else (none)) else (none)) else (none))) else (none))) else (none)) else (none)) else (none)) else (none)) else (none)) else (none)) else (none))))) else (none))=some r:=by first|(rw [hy87];with_reducible exact H)|(have H2_:=(Option.bind_some _ _).symm.trans H;rw [hy87];with_reducible exact H2_)|(have H2_:=(Option.bind_some _ _).symm.trans H;with_reducible exact H2_)|with_reducible exact H|(rw [hy87];exact H)|exact H
 have Ny87:=zA hy87;clear hy87
 obtain ⟨y89,hy89⟩:∃ y_:List Int,y_=(([1]:List Int)):=⟨_,rfl⟩
 replace H:(if t73.length<2932031007402 then ((some (t73++[(⟨y87,y89⟩:S34)]:List (S34))).bind fun y63=>((shared_All.f k y63).bind fun bt52=>((shared_Value.f k t68 0).bind fun bt67=>(if t90=0 then (if t94=0 then (if bt52.2=0 then (if bt67.2=0 then (if t79=true then (if bt67.1=3 then (if (bt52.1.length:Int)=3 then ((shared_Check.f k y63 bt52.1).bind fun t74=>(if t74=true then ((api_Link.f k t78 (([(⟨0,1,false⟩:S59),(⟨0,2,false⟩:S59),(⟨1,2,true⟩:S59)]:List (S59)))).bind fun t71=>(if t71=true then (if 0<(bt52.1.length:Int) then (if ((rd_T65 bt52.1 0).f1)=2 then (if 1<(bt52.1.length:Int) then (if ((rd_T65 bt52.1 1).f1)=1 then (if 2<(bt52.1.length:Int) then (some (((rd_T65 bt52.1 2).f1) == 1)) else (none)) else (none)) else (none)) else (none)) else (none)) else (none))) else (none))) else (none)) else (none)) else (none)) else (none)) else (none)) else (none)) else (none))))) else (none))=some r:=by first|(rw [hy89];with_reducible exact H)|(have H2_:=(Option.bind_some _ _).symm.trans H;rw [hy89];with_reducible exact H2_)|(have H2_:=(Option.bind_some _ _).symm.trans H;with_reducible exact H2_)|with_reducible exact H|(rw [hy89];exact H)|exact H
 have Ny89:=zA hy89;clear hy89
 by_cases c5:t73.length<2932031007402
 ·rw [if_pos c5] at H;have LMc5:=zA c5;clear c5
  obtain ⟨y63,hy63⟩:∃ y_:List (S34),y_=(t73++[(⟨y87,y89⟩:S34)]):=⟨_,rfl⟩
  replace H:((shared_All.f k y63).bind fun bt52=>((shared_Value.f k t68 0).bind fun bt67=>(if t90=0 then (if t94=0 then (if bt52.2=0 then (if bt67.2=0 then (if t79=true then (if bt67.1=3 then (if (bt52.1.length:Int)=3 then ((shared_Check.f k y63 bt52.1).bind fun t74=>(if t74=true then ((api_Link.f k t78 (([(⟨0,1,false⟩:S59),(⟨0,2,false⟩:S59),(⟨1,2,true⟩:S59)]:List (S59)))).bind fun t71=>(if t71=true then (if 0<(bt52.1.length:Int) then (if ((rd_T65 bt52.1 0).f1)=2 then (if 1<(bt52.1.length:Int) then (if ((rd_T65 bt52.1 1).f1)=1 then (if 2<(bt52.1.length:Int) then (some (((rd_T65 bt52.1 2).f1) == 1)) else (none)) else (none)) else (none)) else (none)) else (none)) else (none))) else (none))) else (none)) else (none)) else (none)) else (none)) else (none)) else (none)) else (none))))=some r:=by first|(rw [hy63];with_reducible exact H)|(have H2_:=(Option.bind_some _ _).symm.trans H;rw [hy63];with_reducible exact H2_)|(have H2_:=(Option.bind_some _ _).symm.trans H;with_reducible exact H2_)|with_reducible exact H|(rw [hy63];exact H)|exact H
  have Ny63:=zA hy63;clear hy63;replace H:=Option.bind_eq_some_iff.mp H;obtain ⟨⟨t52,t99⟩,A60,H⟩:=H;replace H:((shared_Value.f k t68 0).bind fun bt67=>(if t90=0 then (if t94=0 then (if t99=0 then (if bt67.2=0 then (if t79=true then (if bt67.1=3 then (if (t52.length:Int)=3 then ((shared_Check.f k y63 t52).bind fun t74=>(if t74=true then ((api_Link.f k t78 (([(⟨0,1,false⟩:S59),(⟨0,2,false⟩:S59),(⟨1,2,true⟩:S59)]:List (S59)))).bind fun t71=>(if t71=true then (if 0<(t52.length:Int) then (if ((rd_T65 t52 0).f1)=2 then (if 1<(t52.length:Int) then (if ((rd_T65 t52 1).f1)=1 then (if 2<(t52.length:Int) then (some (((rd_T65 t52 2).f1) == 1)) else (none)) else (none)) else (none)) else (none)) else (none)) else (none))) else (none))) else (none)) else (none)) else (none)) else (none)) else (none)) else (none)) else (none)))=some r:=H;have A6:=zA A60;clear A60;replace H:=Option.bind_eq_some_iff.mp H;obtain ⟨⟨t67,t604⟩,A70,H⟩:=H;replace H:(if t90=0 then (if t94=0 then (if t99=0 then (if t604=0 then (if t79=true then (if t67=3 then (if (t52.length:Int)=3 then ((shared_Check.f k y63 t52).bind fun t74=>(if t74=true then ((api_Link.f k t78 (([(⟨0,1,false⟩:S59),(⟨0,2,false⟩:S59),(⟨1,2,true⟩:S59)]:List (S59)))).bind fun t71=>(if t71=true then (if 0<(t52.length:Int) then (if ((rd_T65 t52 0).f1)=2 then (if 1<(t52.length:Int) then (if ((rd_T65 t52 1).f1)=1 then (if 2<(t52.length:Int) then (some (((rd_T65 t52 2).f1) == 1)) else (none)) else (none)) else (none)) else (none)) else (none)) else (none))) else (none))) else (none)) else (none)) else (none)) else (none)) else (none)) else (none)) else (none))=some r:=H;have A7:=zA A70;clear A70
  by_cases c8:t90=0
  ·rw [if_pos c8] at H;have c8b0:(t90 == 0)=true:=beq_iff_eq.mpr c8;have c8b1:(t90 != 0)=false:=bne_eq_false_iff_eq.mpr c8;clear c8
   by_cases c9:t94=0
   ·rw [if_pos c9] at H;have c9b0:(t94 == 0)=true:=beq_iff_eq.mpr c9;have c9b1:(t94 != 0)=false:=bne_eq_false_iff_eq.mpr c9;clear c9
    by_cases c10:t99=0
    ·rw [if_pos c10] at H;have c10b0:(t99 == 0)=true:=beq_iff_eq.mpr c10;have c10b1:(t99 != 0)=false:=bne_eq_false_iff_eq.mpr c10;clear c10
     by_cases c11:t604=0
     ·rw [if_pos c11] at H;have c11b0:(t604 == 0)=true:=beq_iff_eq.mpr c11;have c11b1:(t604 != 0)=false:=bne_eq_false_iff_eq.mpr c11;clear c11
      by_cases c12:t79=true
      ·subst c12
       have H1:(if t67=3 then (if (t52.length:Int)=3 then ((shared_Check.f k y63 t52).bind fun t74=>(if t74=true then ((api_Link.f k t78 (([(⟨0,1,false⟩:S59),(⟨0,2,false⟩:S59),(⟨1,2,true⟩:S59)]:List (S59)))).bind fun t71=>(if t71=true then (if 0<(t52.length:Int) then (if ((rd_T65 t52 0).f1)=2 then (if 1<(t52.length:Int) then (if ((rd_T65 t52 1).f1)=1 then (if 2<(t52.length:Int) then (some (((rd_T65 t52 2).f1) == 1)) else (none)) else (none)) else (none)) else (none)) else (none)) else (none))) else (none))) else (none)) else (none))=some r:=by rw [if_pos rfl] at H;exact H
       clear H;have H:=H1;clear H1
       by_cases c13:t67=3
       ·rw [if_pos c13] at H;have c13b0:(t67 == 3)=true:=beq_iff_eq.mpr c13;have c13b1:(t67 != 3)=false:=bne_eq_false_iff_eq.mpr c13;clear c13
        by_cases c14:(t52.length:Int)=3
        ·rw [if_pos c14] at H;have c14b0:((t52.length:Int) == 3)=true:=beq_iff_eq.mpr c14;have c14b1:((t52.length:Int) != 3)=false:=bne_eq_false_iff_eq.mpr c14;clear c14;replace H:=Option.bind_eq_some_iff.mp H;obtain ⟨t74,A150,H⟩:=H;replace H:(if t74=true then ((api_Link.f k t78 (([(⟨0,1,false⟩:S59),(⟨0,2,false⟩:S59),(⟨1,2,true⟩:S59)]:List (S59)))).bind fun t71=>(if t71=true then (if 0<(t52.length:Int) then (if ((rd_T65 t52 0).f1)=2 then (if 1<(t52.length:Int) then (if ((rd_T65 t52 1).f1)=1 then (if 2<(t52.length:Int) then (some (((rd_T65 t52 2).f1) == 1)) else (none)) else (none)) else (none)) else (none)) else (none)) else (none))) else (none))=some r:=H;have A15:=zA A150;clear A150;have HC16:=zA H;clear H
         go_enter Try.func6,Try.ntmps6
         go_upto_if 74 with (first|((with_reducible refine gate_callee (f:=20) rfl ?_);refine goesL_ (some 12) rfl rfl Try.func20 zK rfl #[] rfl zM ?_;(with_reducible refine (ancepslaw41_example.calls  t68 _ A1.out).mono ?_);rintro e w17 ⟨v573,rfl,ho0,hb⟩;refine ⟨_,rfl,?_⟩;have HO69:=zA (Kd.N_lower (Kd.N_mono (ok':=fun k_=>True) ho0 (fun k_ hk_=>trivial)) (below_size zB));replace HB:=zA (below_step zB hb);(try clear hb);(try clear hb2);(try clear hk);(try clear hi);(try clear ho0);obtain ⟨Ao18,co18,eo18⟩:=Kd.N_slice HO69.out;subst eo18)|((with_reducible refine gate_callee (f:=21) rfl ?_);refine goesL_ (some 15) rfl rfl Try.func21 zK rfl #[.slice Ao18 t68.length co18] rfl zM ?_;(with_reducible refine (shared_Linked.calls k _ _ t68 t78 t90 _ ?side1 ?side2 A2.out).mono ?_);(case side1=>exact zC (Kd.N_reads' HO69.out).2.2);(case side2=>exact (Kd.N_reads' HO69.out).2.1);rintro e w19 ⟨v96,rfl,ho0,hb⟩;refine ⟨_,rfl,?_⟩;have HO72:=zA (Kd.R_lower ho0 (below_size zB));replace HO69:=zA (Kd.N_elder' (zN HO69) (Kd.R_base ho0) hb);replace HB:=zA (below_step zB hb);(try clear hb);(try clear hb2);(try clear hk);(try clear hi);(try clear ho0))|((with_reducible refine gate_dst (N:=20) rfl ?_);(try (refine gate_guard (by rfl) ?_;dsimp only));refine Kd.R_lit (Kd.int .i64) _ 3 ?hg (N:=20) ?hd (xs:=([0,2]:List Int)) (inner:=[.int .i64 0,.int .i64 2]) (ok:=fun _=>True) (okp:=fun _=>True) ?hr ?hp (fun _ hk=>hk) trivial (Below.refl _ _) (Nat.le_refl _) (by simp) ?_;(case hd=>rfl);(case hg=>rfl);(case hr=>first|(go_simp;done)|(go_simp;rfl));(case hp=>exact (Reps.one (show Kd.M (Kd.int .i64) _ _ _ 0 [.int .i64 0] from rfl) (Reps.one (show Kd.M (Kd.int .i64) _ _ _ 2 [.int .i64 2] from rfl) (Reps.none _ _))));intro v580 w20 ho21 hb hg_ hnew_;clear hg_ hnew_;(first|rw [← Ny83.out] at ho21|(simp only [Int.reduceToNat] at ho21;rw [← Ny83.out] at ho21));have HO77:=zA (Kd.R_lower ho21 (below_size zB));replace HO69:=zA (Kd.N_elder' (zN HO69) (Kd.R_base ho21) hb);replace HO72:=zA (Kd.R_below (zR HO72) hb);replace HB:=zA (below_step zB hb);clear hb ho21)|((with_reducible refine gate_dst (N:=21) rfl ?_);(try (refine gate_guard (by rfl) ?_;dsimp only));refine Kd.R_lit (Kd.int .i64) _ 3 ?hg (N:=21) ?hd (xs:=([1,2,3]:List Int)) (inner:=[.int .i64 1,.int .i64 2,.int .i64 3]) (ok:=fun _=>True) (okp:=fun _=>True) ?hr ?hp (fun _ hk=>hk) trivial (Below.refl _ _) (Nat.le_refl _) (by simp) ?_;(case hd=>rfl);(case hg=>rfl);(case hr=>first|(go_simp;done)|(go_simp;rfl));(case hp=>exact (Reps.one (show Kd.M (Kd.int .i64) _ _ _ 1 [.int .i64 1] from rfl) (Reps.one (show Kd.M (Kd.int .i64) _ _ _ 2 [.int .i64 2] from rfl) (Reps.one (show Kd.M (Kd.int .i64) _ _ _ 3 [.int .i64 3] from rfl) (Reps.none _ _)))));intro v583 w22 ho23 hb hg_ hnew_;clear hg_ hnew_;(first|rw [← Ny84.out] at ho23|(simp only [Int.reduceToNat] at ho23;rw [← Ny84.out] at ho23));have HO80:=zA (Kd.R_lower (Kd.R_new' ho23 (Kd.R_lt (zR HO77))) (below_size zB));replace HO69:=zA (Kd.N_elder' (zN HO69) (Kd.R_base ho23) hb);replace HO72:=zA (Kd.R_below (zR HO72) hb);replace HO77:=zA (Kd.R_elder' (zR HO77) (Kd.R_base ho23) hb);replace HB:=zA (below_step zB hb);clear hb ho23;obtain ⟨Ao24,co24,eo24⟩:=Kd.R_slice HO80.out;subst eo24;obtain ⟨Ao25,co25,eo25⟩:=Kd.R_slice HO77.out;subst eo25)|((with_reducible refine gate_callee (f:=13) rfl ?_);refine goesL_ (some 23) rfl rfl Try.func13 zK rfl #[.slice Ao18 t68.length co18,.agg #[.slice Ao25 y83.length co25,.slice Ao24 y84.length co24]] rfl zM ?_;(with_reducible refine (shared_Implied.calls k (fun k_=>(((True∧some k_≠(v96:Value).ownBlock)∧some k_≠(.slice Ao25 y83.length co25:Value).ownBlock)∧some k_≠(.slice Ao24 y84.length co24:Value).ownBlock)) _ _ t68 (fun k_=>some k_=(.slice Ao25 y83.length co25:Value).ownBlock) _ _ y83 _ _ y84 true t94 _ ?side1 ?side2 ?side3 ?side4 A3.out).mono ?_);(case side1=>exact Kd.N_V (HO69.out));(case side2=>exact Kd.R_V (Kd.R_tight rfl (Kd.R_apart' (Kd.R_apart' (HO77.out) (Kd.N_typed HO69.out) (by decide)) (Kd.R_typed HO72.out) (by decide))));(case side3=>exact zC (Kd.R_reads' HO80.out).2.2);(case side4=>exact (Kd.R_reads' HO80.out).2.1);rintro e w26 ⟨rfl,hb⟩;refine ⟨_,rfl,?_⟩;replace HO69:=zA (Kd.N_below (zN HO69) hb);replace HO72:=zA (Kd.R_below (zR HO72) hb);replace HO77:=zA (Kd.R_below (zR HO77) hb);replace HO80:=zA (Kd.R_below (zR HO80) hb);replace HB:=zA (below_step zB hb);(try clear hb);(try clear hb2);(try clear hk);(try clear hi))|((with_reducible refine gate_callee (f:=20) rfl ?_);refine goesL_ (some 26) rfl rfl Try.func20 zK rfl #[] rfl zM ?_;(with_reducible refine (ancepslaw41_example.calls  t73 _ A4.out).mono ?_);rintro e w27 ⟨v588,rfl,ho0,hb⟩;refine ⟨_,rfl,?_⟩;have HO92:=zA (Kd.N_lower (Kd.N_mono (ok':=fun k_=>some k_≠(.slice Ao18 t68.length co18:Value).ownBlock∧some k_≠(v96:Value).ownBlock∧some k_≠(.slice Ao25 y83.length co25:Value).ownBlock∧some k_≠(.slice Ao24 y84.length co24:Value).ownBlock) ho0 (fun k_ hk_=>⟨(Kd.fresh' (Kd.N_lt (zN HO69)) k_ hk_),(Kd.fresh' (Kd.R_lt (zR HO72)) k_ hk_),(Kd.fresh' (Kd.R_lt (zR HO77)) k_ hk_),(Kd.fresh' (Kd.R_lt (zR HO80)) k_ hk_)⟩)) (below_size zB));replace HO69:=zA (Kd.N_elder' (zN HO69) (Kd.N_base ho0) hb);replace HO72:=zA (Kd.R_below (zR HO72) hb);replace HO77:=zA (Kd.R_below (zR HO77) hb);replace HO80:=zA (Kd.R_below (zR HO80) hb);replace HB:=zA (below_step zB hb);(try clear hb);(try clear hb2);(try clear hk);(try clear hi);(try clear ho0))|((with_reducible refine gate_dst (N:=27) rfl ?_);(try (refine gate_guard (by rfl) ?_;dsimp only));refine Kd.R_lit (Kd.int .i64) _ 3 ?hg (N:=27) ?hd (xs:=([0]:List Int)) (inner:=[.int .i64 0]) (ok:=fun _=>True) (okp:=fun _=>True) ?hr ?hp (fun _ hk=>hk) trivial (Below.refl _ _) (Nat.le_refl _) (by simp) ?_;(case hd=>rfl);(case hg=>rfl);(case hr=>first|(go_simp;done)|(go_simp;rfl));(case hp=>exact (Reps.one (show Kd.M (Kd.int .i64) _ _ _ 0 [.int .i64 0] from rfl) (Reps.none _ _)));intro v591 w28 ho29 hb hg_ hnew_;clear hg_ hnew_;(first|rw [← Ny87.out] at ho29|(simp only [Int.reduceToNat] at ho29;rw [← Ny87.out] at ho29));have HO97:=zA (Kd.R_lower (Kd.R_new' (Kd.R_new' ho29 (Kd.R_lt (zR HO77))) (Kd.R_lt (zR HO80))) (below_size zB));replace HO69:=zA (Kd.N_elder' (zN HO69) (Kd.R_base ho29) hb);replace HO72:=zA (Kd.R_below (zR HO72) hb);replace HO77:=zA (Kd.R_elder' (zR HO77) (Kd.R_base ho29) hb);replace HO80:=zA (Kd.R_elder' (zR HO80) (Kd.R_base ho29) hb);replace HO92:=zA (Kd.N_elder' (zN HO92) (Kd.R_base ho29) hb);replace HB:=zA (below_step zB hb);clear hb ho29)|((with_reducible refine gate_dst (N:=28) rfl ?_);(try (refine gate_guard (by rfl) ?_;dsimp only));refine Kd.R_lit (Kd.int .i64) _ 3 ?hg (N:=28) ?hd (xs:=([1]:List Int)) (inner:=[.int .i64 1]) (ok:=fun _=>True) (okp:=fun _=>True) ?hr ?hp (fun _ hk=>hk) trivial (Below.refl _ _) (Nat.le_refl _) (by simp) ?_;(case hd=>rfl);(case hg=>rfl);(case hr=>first|(go_simp;done)|(go_simp;rfl));(case hp=>exact (Reps.one (show Kd.M (Kd.int .i64) _ _ _ 1 [.int .i64 1] from rfl) (Reps.none _ _)));intro v594 w30 ho31 hb hg_ hnew_;clear hg_ hnew_;(first|rw [← Ny89.out] at ho31|(simp only [Int.reduceToNat] at ho31;rw [← Ny89.out] at ho31));have HO595:=zA (Kd.R_lower (Kd.R_new' (Kd.R_new' (Kd.R_new' ho31 (Kd.R_lt (zR HO77))) (Kd.R_lt (zR HO80))) (Kd.R_lt (zR HO97))) (below_size zB));replace HO69:=zA (Kd.N_elder' (zN HO69) (Kd.R_base ho31) hb);replace HO72:=zA (Kd.R_below (zR HO72) hb);replace HO77:=zA (Kd.R_elder' (zR HO77) (Kd.R_base ho31) hb);replace HO80:=zA (Kd.R_elder' (zR HO80) (Kd.R_base ho31) hb);replace HO92:=zA (Kd.N_elder' (zN HO92) (Kd.R_base ho31) hb);replace HO97:=zA (Kd.R_elder' (zR HO97) (Kd.R_base ho31) hb);replace HB:=zA (below_step zB hb);clear hb ho31;obtain ⟨Ao32,co32,eo32⟩:=Kd.R_slice HO595.out;subst eo32;obtain ⟨Ao33,co33,eo33⟩:=Kd.R_slice HO97.out;subst eo33)|((with_reducible refine gate_builtin (b:=.append) (xs:=#[.tmp 26,.tmp 30]) rfl ?_);(try (refine gate_guard (by rfl) ?_;dsimp only));at_builtin;refine Kd.N_append k34 (w0:=w) w.heap.size rfl (.tmp 26) (.tmp 30) 22 34 (.agg #[(.slice none 0 0),(.slice none 0 0)]) 48 rfl Try.underlying22 info34 rfl (by decide) (by omega) v588 t73 (⟨y87,y89⟩:S34) [.slice Ao33 y87.length co33,.slice Ao32 y89.length co32] (fun k_=>some k_≠(.slice Ao18 t68.length co18:Value).ownBlock∧some k_≠(v96:Value).ownBlock∧some k_≠(.slice Ao25 y83.length co25:Value).ownBlock∧some k_≠(.slice Ao24 y84.length co24:Value).ownBlock) (fun k_=>((fun k_=>some k_≠(.slice Ao18 t68.length co18:Value).ownBlock∧some k_≠(v96:Value).ownBlock∧some k_≠(.slice Ao25 y83.length co25:Value).ownBlock∧some k_≠(.slice Ao24 y84.length co24:Value).ownBlock)) k_∧some k_≠(v588:Value).ownBlock) rfl rfl ?aP (fun _ hk=>hk) ?aF ?aO ?aB ?aS ?aL ?_;(case aP=>exact (k34_mkF _ _ (⟨y87,y89⟩:S34) (Kd.R_reads' (Kd.R_mono (ok':=(fun k_=>((fun k_=>some k_≠(.slice Ao18 t68.length co18:Value).ownBlock∧some k_≠(v96:Value).ownBlock∧some k_≠(.slice Ao25 y83.length co25:Value).ownBlock∧some k_≠(.slice Ao24 y84.length co24:Value).ownBlock)) k_∧some k_≠(v588:Value).ownBlock)) (Kd.R_apart' (Kd.R_apart' (Kd.R_apart' (HO97.out) (Kd.N_typed HO69.out) (by decide)) (Kd.R_typed HO72.out) (by decide)) (Kd.N_typed HO92.out) (by decide)) (fun k_ hk=>⟨⟨hk.1.1.2,⟨hk.1.2,⟨hk.1.1.1.1.1.2,hk.1.1.1.1.2⟩⟩⟩,hk.2⟩))).2.1 (Kd.R_F (Kd.R_mono (ok':=(fun k_=>((fun k_=>some k_≠(.slice Ao18 t68.length co18:Value).ownBlock∧some k_≠(v96:Value).ownBlock∧some k_≠(.slice Ao25 y83.length co25:Value).ownBlock∧some k_≠(.slice Ao24 y84.length co24:Value).ownBlock)) k_∧some k_≠(v588:Value).ownBlock)) (Kd.R_apart' (Kd.R_apart' (Kd.R_apart' (HO97.out) (Kd.N_typed HO69.out) (by decide)) (Kd.R_typed HO72.out) (by decide)) (Kd.N_typed HO92.out) (by decide)) (fun k_ hk=>⟨⟨hk.1.1.2,⟨hk.1.2,⟨hk.1.1.1.1.1.2,hk.1.1.1.1.2⟩⟩⟩,hk.2⟩))) (Kd.R_reads' (Kd.R_mono (ok':=(fun k_=>((fun k_=>some k_≠(.slice Ao18 t68.length co18:Value).ownBlock∧some k_≠(v96:Value).ownBlock∧some k_≠(.slice Ao25 y83.length co25:Value).ownBlock∧some k_≠(.slice Ao24 y84.length co24:Value).ownBlock)) k_∧some k_≠(v588:Value).ownBlock)) (Kd.R_apart' (Kd.R_apart' (Kd.R_apart' (HO595.out) (Kd.N_typed HO69.out) (by decide)) (Kd.R_typed HO72.out) (by decide)) (Kd.N_typed HO92.out) (by decide)) (fun k_ hk=>⟨⟨hk.1.1.2,⟨hk.1.2,⟨hk.1.1.1.1.1.2,hk.1.1.1.1.2⟩⟩⟩,hk.2⟩))).2.1 (Kd.R_F (Kd.R_mono (ok':=(fun k_=>((fun k_=>some k_≠(.slice Ao18 t68.length co18:Value).ownBlock∧some k_≠(v96:Value).ownBlock∧some k_≠(.slice Ao25 y83.length co25:Value).ownBlock∧some k_≠(.slice Ao24 y84.length co24:Value).ownBlock)) k_∧some k_≠(v588:Value).ownBlock)) (Kd.R_apart' (Kd.R_apart' (Kd.R_apart' (HO595.out) (Kd.N_typed HO69.out) (by decide)) (Kd.R_typed HO72.out) (by decide)) (Kd.N_typed HO92.out) (by decide)) (fun k_ hk=>⟨⟨hk.1.1.2,⟨hk.1.2,⟨hk.1.1.1.1.1.2,hk.1.1.1.1.2⟩⟩⟩,hk.2⟩)))));(case aB=>exact zB);(case aF=>exact (fun k_ hk=>⟨Kd.fresh' (Kd.N_lt (zN HO69)) k_ hk,Kd.fresh' (Kd.R_lt (zR HO72)) k_ hk,Kd.fresh' (Kd.R_lt (zR HO77)) k_ hk,Kd.fresh' (Kd.R_lt (zR HO80)) k_ hk⟩));(case aO=>exact (by (with_reducible repeat (first|apply Kd.N_alloc|apply Kd.N_drewN|apply Kd.N_drew));exact Kd.N_mono HO92.out (fun _ hk=>⟨hk.1.1.1,⟨hk.1.1.2.1,⟨hk.1.1.2.2.1,hk.1.1.2.2.2⟩⟩⟩)));(case aS=>exact (below_size zB));(case aL=>have:=LMc5.out;omega);intro v597 w34 ho hb hg hat;rw [← Ny63.out] at ho;have HO91:=zA (ho);replace HO69:=zA (Kd.N_afterv (ok:=(fun k_=>some k_≠(v96:Value).ownBlock∧some k_≠(.slice Ao25 y83.length co25:Value).ownBlock∧some k_≠(.slice Ao24 y84.length co24:Value).ownBlock∧some k_≠(.slice Ao33 y87.length co33:Value).ownBlock∧some k_≠(.slice Ao32 y89.length co32:Value).ownBlock)) (by (with_reducible repeat (first|apply Kd.N_alloc|apply Kd.N_drewN|apply Kd.N_drew));exact Kd.N_mono HO69.out (fun _ hk=>⟨⟨hk.1.1.1.1.1.2,⟨hk.1.1.1.1.2,⟨hk.1.1.1.2,⟨hk.1.2,hk.2⟩⟩⟩⟩,hk.1.1.2⟩)) hg hat);replace HO72:=zA (Kd.R_over' (zR HO72) (Kd.N_typed (zN HO92)) (by decide) hg);replace HO77:=zA (Kd.R_over' (zR HO77) (Kd.N_typed (zN HO92)) (by decide) hg);replace HO80:=zA (Kd.R_over' (zR HO80) (Kd.N_typed (zN HO92)) (by decide) hg);replace HB:=zA (hb);clear HO92 HO97 HO595;clear ho hb hg hat;obtain ⟨Ao35,co35,eo35⟩:=Kd.N_slice HO91.out;subst eo35)|((with_reducible refine gate_callee (f:=22) rfl ?_);refine goesL_ (some 34) rfl rfl Try.func22 zK rfl #[.slice Ao35 y63.length co35] rfl zM ?_;(with_reducible refine (shared_All.calls k _ _ y63 t52 t99 _ ?side1 ?side2 A6.out).mono ?_);(case side1=>exact zC (Kd.N_reads' HO91.out).2.2);(case side2=>exact (Kd.N_reads' HO91.out).2.1);rintro e w36 ⟨v601,rfl,ho0,hb⟩;refine ⟨_,rfl,?_⟩;have HO85:=zA (Kd.N_lower (Kd.N_mono (ok':=fun k_=>some k_≠(.slice Ao18 t68.length co18:Value).ownBlock∧some k_≠(v96:Value).ownBlock∧some k_≠(.slice Ao25 y83.length co25:Value).ownBlock∧some k_≠(.slice Ao24 y84.length co24:Value).ownBlock∧some k_≠(.slice Ao35 y63.length co35:Value).ownBlock) (Kd.S_N (Kd.S_bound ho0)) (fun k_ hk_=>⟨(Kd.fresh' (Kd.N_lt (zN HO69)) k_ hk_.2.1),(Kd.fresh' (Kd.R_lt (zR HO72)) k_ hk_.2.1),(Kd.fresh' (Kd.R_lt (zR HO77)) k_ hk_.2.1),(Kd.fresh' (Kd.R_lt (zR HO80)) k_ hk_.2.1),(Kd.fresh' (Kd.N_lt (zN HO91)) k_ hk_.2.1)⟩)) (below_size zB));replace HO69:=zA (Kd.N_elder' (zN HO69) (Kd.N_base (Kd.S_N ho0)) hb);replace HO72:=zA (Kd.R_below (zR HO72) hb);replace HO77:=zA (Kd.R_below (zR HO77) hb);replace HO80:=zA (Kd.R_below (zR HO80) hb);replace HO91:=zA (Kd.N_elder' (zN HO91) (Kd.N_base (Kd.S_N ho0)) hb);replace HB:=zA (below_step zB hb);(try clear hb);(try clear hb2);(try clear hk);(try clear hi);(try clear ho0))|((with_reducible refine gate_callee (f:=8) rfl ?_);refine goesL_ (some 39) rfl rfl Try.func8 zK rfl #[.slice Ao18 t68.length co18,.int .i64 0] rfl zM ?_;(with_reducible refine (shared_Value.calls k _ _ t68 0 t67 t604 _ ?side1 ?side2 A7.out).mono ?_);(case side1=>exact zC (Kd.N_reads' HO69.out).2.2);(case side2=>exact (Kd.N_reads' HO69.out).2.1);rintro e w37 ⟨rfl,hb⟩;refine ⟨_,rfl,?_⟩;replace HO69:=zA (Kd.N_below (zN HO69) hb);replace HO72:=zA (Kd.R_below (zR HO72) hb);replace HO77:=zA (Kd.R_below (zR HO77) hb);replace HO80:=zA (Kd.R_below (zR HO80) hb);replace HO91:=zA (Kd.N_below (zN HO91) hb);replace HO85:=zA (Kd.N_below (zN HO85) hb);replace HB:=zA (below_step zB hb);(try clear hb);(try clear hb2);(try clear hk);(try clear hi);obtain ⟨Ao38,co38,eo38⟩:=Kd.N_slice HO85.out;subst eo38)|(go_at_call 23;(with_reducible refine (shared_Check.calls k _ _ y63 _ _ t52 t74 _ ?side1 ?side2 ?side3 ?side4 A15.out).mono ?_);(case side1=>exact zC (Kd.N_reads' HO91.out).2.2);(case side2=>exact (Kd.N_reads' HO91.out).2.1);(case side3=>exact zC (Kd.N_reads' HO85.out).2.2);(case side4=>exact (Kd.N_reads' HO85.out).2.1);rintro e w39 ⟨rfl,hb⟩;replace HO69:=zA (Kd.N_below (zN HO69) hb);replace HO72:=zA (Kd.R_below (zR HO72) hb);replace HO77:=zA (Kd.R_below (zR HO77) hb);replace HO80:=zA (Kd.R_below (zR HO80) hb);replace HO91:=zA (Kd.N_below (zN HO91) hb);replace HO85:=zA (Kd.N_below (zN HO85) hb);replace HB:=zA (below_step zB hb);(try clear hb);(try clear hb2);(try clear hk);(try clear hi)))
         (try simp only [Act.put,zi,zs,zt]);have H:=HC16.out;clear HC16
         by_cases c40:t74=true
         ·subst c40
          have H1:((api_Link.f k t78 (([(⟨0,1,false⟩:S59),(⟨0,2,false⟩:S59),(⟨1,2,true⟩:S59)]:List (S59)))).bind fun t71=>(if t71=true then (if 0<(t52.length:Int) then (if ((rd_T65 t52 0).f1)=2 then (if 1<(t52.length:Int) then (if ((rd_T65 t52 1).f1)=1 then (if 2<(t52.length:Int) then (some (((rd_T65 t52 2).f1) == 1)) else (none)) else (none)) else (none)) else (none)) else (none)) else (none)))=some r:=by rw [if_pos rfl] at H;exact H
          clear H;have H:=H1;clear H1
          obtain ⟨y93,hy93⟩:∃ y_:List (S59),y_=(([(⟨0,1,false⟩:S59),(⟨0,2,false⟩:S59),(⟨1,2,true⟩:S59)]:List (S59))):=⟨_,rfl⟩
          replace H:((api_Link.f k t78 y93).bind fun t71=>(if t71=true then (if 0<(t52.length:Int) then (if ((rd_T65 t52 0).f1)=2 then (if 1<(t52.length:Int) then (if ((rd_T65 t52 1).f1)=1 then (if 2<(t52.length:Int) then (some (((rd_T65 t52 2).f1) == 1)) else (none)) else (none)) else (none)) else (none)) else (none)) else (none)))=some r:=by first|(rw [hy93];with_reducible exact H)|(have H2_:=(Option.bind_some _ _).symm.trans H;rw [hy93];with_reducible exact H2_)|(have H2_:=(Option.bind_some _ _).symm.trans H;with_reducible exact H2_)|with_reducible exact H|(rw [hy93];exact H)|exact H
          have Ny93:=zA hy93;clear hy93;replace H:=Option.bind_eq_some_iff.mp H;obtain ⟨t71,A410,H⟩:=H;replace H:(if t71=true then (if 0<(t52.length:Int) then (if ((rd_T65 t52 0).f1)=2 then (if 1<(t52.length:Int) then (if ((rd_T65 t52 1).f1)=1 then (if 2<(t52.length:Int) then (some (((rd_T65 t52 2).f1) == 1)) else (none)) else (none)) else (none)) else (none)) else (none)) else (none))=some r:=H;have A41:=zA A410;clear A410
          by_cases c42:t71=true
          ·subst c42
           have H1:(if 0<(t52.length:Int) then (if ((rd_T65 t52 0).f1)=2 then (if 1<(t52.length:Int) then (if ((rd_T65 t52 1).f1)=1 then (if 2<(t52.length:Int) then (some (((rd_T65 t52 2).f1) == 1)) else (none)) else (none)) else (none)) else (none)) else (none))=some r:=by rw [if_pos rfl] at H;exact H
           clear H;have H:=H1;clear H1
           by_cases c43:0<(t52.length:Int)
           ·rw [if_pos c43] at H;have c43b0:decide (0<(t52.length:Int))=true:=decide_eq_true c43;have c43b1:decide (0<t52.length)=true:=decide_eq_true (by omega);clear c43
            (first|rw [c43b0]|(simp only [i64_w,i32_w];rw [c43b0])|skip)
            (try rw [c43b1])
            by_cases c44:((rd_T65 t52 0).f1)=2
            ·rw [if_pos c44] at H;have c44b0:(((rd_T65 t52 0).f1) == 2)=true:=beq_iff_eq.mpr c44;have c44b1:(((rd_T65 t52 0).f1) != 2)=false:=bne_eq_false_iff_eq.mpr c44;clear c44
             by_cases c45:1<(t52.length:Int)
             ·rw [if_pos c45] at H;have c45b0:decide (1<(t52.length:Int))=true:=decide_eq_true c45;have c45b1:decide (1<t52.length)=true:=decide_eq_true (by omega);clear c45
              by_cases c46:((rd_T65 t52 1).f1)=1
              ·rw [if_pos c46] at H;have c46b0:(((rd_T65 t52 1).f1) == 1)=true:=beq_iff_eq.mpr c46;have c46b1:(((rd_T65 t52 1).f1) != 1)=false:=bne_eq_false_iff_eq.mpr c46;clear c46
               by_cases c47:2<(t52.length:Int)
               ·rw [if_pos c47] at H;have c47b0:decide (2<(t52.length:Int))=true:=decide_eq_true c47;have c47b1:decide (2<t52.length)=true:=decide_eq_true (by omega);clear c47;obtain rfl:=Option.some.inj H
                go_wp2_with (first|((with_reducible refine gate_dst (N:=78) rfl ?_);(try (refine gate_guard (by rfl) ?_;dsimp only));refine Kd.R_lit k59 _ 59 ?hg (N:=78) ?hd (xs:=([(⟨0,1,false⟩:S59),(⟨0,2,false⟩:S59),(⟨1,2,true⟩:S59)]:List (S59))) (inner:=[.int .i64 0,.int .i64 1,.bool false,.int .i64 0,.int .i64 2,.bool false,.int .i64 1,.int .i64 2,.bool true]) (ok:=fun _=>True) (okp:=fun _=>True) ?hr ?hp (fun _ hk=>hk) trivial (Below.refl _ _) (Nat.le_refl _) (by simp) ?_;(case hd=>rfl);(case hg=>rfl);(case hr=>first|(go_simp;done)|(go_simp;rfl));(case hp=>exact (Reps.c3 (show Kd.M k59 _ _ _ (⟨0,1,false⟩:S59) [.int .i64 0,.int .i64 1,.bool false] from (k59_mkM _ _ _ (⟨0,1,false⟩:S59))) (Reps.c3 (show Kd.M k59 _ _ _ (⟨0,2,false⟩:S59) [.int .i64 0,.int .i64 2,.bool false] from (k59_mkM _ _ _ (⟨0,2,false⟩:S59))) (Reps.c3 (show Kd.M k59 _ _ _ (⟨1,2,true⟩:S59) [.int .i64 1,.int .i64 2,.bool true] from (k59_mkM _ _ _ (⟨1,2,true⟩:S59))) (Reps.none _ _)))));intro v607 w48 ho49 hb hg_ hnew_;clear hg_ hnew_;(first|rw [← Ny93.out] at ho49|(simp only [Int.reduceToNat] at ho49;rw [← Ny93.out] at ho49));have HO608:=zA (Kd.R_lower (Kd.R_new' ho49 (Kd.R_lt (zR HO72))) (below_size zB));replace HO69:=zA (Kd.N_elder' (zN HO69) (Kd.R_base ho49) hb);replace HO72:=zA (Kd.R_elder' (zR HO72) (Kd.R_base ho49) hb);replace HO77:=zA (Kd.R_below (zR HO77) hb);replace HO80:=zA (Kd.R_below (zR HO80) hb);replace HO91:=zA (Kd.N_elder' (zN HO91) (Kd.R_base ho49) hb);replace HO85:=zA (Kd.N_elder' (zN HO85) (Kd.R_base ho49) hb);replace HB:=zA (below_step zB hb);clear hb ho49;obtain ⟨Ao50,co50,eo50⟩:=Kd.R_slice HO72.out;subst eo50;obtain ⟨Ao51,co51,eo51⟩:=Kd.R_slice HO608.out;subst eo51)|((with_reducible refine gate_callee (f:=24) rfl ?_);refine goesL_ (some 81) rfl rfl Try.func24 zK rfl #[.slice Ao50 t78.length co50,.slice Ao51 y93.length co51] rfl zM ?_;(with_reducible refine (api_Link.calls k _ _ t78 _ _ y93 true _ ?side1 ?side2 ?side3 ?side4 A41.out).mono ?_);(case side1=>exact zC (Kd.R_reads' HO72.out).2.2);(case side2=>exact (Kd.R_reads' HO72.out).2.1);(case side3=>exact zC (Kd.R_reads' HO608.out).2.2);(case side4=>exact (Kd.R_reads' HO608.out).2.1);rintro e w' ⟨rfl,⟨nd,rfl⟩⟩;refine ⟨_,rfl,?_⟩;have p55:0≤(0:Int):=(by omega);have q55:0<(t52.length:Int):=of_decide_eq_true zh;obtain ⟨ad55,A55_5,c55_5,e55,hx55_0,hx55_1,hx55_2,hx55_3,hx55_4,hx55_5,hl55_5,hi55_5⟩:=at_T65 (Kd.N_reads' HO85.out).2.2 0 p55 q55;cases e55;obtain ⟨ce55,hce55,hMe55,hcc55⟩:=Kd.N_get HO85.out z65 0 p55 (by first|exact q55|exact of_decide_eq_true zh|(have e_:=(Kd.N_reads' HO85.out).1;omega));obtain ⟨ua55_5,uc55_5,rfl,ul55_5,ge55_5⟩:=k65_openF hMe55;have hv55_5:=hcc55 5 _ rfl;rw [add_field _ _ 5 (by omega)] at hv55_5;replace hv55_5:=Option.some.inj (hv55_5.symm.trans hx55_5);injection hv55_5 with hva_ hvn_ hvc_;rw [hva_] at ge55_5;rw [hvc_] at ul55_5;have HL55_5:=zA (show Kd.V k116 116 _ w.heap.size _ _ ((rd_T65 t52 0).f5.f0) from Kd.V_mk ul55_5 ge55_5);clear hva_ hvn_ hvc_ ge55_5 ul55_5;clear hcc55 hce55;have qi55:(0<t52.length)=True:=eq_true (by omega);(try rw [show ((0:Int)).toNat=0 from rfl] at hx55_0);(try rw [show 0 * 6=0 from rfl] at hx55_0);(try rw [Addr.add_zero'] at hx55_0);(try rw [show ((0:Int)).toNat=0 from rfl] at hx55_1);(try rw [show 0 * 6=0 from rfl] at hx55_1);(try rw [Addr.add_zero'] at hx55_1);(try rw [show ((0:Int)).toNat=0 from rfl] at hx55_2);(try rw [show 0 * 6=0 from rfl] at hx55_2);(try rw [Addr.add_zero'] at hx55_2);(try rw [show ((0:Int)).toNat=0 from rfl] at hx55_3);(try rw [show 0 * 6=0 from rfl] at hx55_3);(try rw [Addr.add_zero'] at hx55_3);(try rw [show ((0:Int)).toNat=0 from rfl] at hx55_4);(try rw [show 0 * 6=0 from rfl] at hx55_4);(try rw [Addr.add_zero'] at hx55_4);(try rw [show ((0:Int)).toNat=0 from rfl] at hx55_5);(try rw [show 0 * 6=0 from rfl] at hx55_5);(try rw [Addr.add_zero'] at hx55_5);have HR55_5:=zA hi55_5;have HC55_5:=zA hl55_5;clear hi55_5 hl55_5;replace p55:=eq_true p55;replace q55:=eq_true q55;have p56:0≤(1:Int):=(by omega);have q56:1<(t52.length:Int):=of_decide_eq_true zh;obtain ⟨ad56,A56_5,c56_5,e56,hx56_0,hx56_1,hx56_2,hx56_3,hx56_4,hx56_5,hl56_5,hi56_5⟩:=at_T65 (Kd.N_reads' HO85.out).2.2 1 p56 q56;obtain rfl:ad55=ad56:=(by injection e56);obtain ⟨ce56,hce56,hMe56,hcc56⟩:=Kd.N_get HO85.out z65 1 p56 (by first|exact q56|exact of_decide_eq_true zh|(have e_:=(Kd.N_reads' HO85.out).1;omega));obtain ⟨ua56_5,uc56_5,rfl,ul56_5,ge56_5⟩:=k65_openF hMe56;have hv56_5:=hcc56 5 _ rfl;rw [add_field _ _ 5 (by omega)] at hv56_5;replace hv56_5:=Option.some.inj (hv56_5.symm.trans hx56_5);injection hv56_5 with hva_ hvn_ hvc_;rw [hva_] at ge56_5;rw [hvc_] at ul56_5;have HL56_5:=zA (show Kd.V k116 116 _ w.heap.size _ _ ((rd_T65 t52 1).f5.f0) from Kd.V_mk ul56_5 ge56_5);clear hva_ hvn_ hvc_ ge56_5 ul56_5;clear hcc56 hce56;(try simp only [show (1:Int).toNat=1 from rfl,Nat.reduceMul,Nat.reduceEqDiff,Go.Addr.add,↓reduceIte] at hx56_0);(try simp only [show (1:Int).toNat=1 from rfl,Nat.reduceMul,Nat.reduceEqDiff,Go.Addr.add,↓reduceIte] at hx56_1);(try simp only [show (1:Int).toNat=1 from rfl,Nat.reduceMul,Nat.reduceEqDiff,Go.Addr.add,↓reduceIte] at hx56_2);(try simp only [show (1:Int).toNat=1 from rfl,Nat.reduceMul,Nat.reduceEqDiff,Go.Addr.add,↓reduceIte] at hx56_3);(try simp only [show (1:Int).toNat=1 from rfl,Nat.reduceMul,Nat.reduceEqDiff,Go.Addr.add,↓reduceIte] at hx56_4);(try simp only [show (1:Int).toNat=1 from rfl,Nat.reduceMul,Nat.reduceEqDiff,Go.Addr.add,↓reduceIte] at hx56_5);have qi56:(1<t52.length)=True:=eq_true (by omega);(try rw [show ((1:Int)).toNat=1 from rfl] at hx56_0);(try rw [show 1 * 6=6 from rfl] at hx56_0);(try rw [show ((1:Int)).toNat=1 from rfl] at hx56_1);(try rw [show 1 * 6=6 from rfl] at hx56_1);(try rw [show ((1:Int)).toNat=1 from rfl] at hx56_2);(try rw [show 1 * 6=6 from rfl] at hx56_2);(try rw [show ((1:Int)).toNat=1 from rfl] at hx56_3);(try rw [show 1 * 6=6 from rfl] at hx56_3);(try rw [show ((1:Int)).toNat=1 from rfl] at hx56_4);(try rw [show 1 * 6=6 from rfl] at hx56_4);(try rw [show ((1:Int)).toNat=1 from rfl] at hx56_5);(try rw [show 1 * 6=6 from rfl] at hx56_5);have HR56_5:=zA hi56_5;have HC56_5:=zA hl56_5;clear hi56_5 hl56_5;replace p56:=eq_true p56;replace q56:=eq_true q56;have p57:0≤(2:Int):=(by omega);have q57:2<(t52.length:Int):=of_decide_eq_true zh;obtain ⟨ad57,A57_5,c57_5,e57,hx57_0,hx57_1,hx57_2,hx57_3,hx57_4,hx57_5,hl57_5,hi57_5⟩:=at_T65 (Kd.N_reads' HO85.out).2.2 2 p57 q57;obtain rfl:ad55=ad57:=(by injection e57);obtain ⟨ce57,hce57,hMe57,hcc57⟩:=Kd.N_get HO85.out z65 2 p57 (by first|exact q57|exact of_decide_eq_true zh|(have e_:=(Kd.N_reads' HO85.out).1;omega));obtain ⟨ua57_5,uc57_5,rfl,ul57_5,ge57_5⟩:=k65_openF hMe57;have hv57_5:=hcc57 5 _ rfl;rw [add_field _ _ 5 (by omega)] at hv57_5;replace hv57_5:=Option.some.inj (hv57_5.symm.trans hx57_5);injection hv57_5 with hva_ hvn_ hvc_;rw [hva_] at ge57_5;rw [hvc_] at ul57_5;have HL57_5:=zA (show Kd.V k116 116 _ w.heap.size _ _ ((rd_T65 t52 2).f5.f0) from Kd.V_mk ul57_5 ge57_5);clear hva_ hvn_ hvc_ ge57_5 ul57_5;clear hcc57 hce57;(try simp only [show (2:Int).toNat=2 from rfl,Nat.reduceMul,Nat.reduceEqDiff,Go.Addr.add,↓reduceIte] at hx57_0);(try simp only [show (2:Int).toNat=2 from rfl,Nat.reduceMul,Nat.reduceEqDiff,Go.Addr.add,↓reduceIte] at hx57_1);(try simp only [show (2:Int).toNat=2 from rfl,Nat.reduceMul,Nat.reduceEqDiff,Go.Addr.add,↓reduceIte] at hx57_2);(try simp only [show (2:Int).toNat=2 from rfl,Nat.reduceMul,Nat.reduceEqDiff,Go.Addr.add,↓reduceIte] at hx57_3);(try simp only [show (2:Int).toNat=2 from rfl,Nat.reduceMul,Nat.reduceEqDiff,Go.Addr.add,↓reduceIte] at hx57_4);(try simp only [show (2:Int).toNat=2 from rfl,Nat.reduceMul,Nat.reduceEqDiff,Go.Addr.add,↓reduceIte] at hx57_5);have qi57:(2<t52.length)=True:=eq_true (by omega);(try rw [show ((2:Int)).toNat=2 from rfl] at hx57_0);(try rw [show 2 * 6=12 from rfl] at hx57_0);(try rw [show ((2:Int)).toNat=2 from rfl] at hx57_1);(try rw [show 2 * 6=12 from rfl] at hx57_1);(try rw [show ((2:Int)).toNat=2 from rfl] at hx57_2);(try rw [show 2 * 6=12 from rfl] at hx57_2);(try rw [show ((2:Int)).toNat=2 from rfl] at hx57_3);(try rw [show 2 * 6=12 from rfl] at hx57_3);(try rw [show ((2:Int)).toNat=2 from rfl] at hx57_4);(try rw [show 2 * 6=12 from rfl] at hx57_4);(try rw [show ((2:Int)).toNat=2 from rfl] at hx57_5);(try rw [show 2 * 6=12 from rfl] at hx57_5);have HR57_5:=zA hi57_5;have HC57_5:=zA hl57_5;clear hi57_5 hl57_5;replace p57:=eq_true p57;replace q57:=eq_true q57))
                go_ret
                exact ⟨ze,zv0 HB⟩
               ·rw [if_neg c47] at H;exact absurd H (by simp)
              ·rw [if_neg c46] at H;exact absurd H (by simp)
             ·rw [if_neg c45] at H;exact absurd H (by simp)
            ·rw [if_neg c44] at H;exact absurd H (by simp)
           ·rw [if_neg c43] at H;exact absurd H (by simp)
          ·replace c42:=Bool.eq_false_iff.mpr c42;subst c42
           have H1:(none)=some r:=by rw [if_neg (show ¬ (false=true) by decide)] at H;exact H
           clear H;have H:=H1;clear H1;exact absurd H (by simp)
         ·replace c40:=Bool.eq_false_iff.mpr c40;subst c40
          have H1:(none)=some r:=by rw [if_neg (show ¬ (false=true) by decide)] at H;exact H
          clear H;have H:=H1;clear H1;exact absurd H (by simp)
        ·rw [if_neg c14] at H;exact absurd H (by simp)
       ·rw [if_neg c13] at H;exact absurd H (by simp)
      ·replace c12:=Bool.eq_false_iff.mpr c12;subst c12
       have H1:(none)=some r:=by rw [if_neg (show ¬ (false=true) by decide)] at H;exact H
       clear H;have H:=H1;clear H1;exact absurd H (by simp)
     ·rw [if_neg c11] at H;exact absurd H (by simp)
    ·rw [if_neg c10] at H;exact absurd H (by simp)
   ·rw [if_neg c9] at H;exact absurd H (by simp)
  ·rw [if_neg c8] at H;exact absurd H (by simp)
 ·rw [if_neg c5] at H;exact absurd H (by simp)
def ancepsref38_Variables.l0:Nat→List Int→Int→Option (Int)
 | 0,_,_=>none
 | k+1,x0,x3=>if x3<(x0.length:Int) then (if 0≤x3 then (if (rd x0 x3)<0 then (some 6) else (if (rd x0 x3)>23 then (some 6) else (if x3>0 then (if 0≤(wrap64 (x3 - 1)) then (if (wrap64 (x3 - 1))<(x0.length:Int) then (if (rd x0 x3)≤(rd x0 (wrap64 (x3 - 1))) then (some 18) else (ancepsref38_Variables.l0 k x0 (wrap64 (x3+1)))) else (none)) else (none)) else (ancepsref38_Variables.l0 k x0 (wrap64 (x3+1)))))) else (none)) else (some 0)
def ancepsref38_Variables.f (k:Nat) (l0:List Int):Option (Int):=if (l0.length:Int)>10 then (some 3) else (ancepsref38_Variables.l0 k l0 0)
theorem ancepsref38_Variables.mono_l:∀ k,(∀ y0 y1,LeO (ancepsref38_Variables.l0 k y0 y1) (ancepsref38_Variables.l0 (k+1) y0 y1))
 | 0=>fun _ _ r h=>by simp [ancepsref38_Variables.l0] at h
 | k+1=>by
  have ih0:=ancepsref38_Variables.mono_l k
  ·intro y0 y1
   unfold ancepsref38_Variables.l0
   repeat' first
   | (with_reducible exact ih0 _ _)
   | (with_reducible exact LeO.refl _)
   | (with_reducible exact LeO.none _)
   | (with_reducible refine LeO.ite ?_ ?_)
   | (with_reducible refine LeO.bind ?_ (fun _=>?_))
   | exact LeO.none _
   | refine LeO.ite ?_ ?_
   | refine LeO.bind ?_ (fun _=>?_)
theorem ancepsref38_Variables.mono:∀ a0 k,LeO (ancepsref38_Variables.f k a0) (ancepsref38_Variables.f (k+1) a0):=by
 intro a0 k;have ih0:=ancepsref38_Variables.mono_l k
 unfold ancepsref38_Variables.f
 repeat' first
   | (with_reducible exact ih0 _ _)
   | (with_reducible exact LeO.refl _)
   | (with_reducible exact LeO.none _)
   | (with_reducible refine LeO.ite ?_ ?_)
   | (with_reducible refine LeO.bind ?_ (fun _=>?_))
   | exact LeO.none _
   | refine LeO.ite ?_ ?_
   | refine LeO.bind ?_ (fun _=>?_)
set_option maxHeartbeats 8000000 in
set_option maxRecDepth 100000 in
theorem ancepsref38_Variables.calls (k:Nat) (A0:Option Addr) (c0:Nat) (l0:List Int) (r:Int) (w:World) (hr0:Kd.C (Kd.int .i64) w A0 l0.length l0) (hc0:l0.length≤c0) (h:ancepsref38_Variables.f k l0=some r) :
  Calls Try.prog 59 #[.slice A0 l0.length c0] w fun e w'=>e=.returned (.int .i64 r)∧Drawn0 w w':=by
 have hu3:=Try.underlying3;have HR0:=zA hr0;have HC0:=zA hc0;clear hr0 hc0;have H:(if (l0.length:Int)>10 then (some 3) else (ancepsref38_Variables.l0 k l0 0))=some r:=h;clear h
 by_cases c2:(l0.length:Int)>10
 ·rw [if_pos c2] at H;have c2b0:decide (10<(l0.length:Int))=true:=decide_eq_true c2;have c2b1:decide (10<l0.length)=true:=decide_eq_true (by omega);clear c2;obtain rfl:=Option.some.inj H
  go_enter Try.func59,Try.ntmps59
  go_wp2
  repeat (go_quiet (fail);try go_wp2)
  go_ret
  exact ⟨by first|rfl|(simp;done)|(simp [*];done),by repeat (first|exact Drawn0.refl _|apply Drawn0.step)⟩
 ·rw [if_neg c2] at H;have c2b0:decide (10<(l0.length:Int))=false:=decide_eq_false c2;have c2b1:decide (10<l0.length)=false:=decide_eq_false (by omega);clear c2;have H':=zA H;clear H
  go_enter Try.func59,Try.ntmps59
  go_wp2
  repeat (go_quiet (fail);try go_wp2)
  go_loopg [3] k (fun kq v3 w'=>∃ (x3_1:Int),v3=.int .i64 x3_1∧Aside0 (ancepsref38_Variables.l0 kq l0 x3_1=some r)∧Aside0 (kq≤k)∧Drawn0 w w')
  case atStart=>exact ⟨(0),zT,H',⟨Nat.le_refl _⟩,by repeat (first|exact Drawn0.refl _|apply Drawn0.step)⟩
  case round=>
   clear H'
   try clear c2
   try clear c2b0
   try clear c2b1
   obtain ⟨x3_1,rfl,HA,HK1,⟨m1,rfl⟩⟩:=hrel
   cases gk with
   | zero=>exact absurd HA.out (by simp [ancepsref38_Variables.l0])
   | succ k1=>
    have H:=HA.out;clear HA;simp only [ancepsref38_Variables.l0] at H
    by_cases c3:x3_1<(l0.length:Int)
    ·rw [if_pos c3] at H;have c3b0:decide (x3_1<(l0.length:Int))=true:=decide_eq_true c3;clear c3
     by_cases c4:0≤x3_1
     ·rw [if_pos c4] at H;have c4b0:decide (0≤x3_1)=true:=decide_eq_true c4;clear c4
      by_cases c5:(rd l0 x3_1)<0
      ·rw [if_pos c5] at H;have c5b0:decide ((rd l0 x3_1)<0)=true:=decide_eq_true c5;clear c5;obtain rfl:=Option.some.inj H;have p58:0≤(x3_1:Int):=of_decide_eq_true zh;have q58:x3_1<(l0.length:Int):=of_decide_eq_true zh;obtain ⟨ad58,e58,hx58_0⟩:=Kd.at_int HR0.out x3_1 p58 q58
       cases e58
       replace p58:=eq_true p58;replace q58:=eq_true q58
       go_wp2
       repeat (go_quiet (fail);try go_wp2)
       go_ret
       exact ⟨by first|rfl|(simp;done)|(simp [*];done),by repeat (first|exact Drawn0.refl _|apply Drawn0.step)⟩
      ·rw [if_neg c5] at H;have c5b0:decide ((rd l0 x3_1)<0)=false:=decide_eq_false c5;clear c5
       by_cases c6:(rd l0 x3_1)>23
       ·rw [if_pos c6] at H;have c6b0:decide (23<(rd l0 x3_1))=true:=decide_eq_true c6;clear c6;obtain rfl:=Option.some.inj H;have p58:0≤(x3_1:Int):=of_decide_eq_true zh;have q58:x3_1<(l0.length:Int):=of_decide_eq_true zh;obtain ⟨ad58,e58,hx58_0⟩:=Kd.at_int HR0.out x3_1 p58 q58
        cases e58
        replace p58:=eq_true p58;replace q58:=eq_true q58;have p62:0≤(x3_1:Int):=of_decide_eq_true zh;have q62:x3_1<(l0.length:Int):=of_decide_eq_true zh;obtain ⟨ad62,e62,hx62_0⟩:=Kd.at_int HR0.out x3_1 p62 q62
        obtain rfl:ad58=ad62:=(by injection e62)
        replace p62:=eq_true p62;replace q62:=eq_true q62
        go_wp2
        repeat (go_quiet (fail);try go_wp2)
        go_ret
        exact ⟨by first|rfl|(simp;done)|(simp [*];done),by repeat (first|exact Drawn0.refl _|apply Drawn0.step)⟩
       ·rw [if_neg c6] at H;have c6b0:decide (23<(rd l0 x3_1))=false:=decide_eq_false c6;clear c6
        by_cases c7:x3_1>0
        ·rw [if_pos c7] at H;have c7b0:decide (0<x3_1)=true:=decide_eq_true c7;clear c7
         obtain ⟨ji8,hji8⟩:∃ j_:Int,(wrap64 (x3_1 - 1))=j_:=⟨_,rfl⟩
         replace H:(if 0≤(ji8) then (if (ji8)<(l0.length:Int) then (if (rd l0 x3_1)≤(rd l0 (ji8)) then (some 18) else (ancepsref38_Variables.l0 k1 l0 (wrap64 (x3_1+1)))) else (none)) else (none))=some r:=by first|(rw [hji8] at H;exact H)|(simp only [hji8] at H ⊢;exact H)
         have hji8w:(IntKind.i64.wrap (x3_1 - 1))=ji8:=(i64_w _).trans hji8
         by_cases c9:0≤(ji8)
         ·rw [if_pos c9] at H;have c9b0:decide (0≤(ji8))=true:=decide_eq_true c9;clear c9
          by_cases c10:(ji8)<(l0.length:Int)
          ·rw [if_pos c10] at H;have c10b0:decide ((ji8)<(l0.length:Int))=true:=decide_eq_true c10;clear c10
           by_cases c11:(rd l0 x3_1)≤(rd l0 (ji8))
           ·rw [if_pos c11] at H;have c11b0:decide ((rd l0 x3_1)≤(rd l0 (ji8)))=true:=decide_eq_true c11;clear c11;obtain rfl:=Option.some.inj H;have p58:0≤(x3_1:Int):=of_decide_eq_true zh;have q58:x3_1<(l0.length:Int):=of_decide_eq_true zh;obtain ⟨ad58,e58,hx58_0⟩:=Kd.at_int HR0.out x3_1 p58 q58
            cases e58
            replace p58:=eq_true p58;replace q58:=eq_true q58;have p62:0≤(x3_1:Int):=of_decide_eq_true zh;have q62:x3_1<(l0.length:Int):=of_decide_eq_true zh;obtain ⟨ad62,e62,hx62_0⟩:=Kd.at_int HR0.out x3_1 p62 q62
            obtain rfl:ad58=ad62:=(by injection e62)
            replace p62:=eq_true p62;replace q62:=eq_true q62;have p81:0≤(x3_1:Int):=of_decide_eq_true zh;have q81:x3_1<(l0.length:Int):=of_decide_eq_true zh;obtain ⟨ad81,e81,hx81_0⟩:=Kd.at_int HR0.out x3_1 p81 q81
            obtain rfl:ad58=ad81:=(by injection e81)
            replace p81:=eq_true p81;replace q81:=eq_true q81;have p82:0≤((ji8):Int):=of_decide_eq_true zh;have q82:(ji8)<(l0.length:Int):=of_decide_eq_true zh;obtain ⟨ad82,e82,hx82_0⟩:=Kd.at_int HR0.out (ji8) p82 q82
            obtain rfl:ad58=ad82:=(by injection e82)
            replace p82:=eq_true p82;replace q82:=eq_true q82
            go_wp2
            repeat (go_quiet (fail);try go_wp2)
            go_ret
            exact ⟨by first|rfl|(simp;done)|(simp only [← hji8] <;> (first|rfl|simp))|(simp [*];done),by repeat (first|exact Drawn0.refl _|apply Drawn0.step)⟩
           ·rw [if_neg c11] at H;have c11b0:decide ((rd l0 x3_1)≤(rd l0 (ji8)))=false:=decide_eq_false c11;clear c11;have H':=zA H;clear H;have p58:0≤(x3_1:Int):=of_decide_eq_true zh;have q58:x3_1<(l0.length:Int):=of_decide_eq_true zh;obtain ⟨ad58,e58,hx58_0⟩:=Kd.at_int HR0.out x3_1 p58 q58
            cases e58
            replace p58:=eq_true p58;replace q58:=eq_true q58;have p62:0≤(x3_1:Int):=of_decide_eq_true zh;have q62:x3_1<(l0.length:Int):=of_decide_eq_true zh;obtain ⟨ad62,e62,hx62_0⟩:=Kd.at_int HR0.out x3_1 p62 q62
            obtain rfl:ad58=ad62:=(by injection e62)
            replace p62:=eq_true p62;replace q62:=eq_true q62;have p81:0≤(x3_1:Int):=of_decide_eq_true zh;have q81:x3_1<(l0.length:Int):=of_decide_eq_true zh;obtain ⟨ad81,e81,hx81_0⟩:=Kd.at_int HR0.out x3_1 p81 q81
            obtain rfl:ad58=ad81:=(by injection e81)
            replace p81:=eq_true p81;replace q81:=eq_true q81;have p82:0≤((ji8):Int):=of_decide_eq_true zh;have q82:(ji8)<(l0.length:Int):=of_decide_eq_true zh;obtain ⟨ad82,e82,hx82_0⟩:=Kd.at_int HR0.out (ji8) p82 q82
            obtain rfl:ad58=ad82:=(by injection e82)
            replace p82:=eq_true p82;replace q82:=eq_true q82
            go_wp2
            repeat (go_quiet (fail);try go_wp2)
            go_roundg k1
            case measure=>have:=HK1.out;omega
            case rel=>exact ⟨(wrap64 (x3_1+1)),zT,H',⟨by have:=HK1.out;omega⟩,by repeat (first|exact Drawn0.refl _|apply Drawn0.step)⟩
          ·rw [if_neg c10] at H;exact absurd H (by simp)
         ·rw [if_neg c9] at H;exact absurd H (by simp)
        ·rw [if_neg c7] at H;have c7b0:decide (0<x3_1)=false:=decide_eq_false c7;clear c7;have H':=zA H;clear H;have p58:0≤(x3_1:Int):=of_decide_eq_true zh;have q58:x3_1<(l0.length:Int):=of_decide_eq_true zh;obtain ⟨ad58,e58,hx58_0⟩:=Kd.at_int HR0.out x3_1 p58 q58
         cases e58
         replace p58:=eq_true p58;replace q58:=eq_true q58;have p62:0≤(x3_1:Int):=of_decide_eq_true zh;have q62:x3_1<(l0.length:Int):=of_decide_eq_true zh;obtain ⟨ad62,e62,hx62_0⟩:=Kd.at_int HR0.out x3_1 p62 q62
         obtain rfl:ad58=ad62:=(by injection e62)
         replace p62:=eq_true p62;replace q62:=eq_true q62
         go_wp2
         repeat (go_quiet (fail);try go_wp2)
         go_roundg k1
         case measure=>have:=HK1.out;omega
         case rel=>exact ⟨(wrap64 (x3_1+1)),zT,H',⟨by have:=HK1.out;omega⟩,by repeat (first|exact Drawn0.refl _|apply Drawn0.step)⟩
     ·rw [if_neg c4] at H;exact absurd H (by simp)
    ·rw [if_neg c3] at H;have c3b0:decide (x3_1<(l0.length:Int))=false:=decide_eq_false c3;clear c3;obtain rfl:=Option.some.inj H
     go_wp2
     repeat (go_quiet (fail);try go_wp2)
     go_ret
     exact ⟨by first|rfl|(simp;done)|(simp [*];done),by repeat (first|exact Drawn0.refl _|apply Drawn0.step)⟩
def ancepsref38_Valid.l0:Nat→Int→List Int→List Int→Option (Int)
 | 0,_,_,_=>none
 | k+1,x4,x98,x86=>if x4<(x86.length:Int) then (if 0≤x4 then (if (rd x86 x4)<0 then (some 6) else (if (rd x86 x4)≥(shl .i64 1 (x98.length:Int)) then (some 6) else (if x4>0 then (if 0≤(wrap64 (x4 - 1)) then (if (wrap64 (x4 - 1))<(x86.length:Int) then (if (rd x86 x4)≤(rd x86 (wrap64 (x4 - 1))) then (some 18) else (ancepsref38_Valid.l0 k (wrap64 (x4+1)) x98 x86)) else (none)) else (none)) else (ancepsref38_Valid.l0 k (wrap64 (x4+1)) x98 x86)))) else (none)) else (some 0)
def ancepsref38_Valid.f (k:Nat) (l0_0:List Int) (l0_1:List Int):Option (Int):=(ancepsref38_Variables.f k l0_0).bind fun t88=>(if t88=0 then (ancepsref38_Valid.l0 k 0 l0_0 l0_1) else (some t88))
theorem ancepsref38_Valid.mono_l:∀ k,(∀ y0 y1 y2,LeO (ancepsref38_Valid.l0 k y0 y1 y2) (ancepsref38_Valid.l0 (k+1) y0 y1 y2))
 | 0=>fun _ _ _ r h=>by simp [ancepsref38_Valid.l0] at h
 | k+1=>by
  have ih0:=ancepsref38_Valid.mono_l k
  ·intro y0 y1 y2
   unfold ancepsref38_Valid.l0
   repeat' first
   | (with_reducible exact ih0 _ _ _)
   | (with_reducible exact ancepsref38_Variables.mono _ _)
   | (with_reducible exact LeO.refl _)
   | (with_reducible exact LeO.none _)
   | (with_reducible refine LeO.ite ?_ ?_)
   | (with_reducible refine LeO.bind ?_ (fun _=>?_))
   | exact LeO.none _
   | refine LeO.ite ?_ ?_
   | refine LeO.bind ?_ (fun _=>?_)
theorem ancepsref38_Valid.mono:∀ a0 a1 k,LeO (ancepsref38_Valid.f k a0 a1) (ancepsref38_Valid.f (k+1) a0 a1):=by
 intro a0 a1 k;have ih0:=ancepsref38_Valid.mono_l k
 unfold ancepsref38_Valid.f
 repeat' first
   | (with_reducible exact ih0 _ _ _)
   | (with_reducible exact ancepsref38_Variables.mono _ _)
   | (with_reducible exact LeO.refl _)
   | (with_reducible exact LeO.none _)
   | (with_reducible refine LeO.ite ?_ ?_)
   | (with_reducible refine LeO.bind ?_ (fun _=>?_))
   | exact LeO.none _
   | refine LeO.ite ?_ ?_
   | refine LeO.bind ?_ (fun _=>?_)
set_option maxHeartbeats 8000000 in
set_option maxRecDepth 100000 in
theorem ancepsref38_Valid.calls (k:Nat) (A0_0:Option Addr) (c0_0:Nat) (l0_0:List Int) (A0_1:Option Addr) (c0_1:Nat) (l0_1:List Int) (r:Int) (w:World) (hr0_0:Kd.C (Kd.int .i64) w A0_0 l0_0.length l0_0) (hc0_0:l0_0.length≤c0_0) (hr0_1:Kd.C (Kd.int .i64) w A0_1 l0_1.length l0_1) (hc0_1:l0_1.length≤c0_1) (h:ancepsref38_Valid.f k l0_0 l0_1=some r) :
  Calls Try.prog 40 #[.agg #[.slice A0_0 l0_0.length c0_0,.slice A0_1 l0_1.length c0_1]] w fun e w'=>e=.returned (.int .i64 r)∧Below w.heap.size w w':=by
 have hu34:=Try.underlying34;have hu29:=Try.underlying29;have hu3:=Try.underlying3;have HR0_0:=zA hr0_0;have HC0_0:=zA hc0_0;clear hr0_0 hc0_0;have HR0_1:=zA hr0_1;have HC0_1:=zA hc0_1;clear hr0_1 hc0_1;have HB:=zA (Below.refl w.heap.size w);have H:((ancepsref38_Variables.f k l0_0).bind fun t88=>(if t88=0 then (ancepsref38_Valid.l0 k 0 l0_0 l0_1) else (some t88)))=some r:=h;clear h;replace H:=Option.bind_eq_some_iff.mp H;obtain ⟨t88,A20,H⟩:=H;replace H:(if t88=0 then (ancepsref38_Valid.l0 k 0 l0_0 l0_1) else (some t88))=some r:=H;have A2:=zA A20;clear A20;have HC3:=zA H;clear H
 go_enter Try.func40,Try.ntmps40
 go_upto_if 9 with (first|((with_reducible refine gate_dst (N:=1) rfl ?_);(try (refine gate_guard (by rfl) ?_;dsimp only));refine box_event ?hg (N:=1) ?hd (cs:=#[.slice A0_0 l0_0.length c0_0,.slice A0_1 l0_1.length c0_1]) (t:=34) ?hr ?_;(case hd=>rfl);(case hg=>rfl);(case hr=>first|(go_simp;done)|(go_simp;rfl));intro gb53 hg w4 hbox hb;have BK53:=zA (hbox);have GW53:=zA (zG hg (below_size zB):w.heap.size≤gb53);have GE53:=GW53;replace HB:=zA (below_step zB hb);clear hb hbox hg;have hcz5_0:w4.cell? ⟨gb53,0,none⟩=some (.slice A0_0 l0_0.length c0_0):=(blk_cell BK53.out 0).trans rfl;have hcz5_1:w4.cell? ⟨gb53,1,none⟩=some (.slice A0_1 l0_1.length c0_1):=(blk_cell BK53.out 1).trans rfl;have hfz5_0:=blk_frozen BK53.out 0;have hfz5_1:=blk_frozen BK53.out 1)|(go_at_call 59;(with_reducible refine (ancepsref38_Variables.calls k _ _ l0_0 t88 _ ?side1 ?side2 A2.out).mono ?_);(case side1=>exact zC (Kd.C_below HR0_0.out HB.out));(case side2=>exact HC0_0.out);rintro e w' ⟨rfl,⟨nd,rfl⟩⟩;(try first|exact ⟨rfl,_,World.drewN_drewN _ _ _⟩|exact ⟨rfl,_,Eq.trans (World.drewN_drewN _ _ _) (congrArg (World.drewN _) (Nat.add_assoc _ _ _))⟩)))
 repeat (go_quiet (first|((with_reducible refine gate_dst (N:=1) rfl ?_);(try (refine gate_guard (by rfl) ?_;dsimp only));refine box_event ?hg (N:=1) ?hd (cs:=#[.slice A0_0 l0_0.length c0_0,.slice A0_1 l0_1.length c0_1]) (t:=34) ?hr ?_;(case hd=>rfl);(case hg=>rfl);(case hr=>first|(go_simp;done)|(go_simp;rfl));intro gb53 hg w4 hbox hb;have BK53:=zA (hbox);have GW53:=zA (zG hg (below_size zB):w.heap.size≤gb53);have GE53:=GW53;replace HB:=zA (below_step zB hb);clear hb hbox hg;have hcz5_0:w4.cell? ⟨gb53,0,none⟩=some (.slice A0_0 l0_0.length c0_0):=(blk_cell BK53.out 0).trans rfl;have hcz5_1:w4.cell? ⟨gb53,1,none⟩=some (.slice A0_1 l0_1.length c0_1):=(blk_cell BK53.out 1).trans rfl;have hfz5_0:=blk_frozen BK53.out 0;have hfz5_1:=blk_frozen BK53.out 1)|(go_at_call 59;(with_reducible refine (ancepsref38_Variables.calls k _ _ l0_0 t88 _ ?side1 ?side2 A2.out).mono ?_);(case side1=>exact zC (Kd.C_below HR0_0.out HB.out));(case side2=>exact HC0_0.out);rintro e w' ⟨rfl,⟨nd,rfl⟩⟩;(try first|exact ⟨rfl,_,World.drewN_drewN _ _ _⟩|exact ⟨rfl,_,Eq.trans (World.drewN_drewN _ _ _) (congrArg (World.drewN _) (Nat.add_assoc _ _ _))⟩)));go_upto_if 9 with (first|((with_reducible refine gate_dst (N:=1) rfl ?_);(try (refine gate_guard (by rfl) ?_;dsimp only));refine box_event ?hg (N:=1) ?hd (cs:=#[.slice A0_0 l0_0.length c0_0,.slice A0_1 l0_1.length c0_1]) (t:=34) ?hr ?_;(case hd=>rfl);(case hg=>rfl);(case hr=>first|(go_simp;done)|(go_simp;rfl));intro gb53 hg w4 hbox hb;have BK53:=zA (hbox);have GW53:=zA (zG hg (below_size zB):w.heap.size≤gb53);have GE53:=GW53;replace HB:=zA (below_step zB hb);clear hb hbox hg;have hcz5_0:w4.cell? ⟨gb53,0,none⟩=some (.slice A0_0 l0_0.length c0_0):=(blk_cell BK53.out 0).trans rfl;have hcz5_1:w4.cell? ⟨gb53,1,none⟩=some (.slice A0_1 l0_1.length c0_1):=(blk_cell BK53.out 1).trans rfl;have hfz5_0:=blk_frozen BK53.out 0;have hfz5_1:=blk_frozen BK53.out 1)|(go_at_call 59;(with_reducible refine (ancepsref38_Variables.calls k _ _ l0_0 t88 _ ?side1 ?side2 A2.out).mono ?_);(case side1=>exact zC (Kd.C_below HR0_0.out HB.out));(case side2=>exact HC0_0.out);rintro e w' ⟨rfl,⟨nd,rfl⟩⟩;(try first|exact ⟨rfl,_,World.drewN_drewN _ _ _⟩|exact ⟨rfl,_,Eq.trans (World.drewN_drewN _ _ _) (congrArg (World.drewN _) (Nat.add_assoc _ _ _))⟩))))
 (try simp only [Act.put,zi,zs,zt]);have H:=HC3.out;clear HC3
 by_cases c6:t88=0
 ·rw [if_pos c6] at H;have c6b0:(t88 == 0)=true:=beq_iff_eq.mpr c6;have c6b1:(t88 != 0)=false:=bne_eq_false_iff_eq.mpr c6;clear c6
  (first|rw [c6b0]|(simp only [i64_w,i32_w];rw [c6b0])|skip)
  (try rw [c6b1]);have H':=zA H;clear H
  go_wp2
  repeat (go_quiet (fail);try go_wp2)
  go_loopg [4] k (fun kq v4 w'=>∃ (x4_1:Int),v4=.int .i64 x4_1∧Aside0 (ancepsref38_Valid.l0 kq x4_1 l0_0 l0_1=some r)∧Aside0 (kq≤k)∧Aside0 (w'.heap[gb53]?=some (.cells #[(.slice A0_0 l0_0.length c0_0),(.slice A0_1 l0_1.length c0_1)] 34 (0,0)))∧Aside0 (Below w.heap.size w w'))
  case atStart=>exact ⟨(0),zT,H',⟨Nat.le_refl _⟩,⟨by refine zj ?_;exact BK53.out⟩,⟨zv1 HB GE53⟩⟩
  case round=>
   clear H'
   try clear c6
   try clear c6b0
   try clear c6b1
   try clear hcz5_0
   try clear hcz5_1
   try clear hfz5_0
   try clear hfz5_1
   obtain ⟨x4_1,rfl,HA,HK1,BK53,HB⟩:=hrel
   cases gk with
   | zero=>exact absurd HA.out (by simp [ancepsref38_Valid.l0])
   | succ k1=>
    have H:=HA.out;clear HA;simp only [ancepsref38_Valid.l0] at H
    by_cases c7:x4_1<(l0_1.length:Int)
    ·rw [if_pos c7] at H;have c7b0:decide (x4_1<(l0_1.length:Int))=true:=decide_eq_true c7;clear c7
     by_cases c8:0≤x4_1
     ·rw [if_pos c8] at H;have c8b0:decide (0≤x4_1)=true:=decide_eq_true c8;clear c8
      by_cases c9:(rd l0_1 x4_1)<0
      ·rw [if_pos c9] at H;have c9b0:decide ((rd l0_1 x4_1)<0)=true:=decide_eq_true c9;clear c9;obtain rfl:=Option.some.inj H;have hcz10_0:wr.cell? ⟨gb53,0,none⟩=some (.slice A0_0 l0_0.length c0_0):=(blk_cell BK53.out 0).trans rfl;have hcz10_1:wr.cell? ⟨gb53,1,none⟩=some (.slice A0_1 l0_1.length c0_1):=(blk_cell BK53.out 1).trans rfl;have hfz10_0:=blk_frozen BK53.out 0;have hfz10_1:=blk_frozen BK53.out 1;have p54:0≤(x4_1:Int):=of_decide_eq_true zh;have q54:x4_1<(l0_1.length:Int):=of_decide_eq_true zh;obtain ⟨ad54,e54,hx54_0⟩:=Kd.at_int HR0_1.out x4_1 p54 q54
       cases e54
       replace hx54_0:=(HB.out.cell (World.block_lt_of_cell? w _ hx54_0)).trans hx54_0;replace p54:=eq_true p54;replace q54:=eq_true q54
       go_wp2
       repeat (go_quiet (fail);try go_wp2)
       go_ret
       exact ⟨ze,zv1 HB GE53⟩
      ·rw [if_neg c9] at H;have c9b0:decide ((rd l0_1 x4_1)<0)=false:=decide_eq_false c9;clear c9
       obtain ⟨ji11,hji11⟩:∃ j_:Int,(shl .i64 1 (l0_0.length:Int))=j_:=⟨_,rfl⟩
       replace H:(if (rd l0_1 x4_1)≥(ji11) then (some 6) else (if x4_1>0 then (if 0≤(wrap64 (x4_1 - 1)) then (if (wrap64 (x4_1 - 1))<(l0_1.length:Int) then (if (rd l0_1 x4_1)≤(rd l0_1 (wrap64 (x4_1 - 1))) then (some 18) else (ancepsref38_Valid.l0 k1 (wrap64 (x4_1+1)) l0_0 l0_1)) else (none)) else (none)) else (ancepsref38_Valid.l0 k1 (wrap64 (x4_1+1)) l0_0 l0_1)))=some r:=by first|(rw [hji11] at H;exact H)|(simp only [hji11] at H ⊢;exact H)
       have hji11_:(IntKind.i64.wrap (1 * 2 ^ min (l0_0.length:Int).toNat 64))=ji11:=hji11;have hji11z:(l0_0.length:Int)≤64→(IntKind.i64.wrap (1 * 2 ^ (l0_0.length:Int).toNat))=ji11:=shl_small hji11;have hji11p:(IntKind.i64.wrap (1 * 2 ^ min l0_0.length 64))=ji11:=hji11_;have hji11q:(l0_0.length:Int)≤64→(IntKind.i64.wrap (1 * 2 ^ l0_0.length))=ji11:=hji11z
       have hji11r:(IntKind.i64.wrap (2 ^ min l0_0.length 64))=ji11:=by have h_:=hji11p;rw [Int.one_mul] at h_;exact h_
       have hji11s:(l0_0.length:Int)≤64→(IntKind.i64.wrap (2 ^ l0_0.length))=ji11:=fun hle_=>by have h_:=hji11q hle_;rw [Int.one_mul] at h_;exact h_
       have hji11u:(IntKind.i64.wrap (2 ^ min (l0_0.length:Int).toNat 64))=ji11:=by have h_:=hji11_;rw [Int.one_mul] at h_;exact h_
       have hji11v:(l0_0.length:Int)≤64→(IntKind.i64.wrap (2 ^ (l0_0.length:Int).toNat))=ji11:=fun hle_=>by have h_:=hji11z hle_;rw [Int.one_mul] at h_;exact h_
       have hji11y:(wrap64 (1 * 2 ^ min (l0_0.length:Int).toNat 64))=ji11:=(i64_w _).symm.trans hji11_
       have hji11x:(l0_0.length:Int)≤64→(wrap64 (1 * 2 ^ (l0_0.length:Int).toNat))=ji11:=fun h_=>(i64_w _).symm.trans (hji11z h_)
       by_cases c12:(rd l0_1 x4_1)≥(ji11)
       ·rw [if_pos c12] at H;have c12b0:decide ((ji11)≤(rd l0_1 x4_1))=true:=decide_eq_true c12;clear c12;obtain rfl:=Option.some.inj H;have hcz13_0:wr.cell? ⟨gb53,0,none⟩=some (.slice A0_0 l0_0.length c0_0):=(blk_cell BK53.out 0).trans rfl;have hcz13_1:wr.cell? ⟨gb53,1,none⟩=some (.slice A0_1 l0_1.length c0_1):=(blk_cell BK53.out 1).trans rfl;have hfz13_0:=blk_frozen BK53.out 0;have hfz13_1:=blk_frozen BK53.out 1;have p54:0≤(x4_1:Int):=of_decide_eq_true zh;have q54:x4_1<(l0_1.length:Int):=of_decide_eq_true zh;obtain ⟨ad54,e54,hx54_0⟩:=Kd.at_int HR0_1.out x4_1 p54 q54
        cases e54
        replace hx54_0:=(HB.out.cell (World.block_lt_of_cell? w _ hx54_0)).trans hx54_0;replace p54:=eq_true p54;replace q54:=eq_true q54;have p61:0≤(x4_1:Int):=of_decide_eq_true zh;have q61:x4_1<(l0_1.length:Int):=of_decide_eq_true zh;obtain ⟨ad61,e61,hx61_0⟩:=Kd.at_int HR0_1.out x4_1 p61 q61
        obtain rfl:ad54=ad61:=(by injection e61)
        replace hx61_0:=(HB.out.cell (World.block_lt_of_cell? w _ hx61_0)).trans hx61_0;replace p61:=eq_true p61;replace q61:=eq_true q61
        go_wp2
        repeat (go_quiet (fail);try go_wp2)
        go_ret
        exact ⟨by first|rfl|(simp [errW_none,errW_some] <;> rfl)|(simp only [← hji11];first|rfl|(simp [errW_none,errW_some] <;> rfl))|(simp [*,errW_none,errW_some] <;> rfl),zv1 HB GE53⟩
       ·rw [if_neg c12] at H;have c12b0:decide ((ji11)≤(rd l0_1 x4_1))=false:=decide_eq_false c12;clear c12
        by_cases c14:x4_1>0
        ·rw [if_pos c14] at H;have c14b0:decide (0<x4_1)=true:=decide_eq_true c14;clear c14
         obtain ⟨ji15,hji15⟩:∃ j_:Int,(wrap64 (x4_1 - 1))=j_:=⟨_,rfl⟩
         replace H:(if 0≤(ji15) then (if (ji15)<(l0_1.length:Int) then (if (rd l0_1 x4_1)≤(rd l0_1 (ji15)) then (some 18) else (ancepsref38_Valid.l0 k1 (wrap64 (x4_1+1)) l0_0 l0_1)) else (none)) else (none))=some r:=by first|(rw [hji15] at H;exact H)|(simp only [hji15] at H ⊢;exact H)
         have hji15w:(IntKind.i64.wrap (x4_1 - 1))=ji15:=(i64_w _).trans hji15
         by_cases c16:0≤(ji15)
         ·rw [if_pos c16] at H;have c16b0:decide (0≤(ji15))=true:=decide_eq_true c16;clear c16
          by_cases c17:(ji15)<(l0_1.length:Int)
          ·rw [if_pos c17] at H;have c17b0:decide ((ji15)<(l0_1.length:Int))=true:=decide_eq_true c17;clear c17
           by_cases c18:(rd l0_1 x4_1)≤(rd l0_1 (ji15))
           ·rw [if_pos c18] at H;have c18b0:decide ((rd l0_1 x4_1)≤(rd l0_1 (ji15)))=true:=decide_eq_true c18;clear c18;obtain rfl:=Option.some.inj H;have hcz19_0:wr.cell? ⟨gb53,0,none⟩=some (.slice A0_0 l0_0.length c0_0):=(blk_cell BK53.out 0).trans rfl;have hcz19_1:wr.cell? ⟨gb53,1,none⟩=some (.slice A0_1 l0_1.length c0_1):=(blk_cell BK53.out 1).trans rfl;have hfz19_0:=blk_frozen BK53.out 0;have hfz19_1:=blk_frozen BK53.out 1;have p54:0≤(x4_1:Int):=of_decide_eq_true zh;have q54:x4_1<(l0_1.length:Int):=of_decide_eq_true zh;obtain ⟨ad54,e54,hx54_0⟩:=Kd.at_int HR0_1.out x4_1 p54 q54
            cases e54
            replace hx54_0:=(HB.out.cell (World.block_lt_of_cell? w _ hx54_0)).trans hx54_0;replace p54:=eq_true p54;replace q54:=eq_true q54;have p61:0≤(x4_1:Int):=of_decide_eq_true zh;have q61:x4_1<(l0_1.length:Int):=of_decide_eq_true zh;obtain ⟨ad61,e61,hx61_0⟩:=Kd.at_int HR0_1.out x4_1 p61 q61
            obtain rfl:ad54=ad61:=(by injection e61)
            replace hx61_0:=(HB.out.cell (World.block_lt_of_cell? w _ hx61_0)).trans hx61_0;replace p61:=eq_true p61;replace q61:=eq_true q61;have p75:0≤(x4_1:Int):=of_decide_eq_true zh;have q75:x4_1<(l0_1.length:Int):=of_decide_eq_true zh;obtain ⟨ad75,e75,hx75_0⟩:=Kd.at_int HR0_1.out x4_1 p75 q75
            obtain rfl:ad54=ad75:=(by injection e75)
            replace hx75_0:=(HB.out.cell (World.block_lt_of_cell? w _ hx75_0)).trans hx75_0;replace p75:=eq_true p75;replace q75:=eq_true q75;have p76:0≤((ji15):Int):=of_decide_eq_true zh;have q76:(ji15)<(l0_1.length:Int):=of_decide_eq_true zh;obtain ⟨ad76,e76,hx76_0⟩:=Kd.at_int HR0_1.out (ji15) p76 q76
            obtain rfl:ad54=ad76:=(by injection e76)
            replace hx76_0:=(HB.out.cell (World.block_lt_of_cell? w _ hx76_0)).trans hx76_0;replace p76:=eq_true p76;replace q76:=eq_true q76
            go_wp2
            repeat (go_quiet (fail);try go_wp2)
            go_ret
            exact ⟨by first|rfl|(simp [errW_none,errW_some] <;> rfl)|(simp only [← hji11,← hji15];first|rfl|(simp [errW_none,errW_some] <;> rfl))|(simp [*,errW_none,errW_some] <;> rfl),zv1 HB GE53⟩
           ·rw [if_neg c18] at H;have c18b0:decide ((rd l0_1 x4_1)≤(rd l0_1 (ji15)))=false:=decide_eq_false c18;clear c18;have H':=zA H;clear H;have hcz20_0:wr.cell? ⟨gb53,0,none⟩=some (.slice A0_0 l0_0.length c0_0):=(blk_cell BK53.out 0).trans rfl;have hcz20_1:wr.cell? ⟨gb53,1,none⟩=some (.slice A0_1 l0_1.length c0_1):=(blk_cell BK53.out 1).trans rfl;have hfz20_0:=blk_frozen BK53.out 0;have hfz20_1:=blk_frozen BK53.out 1;have p54:0≤(x4_1:Int):=of_decide_eq_true zh;have q54:x4_1<(l0_1.length:Int):=of_decide_eq_true zh;obtain ⟨ad54,e54,hx54_0⟩:=Kd.at_int HR0_1.out x4_1 p54 q54
            cases e54
            replace hx54_0:=(HB.out.cell (World.block_lt_of_cell? w _ hx54_0)).trans hx54_0;replace p54:=eq_true p54;replace q54:=eq_true q54;have p61:0≤(x4_1:Int):=of_decide_eq_true zh;have q61:x4_1<(l0_1.length:Int):=of_decide_eq_true zh;obtain ⟨ad61,e61,hx61_0⟩:=Kd.at_int HR0_1.out x4_1 p61 q61
            obtain rfl:ad54=ad61:=(by injection e61)
            replace hx61_0:=(HB.out.cell (World.block_lt_of_cell? w _ hx61_0)).trans hx61_0;replace p61:=eq_true p61;replace q61:=eq_true q61;have p75:0≤(x4_1:Int):=of_decide_eq_true zh;have q75:x4_1<(l0_1.length:Int):=of_decide_eq_true zh;obtain ⟨ad75,e75,hx75_0⟩:=Kd.at_int HR0_1.out x4_1 p75 q75
            obtain rfl:ad54=ad75:=(by injection e75)
            replace hx75_0:=(HB.out.cell (World.block_lt_of_cell? w _ hx75_0)).trans hx75_0;replace p75:=eq_true p75;replace q75:=eq_true q75;have p76:0≤((ji15):Int):=of_decide_eq_true zh;have q76:(ji15)<(l0_1.length:Int):=of_decide_eq_true zh;obtain ⟨ad76,e76,hx76_0⟩:=Kd.at_int HR0_1.out (ji15) p76 q76
            obtain rfl:ad54=ad76:=(by injection e76)
            replace hx76_0:=(HB.out.cell (World.block_lt_of_cell? w _ hx76_0)).trans hx76_0;replace p76:=eq_true p76;replace q76:=eq_true q76
            go_wp2
            repeat (go_quiet (fail);try go_wp2)
            go_roundg k1
            case measure=>have:=HK1.out;omega
            case rel=>exact ⟨(wrap64 (x4_1+1)),zT,H',⟨by have:=HK1.out;omega⟩,⟨by refine zj ?_;exact BK53.out⟩,⟨zv1 HB GE53⟩⟩
          ·rw [if_neg c17] at H;exact absurd H (by simp)
         ·rw [if_neg c16] at H;exact absurd H (by simp)
        ·rw [if_neg c14] at H;have c14b0:decide (0<x4_1)=false:=decide_eq_false c14;clear c14;have H':=zA H;clear H;have hcz21_0:wr.cell? ⟨gb53,0,none⟩=some (.slice A0_0 l0_0.length c0_0):=(blk_cell BK53.out 0).trans rfl;have hcz21_1:wr.cell? ⟨gb53,1,none⟩=some (.slice A0_1 l0_1.length c0_1):=(blk_cell BK53.out 1).trans rfl;have hfz21_0:=blk_frozen BK53.out 0;have hfz21_1:=blk_frozen BK53.out 1;have p54:0≤(x4_1:Int):=of_decide_eq_true zh;have q54:x4_1<(l0_1.length:Int):=of_decide_eq_true zh;obtain ⟨ad54,e54,hx54_0⟩:=Kd.at_int HR0_1.out x4_1 p54 q54
         cases e54
         replace hx54_0:=(HB.out.cell (World.block_lt_of_cell? w _ hx54_0)).trans hx54_0;replace p54:=eq_true p54;replace q54:=eq_true q54;have p61:0≤(x4_1:Int):=of_decide_eq_true zh;have q61:x4_1<(l0_1.length:Int):=of_decide_eq_true zh;obtain ⟨ad61,e61,hx61_0⟩:=Kd.at_int HR0_1.out x4_1 p61 q61
         obtain rfl:ad54=ad61:=(by injection e61)
         replace hx61_0:=(HB.out.cell (World.block_lt_of_cell? w _ hx61_0)).trans hx61_0;replace p61:=eq_true p61;replace q61:=eq_true q61
         go_wp2
         repeat (go_quiet (fail);try go_wp2)
         go_roundg k1
         case measure=>have:=HK1.out;omega
         case rel=>exact ⟨(wrap64 (x4_1+1)),zT,H',⟨by have:=HK1.out;omega⟩,⟨by refine zj ?_;exact BK53.out⟩,⟨zv1 HB GE53⟩⟩
     ·rw [if_neg c8] at H;exact absurd H (by simp)
    ·rw [if_neg c7] at H;have c7b0:decide (x4_1<(l0_1.length:Int))=false:=decide_eq_false c7;clear c7;obtain rfl:=Option.some.inj H;have hcz22_0:wr.cell? ⟨gb53,0,none⟩=some (.slice A0_0 l0_0.length c0_0):=(blk_cell BK53.out 0).trans rfl;have hcz22_1:wr.cell? ⟨gb53,1,none⟩=some (.slice A0_1 l0_1.length c0_1):=(blk_cell BK53.out 1).trans rfl;have hfz22_0:=blk_frozen BK53.out 0;have hfz22_1:=blk_frozen BK53.out 1
     go_wp2
     repeat (go_quiet (fail);try go_wp2)
     go_ret
     exact ⟨ze,zv1 HB GE53⟩
 ·rw [if_neg c6] at H;have c6b0:(t88 == 0)=false:=beq_eq_false_iff_ne.mpr c6;have c6b1:(t88 != 0)=true:=bne_iff_ne.mpr c6
  (first|rw [c6b0]|(simp only [i64_w,i32_w];rw [c6b0])|skip)
  (try rw [c6b1]);obtain rfl:=Option.some.inj H
  go_wp2
  repeat (go_quiet (fail);try go_wp2)
  go_ret
  exact ⟨ze,zv1 HB GE53⟩
def ancepsref40_Valid.l0:Nat→List (S34)→Int→Option (Int)
 | 0,_,_=>none
 | k+1,x0,x3=>if x3<(x0.length:Int) then (if 0≤x3 then ((ancepsref38_Valid.f k ((rd_T34 x0 x3).f0) ((rd_T34 x0 x3).f1)).bind fun t95=>(if t95=0 then (ancepsref40_Valid.l0 k x0 (wrap64 (x3+1))) else (some t95))) else (none)) else (some 0)
def ancepsref40_Valid.f (k:Nat) (l0:List (S34)):Option (Int):=if (l0.length:Int)>16 then (some 3) else (ancepsref40_Valid.l0 k l0 0)
theorem ancepsref40_Valid.mono_l:∀ k,(∀ y0 y1,LeO (ancepsref40_Valid.l0 k y0 y1) (ancepsref40_Valid.l0 (k+1) y0 y1))
 | 0=>fun _ _ r h=>by simp [ancepsref40_Valid.l0] at h
 | k+1=>by
  have ih0:=ancepsref40_Valid.mono_l k
  ·intro y0 y1
   unfold ancepsref40_Valid.l0
   repeat' first
   | (with_reducible exact ih0 _ _)
   | (with_reducible exact ancepsref38_Valid.mono _ _ _)
   | (with_reducible exact LeO.refl _)
   | (with_reducible exact LeO.none _)
   | (with_reducible refine LeO.ite ?_ ?_)
   | (with_reducible refine LeO.bind ?_ (fun _=>?_))
   | exact LeO.none _
   | refine LeO.ite ?_ ?_
   | refine LeO.bind ?_ (fun _=>?_)
theorem ancepsref40_Valid.mono:∀ a0 k,LeO (ancepsref40_Valid.f k a0) (ancepsref40_Valid.f (k+1) a0):=by
 intro a0 k;have ih0:=ancepsref40_Valid.mono_l k
 unfold ancepsref40_Valid.f
 repeat' first
   | (with_reducible exact ih0 _ _)
   | (with_reducible exact ancepsref38_Valid.mono _ _ _)
   | (with_reducible exact LeO.refl _)
   | (with_reducible exact LeO.none _)
   | (with_reducible refine LeO.ite ?_ ?_)
   | (with_reducible refine LeO.bind ?_ (fun _=>?_))
   | exact LeO.none _
   | refine LeO.ite ?_ ?_
   | refine LeO.bind ?_ (fun _=>?_)
set_option maxHeartbeats 8000000 in
set_option maxRecDepth 100000 in
theorem ancepsref40_Valid.calls (k:Nat) (A0:Option Addr) (c0:Nat) (l0:List (S34)) (r:Int) (w:World) (hr0:Kd.C k34 w A0 l0.length l0) (hc0:l0.length≤c0) (h:ancepsref40_Valid.f k l0=some r) :
  Calls Try.prog 26 #[.slice A0 l0.length c0] w fun e w'=>e=.returned (.int .i64 r)∧Below w.heap.size w w':=by
 have hu34:=Try.underlying34;have HR0:=zA hr0;have HC0:=zA hc0;clear hr0 hc0;have HB:=zA (Below.refl w.heap.size w);have H:(if (l0.length:Int)>16 then (some 3) else (ancepsref40_Valid.l0 k l0 0))=some r:=h;clear h
 by_cases c2:(l0.length:Int)>16
 ·rw [if_pos c2] at H;have c2b0:decide (16<(l0.length:Int))=true:=decide_eq_true c2;have c2b1:decide (16<l0.length)=true:=decide_eq_true (by omega);clear c2;obtain rfl:=Option.some.inj H
  go_enter Try.func26,Try.ntmps26
  go_wp2
  go_ret
  exact ⟨ze,zv0 HB⟩
 ·rw [if_neg c2] at H;have c2b0:decide (16<(l0.length:Int))=false:=decide_eq_false c2;have c2b1:decide (16<l0.length)=false:=decide_eq_false (by omega);clear c2;have H':=zA H;clear H
  go_enter Try.func26,Try.ntmps26
  go_wp2
  go_loopg [3] k (fun kq v3 w'=>∃ (x3_1:Int),v3=.int .i64 x3_1∧Aside0 (ancepsref40_Valid.l0 kq l0 x3_1=some r)∧Aside0 (kq≤k)∧Aside0 (Below w.heap.size w w'))
  case atStart=>exact ⟨(0),zT,H',⟨Nat.le_refl _⟩,⟨zv0 HB⟩⟩
  case round=>
   clear H'
   try clear c2
   try clear c2b0
   try clear c2b1
   obtain ⟨x3_1,rfl,HA,HK1,HB⟩:=hrel
   cases gk with
   | zero=>exact absurd HA.out (by simp [ancepsref40_Valid.l0])
   | succ k1=>
    have H:=HA.out;clear HA;simp only [ancepsref40_Valid.l0] at H
    by_cases c3:x3_1<(l0.length:Int)
    ·rw [if_pos c3] at H;have c3b0:decide (x3_1<(l0.length:Int))=true:=decide_eq_true c3;clear c3
     by_cases c4:0≤x3_1
     ·rw [if_pos c4] at H;have c4b0:decide (0≤x3_1)=true:=decide_eq_true c4;clear c4;replace H:=Option.bind_eq_some_iff.mp H;obtain ⟨t95,A50,H⟩:=H;replace H:(if t95=0 then (ancepsref40_Valid.l0 k1 l0 (wrap64 (x3_1+1))) else (some t95))=some r:=H;have A5:=zA A50;clear A50;have HC6:=zA H;clear H;have p66:0≤(x3_1:Int):=of_decide_eq_true zh;have q66:x3_1<(l0.length:Int):=of_decide_eq_true zh;obtain ⟨ad66,A66_0,c66_0,A66_1,c66_1,e66,hx66_0,hx66_1,hl66_0,hi66_0,hl66_1,hi66_1⟩:=at_T34 HR0.out x3_1 p66 q66
      cases e66
      replace hx66_0:=(HB.out.cell (World.block_lt_of_cell? w _ hx66_0)).trans hx66_0;replace hx66_1:=(HB.out.cell (World.block_lt_of_cell? w _ hx66_1)).trans hx66_1;have HR66_0:=zA hi66_0;have HC66_0:=zA hl66_0;clear hi66_0 hl66_0;have HR66_1:=zA hi66_1;have HC66_1:=zA hl66_1;clear hi66_1 hl66_1;replace p66:=eq_true p66;replace q66:=eq_true q66
      go_upto_if 20 with (first|((with_reducible refine gate_callee (f:=40) rfl ?_);refine goesL_ (some 18) rfl rfl Try.func40 zK rfl #[.agg #[.slice A66_0 ((rd_T34 l0 x3_1).f0).length c66_0,.slice A66_1 ((rd_T34 l0 x3_1).f1).length c66_1]] rfl zM ?_;(with_reducible refine (ancepsref38_Valid.calls k1 _ _ ((rd_T34 l0 x3_1).f0) _ _ ((rd_T34 l0 x3_1).f1) t95 _ ?side1 ?side2 ?side3 ?side4 A5.out).mono ?_);(case side1=>exact zC (Kd.C_below HR66_0.out HB.out));(case side2=>exact HC66_0.out);(case side3=>exact zC (Kd.C_below HR66_1.out HB.out));(case side4=>exact HC66_1.out);rintro e w7 ⟨rfl,hb⟩;refine ⟨_,rfl,?_⟩;replace HB:=zA (below_step zB hb);(try clear hb);(try clear hb2);(try clear hk);(try clear hi)))
      (try simp only [Act.put,zi,zs,zt]);have H:=HC6.out;clear HC6
      by_cases c8:t95=0
      ·rw [if_pos c8] at H;have c8b0:(t95 == 0)=true:=beq_iff_eq.mpr c8;have c8b1:(t95 != 0)=false:=bne_eq_false_iff_eq.mpr c8;clear c8
       (first|rw [c8b0]|(simp only [i64_w,i32_w];rw [c8b0])|skip)
       (try rw [c8b1]);have H':=zA H;clear H
       go_wp2
       go_roundg k1
       case measure=>have:=HK1.out;omega
       case rel=>exact ⟨(wrap64 (x3_1+1)),zT,H',⟨by have:=HK1.out;omega⟩,⟨zv0 HB⟩⟩
      ·rw [if_neg c8] at H;have c8b0:(t95 == 0)=false:=beq_eq_false_iff_ne.mpr c8;have c8b1:(t95 != 0)=true:=bne_iff_ne.mpr c8
       (first|rw [c8b0]|(simp only [i64_w,i32_w];rw [c8b0])|skip)
       (try rw [c8b1]);obtain rfl:=Option.some.inj H
       go_wp2
       go_ret
       exact ⟨ze,zv0 HB⟩
     ·rw [if_neg c4] at H;exact absurd H (by simp)
    ·rw [if_neg c3] at H;have c3b0:decide (x3_1<(l0.length:Int))=false:=decide_eq_false c3;clear c3;obtain rfl:=Option.some.inj H
     go_wp2
     go_ret
     exact ⟨ze,zv0 HB⟩
end Go.Proofs.Ytngpkbbljnbojaa.I
