import Derived.Test.YtkjghablbeaioaaGreatBwb
import Derived.Test.YtkjghablbeaioaaGreatProg
import Derived.Below
import Derived.Deep.Draws
import Derived.Deep.AppendLies
import Derived.Maps.AppendAt
import Derived.OwnWalk
import Derived.Laws.BytesArg
import Derived.Laws.MakeOwn
import Derived.Laws.OwnMore
import Derived.Deep.OwnRows
import Derived.Tactics
import Derived.Lib.ConvBytes
import Derived.Laws.Slices
import Derived.WalkKit
import Derived.KernelRfl
import Derived.RowKit3
import Derived.Deep.LoopGhost
import Derived.Deep.QuietTactic
import Derived.BigQuiet
import Derived.WideLaws
import Derived.Deep.DeepCutAuto
import Derived.Deep.CutBlock
import Derived.Deep.RegionHeld3
import Derived.Laws.Rows
import Derived.Lib.AppendStr
import Derived.ArgAppend
import Derived.Laws.IdiomCopy
import Derived.OrdersHeld
import Derived.Laws.BitsLemmas
import Derived.RowKit
import Derived.Lib.SliceRun
import Derived.Laws.EntriesVeiled
import Derived.WalkMore
import Derived.Shelf.SlicesE.Delete
namespace Go.Proofs.YtkjghablbeaioaaGreat.B
open Go.RowKit Go.Proofs.YtkjghablbeaioaaGreatW.PrintWords Go.Proofs.YtkjghablbeaioaaGreatW.PrintLast Go.Proofs.YtkjghablbeaioaaGreatW.PrintMore
attribute [local go_sem] max2_int min2_int max_two min_two max_three min_three max_four min_four
set_option linter.unusedVariables false
set_option linter.unusedSimpArgs false
def errW:Option Int→Value
 | none=>.nilIface
 | some c=>.iface 0 (.int .i64 c)
theorem errW_none:errW none=.nilIface:=rfl
theorem errW_some (c:Int):errW (some c)=.iface 0 (.int .i64 c):=rfl
theorem info3:(Tryz.prog.info? 3).map (fun i=>(i.zero,i.size,i.bytes))=some (some (.int .i64 0),1,8):=by kernel_rfl
theorem info4:(Tryz.prog.info? 4).map (fun i=>(i.zero,i.size,i.bytes))=some (some (.bool false),1,1):=by kernel_rfl
theorem info23:(Tryz.prog.info? 23).map (fun i=>(i.zero,i.size,i.bytes))=some (some (.slice none 0 0),1,24):=by kernel_rfl
theorem info49:(Tryz.prog.info? 49).map (fun i=>(i.zero,i.size,i.bytes))=some (some (.agg #[(.slice none 0 0),(.slice none 0 0)]),2,48):=by kernel_rfl
theorem info96:(Tryz.prog.info? 96).map (fun i=>(i.zero,i.size,i.bytes))=some (some (.agg #[(.int .i64 0),(.int .i64 0),(.int .i64 0),(.int .i64 0)]),4,32):=by kernel_rfl
def rd_L1 (xs:List (List Int)) (i:Int):(List Int):=xs.getD i.toNat ([]:List Int)
theorem at_L1 {w:World} {A:Option Addr} {n:Nat} {xs:List (List Int)} (h:Kd.C (Kd.slice 3 (Kd.int .i64)) w A n xs) (i:Int) (h0:0≤i) (h1:i<n):∃ ad A0 c0,A=some ad∧w.cell? (ad.add i.toNat)=some (.slice A0 (rd_L1 xs i).length c0)∧(rd_L1 xs i).length≤c0∧(Kd.int .i64).C w A0 (rd_L1 xs i).length (rd_L1 xs i):=by
 obtain ⟨ad,c,e,_,hK,hc0⟩:=Kd.C_get h ([]:List Int) i h0 h1;have hc:∀ j u,c[j]?=some u→w.cell? (ad.add (i.toNat * 1+j))=some u:=hc0;obtain ⟨A0,c0,rfl,l0,g0⟩:=hK;exact ⟨ad,A0,c0,e,by have hq:=hc 0 _ rfl;rwa [Nat.mul_one,Nat.add_zero] at hq,l0,g0⟩
structure S49 where
 f0:(List Int)
 f1:(List Int)
def z49:S49:=⟨([]:List Int),([]:List Int)⟩
def k49:Kd S49:=Kd.iso (Kd.pair (Kd.slice 3 (Kd.int .i64)) (Kd.slice 3 (Kd.int .i64))) (fun x:S49=>(x.f0,x.f1))
theorem k49_heap:Kd.Heap k49:=Kd.heap_iso _ (Kd.heap_pair (Kd.heap_slice 3 (Kd.heap_int .i64)) (Kd.heap_slice 3 (Kd.heap_int .i64)))
theorem k49_open {w:World} {x:S49} {cs:List Value} (h:k49.K w x cs):∃ A0 c0 A1 c1,cs=[.slice A0 x.f0.length c0,.slice A1 x.f1.length c1]∧x.f0.length≤c0∧(Kd.int .i64).C w A0 x.f0.length x.f0∧x.f1.length≤c1∧(Kd.int .i64).C w A1 x.f1.length x.f1:=by
 obtain ⟨_,_,rfl,⟨A0,c0,rfl,l0,g0⟩,⟨A1,c1,rfl,l1,g1⟩⟩:=h;exact ⟨A0,c0,A1,c1,rfl,l0,g0,l1,g1⟩
theorem k49_openM {w:World} {base:Nat} {ok:Nat→Prop} {x:S49} {cs:List Value} (h:k49.M w base ok x cs):∃ v0 v1,cs=[v0,v1]∧(Kd.int .i64).R 3 w base ok v0 x.f0∧(Kd.int .i64).R 3 w base ok v1 x.f1:=by
 obtain ⟨_,_,rfl,⟨v0,rfl,g0⟩,⟨v1,rfl,g1⟩⟩:=h;exact ⟨v0,v1,rfl,g0,g1⟩
theorem k49_mk (w:World) (x:S49) {A0:Option Addr} {c0:Nat} (l0:x.f0.length≤c0) (g0:(Kd.int .i64).C w A0 x.f0.length x.f0) {A1:Option Addr} {c1:Nat} (l1:x.f1.length≤c1) (g1:(Kd.int .i64).C w A1 x.f1.length x.f1):k49.K w x [.slice A0 x.f0.length c0,.slice A1 x.f1.length c1]:=⟨[.slice A0 x.f0.length c0],[.slice A1 x.f1.length c1],rfl,⟨A0,c0,rfl,l0,g0⟩,⟨A1,c1,rfl,l1,g1⟩⟩
theorem k49_mkM (w:World) (base:Nat) (ok:Nat→Prop) (x:S49) {v0:Value} (g0:(Kd.int .i64).R 3 w base ok v0 x.f0) {v1:Value} (g1:(Kd.int .i64).R 3 w base ok v1 x.f1):k49.M w base ok x [v0,v1]:=⟨[v0],[v1],rfl,⟨v0,rfl,g0⟩,⟨v1,rfl,g1⟩⟩
theorem k49_openF {W:World} {ok:Nat→Prop} {x:S49} {cs:List Value} (h:Kd.FK k49 W ok x cs):∃ A0 c0 A1 c1,cs=[.slice A0 x.f0.length c0,.slice A1 x.f1.length c1]∧x.f0.length≤c0∧Kd.F (Kd.int .i64) W ok A0 x.f0.length x.f0∧x.f1.length≤c1∧Kd.F (Kd.int .i64) W ok A1 x.f1.length x.f1:=by
 obtain ⟨A0,c0,A1,c1,rfl,l0,_,l1,_⟩:=k49_open (Kd.FK_now h);exact ⟨A0,c0,A1,c1,rfl,l0,(fun W' hW=>by obtain ⟨A0_,c0_,A1_,c1_,he,l0_,g0_,l1_,g1_⟩:=k49_open (h W' hW);injection (Option.some.inj (show some (Value.slice A0 x.f0.length c0)=some (Value.slice A0_ x.f0.length c0_) from congrArg (fun l=>l[0]?) he)) with ha_ _ _;rw [ha_];exact g0_),l1,(fun W' hW=>by obtain ⟨A0_,c0_,A1_,c1_,he,l0_,g0_,l1_,g1_⟩:=k49_open (h W' hW);injection (Option.some.inj (show some (Value.slice A1 x.f1.length c1)=some (Value.slice A1_ x.f1.length c1_) from congrArg (fun l=>l[1]?) he)) with ha_ _ _;rw [ha_];exact g1_)⟩
theorem k49_mkF (W:World) (ok:Nat→Prop) (x:S49) {A0:Option Addr} {c0:Nat} (l0:x.f0.length≤c0) (g0:Kd.F (Kd.int .i64) W ok A0 x.f0.length x.f0) {A1:Option Addr} {c1:Nat} (l1:x.f1.length≤c1) (g1:Kd.F (Kd.int .i64) W ok A1 x.f1.length x.f1):Kd.FK k49 W ok x [.slice A0 x.f0.length c0,.slice A1 x.f1.length c1]:=fun W2 hW=>k49_mk W2 x l0 (g0 W2 hW) l1 (g1 W2 hW)
def rd_T49 (xs:List S49) (i:Int):S49:=xs.getD i.toNat z49
theorem at_T49 {w:World} {A:Option Addr} {n:Nat} {xs:List S49} (h:Kd.C k49 w A n xs) (i:Int) (h0:0≤i) (h1:i<n):∃ ad A0 c0 A1 c1,A=some ad∧w.cell? (ad.add (i.toNat * 2))=some (.slice A0 (rd_T49 xs i).f0.length c0)∧w.cell? ⟨(ad.add (i.toNat * 2)).block,(ad.add (i.toNat * 2)).off+1,none⟩=some (.slice A1 (rd_T49 xs i).f1.length c1)∧(rd_T49 xs i).f0.length≤c0∧(Kd.int .i64).C w A0 (rd_T49 xs i).f0.length (rd_T49 xs i).f0∧(rd_T49 xs i).f1.length≤c1∧(Kd.int .i64).C w A1 (rd_T49 xs i).f1.length (rd_T49 xs i).f1:=by
 obtain ⟨ad,c,e,_,hK,hc0⟩:=Kd.C_get h z49 i h0 h1;have hc:∀ j u,c[j]?=some u→w.cell? (ad.add (i.toNat * 2+j))=some u:=hc0;obtain ⟨A0,c0,A1,c1,rfl,l0,g0,l1,g1⟩:=k49_open hK;exact ⟨ad,A0,c0,A1,c1,e,hc 0 _ rfl,by rw [← add_field _ _ 1 (by omega)];exact hc 1 _ rfl,l0,g0,l1,g1⟩
def rd_L3 (xs:List (List S49)) (i:Int):(List S49):=xs.getD i.toNat ([]:List S49)
theorem at_L3 {w:World} {A:Option Addr} {n:Nat} {xs:List (List S49)} (h:Kd.C (Kd.slice 49 k49) w A n xs) (i:Int) (h0:0≤i) (h1:i<n):∃ ad A0 c0,A=some ad∧w.cell? (ad.add i.toNat)=some (.slice A0 (rd_L3 xs i).length c0)∧(rd_L3 xs i).length≤c0∧k49.C w A0 (rd_L3 xs i).length (rd_L3 xs i):=by
 obtain ⟨ad,c,e,_,hK,hc0⟩:=Kd.C_get h ([]:List S49) i h0 h1;have hc:∀ j u,c[j]?=some u→w.cell? (ad.add (i.toNat * 1+j))=some u:=hc0;obtain ⟨A0,c0,rfl,l0,g0⟩:=hK;exact ⟨ad,A0,c0,e,by have hq:=hc 0 _ rfl;rwa [Nat.mul_one,Nat.add_zero] at hq,l0,g0⟩
structure S96 where
 f0:Int
 f1:Int
 f2:Int
 f3:Int
def z96:S96:=⟨(0:Int),(0:Int),(0:Int),(0:Int)⟩
def k96:Kd S96:=Kd.iso (Kd.pair (Kd.int .i64) (Kd.pair (Kd.int .i64) (Kd.pair (Kd.int .i64) (Kd.int .i64)))) (fun x:S96=>(x.f0,x.f1,x.f2,x.f3))
theorem k96_heap:Kd.Heap k96:=Kd.heap_iso _ (Kd.heap_pair (Kd.heap_int .i64) (Kd.heap_pair (Kd.heap_int .i64) (Kd.heap_pair (Kd.heap_int .i64) (Kd.heap_int .i64))))
theorem k96_open {w:World} {x:S96} {cs:List Value} (h:k96.K w x cs):cs=[.int .i64 x.f0,.int .i64 x.f1,.int .i64 x.f2,.int .i64 x.f3]:=by
 obtain ⟨_,_,rfl,rfl,⟨_,_,rfl,rfl,⟨_,_,rfl,rfl,rfl⟩⟩⟩:=h;exact rfl
theorem k96_openM {w:World} {base:Nat} {ok:Nat→Prop} {x:S96} {cs:List Value} (h:k96.M w base ok x cs):cs=[.int .i64 x.f0,.int .i64 x.f1,.int .i64 x.f2,.int .i64 x.f3]:=by
 obtain ⟨_,_,rfl,rfl,⟨_,_,rfl,rfl,⟨_,_,rfl,rfl,rfl⟩⟩⟩:=h;exact rfl
theorem k96_mk (w:World) (x:S96) :k96.K w x [.int .i64 x.f0,.int .i64 x.f1,.int .i64 x.f2,.int .i64 x.f3]:=⟨[.int .i64 x.f0],[.int .i64 x.f1,.int .i64 x.f2,.int .i64 x.f3],rfl,rfl,⟨[.int .i64 x.f1],[.int .i64 x.f2,.int .i64 x.f3],rfl,rfl,⟨[.int .i64 x.f2],[.int .i64 x.f3],rfl,rfl,rfl⟩⟩⟩
theorem k96_mkM (w:World) (base:Nat) (ok:Nat→Prop) (x:S96) :k96.M w base ok x [.int .i64 x.f0,.int .i64 x.f1,.int .i64 x.f2,.int .i64 x.f3]:=⟨[.int .i64 x.f0],[.int .i64 x.f1,.int .i64 x.f2,.int .i64 x.f3],rfl,rfl,⟨[.int .i64 x.f1],[.int .i64 x.f2,.int .i64 x.f3],rfl,rfl,⟨[.int .i64 x.f2],[.int .i64 x.f3],rfl,rfl,rfl⟩⟩⟩
theorem k96_mkF (W:World) (ok:Nat→Prop) (x:S96):Kd.FK k96 W ok x [.int .i64 x.f0,.int .i64 x.f1,.int .i64 x.f2,.int .i64 x.f3]:=fun W2 _=>k96_mk W2 x
def rd_T96 (xs:List S96) (i:Int):S96:=xs.getD i.toNat z96
theorem at_T96 {w:World} {A:Option Addr} {n:Nat} {xs:List S96} (h:Kd.C k96 w A n xs) (i:Int) (h0:0≤i) (h1:i<n):∃ ad,A=some ad∧w.cell? (ad.add (i.toNat * 4))=some (.int .i64 (rd_T96 xs i).f0)∧w.cell? ⟨(ad.add (i.toNat * 4)).block,(ad.add (i.toNat * 4)).off+1,none⟩=some (.int .i64 (rd_T96 xs i).f1)∧w.cell? ⟨(ad.add (i.toNat * 4)).block,(ad.add (i.toNat * 4)).off+2,none⟩=some (.int .i64 (rd_T96 xs i).f2)∧w.cell? ⟨(ad.add (i.toNat * 4)).block,(ad.add (i.toNat * 4)).off+3,none⟩=some (.int .i64 (rd_T96 xs i).f3):=by
 obtain ⟨ad,c,e,_,hK,hc0⟩:=Kd.C_get h z96 i h0 h1;have hc:∀ j u,c[j]?=some u→w.cell? (ad.add (i.toNat * 4+j))=some u:=hc0;obtain rfl:=k96_open hK;exact ⟨ad,e,hc 0 _ rfl,by rw [← add_field _ _ 1 (by omega)];exact hc 1 _ rfl,by rw [← add_field _ _ 2 (by omega)];exact hc 2 _ rfl,by rw [← add_field _ _ 3 (by omega)];exact hc 3 _ rfl⟩
def rd_L5 (xs:List (List S96)) (i:Int):(List S96):=xs.getD i.toNat ([]:List S96)
theorem at_L5 {w:World} {A:Option Addr} {n:Nat} {xs:List (List S96)} (h:Kd.C (Kd.slice 96 k96) w A n xs) (i:Int) (h0:0≤i) (h1:i<n):∃ ad A0 c0,A=some ad∧w.cell? (ad.add i.toNat)=some (.slice A0 (rd_L5 xs i).length c0)∧(rd_L5 xs i).length≤c0∧k96.C w A0 (rd_L5 xs i).length (rd_L5 xs i):=by
 obtain ⟨ad,c,e,_,hK,hc0⟩:=Kd.C_get h ([]:List S96) i h0 h1;have hc:∀ j u,c[j]?=some u→w.cell? (ad.add (i.toNat * 1+j))=some u:=hc0;obtain ⟨A0,c0,rfl,l0,g0⟩:=hK;exact ⟨ad,A0,c0,e,by have hq:=hc 0 _ rfl;rwa [Nat.mul_one,Nat.add_zero] at hq,l0,g0⟩
structure S26 where
 f0:(List S96)
def z26:S26:=⟨([]:List S96)⟩
def k26:Kd S26:=Kd.iso (Kd.slice 96 k96) (fun x:S26=>x.f0)
theorem k26_heap:Kd.Heap k26:=Kd.heap_iso _ (Kd.heap_slice 96 k96_heap)
theorem k26_open {w:World} {x:S26} {cs:List Value} (h:k26.K w x cs):∃ A0 c0,cs=[.slice A0 x.f0.length c0]∧x.f0.length≤c0∧k96.C w A0 x.f0.length x.f0:=by
 obtain ⟨A0,c0,rfl,l0,g0⟩:=h;exact ⟨A0,c0,rfl,l0,g0⟩
theorem k26_openM {w:World} {base:Nat} {ok:Nat→Prop} {x:S26} {cs:List Value} (h:k26.M w base ok x cs):∃ v0,cs=[v0]∧k96.R 96 w base ok v0 x.f0:=by
 obtain ⟨v0,rfl,g0⟩:=h;exact ⟨v0,rfl,g0⟩
theorem k26_mk (w:World) (x:S26) {A0:Option Addr} {c0:Nat} (l0:x.f0.length≤c0) (g0:k96.C w A0 x.f0.length x.f0):k26.K w x [.slice A0 x.f0.length c0]:=⟨A0,c0,rfl,l0,g0⟩
theorem k26_mkM (w:World) (base:Nat) (ok:Nat→Prop) (x:S26) {v0:Value} (g0:k96.R 96 w base ok v0 x.f0):k26.M w base ok x [v0]:=⟨v0,rfl,g0⟩
theorem k26_openF {W:World} {ok:Nat→Prop} {x:S26} {cs:List Value} (h:Kd.FK k26 W ok x cs):∃ A0 c0,cs=[.slice A0 x.f0.length c0]∧x.f0.length≤c0∧Kd.F k96 W ok A0 x.f0.length x.f0:=by
 obtain ⟨A0,c0,rfl,l0,_⟩:=k26_open (Kd.FK_now h);exact ⟨A0,c0,rfl,l0,(fun W' hW=>by obtain ⟨A0_,c0_,he,l0_,g0_⟩:=k26_open (h W' hW);injection (Option.some.inj (show some (Value.slice A0 x.f0.length c0)=some (Value.slice A0_ x.f0.length c0_) from congrArg (fun l=>l[0]?) he)) with ha_ _ _;rw [ha_];exact g0_)⟩
theorem k26_mkF (W:World) (ok:Nat→Prop) (x:S26) {A0:Option Addr} {c0:Nat} (l0:x.f0.length≤c0) (g0:Kd.F k96 W ok A0 x.f0.length x.f0):Kd.FK k26 W ok x [.slice A0 x.f0.length c0]:=fun W2 hW=>k26_mk W2 x l0 (g0 W2 hW)
def rd_T26 (xs:List S26) (i:Int):S26:=xs.getD i.toNat z26
theorem at_T26 {w:World} {A:Option Addr} {n:Nat} {xs:List S26} (h:Kd.C k26 w A n xs) (i:Int) (h0:0≤i) (h1:i<n):∃ ad A0 c0,A=some ad∧w.cell? (ad.add i.toNat)=some (.slice A0 (rd_T26 xs i).f0.length c0)∧(rd_T26 xs i).f0.length≤c0∧k96.C w A0 (rd_T26 xs i).f0.length (rd_T26 xs i).f0:=by
 obtain ⟨ad,c,e,_,hK,hc0⟩:=Kd.C_get h z26 i h0 h1;have hc:∀ j u,c[j]?=some u→w.cell? (ad.add (i.toNat * 1+j))=some u:=hc0;obtain ⟨A0,c0,rfl,l0,g0⟩:=k26_open hK;exact ⟨ad,A0,c0,e,by have hq:=hc 0 _ rfl;rwa [Nat.mul_one,Nat.add_zero] at hq,l0,g0⟩
end Go.Proofs.YtkjghablbeaioaaGreat.B
