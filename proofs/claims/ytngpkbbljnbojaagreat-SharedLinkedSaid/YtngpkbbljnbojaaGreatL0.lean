import Derived.Test.YtngpkbbljnbojaaGreatLwb
import Derived.Test.YtngpkbbljnbojaaGreatProg
import Derived.Below
import Derived.Deep.Draws
import Derived.Deep.AppendLies
import Derived.Maps.AppendAt
import Derived.OwnWalk
import Derived.Laws.BytesArg
import Derived.Laws.MakeOwn
import Derived.Laws.OwnMore
import Derived.Deep.OwnRows
import Derived.Tactics
import Derived.Lib.ConvBytes
import Derived.Laws.Slices
import Derived.WalkKit
import Derived.KernelRfl
import Derived.RowKit3
import Derived.Deep.LoopGhost
import Derived.Deep.QuietTactic
import Derived.BigQuiet
import Derived.WideLaws
import Derived.Deep.DeepCutAuto
import Derived.Deep.CutBlock
import Derived.Deep.RegionHeld3
import Derived.Laws.Rows
import Derived.Lib.AppendStr
import Derived.ArgAppend
import Derived.Laws.IdiomCopy
import Derived.OrdersHeld
import Derived.Laws.BitsLemmas
import Derived.RowKit
import Derived.Lib.SliceRun
import Derived.Laws.EntriesVeiled
import Derived.WalkMore
import Derived.Shelf.SlicesE.Delete
namespace Go.Proofs.YtngpkbbljnbojaaGreat.L
open Go.RowKit Go.Proofs.YtngpkbbljnbojaaGreatW.PrintWords Go.Proofs.YtngpkbbljnbojaaGreatW.PrintLast Go.Proofs.YtngpkbbljnbojaaGreatW.PrintMore
attribute [local go_sem] max2_int min2_int max_two min_two max_three min_three max_four min_four
set_option linter.unusedVariables false
set_option linter.unusedSimpArgs false
def errW:Option Int→Value
 | none=>.nilIface
 | some c=>.iface 0 (.int .i64 c)
theorem errW_none:errW none=.nilIface:=rfl
theorem errW_some (c:Int):errW (some c)=.iface 0 (.int .i64 c):=rfl
theorem info3:(Tryz.prog.info? 3).map (fun i=>(i.zero,i.size,i.bytes))=some (some (.int .i64 0),1,8):=by kernel_rfl
theorem info4:(Tryz.prog.info? 4).map (fun i=>(i.zero,i.size,i.bytes))=some (some (.bool false),1,1):=by kernel_rfl
theorem info42:(Tryz.prog.info? 42).map (fun i=>(i.zero,i.size,i.bytes))=some (some (.agg #[(.int .i64 0),(.int .i64 0),(.int .i64 0),(.int .i64 0),(.int .i64 0),(.slice none 0 0)]),6,64):=by kernel_rfl
theorem info53:(Tryz.prog.info? 53).map (fun i=>(i.zero,i.size,i.bytes))=some (some (.agg #[(.int .i64 0),(.int .i64 0),(.bool false)]),3,24):=by kernel_rfl
theorem info63:(Tryz.prog.info? 63).map (fun i=>(i.zero,i.size,i.bytes))=some (some (.agg #[(.slice none 0 0),(.slice none 0 0)]),2,48):=by kernel_rfl
theorem info103:(Tryz.prog.info? 103).map (fun i=>(i.zero,i.size,i.bytes))=some (some (.agg #[(.int .i64 0),(.int .i64 0),(.int .i64 0),(.int .i64 0)]),4,32):=by kernel_rfl
def rd_L1 (xs:List (List Int)) (i:Int):(List Int):=xs.getD i.toNat ([]:List Int)
theorem at_L1 {w:World} {A:Option Addr} {n:Nat} {xs:List (List Int)} (h:Kd.C (Kd.slice 3 (Kd.int .i64)) w A n xs) (i:Int) (h0:0≤i) (h1:i<n):∃ ad A0 c0,A=some ad∧w.cell? (ad.add i.toNat)=some (.slice A0 (rd_L1 xs i).length c0)∧(rd_L1 xs i).length≤c0∧(Kd.int .i64).C w A0 (rd_L1 xs i).length (rd_L1 xs i):=by
 obtain ⟨ad,c,e,_,hK,hc0⟩:=Kd.C_get h ([]:List Int) i h0 h1;have hc:∀ j u,c[j]?=some u→w.cell? (ad.add (i.toNat * 1+j))=some u:=hc0;obtain ⟨A0,c0,rfl,l0,g0⟩:=hK;exact ⟨ad,A0,c0,e,by have hq:=hc 0 _ rfl;rwa [Nat.mul_one,Nat.add_zero] at hq,l0,g0⟩
structure S63 where
 f0:(List Int)
 f1:(List Int)
def z63:S63:=⟨([]:List Int),([]:List Int)⟩
def k63:Kd S63:=Kd.iso (Kd.pair (Kd.slice 3 (Kd.int .i64)) (Kd.slice 3 (Kd.int .i64))) (fun x:S63=>(x.f0,x.f1))
theorem k63_heap:Kd.Heap k63:=Kd.heap_iso _ (Kd.heap_pair (Kd.heap_slice 3 (Kd.heap_int .i64)) (Kd.heap_slice 3 (Kd.heap_int .i64)))
theorem k63_open {w:World} {x:S63} {cs:List Value} (h:k63.K w x cs):∃ A0 c0 A1 c1,cs=[.slice A0 x.f0.length c0,.slice A1 x.f1.length c1]∧x.f0.length≤c0∧(Kd.int .i64).C w A0 x.f0.length x.f0∧x.f1.length≤c1∧(Kd.int .i64).C w A1 x.f1.length x.f1:=by
 obtain ⟨_,_,rfl,⟨A0,c0,rfl,l0,g0⟩,⟨A1,c1,rfl,l1,g1⟩⟩:=h;exact ⟨A0,c0,A1,c1,rfl,l0,g0,l1,g1⟩
theorem k63_openM {w:World} {base:Nat} {ok:Nat→Prop} {x:S63} {cs:List Value} (h:k63.M w base ok x cs):∃ v0 v1,cs=[v0,v1]∧(Kd.int .i64).R 3 w base ok v0 x.f0∧(Kd.int .i64).R 3 w base ok v1 x.f1:=by
 obtain ⟨_,_,rfl,⟨v0,rfl,g0⟩,⟨v1,rfl,g1⟩⟩:=h;exact ⟨v0,v1,rfl,g0,g1⟩
theorem k63_mk (w:World) (x:S63) {A0:Option Addr} {c0:Nat} (l0:x.f0.length≤c0) (g0:(Kd.int .i64).C w A0 x.f0.length x.f0) {A1:Option Addr} {c1:Nat} (l1:x.f1.length≤c1) (g1:(Kd.int .i64).C w A1 x.f1.length x.f1):k63.K w x [.slice A0 x.f0.length c0,.slice A1 x.f1.length c1]:=⟨[.slice A0 x.f0.length c0],[.slice A1 x.f1.length c1],rfl,⟨A0,c0,rfl,l0,g0⟩,⟨A1,c1,rfl,l1,g1⟩⟩
theorem k63_mkM (w:World) (base:Nat) (ok:Nat→Prop) (x:S63) {v0:Value} (g0:(Kd.int .i64).R 3 w base ok v0 x.f0) {v1:Value} (g1:(Kd.int .i64).R 3 w base ok v1 x.f1):k63.M w base ok x [v0,v1]:=⟨[v0],[v1],rfl,⟨v0,rfl,g0⟩,⟨v1,rfl,g1⟩⟩
theorem k63_openF {W:World} {ok:Nat→Prop} {x:S63} {cs:List Value} (h:Kd.FK k63 W ok x cs):∃ A0 c0 A1 c1,cs=[.slice A0 x.f0.length c0,.slice A1 x.f1.length c1]∧x.f0.length≤c0∧Kd.F (Kd.int .i64) W ok A0 x.f0.length x.f0∧x.f1.length≤c1∧Kd.F (Kd.int .i64) W ok A1 x.f1.length x.f1:=by
 obtain ⟨A0,c0,A1,c1,rfl,l0,_,l1,_⟩:=k63_open (Kd.FK_now h);exact ⟨A0,c0,A1,c1,rfl,l0,(fun W' hW=>by obtain ⟨A0_,c0_,A1_,c1_,he,l0_,g0_,l1_,g1_⟩:=k63_open (h W' hW);injection (Option.some.inj (show some (Value.slice A0 x.f0.length c0)=some (Value.slice A0_ x.f0.length c0_) from congrArg (fun l=>l[0]?) he)) with ha_ _ _;rw [ha_];exact g0_),l1,(fun W' hW=>by obtain ⟨A0_,c0_,A1_,c1_,he,l0_,g0_,l1_,g1_⟩:=k63_open (h W' hW);injection (Option.some.inj (show some (Value.slice A1 x.f1.length c1)=some (Value.slice A1_ x.f1.length c1_) from congrArg (fun l=>l[1]?) he)) with ha_ _ _;rw [ha_];exact g1_)⟩
theorem k63_mkF (W:World) (ok:Nat→Prop) (x:S63) {A0:Option Addr} {c0:Nat} (l0:x.f0.length≤c0) (g0:Kd.F (Kd.int .i64) W ok A0 x.f0.length x.f0) {A1:Option Addr} {c1:Nat} (l1:x.f1.length≤c1) (g1:Kd.F (Kd.int .i64) W ok A1 x.f1.length x.f1):Kd.FK k63 W ok x [.slice A0 x.f0.length c0,.slice A1 x.f1.length c1]:=fun W2 hW=>k63_mk W2 x l0 (g0 W2 hW) l1 (g1 W2 hW)
def rd_T63 (xs:List S63) (i:Int):S63:=xs.getD i.toNat z63
theorem at_T63 {w:World} {A:Option Addr} {n:Nat} {xs:List S63} (h:Kd.C k63 w A n xs) (i:Int) (h0:0≤i) (h1:i<n):∃ ad A0 c0 A1 c1,A=some ad∧w.cell? (ad.add (i.toNat * 2))=some (.slice A0 (rd_T63 xs i).f0.length c0)∧w.cell? ⟨(ad.add (i.toNat * 2)).block,(ad.add (i.toNat * 2)).off+1,none⟩=some (.slice A1 (rd_T63 xs i).f1.length c1)∧(rd_T63 xs i).f0.length≤c0∧(Kd.int .i64).C w A0 (rd_T63 xs i).f0.length (rd_T63 xs i).f0∧(rd_T63 xs i).f1.length≤c1∧(Kd.int .i64).C w A1 (rd_T63 xs i).f1.length (rd_T63 xs i).f1:=by
 obtain ⟨ad,c,e,_,hK,hc0⟩:=Kd.C_get h z63 i h0 h1;have hc:∀ j u,c[j]?=some u→w.cell? (ad.add (i.toNat * 2+j))=some u:=hc0;obtain ⟨A0,c0,A1,c1,rfl,l0,g0,l1,g1⟩:=k63_open hK;exact ⟨ad,A0,c0,A1,c1,e,hc 0 _ rfl,by rw [← add_field _ _ 1 (by omega)];exact hc 1 _ rfl,l0,g0,l1,g1⟩
def rd_L3 (xs:List (List S63)) (i:Int):(List S63):=xs.getD i.toNat ([]:List S63)
theorem at_L3 {w:World} {A:Option Addr} {n:Nat} {xs:List (List S63)} (h:Kd.C (Kd.slice 63 k63) w A n xs) (i:Int) (h0:0≤i) (h1:i<n):∃ ad A0 c0,A=some ad∧w.cell? (ad.add i.toNat)=some (.slice A0 (rd_L3 xs i).length c0)∧(rd_L3 xs i).length≤c0∧k63.C w A0 (rd_L3 xs i).length (rd_L3 xs i):=by
 obtain ⟨ad,c,e,_,hK,hc0⟩:=Kd.C_get h ([]:List S63) i h0 h1;have hc:∀ j u,c[j]?=some u→w.cell? (ad.add (i.toNat * 1+j))=some u:=hc0;obtain ⟨A0,c0,rfl,l0,g0⟩:=hK;exact ⟨ad,A0,c0,e,by have hq:=hc 0 _ rfl;rwa [Nat.mul_one,Nat.add_zero] at hq,l0,g0⟩
structure S103 where
 f0:Int
 f1:Int
 f2:Int
 f3:Int
def z103:S103:=⟨(0:Int),(0:Int),(0:Int),(0:Int)⟩
def k103:Kd S103:=Kd.iso (Kd.pair (Kd.int .i64) (Kd.pair (Kd.int .i64) (Kd.pair (Kd.int .i64) (Kd.int .i64)))) (fun x:S103=>(x.f0,x.f1,x.f2,x.f3))
theorem k103_heap:Kd.Heap k103:=Kd.heap_iso _ (Kd.heap_pair (Kd.heap_int .i64) (Kd.heap_pair (Kd.heap_int .i64) (Kd.heap_pair (Kd.heap_int .i64) (Kd.heap_int .i64))))
theorem k103_open {w:World} {x:S103} {cs:List Value} (h:k103.K w x cs):cs=[.int .i64 x.f0,.int .i64 x.f1,.int .i64 x.f2,.int .i64 x.f3]:=by
 obtain ⟨_,_,rfl,rfl,⟨_,_,rfl,rfl,⟨_,_,rfl,rfl,rfl⟩⟩⟩:=h;exact rfl
theorem k103_openM {w:World} {base:Nat} {ok:Nat→Prop} {x:S103} {cs:List Value} (h:k103.M w base ok x cs):cs=[.int .i64 x.f0,.int .i64 x.f1,.int .i64 x.f2,.int .i64 x.f3]:=by
 obtain ⟨_,_,rfl,rfl,⟨_,_,rfl,rfl,⟨_,_,rfl,rfl,rfl⟩⟩⟩:=h;exact rfl
theorem k103_mk (w:World) (x:S103) :k103.K w x [.int .i64 x.f0,.int .i64 x.f1,.int .i64 x.f2,.int .i64 x.f3]:=⟨[.int .i64 x.f0],[.int .i64 x.f1,.int .i64 x.f2,.int .i64 x.f3],rfl,rfl,⟨[.int .i64 x.f1],[.int .i64 x.f2,.int .i64 x.f3],rfl,rfl,⟨[.int .i64 x.f2],[.int .i64 x.f3],rfl,rfl,rfl⟩⟩⟩
theorem k103_mkM (w:World) (base:Nat) (ok:Nat→Prop) (x:S103) :k103.M w base ok x [.int .i64 x.f0,.int .i64 x.f1,.int .i64 x.f2,.int .i64 x.f3]:=⟨[.int .i64 x.f0],[.int .i64 x.f1,.int .i64 x.f2,.int .i64 x.f3],rfl,rfl,⟨[.int .i64 x.f1],[.int .i64 x.f2,.int .i64 x.f3],rfl,rfl,⟨[.int .i64 x.f2],[.int .i64 x.f3],rfl,rfl,rfl⟩⟩⟩
theorem k103_mkF (W:World) (ok:Nat→Prop) (x:S103):Kd.FK k103 W ok x [.int .i64 x.f0,.int .i64 x.f1,.int .i64 x.f2,.int .i64 x.f3]:=fun W2 _=>k103_mk W2 x
def rd_T103 (xs:List S103) (i:Int):S103:=xs.getD i.toNat z103
theorem at_T103 {w:World} {A:Option Addr} {n:Nat} {xs:List S103} (h:Kd.C k103 w A n xs) (i:Int) (h0:0≤i) (h1:i<n):∃ ad,A=some ad∧w.cell? (ad.add (i.toNat * 4))=some (.int .i64 (rd_T103 xs i).f0)∧w.cell? ⟨(ad.add (i.toNat * 4)).block,(ad.add (i.toNat * 4)).off+1,none⟩=some (.int .i64 (rd_T103 xs i).f1)∧w.cell? ⟨(ad.add (i.toNat * 4)).block,(ad.add (i.toNat * 4)).off+2,none⟩=some (.int .i64 (rd_T103 xs i).f2)∧w.cell? ⟨(ad.add (i.toNat * 4)).block,(ad.add (i.toNat * 4)).off+3,none⟩=some (.int .i64 (rd_T103 xs i).f3):=by
 obtain ⟨ad,c,e,_,hK,hc0⟩:=Kd.C_get h z103 i h0 h1;have hc:∀ j u,c[j]?=some u→w.cell? (ad.add (i.toNat * 4+j))=some u:=hc0;obtain rfl:=k103_open hK;exact ⟨ad,e,hc 0 _ rfl,by rw [← add_field _ _ 1 (by omega)];exact hc 1 _ rfl,by rw [← add_field _ _ 2 (by omega)];exact hc 2 _ rfl,by rw [← add_field _ _ 3 (by omega)];exact hc 3 _ rfl⟩
def rd_L5 (xs:List (List S103)) (i:Int):(List S103):=xs.getD i.toNat ([]:List S103)
theorem at_L5 {w:World} {A:Option Addr} {n:Nat} {xs:List (List S103)} (h:Kd.C (Kd.slice 103 k103) w A n xs) (i:Int) (h0:0≤i) (h1:i<n):∃ ad A0 c0,A=some ad∧w.cell? (ad.add i.toNat)=some (.slice A0 (rd_L5 xs i).length c0)∧(rd_L5 xs i).length≤c0∧k103.C w A0 (rd_L5 xs i).length (rd_L5 xs i):=by
 obtain ⟨ad,c,e,_,hK,hc0⟩:=Kd.C_get h ([]:List S103) i h0 h1;have hc:∀ j u,c[j]?=some u→w.cell? (ad.add (i.toNat * 1+j))=some u:=hc0;obtain ⟨A0,c0,rfl,l0,g0⟩:=hK;exact ⟨ad,A0,c0,e,by have hq:=hc 0 _ rfl;rwa [Nat.mul_one,Nat.add_zero] at hq,l0,g0⟩
structure S40 where
 f0:(List S103)
def z40:S40:=⟨([]:List S103)⟩
def k40:Kd S40:=Kd.iso (Kd.slice 103 k103) (fun x:S40=>x.f0)
theorem k40_heap:Kd.Heap k40:=Kd.heap_iso _ (Kd.heap_slice 103 k103_heap)
theorem k40_open {w:World} {x:S40} {cs:List Value} (h:k40.K w x cs):∃ A0 c0,cs=[.slice A0 x.f0.length c0]∧x.f0.length≤c0∧k103.C w A0 x.f0.length x.f0:=by
 obtain ⟨A0,c0,rfl,l0,g0⟩:=h;exact ⟨A0,c0,rfl,l0,g0⟩
theorem k40_openM {w:World} {base:Nat} {ok:Nat→Prop} {x:S40} {cs:List Value} (h:k40.M w base ok x cs):∃ v0,cs=[v0]∧k103.R 103 w base ok v0 x.f0:=by
 obtain ⟨v0,rfl,g0⟩:=h;exact ⟨v0,rfl,g0⟩
theorem k40_mk (w:World) (x:S40) {A0:Option Addr} {c0:Nat} (l0:x.f0.length≤c0) (g0:k103.C w A0 x.f0.length x.f0):k40.K w x [.slice A0 x.f0.length c0]:=⟨A0,c0,rfl,l0,g0⟩
theorem k40_mkM (w:World) (base:Nat) (ok:Nat→Prop) (x:S40) {v0:Value} (g0:k103.R 103 w base ok v0 x.f0):k40.M w base ok x [v0]:=⟨v0,rfl,g0⟩
theorem k40_openF {W:World} {ok:Nat→Prop} {x:S40} {cs:List Value} (h:Kd.FK k40 W ok x cs):∃ A0 c0,cs=[.slice A0 x.f0.length c0]∧x.f0.length≤c0∧Kd.F k103 W ok A0 x.f0.length x.f0:=by
 obtain ⟨A0,c0,rfl,l0,_⟩:=k40_open (Kd.FK_now h);exact ⟨A0,c0,rfl,l0,(fun W' hW=>by obtain ⟨A0_,c0_,he,l0_,g0_⟩:=k40_open (h W' hW);injection (Option.some.inj (show some (Value.slice A0 x.f0.length c0)=some (Value.slice A0_ x.f0.length c0_) from congrArg (fun l=>l[0]?) he)) with ha_ _ _;rw [ha_];exact g0_)⟩
theorem k40_mkF (W:World) (ok:Nat→Prop) (x:S40) {A0:Option Addr} {c0:Nat} (l0:x.f0.length≤c0) (g0:Kd.F k103 W ok A0 x.f0.length x.f0):Kd.FK k40 W ok x [.slice A0 x.f0.length c0]:=fun W2 hW=>k40_mk W2 x l0 (g0 W2 hW)
def rd_T40 (xs:List S40) (i:Int):S40:=xs.getD i.toNat z40
theorem at_T40 {w:World} {A:Option Addr} {n:Nat} {xs:List S40} (h:Kd.C k40 w A n xs) (i:Int) (h0:0≤i) (h1:i<n):∃ ad A0 c0,A=some ad∧w.cell? (ad.add i.toNat)=some (.slice A0 (rd_T40 xs i).f0.length c0)∧(rd_T40 xs i).f0.length≤c0∧k103.C w A0 (rd_T40 xs i).f0.length (rd_T40 xs i).f0:=by
 obtain ⟨ad,c,e,_,hK,hc0⟩:=Kd.C_get h z40 i h0 h1;have hc:∀ j u,c[j]?=some u→w.cell? (ad.add (i.toNat * 1+j))=some u:=hc0;obtain ⟨A0,c0,rfl,l0,g0⟩:=k40_open hK;exact ⟨ad,A0,c0,e,by have hq:=hc 0 _ rfl;rwa [Nat.mul_one,Nat.add_zero] at hq,l0,g0⟩
structure S42 where
 f0:Int
 f1:Int
 f2:Int
 f3:Int
 f4:Int
 f5:S40
def z42:S42:=⟨(0:Int),(0:Int),(0:Int),(0:Int),(0:Int),z40⟩
def k42:Kd S42:=Kd.iso (Kd.pair (Kd.int .i64) (Kd.pair (Kd.int .i64) (Kd.pair (Kd.int .i64) (Kd.pair (Kd.int .i64) (Kd.pair (Kd.int .i64) k40))))) (fun x:S42=>(x.f0,x.f1,x.f2,x.f3,x.f4,x.f5))
theorem k42_heap:Kd.Heap k42:=Kd.heap_iso _ (Kd.heap_pair (Kd.heap_int .i64) (Kd.heap_pair (Kd.heap_int .i64) (Kd.heap_pair (Kd.heap_int .i64) (Kd.heap_pair (Kd.heap_int .i64) (Kd.heap_pair (Kd.heap_int .i64) k40_heap)))))
theorem k42_open {w:World} {x:S42} {cs:List Value} (h:k42.K w x cs):∃ A5 c5,cs=[.int .i64 x.f0,.int .i64 x.f1,.int .i64 x.f2,.int .i64 x.f3,.int .i64 x.f4,.slice A5 x.f5.f0.length c5]∧x.f5.f0.length≤c5∧k103.C w A5 x.f5.f0.length x.f5.f0:=by
 obtain ⟨_,_,rfl,rfl,⟨_,_,rfl,rfl,⟨_,_,rfl,rfl,⟨_,_,rfl,rfl,⟨_,_,rfl,rfl,s5⟩⟩⟩⟩⟩:=h;obtain ⟨A5,c5,rfl,l5,g5⟩:=k40_open s5;exact ⟨A5,c5,rfl,l5,g5⟩
theorem k42_openM {w:World} {base:Nat} {ok:Nat→Prop} {x:S42} {cs:List Value} (h:k42.M w base ok x cs):∃ v5,cs=[.int .i64 x.f0,.int .i64 x.f1,.int .i64 x.f2,.int .i64 x.f3,.int .i64 x.f4,v5]∧k103.R 103 w base ok v5 x.f5.f0:=by
 obtain ⟨_,_,rfl,rfl,⟨_,_,rfl,rfl,⟨_,_,rfl,rfl,⟨_,_,rfl,rfl,⟨_,_,rfl,rfl,s5⟩⟩⟩⟩⟩:=h;obtain ⟨v5,rfl,g5⟩:=k40_openM s5;exact ⟨v5,rfl,g5⟩
theorem k42_mk (w:World) (x:S42) {A5:Option Addr} {c5:Nat} (l5:x.f5.f0.length≤c5) (g5:k103.C w A5 x.f5.f0.length x.f5.f0):k42.K w x [.int .i64 x.f0,.int .i64 x.f1,.int .i64 x.f2,.int .i64 x.f3,.int .i64 x.f4,.slice A5 x.f5.f0.length c5]:=⟨[.int .i64 x.f0],[.int .i64 x.f1,.int .i64 x.f2,.int .i64 x.f3,.int .i64 x.f4,.slice A5 x.f5.f0.length c5],rfl,rfl,⟨[.int .i64 x.f1],[.int .i64 x.f2,.int .i64 x.f3,.int .i64 x.f4,.slice A5 x.f5.f0.length c5],rfl,rfl,⟨[.int .i64 x.f2],[.int .i64 x.f3,.int .i64 x.f4,.slice A5 x.f5.f0.length c5],rfl,rfl,⟨[.int .i64 x.f3],[.int .i64 x.f4,.slice A5 x.f5.f0.length c5],rfl,rfl,⟨[.int .i64 x.f4],[.slice A5 x.f5.f0.length c5],rfl,rfl,(k40_mk w x.f5 l5 g5)⟩⟩⟩⟩⟩
theorem k42_mkM (w:World) (base:Nat) (ok:Nat→Prop) (x:S42) {v5:Value} (g5:k103.R 103 w base ok v5 x.f5.f0):k42.M w base ok x [.int .i64 x.f0,.int .i64 x.f1,.int .i64 x.f2,.int .i64 x.f3,.int .i64 x.f4,v5]:=⟨[.int .i64 x.f0],[.int .i64 x.f1,.int .i64 x.f2,.int .i64 x.f3,.int .i64 x.f4,v5],rfl,rfl,⟨[.int .i64 x.f1],[.int .i64 x.f2,.int .i64 x.f3,.int .i64 x.f4,v5],rfl,rfl,⟨[.int .i64 x.f2],[.int .i64 x.f3,.int .i64 x.f4,v5],rfl,rfl,⟨[.int .i64 x.f3],[.int .i64 x.f4,v5],rfl,rfl,⟨[.int .i64 x.f4],[v5],rfl,rfl,(k40_mkM w base ok x.f5 g5)⟩⟩⟩⟩⟩
theorem k42_openF {W:World} {ok:Nat→Prop} {x:S42} {cs:List Value} (h:Kd.FK k42 W ok x cs):∃ A5 c5,cs=[.int .i64 x.f0,.int .i64 x.f1,.int .i64 x.f2,.int .i64 x.f3,.int .i64 x.f4,.slice A5 x.f5.f0.length c5]∧x.f5.f0.length≤c5∧Kd.F k103 W ok A5 x.f5.f0.length x.f5.f0:=by
 obtain ⟨A5,c5,rfl,l5,_⟩:=k42_open (Kd.FK_now h);exact ⟨A5,c5,rfl,l5,(fun W' hW=>by obtain ⟨A5_,c5_,he,l5_,g5_⟩:=k42_open (h W' hW);injection (Option.some.inj (show some (Value.slice A5 x.f5.f0.length c5)=some (Value.slice A5_ x.f5.f0.length c5_) from congrArg (fun l=>l[5]?) he)) with ha_ _ _;rw [ha_];exact g5_)⟩
theorem k42_mkF (W:World) (ok:Nat→Prop) (x:S42) {A5:Option Addr} {c5:Nat} (l5:x.f5.f0.length≤c5) (g5:Kd.F k103 W ok A5 x.f5.f0.length x.f5.f0):Kd.FK k42 W ok x [.int .i64 x.f0,.int .i64 x.f1,.int .i64 x.f2,.int .i64 x.f3,.int .i64 x.f4,.slice A5 x.f5.f0.length c5]:=fun W2 hW=>k42_mk W2 x l5 (g5 W2 hW)
def rd_T42 (xs:List S42) (i:Int):S42:=xs.getD i.toNat z42
theorem at_T42 {w:World} {A:Option Addr} {n:Nat} {xs:List S42} (h:Kd.C k42 w A n xs) (i:Int) (h0:0≤i) (h1:i<n):∃ ad A5 c5,A=some ad∧w.cell? (ad.add (i.toNat * 6))=some (.int .i64 (rd_T42 xs i).f0)∧w.cell? ⟨(ad.add (i.toNat * 6)).block,(ad.add (i.toNat * 6)).off+1,none⟩=some (.int .i64 (rd_T42 xs i).f1)∧w.cell? ⟨(ad.add (i.toNat * 6)).block,(ad.add (i.toNat * 6)).off+2,none⟩=some (.int .i64 (rd_T42 xs i).f2)∧w.cell? ⟨(ad.add (i.toNat * 6)).block,(ad.add (i.toNat * 6)).off+3,none⟩=some (.int .i64 (rd_T42 xs i).f3)∧w.cell? ⟨(ad.add (i.toNat * 6)).block,(ad.add (i.toNat * 6)).off+4,none⟩=some (.int .i64 (rd_T42 xs i).f4)∧w.cell? ⟨(ad.add (i.toNat * 6)).block,(ad.add (i.toNat * 6)).off+5,none⟩=some (.slice A5 (rd_T42 xs i).f5.f0.length c5)∧(rd_T42 xs i).f5.f0.length≤c5∧k103.C w A5 (rd_T42 xs i).f5.f0.length (rd_T42 xs i).f5.f0:=by
 obtain ⟨ad,c,e,_,hK,hc0⟩:=Kd.C_get h z42 i h0 h1;have hc:∀ j u,c[j]?=some u→w.cell? (ad.add (i.toNat * 6+j))=some u:=hc0;obtain ⟨A5,c5,rfl,l5,g5⟩:=k42_open hK;exact ⟨ad,A5,c5,e,hc 0 _ rfl,by rw [← add_field _ _ 1 (by omega)];exact hc 1 _ rfl,by rw [← add_field _ _ 2 (by omega)];exact hc 2 _ rfl,by rw [← add_field _ _ 3 (by omega)];exact hc 3 _ rfl,by rw [← add_field _ _ 4 (by omega)];exact hc 4 _ rfl,by rw [← add_field _ _ 5 (by omega)];exact hc 5 _ rfl,l5,g5⟩
structure S53 where
 f0:Int
 f1:Int
 f2:Bool
def z53:S53:=⟨(0:Int),(0:Int),false⟩
def k53:Kd S53:=Kd.iso (Kd.pair (Kd.int .i64) (Kd.pair (Kd.int .i64) Kd.bool)) (fun x:S53=>(x.f0,x.f1,x.f2))
theorem k53_heap:Kd.Heap k53:=Kd.heap_iso _ (Kd.heap_pair (Kd.heap_int .i64) (Kd.heap_pair (Kd.heap_int .i64) Kd.heap_bool))
theorem k53_open {w:World} {x:S53} {cs:List Value} (h:k53.K w x cs):cs=[.int .i64 x.f0,.int .i64 x.f1,.bool x.f2]:=by
 obtain ⟨_,_,rfl,rfl,⟨_,_,rfl,rfl,rfl⟩⟩:=h;exact rfl
theorem k53_openM {w:World} {base:Nat} {ok:Nat→Prop} {x:S53} {cs:List Value} (h:k53.M w base ok x cs):cs=[.int .i64 x.f0,.int .i64 x.f1,.bool x.f2]:=by
 obtain ⟨_,_,rfl,rfl,⟨_,_,rfl,rfl,rfl⟩⟩:=h;exact rfl
theorem k53_mk (w:World) (x:S53) :k53.K w x [.int .i64 x.f0,.int .i64 x.f1,.bool x.f2]:=⟨[.int .i64 x.f0],[.int .i64 x.f1,.bool x.f2],rfl,rfl,⟨[.int .i64 x.f1],[.bool x.f2],rfl,rfl,rfl⟩⟩
theorem k53_mkM (w:World) (base:Nat) (ok:Nat→Prop) (x:S53) :k53.M w base ok x [.int .i64 x.f0,.int .i64 x.f1,.bool x.f2]:=⟨[.int .i64 x.f0],[.int .i64 x.f1,.bool x.f2],rfl,rfl,⟨[.int .i64 x.f1],[.bool x.f2],rfl,rfl,rfl⟩⟩
theorem k53_mkF (W:World) (ok:Nat→Prop) (x:S53):Kd.FK k53 W ok x [.int .i64 x.f0,.int .i64 x.f1,.bool x.f2]:=fun W2 _=>k53_mk W2 x
def rd_T53 (xs:List S53) (i:Int):S53:=xs.getD i.toNat z53
theorem at_T53 {w:World} {A:Option Addr} {n:Nat} {xs:List S53} (h:Kd.C k53 w A n xs) (i:Int) (h0:0≤i) (h1:i<n):∃ ad,A=some ad∧w.cell? (ad.add (i.toNat * 3))=some (.int .i64 (rd_T53 xs i).f0)∧w.cell? ⟨(ad.add (i.toNat * 3)).block,(ad.add (i.toNat * 3)).off+1,none⟩=some (.int .i64 (rd_T53 xs i).f1)∧w.cell? ⟨(ad.add (i.toNat * 3)).block,(ad.add (i.toNat * 3)).off+2,none⟩=some (.bool (rd_T53 xs i).f2):=by
 obtain ⟨ad,c,e,_,hK,hc0⟩:=Kd.C_get h z53 i h0 h1;have hc:∀ j u,c[j]?=some u→w.cell? (ad.add (i.toNat * 3+j))=some u:=hc0;obtain rfl:=k53_open hK;exact ⟨ad,e,hc 0 _ rfl,by rw [← add_field _ _ 1 (by omega)];exact hc 1 _ rfl,by rw [← add_field _ _ 2 (by omega)];exact hc 2 _ rfl⟩
end Go.Proofs.YtngpkbbljnbojaaGreat.L
