import Derived.Test.YtngpkbbljnbojaaIwb
import Derived.Test.YtngpkbbljnbojaaProg
import Derived.Below
import Derived.Deep.Draws
import Derived.Deep.AppendLies
import Derived.Maps.AppendAt
import Derived.OwnWalk
import Derived.Laws.BytesArg
import Derived.Laws.MakeOwn
import Derived.Laws.OwnMore
import Derived.Deep.OwnRows
import Derived.Tactics
import Derived.Lib.ConvBytes
import Derived.Laws.Slices
import Derived.WalkKit
import Derived.KernelRfl
import Derived.RowKit3
import Derived.Deep.LoopGhost
import Derived.Deep.QuietTactic
import Derived.BigQuiet
import Derived.WideLaws
import Derived.Deep.DeepCutAuto
import Derived.Deep.CutBlock
import Derived.Deep.RegionHeld3
import Derived.Laws.Rows
import Derived.Lib.AppendStr
import Derived.ArgAppend
import Derived.Laws.IdiomCopy
import Derived.OrdersHeld
import Derived.Laws.BitsLemmas
import Derived.RowKit
import Derived.Lib.SliceRun
import Derived.Laws.EntriesVeiled
import Derived.WalkMore
import Derived.Shelf.SlicesE.Delete
namespace Go.Proofs.Ytngpkbbljnbojaa.I
open Go.RowKit Go.Proofs.YtngpkbbljnbojaaW.PrintWords Go.Proofs.YtngpkbbljnbojaaW.PrintLast Go.Proofs.YtngpkbbljnbojaaW.PrintMore
attribute [local go_sem] max2_int min2_int max_two min_two max_three min_three max_four min_four
set_option linter.unusedVariables false
set_option linter.unusedSimpArgs false
def errW:Option Int→Value
 | none=>.nilIface
 | some c=>.iface 0 (.int .i64 c)
theorem errW_none:errW none=.nilIface:=rfl
theorem errW_some (c:Int):errW (some c)=.iface 0 (.int .i64 c):=rfl
theorem info3:(Try.prog.info? 3).map (fun i=>(i.zero,i.size,i.bytes))=some (some (.int .i64 0),1,8):=by kernel_rfl
theorem info4:(Try.prog.info? 4).map (fun i=>(i.zero,i.size,i.bytes))=some (some (.bool false),1,1):=by kernel_rfl
theorem info34:(Try.prog.info? 34).map (fun i=>(i.zero,i.size,i.bytes))=some (some (.agg #[(.slice none 0 0),(.slice none 0 0)]),2,48):=by kernel_rfl
theorem info59:(Try.prog.info? 59).map (fun i=>(i.zero,i.size,i.bytes))=some (some (.agg #[(.int .i64 0),(.int .i64 0),(.bool false)]),3,24):=by kernel_rfl
theorem info65:(Try.prog.info? 65).map (fun i=>(i.zero,i.size,i.bytes))=some (some (.agg #[(.int .i64 0),(.int .i64 0),(.int .i64 0),(.int .i64 0),(.int .i64 0),(.slice none 0 0)]),6,64):=by kernel_rfl
theorem info116:(Try.prog.info? 116).map (fun i=>(i.zero,i.size,i.bytes))=some (some (.agg #[(.int .i64 0),(.int .i64 0),(.int .i64 0),(.int .i64 0)]),4,32):=by kernel_rfl
def rd_L1 (xs:List (List Int)) (i:Int):(List Int):=xs.getD i.toNat ([]:List Int)
theorem at_L1 {w:World} {A:Option Addr} {n:Nat} {xs:List (List Int)} (h:Kd.C (Kd.slice 3 (Kd.int .i64)) w A n xs) (i:Int) (h0:0≤i) (h1:i<n):∃ ad A0 c0,A=some ad∧w.cell? (ad.add i.toNat)=some (.slice A0 (rd_L1 xs i).length c0)∧(rd_L1 xs i).length≤c0∧(Kd.int .i64).C w A0 (rd_L1 xs i).length (rd_L1 xs i):=by
 obtain ⟨ad,c,e,_,hK,hc0⟩:=Kd.C_get h ([]:List Int) i h0 h1;have hc:∀ j u,c[j]?=some u→w.cell? (ad.add (i.toNat * 1+j))=some u:=hc0;obtain ⟨A0,c0,rfl,l0,g0⟩:=hK;exact ⟨ad,A0,c0,e,by have hq:=hc 0 _ rfl;rwa [Nat.mul_one,Nat.add_zero] at hq,l0,g0⟩
structure S34 where
 f0:(List Int)
 f1:(List Int)
def z34:S34:=⟨([]:List Int),([]:List Int)⟩
def k34:Kd S34:=Kd.iso (Kd.pair (Kd.slice 3 (Kd.int .i64)) (Kd.slice 3 (Kd.int .i64))) (fun x:S34=>(x.f0,x.f1))
theorem k34_heap:Kd.Heap k34:=Kd.heap_iso _ (Kd.heap_pair (Kd.heap_slice 3 (Kd.heap_int .i64)) (Kd.heap_slice 3 (Kd.heap_int .i64)))
theorem k34_open {w:World} {x:S34} {cs:List Value} (h:k34.K w x cs):∃ A0 c0 A1 c1,cs=[.slice A0 x.f0.length c0,.slice A1 x.f1.length c1]∧x.f0.length≤c0∧(Kd.int .i64).C w A0 x.f0.length x.f0∧x.f1.length≤c1∧(Kd.int .i64).C w A1 x.f1.length x.f1:=by
 obtain ⟨_,_,rfl,⟨A0,c0,rfl,l0,g0⟩,⟨A1,c1,rfl,l1,g1⟩⟩:=h;exact ⟨A0,c0,A1,c1,rfl,l0,g0,l1,g1⟩
theorem k34_openM {w:World} {base:Nat} {ok:Nat→Prop} {x:S34} {cs:List Value} (h:k34.M w base ok x cs):∃ v0 v1,cs=[v0,v1]∧(Kd.int .i64).R 3 w base ok v0 x.f0∧(Kd.int .i64).R 3 w base ok v1 x.f1:=by
 obtain ⟨_,_,rfl,⟨v0,rfl,g0⟩,⟨v1,rfl,g1⟩⟩:=h;exact ⟨v0,v1,rfl,g0,g1⟩
theorem k34_mk (w:World) (x:S34) {A0:Option Addr} {c0:Nat} (l0:x.f0.length≤c0) (g0:(Kd.int .i64).C w A0 x.f0.length x.f0) {A1:Option Addr} {c1:Nat} (l1:x.f1.length≤c1) (g1:(Kd.int .i64).C w A1 x.f1.length x.f1):k34.K w x [.slice A0 x.f0.length c0,.slice A1 x.f1.length c1]:=⟨[.slice A0 x.f0.length c0],[.slice A1 x.f1.length c1],rfl,⟨A0,c0,rfl,l0,g0⟩,⟨A1,c1,rfl,l1,g1⟩⟩
theorem k34_mkM (w:World) (base:Nat) (ok:Nat→Prop) (x:S34) {v0:Value} (g0:(Kd.int .i64).R 3 w base ok v0 x.f0) {v1:Value} (g1:(Kd.int .i64).R 3 w base ok v1 x.f1):k34.M w base ok x [v0,v1]:=⟨[v0],[v1],rfl,⟨v0,rfl,g0⟩,⟨v1,rfl,g1⟩⟩
theorem k34_openF {W:World} {ok:Nat→Prop} {x:S34} {cs:List Value} (h:Kd.FK k34 W ok x cs):∃ A0 c0 A1 c1,cs=[.slice A0 x.f0.length c0,.slice A1 x.f1.length c1]∧x.f0.length≤c0∧Kd.F (Kd.int .i64) W ok A0 x.f0.length x.f0∧x.f1.length≤c1∧Kd.F (Kd.int .i64) W ok A1 x.f1.length x.f1:=by
 obtain ⟨A0,c0,A1,c1,rfl,l0,_,l1,_⟩:=k34_open (Kd.FK_now h);exact ⟨A0,c0,A1,c1,rfl,l0,(fun W' hW=>by obtain ⟨A0_,c0_,A1_,c1_,he,l0_,g0_,l1_,g1_⟩:=k34_open (h W' hW);injection (Option.some.inj (show some (Value.slice A0 x.f0.length c0)=some (Value.slice A0_ x.f0.length c0_) from congrArg (fun l=>l[0]?) he)) with ha_ _ _;rw [ha_];exact g0_),l1,(fun W' hW=>by obtain ⟨A0_,c0_,A1_,c1_,he,l0_,g0_,l1_,g1_⟩:=k34_open (h W' hW);injection (Option.some.inj (show some (Value.slice A1 x.f1.length c1)=some (Value.slice A1_ x.f1.length c1_) from congrArg (fun l=>l[1]?) he)) with ha_ _ _;rw [ha_];exact g1_)⟩
theorem k34_mkF (W:World) (ok:Nat→Prop) (x:S34) {A0:Option Addr} {c0:Nat} (l0:x.f0.length≤c0) (g0:Kd.F (Kd.int .i64) W ok A0 x.f0.length x.f0) {A1:Option Addr} {c1:Nat} (l1:x.f1.length≤c1) (g1:Kd.F (Kd.int .i64) W ok A1 x.f1.length x.f1):Kd.FK k34 W ok x [.slice A0 x.f0.length c0,.slice A1 x.f1.length c1]:=fun W2 hW=>k34_mk W2 x l0 (g0 W2 hW) l1 (g1 W2 hW)
def rd_T34 (xs:List S34) (i:Int):S34:=xs.getD i.toNat z34
theorem at_T34 {w:World} {A:Option Addr} {n:Nat} {xs:List S34} (h:Kd.C k34 w A n xs) (i:Int) (h0:0≤i) (h1:i<n):∃ ad A0 c0 A1 c1,A=some ad∧w.cell? (ad.add (i.toNat * 2))=some (.slice A0 (rd_T34 xs i).f0.length c0)∧w.cell? ⟨(ad.add (i.toNat * 2)).block,(ad.add (i.toNat * 2)).off+1,none⟩=some (.slice A1 (rd_T34 xs i).f1.length c1)∧(rd_T34 xs i).f0.length≤c0∧(Kd.int .i64).C w A0 (rd_T34 xs i).f0.length (rd_T34 xs i).f0∧(rd_T34 xs i).f1.length≤c1∧(Kd.int .i64).C w A1 (rd_T34 xs i).f1.length (rd_T34 xs i).f1:=by
 obtain ⟨ad,c,e,_,hK,hc0⟩:=Kd.C_get h z34 i h0 h1;have hc:∀ j u,c[j]?=some u→w.cell? (ad.add (i.toNat * 2+j))=some u:=hc0;obtain ⟨A0,c0,A1,c1,rfl,l0,g0,l1,g1⟩:=k34_open hK;exact ⟨ad,A0,c0,A1,c1,e,hc 0 _ rfl,by rw [← add_field _ _ 1 (by omega)];exact hc 1 _ rfl,l0,g0,l1,g1⟩
def rd_L3 (xs:List (List S34)) (i:Int):(List S34):=xs.getD i.toNat ([]:List S34)
theorem at_L3 {w:World} {A:Option Addr} {n:Nat} {xs:List (List S34)} (h:Kd.C (Kd.slice 34 k34) w A n xs) (i:Int) (h0:0≤i) (h1:i<n):∃ ad A0 c0,A=some ad∧w.cell? (ad.add i.toNat)=some (.slice A0 (rd_L3 xs i).length c0)∧(rd_L3 xs i).length≤c0∧k34.C w A0 (rd_L3 xs i).length (rd_L3 xs i):=by
 obtain ⟨ad,c,e,_,hK,hc0⟩:=Kd.C_get h ([]:List S34) i h0 h1;have hc:∀ j u,c[j]?=some u→w.cell? (ad.add (i.toNat * 1+j))=some u:=hc0;obtain ⟨A0,c0,rfl,l0,g0⟩:=hK;exact ⟨ad,A0,c0,e,by have hq:=hc 0 _ rfl;rwa [Nat.mul_one,Nat.add_zero] at hq,l0,g0⟩
structure S59 where
 f0:Int
 f1:Int
 f2:Bool
def z59:S59:=⟨(0:Int),(0:Int),false⟩
def k59:Kd S59:=Kd.iso (Kd.pair (Kd.int .i64) (Kd.pair (Kd.int .i64) Kd.bool)) (fun x:S59=>(x.f0,x.f1,x.f2))
theorem k59_heap:Kd.Heap k59:=Kd.heap_iso _ (Kd.heap_pair (Kd.heap_int .i64) (Kd.heap_pair (Kd.heap_int .i64) Kd.heap_bool))
theorem k59_open {w:World} {x:S59} {cs:List Value} (h:k59.K w x cs):cs=[.int .i64 x.f0,.int .i64 x.f1,.bool x.f2]:=by
 obtain ⟨_,_,rfl,rfl,⟨_,_,rfl,rfl,rfl⟩⟩:=h;exact rfl
theorem k59_openM {w:World} {base:Nat} {ok:Nat→Prop} {x:S59} {cs:List Value} (h:k59.M w base ok x cs):cs=[.int .i64 x.f0,.int .i64 x.f1,.bool x.f2]:=by
 obtain ⟨_,_,rfl,rfl,⟨_,_,rfl,rfl,rfl⟩⟩:=h;exact rfl
theorem k59_mk (w:World) (x:S59) :k59.K w x [.int .i64 x.f0,.int .i64 x.f1,.bool x.f2]:=⟨[.int .i64 x.f0],[.int .i64 x.f1,.bool x.f2],rfl,rfl,⟨[.int .i64 x.f1],[.bool x.f2],rfl,rfl,rfl⟩⟩
theorem k59_mkM (w:World) (base:Nat) (ok:Nat→Prop) (x:S59) :k59.M w base ok x [.int .i64 x.f0,.int .i64 x.f1,.bool x.f2]:=⟨[.int .i64 x.f0],[.int .i64 x.f1,.bool x.f2],rfl,rfl,⟨[.int .i64 x.f1],[.bool x.f2],rfl,rfl,rfl⟩⟩
theorem k59_mkF (W:World) (ok:Nat→Prop) (x:S59):Kd.FK k59 W ok x [.int .i64 x.f0,.int .i64 x.f1,.bool x.f2]:=fun W2 _=>k59_mk W2 x
def rd_T59 (xs:List S59) (i:Int):S59:=xs.getD i.toNat z59
theorem at_T59 {w:World} {A:Option Addr} {n:Nat} {xs:List S59} (h:Kd.C k59 w A n xs) (i:Int) (h0:0≤i) (h1:i<n):∃ ad,A=some ad∧w.cell? (ad.add (i.toNat * 3))=some (.int .i64 (rd_T59 xs i).f0)∧w.cell? ⟨(ad.add (i.toNat * 3)).block,(ad.add (i.toNat * 3)).off+1,none⟩=some (.int .i64 (rd_T59 xs i).f1)∧w.cell? ⟨(ad.add (i.toNat * 3)).block,(ad.add (i.toNat * 3)).off+2,none⟩=some (.bool (rd_T59 xs i).f2):=by
 obtain ⟨ad,c,e,_,hK,hc0⟩:=Kd.C_get h z59 i h0 h1;have hc:∀ j u,c[j]?=some u→w.cell? (ad.add (i.toNat * 3+j))=some u:=hc0;obtain rfl:=k59_open hK;exact ⟨ad,e,hc 0 _ rfl,by rw [← add_field _ _ 1 (by omega)];exact hc 1 _ rfl,by rw [← add_field _ _ 2 (by omega)];exact hc 2 _ rfl⟩
structure S116 where
 f0:Int
 f1:Int
 f2:Int
 f3:Int
def z116:S116:=⟨(0:Int),(0:Int),(0:Int),(0:Int)⟩
def k116:Kd S116:=Kd.iso (Kd.pair (Kd.int .i64) (Kd.pair (Kd.int .i64) (Kd.pair (Kd.int .i64) (Kd.int .i64)))) (fun x:S116=>(x.f0,x.f1,x.f2,x.f3))
theorem k116_heap:Kd.Heap k116:=Kd.heap_iso _ (Kd.heap_pair (Kd.heap_int .i64) (Kd.heap_pair (Kd.heap_int .i64) (Kd.heap_pair (Kd.heap_int .i64) (Kd.heap_int .i64))))
theorem k116_open {w:World} {x:S116} {cs:List Value} (h:k116.K w x cs):cs=[.int .i64 x.f0,.int .i64 x.f1,.int .i64 x.f2,.int .i64 x.f3]:=by
 obtain ⟨_,_,rfl,rfl,⟨_,_,rfl,rfl,⟨_,_,rfl,rfl,rfl⟩⟩⟩:=h;exact rfl
theorem k116_openM {w:World} {base:Nat} {ok:Nat→Prop} {x:S116} {cs:List Value} (h:k116.M w base ok x cs):cs=[.int .i64 x.f0,.int .i64 x.f1,.int .i64 x.f2,.int .i64 x.f3]:=by
 obtain ⟨_,_,rfl,rfl,⟨_,_,rfl,rfl,⟨_,_,rfl,rfl,rfl⟩⟩⟩:=h;exact rfl
theorem k116_mk (w:World) (x:S116) :k116.K w x [.int .i64 x.f0,.int .i64 x.f1,.int .i64 x.f2,.int .i64 x.f3]:=⟨[.int .i64 x.f0],[.int .i64 x.f1,.int .i64 x.f2,.int .i64 x.f3],rfl,rfl,⟨[.int .i64 x.f1],[.int .i64 x.f2,.int .i64 x.f3],rfl,rfl,⟨[.int .i64 x.f2],[.int .i64 x.f3],rfl,rfl,rfl⟩⟩⟩
theorem k116_mkM (w:World) (base:Nat) (ok:Nat→Prop) (x:S116) :k116.M w base ok x [.int .i64 x.f0,.int .i64 x.f1,.int .i64 x.f2,.int .i64 x.f3]:=⟨[.int .i64 x.f0],[.int .i64 x.f1,.int .i64 x.f2,.int .i64 x.f3],rfl,rfl,⟨[.int .i64 x.f1],[.int .i64 x.f2,.int .i64 x.f3],rfl,rfl,⟨[.int .i64 x.f2],[.int .i64 x.f3],rfl,rfl,rfl⟩⟩⟩
theorem k116_mkF (W:World) (ok:Nat→Prop) (x:S116):Kd.FK k116 W ok x [.int .i64 x.f0,.int .i64 x.f1,.int .i64 x.f2,.int .i64 x.f3]:=fun W2 _=>k116_mk W2 x
def rd_T116 (xs:List S116) (i:Int):S116:=xs.getD i.toNat z116
theorem at_T116 {w:World} {A:Option Addr} {n:Nat} {xs:List S116} (h:Kd.C k116 w A n xs) (i:Int) (h0:0≤i) (h1:i<n):∃ ad,A=some ad∧w.cell? (ad.add (i.toNat * 4))=some (.int .i64 (rd_T116 xs i).f0)∧w.cell? ⟨(ad.add (i.toNat * 4)).block,(ad.add (i.toNat * 4)).off+1,none⟩=some (.int .i64 (rd_T116 xs i).f1)∧w.cell? ⟨(ad.add (i.toNat * 4)).block,(ad.add (i.toNat * 4)).off+2,none⟩=some (.int .i64 (rd_T116 xs i).f2)∧w.cell? ⟨(ad.add (i.toNat * 4)).block,(ad.add (i.toNat * 4)).off+3,none⟩=some (.int .i64 (rd_T116 xs i).f3):=by
 obtain ⟨ad,c,e,_,hK,hc0⟩:=Kd.C_get h z116 i h0 h1;have hc:∀ j u,c[j]?=some u→w.cell? (ad.add (i.toNat * 4+j))=some u:=hc0;obtain rfl:=k116_open hK;exact ⟨ad,e,hc 0 _ rfl,by rw [← add_field _ _ 1 (by omega)];exact hc 1 _ rfl,by rw [← add_field _ _ 2 (by omega)];exact hc 2 _ rfl,by rw [← add_field _ _ 3 (by omega)];exact hc 3 _ rfl⟩
def rd_L7 (xs:List (List S116)) (i:Int):(List S116):=xs.getD i.toNat ([]:List S116)
theorem at_L7 {w:World} {A:Option Addr} {n:Nat} {xs:List (List S116)} (h:Kd.C (Kd.slice 116 k116) w A n xs) (i:Int) (h0:0≤i) (h1:i<n):∃ ad A0 c0,A=some ad∧w.cell? (ad.add i.toNat)=some (.slice A0 (rd_L7 xs i).length c0)∧(rd_L7 xs i).length≤c0∧k116.C w A0 (rd_L7 xs i).length (rd_L7 xs i):=by
 obtain ⟨ad,c,e,_,hK,hc0⟩:=Kd.C_get h ([]:List S116) i h0 h1;have hc:∀ j u,c[j]?=some u→w.cell? (ad.add (i.toNat * 1+j))=some u:=hc0;obtain ⟨A0,c0,rfl,l0,g0⟩:=hK;exact ⟨ad,A0,c0,e,by have hq:=hc 0 _ rfl;rwa [Nat.mul_one,Nat.add_zero] at hq,l0,g0⟩
structure S63 where
 f0:(List S116)
def z63:S63:=⟨([]:List S116)⟩
def k63:Kd S63:=Kd.iso (Kd.slice 116 k116) (fun x:S63=>x.f0)
theorem k63_heap:Kd.Heap k63:=Kd.heap_iso _ (Kd.heap_slice 116 k116_heap)
theorem k63_open {w:World} {x:S63} {cs:List Value} (h:k63.K w x cs):∃ A0 c0,cs=[.slice A0 x.f0.length c0]∧x.f0.length≤c0∧k116.C w A0 x.f0.length x.f0:=by
 obtain ⟨A0,c0,rfl,l0,g0⟩:=h;exact ⟨A0,c0,rfl,l0,g0⟩
theorem k63_openM {w:World} {base:Nat} {ok:Nat→Prop} {x:S63} {cs:List Value} (h:k63.M w base ok x cs):∃ v0,cs=[v0]∧k116.R 116 w base ok v0 x.f0:=by
 obtain ⟨v0,rfl,g0⟩:=h;exact ⟨v0,rfl,g0⟩
theorem k63_mk (w:World) (x:S63) {A0:Option Addr} {c0:Nat} (l0:x.f0.length≤c0) (g0:k116.C w A0 x.f0.length x.f0):k63.K w x [.slice A0 x.f0.length c0]:=⟨A0,c0,rfl,l0,g0⟩
theorem k63_mkM (w:World) (base:Nat) (ok:Nat→Prop) (x:S63) {v0:Value} (g0:k116.R 116 w base ok v0 x.f0):k63.M w base ok x [v0]:=⟨v0,rfl,g0⟩
theorem k63_openF {W:World} {ok:Nat→Prop} {x:S63} {cs:List Value} (h:Kd.FK k63 W ok x cs):∃ A0 c0,cs=[.slice A0 x.f0.length c0]∧x.f0.length≤c0∧Kd.F k116 W ok A0 x.f0.length x.f0:=by
 obtain ⟨A0,c0,rfl,l0,_⟩:=k63_open (Kd.FK_now h);exact ⟨A0,c0,rfl,l0,(fun W' hW=>by obtain ⟨A0_,c0_,he,l0_,g0_⟩:=k63_open (h W' hW);injection (Option.some.inj (show some (Value.slice A0 x.f0.length c0)=some (Value.slice A0_ x.f0.length c0_) from congrArg (fun l=>l[0]?) he)) with ha_ _ _;rw [ha_];exact g0_)⟩
theorem k63_mkF (W:World) (ok:Nat→Prop) (x:S63) {A0:Option Addr} {c0:Nat} (l0:x.f0.length≤c0) (g0:Kd.F k116 W ok A0 x.f0.length x.f0):Kd.FK k63 W ok x [.slice A0 x.f0.length c0]:=fun W2 hW=>k63_mk W2 x l0 (g0 W2 hW)
def rd_T63 (xs:List S63) (i:Int):S63:=xs.getD i.toNat z63
theorem at_T63 {w:World} {A:Option Addr} {n:Nat} {xs:List S63} (h:Kd.C k63 w A n xs) (i:Int) (h0:0≤i) (h1:i<n):∃ ad A0 c0,A=some ad∧w.cell? (ad.add i.toNat)=some (.slice A0 (rd_T63 xs i).f0.length c0)∧(rd_T63 xs i).f0.length≤c0∧k116.C w A0 (rd_T63 xs i).f0.length (rd_T63 xs i).f0:=by
 obtain ⟨ad,c,e,_,hK,hc0⟩:=Kd.C_get h z63 i h0 h1;have hc:∀ j u,c[j]?=some u→w.cell? (ad.add (i.toNat * 1+j))=some u:=hc0;obtain ⟨A0,c0,rfl,l0,g0⟩:=k63_open hK;exact ⟨ad,A0,c0,e,by have hq:=hc 0 _ rfl;rwa [Nat.mul_one,Nat.add_zero] at hq,l0,g0⟩
structure S65 where
 f0:Int
 f1:Int
 f2:Int
 f3:Int
 f4:Int
 f5:S63
def z65:S65:=⟨(0:Int),(0:Int),(0:Int),(0:Int),(0:Int),z63⟩
def k65:Kd S65:=Kd.iso (Kd.pair (Kd.int .i64) (Kd.pair (Kd.int .i64) (Kd.pair (Kd.int .i64) (Kd.pair (Kd.int .i64) (Kd.pair (Kd.int .i64) k63))))) (fun x:S65=>(x.f0,x.f1,x.f2,x.f3,x.f4,x.f5))
theorem k65_heap:Kd.Heap k65:=Kd.heap_iso _ (Kd.heap_pair (Kd.heap_int .i64) (Kd.heap_pair (Kd.heap_int .i64) (Kd.heap_pair (Kd.heap_int .i64) (Kd.heap_pair (Kd.heap_int .i64) (Kd.heap_pair (Kd.heap_int .i64) k63_heap)))))
theorem k65_open {w:World} {x:S65} {cs:List Value} (h:k65.K w x cs):∃ A5 c5,cs=[.int .i64 x.f0,.int .i64 x.f1,.int .i64 x.f2,.int .i64 x.f3,.int .i64 x.f4,.slice A5 x.f5.f0.length c5]∧x.f5.f0.length≤c5∧k116.C w A5 x.f5.f0.length x.f5.f0:=by
 obtain ⟨_,_,rfl,rfl,⟨_,_,rfl,rfl,⟨_,_,rfl,rfl,⟨_,_,rfl,rfl,⟨_,_,rfl,rfl,s5⟩⟩⟩⟩⟩:=h;obtain ⟨A5,c5,rfl,l5,g5⟩:=k63_open s5;exact ⟨A5,c5,rfl,l5,g5⟩
theorem k65_openM {w:World} {base:Nat} {ok:Nat→Prop} {x:S65} {cs:List Value} (h:k65.M w base ok x cs):∃ v5,cs=[.int .i64 x.f0,.int .i64 x.f1,.int .i64 x.f2,.int .i64 x.f3,.int .i64 x.f4,v5]∧k116.R 116 w base ok v5 x.f5.f0:=by
 obtain ⟨_,_,rfl,rfl,⟨_,_,rfl,rfl,⟨_,_,rfl,rfl,⟨_,_,rfl,rfl,⟨_,_,rfl,rfl,s5⟩⟩⟩⟩⟩:=h;obtain ⟨v5,rfl,g5⟩:=k63_openM s5;exact ⟨v5,rfl,g5⟩
theorem k65_mk (w:World) (x:S65) {A5:Option Addr} {c5:Nat} (l5:x.f5.f0.length≤c5) (g5:k116.C w A5 x.f5.f0.length x.f5.f0):k65.K w x [.int .i64 x.f0,.int .i64 x.f1,.int .i64 x.f2,.int .i64 x.f3,.int .i64 x.f4,.slice A5 x.f5.f0.length c5]:=⟨[.int .i64 x.f0],[.int .i64 x.f1,.int .i64 x.f2,.int .i64 x.f3,.int .i64 x.f4,.slice A5 x.f5.f0.length c5],rfl,rfl,⟨[.int .i64 x.f1],[.int .i64 x.f2,.int .i64 x.f3,.int .i64 x.f4,.slice A5 x.f5.f0.length c5],rfl,rfl,⟨[.int .i64 x.f2],[.int .i64 x.f3,.int .i64 x.f4,.slice A5 x.f5.f0.length c5],rfl,rfl,⟨[.int .i64 x.f3],[.int .i64 x.f4,.slice A5 x.f5.f0.length c5],rfl,rfl,⟨[.int .i64 x.f4],[.slice A5 x.f5.f0.length c5],rfl,rfl,(k63_mk w x.f5 l5 g5)⟩⟩⟩⟩⟩
theorem k65_mkM (w:World) (base:Nat) (ok:Nat→Prop) (x:S65) {v5:Value} (g5:k116.R 116 w base ok v5 x.f5.f0):k65.M w base ok x [.int .i64 x.f0,.int .i64 x.f1,.int .i64 x.f2,.int .i64 x.f3,.int .i64 x.f4,v5]:=⟨[.int .i64 x.f0],[.int .i64 x.f1,.int .i64 x.f2,.int .i64 x.f3,.int .i64 x.f4,v5],rfl,rfl,⟨[.int .i64 x.f1],[.int .i64 x.f2,.int .i64 x.f3,.int .i64 x.f4,v5],rfl,rfl,⟨[.int .i64 x.f2],[.int .i64 x.f3,.int .i64 x.f4,v5],rfl,rfl,⟨[.int .i64 x.f3],[.int .i64 x.f4,v5],rfl,rfl,⟨[.int .i64 x.f4],[v5],rfl,rfl,(k63_mkM w base ok x.f5 g5)⟩⟩⟩⟩⟩
theorem k65_openF {W:World} {ok:Nat→Prop} {x:S65} {cs:List Value} (h:Kd.FK k65 W ok x cs):∃ A5 c5,cs=[.int .i64 x.f0,.int .i64 x.f1,.int .i64 x.f2,.int .i64 x.f3,.int .i64 x.f4,.slice A5 x.f5.f0.length c5]∧x.f5.f0.length≤c5∧Kd.F k116 W ok A5 x.f5.f0.length x.f5.f0:=by
 obtain ⟨A5,c5,rfl,l5,_⟩:=k65_open (Kd.FK_now h);exact ⟨A5,c5,rfl,l5,(fun W' hW=>by obtain ⟨A5_,c5_,he,l5_,g5_⟩:=k65_open (h W' hW);injection (Option.some.inj (show some (Value.slice A5 x.f5.f0.length c5)=some (Value.slice A5_ x.f5.f0.length c5_) from congrArg (fun l=>l[5]?) he)) with ha_ _ _;rw [ha_];exact g5_)⟩
theorem k65_mkF (W:World) (ok:Nat→Prop) (x:S65) {A5:Option Addr} {c5:Nat} (l5:x.f5.f0.length≤c5) (g5:Kd.F k116 W ok A5 x.f5.f0.length x.f5.f0):Kd.FK k65 W ok x [.int .i64 x.f0,.int .i64 x.f1,.int .i64 x.f2,.int .i64 x.f3,.int .i64 x.f4,.slice A5 x.f5.f0.length c5]:=fun W2 hW=>k65_mk W2 x l5 (g5 W2 hW)
def rd_T65 (xs:List S65) (i:Int):S65:=xs.getD i.toNat z65
theorem at_T65 {w:World} {A:Option Addr} {n:Nat} {xs:List S65} (h:Kd.C k65 w A n xs) (i:Int) (h0:0≤i) (h1:i<n):∃ ad A5 c5,A=some ad∧w.cell? (ad.add (i.toNat * 6))=some (.int .i64 (rd_T65 xs i).f0)∧w.cell? ⟨(ad.add (i.toNat * 6)).block,(ad.add (i.toNat * 6)).off+1,none⟩=some (.int .i64 (rd_T65 xs i).f1)∧w.cell? ⟨(ad.add (i.toNat * 6)).block,(ad.add (i.toNat * 6)).off+2,none⟩=some (.int .i64 (rd_T65 xs i).f2)∧w.cell? ⟨(ad.add (i.toNat * 6)).block,(ad.add (i.toNat * 6)).off+3,none⟩=some (.int .i64 (rd_T65 xs i).f3)∧w.cell? ⟨(ad.add (i.toNat * 6)).block,(ad.add (i.toNat * 6)).off+4,none⟩=some (.int .i64 (rd_T65 xs i).f4)∧w.cell? ⟨(ad.add (i.toNat * 6)).block,(ad.add (i.toNat * 6)).off+5,none⟩=some (.slice A5 (rd_T65 xs i).f5.f0.length c5)∧(rd_T65 xs i).f5.f0.length≤c5∧k116.C w A5 (rd_T65 xs i).f5.f0.length (rd_T65 xs i).f5.f0:=by
 obtain ⟨ad,c,e,_,hK,hc0⟩:=Kd.C_get h z65 i h0 h1;have hc:∀ j u,c[j]?=some u→w.cell? (ad.add (i.toNat * 6+j))=some u:=hc0;obtain ⟨A5,c5,rfl,l5,g5⟩:=k65_open hK;exact ⟨ad,A5,c5,e,hc 0 _ rfl,by rw [← add_field _ _ 1 (by omega)];exact hc 1 _ rfl,by rw [← add_field _ _ 2 (by omega)];exact hc 2 _ rfl,by rw [← add_field _ _ 3 (by omega)];exact hc 3 _ rfl,by rw [← add_field _ _ 4 (by omega)];exact hc 4 _ rfl,by rw [← add_field _ _ 5 (by omega)];exact hc 5 _ rfl,l5,g5⟩
end Go.Proofs.Ytngpkbbljnbojaa.I
