-- Written by wip/tools/myprint.py, a program of this session's.
import Derived.Test.YtpojokndmkhpkaaMwb
import Derived.Test.YtpojokndmkhpkaaProg
import Derived.Below
import Derived.Deep.Draws
import Derived.Deep.AppendLies
import Derived.Maps.AppendAt
import Derived.OwnWalk
import Derived.Laws.BytesArg
import Derived.Laws.MakeOwn
import Derived.Laws.OwnMore
import Derived.Deep.OwnRows
import Derived.Tactics
import Derived.Lib.ConvBytes
import Derived.Laws.Slices
import Derived.WalkKit
import Derived.KernelRfl
import Derived.RowKit3
import Derived.Deep.LoopGhost
import Derived.Deep.QuietTactic
import Derived.BigQuiet
import Derived.WideLaws
import Derived.Deep.DeepCutAuto
import Derived.Deep.CutBlock
import Derived.Deep.RegionHeld3
import Derived.Laws.Rows
import Derived.Lib.AppendStr
import Derived.ArgAppend
import Derived.Laws.IdiomCopy
import Derived.OrdersHeld
import Derived.Laws.BitsLemmas
import Derived.RowKit
import Derived.Lib.SliceRun
import Derived.Laws.EntriesVeiled
import Derived.WalkMore
import Derived.Shelf.SlicesE.Delete
import Derived.Test.YtpojokndmkhpkaaXb
namespace Go.Proofs.Ytpojokndmkhpkaa.M
open Go.RowKit Go.Proofs.YtpojokndmkhpkaaW.PrintWords Go.Proofs.YtpojokndmkhpkaaW.PrintLast Go.Proofs.YtpojokndmkhpkaaW.PrintMore
attribute [local go_sem] max2_int min2_int max_two min_two max_three min_three max_four min_four   -- for this text's walks alone
set_option linter.unusedVariables false
set_option linter.unusedSimpArgs false
def errW : Option Int → Value
 | none => .nilIface
 | some c => .iface 0 (.int .i64 c)
theorem errW_none : errW none = .nilIface := rfl
theorem errW_some (c : Int) : errW (some c) = .iface 0 (.int .i64 c) := rfl
-- the values' own types
/-! #### struct type 24, nested in itself -/
structure S24 where
 f0 : Int
 f1 : Int
 f2 : Int
 f3 : (List S24)
def z24 : S24 := ⟨(0 : Int), (0 : Int), (0 : Int), ([] : List S24)⟩
def F24 (d : Kd S24) : Kd S24 := Kd.iso (Kd.pair (Kd.int .i64) (Kd.pair (Kd.int .i64) (Kd.pair (Kd.int .i64) (Kd.slice 24 d)))) (fun x : S24 => (x.f0, x.f1, x.f2, x.f3))
theorem mono24 : Kd.Mono F24 := Kd.mono_iso _ (Kd.mono_pair (Kd.mono_const _) (Kd.mono_pair (Kd.mono_const _) (Kd.mono_pair (Kd.mono_const _) (Kd.mono_slice 24 Kd.mono_id))))
theorem sub24 : Kd.Sub F24 [24] := Kd.sub_iso _ (Kd.sub_pair (Kd.sub_const _ (by decide)) (Kd.sub_pair (Kd.sub_const _ (by decide)) (Kd.sub_pair (Kd.sub_const _ (by decide)) (Kd.sub_slice 24 (by decide) Kd.sub_id))))
theorem sz24 : ∀ n, (Kd.upto F24 4 [24] n).sz = 4 := Kd.upto_sz (fun _ => rfl)
def k24 : Kd S24 := Kd.fix F24 4 [24] sz24 (Kd.upto_E sub24)
theorem k24_heap : Kd.Heap k24 := Kd.heap_fix (fun _ h_ => Kd.heap_iso _ (Kd.heap_pair (Kd.heap_int .i64) (Kd.heap_pair (Kd.heap_int .i64) (Kd.heap_pair (Kd.heap_int .i64) (Kd.heap_slice 24 h_)))))
theorem k24_open {w : World} {x : S24} {cs : List Value} (h : k24.K w x cs) : ∃ A3 c3, cs = [.int .i64 x.f0, .int .i64 x.f1, .int .i64 x.f2, .slice A3 x.f3.length c3] ∧ x.f3.length ≤ c3 ∧ k24.C w A3 x.f3.length x.f3 := by
 obtain ⟨n, h⟩ := h
 cases n with
 | zero => exact h.elim
 | succ n =>
  obtain ⟨_, _, rfl, rfl, ⟨_, _, rfl, rfl, ⟨_, _, rfl, rfl, ⟨A3, c3, rfl, l3, g3⟩⟩⟩⟩ := h
  exact ⟨A3, c3, rfl, l3, Kd.fix_C g3⟩
theorem k24_openM {w : World} {base : Nat} {ok : Nat → Prop} {x : S24} {cs : List Value} (h : k24.M w base ok x cs) : ∃ v3, cs = [.int .i64 x.f0, .int .i64 x.f1, .int .i64 x.f2, v3] ∧ k24.R 24 w base ok v3 x.f3 := by
 obtain ⟨n, h⟩ := h
 cases n with
 | zero => exact h.elim
 | succ n =>
  obtain ⟨_, _, rfl, rfl, ⟨_, _, rfl, rfl, ⟨_, _, rfl, rfl, ⟨v3, rfl, g3⟩⟩⟩⟩ := h
  exact ⟨v3, rfl, Kd.fix_R g3⟩
theorem k24_mk (w : World) (x : S24) {A3 : Option Addr} {c3 : Nat} (l3 : x.f3.length ≤ c3) (g3 : k24.C w A3 x.f3.length x.f3) : k24.K w x [.int .i64 x.f0, .int .i64 x.f1, .int .i64 x.f2, .slice A3 x.f3.length c3] := by
 obtain ⟨n3, q3⟩ := Kd.fix_C_back mono24 g3
 have r3 := Kd.upto_C_le mono24 sz24 (show n3 ≤ n3 by omega) q3
 exact ⟨n3 + 1, ⟨[.int .i64 x.f0], [.int .i64 x.f1, .int .i64 x.f2, .slice A3 x.f3.length c3], rfl, rfl, ⟨[.int .i64 x.f1], [.int .i64 x.f2, .slice A3 x.f3.length c3], rfl, rfl, ⟨[.int .i64 x.f2], [.slice A3 x.f3.length c3], rfl, rfl, ⟨A3, c3, rfl, l3, r3⟩⟩⟩⟩⟩
theorem k24_mkM (w : World) (base : Nat) (ok : Nat → Prop) (x : S24) {v3 : Value} (g3 : k24.R 24 w base ok v3 x.f3) : k24.M w base ok x [.int .i64 x.f0, .int .i64 x.f1, .int .i64 x.f2, v3] := by
 obtain ⟨n3, q3⟩ := Kd.fix_R_back mono24 g3
 have r3 := Kd.upto_R_le mono24 sz24 (show n3 ≤ n3 by omega) q3
 exact ⟨n3 + 1, ⟨[.int .i64 x.f0], [.int .i64 x.f1, .int .i64 x.f2, v3], rfl, rfl, ⟨[.int .i64 x.f1], [.int .i64 x.f2, v3], rfl, rfl, ⟨[.int .i64 x.f2], [v3], rfl, rfl, ⟨v3, rfl, r3⟩⟩⟩⟩⟩
def rd_T24 (xs : List S24) (i : Int) : S24 := xs.getD i.toNat z24
theorem at_T24 {w : World} {A : Option Addr} {n : Nat} {xs : List S24} (h : Kd.C k24 w A n xs) (i : Int) (h0 : 0 ≤ i) (h1 : i < n) : ∃ ad A3 c3, A = some ad ∧ w.cell? (ad.add (i.toNat * 4)) = some (.int .i64 (rd_T24 xs i).f0) ∧ w.cell? ⟨(ad.add (i.toNat * 4)).block, (ad.add (i.toNat * 4)).off + 1, none⟩ = some (.int .i64 (rd_T24 xs i).f1) ∧ w.cell? ⟨(ad.add (i.toNat * 4)).block, (ad.add (i.toNat * 4)).off + 2, none⟩ = some (.int .i64 (rd_T24 xs i).f2) ∧ w.cell? ⟨(ad.add (i.toNat * 4)).block, (ad.add (i.toNat * 4)).off + 3, none⟩ = some (.slice A3 (rd_T24 xs i).f3.length c3) ∧ (rd_T24 xs i).f3.length ≤ c3 ∧ k24.C w A3 (rd_T24 xs i).f3.length (rd_T24 xs i).f3 := by
 obtain ⟨ad, c, e, _, hK, hc0⟩ := Kd.C_get h z24 i h0 h1
 have hc : ∀ j u, c[j]? = some u → w.cell? (ad.add (i.toNat * 4 + j)) = some u := hc0
 obtain ⟨A3, c3, rfl, l3, g3⟩ := k24_open hK
 exact ⟨ad, A3, c3, e, hc 0 _ rfl, by rw [← add_field _ _ 1 (by omega)]; exact hc 1 _ rfl, by rw [← add_field _ _ 2 (by omega)]; exact hc 2 _ rfl, by rw [← add_field _ _ 3 (by omega)]; exact hc 3 _ rfl, l3, g3⟩
theorem cell_foot {α : Type} {d : Kd α} {W0 W W2 : World} {S S2 : Nat → Prop} {ad : Addr} {n : Nat} {xs : List α} (hf : ∀ W', Kept W0 W' S → d.C W' (some ad) n xs) (hn : 0 < n) (hs : 0 < d.sz) {a : Addr} {v : Value} (hc : W.cell? a = some v) (hk : Kept W W2 S2) (ha : a.block = ad.block) (hS : ∀ k, S2 k → S k ∨ W0.heap.size ≤ k) : W2.cell? a = some v := by
 have h1 := Kd.foot_neS hf hn hs
 have h2 := Kd.foot_ltS hf hn hs
 have := hk.2 a.block (World.block_lt_of_cell? W a hc) (fun h => (hS _ h).elim (fun h => h1 (ha ▸ h)) (fun h => by omega))
 simpa [World.cell?, this] using hc
theorem sub_T24_3 {w W : World} {g : Nat} {A : Option Addr} {n : Nat} {xs : List S24} (h : ∀ W', KeepBut w W' g none → Kd.C k24 W' A n xs) (hk : KeepBut w W g none) (i : Int) (h0 : 0 ≤ i) (h1 : i < n) {ad : Addr} (hA : A = some ad) {A1 : Option Addr} {c1 : Nat} (hc : W.cell? ⟨(ad.add (i.toNat * 4)).block, (ad.add (i.toNat * 4)).off + 3, none⟩ = some (.slice A1 (rd_T24 xs i).f3.length c1)) : ∀ W', KeepBut w W' g none → Kd.C k24 W' A1 (rd_T24 xs i).f3.length (rd_T24 xs i).f3 := by
 intro W' hW
 subst hA
 have hn : 0 < n := by omega
 have hne := Kd.foot_ne h hn (by decide)
 have hlt := Kd.foot_lt h hn (by decide)
 obtain ⟨ad2, A3_, c3_, e_, x0_, x1_, x2_, x3_, l3_, g3_⟩ := at_T24 (h W' hW) i h0 h1
 injection e_ with e_
 subst e_
 have q1 := hW.2 ad.block hlt hne (by simp)
 have q2 := hk.2 ad.block hlt hne (by simp)
 have hc2 : W'.cell? ⟨(ad.add (i.toNat * 4)).block, (ad.add (i.toNat * 4)).off + 3, none⟩ = some (.slice A1 (rd_T24 xs i).f3.length c1) := by
  rw [← hc]
  unfold World.cell?
  simp only [add_block]
  rw [q1, q2]
 have e2 := Option.some.inj (x3_.symm.trans hc2)
 injection e2 with e3
 rw [e3] at g3_
 exact g3_
theorem sub_T24_3S {w W : World} {S : Nat → Prop} {A : Option Addr} {n : Nat} {xs : List S24} (h : ∀ W', Kept w W' S → Kd.C k24 W' A n xs) (hk : Kept w W S) (i : Int) (h0 : 0 ≤ i) (h1 : i < n) {ad : Addr} (hA : A = some ad) {A1 : Option Addr} {c1 : Nat} (hc : W.cell? ⟨(ad.add (i.toNat * 4)).block, (ad.add (i.toNat * 4)).off + 3, none⟩ = some (.slice A1 (rd_T24 xs i).f3.length c1)) : ∀ W', Kept w W' S → Kd.C k24 W' A1 (rd_T24 xs i).f3.length (rd_T24 xs i).f3 := by
 intro W' hW
 subst hA
 have hn : 0 < n := by omega
 have hne := Kd.foot_neS h hn (by decide)
 have hlt := Kd.foot_ltS h hn (by decide)
 obtain ⟨ad2, A3_, c3_, e_, x0_, x1_, x2_, x3_, l3_, g3_⟩ := at_T24 (h W' hW) i h0 h1
 injection e_ with e_
 subst e_
 have q1 := hW.2 ad.block hlt hne
 have q2 := hk.2 ad.block hlt hne
 have hc2 : W'.cell? ⟨(ad.add (i.toNat * 4)).block, (ad.add (i.toNat * 4)).off + 3, none⟩ = some (.slice A1 (rd_T24 xs i).f3.length c1) := by
  rw [← hc]
  unfold World.cell?
  simp only [add_block]
  rw [q1, q2]
 have e2 := Option.some.inj (x3_.symm.trans hc2)
 injection e2 with e3
 rw [e3] at g3_
 exact g3_
end Go.Proofs.Ytpojokndmkhpkaa.M
