import Derived.Test.YtpojokndmkhpkaaMwb
import Derived.Deep.Slices
import Derived.ChangeArms
namespace Go.Proofs.YtpojokndmkhpkaaW.PrintWords
open Go.RowKit Go.Deep
/-! What a claim's data say of an argument's cells, told in the words of a Kd: for arguments of any told type. -/
def Opens {α : Type} (P : Program) (w : World) (t : TypeId) (d : Kd α) (ok : α → Prop) : Prop :=
  ∀ (H : Type) (enc : TypeId × Value → H) (base : Nat) (spare : Nat → Bool) (held : Bool) (fuel : Nat) (cs : List Value) (x : DataW H × List MemPlace), DataW.trod enc P w base spare held fuel t cs = some x → ∃ a, d.K w a cs ∧ ok a
/-- The fields of a struct from cell 'off' on. -/
def OpensF {α : Type} (P : Program) (w : World) (fs : List Field) (off : Nat) (d : Kd α) (ok : α → Prop) : Prop :=
  ∀ (H : Type) (enc : TypeId × Value → H) (base : Nat) (spare : Nat → Bool) (held : Bool) (n : Nat) (cs : List Value), cs.length = off + d.sz →
    (∀ f, f ∈ fs → ∃ y, DataW.trod enc P w base spare held n f.type ((cs.drop f.offset).take (P.cellsOf f.type)) = some y) → ∃ a, d.K w a (cs.drop off) ∧ ok a
section
variable {α β : Type} {P : Program} {w : World} {t e : TypeId} {d : Kd α} {ok : α → Prop}
theorem opens_int {k : IntKind} (ht : P.underlying t = some (.int k)) : Opens P w t (Kd.int k) (fun n => (Lit.int k n).wf = true) := by
  intro H enc base spare held fuel cs x h
  obtain ⟨n, rfl, _, hw⟩ := DataW.trod_int ht h
  exact ⟨n, rfl, hw⟩
theorem opens_bool (ht : P.underlying t = some .bool) : Opens P w t Kd.bool (fun _ => True) := by
  intro H enc base spare held fuel cs x h
  obtain ⟨n, rfl, _⟩ := DataW.trod_bool ht h
  exact ⟨n, rfl, trivial⟩
theorem opens_string (ht : P.underlying t = some .string) : Opens P w t Kd.string (fun s => s.size ≤ maxLen) := by
  intro H enc base spare held fuel cs x h
  obtain ⟨n, rfl, _, hw⟩ := DataW.trod_string ht h
  exact ⟨n, rfl, hw⟩
theorem list_of {p : Nat → α → Prop} : ∀ n, (∀ i, i < n → ∃ a, p i a) → ∃ xs : List α, xs.length = n ∧ ∀ i a, xs[i]? = some a → p i a
  | 0, _ => ⟨[], rfl, fun i a h => by simp at h⟩
  | n + 1, h => by
    obtain ⟨xs, hl, hp⟩ := list_of n (fun i hi => h i (Nat.lt_succ_of_lt hi))
    obtain ⟨b, hb⟩ := h n (Nat.lt_succ_self n)
    refine ⟨xs ++ [b], by rw [List.length_append, hl]; rfl, fun i a ha => ?_⟩
    rcases Nat.lt_or_ge i xs.length with hi | hi
    · rw [List.getElem?_append_left hi] at ha
      exact hp i a ha
    · rw [List.getElem?_append_right hi] at ha
      have hi0 : i - xs.length = 0 := by
        rcases Nat.eq_zero_or_pos (i - xs.length) with h0 | h0
        · exact h0
        · rw [List.getElem?_eq_none (by simp; omega)] at ha
          exact absurd ha (by simp)
      rw [hi0] at ha
      obtain rfl : b = a := by simpa using ha
      rw [show i = n by omega]
      exact hb
theorem opens_slice (q : Nat) (ht : P.underlying t = some (.slice e)) (hs : P.cellsOf e = d.sz) (h : Opens P w e d ok) : Opens P w t (Kd.slice q d) (fun xs => ∀ a, a ∈ xs → ok a) := by
  intro H enc base spare held fuel cs x hx
  rcases open_slice ht hx with ⟨rfl, _⟩ | ⟨a, len, cap, m, n, D, Pl, rfl, _, hl, hm, hmm, _, hel⟩
  · exact ⟨[], ⟨none, 0, rfl, Nat.le_refl 0, Kd.C_nil d w⟩, fun a ha => by simp at ha⟩
  · have hle : len ≤ m := by rw [hmm]; split <;> omega
    obtain ⟨xs, hlen, hp⟩ := list_of (p := fun i b => ∃ cs', w.cells? base (a.add (i * P.cellsOf e)) (P.cellsOf e) = some cs' ∧ d.K w b cs' ∧ ok b) len (fun i hi => by
      obtain ⟨cs', h1, h2⟩ := hel i (by omega)
      obtain ⟨b, hb, hk⟩ := h _ _ _ _ _ _ _ _ h2
      exact ⟨b, cs', h1, hb, hk⟩)
    refine ⟨xs, ⟨some a, cap, by rw [hlen], by omega, ⟨rfl, ?_, fun _ => ⟨a, rfl, fun j b hj => ?_⟩⟩⟩, fun b hb => ?_⟩
    · rw [hlen]
      exact Nat.le_trans hl (Nat.le_trans hm (by decide))
    · obtain ⟨c, h1, h2, _⟩ := hp j b hj
      obtain ⟨_, h3, h4⟩ := World.cells?_some h1
      refine ⟨c, h3.trans hs, h2, fun i u hu => ?_⟩
      have hi : i < c.length := (List.getElem?_eq_some_iff.1 hu).1
      rw [← hs, ← Go.Deep.add_add, h4 i (by omega), hu]
    · obtain ⟨j, hj⟩ := List.getElem?_of_mem hb
      obtain ⟨_, _, _, hk⟩ := hp j b hj
      exact hk
theorem opens_iso (f : β → α) (g : α → β) (hfg : ∀ a, f (g a) = a) (h : Opens P w t d ok) : Opens P w t (Kd.iso d f) (fun b => ok (f b)) := by
  intro H enc base spare held fuel cs x hx
  obtain ⟨a, ha, hk⟩ := h _ _ _ _ _ _ _ _ hx
  exact ⟨g a, (show d.K w (f (g a)) cs by rw [hfg]; exact ha), (show ok (f (g a)) by rw [hfg]; exact hk)⟩
theorem opensF_one {f : Field} {off : Nat} (hf : f.offset = off) (hs : P.cellsOf f.type = d.sz) (h : Opens P w f.type d ok) : OpensF P w [f] off d ok := by
  intro H enc base spare held n cs hl hx
  obtain ⟨y, hy⟩ := hx f (List.mem_singleton.2 rfl)
  rw [hf, hs, List.take_of_length_le (by rw [List.length_drop, hl]; omega)] at hy
  exact h _ _ _ _ _ _ _ _ hy
theorem opensF_cons {f : Field} {fs : List Field} {off : Nat} {d1 : Kd β} {ok1 : β → Prop} (hf : f.offset = off) (hs : P.cellsOf f.type = d.sz) (h : Opens P w f.type d ok) (hr : OpensF P w fs (off + d.sz) d1 ok1) :
    OpensF P w (f :: fs) off (Kd.pair d d1) (fun p => ok p.1 ∧ ok1 p.2) := by
  intro H enc base spare held n cs hl hx
  obtain ⟨y, hy⟩ := hx f List.mem_cons_self
  rw [hf, hs] at hy
  obtain ⟨a, ha, hka⟩ := h _ _ _ _ _ _ _ _ hy
  obtain ⟨b, hb, hkb⟩ := hr _ _ _ _ _ _ cs (by rw [hl]; show off + (d.sz + d1.sz) = _; omega) (fun g hg => hx g (List.mem_cons_of_mem _ hg))
  refine ⟨(a, b), ⟨_, _, ?_, ha, hb⟩, hka, hkb⟩
  rw [← List.drop_drop, List.take_append_drop]
theorem opens_struct {fs : Array Field} {l : List Field} (ht : P.underlying t = some (.struct fs)) (hfs : fs.toList = l) (hc : P.cellsOf t = d.sz) (h : OpensF P w l 0 d ok) : Opens P w t d ok := by
  intro H enc base spare held fuel cs x hx
  obtain ⟨xs, n, _, _, hl, hlen, hf⟩ := DataW.trod_struct ht hx
  obtain ⟨a, ha, hk⟩ := h H enc base spare held n cs (by rw [hl, hc, Nat.zero_add]) (fun f hfm => by
    rw [← hfs] at hfm
    obtain ⟨i, hi⟩ := List.getElem?_of_mem hfm
    have hi' : fs[i]? = some f := by rw [← hi]; simp
    have hlt : i < xs.length := by rw [hlen]; exact (Array.getElem?_eq_some_iff.1 hi').1
    exact ⟨xs[i], by rw [hf i f hi', List.getElem?_eq_getElem hlt]⟩)
  exact ⟨a, by simpa using ha, hk⟩
end
end Go.Proofs.YtpojokndmkhpkaaW.PrintWords
