/- The statement ExprLengths holds: called with any arguments that can be read as data, the law returns true and does not panic. No condition beyond the given row's own. -/
-- Written by wip/tools/rowgen.py, a program of this session's: the row, out of <Name>PureExprLengths and the printed walk.
import Derived.Test.YtpojokndmkhpkaaRows
import Derived.Test.YtpojokndmkhpkaaM5
import Derived.Test.YtpojokndmkhpkaaRow
import Derived.Test.YtpojokndmkhpkaaPureExprLengths
import Derived.WalkKit
import Derived.ProofKit
import Derived.OpenShut
import Derived.ShutString
import Derived.ChangeOld
import Derived.Below
import Derived.SizedLaws
namespace Go.Proofs.Ytpojokndmkhpkaa.exprLengths
open Go.ChangeShapes Go.WideShapes Go.ChangeAt Go.RowKit Go.Proofs.YtpojokndmkhpkaaW.PrintWords Go.Proofs.Ytpojokndmkhpkaa.M
open Go.ChangeMaps (open_string shut_string)
set_option linter.unusedVariables false
theorem own : ownKnob Try.prog.godebug = none := by kernel_rfl
theorem laidOut : laidOutB Try.prog = true := by kernel_rfl
theorem many24_ {α : Type} : ∀ {l : List α}, l.length = 4 → ∃ x0 x1 x2 x3, l = [x0, x1, x2, x3]
  | [x0, x1, x2, x3], _ => ⟨x0, x1, x2, x3, rfl⟩
set_option maxRecDepth 100000 in
theorem opens24 (w : World) : Opens Try.prog w 24 k24 (fun _ => True) := by
  have key : ∀ (m : Nat) (H : Type) (enc : TypeId × Value → H) (base : Nat) (spare : Nat → Bool) (held : Bool) (fuel : Nat) (cs : List Value) (x : DataW H × List MemPlace), fuel ≤ m → DataW.trod enc Try.prog w base spare held fuel 24 cs = some x → ∃ a, k24.K w a cs := by
    intro m
    induction m with
    | zero =>
      intro H enc base spare held fuel cs x hm h
      obtain ⟨xs, n, hn, _⟩ := DataW.trod_struct Try.underlying24 h
      omega
    | succ m ih =>
      intro H enc base spare held fuel cs x hm h
      obtain ⟨xs, n, rfl, _, hl, hlen, hf⟩ := DataW.trod_struct Try.underlying24 h
      replace hl : cs.length = 4 := hl.trans (by kernel_rfl)
      have hsz : xs.length = 4 := hlen.trans rfl
      obtain ⟨v0, v1, v2, v3, rfl⟩ := many24_ hl
      obtain ⟨y0, y1, y2, y3, rfl⟩ := many24_ hsz
      have g0 : DataW.trod enc Try.prog w base spare held n 3 [v0] = some y0 := by
        refine Eq.trans ?_ (hf 0 _ rfl)
        have hc : Try.prog.cellsOf 3 = 1 := by kernel_rfl
        show _ = DataW.trod enc Try.prog w base spare held n 3 (([v0, v1, v2, v3].drop 0).take (Try.prog.cellsOf 3))
        rw [hc]
        rfl
      have g1 : DataW.trod enc Try.prog w base spare held n 3 [v1] = some y1 := by
        refine Eq.trans ?_ (hf 1 _ rfl)
        have hc : Try.prog.cellsOf 3 = 1 := by kernel_rfl
        show _ = DataW.trod enc Try.prog w base spare held n 3 (([v0, v1, v2, v3].drop 1).take (Try.prog.cellsOf 3))
        rw [hc]
        rfl
      have g2 : DataW.trod enc Try.prog w base spare held n 3 [v2] = some y2 := by
        refine Eq.trans ?_ (hf 2 _ rfl)
        have hc : Try.prog.cellsOf 3 = 1 := by kernel_rfl
        show _ = DataW.trod enc Try.prog w base spare held n 3 (([v0, v1, v2, v3].drop 2).take (Try.prog.cellsOf 3))
        rw [hc]
        rfl
      have g3 : DataW.trod enc Try.prog w base spare held n 22 [v3] = some y3 := by
        refine Eq.trans ?_ (hf 3 _ rfl)
        have hc : Try.prog.cellsOf 22 = 1 := by kernel_rfl
        show _ = DataW.trod enc Try.prog w base spare held n 22 (([v0, v1, v2, v3].drop 3).take (Try.prog.cellsOf 22))
        rw [hc]
        rfl
      obtain ⟨a0, e0, _, _⟩ := DataW.trod_int Try.underlying3 g0
      injection e0 with e0
      subst e0
      obtain ⟨a1, e1, _, _⟩ := DataW.trod_int Try.underlying3 g1
      injection e1 with e1
      subst e1
      obtain ⟨a2, e2, _, _⟩ := DataW.trod_int Try.underlying3 g2
      injection e2 with e2
      subst e2
      have z3 : ∃ (A : Option Addr) (c : Nat) (l : List S24), v3 = .slice A l.length c ∧ l.length ≤ c ∧ k24.C w A l.length l := by
        rcases DataW.trod_slice Try.underlying22 g3 with ⟨e, _⟩ | ⟨a, len, cap, els, rest, q, hq, e, _, _, hle, hmx, hll, hel, _, _⟩
        · injection e with e
          exact ⟨none, 0, [], e, Nat.le_refl 0, Kd.C_nil k24 w⟩
        · injection e with e
          obtain ⟨l, hlen', hp⟩ := list_of (p := fun i b => ∃ cs', w.cells? base (a.add (i * Try.prog.cellsOf 24)) (Try.prog.cellsOf 24) = some cs' ∧ k24.K w b cs') len (fun i hi => by
            have h1 := hel i hi
            rw [List.getElem?_eq_getElem (show i < els.length by omega)] at h1
            obtain ⟨cs', h2, h3⟩ := Option.bind_eq_some_iff.1 h1
            obtain ⟨b, hb⟩ := ih _ _ _ _ _ _ _ _ (by omega) h3
            exact ⟨b, cs', h2, hb⟩)
          have hs : Try.prog.cellsOf 24 = 4 := by kernel_rfl
          refine ⟨some a, cap, l, by rw [e, hlen'], by omega, ⟨rfl, by rw [hlen']; exact Nat.le_trans hle (Nat.le_trans hmx (by decide)), fun _ => ⟨a, rfl, fun j b hj => ?_⟩⟩⟩
          obtain ⟨c, h1, h2⟩ := hp j b hj
          obtain ⟨_, h3, h4⟩ := World.cells?_some h1
          refine ⟨c, h3.trans hs, h2, fun i u hu => ?_⟩
          have hi : i < c.length := (List.getElem?_eq_some_iff.1 hu).1
          have h5 := h4 i (by rw [h3] at hi; exact hi)
          rw [hs] at h5
          show w.cell? (a.add (j * 4 + i)) = some u
          rw [← Go.Deep.add_add, h5, hu]
      obtain ⟨A3, c3, l3, rfl, hc3, hC3⟩ := z3
      exact ⟨⟨a0, a1, a2, l3⟩, k24_mk w ⟨a0, a1, a2, l3⟩ hc3 hC3⟩
  intro H enc base spare held fuel cs x h
  obtain ⟨a, ha⟩ := key fuel _ _ _ _ _ _ _ _ (Nat.le_refl _) h
  exact ⟨a, ha, trivial⟩
set_option maxRecDepth 100000 in
theorem lifted (os : Os) (started : os.Started) (H : Type) (enc : TypeId × Value → H) :
    ReturnsInHanded {} Try.checked os 5 .any (Rows.exprLengthsSpec.pre6 enc Try.prog Try.f5 Rows.exprLengthsRow.domain false) (Rows.exprLengthsSpec.post enc Try.prog Try.f5 false true false false) := by
  refine returnsInHanded_of_change_sized (C := Try.checked) own started (by kernel_rfl) Try.func5
    (ChangeSpec.witness6 (enc := enc) (C := Try.checked) false ⟨#[], #[.agg #[.int .i64 0, .int .i64 0, .int .i64 0, .slice none 0 0]], []⟩ 8 (by kernel_rfl) (by kernel_rfl) (by kernel_rfl) (by kernel_rfl)) ?_
  intro W base args ds gs before hval0 hW hcnd hsz0 _
  have hval : ∀ (j : Nat) t v, Try.f5.params[j]? = some t → args[j]? = some v → Value.okWide Try.prog W .any base t v := hval0
  have hW' := hW
  obtain ⟨p, q, hA0, hV, rfl, hfz, hnd⟩ := hW
  have hA : DataW.TrodAll enc Try.prog W 0 (fun _ => true) true Try.f5.params.toList args.toList ds p := hA0
  rw [Try.params5] at hA hval
  obtain ⟨v0, vs0, d0, ds0, p0, q0, hargs, rfl, rfl, h0, r0⟩ := trodAll_cons hA
  obtain ⟨rfl, rfl, rfl⟩ := trodAll_nil r0
  obtain rfl : args = #[v0] := by cases args; simp_all
  obtain ⟨rfl, rfl⟩ := trodVars_none hV
  have k0 := h0
  have lt0 : ∀ x ∈ p0, x.block < W.heap.size := by obtain ⟨m, hm⟩ := k0; exact DataW.trod_lt m _ _ _ hm
  obtain ⟨fuel0, hf0⟩ := h0
  obtain ⟨cs0, rfl, hz0⟩ := okWide_struct Try.underlying24 (hval 0 24 v0 rfl rfl)
  obtain ⟨g0, hK0, w0⟩ := (opens_struct (d := (Kd.pair (Kd.int .i64) (Kd.pair (Kd.int .i64) (Kd.pair (Kd.int .i64) (Kd.slice 24 k24))))) Try.underlying24 rfl (by kernel_rfl) (opensF_cons rfl (by kernel_rfl) (opens_int Try.underlying3) (opensF_cons rfl (by kernel_rfl) (opens_int Try.underlying3) (opensF_cons rfl (by kernel_rfl) (opens_int Try.underlying3) (opensF_one rfl (by kernel_rfl) (opens_slice (d := k24) 24 Try.underlying22 (by kernel_rfl) (opens24 W))))))) _ _ _ _ _ _ _ _ hf0
  obtain ⟨a0_0, a0_1, a0_2, l0_3⟩ := g0
  obtain ⟨e0_0, r0_0, hcs0_0, hk0_0, hn0_0⟩ := hK0
  have he0_0 := hk0_0
  obtain ⟨e0_1, r0_1, hcs0_1, hk0_1, hn0_1⟩ := hn0_0
  have he0_1 := hk0_1
  obtain ⟨e0_2, r0_2, hcs0_2, hk0_2, hn0_2⟩ := hn0_1
  have he0_2 := hk0_2
  obtain ⟨A0_3, c0_3, he0_3, hc0_3, hr0_3⟩ := hn0_2
  obtain rfl : cs0 = #[.int .i64 a0_0, .int .i64 a0_1, .int .i64 a0_2, .slice A0_3 l0_3.length c0_3] := by
    have hcs : cs0.toList = (#[.int .i64 a0_0, .int .i64 a0_1, .int .i64 a0_2, .slice A0_3 l0_3.length c0_3] : Array Value).toList := by
      have h_ : cs0.toList = _ := hcs0_0
      rw [h_, he0_0, hcs0_1, he0_1, hcs0_2, he0_2, he0_3]
      try rfl
    cases cs0; simpa using hcs
  clear hA0 hval0 hsz0
  obtain ⟨k, hk⟩ := Pure.ExprLengths a0_0 a0_1 a0_2 l0_3 w0.1 w0.2.1 w0.2.2.1 w0.2.2.2
  refine (M.ancepslaw08_ExprLengths.calls k a0_0 a0_1 a0_2 A0_3 c0_3 l0_3 true W hr0_3 hc0_3 hk).mono fun e W' ⟨he, bel⟩ => ?_
  subst he
  exact ⟨_, rfl, _, _, _, [], _, [], hW', trodAll_mk1 (shut_bool Try.underlying4 _), (trodAll_cons_mk (Below.trod laidOut (by kernel_rfl) (of_decide_eq_true (by kernel_rfl)) k0 bel lt0) trodAll_mk0), rfl, bel.frame _, fun h => by cases h⟩
theorem over : Rows.exprLengthsRow.holds Try.pinned (OpenSpec.ofChange Rows.exprLengthsSpec) :=
  OpenClaim.holds_of_wide 5 Try.f5 rfl rfl rfl rfl rfl rfl rfl ⟨rfl, rfl, rfl, rfl, rfl⟩ rfl rfl rfl rfl rfl (by kernel_rfl) Try.func5 (by kernel_rfl)
    (of_decide_eq_true (by kernel_rfl)) (by unfold Func.isWrapper; first | (rw [if_pos (by decide +kernel)]; kernel_rfl) | (rw [if_neg (by decide +kernel)]; exact ⟨rfl, rfl⟩))
    (fun os started H enc _ => lifted os started H enc)
theorem proved : Rows.ExprLengthsSaid := over
#print axioms proved
end Go.Proofs.Ytpojokndmkhpkaa.exprLengths
namespace Go.Proofs.Ytpojokndmkhpkaa
theorem exprLengths_holds : Rows.ExprLengthsSaid := exprLengths.proved
end Go.Proofs.Ytpojokndmkhpkaa
