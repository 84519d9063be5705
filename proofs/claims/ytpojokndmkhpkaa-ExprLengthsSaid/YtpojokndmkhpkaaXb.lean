/- The run of the examples (function 7), by the kernel: it answers true, in whatever world. -/
import Derived.Test.YtpojokndmkhpkaaXa
import Derived.Test.YtpojokndmkhpkaaProg
set_option maxRecDepth 1000000
namespace Go.Proofs.YtpojokndmkhpkaaX
open Go Go.RowKit
noncomputable section
/-- The orders, by function and region. -/
def PLs : List (Nat × Nat × Pn) := [
  (25, 27, ⟨false, [6, 7, 8], .p 0 (.p 3 (.k 1 (.k 2 (.o 4 (.o 5 (.o 6 (.p 7 (.o 8 .e))))))))⟩),
  (27, 6, ⟨false, [], .p 0 (.p 1 (.p 2 (.p 4 (.p 5 (.p 6 (.k 3 (.k 7 (.p 8 .e))))))))⟩),
  (30, 12, ⟨true, [11, 12], .p 0 (.p 1 (.p 6 (.k 2 (.p 3 (.k 4 (.k 7 (.p 8 (.p 9 (.b 5 10 (.o 10 (.o 11 (.p 12 .e))) (.o 5 (.o 11 (.p 12 .e))))))))))))⟩),
  (40, 3, ⟨false, [], .p 0 (.p 3 (.p 4 (.k 1 (.p 2 (.p 5 .e)))))⟩),
  (42, 5, ⟨false, [5, 6, 7], .p 0 (.k 1 (.k 2 (.o 3 (.o 4 (.o 5 (.p 6 (.o 7 .e)))))))⟩),
  (44, 3, ⟨false, [3], .p 0 (.p 2 (.k 1 (.o 3 .e)))⟩),
  (48, 17, ⟨false, [], .p 0 (.p 1 (.p 2 (.p 4 (.k 3 (.p 5 (.k 6 (.p 7 (.p 8 (.p 9 (.p 10 (.p 11 (.p 16 (.p 19 (.p 20 (.p 21 (.k 12 (.p 13 (.p 14 (.k 15 (.p 17 (.k 18 (.k 22 (.p 23 (.p 24 (.p 25 (.p 26 (.p 27 (.p 28 (.p 29 (.p 30 (.p 31 (.p 33 (.k 32 (.p 34 (.k 35 (.p 36 (.p 37 (.p 38 (.p 39 (.p 40 (.p 42 (.p 46 (.p 47 (.p 48 (.p 50 (.k 41 (.p 43 (.k 44 (.p 45 (.k 49 (.p 51 (.k 52 (.p 53 (.p 54 (.p 55 .e)))))))))))))))))))))))))))))))))))))))))))))))))))))))⟩),
  (49, 8, ⟨false, [8, 9, 10], .p 5 (.k 0 (.k 1 (.p 2 (.p 3 (.k 4 (.o 6 (.o 7 (.p 8 (.p 9 (.o 10 .e))))))))))⟩),
  (49, 9, ⟨false, [15, 16, 17], .k 0 (.p 1 (.p 2 (.k 3 (.p 4 (.p 5 (.p 6 (.p 8 (.p 13 (.k 7 (.k 9 (.p 10 (.p 11 (.k 12 (.o 14 (.o 15 (.p 16 (.p 17 .e)))))))))))))))))⟩),
  (56, 1, ⟨false, [], .p 0 (.p 1 (.p 2 (.p 4 (.p 5 (.p 6 (.k 3 (.k 7 (.p 8 (.p 9 (.p 10 (.p 11 (.p 12 (.p 13 (.p 15 (.p 16 (.p 17 (.p 20 (.k 14 (.k 18 (.p 19 (.p 21 (.p 22 .e))))))))))))))))))))))⟩),
  (57, 9, ⟨false, [6], .p 0 (.p 2 (.p 3 (.k 1 (.p 4 (.p 5 (.o 6 .e))))))⟩),
  (57, 12, ⟨false, [3, 4], .p 1 (.k 0 (.o 2 (.o 3 (.p 4 .e))))⟩),
  (59, 1, ⟨false, [], .p 0 (.p 1 (.p 2 (.p 4 (.p 5 (.p 6 (.k 3 (.k 7 (.p 8 (.p 9 .e)))))))))⟩),
  (59, 2, ⟨false, [], .p 0 (.p 1 (.p 2 (.p 4 (.p 5 (.p 6 (.k 3 (.k 7 (.p 8 (.p 9 .e)))))))))⟩),
  (62, 3, ⟨false, [13, 14, 15], .p 0 (.p 1 (.p 2 (.p 3 (.p 4 (.p 5 (.p 6 (.p 8 (.p 9 (.p 10 (.k 7 (.k 11 (.p 12 (.o 13 (.p 14 (.o 15 .e)))))))))))))))⟩),
  (63, 4, ⟨false, [8, 9, 10, 11], .p 0 (.p 1 (.p 2 (.p 3 (.p 5 (.k 4 (.k 6 (.o 7 (.o 8 (.p 9 (.p 10 (.o 11 .e)))))))))))⟩),
  (63, 24, ⟨false, [15, 16], .p 0 (.p 1 (.p 2 (.p 4 (.p 5 (.p 6 (.p 7 (.p 9 (.p 12 (.k 3 (.k 8 (.p 10 (.k 11 (.k 13 (.o 14 (.p 15 (.o 16 .e))))))))))))))))⟩),
  (63, 41, ⟨false, [5, 6], .p 0 (.p 2 (.k 1 (.k 3 (.o 4 (.o 5 (.o 6 .e))))))⟩),
  (65, 1, ⟨false, [], .p 4 (.k 0 (.p 1 (.p 2 (.k 3 (.p 5 (.k 6 (.k 7 (.p 8 (.p 9 (.p 10 (.p 11 .e)))))))))))⟩),
  (67, 6, ⟨false, [], .p 0 (.p 1 (.p 2 (.p 4 (.p 5 (.p 6 (.p 7 (.k 3 (.k 8 (.p 9 .e)))))))))⟩),
  (71, 1, ⟨false, [], .p 4 (.k 0 (.p 1 (.p 2 (.k 3 (.p 5 (.k 6 (.p 7 (.p 8 (.p 16 (.k 9 (.p 10 (.p 11 (.k 12 (.p 13 (.p 14 (.k 15 (.p 17 (.k 18 (.p 19 (.k 20 (.p 21 (.p 22 (.k 23 (.p 24 (.p 25 (.p 26 .e))))))))))))))))))))))))))⟩),
  (77, 27, ⟨true, [13, 15, 16, 17], .p 0 (.p 2 (.p 5 (.p 7 (.p 9 (.k 1 (.k 6 (.k 8 (.p 10 (.k 11 (.b 3 12 (.b 4 12 (.p 14 (.o 12 (.o 13 (.o 15 (.p 16 (.o 17 .e)))))) (.o 4 (.p 14 (.o 13 (.o 15 (.p 16 (.o 17 .e))))))) (.o 3 (.o 4 (.p 14 (.o 13 (.o 15 (.p 16 (.o 17 .e)))))))))))))))))⟩),
  (79, 4, ⟨false, [15, 16], .p 0 (.p 1 (.p 2 (.p 4 (.p 5 (.p 6 (.p 7 (.p 9 (.p 12 (.k 3 (.k 8 (.p 10 (.k 11 (.k 13 (.o 14 (.p 15 (.o 16 .e))))))))))))))))⟩),
  (84, 4, ⟨false, [14, 15, 16], .p 0 (.p 1 (.p 2 (.p 3 (.p 4 (.p 5 (.p 6 (.p 7 (.p 9 (.p 10 (.p 11 (.p 12 (.k 8 (.k 13 (.o 14 (.p 15 (.p 16 .e))))))))))))))))⟩),
  (91, 4, ⟨false, [13, 14], .p 0 (.p 1 (.p 2 (.p 3 (.p 4 (.p 5 (.p 6 (.p 8 (.p 9 (.p 10 (.p 11 (.k 7 (.k 12 (.o 13 (.p 14 .e))))))))))))))⟩),
  (91, 6, ⟨false, [15, 16, 17], .p 0 (.p 1 (.p 2 (.p 3 (.p 4 (.p 5 (.p 6 (.p 7 (.p 8 (.p 10 (.p 11 (.p 12 (.k 9 (.k 13 (.p 14 (.o 15 (.p 16 (.o 17 .e)))))))))))))))))⟩)]
def PLf (g i : Nat) : Option Pn := findPL g i PLs
theorem mixed_ : Try.prog.follows .mixedOrders = true := by kernel_rfl
theorem tab0_ : ((PLs.drop 0).take 7).all (entryOk Try.prog) = true := by kernel_rfl
theorem tab7_ : ((PLs.drop 7).take 7).all (entryOk Try.prog) = true := by kernel_rfl
theorem tab14_ : ((PLs.drop 14).take 7).all (entryOk Try.prog) = true := by kernel_rfl
theorem tab21_ : ((PLs.drop 21).take 7).all (entryOk Try.prog) = true := by kernel_rfl
theorem all_cut {α : Type} {p : α → Bool} {l : List α} {n m : Nat} (h : ((l.drop n).take m).all p = true) (k : (l.drop (n + m)).all p = true) : (l.drop n).all p = true := by
  rw [← List.drop_drop] at k
  rw [← List.take_append_drop m (l.drop n), List.all_append, h, k]
  rfl
theorem tab_ : ∀ e ∈ PLs, entryOk Try.prog e = true := by
  have h28 : (PLs.drop 28).all (entryOk Try.prog) = true := by rfl
  have h21 : (PLs.drop 21).all (entryOk Try.prog) = true := all_cut (m := 7) tab21_ h28
  have h14 : (PLs.drop 14).all (entryOk Try.prog) = true := all_cut (m := 7) tab14_ h21
  have h7 : (PLs.drop 7).all (entryOk Try.prog) = true := all_cut (m := 7) tab7_ h14
  have h0 : (PLs.drop 0).all (entryOk Try.prog) = true := all_cut (m := 7) tab0_ h7
  exact fun e he => List.all_eq_true.1 h0 e he
theorem run_ : okR ((level Try.prog PLf 100000).k 7 [] ⟨0, Tr.full 10⟩) = true := by kernel_rfl
/-- The examples hold, in whatever world. -/
theorem awake_ (w : World) : Calls Try.prog 7 #[] w fun e w' => e = .returned (.bool true) ∧ Below w.heap.size w w' := by
  have h := run_
  cases hr : (level Try.prog PLf 100000).k 7 [] ⟨0, Tr.full 10⟩ with
  | none => rw [hr] at h; cases h
  | some rs =>
    rw [hr] at h
    refine (run_ok (PL := PLf) mixed_ (fine_of tab_) hr w).mono ?_
    rintro e w' ⟨r, hm, R', x, rfl, hv, hb⟩
    have h1 := List.all_eq_true.1 h r hm
    refine ⟨?_, hb⟩
    split at h1
    · rename_i hx
      rw [hx] at hv
      rw [hv.2]
    · cases h1
end
end Go.Proofs.YtpojokndmkhpkaaX
