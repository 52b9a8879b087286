/- The one argument of the law CalDays, opened: twelve whole numbers. -/
import Derived.Test.YtpdfobjlcfcfpaaDoorLaid
set_option linter.unusedVariables false
set_option linter.unusedSimpArgs false
namespace Go.Proofs.YtpdfobjlcfcfpaaDoor
open Go.ChangeShapes Go.WideShapes Go.ChangeAt Go.RowKit
theorem open_daysIn {H : Type} {enc : TypeId × Value → H} {w : World} {base b0 : Nat} {spare : Nat → Bool} {held : Bool} {r : Reach} {v : Value} {d : DataW H} {p : List MemPlace}
    (hv : Value.okWide Tryd.prog w r b0 25 v) (h : DataW.Trod enc Tryd.prog w base spare held 25 v d p) :
    ∃ y m dd hh mi ss n z yy mm ddd nn : Int, v = .agg #[.int .i64 y, .int .i64 m, .int .i64 dd, .int .i64 hh, .int .i64 mi, .int .i64 ss, .int .i64 n, .int .i64 z, .int .i64 yy, .int .i64 mm, .int .i64 ddd, .int .i64 nn] ∧ -9223372036854775808 ≤ nn ∧ nn ≤ 9223372036854775807 := by
  obtain ⟨cs, rfl, hsz⟩ := okWide_struct Tryd.underlying25 hv
  have hC : Tryd.prog.cellsOf 25 = 12 := by kernel_rfl
  have hC1 : Tryd.prog.cellsOf 3 = 1 := by kernel_rfl
  have hC2 : Tryd.prog.cellsOf 2 = 1 := by kernel_rfl
  have hC8 : Tryd.prog.cellsOf 23 = 8 := by kernel_rfl
  obtain ⟨fuel, hf⟩ := h
  obtain ⟨xs, k, _, hx, hcl, hlen, hg⟩ := DataW.trod_struct Tryd.underlying25 hf
  obtain ⟨l⟩ := cs
  match l, hsz.trans hC with
  | [c0, c1, c2, c3, c4, c5, c6, c7, c8, c9, c10, c11], _ =>
    match xs, hlen with
    | [x0, x1, x2, x3, x4], _ =>
      have g0 : DataW.trod enc Tryd.prog w base spare held k 23 (([c0, c1, c2, c3, c4, c5, c6, c7, c8, c9, c10, c11].drop 0).take (Tryd.prog.cellsOf 23)) = some x0 := hg 0 _ rfl
      rw [hC8] at g0
      have g0 : DataW.trod enc Tryd.prog w base spare held k 23 [c0, c1, c2, c3, c4, c5, c6, c7] = some x0 := g0
      have g1 : DataW.trod enc Tryd.prog w base spare held k 3 (([c0, c1, c2, c3, c4, c5, c6, c7, c8, c9, c10, c11].drop 8).take (Tryd.prog.cellsOf 3)) = some x1 := hg 1 _ rfl
      rw [hC1] at g1
      have g1 : DataW.trod enc Tryd.prog w base spare held k 3 [c8] = some x1 := g1
      have g2 : DataW.trod enc Tryd.prog w base spare held k 3 (([c0, c1, c2, c3, c4, c5, c6, c7, c8, c9, c10, c11].drop 9).take (Tryd.prog.cellsOf 3)) = some x2 := hg 2 _ rfl
      rw [hC1] at g2
      have g2 : DataW.trod enc Tryd.prog w base spare held k 3 [c9] = some x2 := g2
      have g3 : DataW.trod enc Tryd.prog w base spare held k 3 (([c0, c1, c2, c3, c4, c5, c6, c7, c8, c9, c10, c11].drop 10).take (Tryd.prog.cellsOf 3)) = some x3 := hg 3 _ rfl
      rw [hC1] at g3
      have g3 : DataW.trod enc Tryd.prog w base spare held k 3 [c10] = some x3 := g3
      have g4 : DataW.trod enc Tryd.prog w base spare held k 2 (([c0, c1, c2, c3, c4, c5, c6, c7, c8, c9, c10, c11].drop 11).take (Tryd.prog.cellsOf 2)) = some x4 := hg 4 _ rfl
      rw [hC2] at g4
      have g4 : DataW.trod enc Tryd.prog w base spare held k 2 [c11] = some x4 := g4
      obtain ⟨_, h0⟩ := trod_ints Tryd.underlying23 (by kernel_rfl) (by kernel_rfl) Tryd.underlying3 (by kernel_rfl) g0
      obtain ⟨n8, e8, _, w8⟩ := DataW.trod_int Tryd.underlying3 g1
      obtain ⟨n9, e9, _, w9⟩ := DataW.trod_int Tryd.underlying3 g2
      obtain ⟨n10, e10, _, w10⟩ := DataW.trod_int Tryd.underlying3 g3
      obtain ⟨n11, e11, _, w11⟩ := DataW.trod_int Tryd.underlying2 g4
      obtain ⟨a0, q0, _⟩ := h0 0 (by decide)
      obtain ⟨a1, q1, _⟩ := h0 1 (by decide)
      obtain ⟨a2, q2, _⟩ := h0 2 (by decide)
      obtain ⟨a3, q3, _⟩ := h0 3 (by decide)
      obtain ⟨a4, q4, _⟩ := h0 4 (by decide)
      obtain ⟨a5, q5, _⟩ := h0 5 (by decide)
      obtain ⟨a6, q6, _⟩ := h0 6 (by decide)
      obtain ⟨a7, q7, _⟩ := h0 7 (by decide)
      simp at q0 q1 q2 q3 q4 q5 q6 q7 e8 e9 e10 e11
      subst_vars
      exact ⟨_, _, _, _, _, _, _, _, _, _, _, _, rfl, wf_i64 w11⟩
end Go.Proofs.YtpdfobjlcfcfpaaDoor
