/- An event among a law's arguments, opened: its numbers, its texts, its elements and their parameters, as cells. -/
import Derived.Test.YtdkfgobbpadmgaaDoorSyslElems
import Derived.Test.YtdkfgobbpadmgaaDoorLawKit
import Derived.Deep.Slices
set_option linter.unusedVariables false
set_option linter.unusedSimpArgs false
namespace Go.Proofs.YtdkfgobbpadmgaaDoor
open Go.ChangeShapes Go.WideShapes Go.ChangeAt Go.RowKit
theorem choose_list {α : Type} {Q : Nat → α → Prop} : ∀ (n : Nat), (∀ i, i < n → ∃ q, Q i q) → ∃ l : List α, l.length = n ∧ ∀ i (hi : i < l.length), Q i l[i]
  | 0, _ => ⟨[], rfl, fun i hi => absurd hi (by simp)⟩
  | n + 1, h => by
    obtain ⟨l, hl, hq⟩ := choose_list n fun i hi => h i (by omega)
    obtain ⟨q, hn⟩ := h n (by omega)
    refine ⟨l ++ [q], by rw [List.length_append, hl]; rfl, fun i hi => ?_⟩
    rw [List.length_append, List.length_singleton] at hi
    by_cases e : i < l.length
    · rw [List.getElem_append_left e]
      exact hq i e
    · have : i = l.length := by omega
      subst this
      rw [List.getElem_append_right (Nat.le_refl _)]
      simpa [hl] using hn
theorem add_plain {a : Addr} (h : a.spot = none) (m : Nat) : a.add m = ⟨a.block, a.off + m, none⟩ := by
  obtain ⟨b, o, s⟩ := a
  cases h
  unfold Addr.add
  split
  · rename_i h0; subst h0; rfl
  · rfl
section
variable {H : Type} {enc : TypeId × Value → H} {w : World} {base : Nat} {spare : Nat → Bool} {held : Bool}
theorem cellsParam : Tryd.prog.cellsOf 33 = 2 := by kernel_rfl
theorem cellsElem : Tryd.prog.cellsOf 31 = 2 := by kernel_rfl
theorem cellsEvent : Tryd.prog.cellsOf 24 = 10 := by kernel_rfl
theorem cellsStr : Tryd.prog.cellsOf 9 = 1 := by kernel_rfl
theorem cellsInt1 : Tryd.prog.cellsOf 3 = 1 := by kernel_rfl
theorem cellsInt64 : Tryd.prog.cellsOf 2 = 1 := by kernel_rfl
theorem cellsBool : Tryd.prog.cellsOf 4 = 1 := by kernel_rfl
theorem cellsPars : Tryd.prog.cellsOf 29 = 1 := by kernel_rfl
theorem cellsElems : Tryd.prog.cellsOf 22 = 1 := by kernel_rfl
/-- a slice whose elements have two cells -/
theorem open_twos {t e : TypeId} {fuel : Nat} {cs : List Value} {x : DataW H × List MemPlace} (ht : Tryd.prog.underlying t = some (.slice e)) (hC : Tryd.prog.cellsOf e = 2) (h : DataW.trod enc Tryd.prog w base spare held fuel t cs = some x) :
    ∃ (ao : Option Addr) (len cap : Nat), cs = [.slice ao len cap] ∧ len ≤ cap ∧ cap ≤ 9223372036854775807 ∧ (∀ b, ao = some b → 0 < len → b.block < w.heap.size) ∧
      ∀ i, i < len → ∃ (b : Addr) (c0 c1 : Value) (n : Nat) (y : DataW H × List MemPlace), ao = some b ∧ b.spot = none ∧ w.cell? ⟨b.block, b.off + i * 2, none⟩ = some c0 ∧ w.cell? ⟨b.block, b.off + i * 2 + 1, none⟩ = some c1 ∧ DataW.trod enc Tryd.prog w base spare held n e [c0, c1] = some y := by
  rcases Deep.open_slice ht h with ⟨rfl, _⟩ | ⟨a, len, cap, m, n, D, Pl, rfl, hb, hl, hm, hmm, _, hi⟩
  · exact ⟨none, 0, 0, rfl, by omega, by omega, by simp, fun i hi => absurd hi (by omega)⟩
  · have hml : len ≤ m := by rw [hmm]; split <;> omega
    rw [hC] at hi
    have hcell : ∀ i, i < len → ∃ (b : Addr) (c0 c1 : Value) (n : Nat) (y : DataW H × List MemPlace), some a = some b ∧ b.spot = none ∧ w.cell? ⟨b.block, b.off + i * 2, none⟩ = some c0 ∧ w.cell? ⟨b.block, b.off + i * 2 + 1, none⟩ = some c1 ∧ DataW.trod enc Tryd.prog w base spare held n e [c0, c1] = some y := fun i hil => by
      have hs : a.spot = none := by
        obtain ⟨cs0, hc0, _⟩ := hi 0 (by omega)
        obtain ⟨_, hcl, hat⟩ := World.cells?_some hc0
        have h0 := hat 0 (by omega)
        have e0 : (a.add (0 * 2)).add 0 = a := by simp [Addr.add]
        rw [e0, List.getElem?_eq_getElem (by omega)] at h0
        exact World.cell?_spot h0
      obtain ⟨cs', hc, ht'⟩ := hi i (by omega)
      obtain ⟨_, hcl, hat⟩ := World.cells?_some hc
      match cs', hcl with
      | [c0, c1], _ =>
        have a0 := hat 0 (by omega)
        have a1 := hat 1 (by omega)
        rw [add_plain hs, add_plain rfl] at a0 a1
        exact ⟨a, c0, c1, n, _, rfl, hs, by simpa using a0, by simpa using a1, ht'⟩
    refine ⟨some a, len, cap, rfl, hl, by unfold maxLen at hm; omega, fun b hb h0 => ?_, hcell⟩
    cases hb
    obtain ⟨b, c0, c1, _, _, hb, hs, hc0, _⟩ := hcell 0 h0
    cases hb
    exact World.block_lt_of_cell? w ⟨a.block, a.off + 0 * 2, none⟩ hc0
theorem open_par {n : Nat} {c0 c1 : Value} {y : DataW H × List MemPlace} (h : DataW.trod enc Tryd.prog w base spare held n 33 [c0, c1] = some y) : ∃ s r : ByteArray, c0 = .string s ∧ c1 = .string r ∧ s.size ≤ 9223372036854775807 ∧ r.size ≤ 9223372036854775807 := by
  obtain ⟨xs, k, _, hx, hcl, hlen, hg⟩ := DataW.trod_struct Tryd.underlying33 h
  match xs, hlen with
  | [x0, x1], _ =>
    have g0 : DataW.trod enc Tryd.prog w base spare held k 9 (([c0, c1].drop 0).take (Tryd.prog.cellsOf 9)) = some x0 := hg 0 _ rfl
    have g1 : DataW.trod enc Tryd.prog w base spare held k 9 (([c0, c1].drop 1).take (Tryd.prog.cellsOf 9)) = some x1 := hg 1 _ rfl
    rw [cellsStr] at g0 g1
    obtain ⟨s, e0, _, z0⟩ := DataW.trod_string Tryd.underlying9 g0
    obtain ⟨r, e1, _, z1⟩ := DataW.trod_string Tryd.underlying9 g1
    simp at e0 e1
    unfold maxLen at z0 z1
    exact ⟨s, r, e0, e1, by omega, by omega⟩
theorem open_pars {fuel : Nat} {cs : List Value} {x : DataW H × List MemPlace} (h : DataW.trod enc Tryd.prog w base spare held fuel 29 cs = some x) :
    ∃ (v : Value) (ps : List BPar), cs = [v] ∧ Pars w v ps ∧ ps.length ≤ 9223372036854775807 ∧ ∀ q ∈ ps, q.1.size ≤ 9223372036854775807 ∧ q.2.size ≤ 9223372036854775807 := by
  obtain ⟨ao, len, cap, rfl, hl0, hm, hb, hi⟩ := open_twos Tryd.underlying29 cellsParam h
  have hl := Nat.le_trans hl0 hm
  obtain ⟨ps, hps, hq⟩ := choose_list (α := BPar) (Q := fun i q => ∃ b, ao = some b ∧ b.spot = none ∧ w.cell? ⟨b.block, b.off + i * 2, none⟩ = some (.string q.1) ∧ w.cell? ⟨b.block, b.off + i * 2 + 1, none⟩ = some (.string q.2) ∧ q.1.size ≤ 9223372036854775807 ∧ q.2.size ≤ 9223372036854775807) len (fun i hil => by
    obtain ⟨b, c0, c1, n, y, h1, h2, h3, h4, h5⟩ := hi i hil
    obtain ⟨s, r, rfl, rfl, z0, z1⟩ := open_par h5
    exact ⟨(s, r), b, h1, h2, h3, h4, z0, z1⟩)
  subst hps
  refine ⟨_, ps, rfl, ⟨ao, cap, rfl, hb, fun i hi => ?_⟩, hl, fun q hqm => ?_⟩
  · obtain ⟨b, h1, h2, h3, h4, _⟩ := hq i hi
    exact ⟨b, h1, h2, h3, h4⟩
  · obtain ⟨i, hi, rfl⟩ := List.getElem_of_mem hqm
    obtain ⟨b, _, _, _, _, h5, h6⟩ := hq i hi
    exact ⟨h5, h6⟩
theorem open_elems {fuel : Nat} {cs : List Value} {x : DataW H × List MemPlace} (h : DataW.trod enc Tryd.prog w base spare held fuel 22 cs = some x) :
    ∃ (ao : Option Addr) (cap : Nat) (es : List BEl), cs = [.slice ao es.length cap] ∧ Elems w (.slice ao es.length cap) es ∧ ElsIn es ∧ es.length ≤ cap ∧ cap ≤ 9223372036854775807 := by
  obtain ⟨ao, len, cap, rfl, hl0, hm, hb, hi⟩ := open_twos Tryd.underlying22 cellsElem h
  have hl := Nat.le_trans hl0 hm
  obtain ⟨es, hes, hq⟩ := choose_list (α := BEl) (Q := fun i q => ∃ b, ao = some b ∧ b.spot = none ∧ w.cell? ⟨b.block, b.off + i * 2, none⟩ = some (.string q.1) ∧ w.cell? ⟨b.block, b.off + i * 2 + 1, none⟩ = some q.2.1 ∧ Pars w q.2.1 q.2.2 ∧ q.1.size ≤ 9223372036854775807 ∧ q.2.2.length ≤ 9223372036854775807 ∧ ∀ r ∈ q.2.2, r.1.size ≤ 9223372036854775807 ∧ r.2.size ≤ 9223372036854775807) len (fun i hil => by
    obtain ⟨b, c0, c1, n, y, h1, h2, h3, h4, h5⟩ := hi i hil
    obtain ⟨xs, k, _, hx, hcl, hlen, hg⟩ := DataW.trod_struct Tryd.underlying31 h5
    match xs, hlen with
    | [x0, x1], _ =>
      have g0 : DataW.trod enc Tryd.prog w base spare held k 9 (([c0, c1].drop 0).take (Tryd.prog.cellsOf 9)) = some x0 := hg 0 _ rfl
      have g1 : DataW.trod enc Tryd.prog w base spare held k 29 (([c0, c1].drop 1).take (Tryd.prog.cellsOf 29)) = some x1 := hg 1 _ rfl
      rw [cellsStr] at g0
      rw [cellsPars] at g1
      obtain ⟨s, e0, _, z0⟩ := DataW.trod_string Tryd.underlying9 g0
      obtain ⟨v, ps, e1, p1, p2, p3⟩ := open_pars g1
      simp at e0 e1
      subst e0; subst e1
      unfold maxLen at z0
      exact ⟨(s, c1, ps), b, h1, h2, h3, h4, p1, by omega, p2, p3⟩)
  subst hes
  refine ⟨ao, cap, es, rfl, ⟨ao, cap, rfl, hb, fun i hi => ?_⟩, ⟨hl, fun q hqm => ?_, fun q hqm => ?_, fun q hqm => ?_⟩, hl0, hm⟩
  · obtain ⟨b, h1, h2, h3, h4, h5, _⟩ := hq i hi
    exact ⟨b, h1, h2, h3, h4, h5⟩
  all_goals
    obtain ⟨i, hi, rfl⟩ := List.getElem_of_mem hqm
    obtain ⟨b, _, _, _, _, _, h5, h6, h7⟩ := hq i hi
  · exact h5
  · exact h6
  · exact h7
set_option maxRecDepth 100000 in
theorem open_event {r : Reach} {b0 : Nat} {v : Value} {d : DataW H} {pl : List MemPlace} (hv : Value.okWide Tryd.prog w r b0 24 v) (h : DataW.Trod enc Tryd.prog w base spare held 24 v d pl) :
    ∃ (g f : Int) (t : Bool) (a : Int) (h p q i x : ByteArray) (da : Option Addr) (dc : Nat) (es : List BEl), v = .agg #[.int .i64 g, .int .i64 f, .bool t, .int .i64 a, .string h, .string p, .string q, .string i, .slice da es.length dc, .string x] ∧ Elems w (.slice da es.length dc) es ∧ ElsIn es ∧ (es.length ≤ dc ∧ dc ≤ 9223372036854775807) ∧
      (-9223372036854775808 ≤ a ∧ a ≤ 9223372036854775807) ∧ h.size ≤ 9223372036854775807 ∧ p.size ≤ 9223372036854775807 ∧ q.size ≤ 9223372036854775807 ∧ i.size ≤ 9223372036854775807 ∧ x.size ≤ 9223372036854775807 := by
  obtain ⟨cs, rfl, hsz⟩ := okWide_struct Tryd.underlying24 hv
  obtain ⟨fuel, hf⟩ := h
  obtain ⟨xs, k, _, hx, hcl, hlen, hg⟩ := DataW.trod_struct Tryd.underlying24 hf
  obtain ⟨l⟩ := cs
  match l, hsz.trans cellsEvent with
  | [c0, c1, c2, c3, c4, c5, c6, c7, c8, c9], _ =>
    match xs, hlen with
    | [x0, x1, x2, x3, x4, x5, x6, x7, x8, x9], _ =>
      have g0 : DataW.trod enc Tryd.prog w base spare held k 3 (([c0, c1, c2, c3, c4, c5, c6, c7, c8, c9].drop 0).take (Tryd.prog.cellsOf 3)) = some x0 := hg 0 _ rfl
      have g1 : DataW.trod enc Tryd.prog w base spare held k 3 (([c0, c1, c2, c3, c4, c5, c6, c7, c8, c9].drop 1).take (Tryd.prog.cellsOf 3)) = some x1 := hg 1 _ rfl
      have g2 : DataW.trod enc Tryd.prog w base spare held k 4 (([c0, c1, c2, c3, c4, c5, c6, c7, c8, c9].drop 2).take (Tryd.prog.cellsOf 4)) = some x2 := hg 2 _ rfl
      have g3 : DataW.trod enc Tryd.prog w base spare held k 2 (([c0, c1, c2, c3, c4, c5, c6, c7, c8, c9].drop 3).take (Tryd.prog.cellsOf 2)) = some x3 := hg 3 _ rfl
      have g4 : DataW.trod enc Tryd.prog w base spare held k 9 (([c0, c1, c2, c3, c4, c5, c6, c7, c8, c9].drop 4).take (Tryd.prog.cellsOf 9)) = some x4 := hg 4 _ rfl
      have g5 : DataW.trod enc Tryd.prog w base spare held k 9 (([c0, c1, c2, c3, c4, c5, c6, c7, c8, c9].drop 5).take (Tryd.prog.cellsOf 9)) = some x5 := hg 5 _ rfl
      have g6 : DataW.trod enc Tryd.prog w base spare held k 9 (([c0, c1, c2, c3, c4, c5, c6, c7, c8, c9].drop 6).take (Tryd.prog.cellsOf 9)) = some x6 := hg 6 _ rfl
      have g7 : DataW.trod enc Tryd.prog w base spare held k 9 (([c0, c1, c2, c3, c4, c5, c6, c7, c8, c9].drop 7).take (Tryd.prog.cellsOf 9)) = some x7 := hg 7 _ rfl
      have g8 : DataW.trod enc Tryd.prog w base spare held k 22 (([c0, c1, c2, c3, c4, c5, c6, c7, c8, c9].drop 8).take (Tryd.prog.cellsOf 22)) = some x8 := hg 8 _ rfl
      have g9 : DataW.trod enc Tryd.prog w base spare held k 9 (([c0, c1, c2, c3, c4, c5, c6, c7, c8, c9].drop 9).take (Tryd.prog.cellsOf 9)) = some x9 := hg 9 _ rfl
      rw [cellsInt1] at g0 g1
      rw [cellsBool] at g2
      rw [cellsInt64] at g3
      rw [cellsStr] at g4 g5 g6 g7 g9
      rw [cellsElems] at g8
      obtain ⟨n0, e0, _, _⟩ := DataW.trod_int Tryd.underlying3 g0
      obtain ⟨n1, e1, _, _⟩ := DataW.trod_int Tryd.underlying3 g1
      obtain ⟨n2, e2, _⟩ := DataW.trod_bool Tryd.underlying4 g2
      obtain ⟨n3, e3, _, w3⟩ := DataW.trod_int Tryd.underlying2 g3
      obtain ⟨n4, e4, _, z4⟩ := DataW.trod_string Tryd.underlying9 g4
      obtain ⟨n5, e5, _, z5⟩ := DataW.trod_string Tryd.underlying9 g5
      obtain ⟨n6, e6, _, z6⟩ := DataW.trod_string Tryd.underlying9 g6
      obtain ⟨n7, e7, _, z7⟩ := DataW.trod_string Tryd.underlying9 g7
      obtain ⟨da, dc, es, e8, p8, q8, r8, s8⟩ := open_elems g8
      obtain ⟨n9, e9, _, z9⟩ := DataW.trod_string Tryd.underlying9 g9
      simp at e0 e1 e2 e3 e4 e5 e6 e7 e8 e9
      subst_vars
      unfold maxLen at z4 z5 z6 z7 z9
      exact ⟨_, _, _, _, _, _, _, _, _, da, dc, es, rfl, p8, q8, ⟨r8, s8⟩, wf_i64 w3, by omega, by omega, by omega, by omega, by omega⟩
end
end Go.Proofs.YtdkfgobbpadmgaaDoor
