/- Package sysl: Get, a parameter's value. -/
import Derived.Test.YtdkfgobbpadmgaaGreatDoorSyslFind
set_option linter.unusedVariables false
set_option linter.unusedSimpArgs false
namespace Go.Proofs.YtdkfgobbpadmgaaGreatDoor
open Go.RowKit
set_option maxHeartbeats 1000000 in
set_option maxRecDepth 100000 in
theorem elBig_c (s : ByteArray) (v : Value) (ps : List BPar) (w : World) (hp : ∃ a c, v = .slice a ps.length c) :
    Calls Tryz.prog 51 #[.agg #[.string s, v]] w fun e w' => e = .returned (.bool (elBig (s, v, ps))) ∧ Below w.heap.size w w' := by
  obtain ⟨a, c, rfl⟩ := hp
  have hb : Hid (elBig (s, .slice a ps.length c, ps) = decide ((64 : Int) < (ps.length : Int))) := Lib.hid (by
    show decide (64 < ps.length) = _
    simp only [decide_eq_decide]; omega)
  go_enter Tryz.func51, Tryz.ntmps51
  go_wp2_with fail
  go_ret
  exact ⟨ret_v (by rw [hb.out]; simp), (Below.refl _ _).alloc (Nat.le_refl _) _⟩
def sameS (a b : ByteArray) : Bool := a.toList == b.toList
def isP (key : ByteArray) (q : BPar) : Bool := sameS q.1 key
def isE (id : ByteArray) (x : BEl) : Bool := sameS x.1 id
theorem cell_same {w w' : World} {g : Nat} (h : w'.heap[g]? = w.heap[g]?) (o : Nat) : w'.cell? ⟨g, o, none⟩ = w.cell? ⟨g, o, none⟩ := by
  simp only [World.cell?, h]
theorem Pars.mono {w w' : World} {v : Value} {ps : List BPar} (h : Pars w v ps) (hs : w.heap.size ≤ w'.heap.size) (hb : ∀ k, k < w.heap.size → w'.heap[k]? = w.heap[k]?) : Pars w' v ps := by
  obtain ⟨a, cap, rfl, hl, hc⟩ := h.shape
  refine ⟨a, cap, rfl, fun b e h0 => Nat.lt_of_lt_of_le (hl b e h0) hs, fun i hi => ?_⟩
  obtain ⟨b, rfl, hsp, e1, e2⟩ := hc i hi
  exact ⟨b, rfl, hsp, (cell_same (hb _ (hl b rfl (by omega))) _).trans e1, (cell_same (hb _ (hl b rfl (by omega))) _).trans e2⟩
theorem Pars.below {w w' : World} {v : Value} {ps : List BPar} (h : Pars w v ps) (hb : Below w.heap.size w w') : Pars w' v ps := h.mono hb.size hb.block
theorem Elems.mono {w w' : World} {v : Value} {es : List BEl} (h : Elems w v es) (hs : w.heap.size ≤ w'.heap.size) (hb : ∀ k, k < w.heap.size → w'.heap[k]? = w.heap[k]?) : Elems w' v es := by
  obtain ⟨a, cap, rfl, hl, hc⟩ := h.shape
  refine ⟨a, cap, rfl, fun b e h0 => Nat.lt_of_lt_of_le (hl b e h0) hs, fun i hi => ?_⟩
  obtain ⟨b, rfl, hsp, e1, e2, hp⟩ := hc i hi
  exact ⟨b, rfl, hsp, (cell_same (hb _ (hl b rfl (by omega))) _).trans e1, (cell_same (hb _ (hl b rfl (by omega))) _).trans e2, hp.mono hs hb⟩
theorem Elems.below {w w' : World} {v : Value} {es : List BEl} (h : Elems w v es) (hb : Below w.heap.size w w') : Elems w' v es := h.mono hb.size hb.block
/-- Of the elements the first of that name, of its parameters the first of that name. -/
def getB (es : List BEl) (id key : ByteArray) : ByteArray × Bool :=
  match es.find? (isE id) with
  | none => (⟨#[]⟩, false)
  | some x => match x.2.2.find? (isP key) with
    | none => (⟨#[]⟩, false)
    | some q => (q.2, true)
theorem find_first {α : Type} (p : α → Bool) : ∀ l : List α, l.any p = true → ∃ k, ∃ h : k < l.length, l.findIdx p = k ∧ l.find? p = some l[k]
  | [], h => by simp at h
  | c :: l, h => by
    cases hp : p c with
    | true => exact ⟨0, by simp, by simp [List.findIdx_cons, hp], by simp [List.find?_cons, hp]⟩
    | false =>
      rw [List.any_cons, hp, Bool.false_or] at h
      obtain ⟨k, hk, e1, e2⟩ := find_first p l h
      exact ⟨k + 1, by simpa using hk, by simp [List.findIdx_cons, hp, e1], by simp [List.find?_cons, hp, e2]⟩
theorem find_any {α : Type} (p : α → Bool) (l : List α) : (l.any p = false ∧ idxB p l = -1 ∧ l.find? p = none) ∨ ∃ k, ∃ h : k < l.length, idxB p l = (k : Int) ∧ l.find? p = some l[k] := by
  cases h : l.any p with
  | false =>
    refine .inl ⟨rfl, by rw [idxB, h]; rfl, ?_⟩
    rw [List.find?_eq_none]
    intro x hx hp
    rw [List.any_eq_false] at h
    exact h x hx hp
  | true =>
    obtain ⟨k, hk, e1, e2⟩ := find_first p l h
    exact .inr ⟨k, hk, by rw [idxB, if_pos h, e1], e2⟩
end Go.Proofs.YtdkfgobbpadmgaaGreatDoor
