/- Package sysl: the finding functions over rows of parameters and elements. -/
import Derived.Test.YtdkfgobbpadmgaaGreatDoorSyslHead
set_option linter.unusedVariables false
set_option linter.unusedSimpArgs false
namespace Go.Proofs.YtdkfgobbpadmgaaGreatDoor
open Go.RowKit
abbrev BPar := ByteArray × ByteArray
/-- A slice of parameters, as it may be read. -/
structure Pars (w : World) (v : Value) (ps : List BPar) : Prop where
  shape : ∃ a cap, v = .slice a ps.length cap ∧ (∀ b, a = some b → 0 < ps.length → b.block < w.heap.size) ∧ ∀ i (h : i < ps.length), ∃ b, a = some b ∧ b.spot = none ∧ w.cell? ⟨b.block, b.off + i * 2, none⟩ = some (.string ps[i].1) ∧ w.cell? ⟨b.block, b.off + i * 2 + 1, none⟩ = some (.string ps[i].2)
def parBad (p : BPar) : Bool := !nameB p.1.data.toList || !Lib.validD p.2.data.toList
set_option maxHeartbeats 1000000 in
set_option maxRecDepth 100000 in
theorem parBad_c (n v : ByteArray) (w : World) (hn : n.size ≤ 9223372036854775807) (hv : v.size ≤ 9223372036854775807) (hU : UTabs w) (h9 : 9 ≤ w.heap.size) :
    Calls Tryz.prog 75 #[.agg #[.string n, .string v]] w fun e w' => e = .returned (.bool (parBad (n, v))) ∧ Below w.heap.size w w' := by
  have c1 : Hid (∀ w : World, Calls Tryz.prog 73 #[.string n] w fun e w' => e = .returned (.bool (nameB n.data.toList)) ∧ w = w') := Lib.hid fun w => name_c n w (by omega)
  have c2 : Hid (∀ w : World, UTabs w → Calls Tryz.prog 49 #[.string v] w fun e w' => e = .returned (.bool (Lib.validD v.data.toList)) ∧ Below w.heap.size w w') := Lib.hid fun w hw => valid_c v w (by omega) hw
  have hr : Hid (parBad (n, v) = (!nameB n.data.toList || !Lib.validD v.data.toList)) := rfl
  generalize nameB n.data.toList = m1 at c1 hr
  generalize Lib.validD v.data.toList = m2 at c2 hr
  have b0 : Below w.heap.size w (w.alloc (Obj.cells #[.string n, .string v] 73)) := (Below.refl _ _).alloc (Nat.le_refl _) _
  have hu : UTabs (w.alloc (Obj.cells #[.string n, .string v] 73)) := UTabs.same hU fun k hk => Below.heap_alloc _ _ _ (by omega)
  have HB := Lib.hid b0; have HU := Lib.hid hu; clear b0 hu hU
  go_enter Tryz.func75, Tryz.ntmps75
  go_wp2_with (first
    | (go_at_call 73; refine (c1.out _).mono ?_; rintro e w' ⟨rfl, rfl⟩)
    | (go_at_call 49; refine (c2.out _ HU.out).mono ?_; rintro e w2 ⟨rfl, b2⟩; replace HB := Lib.hid (HB.out.trans (b2.mono HB.out.size)); clear b2))
  all_goals
    go_ret
    refine ⟨ret_v ?_, HB.out⟩
    rw [hr.out]
    show Value.bool _ = Value.bool _
    congr 1
    try simp_all
-- FIND
theorem find_at {α : Type} (p : α → Bool) : ∀ (l : List α) (k : Nat) (h : k < l.length), (l.take k).any p = false → p l[k] = true → l.findIdx p = k
  | [], k, h, _, _ => absurd h (by simp)
  | c :: l, 0, _, _, hp => by simp at hp; simp [List.findIdx_cons, hp]
  | c :: l, k + 1, h, ht, hp => by
    simp only [List.take_succ_cons, List.any_cons, Bool.or_eq_false_iff] at ht
    have := find_at p l k (by simpa using h) ht.2 (by simpa using hp)
    simp [List.findIdx_cons, ht.1, this]
theorem any_at {α : Type} (p : α → Bool) (l : List α) (k : Nat) (h : k < l.length) (hp : p l[k] = true) : l.any p = true := List.any_eq_true.2 ⟨_, List.getElem_mem h, hp⟩
def idxB {α : Type} (p : α → Bool) (ps : List α) : Int := if ps.any p then (ps.findIdx p : Int) else -1
set_option maxHeartbeats 1000000 in
set_option maxRecDepth 100000 in
theorem idxPar (v : Value) (ps : List BPar) (p : BPar → Bool) (w : World) (hp : Pars w v ps) (hl : ps.length ≤ 9223372036854775807)
    (hf : ∀ k (h : k < ps.length) (w' : World), Below w.heap.size w w' → Calls Tryz.prog 75 (#[.agg #[.string ps[k].1, .string ps[k].2]]) w' fun e w'' => e = .returned (.bool (p ps[k])) ∧ Below w'.heap.size w' w'') :
    Calls Tryz.prog 91 #[v, .func (.func 75) #[] #[]] w fun e w' => e = .returned (.int .i64 (idxB p ps)) ∧ Below w.heap.size w w' := by
  obtain ⟨a, cap, rfl, hlt, hc⟩ := hp.shape
  have HC := Lib.hid hc; have HL := Lib.hid hlt; have HF := Lib.hid hf
  clear hc hlt hf hp
  go_enter Tryz.func91, Tryz.ntmps91
  go_wp2_with fail
  go_loopg [8] ps.length (fun g c wr => ∃ k : Nat, k ≤ ps.length ∧ g = ps.length - k ∧ c = .int .i64 k ∧ Hid ((ps.take k).any p = false) ∧ Below w.heap.size w wr)
  case atStart => exact ⟨0, by omega, rfl, rfl, by show (ps.take 0).any _ = false; simp, Below.refl _ _⟩
  case round =>
    obtain ⟨k, hk, hg, rfl, hno, hbel⟩ := hrel
    have HG := Lib.hid hg; have HB := Lib.hid hbel; clear hg hbel
    by_cases hlt : k < ps.length
    · obtain ⟨b, rfl, hsp, e1, e2⟩ := HC.out k hlt
      have hbl := HL.out b rfl (by omega)
      obtain ⟨g, off, sp⟩ := b
      cases hsp
      replace e1 : wr.cell? ⟨g, off + k * 2, none⟩ = some (.string ps[k].1) := (World.cell?_of_block (HB.out.block g hbl)).trans e1
      replace e2 : wr.cell? ⟨g, off + k * 2 + 1, none⟩ = some (.string ps[k].2) := (World.cell?_of_block (HB.out.block g hbl)).trans e2
      have hcl := Lib.hid (HF.out k hlt wr HB.out)
      cases hpb : p ps[k]
      · have hno2 : Hid ((ps.take (k + 1)).any p = false) := by
          show (ps.take (k + 1)).any p = false
          rw [List.take_succ_eq_append_getElem hlt, List.any_append, hno.out]
          simpa using hpb
        rw [hpb] at hcl
        clear hpb hno
        go_wp2_with (go_at_call 75; refine hcl.out.mono ?_; rintro e w2 ⟨rfl, b2⟩; replace HB := Lib.hid (HB.out.trans (b2.mono HB.out.size)); clear b2)
        go_roundg (ps.length - (k + 1))
        case measure => rw [HG.out]; omega
        case rel => exact ⟨k + 1, by omega, rfl, by go_num, hno2.out, HB.out⟩
      · have hR : Hid (idxB p ps = (k : Int)) := by
          show idxB p ps = _
          rw [idxB, if_pos (any_at p ps k hlt hpb), find_at p ps k hlt hno.out hpb]
        rw [hpb] at hcl
        clear hpb hno
        go_wp2_with (go_at_call 75; refine hcl.out.mono ?_; rintro e w2 ⟨rfl, b2⟩; replace HB := Lib.hid (HB.out.trans (b2.mono HB.out.size)); clear b2)
        go_ret
        exact ⟨ret_v (by rw [hR.out]; rfl), HB.out⟩
    · have hlt' : decide ((k : Int) < (ps.length : Int)) = false := decide_eq_false (by omega)
      have hall : ps.any p = false := by
        have := hno.out
        rwa [List.take_of_length_le (by omega)] at this
      have hR : Hid (idxB p ps = -1) := by
        show idxB p ps = _
        rw [idxB, hall]
        rfl
      clear hno hall
      go_wp2_with fail
      go_ret
      exact ⟨ret_v (by rw [hR.out]; rfl), HB.out⟩
set_option maxHeartbeats 1000000 in
set_option maxRecDepth 100000 in
theorem hasPar (v : Value) (ps : List BPar) (p : BPar → Bool) (w : World) (hp : Pars w v ps) (hl : ps.length ≤ 9223372036854775807)
    (hf : ∀ k (h : k < ps.length) (w' : World), Below w.heap.size w w' → Calls Tryz.prog 75 (#[.agg #[.string ps[k].1, .string ps[k].2]]) w' fun e w'' => e = .returned (.bool (p ps[k])) ∧ Below w'.heap.size w' w'') :
    Calls Tryz.prog 74 #[v, .func (.func 75) #[] #[]] w fun e w' => e = .returned (.bool (ps.any p)) ∧ Below w.heap.size w w' := by
  have hi := idxPar v ps p w hp hl hf
  have HI := Lib.hid hi; clear hi hf hp
  have hd : Hid (decide (0 ≤ idxB p ps) = ps.any p) := by
    show decide (0 ≤ idxB p ps) = ps.any p
    unfold idxB
    cases ps.any p
    · rfl
    · simp
  generalize idxB p ps = n at HI hd
  go_enter Tryz.func74, Tryz.ntmps74
  go_wp2_with (go_at_call 91; refine HI.out.mono ?_; rintro e w1 ⟨rfl, b1⟩)
  go_ret
  exact ⟨ret_v (by rw [← hd.out]; rfl), b1⟩
/-- an element: its name, its parameters as a value, and as what they are -/
abbrev BEl := ByteArray × Value × List BPar
structure Elems (w : World) (v : Value) (es : List BEl) : Prop where
  shape : ∃ a cap, v = .slice a es.length cap ∧ (∀ b, a = some b → 0 < es.length → b.block < w.heap.size) ∧ ∀ i (h : i < es.length), ∃ b, a = some b ∧ b.spot = none ∧ w.cell? ⟨b.block, b.off + i * 2, none⟩ = some (.string es[i].1) ∧ w.cell? ⟨b.block, b.off + i * 2 + 1, none⟩ = some es[i].2.1 ∧ Pars w es[i].2.1 es[i].2.2
def elBig (x : BEl) : Bool := decide (64 < x.2.2.length)
set_option maxHeartbeats 1000000 in
set_option maxRecDepth 100000 in
theorem idxEl (v : Value) (ps : List BEl) (p : BEl → Bool) (w : World) (hp : Elems w v ps) (hl : ps.length ≤ 9223372036854775807)
    (hf : ∀ k (h : k < ps.length) (w' : World), Below w.heap.size w w' → Calls Tryz.prog 51 (#[.agg #[.string ps[k].1, ps[k].2.1]]) w' fun e w'' => e = .returned (.bool (p ps[k])) ∧ Below w'.heap.size w' w'') :
    Calls Tryz.prog 77 #[v, .func (.func 51) #[] #[]] w fun e w' => e = .returned (.int .i64 (idxB p ps)) ∧ Below w.heap.size w w' := by
  obtain ⟨a, cap, rfl, hlt, hc⟩ := hp.shape
  have HC := Lib.hid hc; have HL := Lib.hid hlt; have HF := Lib.hid hf
  clear hc hlt hf hp
  go_enter Tryz.func77, Tryz.ntmps77
  go_wp2_with fail
  go_loopg [8] ps.length (fun g c wr => ∃ k : Nat, k ≤ ps.length ∧ g = ps.length - k ∧ c = .int .i64 k ∧ Hid ((ps.take k).any p = false) ∧ Below w.heap.size w wr)
  case atStart => exact ⟨0, by omega, rfl, rfl, by show (ps.take 0).any _ = false; simp, Below.refl _ _⟩
  case round =>
    obtain ⟨k, hk, hg, rfl, hno, hbel⟩ := hrel
    have HG := Lib.hid hg; have HB := Lib.hid hbel; clear hg hbel
    by_cases hlt : k < ps.length
    · obtain ⟨b, rfl, hsp, e1, e2, _⟩ := HC.out k hlt
      have hbl := HL.out b rfl (by omega)
      obtain ⟨g, off, sp⟩ := b
      cases hsp
      replace e1 : wr.cell? ⟨g, off + k * 2, none⟩ = some (.string ps[k].1) := (World.cell?_of_block (HB.out.block g hbl)).trans e1
      replace e2 : wr.cell? ⟨g, off + k * 2 + 1, none⟩ = some ps[k].2.1 := (World.cell?_of_block (HB.out.block g hbl)).trans e2
      obtain ⟨pa, pc, hpv, -⟩ := (HC.out k hlt).choose_spec.2.2.2.2.shape
      have hcl := HF.out k hlt wr HB.out
      rw [hpv] at hcl e2
      replace hcl := Lib.hid hcl
      clear hpv
      cases hpb : p ps[k]
      · have hno2 : Hid ((ps.take (k + 1)).any p = false) := by
          show (ps.take (k + 1)).any p = false
          rw [List.take_succ_eq_append_getElem hlt, List.any_append, hno.out]
          simpa using hpb
        rw [hpb] at hcl
        clear hpb hno
        go_wp2_with (go_at_call 51; refine hcl.out.mono ?_; rintro e w2 ⟨rfl, b2⟩; replace HB := Lib.hid (HB.out.trans (b2.mono HB.out.size)); clear b2)
        go_roundg (ps.length - (k + 1))
        case measure => rw [HG.out]; omega
        case rel => exact ⟨k + 1, by omega, rfl, by go_num, hno2.out, HB.out⟩
      · have hR : Hid (idxB p ps = (k : Int)) := by
          show idxB p ps = _
          rw [idxB, if_pos (any_at p ps k hlt hpb), find_at p ps k hlt hno.out hpb]
        rw [hpb] at hcl
        clear hpb hno
        go_wp2_with (go_at_call 51; refine hcl.out.mono ?_; rintro e w2 ⟨rfl, b2⟩; replace HB := Lib.hid (HB.out.trans (b2.mono HB.out.size)); clear b2)
        go_ret
        exact ⟨ret_v (by rw [hR.out]; rfl), HB.out⟩
    · have hlt' : decide ((k : Int) < (ps.length : Int)) = false := decide_eq_false (by omega)
      have hall : ps.any p = false := by
        have := hno.out
        rwa [List.take_of_length_le (by omega)] at this
      have hR : Hid (idxB p ps = -1) := by
        show idxB p ps = _
        rw [idxB, hall]
        rfl
      clear hno hall
      go_wp2_with fail
      go_ret
      exact ⟨ret_v (by rw [hR.out]; rfl), HB.out⟩
set_option maxHeartbeats 1000000 in
set_option maxRecDepth 100000 in
theorem hasEl (v : Value) (ps : List BEl) (p : BEl → Bool) (w : World) (hp : Elems w v ps) (hl : ps.length ≤ 9223372036854775807)
    (hf : ∀ k (h : k < ps.length) (w' : World), Below w.heap.size w w' → Calls Tryz.prog 51 (#[.agg #[.string ps[k].1, ps[k].2.1]]) w' fun e w'' => e = .returned (.bool (p ps[k])) ∧ Below w'.heap.size w' w'') :
    Calls Tryz.prog 50 #[v, .func (.func 51) #[] #[]] w fun e w' => e = .returned (.bool (ps.any p)) ∧ Below w.heap.size w w' := by
  have hi := idxEl v ps p w hp hl hf
  have HI := Lib.hid hi; clear hi hf hp
  have hd : Hid (decide (0 ≤ idxB p ps) = ps.any p) := by
    show decide (0 ≤ idxB p ps) = ps.any p
    unfold idxB
    cases ps.any p
    · rfl
    · simp
  generalize idxB p ps = n at HI hd
  go_enter Tryz.func50, Tryz.ntmps50
  go_wp2_with (go_at_call 77; refine HI.out.mono ?_; rintro e w1 ⟨rfl, b1⟩)
  go_ret
  exact ⟨ret_v (by rw [← hd.out]; rfl), b1⟩
end Go.Proofs.YtdkfgobbpadmgaaGreatDoor
