/- Package sysl: Get, a parameter's value. -/
import Derived.Test.YtdkfgobbpadmgaaDoorSyslFind
set_option linter.unusedVariables false
set_option linter.unusedSimpArgs false
namespace Go.Proofs.YtdkfgobbpadmgaaDoor
open Go.RowKit
set_option maxHeartbeats 1000000 in
set_option maxRecDepth 100000 in
theorem elBig_c (s : ByteArray) (v : Value) (ps : List BPar) (w : World) (hp : ∃ a c, v = .slice a ps.length c) :
    Calls Tryd.prog 17 #[.agg #[.string s, v]] w fun e w' => e = .returned (.bool (elBig (s, v, ps))) ∧ Below w.heap.size w w' := by
  obtain ⟨a, c, rfl⟩ := hp
  have hb : Hid (elBig (s, .slice a ps.length c, ps) = decide ((64 : Int) < (ps.length : Int))) := Lib.hid (by
    show decide (64 < ps.length) = _
    simp only [decide_eq_decide]; omega)
  go_enter Tryd.func17, Tryd.ntmps17
  go_wp2_with fail
  go_ret
  exact ⟨ret_v (by rw [hb.out]; simp), (Below.refl _ _).alloc (Nat.le_refl _) _⟩
def sameS (a b : ByteArray) : Bool := a.toList == b.toList
set_option maxHeartbeats 1000000 in
set_option maxRecDepth 100000 in
theorem isId_c (s : ByteArray) (a : Option Addr) (n c : Nat) (id : ByteArray) (F : Nat) (w : World) (hF : Row w F 9 #[.string id]) :
    Calls Tryd.prog 19 #[.agg #[.string s, .slice a n c], .pointer (some ⟨F, 0, none⟩)] w fun e w' => e = .returned (.bool (sameS s id)) ∧ Below w.heap.size w w' := by
  have c0 : (w.alloc (Obj.cells #[.string s, .slice a n c] 31)).cell? ⟨F, 0, none⟩ = some (.string id) := (hF.alloc _).cell 0
  go_enter Tryd.func19, Tryd.ntmps19
  go_wp2_with fail
  go_ret
  exact ⟨ret_v rfl, (Below.refl _ _).alloc (Nat.le_refl _) _⟩
set_option maxHeartbeats 1000000 in
set_option maxRecDepth 100000 in
theorem isKey_c (s v : ByteArray) (id : ByteArray) (F : Nat) (w : World) (hF : Row w F 9 #[.string id]) :
    Calls Tryd.prog 21 #[.agg #[.string s, .string v], .pointer (some ⟨F, 0, none⟩)] w fun e w' => e = .returned (.bool (sameS s id)) ∧ Below w.heap.size w w' := by
  have c0 : (w.alloc (Obj.cells #[.string s, .string v] 33)).cell? ⟨F, 0, none⟩ = some (.string id) := (hF.alloc _).cell 0
  go_enter Tryd.func21, Tryd.ntmps21
  go_wp2_with fail
  go_ret
  exact ⟨ret_v rfl, (Below.refl _ _).alloc (Nat.le_refl _) _⟩
def isP (key : ByteArray) (q : BPar) : Bool := sameS q.1 key
def isE (id : ByteArray) (x : BEl) : Bool := sameS x.1 id
theorem cell_same {w w' : World} {g : Nat} (h : w'.heap[g]? = w.heap[g]?) (o : Nat) : w'.cell? ⟨g, o, none⟩ = w.cell? ⟨g, o, none⟩ := by
  simp only [World.cell?, h]
theorem Pars.mono {w w' : World} {v : Value} {ps : List BPar} (h : Pars w v ps) (hs : w.heap.size ≤ w'.heap.size) (hb : ∀ k, k < w.heap.size → w'.heap[k]? = w.heap[k]?) : Pars w' v ps := by
  obtain ⟨a, cap, rfl, hl, hc⟩ := h.shape
  refine ⟨a, cap, rfl, fun b e h0 => Nat.lt_of_lt_of_le (hl b e h0) hs, fun i hi => ?_⟩
  obtain ⟨b, rfl, hsp, e1, e2⟩ := hc i hi
  exact ⟨b, rfl, hsp, (cell_same (hb _ (hl b rfl (by omega))) _).trans e1, (cell_same (hb _ (hl b rfl (by omega))) _).trans e2⟩
theorem Pars.below {w w' : World} {v : Value} {ps : List BPar} (h : Pars w v ps) (hb : Below w.heap.size w w') : Pars w' v ps := h.mono hb.size hb.block
theorem Elems.mono {w w' : World} {v : Value} {es : List BEl} (h : Elems w v es) (hs : w.heap.size ≤ w'.heap.size) (hb : ∀ k, k < w.heap.size → w'.heap[k]? = w.heap[k]?) : Elems w' v es := by
  obtain ⟨a, cap, rfl, hl, hc⟩ := h.shape
  refine ⟨a, cap, rfl, fun b e h0 => Nat.lt_of_lt_of_le (hl b e h0) hs, fun i hi => ?_⟩
  obtain ⟨b, rfl, hsp, e1, e2, hp⟩ := hc i hi
  exact ⟨b, rfl, hsp, (cell_same (hb _ (hl b rfl (by omega))) _).trans e1, (cell_same (hb _ (hl b rfl (by omega))) _).trans e2, hp.mono hs hb⟩
theorem Elems.below {w w' : World} {v : Value} {es : List BEl} (h : Elems w v es) (hb : Below w.heap.size w w') : Elems w' v es := h.mono hb.size hb.block
/-- Of the elements the first of that name, of its parameters the first of that name. -/
def getB (es : List BEl) (id key : ByteArray) : ByteArray × Bool :=
  match es.find? (isE id) with
  | none => (⟨#[]⟩, false)
  | some x => match x.2.2.find? (isP key) with
    | none => (⟨#[]⟩, false)
    | some q => (q.2, true)
theorem find_first {α : Type} (p : α → Bool) : ∀ l : List α, l.any p = true → ∃ k, ∃ h : k < l.length, l.findIdx p = k ∧ l.find? p = some l[k]
  | [], h => by simp at h
  | c :: l, h => by
    cases hp : p c with
    | true => exact ⟨0, by simp, by simp [List.findIdx_cons, hp], by simp [List.find?_cons, hp]⟩
    | false =>
      rw [List.any_cons, hp, Bool.false_or] at h
      obtain ⟨k, hk, e1, e2⟩ := find_first p l h
      exact ⟨k + 1, by simpa using hk, by simp [List.findIdx_cons, hp, e1], by simp [List.find?_cons, hp, e2]⟩
theorem find_any {α : Type} (p : α → Bool) (l : List α) : (l.any p = false ∧ idxB p l = -1 ∧ l.find? p = none) ∨ ∃ k, ∃ h : k < l.length, idxB p l = (k : Int) ∧ l.find? p = some l[k] := by
  cases h : l.any p with
  | false =>
    refine .inl ⟨rfl, by rw [idxB, h]; rfl, ?_⟩
    rw [List.find?_eq_none]
    intro x hx hp
    rw [List.any_eq_false] at h
    exact h x hx hp
  | true =>
    obtain ⟨k, hk, e1, e2⟩ := find_first p l h
    exact .inr ⟨k, hk, by rw [idxB, if_pos h, e1], e2⟩
set_option maxHeartbeats 2000000 in
set_option maxRecDepth 100000 in
theorem get_c (g f : Int) (t : Bool) (a : Int) (h p q i x : ByteArray) (dv : Value) (id key : ByteArray) (es : List BEl) (w : World) (hE : Elems w dv es) (hl : es.length ≤ 9223372036854775807) (hq : ∀ y ∈ es, y.2.2.length ≤ 9223372036854775807) :
    Calls Tryd.prog 8 #[.agg #[.int .i64 g, .int .i64 f, .bool t, .int .i64 a, .string h, .string p, .string q, .string i, dv, .string x], .string id, .string key] w fun e w' => e = .returned (.tuple #[.string (getB es id key).1, .bool (getB es id key).2]) ∧ Below w.heap.size w w' := by
  have hsh := hE.shape
  obtain ⟨da, dc, rfl, -⟩ := hsh
  obtain ⟨W, hW⟩ : ∃ W, W = (((w.alloc (Obj.cells #[.int .i64 g, .int .i64 f, .bool t, .int .i64 a, .string h, .string p, .string q, .string i, .slice da es.length dc, .string x] 24)).alloc (Obj.cells #[.string id] 9)).alloc (Obj.cells #[.string key] 9)) := ⟨_, rfl⟩
  have hb0 : Below w.heap.size w W := by rw [hW]; exact (((Below.refl _ _).alloc (Nat.le_refl _) _).alloc (by simp) _).alloc (by simp; omega) _
  have hE0 := hE.below hb0
  have hrE : Row W w.heap.size 24 #[.int .i64 g, .int .i64 f, .bool t, .int .i64 a, .string h, .string p, .string q, .string i, .slice da es.length dc, .string x] := by rw [hW]; exact ((Row.laid _ _ _).alloc _).alloc _
  have hrI : Row W (w.heap.size + 1) 9 #[.string id] := by
    rw [hW]
    have := Row.laid (w.alloc (Obj.cells #[.int .i64 g, .int .i64 f, .bool t, .int .i64 a, .string h, .string p, .string q, .string i, .slice da es.length dc, .string x] 24)) 9 #[.string id]
    rw [show (w.alloc (Obj.cells #[.int .i64 g, .int .i64 f, .bool t, .int .i64 a, .string h, .string p, .string q, .string i, .slice da es.length dc, .string x] 24)).heap.size = w.heap.size + 1 by simp] at this
    exact this.alloc _
  have hrK : Row W (w.heap.size + 1 + 1) 9 #[.string key] := by
    rw [hW]
    have := Row.laid ((w.alloc (Obj.cells #[.int .i64 g, .int .i64 f, .bool t, .int .i64 a, .string h, .string p, .string q, .string i, .slice da es.length dc, .string x] 24)).alloc (Obj.cells #[.string id] 9)) 9 #[.string key]
    rw [show ((w.alloc (Obj.cells #[.int .i64 g, .int .i64 f, .bool t, .int .i64 a, .string h, .string p, .string q, .string i, .slice da es.length dc, .string x] 24)).alloc (Obj.cells #[.string id] 9)).heap.size = w.heap.size + 1 + 1 by simp] at this
    exact this
  have hi : Calls Tryd.prog 18 #[.slice da es.length dc, .func (.func 19) #[] #[.pointer (some ⟨w.heap.size + 1, 0, none⟩)]] W fun e w' => e = .returned (.int .i64 (idxB (isE id) es)) ∧ Below W.heap.size W w' := by
    refine idxElI _ _ es (isE id) W hE0 hl fun k hk w' hb => ?_
    obtain ⟨_, _, _, _, _, hp⟩ := (hE0.shape).choose_spec.choose_spec.2.2 k hk
    obtain ⟨pa, pc, hpv, -⟩ := hp.shape
    rw [hpv]
    exact isId_c _ _ _ _ _ _ w' (hrI.below hb (Row.lt hrI))
  have hbase := hb0.size
  rw [hW] at hi
  have HI := Lib.hid hi; have HB0 := Lib.hid hb0; have HW := Lib.hid hW; clear hi hb0 hW
  rcases find_any (isE id) es with ⟨_, h1, h2⟩ | ⟨k, hk, h1, h2⟩
  · have hR : Hid (getB es id key = (⟨#[]⟩, false)) := by
      show getB es id key = _
      rw [getB, h2]
    rw [h1] at HI
    go_enter Tryd.func8, Tryd.ntmps8
    go_wp2_with (go_at_call 18; refine HI.out.mono ?_; rw [← HW.out]; rintro e w1 ⟨rfl, b1⟩)
    go_ret2
    exact ⟨by rw [hR.out]; rfl, HB0.out.trans (b1.mono hbase)⟩
  · have HE0 := Lib.hid hE0
    obtain ⟨da', dc', hda, hlt, hcell⟩ := hE0.shape
    obtain ⟨b, hb, hsp, -, e2, hP⟩ := hcell k hk
    cases hda
    subst hb
    obtain ⟨bg, bo, bs⟩ := b
    cases hsp
    have hbl := hlt _ rfl (by omega)
    obtain ⟨pa, pc, hpv, -⟩ := hP.shape
    have hlen := hq es[k] (List.getElem_mem hk)
    rw [hpv] at e2 hP
    have E2 := Lib.hid e2; have HP := Lib.hid hP
    clear hE0 hlt hcell e2 hP hpv
    rw [h1] at HI
    have hg : Hid (getB es id key = match es[k].2.2.find? (isP key) with | none => (⟨#[]⟩, false) | some q => (q.2, true)) := by
      show getB es id key = _
      rw [getB, h2]
    generalize es[k].2.2 = ps at hg E2 HP hlen
    have HK : Hid (∀ w' : World, Below W.heap.size W w' → Calls Tryd.prog 20 #[.slice pa ps.length pc, .func (.func 21) #[] #[.pointer (some ⟨w.heap.size + 1 + 1, 0, none⟩)]] w' fun e w'' => e = .returned (.int .i64 (idxB (isP key) ps)) ∧ Below w'.heap.size w' w'') := Lib.hid fun w' hb => by
      refine idxParK _ _ ps (isP key) w' (HP.out.below hb) hlen fun j hj w'' hb' => ?_
      exact isKey_c _ _ _ _ w'' (((hrK.below hb (Row.lt hrK))).below hb' (Nat.lt_of_lt_of_le (Row.lt hrK) hb.size))
    have HE := Lib.hid hrE
    clear hrI hrK hrE hE hq h2 HE0
    rcases find_any (isP key) ps with ⟨_, h3, h4⟩ | ⟨j, hj, h3, h4⟩
    · have hR : Hid (getB es id key = (⟨#[]⟩, false)) := by
        show getB es id key = _
        rw [hg.out, h4]
      rw [h3] at HK
      clear hg h4 h3 h1
      go_enter Tryd.func8, Tryd.ntmps8
      go_wp2_with (first
        | (go_at_call 18; refine HI.out.mono ?_; rw [← HW.out]; rintro e w1 ⟨rfl, b1⟩; have c8 : w1.cell? ⟨w.heap.size, 8, none⟩ = some (.slice (some ⟨bg, bo, none⟩) es.length dc) := (HE.out.below b1 (Row.lt HE.out)).cell 8; have d2 : w1.cell? ⟨bg, bo + k * 2 + 1, none⟩ = some (.slice pa ps.length pc) := (cell_same (b1.block _ hbl) _).trans E2.out)
        | (go_at_call 20; refine (HK.out _ b1).mono ?_; rintro e w2 ⟨rfl, b2⟩))
      go_ret2
      exact ⟨by rw [hR.out]; rfl, HB0.out.trans ((b1.trans (b2.mono b1.size)).mono hbase)⟩
    · have hR : Hid (getB es id key = (ps[j].2, true)) := by
        show getB es id key = _
        rw [hg.out, h4]
      obtain ⟨pa', pc', hpa, hlt2, hcell2⟩ := HP.out.shape
      obtain ⟨b, hb, hsp, -, e4⟩ := hcell2 j hj
      cases hpa
      subst hb
      obtain ⟨cg, co, cs⟩ := b
      cases hsp
      have hcl := hlt2 _ rfl (by omega)
      have E4 := Lib.hid e4
      clear hlt2 hcell2 e4
      rw [h3] at HK
      clear hg h4 h3 h1
      go_enter Tryd.func8, Tryd.ntmps8
      go_wp2_with (first
        | (go_at_call 18; refine HI.out.mono ?_; rw [← HW.out]; rintro e w1 ⟨rfl, b1⟩; have c8 : w1.cell? ⟨w.heap.size, 8, none⟩ = some (.slice (some ⟨bg, bo, none⟩) es.length dc) := (HE.out.below b1 (Row.lt HE.out)).cell 8; have d2 : w1.cell? ⟨bg, bo + k * 2 + 1, none⟩ = some (.slice (some ⟨cg, co, none⟩) ps.length pc) := (cell_same (b1.block _ hbl) _).trans E2.out)
        | (go_at_call 20; refine (HK.out _ b1).mono ?_; rintro e w2 ⟨rfl, b2⟩; have d4 : w2.cell? ⟨cg, co + j * 2 + 1, none⟩ = some (.string ps[j].2) := (cell_same ((b1.trans (b2.mono b1.size)).block _ hcl) _).trans E4.out))
      go_ret2
      exact ⟨by rw [hR.out]; rfl, HB0.out.trans ((b1.trans (b2.mono b1.size)).mono hbase)⟩
end Go.Proofs.YtdkfgobbpadmgaaDoor
