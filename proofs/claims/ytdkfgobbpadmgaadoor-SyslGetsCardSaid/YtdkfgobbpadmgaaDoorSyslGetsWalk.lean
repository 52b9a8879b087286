/- The law SyslGets, walked: it returns true for every event and all numbers. -/
import Derived.Test.YtdkfgobbpadmgaaDoorSyslRightWalk
import Derived.Deep.RegionWith
set_option linter.unusedVariables false
set_option linter.unusedSimpArgs false
namespace Go.Proofs.YtdkfgobbpadmgaaDoor
open Go.RowKit
theorem nameB_nil : nameB [] = false := rfl
theorem sameS_eq {a b : ByteArray} (h : sameS a b = true) : a = b := by
  unfold sameS at h
  have := eq_of_beq h
  rw [ByteArray.toList_eq, ByteArray.toList_eq] at this
  exact ByteArray.ext (Array.toList_inj.1 this)
theorem sameS_self (a : ByteArray) : sameS a a = true := by simp [sameS]
theorem elsOk_names : ∀ (es : List BEl) (had : List (List UInt8)), elsOk had es = true → ∀ x ∈ es, nameB x.1.data.toList = true ∧ ∀ y ∈ had, y ≠ x.1.data.toList
  | [], had, _, x, hx => by cases hx
  | y :: es, had, h, x, hx => by
    rw [elsOk] at h
    simp only [Bool.and_eq_true, Bool.not_eq_true'] at h
    obtain ⟨⟨⟨h1, h2⟩, _⟩, h4⟩ := h
    rw [List.any_eq_false] at h2
    rcases List.mem_cons.1 hx with rfl | hx
    · exact ⟨h1, fun z hz e => h2 z hz (by rw [e]; simp)⟩
    · obtain ⟨i1, i2⟩ := elsOk_names es _ h4 x hx
      exact ⟨i1, fun z hz => i2 z (List.mem_append.2 (.inl hz))⟩
/-- In right elements the first one of an element's name is that element. -/
theorem find_el : ∀ (es : List BEl) (had : List (List UInt8)) (i : Nat) (hi : i < es.length), elsOk had es = true → es.find? (isE es[i].1) = some es[i]
  | [], _, i, hi, _ => absurd hi (by simp)
  | x :: es, had, 0, hi, h => by simp [isE, sameS_self]
  | x :: es, had, i + 1, hi, h => by
    rw [elsOk] at h
    simp only [Bool.and_eq_true] at h
    have hi' : i < es.length := by simpa using hi
    obtain ⟨_, h2⟩ := elsOk_names es _ h.2 es[i] (List.getElem_mem hi')
    have hne : isE es[i].1 x = false := by
      cases hq : isE es[i].1 x with
      | false => rfl
      | true => exact absurd (congrArg (fun s : ByteArray => s.data.toList) (sameS_eq hq)) (h2 _ (List.mem_append.2 (.inr (by simp))))
    have := find_el es _ i hi' h.2
    simpa [List.find?_cons, hne] using this
theorem find_none (es : List BEl) (h : elsOk [] es = true) : es.find? (isE ⟨#[]⟩) = none := by
  rw [List.find?_eq_none]
  intro x hx hq
  obtain ⟨h1, _⟩ := elsOk_names es [] h x hx
  rw [sameS_eq hq] at h1
  cases h1
/-- what the law's loop has found behind place j -/
def fstN (ps : List BPar) (key kv : ByteArray) (k j : Nat) : ByteArray := match ((ps.take (k + 1)).drop j).find? (isP key) with | some r => r.2 | none => kv
theorem fstN_start (ps : List BPar) (key kv : ByteArray) (k : Nat) : fstN ps key kv k (k + 1) = kv := by
  have : (ps.take (k + 1)).drop (k + 1) = [] := List.drop_eq_nil_of_le (by rw [List.length_take]; omega)
  rw [fstN, this]
  rfl
theorem fstN_step (ps : List BPar) (key kv : ByteArray) (k j : Nat) (hj : j ≤ k) (hk : k < ps.length) : fstN ps key kv k j = if isP key ps[j] then ps[j].2 else fstN ps key kv k (j + 1) := by
  have hl : j < (ps.take (k + 1)).length := by rw [List.length_take]; omega
  have : (ps.take (k + 1)).drop j = ps[j] :: (ps.take (k + 1)).drop (j + 1) := by
    rw [List.drop_eq_getElem_cons hl]
    simp
  rw [fstN, this, List.find?_cons]
  cases isP key ps[j] <;> rfl
theorem fstN_end (ps : List BPar) (key kv : ByteArray) (k : Nat) (hk : k < ps.length) (hp : isP key ps[k] = true) : ps.find? (isP key) = ((ps.take (k + 1)).find? (isP key)) ∧ ((ps.take (k + 1)).find? (isP key)).isSome = true := by
  have h2 : ((ps.take (k + 1)).find? (isP key)).isSome = true := by
    rw [List.find?_isSome]
    exact ⟨ps[k], by rw [List.mem_take_iff_getElem]; exact ⟨k, by omega, rfl⟩, hp⟩
  refine ⟨?_, h2⟩
  obtain ⟨y, hy⟩ := Option.isSome_iff_exists.1 h2
  rw [hy]
  conv => lhs; rw [← List.take_append_drop (k + 1) ps]
  rw [List.find?_append, hy]
  rfl
/-- The answer of Get at a right event's own element and parameter. -/
theorem get_own (es : List BEl) (i : Nat) (hi : i < es.length) (h : elsOk [] es = true) (k : Nat) (hk : k < es[i].2.2.length) : getB es es[i].1 (es[i].2.2[k]).1 = (fstN es[i].2.2 (es[i].2.2[k]).1 (es[i].2.2[k]).2 k 0, true) := by
  have hp : isP (es[i].2.2[k]).1 es[i].2.2[k] = true := sameS_self _
  obtain ⟨h1, h2⟩ := fstN_end es[i].2.2 (es[i].2.2[k]).1 (es[i].2.2[k]).2 k hk hp
  obtain ⟨y, hy⟩ := Option.isSome_iff_exists.1 h2
  rw [getB, find_el es [] i hi h]
  simp only
  rw [h1, hy, fstN, List.drop_zero, hy]
theorem get_no (es : List BEl) (h : elsOk [] es = true) (key : ByteArray) : getB es ⟨#[]⟩ key = (⟨#[]⟩, false) := by
  rw [getB, find_none es h]
set_option maxHeartbeats 4000000 in
set_option maxRecDepth 100000 in
theorem gets_law (g f : Int) (t : Bool) (a : Int) (h p q i x : ByteArray) (da : Option Addr) (dc : Nat) (es : List BEl) (n m : Int) (w : World) (hE : Elems w (.slice da es.length dc) es) (hI : ElsIn es) (hG : Glb w) (a0 : -9223372036854775808 ≤ a) (a1 : a ≤ 9223372036854775807)
    (h1 : h.size ≤ 9223372036854775807) (h2 : p.size ≤ 9223372036854775807) (h3 : q.size ≤ 9223372036854775807) (h4 : i.size ≤ 9223372036854775807) (h5 : x.size ≤ 9223372036854775807) :
    Calls Tryd.prog 4 #[.agg #[.int .i64 g, .int .i64 f, .bool t, .int .i64 a, .string h, .string p, .string q, .string i, .slice da es.length dc, .string x], .int .i64 n, .int .i64 m] w fun e w' => e = .returned (.bool true) ∧ Below w.heap.size w w' := by
  have hlen := hI.len
  obtain ⟨w1, hw1⟩ : ∃ w1, w1 = w.alloc (Obj.cells #[.int .i64 g, .int .i64 f, .bool t, .int .i64 a, .string h, .string p, .string q, .string i, .slice da es.length dc, .string x] 24) := ⟨_, rfl⟩
  have hb1 : Below w.heap.size w w1 := by rw [hw1]; exact (Below.refl _ _).alloc (Nat.le_refl _) _
  have hx1 : Row w1 w.heap.size 24 #[.int .i64 g, .int .i64 f, .bool t, .int .i64 a, .string h, .string p, .string q, .string i, .slice da es.length dc, .string x] := by rw [hw1]; exact Row.laid _ _ _
  have HS := Lib.hid (shown_c w1 (hG.below hb1))
  rw [hw1] at HS
  have HW1 := Lib.hid hw1; have HB1 := Lib.hid hb1; have HX1 := Lib.hid hx1
  have hRc := fun W hb => right_c g f t a h p q i x _ es W (hE.below hb) hI (hG.below hb) a0 a1 h1 h2 h3 h4 h5
  obtain ⟨R, hR⟩ : ∃ R, R = rightE g f t a h p q i x es := ⟨_, rfl⟩
  have HE : Hid (∀ W, Below w.heap.size w W → Calls Tryd.prog 7 #[.agg #[.int .i64 g, .int .i64 f, .bool t, .int .i64 a, .string h, .string p, .string q, .string i, .slice da es.length dc, .string x]] W fun e w' => e = .returned (.int .i64 R) ∧ Below W.heap.size W w') := Lib.hid fun W hb => by
    rw [hR]
    exact hRc W hb
  clear hRc hw1 hb1 hx1
  by_cases hr : R = 0
  · have hok : elsOk [] es = true := (right_parts0 (hR.symm.trans hr)).2.2.2.1
    subst hr
    have HR0 := Lib.hid hR; clear hR
    by_cases b0 : n < 0
    · clear hE hI hG h1 h2 h3 h4 h5 a0 a1 hok
      go_enter Tryd.func4, Tryd.ntmps4
      go_wp2_with (first
        | (go_at_call 6; refine HS.out.mono ?_; rw [← HW1.out]; rintro e w2 ⟨rfl, b⟩; have HB2 := Lib.hid (HB1.out.trans (b.mono HB1.out.size)); have HX2 := Lib.hid (HX1.out.below b HX1.out.lt); clear b)
        | (go_at_call 7; refine (HE.out _ HB2.out).mono ?_; rintro e w3 ⟨rfl, b⟩; have HB3 := Lib.hid (HB2.out.trans (b.mono HB2.out.size)); have HX3 := Lib.hid (HX2.out.below b HX2.out.lt); have c8 : w3.cell? ⟨w.heap.size, 8, none⟩ = some (.slice da es.length dc) := HX3.out.cell 8; clear b)
        | (refine wpList_load_row rfl 24 (.tmp 3) rfl w.heap.size rfl 24 #[.int .i64 g, .int .i64 f, .bool t, .int .i64 a, .string h, .string p, .string q, .string i, .slice da es.length dc, .string x] (0, 0) _ HX2.out Tryd.underlying24 rfl evSize ?_))
      go_ret
      exact ⟨rfl, HB3.out⟩
    by_cases b1 : n < es.length
    rotate_left
    · have b0' : decide (n < 0) = false := decide_eq_false b0
      have b1' : decide ((es.length : Int) ≤ n) = true := decide_eq_true (by omega)
      clear hE hI hG h1 h2 h3 h4 h5 a0 a1 hok
      go_enter Tryd.func4, Tryd.ntmps4
      go_wp2_with (first
        | (go_at_call 6; refine HS.out.mono ?_; rw [← HW1.out]; rintro e w2 ⟨rfl, b⟩; have HB2 := Lib.hid (HB1.out.trans (b.mono HB1.out.size)); have HX2 := Lib.hid (HX1.out.below b HX1.out.lt); clear b)
        | (go_at_call 7; refine (HE.out _ HB2.out).mono ?_; rintro e w3 ⟨rfl, b⟩; have HB3 := Lib.hid (HB2.out.trans (b.mono HB2.out.size)); have HX3 := Lib.hid (HX2.out.below b HX2.out.lt); have c8 : w3.cell? ⟨w.heap.size, 8, none⟩ = some (.slice da es.length dc) := HX3.out.cell 8; clear b)
        | (refine wpList_load_row rfl 24 (.tmp 3) rfl w.heap.size rfl 24 #[.int .i64 g, .int .i64 f, .bool t, .int .i64 a, .string h, .string p, .string q, .string i, .slice da es.length dc, .string x] (0, 0) _ HX2.out Tryd.underlying24 rfl evSize ?_))
      go_ret
      exact ⟨rfl, HB3.out⟩
    obtain ⟨j, rfl⟩ : ∃ j : Nat, n = j := ⟨n.toNat, by omega⟩
    have hj : j < es.length := by omega
    by_cases b2 : m < 0
    · have b1' : decide ((es.length : Int) ≤ (j : Int)) = false := decide_eq_false (by omega)
      clear hE hI hG h1 h2 h3 h4 h5 a0 a1 hok b0 b1
      go_enter Tryd.func4, Tryd.ntmps4
      go_wp2_with (first
        | (go_at_call 6; refine HS.out.mono ?_; rw [← HW1.out]; rintro e w2 ⟨rfl, b⟩; have HB2 := Lib.hid (HB1.out.trans (b.mono HB1.out.size)); have HX2 := Lib.hid (HX1.out.below b HX1.out.lt); clear b)
        | (go_at_call 7; refine (HE.out _ HB2.out).mono ?_; rintro e w3 ⟨rfl, b⟩; have HB3 := Lib.hid (HB2.out.trans (b.mono HB2.out.size)); have HX3 := Lib.hid (HX2.out.below b HX2.out.lt); have c8 : w3.cell? ⟨w.heap.size, 8, none⟩ = some (.slice da es.length dc) := HX3.out.cell 8; clear b)
        | (refine wpList_load_row rfl 24 (.tmp 3) rfl w.heap.size rfl 24 #[.int .i64 g, .int .i64 f, .bool t, .int .i64 a, .string h, .string p, .string q, .string i, .slice da es.length dc, .string x] (0, 0) _ HX2.out Tryd.underlying24 rfl evSize ?_))
      go_ret
      exact ⟨rfl, HB3.out⟩
    obtain ⟨a', c', hda, hlt, hcell⟩ := hE.shape
    cases hda
    obtain ⟨b, rfl, hsp, d0, d1, hP⟩ := hcell j hj
    have hbl := hlt _ rfl (by omega)
    obtain ⟨bg, bo, bs⟩ := b
    cases hsp
    obtain ⟨pa, pc, hpv, hlt2, hcell2⟩ := hP.shape
    rw [hpv] at d1
    have hpl := hI.many _ (List.getElem_mem hj)
    have D0 := Lib.hid d0; have D1 := Lib.hid d1
    clear hlt hcell d0 d1
    have HGO : Hid (∀ k (hk : k < es[j].2.2.length), getB es es[j].1 (es[j].2.2[k]).1 = (fstN es[j].2.2 (es[j].2.2[k]).1 (es[j].2.2[k]).2 k 0, true)) := Lib.hid fun k hk => get_own es j hj hok k hk
    have HGN : Hid (∀ key, getB es ⟨#[]⟩ key = (⟨#[]⟩, false)) := Lib.hid (get_no es hok)
    have HGC : Hid (∀ (id key : ByteArray) (W : World), Below w.heap.size w W → Calls Tryd.prog 8 #[.agg #[.int .i64 g, .int .i64 f, .bool t, .int .i64 a, .string h, .string p, .string q, .string i, .slice (some ⟨bg, bo, none⟩) es.length dc, .string x], .string id, .string key] W fun e w' => e = .returned (.tuple #[.string (getB es id key).1, .bool (getB es id key).2]) ∧ Below W.heap.size W w') := Lib.hid fun id key W hb =>
      get_c g f t a h p q i x _ id key es W (hE.below hb) hI.len hI.many
    have b0' : decide ((j : Int) < 0) = false := decide_eq_false (by omega)
    have b1' : decide ((es.length : Int) ≤ (j : Int)) = false := decide_eq_false (by omega)
    clear hE hI hG h1 h2 h3 h4 h5 a0 a1 hok b0 b1 hP hpv
    generalize es[j].2.2 = ps at *
    generalize es[j].1 = idj at *
    have HC2 := Lib.hid hcell2; have HL2 := Lib.hid hlt2
    clear hcell2 hlt2
    by_cases b4 : m < ps.length
    rotate_left
    · have b2' : decide (m < 0) = false := decide_eq_false b2
      have b4' : decide ((ps.length : Int) ≤ m) = true := decide_eq_true (by omega)
      clear b2 b4
      go_enter Tryd.func4, Tryd.ntmps4
      go_wp2_with (first
        | (go_at_call 6; refine HS.out.mono ?_; rw [← HW1.out]; rintro e w2 ⟨rfl, b⟩; have HB2 := Lib.hid (HB1.out.trans (b.mono HB1.out.size)); have HX2 := Lib.hid (HX1.out.below b HX1.out.lt); clear b)
        | (go_at_call 7; refine (HE.out _ HB2.out).mono ?_; rintro e w3 ⟨rfl, b⟩; have HB3 := Lib.hid (HB2.out.trans (b.mono HB2.out.size)); have HX3 := Lib.hid (HX2.out.below b HX2.out.lt); have c8 : w3.cell? ⟨w.heap.size, 8, none⟩ = some (.slice (some ⟨bg, bo, none⟩) es.length dc) := HX3.out.cell 8; have d13 : w3.cell? ⟨bg, bo + j * 2 + 1, none⟩ = some (.slice pa ps.length pc) := (cell_same (HB3.out.block _ hbl) _).trans D1.out; clear b)
        | (refine wpList_load_row rfl 24 (.tmp 3) rfl w.heap.size rfl 24 #[.int .i64 g, .int .i64 f, .bool t, .int .i64 a, .string h, .string p, .string q, .string i, .slice (some ⟨bg, bo, none⟩) es.length dc, .string x] (0, 0) _ HX2.out Tryd.underlying24 rfl evSize ?_))
      go_ret
      exact ⟨rfl, HB3.out⟩
    obtain ⟨k, rfl⟩ : ∃ k : Nat, m = k := ⟨m.toNat, by omega⟩
    have hk : k < ps.length := by omega
    have b4' : decide ((ps.length : Int) ≤ (k : Int)) = false := decide_eq_false (by omega)
    obtain ⟨b, rfl, hsp2, k0, k1⟩ := HC2.out k hk
    have hcl := HL2.out b rfl (by omega)
    obtain ⟨cg, co, cs⟩ := b
    cases hsp2
    have K0 := Lib.hid k0; have K1 := Lib.hid k1
    have HG0 := Lib.hid (HGO.out k hk)
    have HPS : Hid (∀ r (hr : r < ps.length), w.cell? ⟨cg, co + r * 2, none⟩ = some (.string ps[r].1) ∧ w.cell? ⟨cg, co + r * 2 + 1, none⟩ = some (.string ps[r].2)) := Lib.hid fun r hr => by
      obtain ⟨b, hb, _, r0, r1⟩ := HC2.out r hr
      cases hb
      exact ⟨r0, r1⟩
    obtain ⟨key, hkey⟩ : ∃ key, key = ps[k].1 := ⟨_, rfl⟩
    obtain ⟨kv, hkv⟩ : ∃ kv, kv = ps[k].2 := ⟨_, rfl⟩
    rw [← hkey, ← hkv] at HG0
    rw [← hkey] at K0
    rw [← hkv] at K1
    obtain ⟨V, hV⟩ : ∃ V, V = fstN ps key kv k 0 := ⟨_, rfl⟩
    rw [← hV] at HG0
    have HGA : Hid (∀ W : World, Below w.heap.size w W → Calls Tryd.prog 8 #[.agg #[.int .i64 g, .int .i64 f, .bool t, .int .i64 a, .string h, .string p, .string q, .string i, .slice (some ⟨bg, bo, none⟩) es.length dc, .string x], .string idj, .string key] W fun e w' => e = .returned (.tuple #[.string V, .bool true]) ∧ Below W.heap.size W w') := Lib.hid fun W hb => by
      have := HGC.out idj key W hb
      rw [HG0.out] at this
      exact this
    have HGB : Hid (∀ W : World, Below w.heap.size w W → Calls Tryd.prog 8 #[.agg #[.int .i64 g, .int .i64 f, .bool t, .int .i64 a, .string h, .string p, .string q, .string i, .slice (some ⟨bg, bo, none⟩) es.length dc, .string x], .string ⟨#[]⟩, .string key] W fun e w' => e = .returned (.tuple #[.string ⟨#[]⟩, .bool false]) ∧ Below W.heap.size W w') := Lib.hid fun W hb => by
      have := HGC.out ⟨#[]⟩ key W hb
      rw [HGN.out] at this
      exact this
    have HKEY := Lib.hid hkey; have HKV := Lib.hid hkv; have HVV := Lib.hid hV
    clear b2 b4 k0 k1 HGO HG0 HGN HGC hkey hkv hV HC2 HL2
    have hwl := HB1.out.size
    go_enter Tryd.func4, Tryd.ntmps4
    go_upto_region 5 with (first
      | (go_at_call 6; refine HS.out.mono ?_; rw [← HW1.out]; rintro e w2 ⟨rfl, b⟩; have HB2 := Lib.hid (HB1.out.trans (b.mono HB1.out.size)); have HX2 := Lib.hid (HX1.out.below b HX1.out.lt); clear b)
      | (go_at_call 7; refine (HE.out _ HB2.out).mono ?_; rintro e w3 ⟨rfl, b⟩; have HB3 := Lib.hid (HB2.out.trans (b.mono HB2.out.size)); have HX3 := Lib.hid (HX2.out.below b HX2.out.lt); have c8 : w3.cell? ⟨w.heap.size, 8, none⟩ = some (.slice (some ⟨bg, bo, none⟩) es.length dc) := HX3.out.cell 8; have d13 : w3.cell? ⟨bg, bo + j * 2 + 1, none⟩ = some (.slice (some ⟨cg, co, none⟩) ps.length pc) := (cell_same (HB3.out.block _ hbl) _).trans D1.out; have pk0 : w3.cell? ⟨cg, co + k * 2, none⟩ = some (.string key) := (cell_same (HB3.out.block _ hcl) _).trans K0.out; have pk1 : w3.cell? ⟨cg, co + k * 2 + 1, none⟩ = some (.string kv) := (cell_same (HB3.out.block _ hcl) _).trans K1.out; clear b)
      | (refine wpList_load_row rfl 24 (.tmp 3) rfl w.heap.size rfl 24 #[.int .i64 g, .int .i64 f, .bool t, .int .i64 a, .string h, .string p, .string q, .string i, .slice (some ⟨bg, bo, none⟩) es.length dc, .string x] (0, 0) _ HX2.out Tryd.underlying24 rfl evSize ?_))
    obtain ⟨w4, hw4⟩ : ∃ w4, w4 = w3.alloc (Obj.cells #[.string key, .string kv] 33) := ⟨_, rfl⟩
    rw [← hw4]
    have RP : Hid (Row w4 w3.heap.size 33 #[.string key, .string kv]) := by
      rw [hw4]
      exact Lib.hid (Row.laid _ _ _)
    have RX : Hid (Row w4 w.heap.size 24 #[.int .i64 g, .int .i64 f, .bool t, .int .i64 a, .string h, .string p, .string q, .string i, .slice (some ⟨bg, bo, none⟩) es.length dc, .string x]) := by
      rw [hw4]
      exact Lib.hid (HX3.out.alloc _)
    have HB4 : Hid (Below w.heap.size w w4) := by
      rw [hw4]
      exact Lib.hid (HB3.out.alloc HB3.out.size _)
    clear hw4 c8 d13 pk0 pk1 HX3 HX2 HX1
    have e0 : w4.cell? ⟨w.heap.size, 0, none⟩ = some (.int .i64 g) := RX.out.cell 0
    have e1 : w4.cell? ⟨w.heap.size, 1, none⟩ = some (.int .i64 f) := RX.out.cell 1
    have e2 : w4.cell? ⟨w.heap.size, 2, none⟩ = some (.bool t) := RX.out.cell 2
    have e3 : w4.cell? ⟨w.heap.size, 3, none⟩ = some (.int .i64 a) := RX.out.cell 3
    have e4 : w4.cell? ⟨w.heap.size, 4, none⟩ = some (.string h) := RX.out.cell 4
    have e5 : w4.cell? ⟨w.heap.size, 5, none⟩ = some (.string p) := RX.out.cell 5
    have e6 : w4.cell? ⟨w.heap.size, 6, none⟩ = some (.string q) := RX.out.cell 6
    have e7 : w4.cell? ⟨w.heap.size, 7, none⟩ = some (.string i) := RX.out.cell 7
    have e8 : w4.cell? ⟨w.heap.size, 8, none⟩ = some (.slice (some ⟨bg, bo, none⟩) es.length dc) := RX.out.cell 8
    have e9 : w4.cell? ⟨w.heap.size, 9, none⟩ = some (.string x) := RX.out.cell 9
    have id4 : w4.cell? ⟨bg, bo + j * 2, none⟩ = some (.string idj) := (cell_same (HB4.out.block _ hbl) _).trans D0.out
    have p0 : w4.cell? ⟨w3.heap.size, 0, none⟩ = some (.string key) := RP.out.cell 0
    go_cut [9, 10] (fun s9 s10 wx => s9 = .string V ∧ s10 = .bool true ∧ Below w4.heap.size w4 wx)
    case first =>
      go_region_with (go_at_call 8; refine (HGA.out _ HB4.out.drew).mono ?_; rintro e w5 ⟨rfl, b⟩; have HB5 := Lib.hid ((Below.refl w4.heap.size w4).drew.trans b); clear b)
      all_goals
        go_wp2_with fail
        go_meet
        exact ⟨rfl, rfl, HB5.out⟩
    case rest =>
      obtain ⟨rfl, rfl, hbc⟩ := hcut
      replace RX := Lib.hid (RX.out.below hbc RX.out.lt)
      replace RP := Lib.hid (RP.out.below hbc RP.out.lt)
      replace HB4 := Lib.hid (HB4.out.trans (hbc.mono HB4.out.size))
      have hp3 : w3.heap.size < wc.heap.size := RP.out.lt
      clear hbc e0 e1 e2 e3 e4 e5 e6 e7 e8 e9 id4 p0
      have p1 : wc.cell? ⟨w3.heap.size, 1, none⟩ = some (.string kv) := RP.out.cell 1
      go_wp2_with fail
      clear p1
      go_loopg [11, 12] (k + 1) (fun gk s11 s12 wr => ∃ (r : Nat) (z : Int), r ≤ k + 1 ∧ gk = r ∧ z = (r : Int) - 1 ∧ s12 = .int .i64 z ∧ s11 = .string (fstN ps key kv k r) ∧ Below wc.heap.size wc wr)
      case atStart => exact ⟨k + 1, (k : Int), Nat.le_refl _, rfl, by omega, rfl, by rw [fstN_start], Below.refl _ _⟩
      case round =>
        obtain ⟨r, z, hrk, hg, hz, rfl, rfl, hbr⟩ := hrel
        have HGK := Lib.hid hg; have HBR := Lib.hid hbr
        have RXr := Lib.hid (RX.out.below hbr RX.out.lt)
        have RPr := Lib.hid (RP.out.below hbr RP.out.lt)
        have HBr := Lib.hid (HB4.out.trans (hbr.mono HB4.out.size))
        clear hg hbr
        by_cases hr0 : r = 0
        · subst hr0
          obtain rfl : z = -1 := by omega
          have hv0 : fstN ps key kv k 0 = V := HVV.out.symm
          rw [hv0]
          have p0 : wr.cell? ⟨w3.heap.size, 0, none⟩ = some (.string key) := RPr.out.cell 0
          clear hv0 hz
          go_wp2_with (first
            | (refine wpList_load_row rfl 24 (.tmp 3) rfl w.heap.size rfl 24 #[.int .i64 g, .int .i64 f, .bool t, .int .i64 a, .string h, .string p, .string q, .string i, .slice (some ⟨bg, bo, none⟩) es.length dc, .string x] (0, 0) _ RXr.out Tryd.underlying24 rfl evSize ?_)
            | (go_at_call 8; refine (HGB.out _ HBr.out).mono ?_; rintro e w6 ⟨rfl, b⟩; have HBz := Lib.hid (HBr.out.trans (b.mono HBr.out.size)); clear b p0))
          go_ret
          exact ⟨rfl, HBz.out⟩
        · obtain ⟨r, rfl⟩ : ∃ r', r = r' + 1 := ⟨r - 1, by omega⟩
          obtain rfl : z = (r : Int) := by omega
          have hrl : r < ps.length := by omega
          obtain ⟨q0, q1⟩ := HPS.out r hrl
          have c8 : wr.cell? ⟨w.heap.size, 8, none⟩ = some (.slice (some ⟨bg, bo, none⟩) es.length dc) := RXr.out.cell 8
          have d13 : wr.cell? ⟨bg, bo + j * 2 + 1, none⟩ = some (.slice (some ⟨cg, co, none⟩) ps.length pc) := (cell_same (HBr.out.block _ hbl) _).trans D1.out
          have pr0 : wr.cell? ⟨cg, co + r * 2, none⟩ = some (.string ps[r].1) := (cell_same (HBr.out.block _ hcl) _).trans q0
          have pr1 : wr.cell? ⟨cg, co + r * 2 + 1, none⟩ = some (.string ps[r].2) := (cell_same (HBr.out.block _ hcl) _).trans q1
          have p0 : wr.cell? ⟨w3.heap.size, 0, none⟩ = some (.string key) := RPr.out.cell 0
          have hst := fstN_step ps key kv k r (by omega) hk
          have HST := Lib.hid hst
          clear hz hst q0 q1 hr0
          cases hq : isP key ps[r] with
          | true =>
            have hqb : (ps[r].1.toList == key.toList) = true := hq
            have HF : Hid (fstN ps key kv k r = ps[r].2) := by
              show _ = _
              rw [HST.out, hq]; rfl
            clear hq
            go_upto_region 10 with fail
            go_quiet (fail)
            go_wp2_with fail
            go_roundg r
            case measure => rw [HGK.out]; omega
            case rel => exact ⟨r, (r : Int) - 1, by omega, rfl, rfl, by go_num, by rw [HF.out], below_drewN HBR.out _⟩
          | false =>
            have hqb : (ps[r].1.toList == key.toList) = false := hq
            have HF : Hid (fstN ps key kv k r = fstN ps key kv k (r + 1)) := by
              show _ = _
              rw [HST.out, hq]; rfl
            clear hq
            go_upto_region 10 with fail
            go_quiet (fail)
            go_wp2_with fail
            go_roundg r
            case measure => rw [HGK.out]; omega
            case rel => exact ⟨r, (r : Int) - 1, by omega, rfl, rfl, by go_num, by rw [HF.out], below_drewN HBR.out _⟩
  · have hne1 : (R == 0) = false := beq_eq_false_iff_ne.2 hr
    have hne2 : (R != 0) = true := by rw [bne, hne1]; rfl
    clear hr hE hI hG h1 h2 h3 h4 h5 a0 a1 hR
    go_enter Tryd.func4, Tryd.ntmps4
    go_wp2_with (first
      | (go_at_call 6; refine HS.out.mono ?_; rw [← HW1.out]; rintro e w2 ⟨rfl, b⟩; have HB2 := Lib.hid (HB1.out.trans (b.mono HB1.out.size)); have HX2 := Lib.hid (HX1.out.below b HX1.out.lt); clear b)
      | (go_at_call 7; refine (HE.out _ HB2.out).mono ?_; rintro e w3 ⟨rfl, b⟩; have HB3 := Lib.hid (HB2.out.trans (b.mono HB2.out.size)); have HX3 := Lib.hid (HX2.out.below b HX2.out.lt); have c8 : w3.cell? ⟨w.heap.size, 8, none⟩ = some (.slice da es.length dc) := HX3.out.cell 8; clear b)
      | (refine wpList_load_row rfl 24 (.tmp 3) rfl w.heap.size rfl 24 #[.int .i64 g, .int .i64 f, .bool t, .int .i64 a, .string h, .string p, .string q, .string i, .slice da es.length dc, .string x] (0, 0) _ HX2.out Tryd.underlying24 rfl evSize ?_))
    go_ret
    exact ⟨rfl, HB3.out⟩
end Go.Proofs.YtdkfgobbpadmgaaDoor
