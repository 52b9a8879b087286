/- The law SyslRight, walked: it returns true for every event and every number. -/
import Derived.Test.YtdkfgobbpadmgaaDoorSyslShown
set_option linter.unusedVariables false
set_option linter.unusedSimpArgs false
namespace Go.Proofs.YtdkfgobbpadmgaaDoor
open Go.RowKit
theorem wpList_load_row_w {P : Program} {ops : Array Oper} {rest : List Oper} {o : Oper} {a : Act} {w : World} {Q : Exit → Act → World → Prop} (hwt : Region.wanted o (yielded ops a.tmps) = true) (ty : TypeId) (x : Operand) (ho : o.op = .load ty x)
    (g : Nat) (hx : a.eval x = .pointer (some ⟨g, 0, none⟩)) (t : TypeId) (cs : Array Value) (fr : Nat × Nat) (d : TypeDesc) (hg : w.heap[g]? = some (.cells cs t fr))
    (hu : P.underlying ty = some d) (hd : (match d with | .struct _ | .array _ _ => true | _ => false) = true) (hi : (P.info? ty).map (·.size) = some cs.size)
    (h : wpList P ops Q rest (a.put o.dst (.agg cs)) w) : wpList P ops Q (o :: rest) a w :=
  wpList_step fun K hK => by
    rw [if_pos hwt]
    exact wp_load_row ty x ho g hx t cs fr d hg hu hd hi (hK _ _ h)
theorem elsOk_take : ∀ (es : List BEl) (had : List (List UInt8)) (k : Nat), elsOk had es = true → elsOk had (es.take k) = true
  | [], had, k, h => by simp [elsOk]
  | x :: es, had, 0, h => by simp [elsOk]
  | x :: es, had, k + 1, h => by
    rw [elsOk] at h
    rw [List.take_succ_cons, elsOk]
    simp only [Bool.and_eq_true] at h ⊢
    exact ⟨h.1, elsOk_take es _ k h.2⟩
theorem any_take {α : Type} (p : α → Bool) (l : List α) (k : Nat) (h : l.any p = false) : (l.take k).any p = false := by
  rw [List.any_eq_false] at h ⊢
  exact fun x hx => h x (List.mem_of_mem_take hx)
theorem right_parts0 {g f : Int} {t : Bool} {a : Int} {h p q i x : ByteArray} {es : List BEl} (hr : rightE g f t a h p q i x es = 0) :
    argB g f = false ∧ momB t a = true ∧ wordsB h p q i = true ∧ elsOk [] es = true ∧ Lib.validD x.data.toList = true ∧ es.length ≤ 64 ∧ es.any elBig = false := by
  unfold rightE rightN at hr
  by_cases h1 : (argB g f || !momB t a) = true
  · rw [if_pos h1] at hr; cases hr
  rw [if_neg h1] at hr
  by_cases h2 : (!wordsB h p q i || !elsOk [] es || !Lib.validD x.data.toList) = true
  · rw [if_pos h2] at hr; cases hr
  rw [if_neg h2] at hr
  by_cases h3 : (decide (64 < es.length) || es.any elBig) = true
  · rw [if_pos h3] at hr; cases hr
  simp at h1 h2
  simp only [Bool.or_eq_true, decide_eq_true_eq, not_or, Nat.not_lt, Bool.not_eq_true] at h3
  exact ⟨h1.1, h1.2, h2.1.1, h2.1.2, h2.2, h3.1, h3.2⟩
theorem right_join0 {g f : Int} {t : Bool} {a : Int} {h p q i x : ByteArray} {es : List BEl} (h1 : argB g f = false) (h2 : momB t a = true) (h3 : wordsB h p q i = true) (h4 : elsOk [] es = true) (h5 : Lib.validD x.data.toList = true) (h6 : es.length ≤ 64) (h7 : es.any elBig = false) :
    rightE g f t a h p q i x es = 0 := by
  rw [rightE, h1, h2, h3, h4, h5, h7, decide_eq_false (by omega)]
  rfl
theorem mayB_nil (n : Nat) : mayB [] n = true := rfl
theorem Elems.take {w : World} {da : Option Addr} {dc : Nat} {es : List BEl} (h : Elems w (.slice da es.length dc) es) (k : Nat) (hk : k ≤ es.length) : Elems w (.slice da k dc) (es.take k) := by
  obtain ⟨a, cap, hv, hl, hc⟩ := h.shape
  cases hv
  refine ⟨da, dc, by rw [List.length_take, Nat.min_eq_left hk], fun b hb h0 => hl b hb (by rw [List.length_take, Nat.min_eq_left hk] at h0; omega), fun i hi => ?_⟩
  rw [List.length_take, Nat.min_eq_left hk] at hi
  have := hc i (Nat.lt_of_lt_of_le hi hk)
  simpa using this
theorem Elems.empty (w : World) : Elems w (.slice none 0 0) [] := ⟨Option.none, 0, rfl, by simp, fun i hi => absurd hi (by simp)⟩
theorem ElsIn.take {es : List BEl} (h : ElsIn es) (k : Nat) : ElsIn (es.take k) :=
  ⟨Nat.le_trans (by rw [List.length_take]; exact Nat.min_le_right _ _) h.len, fun x hx => h.id x (List.mem_of_mem_take hx), fun x hx => h.many x (List.mem_of_mem_take hx), fun x hx => h.par x (List.mem_of_mem_take hx)⟩
theorem ElsIn.empty : ElsIn [] := ⟨by simp, by simp, by simp, by simp⟩
/-- a call of Right that answers 0, wherever it stands -/
theorem right_zero (g f : Int) (t : Bool) (a : Int) (h p q i x : ByteArray) (dv : Value) (es : List BEl) (w : World) (hE : Elems w dv es) (hI : ElsIn es) (hG : Glb w) (a0 : -9223372036854775808 ≤ a) (a1 : a ≤ 9223372036854775807)
    (h1 : h.size ≤ 9223372036854775807) (h2 : p.size ≤ 9223372036854775807) (h3 : q.size ≤ 9223372036854775807) (h4 : i.size ≤ 9223372036854775807) (h5 : x.size ≤ 9223372036854775807) (hr : rightE g f t a h p q i x es = 0) (W : World) (hb : Below w.heap.size w W) :
    Calls Tryd.prog 7 #[.agg #[.int .i64 g, .int .i64 f, .bool t, .int .i64 a, .string h, .string p, .string q, .string i, dv, .string x]] W fun e w' => e = .returned (.int .i64 0) ∧ Below W.heap.size W w' :=
  (right_c g f t a h p q i x dv es W (hE.below hb) hI (hG.below hb) a0 a1 h1 h2 h3 h4 h5).mono fun e w' ⟨he, hb⟩ => ⟨by rw [he, hr], hb⟩
set_option maxHeartbeats 4000000 in
set_option maxRecDepth 100000 in
theorem right_law (g f : Int) (t : Bool) (a : Int) (h p q i x : ByteArray) (da : Option Addr) (dc : Nat) (es : List BEl) (n : Int) (w : World) (hE : Elems w (.slice da es.length dc) es) (hdc : es.length ≤ dc) (hdm : dc ≤ 9223372036854775807) (hI : ElsIn es) (hG : Glb w) (a0 : -9223372036854775808 ≤ a) (a1 : a ≤ 9223372036854775807)
    (h1 : h.size ≤ 9223372036854775807) (h2 : p.size ≤ 9223372036854775807) (h3 : q.size ≤ 9223372036854775807) (h4 : i.size ≤ 9223372036854775807) (h5 : x.size ≤ 9223372036854775807) :
    Calls Tryd.prog 3 #[.agg #[.int .i64 g, .int .i64 f, .bool t, .int .i64 a, .string h, .string p, .string q, .string i, .slice da es.length dc, .string x], .int .i64 n] w fun e w' => e = .returned (.bool true) ∧ Below w.heap.size w w' := by
  have hlen := hI.len
  obtain ⟨w1, hw1⟩ : ∃ w1, w1 = w.alloc (Obj.cells #[.int .i64 g, .int .i64 f, .bool t, .int .i64 a, .string h, .string p, .string q, .string i, .slice da es.length dc, .string x] 24) := ⟨_, rfl⟩
  have hb1 : Below w.heap.size w w1 := by rw [hw1]; exact (Below.refl _ _).alloc (Nat.le_refl _) _
  have hx1 : Row w1 w.heap.size 24 #[.int .i64 g, .int .i64 f, .bool t, .int .i64 a, .string h, .string p, .string q, .string i, .slice da es.length dc, .string x] := by rw [hw1]; exact Row.laid _ _ _
  have HS := Lib.hid (shown_c w1 (hG.below hb1))
  rw [hw1] at HS
  have HW1 := Lib.hid hw1; have HB1 := Lib.hid hb1; have HX1 := Lib.hid hx1
  have hRc := fun W hb => right_c g f t a h p q i x _ es W (hE.below hb) hI (hG.below hb) a0 a1 h1 h2 h3 h4 h5
  by_cases hr : rightE g f t a h p q i x es = 0
  · obtain ⟨p1, p2, p3, p4, p5, p6, p7⟩ := right_parts0 hr
    have HE := Lib.hid (right_zero g f t a h p q i x _ es w hE hI hG a0 a1 h1 h2 h3 h4 h5 hr)
    have HA := Lib.hid (right_zero g f t a ⟨#[]⟩ p ⟨#[]⟩ i x _ es w hE hI hG a0 a1 (by decide) h2 (by decide) h4 h5 (right_join0 p1 p2 (by
      simp only [wordsB, Bool.and_eq_true] at p3 ⊢
      exact ⟨⟨⟨mayB_nil _, p3.1.1.2⟩, mayB_nil _⟩, p3.2⟩) p4 p5 p6 p7))
    have HBz := Lib.hid (right_zero g f t a h p q i x (.slice none 0 0) [] w (Elems.empty w) ElsIn.empty hG a0 a1 h1 h2 h3 h4 h5 (right_join0 p1 p2 p3 rfl p5 (by simp) rfl))
    have HCz := Lib.hid (right_zero g f t a h p q i ⟨#[]⟩ _ es w hE hI hG a0 a1 h1 h2 h3 h4 (by decide) (right_join0 p1 p2 p3 p4 (by kernel_rfl) p6 p7))
    have HDz := Lib.hid (right_zero g f false 0 h p q i x _ es w hE hI hG (by decide) (by decide) h1 h2 h3 h4 h5 (right_join0 p1 rfl p3 p4 p5 p6 p7))
    have HN : Hid (∀ k, k ≤ es.length → ∀ W, Below w.heap.size w W → Calls Tryd.prog 7 #[.agg #[.int .i64 g, .int .i64 f, .bool t, .int .i64 a, .string h, .string p, .string q, .string i, .slice da k dc, .string x]] W fun e w' => e = .returned (.int .i64 0) ∧ Below W.heap.size W w') := Lib.hid fun k hk =>
      right_zero g f t a h p q i x (.slice da k dc) (es.take k) w (hE.take k hk) (hI.take k) hG a0 a1 h1 h2 h3 h4 h5 (right_join0 p1 p2 p3 (elsOk_take _ _ _ p4) p5 (by rw [List.length_take]; omega) (any_take _ _ _ p7))
    clear p1 p2 p3 p4 p5 p6 p7 hr hRc hE hI hG h1 h2 h3 h4 h5 hw1 hb1 hx1 a0 a1
    have tk0 : True := trivial
    go_enter Tryd.func3, Tryd.ntmps3
    go_upto_region 14 with (first
      | (go_at_call 6; refine HS.out.mono ?_; rw [← HW1.out]; rintro e w2 ⟨rfl, b⟩; have HB2 := Lib.hid (HB1.out.trans (b.mono HB1.out.size)); have HX2 := Lib.hid (HX1.out.below b HX1.out.lt); clear b)
      | (go_at_call 7; clear tk0; refine (HE.out _ HB2.out).mono ?_; rintro e w3 ⟨rfl, b⟩; have HB3 := Lib.hid (HB2.out.trans (b.mono HB2.out.size)); have HX3 := Lib.hid (HX2.out.below b HX2.out.lt); clear b)
      | (refine wpList_load_row rfl 24 (.tmp 2) rfl w.heap.size rfl 24 #[.int .i64 g, .int .i64 f, .bool t, .int .i64 a, .string h, .string p, .string q, .string i, .slice da es.length dc, .string x] (0, 0) _ (by first | exact HX3.out | exact HX3.out.alloc _ | exact (HX3.out.alloc _).alloc _ | exact ((HX3.out.alloc _).alloc _).alloc _ | exact HX2.out) Tryd.underlying24 rfl evSize ?_))
    obtain ⟨w4, hw4⟩ : ∃ w4, w4 = (((w3.alloc (Obj.cells #[.int .i64 g, .int .i64 f, .bool t, .int .i64 a, .string ⟨#[]⟩, .string p, .string ⟨#[]⟩, .string i, .slice da es.length dc, .string x] 24)).alloc (Obj.cells #[.int .i64 g, .int .i64 f, .bool t, .int .i64 a, .string h, .string p, .string q, .string i, .slice none 0 0, .string x] 24)).alloc (Obj.cells #[.int .i64 g, .int .i64 f, .bool t, .int .i64 a, .string h, .string p, .string q, .string i, .slice da es.length dc, .string ⟨#[]⟩] 24)).alloc (Obj.cells #[.int .i64 g, .int .i64 f, .bool false, .int .i64 0, .string h, .string p, .string q, .string i, .slice da es.length dc, .string x] 24) := ⟨_, rfl⟩
    rw [← hw4]
    have RX : Hid (Row w4 w.heap.size 24 #[.int .i64 g, .int .i64 f, .bool t, .int .i64 a, .string h, .string p, .string q, .string i, .slice da es.length dc, .string x]) := by
      rw [hw4]
      exact Lib.hid ((((HX3.out.alloc _).alloc _).alloc _).alloc _)
    have RA : Hid (Row w4 w3.heap.size 24 #[.int .i64 g, .int .i64 f, .bool t, .int .i64 a, .string ⟨#[]⟩, .string p, .string ⟨#[]⟩, .string i, .slice da es.length dc, .string x]) := by
      rw [hw4]
      exact Lib.hid ((((Row.laid w3 24 #[.int .i64 g, .int .i64 f, .bool t, .int .i64 a, .string ⟨#[]⟩, .string p, .string ⟨#[]⟩, .string i, .slice da es.length dc, .string x]).alloc _).alloc _).alloc _)
    have RB : Hid (Row w4 (w3.heap.size + 1) 24 #[.int .i64 g, .int .i64 f, .bool t, .int .i64 a, .string h, .string p, .string q, .string i, .slice none 0 0, .string x]) := by
      rw [hw4]
      have hrow := Row.laid (w3.alloc (Obj.cells #[.int .i64 g, .int .i64 f, .bool t, .int .i64 a, .string ⟨#[]⟩, .string p, .string ⟨#[]⟩, .string i, .slice da es.length dc, .string x] 24)) 24 #[.int .i64 g, .int .i64 f, .bool t, .int .i64 a, .string h, .string p, .string q, .string i, .slice none 0 0, .string x]
      rw [show (w3.alloc (Obj.cells #[.int .i64 g, .int .i64 f, .bool t, .int .i64 a, .string ⟨#[]⟩, .string p, .string ⟨#[]⟩, .string i, .slice da es.length dc, .string x] 24)).heap.size = w3.heap.size + 1 by simp] at hrow
      exact Lib.hid ((hrow.alloc _).alloc _)
    have RC : Hid (Row w4 (w3.heap.size + 1 + 1) 24 #[.int .i64 g, .int .i64 f, .bool t, .int .i64 a, .string h, .string p, .string q, .string i, .slice da es.length dc, .string ⟨#[]⟩]) := by
      rw [hw4]
      have hrow := Row.laid ((w3.alloc (Obj.cells #[.int .i64 g, .int .i64 f, .bool t, .int .i64 a, .string ⟨#[]⟩, .string p, .string ⟨#[]⟩, .string i, .slice da es.length dc, .string x] 24)).alloc (Obj.cells #[.int .i64 g, .int .i64 f, .bool t, .int .i64 a, .string h, .string p, .string q, .string i, .slice none 0 0, .string x] 24)) 24 #[.int .i64 g, .int .i64 f, .bool t, .int .i64 a, .string h, .string p, .string q, .string i, .slice da es.length dc, .string ⟨#[]⟩]
      rw [show ((w3.alloc (Obj.cells #[.int .i64 g, .int .i64 f, .bool t, .int .i64 a, .string ⟨#[]⟩, .string p, .string ⟨#[]⟩, .string i, .slice da es.length dc, .string x] 24)).alloc (Obj.cells #[.int .i64 g, .int .i64 f, .bool t, .int .i64 a, .string h, .string p, .string q, .string i, .slice none 0 0, .string x] 24)).heap.size = w3.heap.size + 1 + 1 by simp] at hrow
      exact Lib.hid (hrow.alloc _)
    have RD : Hid (Row w4 (w3.heap.size + 1 + 1 + 1) 24 #[.int .i64 g, .int .i64 f, .bool false, .int .i64 0, .string h, .string p, .string q, .string i, .slice da es.length dc, .string x]) := by
      rw [hw4]
      have hrow := Row.laid (((w3.alloc (Obj.cells #[.int .i64 g, .int .i64 f, .bool t, .int .i64 a, .string ⟨#[]⟩, .string p, .string ⟨#[]⟩, .string i, .slice da es.length dc, .string x] 24)).alloc (Obj.cells #[.int .i64 g, .int .i64 f, .bool t, .int .i64 a, .string h, .string p, .string q, .string i, .slice none 0 0, .string x] 24)).alloc (Obj.cells #[.int .i64 g, .int .i64 f, .bool t, .int .i64 a, .string h, .string p, .string q, .string i, .slice da es.length dc, .string ⟨#[]⟩] 24)) 24 #[.int .i64 g, .int .i64 f, .bool false, .int .i64 0, .string h, .string p, .string q, .string i, .slice da es.length dc, .string x]
      rw [show (((w3.alloc (Obj.cells #[.int .i64 g, .int .i64 f, .bool t, .int .i64 a, .string ⟨#[]⟩, .string p, .string ⟨#[]⟩, .string i, .slice da es.length dc, .string x] 24)).alloc (Obj.cells #[.int .i64 g, .int .i64 f, .bool t, .int .i64 a, .string h, .string p, .string q, .string i, .slice none 0 0, .string x] 24)).alloc (Obj.cells #[.int .i64 g, .int .i64 f, .bool t, .int .i64 a, .string h, .string p, .string q, .string i, .slice da es.length dc, .string ⟨#[]⟩] 24)).heap.size = w3.heap.size + 1 + 1 + 1 by simp] at hrow
      exact Lib.hid hrow
    have HB4 : Hid (Below w.heap.size w w4) := by
      rw [hw4]
      have := HB3.out.size
      exact Lib.hid ((((HB3.out.alloc HB3.out.size _).alloc (by simp; omega) _).alloc (by simp; omega) _).alloc (by simp; omega) _)
    clear hw4
    have tkA : True := trivial
    have tkB : True := trivial
    have tkC : True := trivial
    have c8 : w4.cell? ⟨w.heap.size, 8, none⟩ = some (.slice da es.length dc) := RX.out.cell 8
    by_cases hn : 0 ≤ n ∧ n < es.length
    · obtain ⟨k, rfl⟩ : ∃ k : Nat, n = k := ⟨n.toNat, by omega⟩
      have hk : k < es.length := by omega
      have hk2 : decide ((k : Int) < (es.length : Int)) = true := decide_eq_true (by omega)
      have HNk := Lib.hid (HN.out k (by omega))
      have HW4 := Lib.hid (Row.laid w4 24 #[.int .i64 g, .int .i64 f, .bool t, .int .i64 a, .string h, .string p, .string q, .string i, .slice da es.length dc, .string x])
      have hb5 : Below w.heap.size w (w4.alloc (Obj.cells #[.int .i64 g, .int .i64 f, .bool t, .int .i64 a, .string h, .string p, .string q, .string i, .slice da k dc, .string x] 24)) := HB4.out.alloc HB4.out.size _
      have c85 : (w4.alloc (Obj.cells #[.int .i64 g, .int .i64 f, .bool t, .int .i64 a, .string h, .string p, .string q, .string i, .slice da es.length dc, .string x] 24)).cell? ⟨w.heap.size, 8, none⟩ = some (.slice da es.length dc) := (RX.out.alloc _).cell 8
      have HB5 := Lib.hid hb5
      clear hn hb5
      go_upto_region 17 with (first
        | (refine wpList_load_row_w rfl 24 (.tmp 2) rfl w.heap.size rfl 24 #[.int .i64 g, .int .i64 f, .bool t, .int .i64 a, .string h, .string p, .string q, .string i, .slice da es.length dc, .string x] (0, 0) _ RX.out Tryd.underlying24 rfl evSize ?_))
      obtain ⟨w5, hw5⟩ : ∃ w5, w5 = w4.alloc (Obj.cells #[.int .i64 g, .int .i64 f, .bool t, .int .i64 a, .string h, .string p, .string q, .string i, .slice da k dc, .string x] 24) := ⟨_, rfl⟩
      rw [← hw5]
      have RN : Hid (Row w5 w4.heap.size 24 #[.int .i64 g, .int .i64 f, .bool t, .int .i64 a, .string h, .string p, .string q, .string i, .slice da k dc, .string x]) := by
        rw [hw5]
        exact Lib.hid (Row.laid w4 24 #[.int .i64 g, .int .i64 f, .bool t, .int .i64 a, .string h, .string p, .string q, .string i, .slice da k dc, .string x])
      replace RX : Hid (Row w5 w.heap.size 24 #[.int .i64 g, .int .i64 f, .bool t, .int .i64 a, .string h, .string p, .string q, .string i, .slice da es.length dc, .string x]) := by
        rw [hw5]
        exact Lib.hid (RX.out.alloc _)
      replace RA : Hid (Row w5 w3.heap.size 24 #[.int .i64 g, .int .i64 f, .bool t, .int .i64 a, .string ⟨#[]⟩, .string p, .string ⟨#[]⟩, .string i, .slice da es.length dc, .string x]) := by
        rw [hw5]
        exact Lib.hid (RA.out.alloc _)
      replace RB : Hid (Row w5 (w3.heap.size + 1) 24 #[.int .i64 g, .int .i64 f, .bool t, .int .i64 a, .string h, .string p, .string q, .string i, .slice none 0 0, .string x]) := by
        rw [hw5]
        exact Lib.hid (RB.out.alloc _)
      replace RC : Hid (Row w5 (w3.heap.size + 1 + 1) 24 #[.int .i64 g, .int .i64 f, .bool t, .int .i64 a, .string h, .string p, .string q, .string i, .slice da es.length dc, .string ⟨#[]⟩]) := by
        rw [hw5]
        exact Lib.hid (RC.out.alloc _)
      replace RD : Hid (Row w5 (w3.heap.size + 1 + 1 + 1) 24 #[.int .i64 g, .int .i64 f, .bool false, .int .i64 0, .string h, .string p, .string q, .string i, .slice da es.length dc, .string x]) := by
        rw [hw5]
        exact Lib.hid (RD.out.alloc _)
      rw [← hw5] at HB5
      replace HB4 := HB5
      clear hw5 HB5 c85 c8 HW4 HX3 HX2 HX1
      have tkN : True := trivial
      go_wp2_with (first
        | (go_at_call 7; clear tkN; refine (HNk.out _ HB4.out).mono ?_; rintro e w5b ⟨rfl, b⟩; replace RX := Lib.hid (RX.out.below b RX.out.lt); replace RA := Lib.hid (RA.out.below b RA.out.lt); replace RB := Lib.hid (RB.out.below b RB.out.lt); replace RC := Lib.hid (RC.out.below b RC.out.lt); replace RD := Lib.hid (RD.out.below b RD.out.lt); replace HB4 := Lib.hid (HB4.out.trans (b.mono HB4.out.size)); clear b)
        | (refine wpList_load_row_w rfl 24 (.tmp 10) rfl w4.heap.size rfl 24 #[.int .i64 g, .int .i64 f, .bool t, .int .i64 a, .string h, .string p, .string q, .string i, .slice da k dc, .string x] (0, 0) _ RN.out Tryd.underlying24 rfl evSize ?_)
        | (go_at_call 7; clear tkA; refine (HA.out _ HB4.out).mono ?_; rintro e w5 ⟨rfl, b⟩; replace RX := Lib.hid (RX.out.below b RX.out.lt); replace RA := Lib.hid (RA.out.below b RA.out.lt); replace RB := Lib.hid (RB.out.below b RB.out.lt); replace RC := Lib.hid (RC.out.below b RC.out.lt); replace RD := Lib.hid (RD.out.below b RD.out.lt); replace HB4 := Lib.hid (HB4.out.trans (b.mono HB4.out.size)); clear b)
        | (go_at_call 7; clear tkB; refine (HBz.out _ HB4.out).mono ?_; rintro e w6 ⟨rfl, b⟩; replace RX := Lib.hid (RX.out.below b RX.out.lt); replace RA := Lib.hid (RA.out.below b RA.out.lt); replace RB := Lib.hid (RB.out.below b RB.out.lt); replace RC := Lib.hid (RC.out.below b RC.out.lt); replace RD := Lib.hid (RD.out.below b RD.out.lt); replace HB4 := Lib.hid (HB4.out.trans (b.mono HB4.out.size)); clear b)
        | (go_at_call 7; clear tkC; refine (HCz.out _ HB4.out).mono ?_; rintro e w7 ⟨rfl, b⟩; replace RX := Lib.hid (RX.out.below b RX.out.lt); replace RA := Lib.hid (RA.out.below b RA.out.lt); replace RB := Lib.hid (RB.out.below b RB.out.lt); replace RC := Lib.hid (RC.out.below b RC.out.lt); replace RD := Lib.hid (RD.out.below b RD.out.lt); replace HB4 := Lib.hid (HB4.out.trans (b.mono HB4.out.size)); clear b)
        | (go_at_call 7; refine (HDz.out _ HB4.out).mono ?_; rintro e w8 ⟨rfl, b⟩; replace RX := Lib.hid (RX.out.below b RX.out.lt); replace RA := Lib.hid (RA.out.below b RA.out.lt); replace RB := Lib.hid (RB.out.below b RB.out.lt); replace RC := Lib.hid (RC.out.below b RC.out.lt); replace RD := Lib.hid (RD.out.below b RD.out.lt); replace HB4 := Lib.hid (HB4.out.trans (b.mono HB4.out.size)); clear b)
        | (refine wpList_load_row_w rfl 24 (.tmp 6) rfl w3.heap.size rfl 24 #[.int .i64 g, .int .i64 f, .bool t, .int .i64 a, .string ⟨#[]⟩, .string p, .string ⟨#[]⟩, .string i, .slice da es.length dc, .string x] (0, 0) _ RA.out Tryd.underlying24 rfl evSize ?_)
        | (refine wpList_load_row_w rfl 24 (.tmp 7) rfl (w3.heap.size + 1) rfl 24 #[.int .i64 g, .int .i64 f, .bool t, .int .i64 a, .string h, .string p, .string q, .string i, .slice none 0 0, .string x] (0, 0) _ RB.out Tryd.underlying24 rfl evSize ?_)
        | (refine wpList_load_row_w rfl 24 (.tmp 8) rfl (w3.heap.size + 1 + 1) rfl 24 #[.int .i64 g, .int .i64 f, .bool t, .int .i64 a, .string h, .string p, .string q, .string i, .slice da es.length dc, .string ⟨#[]⟩] (0, 0) _ RC.out Tryd.underlying24 rfl evSize ?_)
        | (refine wpList_load_row_w rfl 24 (.tmp 9) rfl (w3.heap.size + 1 + 1 + 1) rfl 24 #[.int .i64 g, .int .i64 f, .bool false, .int .i64 0, .string h, .string p, .string q, .string i, .slice da es.length dc, .string x] (0, 0) _ RD.out Tryd.underlying24 rfl evSize ?_))
      go_ret
      exact ⟨rfl, HB4.out⟩
    · clear HX3 HX2 HX1 HN
      by_cases h0 : 0 ≤ n
      · have hk2 : decide (n < (es.length : Int)) = false := decide_eq_false (by omega)
        clear hn
        go_wp2_with (first
          | (go_at_call 7; clear tkA; refine (HA.out _ HB4.out).mono ?_; rintro e w5 ⟨rfl, b⟩; replace RX := Lib.hid (RX.out.below b RX.out.lt); replace RA := Lib.hid (RA.out.below b RA.out.lt); replace RB := Lib.hid (RB.out.below b RB.out.lt); replace RC := Lib.hid (RC.out.below b RC.out.lt); replace RD := Lib.hid (RD.out.below b RD.out.lt); replace HB4 := Lib.hid (HB4.out.trans (b.mono HB4.out.size)); clear b)
          | (go_at_call 7; clear tkB; refine (HBz.out _ HB4.out).mono ?_; rintro e w6 ⟨rfl, b⟩; replace RX := Lib.hid (RX.out.below b RX.out.lt); replace RA := Lib.hid (RA.out.below b RA.out.lt); replace RB := Lib.hid (RB.out.below b RB.out.lt); replace RC := Lib.hid (RC.out.below b RC.out.lt); replace RD := Lib.hid (RD.out.below b RD.out.lt); replace HB4 := Lib.hid (HB4.out.trans (b.mono HB4.out.size)); clear b)
          | (go_at_call 7; clear tkC; refine (HCz.out _ HB4.out).mono ?_; rintro e w7 ⟨rfl, b⟩; replace RX := Lib.hid (RX.out.below b RX.out.lt); replace RA := Lib.hid (RA.out.below b RA.out.lt); replace RB := Lib.hid (RB.out.below b RB.out.lt); replace RC := Lib.hid (RC.out.below b RC.out.lt); replace RD := Lib.hid (RD.out.below b RD.out.lt); replace HB4 := Lib.hid (HB4.out.trans (b.mono HB4.out.size)); clear b)
          | (go_at_call 7; refine (HDz.out _ HB4.out).mono ?_; rintro e w8 ⟨rfl, b⟩; replace RX := Lib.hid (RX.out.below b RX.out.lt); replace RA := Lib.hid (RA.out.below b RA.out.lt); replace RB := Lib.hid (RB.out.below b RB.out.lt); replace RC := Lib.hid (RC.out.below b RC.out.lt); replace RD := Lib.hid (RD.out.below b RD.out.lt); replace HB4 := Lib.hid (HB4.out.trans (b.mono HB4.out.size)); clear b)
          | (refine wpList_load_row_w rfl 24 (.tmp 6) rfl w3.heap.size rfl 24 #[.int .i64 g, .int .i64 f, .bool t, .int .i64 a, .string ⟨#[]⟩, .string p, .string ⟨#[]⟩, .string i, .slice da es.length dc, .string x] (0, 0) _ RA.out Tryd.underlying24 rfl evSize ?_)
          | (refine wpList_load_row_w rfl 24 (.tmp 7) rfl (w3.heap.size + 1) rfl 24 #[.int .i64 g, .int .i64 f, .bool t, .int .i64 a, .string h, .string p, .string q, .string i, .slice none 0 0, .string x] (0, 0) _ RB.out Tryd.underlying24 rfl evSize ?_)
          | (refine wpList_load_row_w rfl 24 (.tmp 8) rfl (w3.heap.size + 1 + 1) rfl 24 #[.int .i64 g, .int .i64 f, .bool t, .int .i64 a, .string h, .string p, .string q, .string i, .slice da es.length dc, .string ⟨#[]⟩] (0, 0) _ RC.out Tryd.underlying24 rfl evSize ?_)
          | (refine wpList_load_row_w rfl 24 (.tmp 9) rfl (w3.heap.size + 1 + 1 + 1) rfl 24 #[.int .i64 g, .int .i64 f, .bool false, .int .i64 0, .string h, .string p, .string q, .string i, .slice da es.length dc, .string x] (0, 0) _ RD.out Tryd.underlying24 rfl evSize ?_))
        go_ret
        exact ⟨rfl, HB4.out⟩
      · have hk2 : decide (0 ≤ n) = false := decide_eq_false h0
        clear hn
        go_wp2_with (first
          | (go_at_call 7; clear tkA; refine (HA.out _ HB4.out).mono ?_; rintro e w5 ⟨rfl, b⟩; replace RX := Lib.hid (RX.out.below b RX.out.lt); replace RA := Lib.hid (RA.out.below b RA.out.lt); replace RB := Lib.hid (RB.out.below b RB.out.lt); replace RC := Lib.hid (RC.out.below b RC.out.lt); replace RD := Lib.hid (RD.out.below b RD.out.lt); replace HB4 := Lib.hid (HB4.out.trans (b.mono HB4.out.size)); clear b)
          | (go_at_call 7; clear tkB; refine (HBz.out _ HB4.out).mono ?_; rintro e w6 ⟨rfl, b⟩; replace RX := Lib.hid (RX.out.below b RX.out.lt); replace RA := Lib.hid (RA.out.below b RA.out.lt); replace RB := Lib.hid (RB.out.below b RB.out.lt); replace RC := Lib.hid (RC.out.below b RC.out.lt); replace RD := Lib.hid (RD.out.below b RD.out.lt); replace HB4 := Lib.hid (HB4.out.trans (b.mono HB4.out.size)); clear b)
          | (go_at_call 7; clear tkC; refine (HCz.out _ HB4.out).mono ?_; rintro e w7 ⟨rfl, b⟩; replace RX := Lib.hid (RX.out.below b RX.out.lt); replace RA := Lib.hid (RA.out.below b RA.out.lt); replace RB := Lib.hid (RB.out.below b RB.out.lt); replace RC := Lib.hid (RC.out.below b RC.out.lt); replace RD := Lib.hid (RD.out.below b RD.out.lt); replace HB4 := Lib.hid (HB4.out.trans (b.mono HB4.out.size)); clear b)
          | (go_at_call 7; refine (HDz.out _ HB4.out).mono ?_; rintro e w8 ⟨rfl, b⟩; replace RX := Lib.hid (RX.out.below b RX.out.lt); replace RA := Lib.hid (RA.out.below b RA.out.lt); replace RB := Lib.hid (RB.out.below b RB.out.lt); replace RC := Lib.hid (RC.out.below b RC.out.lt); replace RD := Lib.hid (RD.out.below b RD.out.lt); replace HB4 := Lib.hid (HB4.out.trans (b.mono HB4.out.size)); clear b)
          | (refine wpList_load_row_w rfl 24 (.tmp 6) rfl w3.heap.size rfl 24 #[.int .i64 g, .int .i64 f, .bool t, .int .i64 a, .string ⟨#[]⟩, .string p, .string ⟨#[]⟩, .string i, .slice da es.length dc, .string x] (0, 0) _ RA.out Tryd.underlying24 rfl evSize ?_)
          | (refine wpList_load_row_w rfl 24 (.tmp 7) rfl (w3.heap.size + 1) rfl 24 #[.int .i64 g, .int .i64 f, .bool t, .int .i64 a, .string h, .string p, .string q, .string i, .slice none 0 0, .string x] (0, 0) _ RB.out Tryd.underlying24 rfl evSize ?_)
          | (refine wpList_load_row_w rfl 24 (.tmp 8) rfl (w3.heap.size + 1 + 1) rfl 24 #[.int .i64 g, .int .i64 f, .bool t, .int .i64 a, .string h, .string p, .string q, .string i, .slice da es.length dc, .string ⟨#[]⟩] (0, 0) _ RC.out Tryd.underlying24 rfl evSize ?_)
          | (refine wpList_load_row_w rfl 24 (.tmp 9) rfl (w3.heap.size + 1 + 1 + 1) rfl 24 #[.int .i64 g, .int .i64 f, .bool false, .int .i64 0, .string h, .string p, .string q, .string i, .slice da es.length dc, .string x] (0, 0) _ RD.out Tryd.underlying24 rfl evSize ?_))
        go_ret
        exact ⟨rfl, HB4.out⟩
  · obtain ⟨R, hR⟩ : ∃ R, R = rightE g f t a h p q i x es := ⟨_, rfl⟩
    rw [← hR] at hr
    have HE : Hid (∀ W, Below w.heap.size w W → Calls Tryd.prog 7 #[.agg #[.int .i64 g, .int .i64 f, .bool t, .int .i64 a, .string h, .string p, .string q, .string i, .slice da es.length dc, .string x]] W fun e w' => e = .returned (.int .i64 R) ∧ Below W.heap.size W w') := Lib.hid fun W hb => by
      rw [hR]
      exact hRc W hb
    have hne1 : (R == 0) = false := beq_eq_false_iff_ne.2 hr
    have hne2 : (R != 0) = true := by rw [bne, hne1]; rfl
    clear hr hRc hE hI hG h1 h2 h3 h4 h5 hw1 hb1 hx1 a0 a1 hR
    go_enter Tryd.func3, Tryd.ntmps3
    go_wp2_with (first
      | (go_at_call 6; refine HS.out.mono ?_; rw [← HW1.out]; rintro e w2 ⟨rfl, b⟩; have HB2 := Lib.hid (HB1.out.trans (b.mono HB1.out.size)); have HX2 := Lib.hid (HX1.out.below b HX1.out.lt); clear b)
      | (go_at_call 7; refine (HE.out _ HB2.out).mono ?_; rintro e w3 ⟨rfl, b⟩; have HB3 := Lib.hid (HB2.out.trans (b.mono HB2.out.size)); clear b)
      | (refine wpList_load_row rfl 24 (.tmp 2) rfl w.heap.size rfl 24 #[.int .i64 g, .int .i64 f, .bool t, .int .i64 a, .string h, .string p, .string q, .string i, .slice da es.length dc, .string x] (0, 0) _ HX2.out Tryd.underlying24 rfl evSize ?_))
    go_ret
    exact ⟨rfl, HB3.out⟩
end Go.Proofs.YtdkfgobbpadmgaaDoor
