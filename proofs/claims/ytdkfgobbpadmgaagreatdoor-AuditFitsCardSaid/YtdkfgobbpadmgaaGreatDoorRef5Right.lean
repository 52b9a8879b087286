/- Package tabularyref05: Right. -/
import Derived.Test.YtdkfgobbpadmgaaGreatDoorRef5Plain
import Derived.Test.YtdkfgobbpadmgaaGreatDoorUtf05
import Derived.Test.YtdkfgobbpadmgaaGreatDoorRef04
import Derived.Test.YtdkfgobbpadmgaaGreatDoorSyslRight
import Derived.Deep.QuietTactic
import Derived.BigQuiet
set_option linter.unusedVariables false
set_option linter.unusedSimpArgs false
namespace Go.Proofs.YtdkfgobbpadmgaaGreatDoor
open Go.RowKit
/-- no text and no row is longer than 4194304 -/
structure EB (es : List BEl) : Prop where
  len : es.length ≤ 4194304
  id : ∀ x ∈ es, x.1.size ≤ 4194304
  many : ∀ x ∈ es, x.2.2.length ≤ 4194304
  par : ∀ x ∈ es, ∀ q ∈ x.2.2, q.1.size ≤ 4194304 ∧ q.2.size ≤ 4194304
theorem namesOf_at (es : List BEl) (k : Nat) (h : k < es.length) : (namesOf (es.take (k + 1))) = namesOf (es.take k) ++ [es[k].1.data.toList] := namesOf_snoc es k h
theorem any_snoc_false (l : List (List UInt8)) (y : List UInt8) (z : List UInt8) (h : (l.any fun w => w == z) = false) (hy : (y == z) = false) : ((l ++ [y]).any fun w => w == z) = false := by
  rw [List.any_append, h]
  simp [hy]
theorem names_hit (es : List BEl) (j k : Nat) (hj : j < k) (hk : k ≤ es.length) (z : List UInt8) (h : es[j].1.data.toList = z) : ((namesOf (es.take k)).any fun w => w == z) = true := by
  rw [List.any_eq_true]
  refine ⟨z, ?_, by simp⟩
  rw [namesOf, List.mem_map]
  refine ⟨es[j], ?_, h⟩
  rw [List.mem_take_iff_getElem]
  exact ⟨j, by omega, rfl⟩
theorem any_take_snoc {α : Type} (p : α → Bool) (l : List α) (k : Nat) (h : k < l.length) (ht : (l.take k).any p = false) (hp : p l[k] = false) : (l.take (k + 1)).any p = false := by
  rw [List.take_succ_eq_append_getElem h, List.any_append, ht]
  simpa using hp
theorem any_at_true {α : Type} (p : α → Bool) (l : List α) (k : Nat) (h : k < l.length) (hp : p l[k] = true) : l.any p = true := List.any_eq_true.2 ⟨l[k], List.getElem_mem h, hp⟩
set_option maxHeartbeats 8000000 in
set_option maxRecDepth 100000 in
theorem rright_c (g f : Int) (t : Bool) (a : Int) (h p q i x : ByteArray) (dv : Value) (es : List BEl) (w : World) (hE : Elems w dv es) (hI : EB es) (a0 : -9223372036854775808 ≤ a) (a1 : a ≤ 9223372036854775807)
    (h1 : h.size ≤ 4194304) (h2 : p.size ≤ 4194304) (h3 : q.size ≤ 4194304) (h4 : i.size ≤ 4194304) (h5 : x.size ≤ 4194304) :
    Calls Tryz.prog 27 #[.agg #[.int .i64 g, .int .i64 f, .bool t, .int .i64 a, .string h, .string p, .string q, .string i, dv, .string x]] w fun e w' => e = .returned (.int .i64 (rightE g f t a h p q i x es)) ∧ Below w.heap.size w w' := by
  have hlen := hI.len
  obtain ⟨da, dc, rfl, hlt, hc⟩ := hE.shape
  have HC := Lib.hid hc; have HL := Lib.hid hlt; have HI := Lib.hid hI
  have HR : Hid (rightE g f t a h p q i x es = rightN (argB g f) (momB t a) (wordsB h p q i) (elsOk [] es) (Lib.validD x.data.toList) (decide (64 < es.length)) (es.any elBig)) := rfl
  obtain ⟨R, hR0⟩ : ∃ R, R = rightE g f t a h p q i x es := ⟨_, rfl⟩
  rw [← hR0] at HR ⊢
  clear hc hlt hI hE hR0
  have HX0 : Hid (Row (w.alloc (Obj.cells #[.int .i64 g, .int .i64 f, .bool t, .int .i64 a, .string h, .string p, .string q, .string i, .slice da es.length dc, .string x] 25)) w.heap.size 25 #[.int .i64 g, .int .i64 f, .bool t, .int .i64 a, .string h, .string p, .string q, .string i, .slice da es.length dc, .string x]) := Lib.hid (Row.laid _ _ _)
  have HB0 : Hid (Below w.heap.size w (w.alloc (Obj.cells #[.int .i64 g, .int .i64 f, .bool t, .int .i64 a, .string h, .string p, .string q, .string i, .slice da es.length dc, .string x] 25))) := Lib.hid ((Below.refl _ _).alloc (Nat.le_refl _) _)
  have hcase : (g < 0) ∨ (0 ≤ g ∧ 7 < g) ∨ (0 ≤ g ∧ g ≤ 7 ∧ f < 0) ∨ (0 ≤ g ∧ g ≤ 7 ∧ 0 ≤ f ∧ 23 < f) ∨ (0 ≤ g ∧ g ≤ 7 ∧ 0 ≤ f ∧ f ≤ 23) := by omega
  rcases hcase with c0 | ⟨c0, c1⟩ | ⟨c0, c1, c2⟩ | ⟨c0, c1, c2, c3⟩ | ⟨c0, c1, c2, c3⟩
  · have ha : argB g f = true := by simp [argB, c0]
    have HV0 : Hid (R = 1) := by
      show R = 1
      rw [HR.out, ha]; rfl
    clear HR ha
    go_enter Tryz.func27, Tryz.ntmps27
    go_wp2_with fail
    go_ret
    exact ⟨ret_v (by rw [HV0.out]; rfl), HB0.out⟩
  · have ha : argB g f = true := by simp [argB, c1]
    have HV0 : Hid (R = 1) := by
      show R = 1
      rw [HR.out, ha]; rfl
    clear HR ha
    go_enter Tryz.func27, Tryz.ntmps27
    go_wp2_with fail
    go_ret
    exact ⟨ret_v (by rw [HV0.out]; rfl), HB0.out⟩
  · have ha : argB g f = true := by simp [argB, c2]
    have HV0 : Hid (R = 1) := by
      show R = 1
      rw [HR.out, ha]; rfl
    clear HR ha
    go_enter Tryz.func27, Tryz.ntmps27
    go_wp2_with fail
    go_ret
    exact ⟨ret_v (by rw [HV0.out]; rfl), HB0.out⟩
  · have ha : argB g f = true := by simp [argB, c3]
    have HV0 : Hid (R = 1) := by
      show R = 1
      rw [HR.out, ha]; rfl
    clear HR ha
    go_enter Tryz.func27, Tryz.ntmps27
    go_wp2_with fail
    go_ret
    exact ⟨ret_v (by rw [HV0.out]; rfl), HB0.out⟩
  have ha : argB g f = false := by simp [argB]; omega
  rw [ha] at HR
  clear ha
  have hmom : (t = false ∧ a ≠ 0) ∨ (t = true ∧ dbad a ≠ 0) ∨ (t = true ∧ dbad a = 0 ∧ dnan a ≠ a) ∨ (t = false ∧ a = 0) ∨ (t = true ∧ dbad a = 0 ∧ dnan a = a) := by
    cases t with
    | false =>
      by_cases h : a = 0
      · exact .inr (.inr (.inr (.inl ⟨rfl, h⟩)))
      · exact .inl ⟨rfl, h⟩
    | true =>
      by_cases h : dbad a = 0
      · by_cases h' : dnan a = a
        · exact .inr (.inr (.inr (.inr ⟨rfl, h, h'⟩)))
        · exact .inr (.inr (.inl ⟨rfl, h, h'⟩))
      · exact .inr (.inl ⟨rfl, h⟩)
  have HDT : Hid (∀ W : World, Calls Tryz.prog 57 #[.int .i64 a] W fun e w' => e = .returned (.agg #[.int .i64 (dY a), .int .i64 (dM a), .int .i64 (dD a), .int .i64 (dh a), .int .i64 (dm a), .int .i64 (ds a), .int .i64 (dn a), .int .i64 0]) ∧ Below W.heap.size W w') := Lib.hid fun W => rdate_any a W a0 a1
  have HNN : Hid (∀ W : World, Calls Tryz.prog 25 #[.agg #[.int .i64 (dY a), .int .i64 (dM a), .int .i64 (dD a), .int .i64 (dh a), .int .i64 (dm a), .int .i64 (ds a), .int .i64 (dn a), .int .i64 0]] W fun e w' => e = .returned (.tuple #[.int .i64 (dnan a), .int .i64 (dbad a)]) ∧ Below W.heap.size W w') := Lib.hid fun W => rnanos_any _ _ _ _ _ _ _ _ W
  have HM : Hid (momB t a = if t then dbad a == 0 && dnan a == a else a == 0) := rfl
  obtain ⟨db, hdb⟩ : ∃ db, db = dbad a := ⟨_, rfl⟩
  obtain ⟨dnn, hdn⟩ : ∃ dnn, dnn = dnan a := ⟨_, rfl⟩
  rw [← hdb, ← hdn] at hmom HNN HM
  clear hdb hdn
  generalize dY a = e1 at HDT HNN
  generalize dM a = e2 at HDT HNN
  generalize dD a = e3 at HDT HNN
  generalize dh a = e4 at HDT HNN
  generalize dm a = e5 at HDT HNN
  generalize ds a = e6 at HDT HNN
  generalize dn a = e7 at HDT HNN
  rcases hmom with ⟨rfl, hm⟩ | ⟨rfl, hm⟩ | ⟨rfl, hm, hm2⟩ | hm
  · have HV0 : Hid (R = 1) := by
      show R = 1
      rw [HR.out, HM.out]
      have : (a == 0) = false := by simpa using hm
      simp [this, rightN]
    have hm' : ((a : Int) == 0) = false := by simpa using hm
    have hm'' : ((a : Int) != 0) = true := by rw [bne, hm']; rfl
    clear HR HM
    go_enter Tryz.func27, Tryz.ntmps27
    go_wp2_with fail
    go_ret
    exact ⟨ret_v (by rw [HV0.out]; rfl), HB0.out⟩
  · have HV0 : Hid (R = 1) := by
      show R = 1
      rw [HR.out, HM.out]
      have : (db == 0) = false := by simpa using hm
      simp [this, rightN]
    have hm' : ((db : Int) == 0) = false := by simpa using hm
    have hm'' : ((db : Int) != 0) = true := by rw [bne, hm']; rfl
    clear HR HM
    go_enter Tryz.func27, Tryz.ntmps27
    go_wp2_with (first | (go_at_call 57; refine (HDT.out _).mono ?_; rintro e w2 ⟨rfl, b2⟩; have HX2 := Lib.hid (HX0.out.below b2 HX0.out.lt); have HB2 := Lib.hid (HB0.out.trans (b2.mono HB0.out.size)); clear b2) | (go_at_call 25; refine (HNN.out _).mono ?_; rintro e w3 ⟨rfl, b3⟩; have HX3 := Lib.hid (HX2.out.below b3 HX2.out.lt); have HB3 := Lib.hid (HB2.out.trans (b3.mono HB2.out.size)); clear b3; have c3b : w3.cell? ⟨w.heap.size, 3, none⟩ = some (.int .i64 a) := HX3.out.cell 3))
    go_ret
    exact ⟨ret_v (by rw [HV0.out]; rfl), HB3.out⟩
  · have HV0 : Hid (R = 1) := by
      show R = 1
      rw [HR.out, HM.out]
      have : (dnn == a) = false := by simpa using hm2
      simp [this, rightN]
    obtain rfl := hm
    have hm' : ((dnn : Int) == a) = false := by simpa using hm2
    have hm'' : ((dnn : Int) != a) = true := by rw [bne, hm']; rfl
    clear HR HM
    go_enter Tryz.func27, Tryz.ntmps27
    go_wp2_with (first | (go_at_call 57; refine (HDT.out _).mono ?_; rintro e w2 ⟨rfl, b2⟩; have HX2 := Lib.hid (HX0.out.below b2 HX0.out.lt); have HB2 := Lib.hid (HB0.out.trans (b2.mono HB0.out.size)); clear b2) | (go_at_call 25; refine (HNN.out _).mono ?_; rintro e w3 ⟨rfl, b3⟩; have HX3 := Lib.hid (HX2.out.below b3 HX2.out.lt); have HB3 := Lib.hid (HB2.out.trans (b3.mono HB2.out.size)); clear b3; have c3b : w3.cell? ⟨w.heap.size, 3, none⟩ = some (.int .i64 a) := HX3.out.cell 3))
    go_ret
    exact ⟨ret_v (by rw [HV0.out]; rfl), HB3.out⟩
  obtain ⟨wb, hwb⟩ : ∃ wb, wb = wordsB h p q i := ⟨_, rfl⟩
  obtain ⟨vb, hvb⟩ : ∃ vb, vb = Lib.validD x.data.toList := ⟨_, rfl⟩
  have HUX : Hid (∀ W : World, Calls Tryz.prog 59 #[.string x] W fun e w' => e = .returned (.bool vb) ∧ W = w') := Lib.hid fun W => by rw [hvb]; exact utf8_c x W (by omega)
  have HR2 : Hid (momB t a = true → R = rightN false true wb (elsOk [] es) vb (decide (64 < es.length)) (es.any elBig)) := Lib.hid fun h => by rw [HR.out, h, ← hwb, ← hvb]
  have HWB := Lib.hid hwb
  clear hwb hvb HR
  obtain ⟨m0, hm0⟩ : ∃ b, b = mayB h.data.toList 255 := ⟨_, rfl⟩
  have HW0 : Hid (∀ W : World, Calls Tryz.prog 58 #[.string h, .int .i64 255] W fun e w' => e = .returned (.bool m0) ∧ W = w') := Lib.hid fun W => by rw [hm0]; exact rhead_c h 255 W (by omega) (by omega)
  obtain ⟨m1, hm1⟩ : ∃ b, b = mayB p.data.toList 48 := ⟨_, rfl⟩
  have HW1 : Hid (∀ W : World, Calls Tryz.prog 58 #[.string p, .int .i64 48] W fun e w' => e = .returned (.bool m1) ∧ W = w') := Lib.hid fun W => by rw [hm1]; exact rhead_c p 48 W (by omega) (by omega)
  obtain ⟨m2, hm2⟩ : ∃ b, b = mayB q.data.toList 128 := ⟨_, rfl⟩
  have HW2 : Hid (∀ W : World, Calls Tryz.prog 58 #[.string q, .int .i64 128] W fun e w' => e = .returned (.bool m2) ∧ W = w') := Lib.hid fun W => by rw [hm2]; exact rhead_c q 128 W (by omega) (by omega)
  obtain ⟨m3, hm3⟩ : ∃ b, b = mayB i.data.toList 32 := ⟨_, rfl⟩
  have HW3 : Hid (∀ W : World, Calls Tryz.prog 58 #[.string i, .int .i64 32] W fun e w' => e = .returned (.bool m3) ∧ W = w') := Lib.hid fun W => by rw [hm3]; exact rhead_c i 32 W (by omega) (by omega)
  have HWO : Hid (wb = (m0 && m1 && m2 && m3)) := by
    show wb = _
    rw [HWB.out, wordsB, ← hm0, ← hm1, ← hm2, ← hm3]
  clear hm0 hm1 hm2 hm3 HWB
  rcases hm with ⟨rfl, rfl⟩ | ⟨rfl, hm1, hm2⟩
  · have HRM : Hid (R = rightN false true wb (elsOk [] es) vb (decide (64 < es.length)) (es.any elBig)) := HR2.out (by rw [HM.out]; rfl)
    clear HR2 HM
    go_enter Tryz.func27, Tryz.ntmps27
    go_upto_region 9 with (fail)
    go_cut [5] (fun s5 wx => s5 = .bool wb ∧ Row wx w.heap.size 25 #[.int .i64 g, .int .i64 f, .bool false, .int .i64 0, .string h, .string p, .string q, .string i, .slice da es.length dc, .string x] ∧ Below w.heap.size w wx)
    case first =>
      have HX1 := HX0; have HB1 := HB0
      have u0 : True := trivial; have u1 : True := trivial; have u2 : True := trivial; have u3 : True := trivial
      have c4 : (w.alloc (Obj.cells #[.int .i64 g, .int .i64 f, .bool false, .int .i64 0, .string h, .string p, .string q, .string i, .slice da es.length dc, .string x] 25)).cell? ⟨w.heap.size, 4, none⟩ = some (.string h) := HX1.out.cell 4
      have c5 : (w.alloc (Obj.cells #[.int .i64 g, .int .i64 f, .bool false, .int .i64 0, .string h, .string p, .string q, .string i, .slice da es.length dc, .string x] 25)).cell? ⟨w.heap.size, 5, none⟩ = some (.string p) := HX1.out.cell 5
      have c6 : (w.alloc (Obj.cells #[.int .i64 g, .int .i64 f, .bool false, .int .i64 0, .string h, .string p, .string q, .string i, .slice da es.length dc, .string x] 25)).cell? ⟨w.heap.size, 6, none⟩ = some (.string q) := HX1.out.cell 6
      have c7 : (w.alloc (Obj.cells #[.int .i64 g, .int .i64 f, .bool false, .int .i64 0, .string h, .string p, .string q, .string i, .slice da es.length dc, .string x] 25)).cell? ⟨w.heap.size, 7, none⟩ = some (.string i) := HX1.out.cell 7
      cases m0 with
      | false =>
        have HQ : Hid (wb = false) := by
          show wb = false
          rw [HWO.out]; simp
        go_wp2_with (first | (go_at_call 58; clear u0; refine (HW0.out _).mono ?_; rintro e w2 ⟨rfl, rfl⟩))
        go_meet
        exact ⟨by rw [HQ.out], HX1.out, HB1.out⟩
      | true =>
        cases m1 with
        | false =>
          have HQ : Hid (wb = false) := by
            show wb = false
            rw [HWO.out]; simp
          go_wp2_with (first | (go_at_call 58; clear u0; refine (HW0.out _).mono ?_; rintro e w2 ⟨rfl, rfl⟩) | (go_at_call 58; clear u1; refine (HW1.out _).mono ?_; rintro e w2 ⟨rfl, rfl⟩))
          go_meet
          exact ⟨by rw [HQ.out], HX1.out, HB1.out⟩
        | true =>
          cases m2 with
          | false =>
            have HQ : Hid (wb = false) := by
              show wb = false
              rw [HWO.out]; simp
            go_wp2_with (first | (go_at_call 58; clear u0; refine (HW0.out _).mono ?_; rintro e w2 ⟨rfl, rfl⟩) | (go_at_call 58; clear u1; refine (HW1.out _).mono ?_; rintro e w2 ⟨rfl, rfl⟩) | (go_at_call 58; clear u2; refine (HW2.out _).mono ?_; rintro e w2 ⟨rfl, rfl⟩))
            go_meet
            exact ⟨by rw [HQ.out], HX1.out, HB1.out⟩
          | true =>
            cases m3 with
            | false =>
              have HQ : Hid (wb = false) := by
                show wb = false
                rw [HWO.out]; simp
              go_wp2_with (first | (go_at_call 58; clear u0; refine (HW0.out _).mono ?_; rintro e w2 ⟨rfl, rfl⟩) | (go_at_call 58; clear u1; refine (HW1.out _).mono ?_; rintro e w2 ⟨rfl, rfl⟩) | (go_at_call 58; clear u2; refine (HW2.out _).mono ?_; rintro e w2 ⟨rfl, rfl⟩) | (go_at_call 58; clear u3; refine (HW3.out _).mono ?_; rintro e w2 ⟨rfl, rfl⟩))
              go_meet
              exact ⟨by rw [HQ.out], HX1.out, HB1.out⟩
            | true =>
              have HQ : Hid (wb = true) := by
                show wb = true
                rw [HWO.out]; rfl
              go_wp2_with (first | (go_at_call 58; clear u0; refine (HW0.out _).mono ?_; rintro e w2 ⟨rfl, rfl⟩) | (go_at_call 58; clear u1; refine (HW1.out _).mono ?_; rintro e w2 ⟨rfl, rfl⟩) | (go_at_call 58; clear u2; refine (HW2.out _).mono ?_; rintro e w2 ⟨rfl, rfl⟩) | (go_at_call 58; clear u3; refine (HW3.out _).mono ?_; rintro e w2 ⟨rfl, rfl⟩))
              go_meet
              exact ⟨by rw [HQ.out], HX1.out, HB1.out⟩
    case rest =>
    obtain ⟨rfl, hx1, hb1⟩ := hcut
    have HX1 := Lib.hid hx1; have HB1 := Lib.hid hb1
    clear hx1 hb1 HDT HNN HW0 HW1 HW2 HW3 HWO HX0 HB0
    obtain ⟨w1, rfl⟩ : ∃ x : World, x = wc := ⟨_, rfl⟩
    have c8 : w1.cell? ⟨w.heap.size, 8, none⟩ = some (.slice da es.length dc) := HX1.out.cell 8
    have c9 : w1.cell? ⟨w.heap.size, 9, none⟩ = some (.string x) := HX1.out.cell 9
    cases wb with
    | false =>
      have HV0 : Hid (R = 3) := by
        show R = 3
        rw [HRM.out]; rfl
      clear HRM
      go_wp2_with (go_at_call 59; refine (HUX.out _).mono ?_; rintro e w2 ⟨rfl, rfl⟩)
      go_ret
      exact ⟨ret_v (by rw [HV0.out]; rfl), HB1.out⟩
    | true =>
    cases vb with
    | false =>
      have HV0 : Hid (R = 3) := by
        show R = 3
        rw [HRM.out]
        cases elsOk [] es <;> rfl
      clear HRM
      go_wp2_with (go_at_call 59; refine (HUX.out _).mono ?_; rintro e w2 ⟨rfl, rfl⟩)
      go_ret
      exact ⟨ret_v (by rw [HV0.out]; rfl), HB1.out⟩
    | true =>
    have H3 : Hid (elsOk [] es = false → R = 3) := Lib.hid fun h => by rw [HRM.out, h]; rfl
    have H4 : Hid (elsOk [] es = true → R = if (decide (64 < es.length) || es.any elBig) = true then 4 else 0) := Lib.hid fun h => by rw [HRM.out, h]; rfl
    clear HRM
    go_wp2_with (go_at_call 59; refine (HUX.out _).mono ?_; rintro e w2 ⟨rfl, rfl⟩)
    go_loopg [7] es.length (fun gg s7 wr => ∃ k : Nat, k ≤ es.length ∧ Hid (gg = es.length - k) ∧ s7 = .int .i64 k ∧ Hid (elsOk (namesOf (es.take k)) (es.drop k) = elsOk [] es) ∧ Row wr w.heap.size 25 #[.int .i64 g, .int .i64 f, .bool false, .int .i64 0, .string h, .string p, .string q, .string i, .slice da es.length dc, .string x] ∧ Below w.heap.size w wr)
    case atStart => exact ⟨0, by omega, rfl, rfl, rfl, HX1.out, HB1.out⟩
    case round =>
      obtain ⟨k, hk, HG, rfl, hok, hxr, hbr⟩ := hrel
      have HX := Lib.hid hxr; have HB := Lib.hid hbr
      clear hxr hbr HX1 HB1 c8 c9 HUX
      obtain ⟨wo, rfl⟩ : ∃ wo : World, wo = wr := ⟨_, rfl⟩
      by_cases hlt : k < es.length
      · obtain ⟨b, rfl, hsp, e1, e2, hP⟩ := HC.out k hlt
        have hbl := HL.out b rfl (by omega)
        obtain ⟨gb, off, sp⟩ := b
        cases hsp
        have hbl' : gb < w.heap.size := hbl
        replace e1 : w.cell? ⟨gb, off + k * 2, none⟩ = some (.string es[k].1) := e1
        replace e2 : w.cell? ⟨gb, off + k * 2 + 1, none⟩ = some es[k].2.1 := e2
        obtain ⟨pa, pc, hpv, hplt, hpc⟩ := hP.shape
        rw [hpv] at e2
        have hst := elsOk_step es k hlt (namesOf (es.take k))
        rw [hok.out] at hst
        have hmem : es[k] ∈ es := List.getElem_mem hlt
        have hid1 := HI.out.id _ hmem
        have hmany := HI.out.many _ hmem
        have hpar := HI.out.par _ hmem
        have hsn := namesOf_snoc es k hlt
        have hhit := fun (j : Nat) (hj : j < k) => names_hit es j k hj (by omega) es[k].1.data.toList
        generalize hX : es[k].1 = xid at *
        generalize hPS : es[k].2.2 = ps at *
        have HSt := Lib.hid hst; have HSn := Lib.hid hsn; have HPar := Lib.hid hpar; have HHIT := Lib.hid hhit
        have HPC := Lib.hid hpc; have HPL := Lib.hid hplt; have HE1 := Lib.hid e1; have HE2 := Lib.hid e2
        have HNM : Hid (∀ W : World, Calls Tryz.prog 60 #[.string xid] W fun e w' => e = .returned (.bool (nameB xid.data.toList)) ∧ W = w') := Lib.hid fun W => rname_c xid W (by omega)
        clear hst hsn hpar hX hPS hmem hpv hP hok hhit hpc hplt e1 e2
        have HEo : Hid (∀ W : World, Below w.heap.size w W → W.cell? ⟨gb, off + k * 2, none⟩ = some (.string xid) ∧ W.cell? ⟨gb, off + k * 2 + 1, none⟩ = some (.slice pa ps.length pc)) := Lib.hid fun W hb => ⟨(World.cell?_of_block (hb.block gb hbl')).trans HE1.out, (World.cell?_of_block (hb.block gb hbl')).trans HE2.out⟩
        obtain ⟨e1, e2⟩ := HEo.out _ HB.out
        have c8 : wo.cell? ⟨w.heap.size, 8, none⟩ = some (.slice (some ⟨gb, off, none⟩) es.length dc) := HX.out.cell 8
        cases hn : nameB xid.data.toList with
        | false =>
          have HV0 : Hid (R = 3) := H3.out (by rw [HSt.out, hn]; rfl)
          rw [hn] at HNM
          clear hn
          go_wp2_with (go_at_call 60; refine (HNM.out _).mono ?_; rintro e w2 ⟨rfl, rfl⟩)
          go_ret
          exact ⟨ret_v (by rw [HV0.out]; rfl), HB.out⟩
        | true =>
        have HS1 : Hid (elsOk [] es = (!(namesOf (es.take k)).any (fun y => y == xid.data.toList) && !ps.any parBad && elsOk (namesOf (es.take (k + 1))) (es.drop (k + 1)))) := by
          show elsOk [] es = _
          rw [HSt.out, hn, HSn.out, Bool.true_and]
        rw [hn] at HNM
        clear hn HSt
        go_wp2_with (go_at_call 60; refine (HNM.out _).mono ?_; rintro e w2 ⟨rfl, rfl⟩)
        clear e1 e2 c8
        go_loopg [9] k (fun gg s9 wr => ∃ j : Nat, j ≤ k ∧ Hid (gg = k - j) ∧ s9 = .int .i64 j ∧ Hid ((namesOf (es.take j)).any (fun y => y == xid.data.toList) = false) ∧ Row wr w.heap.size 25 #[.int .i64 g, .int .i64 f, .bool false, .int .i64 0, .string h, .string p, .string q, .string i, .slice (some ⟨gb, off, none⟩) es.length dc, .string x] ∧ Below w.heap.size w wr)
        case atStart => exact ⟨0, by omega, rfl, rfl, (by show _ = _; simp [namesOf]), HX.out, HB.out⟩
        case round =>
          obtain ⟨j, hj, HG2, rfl, hno, hx2, hb2⟩ := hrel
          have HX2 := Lib.hid hx2; have HB2 := Lib.hid hb2
          clear hx2 hb2
          obtain ⟨wj, rfl⟩ : ∃ wj : World, wj = wr := ⟨_, rfl⟩
          obtain ⟨e1, e2⟩ := HEo.out _ HB2.out
          have c8 : wj.cell? ⟨w.heap.size, 8, none⟩ = some (.slice (some ⟨gb, off, none⟩) es.length dc) := HX2.out.cell 8
          by_cases hjk : j < k
          · have hjl : j < es.length := by omega
            obtain ⟨b2, hb2, hsp2, f1, f2, -⟩ := HC.out j hjl
            obtain rfl := Option.some.inj hb2
            have hsnj := namesOf_snoc es j hjl
            have hh := HHIT.out j hjk
            replace f1 : wj.cell? ⟨gb, off + j * 2, none⟩ = some (.string es[j].1) := (World.cell?_of_block (HB2.out.block gb hbl')).trans f1
            generalize hY : es[j].1 = yid at *
            have HSJ := Lib.hid hsnj; have HHJ := Lib.hid hh
            have hdj : decide ((j : Int) < (k : Int)) = true := decide_eq_true (by omega)
            clear f2 hsnj hh hY hb2 hsp2
            cases hq : (yid.toList == xid.toList) with
            | true =>
              have hq2 : yid.data.toList = xid.data.toList := by
                rw [ByteArray.toList_eq, ByteArray.toList_eq] at hq
                simpa using hq
              have HV0 : Hid (R = 3) := H3.out (by rw [HS1.out, HHJ.out hq2]; rfl)
              clear hq2 HS1
              go_wp2_with fail
              go_quiet (fail)
              all_goals
                go_wp2_with fail
                go_ret
                refine ⟨ret_v (by rw [HV0.out]; rfl), ?_⟩
                first | exact below_drewN HB2.out _ | exact HB2.out.drew
            | false =>
              have hno2 : Hid ((namesOf (es.take (j + 1))).any (fun y => y == xid.data.toList) = false) := by
                show _ = false
                rw [HSJ.out]
                refine any_snoc_false _ _ _ hno.out ?_
                rw [ByteArray.toList_eq, ByteArray.toList_eq] at hq
                exact hq
              clear hno
              go_wp2_with fail
              go_quiet (fail)
              all_goals
                go_wp2_with fail
                go_roundg (k - (j + 1))
                case measure => rw [HG2.out]; omega
                case rel => exact ⟨j + 1, by omega, rfl, by go_num, hno2, by first | exact HX2.out.drewN _ | exact HX2.out.drew, by first | exact below_drewN HB2.out _ | exact HB2.out.drew⟩
          · obtain rfl : j = k := by omega
            have hdj : decide ((j : Int) < (j : Int)) = false := decide_eq_false (by omega)
            have HS2 : Hid (elsOk [] es = (!ps.any parBad && elsOk (namesOf (es.take (j + 1))) (es.drop (j + 1)))) := by
              show elsOk [] es = _
              rw [HS1.out, hno.out]; rfl
            clear hno HS1 HG2 HX HB
            go_wp2_with fail
            clear e1 e2 c8
            go_loopg [10] ps.length (fun gg s10 wr => ∃ m : Nat, m ≤ ps.length ∧ Hid (gg = ps.length - m) ∧ s10 = .int .i64 m ∧ Hid ((ps.take m).any parBad = false) ∧ Row wr w.heap.size 25 #[.int .i64 g, .int .i64 f, .bool false, .int .i64 0, .string h, .string p, .string q, .string i, .slice (some ⟨gb, off, none⟩) es.length dc, .string x] ∧ Below w.heap.size w wr)
            case atStart => exact ⟨0, by omega, rfl, rfl, (by show _ = _; simp), HX2.out, HB2.out⟩
            case round =>
              obtain ⟨m, hm, HG3, rfl, hno, hx3, hb3⟩ := hrel
              have HX3 := Lib.hid hx3; have HB3 := Lib.hid hb3
              clear hx3 hb3
              obtain ⟨wm, rfl⟩ : ∃ wm : World, wm = wr := ⟨_, rfl⟩
              obtain ⟨e1, e2⟩ := HEo.out _ HB3.out
              have c8 : wm.cell? ⟨w.heap.size, 8, none⟩ = some (.slice (some ⟨gb, off, none⟩) es.length dc) := HX3.out.cell 8
              by_cases hml : m < ps.length
              · obtain ⟨b3, rfl, hsp3, f1, f2⟩ := HPC.out m hml
                have hbl3 := HPL.out b3 rfl (by omega)
                obtain ⟨gp, poff, sp⟩ := b3
                cases hsp3
                replace f1 : wm.cell? ⟨gp, poff + m * 2, none⟩ = some (.string ps[m].1) := (World.cell?_of_block (HB3.out.block gp hbl3)).trans f1
                replace f2 : wm.cell? ⟨gp, poff + m * 2 + 1, none⟩ = some (.string ps[m].2) := (World.cell?_of_block (HB3.out.block gp hbl3)).trans f2
                have hpm := HPar.out _ (List.getElem_mem hml)
                have hbadT := any_at_true parBad ps m hml
                have hbadF := any_take_snoc parBad ps m hml hno.out
                have hpb : parBad ps[m] = (!nameB ps[m].1.data.toList || !Lib.validD ps[m].2.data.toList) := rfl
                rw [hpb] at hbadT hbadF
                generalize hN : ps[m].1 = pn at *
                generalize hVl : ps[m].2 = pvv at *
                have HBT := Lib.hid hbadT; have HBF := Lib.hid hbadF
                have HN2 : Hid (∀ W : World, Calls Tryz.prog 60 #[.string pn] W fun e w' => e = .returned (.bool (nameB pn.data.toList)) ∧ W = w') := Lib.hid fun W => rname_c pn W (by omega)
                have HU2 : Hid (∀ W : World, Calls Tryz.prog 59 #[.string pvv] W fun e w' => e = .returned (.bool (Lib.validD pvv.data.toList)) ∧ W = w') := Lib.hid fun W => utf8_c pvv W (by omega)
                have hdm : decide (m < ps.length) = true := decide_eq_true hml
                clear hbadT hbadF hpb hN hVl hpm hno
                cases hnb : nameB pn.data.toList with
                | false =>
                  have HV0 : Hid (R = 3) := H3.out (by rw [HS2.out, HBT.out (by rw [hnb]; rfl)]; rfl)
                  rw [hnb] at HN2
                  clear hnb HS2
                  go_wp2_with (first | (go_at_call 60; refine (HN2.out _).mono ?_; rintro e w2 ⟨rfl, rfl⟩) | (go_at_call 59; refine (HU2.out _).mono ?_; rintro e w2 ⟨rfl, rfl⟩))
                  go_ret
                  exact ⟨ret_v (by rw [HV0.out]; rfl), HB3.out⟩
                | true =>
                  cases hvb2 : Lib.validD pvv.data.toList with
                  | false =>
                    have HV0 : Hid (R = 3) := H3.out (by rw [HS2.out, HBT.out (by rw [hvb2]; simp)]; rfl)
                    rw [hnb] at HN2
                    rw [hvb2] at HU2
                    clear hnb hvb2 HS2
                    go_wp2_with (first | (go_at_call 60; refine (HN2.out _).mono ?_; rintro e w2 ⟨rfl, rfl⟩) | (go_at_call 59; refine (HU2.out _).mono ?_; rintro e w2 ⟨rfl, rfl⟩))
                    go_ret
                    exact ⟨ret_v (by rw [HV0.out]; rfl), HB3.out⟩
                  | true =>
                    have hno2 : Hid ((ps.take (m + 1)).any parBad = false) := HBF.out (by rw [hnb, hvb2]; rfl)
                    rw [hnb] at HN2
                    rw [hvb2] at HU2
                    clear hnb hvb2
                    go_wp2_with (first | (go_at_call 60; refine (HN2.out _).mono ?_; rintro e w2 ⟨rfl, rfl⟩) | (go_at_call 59; refine (HU2.out _).mono ?_; rintro e w2 ⟨rfl, rfl⟩))
                    go_roundg (ps.length - (m + 1))
                    case measure => rw [HG3.out]; omega
                    case rel => exact ⟨m + 1, by omega, rfl, by go_num, hno2, HX3.out, HB3.out⟩
              · have hdm : decide (m < ps.length) = false := decide_eq_false hml
                have hok2 : Hid (elsOk (namesOf (es.take (j + 1))) (es.drop (j + 1)) = elsOk [] es) := by
                  show _ = elsOk [] es
                  have h := hno.out
                  rw [List.take_of_length_le (by omega)] at h
                  rw [HS2.out, h]; rfl
                clear hno
                go_wp2_with fail
                go_roundg (es.length - (j + 1))
                case measure => rw [HG.out]; omega
                case rel => exact ⟨j + 1, by omega, rfl, by go_num, hok2, HX3.out, HB3.out⟩
      · have hR1 : Hid (R = if (decide (64 < es.length) || es.any elBig) = true then 4 else 0) := H4.out (by rw [← hok.out, List.drop_eq_nil_of_le (by omega), elsOk])
        have hdk : decide ((k : Int) < (es.length : Int)) = false := decide_eq_false (by omega)
        have c8 : wo.cell? ⟨w.heap.size, 8, none⟩ = some (.slice da es.length dc) := HX.out.cell 8
        clear hok H3 H4
        by_cases h64 : 64 < es.length
        · have HV0 : Hid (R = 4) := by
            show R = 4
            rw [hR1.out, decide_eq_true h64]; rfl
          have hd64 : decide (64 < es.length) = true := decide_eq_true h64
          clear hR1
          go_wp2_with fail
          go_ret
          exact ⟨ret_v (by rw [HV0.out]; rfl), HB.out⟩
        · have hd64 : decide (64 < es.length) = false := decide_eq_false h64
          have hR2 : Hid (R = if es.any elBig = true then 4 else 0) := by
            show R = _
            rw [hR1.out, hd64, Bool.false_or]
          clear hR1
          go_wp2_with fail
          clear c8
          go_loopg [13] es.length (fun gg s13 wr => ∃ j : Nat, j ≤ es.length ∧ Hid (gg = es.length - j) ∧ s13 = .int .i64 j ∧ Hid ((es.take j).any elBig = false) ∧ Row wr w.heap.size 25 #[.int .i64 g, .int .i64 f, .bool false, .int .i64 0, .string h, .string p, .string q, .string i, .slice da es.length dc, .string x] ∧ Below w.heap.size w wr)
          case atStart => exact ⟨0, by omega, rfl, rfl, (by show _ = _; simp), HX.out, HB.out⟩
          case round =>
            obtain ⟨j, hj, HG2, rfl, hno, hx2, hb2⟩ := hrel
            have HX2 := Lib.hid hx2; have HB2 := Lib.hid hb2
            clear hx2 hb2
            obtain ⟨wj, rfl⟩ : ∃ wj : World, wj = wr := ⟨_, rfl⟩
            by_cases hjl : j < es.length
            · obtain ⟨b2, rfl, hsp2, f1, f2, hP⟩ := HC.out j hjl
              have hbl2 := HL.out b2 rfl (by omega)
              obtain ⟨gb, off, sp⟩ := b2
              cases hsp2
              obtain ⟨pa, pc, hpv, -⟩ := hP.shape
              rw [hpv] at f2
              replace f2 : wj.cell? ⟨gb, off + j * 2 + 1, none⟩ = some (.slice pa es[j].2.2.length pc) := (World.cell?_of_block (HB2.out.block gb hbl2)).trans f2
              have hbT := any_at_true elBig es j hjl
              have hbF := any_take_snoc elBig es j hjl hno.out
              have hbe : elBig es[j] = decide (64 < es[j].2.2.length) := rfl
              rw [hbe] at hbT hbF
              generalize hM : es[j].2.2.length = pm at *
              have HBT := Lib.hid hbT; have HBF := Lib.hid hbF
              have hdj : decide ((j : Int) < (es.length : Int)) = true := decide_eq_true (by omega)
              have c8 : wj.cell? ⟨w.heap.size, 8, none⟩ = some (.slice (some ⟨gb, off, none⟩) es.length dc) := HX2.out.cell 8
              clear hbT hbF hbe hM hP hpv hno f1
              by_cases hpm : 64 < pm
              · have HV0 : Hid (R = 4) := by
                  show R = 4
                  rw [hR2.out, HBT.out (decide_eq_true hpm)]; rfl
                have hdp : decide (64 < pm) = true := decide_eq_true hpm
                clear hR2
                go_wp2_with fail
                go_ret
                exact ⟨ret_v (by rw [HV0.out]; rfl), HB2.out⟩
              · have hno2 := HBF.out (decide_eq_false hpm)
                have HNO2 := Lib.hid hno2
                have hdp : decide (64 < pm) = false := decide_eq_false hpm
                clear hno2
                go_wp2_with fail
                go_roundg (es.length - (j + 1))
                case measure => rw [HG2.out]; omega
                case rel => exact ⟨j + 1, by omega, rfl, by go_num, HNO2, HX2.out, HB2.out⟩
            · have HV0 : Hid (R = 0) := by
                show R = 0
                have h := hno.out
                rw [List.take_of_length_le (by omega)] at h
                rw [hR2.out, h]; rfl
              have hdj : decide ((j : Int) < (es.length : Int)) = false := decide_eq_false (by omega)
              have c8 : wj.cell? ⟨w.heap.size, 8, none⟩ = some (.slice da es.length dc) := HX2.out.cell 8
              clear hno hR2
              go_wp2_with fail
              go_ret
              exact ⟨ret_v (by rw [HV0.out]; rfl), HB2.out⟩
  · have HRM : Hid (R = rightN false true wb (elsOk [] es) vb (decide (64 < es.length)) (es.any elBig)) := HR2.out (by rw [HM.out]; simp [hm1, hm2])
    clear HR2 HM
    obtain rfl := hm1
    obtain rfl := hm2
    go_enter Tryz.func27, Tryz.ntmps27
    go_upto_region 9 with (first | (go_at_call 57; refine (HDT.out _).mono ?_; rintro e w2 ⟨rfl, b2⟩; have HX2 := Lib.hid (HX0.out.below b2 HX0.out.lt); have HB2 := Lib.hid (HB0.out.trans (b2.mono HB0.out.size)); clear b2) | (go_at_call 25; refine (HNN.out _).mono ?_; rintro e w3 ⟨rfl, b3⟩; have HX3 := Lib.hid (HX2.out.below b3 HX2.out.lt); have HB3 := Lib.hid (HB2.out.trans (b3.mono HB2.out.size)); clear b3; have c3b : w3.cell? ⟨w.heap.size, 3, none⟩ = some (.int .i64 dnn) := HX3.out.cell 3))
    go_cut [5] (fun s5 wx => s5 = .bool wb ∧ Row wx w.heap.size 25 #[.int .i64 g, .int .i64 f, .bool true, .int .i64 dnn, .string h, .string p, .string q, .string i, .slice da es.length dc, .string x] ∧ Below w.heap.size w wx)
    case first =>
      have HX1 := HX3; have HB1 := HB3
      have u0 : True := trivial; have u1 : True := trivial; have u2 : True := trivial; have u3 : True := trivial
      have c4 : w3.cell? ⟨w.heap.size, 4, none⟩ = some (.string h) := HX1.out.cell 4
      have c5 : w3.cell? ⟨w.heap.size, 5, none⟩ = some (.string p) := HX1.out.cell 5
      have c6 : w3.cell? ⟨w.heap.size, 6, none⟩ = some (.string q) := HX1.out.cell 6
      have c7 : w3.cell? ⟨w.heap.size, 7, none⟩ = some (.string i) := HX1.out.cell 7
      cases m0 with
      | false =>
        have HQ : Hid (wb = false) := by
          show wb = false
          rw [HWO.out]; simp
        go_wp2_with (first | (go_at_call 58; clear u0; refine (HW0.out _).mono ?_; rintro e w2 ⟨rfl, rfl⟩))
        go_meet
        exact ⟨by rw [HQ.out], HX1.out, HB1.out⟩
      | true =>
        cases m1 with
        | false =>
          have HQ : Hid (wb = false) := by
            show wb = false
            rw [HWO.out]; simp
          go_wp2_with (first | (go_at_call 58; clear u0; refine (HW0.out _).mono ?_; rintro e w2 ⟨rfl, rfl⟩) | (go_at_call 58; clear u1; refine (HW1.out _).mono ?_; rintro e w2 ⟨rfl, rfl⟩))
          go_meet
          exact ⟨by rw [HQ.out], HX1.out, HB1.out⟩
        | true =>
          cases m2 with
          | false =>
            have HQ : Hid (wb = false) := by
              show wb = false
              rw [HWO.out]; simp
            go_wp2_with (first | (go_at_call 58; clear u0; refine (HW0.out _).mono ?_; rintro e w2 ⟨rfl, rfl⟩) | (go_at_call 58; clear u1; refine (HW1.out _).mono ?_; rintro e w2 ⟨rfl, rfl⟩) | (go_at_call 58; clear u2; refine (HW2.out _).mono ?_; rintro e w2 ⟨rfl, rfl⟩))
            go_meet
            exact ⟨by rw [HQ.out], HX1.out, HB1.out⟩
          | true =>
            cases m3 with
            | false =>
              have HQ : Hid (wb = false) := by
                show wb = false
                rw [HWO.out]; simp
              go_wp2_with (first | (go_at_call 58; clear u0; refine (HW0.out _).mono ?_; rintro e w2 ⟨rfl, rfl⟩) | (go_at_call 58; clear u1; refine (HW1.out _).mono ?_; rintro e w2 ⟨rfl, rfl⟩) | (go_at_call 58; clear u2; refine (HW2.out _).mono ?_; rintro e w2 ⟨rfl, rfl⟩) | (go_at_call 58; clear u3; refine (HW3.out _).mono ?_; rintro e w2 ⟨rfl, rfl⟩))
              go_meet
              exact ⟨by rw [HQ.out], HX1.out, HB1.out⟩
            | true =>
              have HQ : Hid (wb = true) := by
                show wb = true
                rw [HWO.out]; rfl
              go_wp2_with (first | (go_at_call 58; clear u0; refine (HW0.out _).mono ?_; rintro e w2 ⟨rfl, rfl⟩) | (go_at_call 58; clear u1; refine (HW1.out _).mono ?_; rintro e w2 ⟨rfl, rfl⟩) | (go_at_call 58; clear u2; refine (HW2.out _).mono ?_; rintro e w2 ⟨rfl, rfl⟩) | (go_at_call 58; clear u3; refine (HW3.out _).mono ?_; rintro e w2 ⟨rfl, rfl⟩))
              go_meet
              exact ⟨by rw [HQ.out], HX1.out, HB1.out⟩
    case rest =>
    obtain ⟨rfl, hx1, hb1⟩ := hcut
    have HX1 := Lib.hid hx1; have HB1 := Lib.hid hb1
    clear hx1 hb1 HDT HNN HW0 HW1 HW2 HW3 HWO HX0 HB0
    obtain ⟨w1, rfl⟩ : ∃ x : World, x = wc := ⟨_, rfl⟩
    have c8 : w1.cell? ⟨w.heap.size, 8, none⟩ = some (.slice da es.length dc) := HX1.out.cell 8
    have c9 : w1.cell? ⟨w.heap.size, 9, none⟩ = some (.string x) := HX1.out.cell 9
    cases wb with
    | false =>
      have HV0 : Hid (R = 3) := by
        show R = 3
        rw [HRM.out]; rfl
      clear HRM
      go_wp2_with (go_at_call 59; refine (HUX.out _).mono ?_; rintro e w2 ⟨rfl, rfl⟩)
      go_ret
      exact ⟨ret_v (by rw [HV0.out]; rfl), HB1.out⟩
    | true =>
    cases vb with
    | false =>
      have HV0 : Hid (R = 3) := by
        show R = 3
        rw [HRM.out]
        cases elsOk [] es <;> rfl
      clear HRM
      go_wp2_with (go_at_call 59; refine (HUX.out _).mono ?_; rintro e w2 ⟨rfl, rfl⟩)
      go_ret
      exact ⟨ret_v (by rw [HV0.out]; rfl), HB1.out⟩
    | true =>
    have H3 : Hid (elsOk [] es = false → R = 3) := Lib.hid fun h => by rw [HRM.out, h]; rfl
    have H4 : Hid (elsOk [] es = true → R = if (decide (64 < es.length) || es.any elBig) = true then 4 else 0) := Lib.hid fun h => by rw [HRM.out, h]; rfl
    clear HRM
    go_wp2_with (go_at_call 59; refine (HUX.out _).mono ?_; rintro e w2 ⟨rfl, rfl⟩)
    go_loopg [7] es.length (fun gg s7 wr => ∃ k : Nat, k ≤ es.length ∧ Hid (gg = es.length - k) ∧ s7 = .int .i64 k ∧ Hid (elsOk (namesOf (es.take k)) (es.drop k) = elsOk [] es) ∧ Row wr w.heap.size 25 #[.int .i64 g, .int .i64 f, .bool true, .int .i64 dnn, .string h, .string p, .string q, .string i, .slice da es.length dc, .string x] ∧ Below w.heap.size w wr)
    case atStart => exact ⟨0, by omega, rfl, rfl, rfl, HX1.out, HB1.out⟩
    case round =>
      obtain ⟨k, hk, HG, rfl, hok, hxr, hbr⟩ := hrel
      have HX := Lib.hid hxr; have HB := Lib.hid hbr
      clear hxr hbr HX1 HB1 c8 c9 HUX
      obtain ⟨wo, rfl⟩ : ∃ wo : World, wo = wr := ⟨_, rfl⟩
      by_cases hlt : k < es.length
      · obtain ⟨b, rfl, hsp, e1, e2, hP⟩ := HC.out k hlt
        have hbl := HL.out b rfl (by omega)
        obtain ⟨gb, off, sp⟩ := b
        cases hsp
        have hbl' : gb < w.heap.size := hbl
        replace e1 : w.cell? ⟨gb, off + k * 2, none⟩ = some (.string es[k].1) := e1
        replace e2 : w.cell? ⟨gb, off + k * 2 + 1, none⟩ = some es[k].2.1 := e2
        obtain ⟨pa, pc, hpv, hplt, hpc⟩ := hP.shape
        rw [hpv] at e2
        have hst := elsOk_step es k hlt (namesOf (es.take k))
        rw [hok.out] at hst
        have hmem : es[k] ∈ es := List.getElem_mem hlt
        have hid1 := HI.out.id _ hmem
        have hmany := HI.out.many _ hmem
        have hpar := HI.out.par _ hmem
        have hsn := namesOf_snoc es k hlt
        have hhit := fun (j : Nat) (hj : j < k) => names_hit es j k hj (by omega) es[k].1.data.toList
        generalize hX : es[k].1 = xid at *
        generalize hPS : es[k].2.2 = ps at *
        have HSt := Lib.hid hst; have HSn := Lib.hid hsn; have HPar := Lib.hid hpar; have HHIT := Lib.hid hhit
        have HPC := Lib.hid hpc; have HPL := Lib.hid hplt; have HE1 := Lib.hid e1; have HE2 := Lib.hid e2
        have HNM : Hid (∀ W : World, Calls Tryz.prog 60 #[.string xid] W fun e w' => e = .returned (.bool (nameB xid.data.toList)) ∧ W = w') := Lib.hid fun W => rname_c xid W (by omega)
        clear hst hsn hpar hX hPS hmem hpv hP hok hhit hpc hplt e1 e2
        have HEo : Hid (∀ W : World, Below w.heap.size w W → W.cell? ⟨gb, off + k * 2, none⟩ = some (.string xid) ∧ W.cell? ⟨gb, off + k * 2 + 1, none⟩ = some (.slice pa ps.length pc)) := Lib.hid fun W hb => ⟨(World.cell?_of_block (hb.block gb hbl')).trans HE1.out, (World.cell?_of_block (hb.block gb hbl')).trans HE2.out⟩
        obtain ⟨e1, e2⟩ := HEo.out _ HB.out
        have c8 : wo.cell? ⟨w.heap.size, 8, none⟩ = some (.slice (some ⟨gb, off, none⟩) es.length dc) := HX.out.cell 8
        cases hn : nameB xid.data.toList with
        | false =>
          have HV0 : Hid (R = 3) := H3.out (by rw [HSt.out, hn]; rfl)
          rw [hn] at HNM
          clear hn
          go_wp2_with (go_at_call 60; refine (HNM.out _).mono ?_; rintro e w2 ⟨rfl, rfl⟩)
          go_ret
          exact ⟨ret_v (by rw [HV0.out]; rfl), HB.out⟩
        | true =>
        have HS1 : Hid (elsOk [] es = (!(namesOf (es.take k)).any (fun y => y == xid.data.toList) && !ps.any parBad && elsOk (namesOf (es.take (k + 1))) (es.drop (k + 1)))) := by
          show elsOk [] es = _
          rw [HSt.out, hn, HSn.out, Bool.true_and]
        rw [hn] at HNM
        clear hn HSt
        go_wp2_with (go_at_call 60; refine (HNM.out _).mono ?_; rintro e w2 ⟨rfl, rfl⟩)
        clear e1 e2 c8
        go_loopg [9] k (fun gg s9 wr => ∃ j : Nat, j ≤ k ∧ Hid (gg = k - j) ∧ s9 = .int .i64 j ∧ Hid ((namesOf (es.take j)).any (fun y => y == xid.data.toList) = false) ∧ Row wr w.heap.size 25 #[.int .i64 g, .int .i64 f, .bool true, .int .i64 dnn, .string h, .string p, .string q, .string i, .slice (some ⟨gb, off, none⟩) es.length dc, .string x] ∧ Below w.heap.size w wr)
        case atStart => exact ⟨0, by omega, rfl, rfl, (by show _ = _; simp [namesOf]), HX.out, HB.out⟩
        case round =>
          obtain ⟨j, hj, HG2, rfl, hno, hx2, hb2⟩ := hrel
          have HX2 := Lib.hid hx2; have HB2 := Lib.hid hb2
          clear hx2 hb2
          obtain ⟨wj, rfl⟩ : ∃ wj : World, wj = wr := ⟨_, rfl⟩
          obtain ⟨e1, e2⟩ := HEo.out _ HB2.out
          have c8 : wj.cell? ⟨w.heap.size, 8, none⟩ = some (.slice (some ⟨gb, off, none⟩) es.length dc) := HX2.out.cell 8
          by_cases hjk : j < k
          · have hjl : j < es.length := by omega
            obtain ⟨b2, hb2, hsp2, f1, f2, -⟩ := HC.out j hjl
            obtain rfl := Option.some.inj hb2
            have hsnj := namesOf_snoc es j hjl
            have hh := HHIT.out j hjk
            replace f1 : wj.cell? ⟨gb, off + j * 2, none⟩ = some (.string es[j].1) := (World.cell?_of_block (HB2.out.block gb hbl')).trans f1
            generalize hY : es[j].1 = yid at *
            have HSJ := Lib.hid hsnj; have HHJ := Lib.hid hh
            have hdj : decide ((j : Int) < (k : Int)) = true := decide_eq_true (by omega)
            clear f2 hsnj hh hY hb2 hsp2
            cases hq : (yid.toList == xid.toList) with
            | true =>
              have hq2 : yid.data.toList = xid.data.toList := by
                rw [ByteArray.toList_eq, ByteArray.toList_eq] at hq
                simpa using hq
              have HV0 : Hid (R = 3) := H3.out (by rw [HS1.out, HHJ.out hq2]; rfl)
              clear hq2 HS1
              go_wp2_with fail
              go_quiet (fail)
              all_goals
                go_wp2_with fail
                go_ret
                refine ⟨ret_v (by rw [HV0.out]; rfl), ?_⟩
                first | exact below_drewN HB2.out _ | exact HB2.out.drew
            | false =>
              have hno2 : Hid ((namesOf (es.take (j + 1))).any (fun y => y == xid.data.toList) = false) := by
                show _ = false
                rw [HSJ.out]
                refine any_snoc_false _ _ _ hno.out ?_
                rw [ByteArray.toList_eq, ByteArray.toList_eq] at hq
                exact hq
              clear hno
              go_wp2_with fail
              go_quiet (fail)
              all_goals
                go_wp2_with fail
                go_roundg (k - (j + 1))
                case measure => rw [HG2.out]; omega
                case rel => exact ⟨j + 1, by omega, rfl, by go_num, hno2, by first | exact HX2.out.drewN _ | exact HX2.out.drew, by first | exact below_drewN HB2.out _ | exact HB2.out.drew⟩
          · obtain rfl : j = k := by omega
            have hdj : decide ((j : Int) < (j : Int)) = false := decide_eq_false (by omega)
            have HS2 : Hid (elsOk [] es = (!ps.any parBad && elsOk (namesOf (es.take (j + 1))) (es.drop (j + 1)))) := by
              show elsOk [] es = _
              rw [HS1.out, hno.out]; rfl
            clear hno HS1 HG2 HX HB
            go_wp2_with fail
            clear e1 e2 c8
            go_loopg [10] ps.length (fun gg s10 wr => ∃ m : Nat, m ≤ ps.length ∧ Hid (gg = ps.length - m) ∧ s10 = .int .i64 m ∧ Hid ((ps.take m).any parBad = false) ∧ Row wr w.heap.size 25 #[.int .i64 g, .int .i64 f, .bool true, .int .i64 dnn, .string h, .string p, .string q, .string i, .slice (some ⟨gb, off, none⟩) es.length dc, .string x] ∧ Below w.heap.size w wr)
            case atStart => exact ⟨0, by omega, rfl, rfl, (by show _ = _; simp), HX2.out, HB2.out⟩
            case round =>
              obtain ⟨m, hm, HG3, rfl, hno, hx3, hb3⟩ := hrel
              have HX3 := Lib.hid hx3; have HB3 := Lib.hid hb3
              clear hx3 hb3
              obtain ⟨wm, rfl⟩ : ∃ wm : World, wm = wr := ⟨_, rfl⟩
              obtain ⟨e1, e2⟩ := HEo.out _ HB3.out
              have c8 : wm.cell? ⟨w.heap.size, 8, none⟩ = some (.slice (some ⟨gb, off, none⟩) es.length dc) := HX3.out.cell 8
              by_cases hml : m < ps.length
              · obtain ⟨b3, rfl, hsp3, f1, f2⟩ := HPC.out m hml
                have hbl3 := HPL.out b3 rfl (by omega)
                obtain ⟨gp, poff, sp⟩ := b3
                cases hsp3
                replace f1 : wm.cell? ⟨gp, poff + m * 2, none⟩ = some (.string ps[m].1) := (World.cell?_of_block (HB3.out.block gp hbl3)).trans f1
                replace f2 : wm.cell? ⟨gp, poff + m * 2 + 1, none⟩ = some (.string ps[m].2) := (World.cell?_of_block (HB3.out.block gp hbl3)).trans f2
                have hpm := HPar.out _ (List.getElem_mem hml)
                have hbadT := any_at_true parBad ps m hml
                have hbadF := any_take_snoc parBad ps m hml hno.out
                have hpb : parBad ps[m] = (!nameB ps[m].1.data.toList || !Lib.validD ps[m].2.data.toList) := rfl
                rw [hpb] at hbadT hbadF
                generalize hN : ps[m].1 = pn at *
                generalize hVl : ps[m].2 = pvv at *
                have HBT := Lib.hid hbadT; have HBF := Lib.hid hbadF
                have HN2 : Hid (∀ W : World, Calls Tryz.prog 60 #[.string pn] W fun e w' => e = .returned (.bool (nameB pn.data.toList)) ∧ W = w') := Lib.hid fun W => rname_c pn W (by omega)
                have HU2 : Hid (∀ W : World, Calls Tryz.prog 59 #[.string pvv] W fun e w' => e = .returned (.bool (Lib.validD pvv.data.toList)) ∧ W = w') := Lib.hid fun W => utf8_c pvv W (by omega)
                have hdm : decide (m < ps.length) = true := decide_eq_true hml
                clear hbadT hbadF hpb hN hVl hpm hno
                cases hnb : nameB pn.data.toList with
                | false =>
                  have HV0 : Hid (R = 3) := H3.out (by rw [HS2.out, HBT.out (by rw [hnb]; rfl)]; rfl)
                  rw [hnb] at HN2
                  clear hnb HS2
                  go_wp2_with (first | (go_at_call 60; refine (HN2.out _).mono ?_; rintro e w2 ⟨rfl, rfl⟩) | (go_at_call 59; refine (HU2.out _).mono ?_; rintro e w2 ⟨rfl, rfl⟩))
                  go_ret
                  exact ⟨ret_v (by rw [HV0.out]; rfl), HB3.out⟩
                | true =>
                  cases hvb2 : Lib.validD pvv.data.toList with
                  | false =>
                    have HV0 : Hid (R = 3) := H3.out (by rw [HS2.out, HBT.out (by rw [hvb2]; simp)]; rfl)
                    rw [hnb] at HN2
                    rw [hvb2] at HU2
                    clear hnb hvb2 HS2
                    go_wp2_with (first | (go_at_call 60; refine (HN2.out _).mono ?_; rintro e w2 ⟨rfl, rfl⟩) | (go_at_call 59; refine (HU2.out _).mono ?_; rintro e w2 ⟨rfl, rfl⟩))
                    go_ret
                    exact ⟨ret_v (by rw [HV0.out]; rfl), HB3.out⟩
                  | true =>
                    have hno2 : Hid ((ps.take (m + 1)).any parBad = false) := HBF.out (by rw [hnb, hvb2]; rfl)
                    rw [hnb] at HN2
                    rw [hvb2] at HU2
                    clear hnb hvb2
                    go_wp2_with (first | (go_at_call 60; refine (HN2.out _).mono ?_; rintro e w2 ⟨rfl, rfl⟩) | (go_at_call 59; refine (HU2.out _).mono ?_; rintro e w2 ⟨rfl, rfl⟩))
                    go_roundg (ps.length - (m + 1))
                    case measure => rw [HG3.out]; omega
                    case rel => exact ⟨m + 1, by omega, rfl, by go_num, hno2, HX3.out, HB3.out⟩
              · have hdm : decide (m < ps.length) = false := decide_eq_false hml
                have hok2 : Hid (elsOk (namesOf (es.take (j + 1))) (es.drop (j + 1)) = elsOk [] es) := by
                  show _ = elsOk [] es
                  have h := hno.out
                  rw [List.take_of_length_le (by omega)] at h
                  rw [HS2.out, h]; rfl
                clear hno
                go_wp2_with fail
                go_roundg (es.length - (j + 1))
                case measure => rw [HG.out]; omega
                case rel => exact ⟨j + 1, by omega, rfl, by go_num, hok2, HX3.out, HB3.out⟩
      · have hR1 : Hid (R = if (decide (64 < es.length) || es.any elBig) = true then 4 else 0) := H4.out (by rw [← hok.out, List.drop_eq_nil_of_le (by omega), elsOk])
        have hdk : decide ((k : Int) < (es.length : Int)) = false := decide_eq_false (by omega)
        have c8 : wo.cell? ⟨w.heap.size, 8, none⟩ = some (.slice da es.length dc) := HX.out.cell 8
        clear hok H3 H4
        by_cases h64 : 64 < es.length
        · have HV0 : Hid (R = 4) := by
            show R = 4
            rw [hR1.out, decide_eq_true h64]; rfl
          have hd64 : decide (64 < es.length) = true := decide_eq_true h64
          clear hR1
          go_wp2_with fail
          go_ret
          exact ⟨ret_v (by rw [HV0.out]; rfl), HB.out⟩
        · have hd64 : decide (64 < es.length) = false := decide_eq_false h64
          have hR2 : Hid (R = if es.any elBig = true then 4 else 0) := by
            show R = _
            rw [hR1.out, hd64, Bool.false_or]
          clear hR1
          go_wp2_with fail
          clear c8
          go_loopg [13] es.length (fun gg s13 wr => ∃ j : Nat, j ≤ es.length ∧ Hid (gg = es.length - j) ∧ s13 = .int .i64 j ∧ Hid ((es.take j).any elBig = false) ∧ Row wr w.heap.size 25 #[.int .i64 g, .int .i64 f, .bool true, .int .i64 dnn, .string h, .string p, .string q, .string i, .slice da es.length dc, .string x] ∧ Below w.heap.size w wr)
          case atStart => exact ⟨0, by omega, rfl, rfl, (by show _ = _; simp), HX.out, HB.out⟩
          case round =>
            obtain ⟨j, hj, HG2, rfl, hno, hx2, hb2⟩ := hrel
            have HX2 := Lib.hid hx2; have HB2 := Lib.hid hb2
            clear hx2 hb2
            obtain ⟨wj, rfl⟩ : ∃ wj : World, wj = wr := ⟨_, rfl⟩
            by_cases hjl : j < es.length
            · obtain ⟨b2, rfl, hsp2, f1, f2, hP⟩ := HC.out j hjl
              have hbl2 := HL.out b2 rfl (by omega)
              obtain ⟨gb, off, sp⟩ := b2
              cases hsp2
              obtain ⟨pa, pc, hpv, -⟩ := hP.shape
              rw [hpv] at f2
              replace f2 : wj.cell? ⟨gb, off + j * 2 + 1, none⟩ = some (.slice pa es[j].2.2.length pc) := (World.cell?_of_block (HB2.out.block gb hbl2)).trans f2
              have hbT := any_at_true elBig es j hjl
              have hbF := any_take_snoc elBig es j hjl hno.out
              have hbe : elBig es[j] = decide (64 < es[j].2.2.length) := rfl
              rw [hbe] at hbT hbF
              generalize hM : es[j].2.2.length = pm at *
              have HBT := Lib.hid hbT; have HBF := Lib.hid hbF
              have hdj : decide ((j : Int) < (es.length : Int)) = true := decide_eq_true (by omega)
              have c8 : wj.cell? ⟨w.heap.size, 8, none⟩ = some (.slice (some ⟨gb, off, none⟩) es.length dc) := HX2.out.cell 8
              clear hbT hbF hbe hM hP hpv hno f1
              by_cases hpm : 64 < pm
              · have HV0 : Hid (R = 4) := by
                  show R = 4
                  rw [hR2.out, HBT.out (decide_eq_true hpm)]; rfl
                have hdp : decide (64 < pm) = true := decide_eq_true hpm
                clear hR2
                go_wp2_with fail
                go_ret
                exact ⟨ret_v (by rw [HV0.out]; rfl), HB2.out⟩
              · have hno2 := HBF.out (decide_eq_false hpm)
                have HNO2 := Lib.hid hno2
                have hdp : decide (64 < pm) = false := decide_eq_false hpm
                clear hno2
                go_wp2_with fail
                go_roundg (es.length - (j + 1))
                case measure => rw [HG2.out]; omega
                case rel => exact ⟨j + 1, by omega, rfl, by go_num, HNO2, HX2.out, HB2.out⟩
            · have HV0 : Hid (R = 0) := by
                show R = 0
                have h := hno.out
                rw [List.take_of_length_le (by omega)] at h
                rw [hR2.out, h]; rfl
              have hdj : decide ((j : Int) < (es.length : Int)) = false := decide_eq_false (by omega)
              have c8 : wj.cell? ⟨w.heap.size, 8, none⟩ = some (.slice da es.length dc) := HX2.out.cell 8
              clear hno hR2
              go_wp2_with fail
              go_ret
              exact ⟨ret_v (by rw [HV0.out]; rfl), HB2.out⟩
end Go.Proofs.YtdkfgobbpadmgaaGreatDoor
