/- Package sysl: is an event right? -/
import Derived.Test.YtdkfgobbpadmgaaGreatDoorSyslElems
set_option linter.unusedVariables false
set_option linter.unusedSimpArgs false
namespace Go.Proofs.YtdkfgobbpadmgaaGreatDoor
open Go.RowKit
def argB (g f : Int) : Bool := decide (g < 0) || decide (7 < g) || decide (f < 0) || decide (23 < f)
def wordsB (h p q i : ByteArray) : Bool := mayB h.data.toList 255 && mayB p.data.toList 48 && mayB q.data.toList 128 && mayB i.data.toList 32
def rightN (arg mb wb eb vb lb bb : Bool) : Int := if arg || !mb then 1 else if !wb || !eb || !vb then 3 else if lb || bb then 4 else 0
noncomputable def rightE (g f : Int) (t : Bool) (a : Int) (h p q i x : ByteArray) (es : List BEl) : Int :=
  rightN (argB g f) (momB t a) (wordsB h p q i) (elsOk [] es) (Lib.validD x.data.toList) (decide (64 < es.length)) (es.any elBig)
theorem evSize : (Tryz.prog.info? 25).map (·.size) = some 10 := by kernel_rfl
set_option maxHeartbeats 4000000 in
set_option maxRecDepth 100000 in
theorem right_c (g f : Int) (t : Bool) (a : Int) (h p q i x : ByteArray) (dv : Value) (es : List BEl) (w : World) (hE : Elems w dv es) (hI : ElsIn es) (hG : Glb w) (a0 : -9223372036854775808 ≤ a) (a1 : a ≤ 9223372036854775807)
    (h1 : h.size ≤ 9223372036854775807) (h2 : p.size ≤ 9223372036854775807) (h3 : q.size ≤ 9223372036854775807) (h4 : i.size ≤ 9223372036854775807) (h5 : x.size ≤ 9223372036854775807) :
    Calls Tryz.prog 20 #[.agg #[.int .i64 g, .int .i64 f, .bool t, .int .i64 a, .string h, .string p, .string q, .string i, dv, .string x]] w fun e w' => e = .returned (.int .i64 (rightE g f t a h p q i x es)) ∧ Below w.heap.size w w' := by
  have hsh := hE.shape
  obtain ⟨da, dc, rfl, -⟩ := hsh
  have hlen := hI.len
  have HM : Hid (∀ W, Glb W → Calls Tryz.prog 46 #[.agg #[.int .i64 g, .int .i64 f, .bool t, .int .i64 a, .string h, .string p, .string q, .string i, .slice da es.length dc, .string x]] W fun e w' => e = .returned (.bool (momB t a)) ∧ Below W.heap.size W w') := Lib.hid fun W hW => moment_c g f t a h p q i x _ W hW.cal a0 a1
  have HW : Hid (∀ W : World, Calls Tryz.prog 47 #[.agg #[.int .i64 g, .int .i64 f, .bool t, .int .i64 a, .string h, .string p, .string q, .string i, .slice da es.length dc, .string x]] W fun e w' => e = .returned (.bool (wordsB h p q i)) ∧ Below W.heap.size W w') := Lib.hid fun W => words_c g f t a h p q i x _ W h1 h2 h3 h4
  have HE : Hid (∀ W : World, Below w.heap.size w W → Calls Tryz.prog 48 #[.slice da es.length dc] W fun e w' => e = .returned (.bool (elsOk [] es)) ∧ Below W.heap.size W w') := Lib.hid fun W hb => elems_c _ es W (hE.below hb) (hG.below hb).utf (hG.below hb).size hI
  have HV : Hid (∀ W : World, Glb W → Calls Tryz.prog 49 #[.string x] W fun e w' => e = .returned (.bool (Lib.validD x.data.toList)) ∧ Below W.heap.size W w') := Lib.hid fun W hW => valid_c x W (by omega) hW.utf
  have HC : Hid (∀ W : World, Below w.heap.size w W → Calls Tryz.prog 50 #[.slice da es.length dc, .func (.func 51) #[] #[]] W fun e w' => e = .returned (.bool (es.any elBig)) ∧ Below W.heap.size W w') := Lib.hid fun W hb => by
    refine hasEl _ es elBig W (hE.below hb) hI.len fun k hk w' hb2 => ?_
    obtain ⟨_, _, _, _, _, hp⟩ := (hE.shape).choose_spec.choose_spec.2.2 k hk
    obtain ⟨pa, pc, hpv, -⟩ := hp.shape
    have := elBig_c es[k].1 es[k].2.1 es[k].2.2 w' ⟨pa, pc, hpv⟩
    exact this
  have HR : Hid (rightE g f t a h p q i x es = rightN (argB g f) (momB t a) (wordsB h p q i) (elsOk [] es) (Lib.validD x.data.toList) (decide (64 < es.length)) (es.any elBig)) := rfl
  generalize momB t a = mb at HM HR
  generalize wordsB h p q i = wb at HW HR
  generalize elsOk [] es = eb at HE HR
  generalize Lib.validD x.data.toList = vb at HV HR
  generalize es.any elBig = bb at HC HR
  generalize rightE g f t a h p q i x es = R at HR ⊢
  have hr0 := Row.laid w 25 #[.int .i64 g, .int .i64 f, .bool t, .int .i64 a, .string h, .string p, .string q, .string i, .slice da es.length dc, .string x]
  have hb0 : Below w.heap.size w (w.alloc (Obj.cells #[.int .i64 g, .int .i64 f, .bool t, .int .i64 a, .string h, .string p, .string q, .string i, .slice da es.length dc, .string x] 25)) := (Below.refl _ _).alloc (Nat.le_refl _) _
  have HG := Lib.hid (hG.below hb0); have HB := Lib.hid hb0; have HX := Lib.hid hr0
  have HGW : Hid (∀ W : World, Below w.heap.size w W → Glb W) := Lib.hid fun W hb => hG.below hb
  clear hG hb0 hr0 hE hI h1 h2 h3 h4 h5
  have hcase : (g < 0) ∨ (0 ≤ g ∧ 7 < g) ∨ (0 ≤ g ∧ g ≤ 7 ∧ f < 0) ∨ (0 ≤ g ∧ g ≤ 7 ∧ 0 ≤ f ∧ 23 < f) ∨ (0 ≤ g ∧ g ≤ 7 ∧ 0 ≤ f ∧ f ≤ 23) := by omega
  rcases hcase with c0 | ⟨c0, c1⟩ | ⟨c0, c1, c2⟩ | ⟨c0, c1, c2, c3⟩ | ⟨c0, c1, c2, c3⟩
  · have ha : argB g f = true := by simp [argB, c0]
    have HV0 : Hid (R = 1) := by
      show R = 1
      rw [HR.out]
      rw [ha]; rfl
    clear HR
    go_enter Tryz.func20, Tryz.ntmps20
    go_wp2_with (first
      | (go_at_call 46; refine (HM.out _ HG.out).mono ?_; rintro e w1 ⟨rfl, b1⟩; replace HX := Lib.hid (HX.out.below b1 (Row.lt HX.out)); replace HB := Lib.hid (HB.out.trans (b1.mono HB.out.size)); clear b1)
      | (go_at_call 47; refine (HW.out _).mono ?_; rintro e w2 ⟨rfl, b1⟩; replace HX := Lib.hid (HX.out.below b1 (Row.lt HX.out)); replace HB := Lib.hid (HB.out.trans (b1.mono HB.out.size)); have c8 := HX.out.cell 8; replace c8 : w2.cell? ⟨w.heap.size, 8, none⟩ = some (.slice da es.length dc) := c8; clear b1)
      | (go_at_call 48; clear c8; refine (HE.out _ HB.out).mono ?_; rintro e w3 ⟨rfl, b1⟩; replace HX := Lib.hid (HX.out.below b1 (Row.lt HX.out)); replace HB := Lib.hid (HB.out.trans (b1.mono HB.out.size)); have c9 := HX.out.cell 9; replace c9 : w3.cell? ⟨w.heap.size, 9, none⟩ = some (.string x) := c9; clear b1)
      | (go_at_call 49; clear c9; refine (HV.out _ (HGW.out _ HB.out)).mono ?_; rintro e w4 ⟨rfl, b1⟩; replace HX := Lib.hid (HX.out.below b1 (Row.lt HX.out)); replace HB := Lib.hid (HB.out.trans (b1.mono HB.out.size)); have c8 := HX.out.cell 8; replace c8 : w4.cell? ⟨w.heap.size, 8, none⟩ = some (.slice da es.length dc) := c8; clear b1)
      | (go_at_call 50; clear c8; refine (HC.out _ HB.out).mono ?_; rintro e w5 ⟨rfl, b1⟩; replace HB := Lib.hid (HB.out.trans (b1.mono HB.out.size)); clear b1)
      | (refine wpList_load_row rfl 25 (.tmp 1) rfl w.heap.size rfl 25 #[.int .i64 g, .int .i64 f, .bool t, .int .i64 a, .string h, .string p, .string q, .string i, .slice da es.length dc, .string x] (0, 0) _ HX.out Tryz.underlying25 rfl evSize ?_))
    go_ret
    exact ⟨ret_v (by rw [HV0.out]; rfl), HB.out⟩
  · have ha : argB g f = true := by simp [argB, c1]
    have HV0 : Hid (R = 1) := by
      show R = 1
      rw [HR.out]
      rw [ha]; rfl
    clear HR
    go_enter Tryz.func20, Tryz.ntmps20
    go_wp2_with (first
      | (go_at_call 46; refine (HM.out _ HG.out).mono ?_; rintro e w1 ⟨rfl, b1⟩; replace HX := Lib.hid (HX.out.below b1 (Row.lt HX.out)); replace HB := Lib.hid (HB.out.trans (b1.mono HB.out.size)); clear b1)
      | (go_at_call 47; refine (HW.out _).mono ?_; rintro e w2 ⟨rfl, b1⟩; replace HX := Lib.hid (HX.out.below b1 (Row.lt HX.out)); replace HB := Lib.hid (HB.out.trans (b1.mono HB.out.size)); have c8 := HX.out.cell 8; replace c8 : w2.cell? ⟨w.heap.size, 8, none⟩ = some (.slice da es.length dc) := c8; clear b1)
      | (go_at_call 48; clear c8; refine (HE.out _ HB.out).mono ?_; rintro e w3 ⟨rfl, b1⟩; replace HX := Lib.hid (HX.out.below b1 (Row.lt HX.out)); replace HB := Lib.hid (HB.out.trans (b1.mono HB.out.size)); have c9 := HX.out.cell 9; replace c9 : w3.cell? ⟨w.heap.size, 9, none⟩ = some (.string x) := c9; clear b1)
      | (go_at_call 49; clear c9; refine (HV.out _ (HGW.out _ HB.out)).mono ?_; rintro e w4 ⟨rfl, b1⟩; replace HX := Lib.hid (HX.out.below b1 (Row.lt HX.out)); replace HB := Lib.hid (HB.out.trans (b1.mono HB.out.size)); have c8 := HX.out.cell 8; replace c8 : w4.cell? ⟨w.heap.size, 8, none⟩ = some (.slice da es.length dc) := c8; clear b1)
      | (go_at_call 50; clear c8; refine (HC.out _ HB.out).mono ?_; rintro e w5 ⟨rfl, b1⟩; replace HB := Lib.hid (HB.out.trans (b1.mono HB.out.size)); clear b1)
      | (refine wpList_load_row rfl 25 (.tmp 1) rfl w.heap.size rfl 25 #[.int .i64 g, .int .i64 f, .bool t, .int .i64 a, .string h, .string p, .string q, .string i, .slice da es.length dc, .string x] (0, 0) _ HX.out Tryz.underlying25 rfl evSize ?_))
    go_ret
    exact ⟨ret_v (by rw [HV0.out]; rfl), HB.out⟩
  · have ha : argB g f = true := by simp [argB, c2]
    have HV0 : Hid (R = 1) := by
      show R = 1
      rw [HR.out]
      rw [ha]; rfl
    clear HR
    go_enter Tryz.func20, Tryz.ntmps20
    go_wp2_with (first
      | (go_at_call 46; refine (HM.out _ HG.out).mono ?_; rintro e w1 ⟨rfl, b1⟩; replace HX := Lib.hid (HX.out.below b1 (Row.lt HX.out)); replace HB := Lib.hid (HB.out.trans (b1.mono HB.out.size)); clear b1)
      | (go_at_call 47; refine (HW.out _).mono ?_; rintro e w2 ⟨rfl, b1⟩; replace HX := Lib.hid (HX.out.below b1 (Row.lt HX.out)); replace HB := Lib.hid (HB.out.trans (b1.mono HB.out.size)); have c8 := HX.out.cell 8; replace c8 : w2.cell? ⟨w.heap.size, 8, none⟩ = some (.slice da es.length dc) := c8; clear b1)
      | (go_at_call 48; clear c8; refine (HE.out _ HB.out).mono ?_; rintro e w3 ⟨rfl, b1⟩; replace HX := Lib.hid (HX.out.below b1 (Row.lt HX.out)); replace HB := Lib.hid (HB.out.trans (b1.mono HB.out.size)); have c9 := HX.out.cell 9; replace c9 : w3.cell? ⟨w.heap.size, 9, none⟩ = some (.string x) := c9; clear b1)
      | (go_at_call 49; clear c9; refine (HV.out _ (HGW.out _ HB.out)).mono ?_; rintro e w4 ⟨rfl, b1⟩; replace HX := Lib.hid (HX.out.below b1 (Row.lt HX.out)); replace HB := Lib.hid (HB.out.trans (b1.mono HB.out.size)); have c8 := HX.out.cell 8; replace c8 : w4.cell? ⟨w.heap.size, 8, none⟩ = some (.slice da es.length dc) := c8; clear b1)
      | (go_at_call 50; clear c8; refine (HC.out _ HB.out).mono ?_; rintro e w5 ⟨rfl, b1⟩; replace HB := Lib.hid (HB.out.trans (b1.mono HB.out.size)); clear b1)
      | (refine wpList_load_row rfl 25 (.tmp 1) rfl w.heap.size rfl 25 #[.int .i64 g, .int .i64 f, .bool t, .int .i64 a, .string h, .string p, .string q, .string i, .slice da es.length dc, .string x] (0, 0) _ HX.out Tryz.underlying25 rfl evSize ?_))
    go_ret
    exact ⟨ret_v (by rw [HV0.out]; rfl), HB.out⟩
  · have ha : argB g f = true := by simp [argB, c3]
    have HV0 : Hid (R = 1) := by
      show R = 1
      rw [HR.out]
      rw [ha]; rfl
    clear HR
    go_enter Tryz.func20, Tryz.ntmps20
    go_wp2_with (first
      | (go_at_call 46; refine (HM.out _ HG.out).mono ?_; rintro e w1 ⟨rfl, b1⟩; replace HX := Lib.hid (HX.out.below b1 (Row.lt HX.out)); replace HB := Lib.hid (HB.out.trans (b1.mono HB.out.size)); clear b1)
      | (go_at_call 47; refine (HW.out _).mono ?_; rintro e w2 ⟨rfl, b1⟩; replace HX := Lib.hid (HX.out.below b1 (Row.lt HX.out)); replace HB := Lib.hid (HB.out.trans (b1.mono HB.out.size)); have c8 := HX.out.cell 8; replace c8 : w2.cell? ⟨w.heap.size, 8, none⟩ = some (.slice da es.length dc) := c8; clear b1)
      | (go_at_call 48; clear c8; refine (HE.out _ HB.out).mono ?_; rintro e w3 ⟨rfl, b1⟩; replace HX := Lib.hid (HX.out.below b1 (Row.lt HX.out)); replace HB := Lib.hid (HB.out.trans (b1.mono HB.out.size)); have c9 := HX.out.cell 9; replace c9 : w3.cell? ⟨w.heap.size, 9, none⟩ = some (.string x) := c9; clear b1)
      | (go_at_call 49; clear c9; refine (HV.out _ (HGW.out _ HB.out)).mono ?_; rintro e w4 ⟨rfl, b1⟩; replace HX := Lib.hid (HX.out.below b1 (Row.lt HX.out)); replace HB := Lib.hid (HB.out.trans (b1.mono HB.out.size)); have c8 := HX.out.cell 8; replace c8 : w4.cell? ⟨w.heap.size, 8, none⟩ = some (.slice da es.length dc) := c8; clear b1)
      | (go_at_call 50; clear c8; refine (HC.out _ HB.out).mono ?_; rintro e w5 ⟨rfl, b1⟩; replace HB := Lib.hid (HB.out.trans (b1.mono HB.out.size)); clear b1)
      | (refine wpList_load_row rfl 25 (.tmp 1) rfl w.heap.size rfl 25 #[.int .i64 g, .int .i64 f, .bool t, .int .i64 a, .string h, .string p, .string q, .string i, .slice da es.length dc, .string x] (0, 0) _ HX.out Tryz.underlying25 rfl evSize ?_))
    go_ret
    exact ⟨ret_v (by rw [HV0.out]; rfl), HB.out⟩
  have ha : argB g f = false := by simp [argB]; omega
  rw [ha] at HR
  clear ha
  cases mb with
  | false =>
    have HV0 : Hid (R = 1) := by
      show R = 1
      rw [HR.out]
      rfl
    clear HR
    go_enter Tryz.func20, Tryz.ntmps20
    go_wp2_with (first
      | (go_at_call 46; refine (HM.out _ HG.out).mono ?_; rintro e w1 ⟨rfl, b1⟩; replace HX := Lib.hid (HX.out.below b1 (Row.lt HX.out)); replace HB := Lib.hid (HB.out.trans (b1.mono HB.out.size)); clear b1)
      | (go_at_call 47; refine (HW.out _).mono ?_; rintro e w2 ⟨rfl, b1⟩; replace HX := Lib.hid (HX.out.below b1 (Row.lt HX.out)); replace HB := Lib.hid (HB.out.trans (b1.mono HB.out.size)); have c8 := HX.out.cell 8; replace c8 : w2.cell? ⟨w.heap.size, 8, none⟩ = some (.slice da es.length dc) := c8; clear b1)
      | (go_at_call 48; clear c8; refine (HE.out _ HB.out).mono ?_; rintro e w3 ⟨rfl, b1⟩; replace HX := Lib.hid (HX.out.below b1 (Row.lt HX.out)); replace HB := Lib.hid (HB.out.trans (b1.mono HB.out.size)); have c9 := HX.out.cell 9; replace c9 : w3.cell? ⟨w.heap.size, 9, none⟩ = some (.string x) := c9; clear b1)
      | (go_at_call 49; clear c9; refine (HV.out _ (HGW.out _ HB.out)).mono ?_; rintro e w4 ⟨rfl, b1⟩; replace HX := Lib.hid (HX.out.below b1 (Row.lt HX.out)); replace HB := Lib.hid (HB.out.trans (b1.mono HB.out.size)); have c8 := HX.out.cell 8; replace c8 : w4.cell? ⟨w.heap.size, 8, none⟩ = some (.slice da es.length dc) := c8; clear b1)
      | (go_at_call 50; clear c8; refine (HC.out _ HB.out).mono ?_; rintro e w5 ⟨rfl, b1⟩; replace HB := Lib.hid (HB.out.trans (b1.mono HB.out.size)); clear b1)
      | (refine wpList_load_row rfl 25 (.tmp 1) rfl w.heap.size rfl 25 #[.int .i64 g, .int .i64 f, .bool t, .int .i64 a, .string h, .string p, .string q, .string i, .slice da es.length dc, .string x] (0, 0) _ HX.out Tryz.underlying25 rfl evSize ?_))
    go_ret
    exact ⟨ret_v (by rw [HV0.out]; rfl), HB.out⟩
  | true =>
  cases wb with
  | false =>
    have HV0 : Hid (R = 3) := by
      show R = 3
      rw [HR.out]
      rfl
    clear HR
    go_enter Tryz.func20, Tryz.ntmps20
    go_wp2_with (first
      | (go_at_call 46; refine (HM.out _ HG.out).mono ?_; rintro e w1 ⟨rfl, b1⟩; replace HX := Lib.hid (HX.out.below b1 (Row.lt HX.out)); replace HB := Lib.hid (HB.out.trans (b1.mono HB.out.size)); clear b1)
      | (go_at_call 47; refine (HW.out _).mono ?_; rintro e w2 ⟨rfl, b1⟩; replace HX := Lib.hid (HX.out.below b1 (Row.lt HX.out)); replace HB := Lib.hid (HB.out.trans (b1.mono HB.out.size)); have c8 := HX.out.cell 8; replace c8 : w2.cell? ⟨w.heap.size, 8, none⟩ = some (.slice da es.length dc) := c8; clear b1)
      | (go_at_call 48; clear c8; refine (HE.out _ HB.out).mono ?_; rintro e w3 ⟨rfl, b1⟩; replace HX := Lib.hid (HX.out.below b1 (Row.lt HX.out)); replace HB := Lib.hid (HB.out.trans (b1.mono HB.out.size)); have c9 := HX.out.cell 9; replace c9 : w3.cell? ⟨w.heap.size, 9, none⟩ = some (.string x) := c9; clear b1)
      | (go_at_call 49; clear c9; refine (HV.out _ (HGW.out _ HB.out)).mono ?_; rintro e w4 ⟨rfl, b1⟩; replace HX := Lib.hid (HX.out.below b1 (Row.lt HX.out)); replace HB := Lib.hid (HB.out.trans (b1.mono HB.out.size)); have c8 := HX.out.cell 8; replace c8 : w4.cell? ⟨w.heap.size, 8, none⟩ = some (.slice da es.length dc) := c8; clear b1)
      | (go_at_call 50; clear c8; refine (HC.out _ HB.out).mono ?_; rintro e w5 ⟨rfl, b1⟩; replace HB := Lib.hid (HB.out.trans (b1.mono HB.out.size)); clear b1)
      | (refine wpList_load_row rfl 25 (.tmp 1) rfl w.heap.size rfl 25 #[.int .i64 g, .int .i64 f, .bool t, .int .i64 a, .string h, .string p, .string q, .string i, .slice da es.length dc, .string x] (0, 0) _ HX.out Tryz.underlying25 rfl evSize ?_))
    go_ret
    exact ⟨ret_v (by rw [HV0.out]; rfl), HB.out⟩
  | true =>
  cases eb with
  | false =>
    have HV0 : Hid (R = 3) := by
      show R = 3
      rw [HR.out]
      rfl
    clear HR
    go_enter Tryz.func20, Tryz.ntmps20
    go_wp2_with (first
      | (go_at_call 46; refine (HM.out _ HG.out).mono ?_; rintro e w1 ⟨rfl, b1⟩; replace HX := Lib.hid (HX.out.below b1 (Row.lt HX.out)); replace HB := Lib.hid (HB.out.trans (b1.mono HB.out.size)); clear b1)
      | (go_at_call 47; refine (HW.out _).mono ?_; rintro e w2 ⟨rfl, b1⟩; replace HX := Lib.hid (HX.out.below b1 (Row.lt HX.out)); replace HB := Lib.hid (HB.out.trans (b1.mono HB.out.size)); have c8 := HX.out.cell 8; replace c8 : w2.cell? ⟨w.heap.size, 8, none⟩ = some (.slice da es.length dc) := c8; clear b1)
      | (go_at_call 48; clear c8; refine (HE.out _ HB.out).mono ?_; rintro e w3 ⟨rfl, b1⟩; replace HX := Lib.hid (HX.out.below b1 (Row.lt HX.out)); replace HB := Lib.hid (HB.out.trans (b1.mono HB.out.size)); have c9 := HX.out.cell 9; replace c9 : w3.cell? ⟨w.heap.size, 9, none⟩ = some (.string x) := c9; clear b1)
      | (go_at_call 49; clear c9; refine (HV.out _ (HGW.out _ HB.out)).mono ?_; rintro e w4 ⟨rfl, b1⟩; replace HX := Lib.hid (HX.out.below b1 (Row.lt HX.out)); replace HB := Lib.hid (HB.out.trans (b1.mono HB.out.size)); have c8 := HX.out.cell 8; replace c8 : w4.cell? ⟨w.heap.size, 8, none⟩ = some (.slice da es.length dc) := c8; clear b1)
      | (go_at_call 50; clear c8; refine (HC.out _ HB.out).mono ?_; rintro e w5 ⟨rfl, b1⟩; replace HB := Lib.hid (HB.out.trans (b1.mono HB.out.size)); clear b1)
      | (refine wpList_load_row rfl 25 (.tmp 1) rfl w.heap.size rfl 25 #[.int .i64 g, .int .i64 f, .bool t, .int .i64 a, .string h, .string p, .string q, .string i, .slice da es.length dc, .string x] (0, 0) _ HX.out Tryz.underlying25 rfl evSize ?_))
    go_ret
    exact ⟨ret_v (by rw [HV0.out]; rfl), HB.out⟩
  | true =>
  cases vb with
  | false =>
    have HV0 : Hid (R = 3) := by
      show R = 3
      rw [HR.out]
      rfl
    clear HR
    go_enter Tryz.func20, Tryz.ntmps20
    go_wp2_with (first
      | (go_at_call 46; refine (HM.out _ HG.out).mono ?_; rintro e w1 ⟨rfl, b1⟩; replace HX := Lib.hid (HX.out.below b1 (Row.lt HX.out)); replace HB := Lib.hid (HB.out.trans (b1.mono HB.out.size)); clear b1)
      | (go_at_call 47; refine (HW.out _).mono ?_; rintro e w2 ⟨rfl, b1⟩; replace HX := Lib.hid (HX.out.below b1 (Row.lt HX.out)); replace HB := Lib.hid (HB.out.trans (b1.mono HB.out.size)); have c8 := HX.out.cell 8; replace c8 : w2.cell? ⟨w.heap.size, 8, none⟩ = some (.slice da es.length dc) := c8; clear b1)
      | (go_at_call 48; clear c8; refine (HE.out _ HB.out).mono ?_; rintro e w3 ⟨rfl, b1⟩; replace HX := Lib.hid (HX.out.below b1 (Row.lt HX.out)); replace HB := Lib.hid (HB.out.trans (b1.mono HB.out.size)); have c9 := HX.out.cell 9; replace c9 : w3.cell? ⟨w.heap.size, 9, none⟩ = some (.string x) := c9; clear b1)
      | (go_at_call 49; clear c9; refine (HV.out _ (HGW.out _ HB.out)).mono ?_; rintro e w4 ⟨rfl, b1⟩; replace HX := Lib.hid (HX.out.below b1 (Row.lt HX.out)); replace HB := Lib.hid (HB.out.trans (b1.mono HB.out.size)); have c8 := HX.out.cell 8; replace c8 : w4.cell? ⟨w.heap.size, 8, none⟩ = some (.slice da es.length dc) := c8; clear b1)
      | (go_at_call 50; clear c8; refine (HC.out _ HB.out).mono ?_; rintro e w5 ⟨rfl, b1⟩; replace HB := Lib.hid (HB.out.trans (b1.mono HB.out.size)); clear b1)
      | (refine wpList_load_row rfl 25 (.tmp 1) rfl w.heap.size rfl 25 #[.int .i64 g, .int .i64 f, .bool t, .int .i64 a, .string h, .string p, .string q, .string i, .slice da es.length dc, .string x] (0, 0) _ HX.out Tryz.underlying25 rfl evSize ?_))
    go_ret
    exact ⟨ret_v (by rw [HV0.out]; rfl), HB.out⟩
  | true =>
  by_cases hn : 64 < es.length
  · have hd : decide (64 < es.length) = true := decide_eq_true hn
    rw [hd] at HR
    have hn' : ((64 : Int) < (es.length : Int)) := by omega
    clear hd
    have HV0 : Hid (R = 4) := by
      show R = 4
      rw [HR.out]
      cases bb <;> rfl
    clear HR
    go_enter Tryz.func20, Tryz.ntmps20
    go_wp2_with (first
      | (go_at_call 46; refine (HM.out _ HG.out).mono ?_; rintro e w1 ⟨rfl, b1⟩; replace HX := Lib.hid (HX.out.below b1 (Row.lt HX.out)); replace HB := Lib.hid (HB.out.trans (b1.mono HB.out.size)); clear b1)
      | (go_at_call 47; refine (HW.out _).mono ?_; rintro e w2 ⟨rfl, b1⟩; replace HX := Lib.hid (HX.out.below b1 (Row.lt HX.out)); replace HB := Lib.hid (HB.out.trans (b1.mono HB.out.size)); have c8 := HX.out.cell 8; replace c8 : w2.cell? ⟨w.heap.size, 8, none⟩ = some (.slice da es.length dc) := c8; clear b1)
      | (go_at_call 48; clear c8; refine (HE.out _ HB.out).mono ?_; rintro e w3 ⟨rfl, b1⟩; replace HX := Lib.hid (HX.out.below b1 (Row.lt HX.out)); replace HB := Lib.hid (HB.out.trans (b1.mono HB.out.size)); have c9 := HX.out.cell 9; replace c9 : w3.cell? ⟨w.heap.size, 9, none⟩ = some (.string x) := c9; clear b1)
      | (go_at_call 49; clear c9; refine (HV.out _ (HGW.out _ HB.out)).mono ?_; rintro e w4 ⟨rfl, b1⟩; replace HX := Lib.hid (HX.out.below b1 (Row.lt HX.out)); replace HB := Lib.hid (HB.out.trans (b1.mono HB.out.size)); have c8 := HX.out.cell 8; replace c8 : w4.cell? ⟨w.heap.size, 8, none⟩ = some (.slice da es.length dc) := c8; clear b1)
      | (go_at_call 50; clear c8; refine (HC.out _ HB.out).mono ?_; rintro e w5 ⟨rfl, b1⟩; replace HB := Lib.hid (HB.out.trans (b1.mono HB.out.size)); clear b1)
      | (refine wpList_load_row rfl 25 (.tmp 1) rfl w.heap.size rfl 25 #[.int .i64 g, .int .i64 f, .bool t, .int .i64 a, .string h, .string p, .string q, .string i, .slice da es.length dc, .string x] (0, 0) _ HX.out Tryz.underlying25 rfl evSize ?_))
    go_ret
    exact ⟨ret_v (by rw [HV0.out]; rfl), HB.out⟩
  · have hd : decide (64 < es.length) = false := decide_eq_false hn
    rw [hd] at HR
    have hn' : ¬ ((64 : Int) < (es.length : Int)) := by omega
    have hn2 : decide ((64 : Int) < (es.length : Int)) = false := decide_eq_false hn'
    clear hd hn
    cases bb with
    | false =>
      have HV0 : Hid (R = 0) := by
        show R = 0
        rw [HR.out]
        rfl
      clear HR
      go_enter Tryz.func20, Tryz.ntmps20
      go_wp2_with (first
        | (go_at_call 46; refine (HM.out _ HG.out).mono ?_; rintro e w1 ⟨rfl, b1⟩; replace HX := Lib.hid (HX.out.below b1 (Row.lt HX.out)); replace HB := Lib.hid (HB.out.trans (b1.mono HB.out.size)); clear b1)
        | (go_at_call 47; refine (HW.out _).mono ?_; rintro e w2 ⟨rfl, b1⟩; replace HX := Lib.hid (HX.out.below b1 (Row.lt HX.out)); replace HB := Lib.hid (HB.out.trans (b1.mono HB.out.size)); have c8 := HX.out.cell 8; replace c8 : w2.cell? ⟨w.heap.size, 8, none⟩ = some (.slice da es.length dc) := c8; clear b1)
        | (go_at_call 48; clear c8; refine (HE.out _ HB.out).mono ?_; rintro e w3 ⟨rfl, b1⟩; replace HX := Lib.hid (HX.out.below b1 (Row.lt HX.out)); replace HB := Lib.hid (HB.out.trans (b1.mono HB.out.size)); have c9 := HX.out.cell 9; replace c9 : w3.cell? ⟨w.heap.size, 9, none⟩ = some (.string x) := c9; clear b1)
        | (go_at_call 49; clear c9; refine (HV.out _ (HGW.out _ HB.out)).mono ?_; rintro e w4 ⟨rfl, b1⟩; replace HX := Lib.hid (HX.out.below b1 (Row.lt HX.out)); replace HB := Lib.hid (HB.out.trans (b1.mono HB.out.size)); have c8 := HX.out.cell 8; replace c8 : w4.cell? ⟨w.heap.size, 8, none⟩ = some (.slice da es.length dc) := c8; clear b1)
        | (go_at_call 50; clear c8; refine (HC.out _ HB.out).mono ?_; rintro e w5 ⟨rfl, b1⟩; replace HB := Lib.hid (HB.out.trans (b1.mono HB.out.size)); clear b1)
        | (refine wpList_load_row rfl 25 (.tmp 1) rfl w.heap.size rfl 25 #[.int .i64 g, .int .i64 f, .bool t, .int .i64 a, .string h, .string p, .string q, .string i, .slice da es.length dc, .string x] (0, 0) _ HX.out Tryz.underlying25 rfl evSize ?_))
      go_ret
      exact ⟨ret_v (by rw [HV0.out]; rfl), HB.out⟩
    | true =>
      have HV0 : Hid (R = 4) := by
        show R = 4
        rw [HR.out]
        rfl
      clear HR
      go_enter Tryz.func20, Tryz.ntmps20
      go_wp2_with (first
        | (go_at_call 46; refine (HM.out _ HG.out).mono ?_; rintro e w1 ⟨rfl, b1⟩; replace HX := Lib.hid (HX.out.below b1 (Row.lt HX.out)); replace HB := Lib.hid (HB.out.trans (b1.mono HB.out.size)); clear b1)
        | (go_at_call 47; refine (HW.out _).mono ?_; rintro e w2 ⟨rfl, b1⟩; replace HX := Lib.hid (HX.out.below b1 (Row.lt HX.out)); replace HB := Lib.hid (HB.out.trans (b1.mono HB.out.size)); have c8 := HX.out.cell 8; replace c8 : w2.cell? ⟨w.heap.size, 8, none⟩ = some (.slice da es.length dc) := c8; clear b1)
        | (go_at_call 48; clear c8; refine (HE.out _ HB.out).mono ?_; rintro e w3 ⟨rfl, b1⟩; replace HX := Lib.hid (HX.out.below b1 (Row.lt HX.out)); replace HB := Lib.hid (HB.out.trans (b1.mono HB.out.size)); have c9 := HX.out.cell 9; replace c9 : w3.cell? ⟨w.heap.size, 9, none⟩ = some (.string x) := c9; clear b1)
        | (go_at_call 49; clear c9; refine (HV.out _ (HGW.out _ HB.out)).mono ?_; rintro e w4 ⟨rfl, b1⟩; replace HX := Lib.hid (HX.out.below b1 (Row.lt HX.out)); replace HB := Lib.hid (HB.out.trans (b1.mono HB.out.size)); have c8 := HX.out.cell 8; replace c8 : w4.cell? ⟨w.heap.size, 8, none⟩ = some (.slice da es.length dc) := c8; clear b1)
        | (go_at_call 50; clear c8; refine (HC.out _ HB.out).mono ?_; rintro e w5 ⟨rfl, b1⟩; replace HB := Lib.hid (HB.out.trans (b1.mono HB.out.size)); clear b1)
        | (refine wpList_load_row rfl 25 (.tmp 1) rfl w.heap.size rfl 25 #[.int .i64 g, .int .i64 f, .bool t, .int .i64 a, .string h, .string p, .string q, .string i, .slice da es.length dc, .string x] (0, 0) _ HX.out Tryz.underlying25 rfl evSize ?_))
      go_ret
      exact ⟨ret_v (by rw [HV0.out]; rfl), HB.out⟩
end Go.Proofs.YtdkfgobbpadmgaaGreatDoor
