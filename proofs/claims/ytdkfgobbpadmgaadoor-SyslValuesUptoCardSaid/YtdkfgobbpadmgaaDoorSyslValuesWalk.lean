/- The law SyslValues, walked: it returns true for all texts of a bulk of at most 1048576. -/
import Derived.Test.YtdkfgobbpadmgaaDoorSyslValMath
import Derived.Test.YtdkfgobbpadmgaaDoorUtf05
set_option linter.unusedVariables false
set_option linter.unusedSimpArgs false
namespace Go.Proofs.YtdkfgobbpadmgaaDoor
open Go.RowKit
theorem conv_one (W : World) (g : Nat) (hg : g = W.heap.size) : (convert 40 9 (.slice (some ⟨g, 0, none⟩) 1 1)).run Tryd.prog (W.alloc (Obj.cells #[.int .u8 34] 5)) = .ok (.string ⟨#[34]⟩) (W.alloc (Obj.cells #[.int .u8 34] 5)) := by
  subst hg
  refine run_convert_bytes_back _ 40 9 5 ⟨W.heap.size, 0, none⟩ 1 [34] Tryd.underlying40 Tryd.underlying5 Tryd.underlying9 fun j hj => ?_
  have hr := Row.laid W 5 #[.int .u8 34]
  match j, hj with
  | 0, _ => exact hr.cell 0
theorem sameS_self0 (a : ByteArray) : sameS a a = true := by simp [sameS]
theorem valT_bytes (xa : ByteArray) (l : List UInt8) (h : xa = ⟨(escN l).toArray⟩) : (((((⟨#[60, 48, 62, 49, 32, 45, 32, 45, 32, 45, 32, 45, 32, 45, 32, 91, 105, 32, 110, 61]⟩ : ByteArray) ++ ⟨#[34]⟩) ++ xa) ++ ⟨#[34]⟩) ++ ⟨#[93]⟩) = ⟨(valT (escN l)).toArray⟩ := by
  subst h
  apply ByteArray.ext
  apply Array.toList_inj.1
  simp [valT, ByteArray.data_append]
theorem val_get (a : ByteArray) (v : Value) : getB [belOf ([105], [([110], a.data.toList)]) v] ⟨#[105]⟩ ⟨#[110]⟩ = (a, true) := by
  have h1 : isE ⟨#[105]⟩ (belOf ([105], [([110], a.data.toList)]) v) = true := sameS_self0 _
  have h2 : isP ⟨#[110]⟩ ((⟨[110].toArray⟩ : ByteArray), (⟨a.data.toList.toArray⟩ : ByteArray)) = true := sameS_self0 _
  have e : (belOf ([105], [([110], a.data.toList)]) v).2.2 = [((⟨[110].toArray⟩ : ByteArray), (⟨a.data.toList.toArray⟩ : ByteArray))] := rfl
  rw [getB, List.find?_cons, h1]
  simp only
  rw [e, List.find?_cons, h2]
theorem ElsIn_val (a : ByteArray) (v : Value) (ha : a.size ≤ 1048576) : ElsIn [belOf ([105], [([110], a.data.toList)]) v] := by
  have e : (belOf ([105], [([110], a.data.toList)]) v).2.2 = [((⟨[110].toArray⟩ : ByteArray), (⟨a.data.toList.toArray⟩ : ByteArray))] := rfl
  refine ⟨by simp, fun x hx => ?_, fun x hx => ?_, fun x hx q hq => ?_⟩
  all_goals
    obtain rfl := List.mem_singleton.1 hx
  · show ([105] : List UInt8).length ≤ _
    decide
  · rw [e]; simp
  · rw [e] at hq
    obtain rfl := List.mem_singleton.1 hq
    refine ⟨by show ([110] : List UInt8).length ≤ _; decide, ?_⟩
    show a.data.toList.length ≤ _
    have : a.data.toList.length = a.size := rfl
    omega
set_option maxHeartbeats 4000000 in
set_option maxRecDepth 100000 in
theorem values_law (a b : ByteArray) (w : World) (hG : Glb w) (ha : a.size ≤ 1048576) (hb : b.size ≤ 1048576) :
    Calls Tryd.prog 5 #[.string a, .string b] w fun e w' => e = .returned (.bool true) ∧ Below w.heap.size w w' := by
  have HS := Lib.hid (shown_c w hG)
  obtain ⟨xa, hxa⟩ : ∃ xa : ByteArray, xa = ⟨(escN a.data.toList).toArray⟩ := ⟨_, rfl⟩
  obtain ⟨xb, hxb⟩ : ∃ xb : ByteArray, xb = ⟨(escN b.data.toList).toArray⟩ := ⟨_, rfl⟩
  have HVA : Hid (∀ W : World, Calls Tryd.prog 9 #[.string a] W fun e w' => e = .returned (.string xa) ∧ Below W.heap.size W w') := Lib.hid fun W => by rw [hxa]; exact value_c a W (by omega)
  have HVB : Hid (∀ W : World, Calls Tryd.prog 9 #[.string b] W fun e w' => e = .returned (.string xb) ∧ Below W.heap.size W w') := Lib.hid fun W => by rw [hxb]; exact value_c b W (by omega)
  have HXA := Lib.hid hxa; have HXB := Lib.hid hxb; have HGL := Lib.hid hG
  have hsa : xa.size = a.size + marks a.data.toList := by
    rw [hxa]
    exact escN_marks a.data.toList
  have hml := marks_le a.data.toList
  have hal : a.data.toList.length = a.size := rfl
  have hm2 : marks a.data.toList ≤ a.size := by rw [← hal]; exact hml
  have heq : (xa.toList == xb.toList) = (a.toList == b.toList) := by
    rw [ByteArray.toList_eq, ByteArray.toList_eq, ByteArray.toList_eq, ByteArray.toList_eq, hxa, hxb, Bool.eq_iff_iff, beq_iff_eq, beq_iff_eq]
    exact ⟨fun h => escN_inj h, fun h => by rw [h]⟩
  have HSA := Lib.hid hsa; have HAL := Lib.hid hal; have HEQ := Lib.hid heq
  clear hxa hxb hG hsa hml hal heq
  have tk1 : True := trivial
  go_enter Tryd.func5, Tryd.ntmps5
  go_wp2_with (go_at_call 6; refine HS.out.mono ?_; rintro e w1 ⟨rfl, b1⟩; have HB1 := Lib.hid b1; clear b1)
  go_loopg [6, 7] a.size (fun g n i wr => ∃ k : Nat, k ≤ a.size ∧ g = a.size - k ∧ i = .int .i64 k ∧ n = .int .i64 (marks (a.data.toList.take k)) ∧ w1 = wr)
  case atStart => exact ⟨0, by omega, rfl, rfl, rfl, rfl⟩
  case round =>
    obtain ⟨k, hk, hg, rfl, rfl, rfl⟩ := hrel
    have HGK := Lib.hid hg; clear hg
    by_cases hlt : k < a.size
    · have hkl : k < a.data.toList.length := by rw [HAL.out]; exact hlt
      have hget : a.data.toList[k] = a[k] := rfl
      have hsn := marks_snoc a.data.toList k hkl
      rw [hget] at hsn
      have hmb := marks_le (a.data.toList.take k)
      have hlk : (a.data.toList.take k).length ≤ k := List.length_take_le _ _
      have hmb2 : marks (a.data.toList.take k) ≤ 1048576 := by omega
      obtain ⟨m, hm⟩ : ∃ m, m = marks (a.data.toList.take k) := ⟨_, rfl⟩
      rw [← hm] at hsn hmb2 ⊢
      have HSN := Lib.hid hsn
      clear hget hmb hlk hsn hm
      have e34 := byte_eq a[k] 34 (by decide)
      have e92 := byte_eq a[k] 92 (by decide)
      have e93 := byte_eq a[k] 93 (by decide)
      have hq : ((a[k].toNat : Int) == ((34 : Nat) : Int)) = true ∨ (((a[k].toNat : Int) == ((34 : Nat) : Int)) = false ∧ ((a[k].toNat : Int) == ((92 : Nat) : Int)) = true) ∨ (((a[k].toNat : Int) == ((34 : Nat) : Int)) = false ∧ ((a[k].toNat : Int) == ((92 : Nat) : Int)) = false ∧ ((a[k].toNat : Int) == ((93 : Nat) : Int)) = true) ∨ (((a[k].toNat : Int) == ((34 : Nat) : Int)) = false ∧ ((a[k].toNat : Int) == ((92 : Nat) : Int)) = false ∧ ((a[k].toNat : Int) == ((93 : Nat) : Int)) = false) := by
        cases ((a[k].toNat : Int) == ((34 : Nat) : Int)) <;> cases ((a[k].toNat : Int) == ((92 : Nat) : Int)) <;> cases ((a[k].toNat : Int) == ((93 : Nat) : Int)) <;> simp
      have hmk : isMk a[k] = (((a[k].toNat : Int) == ((34 : Nat) : Int)) || ((a[k].toNat : Int) == ((92 : Nat) : Int)) || ((a[k].toNat : Int) == ((93 : Nat) : Int))) := by
        rw [e34, e92, e93]; rfl
      have HMK := Lib.hid hmk
      clear e34 e92 e93 hmk
      rcases hq with q1 | ⟨q1, q2⟩ | ⟨q1, q2, q3⟩ | ⟨q1, q2, q3⟩
      rotate_right
      · have hE2 : Hid (marks (a.data.toList.take (k + 1)) = m) := by
          show _ = _
          rw [HSN.out, HMK.out, q1, q2, q3]; rfl
        clear HSN HMK
        replace q1 : ((a[k].toNat : Int) == 34) = false := q1
        replace q2 : ((a[k].toNat : Int) == 92) = false := q2
        replace q3 : ((a[k].toNat : Int) == 93) = false := q3
        go_wp2_with fail
        go_roundg (a.size - (k + 1))
        case measure => rw [HGK.out]; omega
        case rel => exact ⟨k + 1, by omega, rfl, by go_num, by rw [hE2.out], rfl⟩
      all_goals
        have hE2 : Hid (marks (a.data.toList.take (k + 1)) = m + 1) := by
          show _ = _
          rw [HSN.out, HMK.out, if_pos (by first | (rw [q1, q2, q3]; rfl) | (rw [q1, q2]; rfl) | (rw [q1]; rfl))]
        clear HSN HMK
        try replace q1 : ((a[k].toNat : Int) == 34) = true := q1
        try replace q1 : ((a[k].toNat : Int) == 34) = false := q1
        try replace q2 : ((a[k].toNat : Int) == 92) = true := q2
        try replace q2 : ((a[k].toNat : Int) == 92) = false := q2
        try replace q3 : ((a[k].toNat : Int) == 93) = true := q3
        go_wp2_with fail
        go_roundg (a.size - (k + 1))
        case measure => rw [HGK.out]; omega
        case rel => exact ⟨k + 1, by omega, rfl, by go_num, by rw [hE2.out]; go_num, rfl⟩
    · obtain rfl : k = a.size := by omega
      have hall : a.data.toList.take a.size = a.data.toList := List.take_of_length_le (by rw [HAL.out]; omega)
      rw [hall]
      obtain ⟨m, hm⟩ : ∃ m, m = marks a.data.toList := ⟨_, rfl⟩
      rw [← hm] at HSA hm2 ⊢
      have hsz : (xa.size : Int) = (a.size : Int) + (m : Int) := by rw [HSA.out]; omega
      have hn1 : ((xa.size : Int) == (a.size : Int) + (m : Int)) = true := by rw [hsz]; simp
      have hn2 : ((xa.size : Int) != (a.size : Int) + (m : Int)) = false := by rw [hsz]; simp
      clear hall hsz hlt hm
      have hxs : xa.size ≤ 2097152 := by rw [HSA.out]; omega
      have hx1 : ¬ 9223372036854775807 < 21 + xa.size := by omega
      have hx2 : ¬ 9223372036854775807 < 21 + xa.size + 1 := by omega
      have hx3 : ¬ 9223372036854775807 < 21 + xa.size + 1 + 1 := by omega
      have hpl : (valT (escN a.data.toList)).length ≤ 4194304 := by
        have h1 := escN_marks a.data.toList
        have h2 := marks_le a.data.toList
        have h3 := HAL.out
        simp [valT]
        omega
      have hpc := fun W hW => parse_c (fun _ => none) (valT (escN a.data.toList)) W hpl hW (.inl rfl)
      have hpp := val_parse (fun _ => none) a.data.toList
      have HTB := Lib.hid (valT_bytes xa a.data.toList HXA.out)
      have HU : Hid (∀ W : World, Calls Tryd.prog 11 #[.string a] W fun e w' => e = .returned (.bool (Lib.validD a.data.toList)) ∧ W = w') := Lib.hid fun W => utf8_c a W (by omega)
      have hneg : ∀ P : Bool, P = (a.toList == b.toList) → True := fun _ _ => trivial
      cases hvd : Lib.validD a.data.toList with
      | true =>
        rw [hvd] at HU
        rw [if_pos ((val_right _).2 hvd)] at hpp
        have HP : Hid (∀ W : World, Glb W → Calls Tryd.prog 10 #[.string (((((⟨#[60, 48, 62, 49, 32, 45, 32, 45, 32, 45, 32, 45, 32, 45, 32, 91, 105, 32, 110, 61]⟩ : ByteArray) ++ ⟨#[34]⟩) ++ xa) ++ ⟨#[34]⟩) ++ ⟨#[93]⟩)] W fun e w' => ∃ da dc v, e = .returned (.tuple #[.agg #[.int .i64 0, .int .i64 0, .bool false, .int .i64 0, .string ⟨#[]⟩, .string ⟨#[]⟩, .string ⟨#[]⟩, .string ⟨#[]⟩, .slice da 1 dc, .string ⟨#[]⟩], .int .i64 0]) ∧ Elems w' (.slice da 1 dc) [belOf ([105], [([110], a.data.toList)]) v] ∧ Below W.heap.size W w') := Lib.hid fun W hW => by
          rw [HTB.out]
          refine (hpc W hW).mono fun e w' hh => ?_
          unfold POST at hh
          rw [hpp] at hh
          obtain ⟨hb, dv, es, he, ho, hm⟩ := hh
          have hlen : es.length = 1 := by
            have := congrArg List.length hm
            simpa [valE] using this
          obtain ⟨y, rfl⟩ := List.length_eq_one_iff.1 hlen
          simp only [valE, List.map_cons, List.map_nil, List.cons.injEq, Prod.mk.injEq, and_true] at hm
          obtain ⟨hm1, hm2⟩ := hm
          have hel := ho.elems
          obtain ⟨da, dn, dc, rfl⟩ := owns_slice ho.row
          obtain ⟨a', c', hv', _⟩ := own_shape ho.row
          cases hv'
          refine ⟨da, dc, y.2.1, he, ?_, hb⟩
          have hy : [belOf ([105], [([110], a.data.toList)]) y.2.1] = [y].map VEl.bel := by
            simp [VEl.bel, hm1, hm2]
          rw [hy]
          exact hel
        clear hpc hpp hvd hneg
        cases hab : (a.toList == b.toList)
        all_goals
          have hxy := HEQ.out.trans hab
          go_upto_region 16 with (first
            | (go_at_call 9; clear tk1; refine (HVA.out _).mono ?_; rintro e w2 ⟨rfl, b1⟩; have HB2 := Lib.hid (HB1.out.trans (b1.mono HB1.out.size)); clear b1)
            | (go_at_call 9; refine (HVB.out _).mono ?_; rintro e w3 ⟨rfl, b1⟩; have HB3 := Lib.hid ((HB2.out.trans (b1.mono HB2.out.size)).alloc (HB2.out.trans (b1.mono HB2.out.size)).size (Obj.cells #[.int .u8 34] 5)); have hsz4 : (w3.alloc (Obj.cells #[.int .u8 34] 5)).heap.size = w3.heap.size + 1 := (by simp); have HB4 := Lib.hid (HB3.out.alloc HB3.out.size (Obj.cells #[.int .u8 34] 5)); have cv1 := conv_one w3 w3.heap.size rfl; have cv2 := conv_one (w3.alloc (Obj.cells #[.int .u8 34] 5)) (w3.heap.size + 1) (by simp); clear b1 hsz4)
            | (go_at_call 10; clear cv1 cv2; refine (HP.out _ (HGL.out.below HB4.out)).mono ?_; rintro e w5 ⟨da, dc, v, rfl, hel, b1⟩; have HB5 := Lib.hid ((HB4.out.trans (b1.mono HB4.out.size)).alloc (HB4.out.trans (b1.mono HB4.out.size)).size (Obj.cells #[.int .i64 0, .int .i64 0, .bool false, .int .i64 0, .string ⟨#[]⟩, .string ⟨#[]⟩, .string ⟨#[]⟩, .string ⟨#[]⟩, .slice da 1 dc, .string ⟨#[]⟩] 24)); have HEL := Lib.hid hel; clear b1 hel)
            | (go_at_call 11; refine (HU.out _).mono ?_; rintro e w6 ⟨rfl, rfl⟩))
          obtain ⟨w6, hw6⟩ : ∃ w6, w6 = w5.alloc (Obj.cells #[.int .i64 0, .int .i64 0, .bool false, .int .i64 0, .string ⟨#[]⟩, .string ⟨#[]⟩, .string ⟨#[]⟩, .string ⟨#[]⟩, .slice da 1 dc, .string ⟨#[]⟩] 24) := ⟨_, rfl⟩
          rw [← hw6] at HB5 ⊢
          have hr6 : Row w6 w5.heap.size 24 #[.int .i64 0, .int .i64 0, .bool false, .int .i64 0, .string ⟨#[]⟩, .string ⟨#[]⟩, .string ⟨#[]⟩, .string ⟨#[]⟩, .slice da 1 dc, .string ⟨#[]⟩] := by rw [hw6]; exact Row.laid _ _ _
          have hel6 : Elems w6 (.slice da 1 dc) [belOf ([105], [([110], a.data.toList)]) v] := by rw [hw6]; exact HEL.out.below ((Below.refl _ _).alloc (Nat.le_refl _) _)
          have hgt := get_c 0 0 false 0 ⟨#[]⟩ ⟨#[]⟩ ⟨#[]⟩ ⟨#[]⟩ ⟨#[]⟩ (.slice da 1 dc) ⟨#[105]⟩ ⟨#[110]⟩ _ w6 hel6 (ElsIn_val a v ha).len (ElsIn_val a v ha).many
          rw [val_get] at hgt
          have HGT := Lib.hid hgt; have HR6 := Lib.hid hr6
          clear hgt hr6 hel6 hw6
          go_wp2_with (first
            | (refine wpList_load_row rfl 24 (.tmp 10) rfl w5.heap.size rfl 24 #[.int .i64 0, .int .i64 0, .bool false, .int .i64 0, .string ⟨#[]⟩, .string ⟨#[]⟩, .string ⟨#[]⟩, .string ⟨#[]⟩, .slice da 1 dc, .string ⟨#[]⟩] (0, 0) _ HR6.out Tryd.underlying24 rfl evSize ?_)
            | (go_at_call 8; refine HGT.out.mono ?_; rintro e w7 ⟨rfl, b1⟩; have HB7 := Lib.hid (HB5.out.trans (b1.mono HB5.out.size)); clear b1))
          go_ret
          exact ⟨rfl, HB7.out⟩
      | false =>
        rw [hvd] at HU
        rw [if_neg (fun h => by rw [(val_right _).1 h] at hvd; cases hvd)] at hpp
        have HP : Hid (∀ W : World, Glb W → Calls Tryd.prog 10 #[.string (((((⟨#[60, 48, 62, 49, 32, 45, 32, 45, 32, 45, 32, 45, 32, 45, 32, 91, 105, 32, 110, 61]⟩ : ByteArray) ++ ⟨#[34]⟩) ++ xa) ++ ⟨#[34]⟩) ++ ⟨#[93]⟩)] W fun e w' => e = .returned (.tuple #[.agg #[.int .i64 0, .int .i64 0, .bool false, .int .i64 0, .string ⟨#[]⟩, .string ⟨#[]⟩, .string ⟨#[]⟩, .string ⟨#[]⟩, .slice none 0 0, .string ⟨#[]⟩], .int .i64 3]) ∧ Below W.heap.size W w') := Lib.hid fun W hW => by
          rw [HTB.out]
          refine (hpc W hW).mono fun e w' hh => ?_
          unfold POST at hh
          rw [hpp] at hh
          exact ⟨hh.2, hh.1⟩
        clear hpc hpp hvd hneg
        cases hab : (a.toList == b.toList)
        all_goals
          have hxy := HEQ.out.trans hab
          go_wp2_with (first
            | (go_at_call 9; clear tk1; refine (HVA.out _).mono ?_; rintro e w2 ⟨rfl, b1⟩; have HB2 := Lib.hid (HB1.out.trans (b1.mono HB1.out.size)); clear b1)
            | (go_at_call 9; refine (HVB.out _).mono ?_; rintro e w3 ⟨rfl, b1⟩; have HB3 := Lib.hid ((HB2.out.trans (b1.mono HB2.out.size)).alloc (HB2.out.trans (b1.mono HB2.out.size)).size (Obj.cells #[.int .u8 34] 5)); have HB4 := Lib.hid (HB3.out.alloc HB3.out.size (Obj.cells #[.int .u8 34] 5)); have cv1 := conv_one w3 w3.heap.size rfl; have cv2 := conv_one (w3.alloc (Obj.cells #[.int .u8 34] 5)) (w3.heap.size + 1) (by simp); clear b1)
            | (go_at_call 10; clear cv1 cv2; refine (HP.out _ (HGL.out.below HB4.out)).mono ?_; rintro e w5 ⟨rfl, b1⟩; have HB5 := Lib.hid ((HB4.out.trans (b1.mono HB4.out.size)).alloc (HB4.out.trans (b1.mono HB4.out.size)).size (Obj.cells #[.int .i64 0, .int .i64 0, .bool false, .int .i64 0, .string ⟨#[]⟩, .string ⟨#[]⟩, .string ⟨#[]⟩, .string ⟨#[]⟩, .slice none 0 0, .string ⟨#[]⟩] 24)); clear b1)
            | (go_at_call 11; refine (HU.out _).mono ?_; rintro e w6 ⟨rfl, rfl⟩))
          go_ret
          exact ⟨rfl, HB5.out⟩
end Go.Proofs.YtdkfgobbpadmgaaDoor
