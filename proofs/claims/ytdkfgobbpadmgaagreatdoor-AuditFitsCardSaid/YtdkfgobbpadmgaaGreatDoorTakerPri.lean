/- Package sysl's taker: what is ahead of an event's text (pri), and a word. -/
import Derived.Test.YtdkfgobbpadmgaaGreatDoorTakerVal
import Derived.Test.YtdkfgobbpadmgaaGreatDoorCal
import Derived.Test.YtdkfgobbpadmgaaGreatDoorUtf8
import Derived.Lib.AtoiErrMem
set_option linter.unusedVariables false
set_option linter.unusedSimpArgs false
namespace Go.Proofs.YtdkfgobbpadmgaaGreatDoor
open Go.RowKit
/-- What the package-level variables hold that the library's walks read. -/
structure Glb (w : World) : Prop where
  size : 9 ≤ w.heap.size
  tab10 : Lib.TabIs Tryz.prog w "internal/strconv.uint64pow10" .u64 Lib.pow10Tab
  syn : ∃ tp p, w.var? Tryz.prog "strconv.ErrSyntax" = some #[.iface tp p]
  cal : Tab w
  utf : UTabs w
  rng : ∃ tp p, w.var? Tryz.prog "strconv.ErrRange" = some #[.iface tp p]
theorem gName10 : Tryz.prog.globalNamed "internal/strconv.uint64pow10" = some 5 := by kernel_rfl
theorem gNameSyn : Tryz.prog.globalNamed "strconv.ErrSyntax" = some 3 := by kernel_rfl
theorem gNameRng : Tryz.prog.globalNamed "strconv.ErrRange" = some 4 := by kernel_rfl
theorem var_same {w w' : World} {n : String} {g : Nat} {v : Option (Array Value)} (hg : Tryz.prog.globalNamed n = some g) (h : w'.heap[g]? = w.heap[g]?) (hv : w.var? Tryz.prog n = v) : w'.var? Tryz.prog n = v := by
  rw [← hv, World.var?, World.var?, hg]
  simp only [Option.bind_some]
  rw [h]
theorem UTabs.same {w w' : World} (h : UTabs w) (hh : ∀ k, k < 9 → w'.heap[k]? = w.heap[k]?) : UTabs w' :=
  ⟨fun c hc => (World.cell?_of_block (hh 0 (by decide))).trans (h.1 c hc), fun i hi => ⟨(World.cell?_of_block (hh 1 (by decide))).trans (h.2 i hi).1, (World.cell?_of_block (hh 1 (by decide))).trans (h.2 i hi).2⟩⟩
theorem Glb.same {w w' : World} (h : Glb w) (hs : w.heap.size ≤ w'.heap.size) (hh : ∀ k, k < 9 → w'.heap[k]? = w.heap[k]?) : Glb w' :=
  ⟨Nat.le_trans h.size hs, var_same gName10 (hh _ (by decide)) h.tab10, h.syn.imp fun _ hp => hp.imp fun _ hv => var_same gNameSyn (hh _ (by decide)) hv, fun i hi => (World.cell?_of_block (hh 2 (by decide))).trans (h.cal i hi), UTabs.same h.utf hh, h.rng.imp fun _ hp => hp.imp fun _ hv => var_same gNameRng (hh _ (by decide)) hv⟩
theorem Glb.turn {w w' : World} {p : Nat → Prop} (h : Glb w) (ht : Turn p w w') (hp : ∀ k, p k → 9 ≤ k) : Glb w' :=
  h.same ht.size fun k hk => ht.block k (by have := h.size; omega) fun hpk => by have := hp k hpk; omega
theorem Glb.turn1 {w w' : World} {B : Nat} (h : Glb w) (ht : Turn (· = B) w w') (hB : 9 ≤ B) : Glb w' := h.turn ht fun k hk => by omega
theorem Glb.below {w w' : World} (h : Glb w) (ht : Below w.heap.size w w') : Glb w' := h.turn (p := fun _ => False) (Turn.of_below ht) (by simp)
/-- The number that a text is, if it is the one of at most 191. -/
def priNum (s : List UInt8) : Option Nat :=
  match Lib.atoiAll s with
  | .ok v => if 0 ≤ v ∧ v ≤ 191 ∧ Lib.itoa v = s then some v.toNat else none
  | _ => none
def lt8 : List UInt8 := [60]
def gt8 : List UInt8 := [62, 49, 32]
def priS (l : List UInt8) : List UInt8 := pTo gtB (Lib.trimPrefix l lt8)
def priL (l : List UInt8) : List UInt8 := Lib.trimPrefix (pFrom gtB (Lib.trimPrefix l lt8)) gt8
def priK (l : List UInt8) : Bool := Lib.hasPrefix l lt8 && pAny gtB (Lib.trimPrefix l lt8) && Lib.hasPrefix (pFrom gtB (Lib.trimPrefix l lt8)) gt8
theorem trim_len (l m : List UInt8) : (Lib.trimPrefix l m).length ≤ l.length := by
  unfold Lib.trimPrefix
  split
  · simp
  · exact Nat.le_refl _
theorem drop_le (p : UInt8 → Bool) : ∀ l : List UInt8, (l.dropWhile p).length ≤ l.length
  | [] => Nat.le_refl _
  | c :: l => by
    rw [List.dropWhile_cons]
    split
    · exact Nat.le_trans (drop_le p l) (by simp)
    · exact Nat.le_refl _
theorem take_le (p : UInt8 → Bool) : ∀ l : List UInt8, (l.takeWhile p).length ≤ l.length
  | [] => Nat.le_refl _
  | c :: l => by
    rw [List.takeWhile_cons]
    split
    · simpa using take_le p l
    · simp
theorem pFrom_len (p : UInt8 → Bool) (l : List UInt8) : (pFrom p l).length ≤ l.length := by
  unfold pFrom
  split
  · exact drop_le _ _
  · exact Nat.le_refl _
theorem pTo_len (p : UInt8 → Bool) (l : List UInt8) : (pTo p l).length ≤ l.length := by
  unfold pTo
  split
  · exact take_le _ _
  · simp
theorem Tk.below {w w' : World} {B : Nat} {l : List UInt8} {ok : Bool} (h : Tk w B l ok) (hb : Below w.heap.size w w') : Tk w' B l ok := Row.below h hb (Row.lt h)
theorem below_grew (w : World) (n : Nat) (os : Array Obj) : Below w.heap.size w (Go.Sort.grow (w.drewN n) os) :=
  ⟨rfl, rfl, rfl, by simp [Go.Sort.grow, World.drewN], fun k hk => by
    show (w.heap ++ os)[k]? = w.heap[k]?
    rw [Array.getElem?_append_left hk]⟩
theorem itoa_t (n : Int) (h0 : 0 ≤ n) (h1 : n ≤ 191) (w : World) (hg : Glb w) : Calls Tryz.prog 34 #[.int .i64 n] w fun e w' => e = .returned (txt (Lib.itoa n)) ∧ Below w.heap.size w w' :=
  (Tryz.strconv_Itoa n (by omega) (by omega) w hg.tab10).mono fun e w' ⟨he, k, os, hw⟩ => ⟨he, by rw [hw]; exact below_grew _ _ _⟩
theorem atoi_t (l : List UInt8) (v : Int) (hl : l.length ≤ 4194304) (h : Lib.atoiAll l = .ok v) (w : World) : Calls Tryz.prog 33 #[txt l] w fun e w' => e = .returned (.tuple #[.int .i64 v, .nilIface]) ∧ Below w.heap.size w w' :=
  (Tryz.strconv_Atoi_ok ⟨l.toArray⟩ (by show l.length ≤ _; omega) v h w).mono fun e w' ⟨he, hw⟩ => ⟨he, by
    rcases hw with rfl | ⟨t, rfl⟩
    · exact Below.refl _ _
    · exact Lib.bytesWorld_below _ _ _⟩
def failN (l : List UInt8) : Int := match Lib.atoiAll l with | Lib.NumEnd.syntax => 0 | _ => Lib.atoiSat l
theorem failN_le (l : List UInt8) : -9223372036854775808 ≤ failN l ∧ failN l ≤ 9223372036854775807 := by
  unfold failN
  split
  · decide
  · unfold Lib.atoiSat
    split <;> decide
theorem atoi_f (l : List UInt8) (hl : l.length ≤ 4194304) (h : ∀ v, Lib.atoiAll l ≠ .ok v) (w : World) (hg : Glb w) : Calls Tryz.prog 33 #[txt l] w fun e w' => ∃ N, e = .returned (.tuple #[.int .i64 (failN l), .iface 126 (.pointer (some ⟨N, 0, none⟩))]) ∧ Below w.heap.size w w' := by
  have hs : (⟨l.toArray⟩ : ByteArray).size ≤ 281474976710656 := by show l.length ≤ _; omega
  match hA : Lib.atoiAll l with
  | .ok v => exact absurd hA (h v)
  | Lib.NumEnd.syntax =>
    obtain ⟨tp, p, hv⟩ := hg.syn
    exact (Tryz.strconv_Atoi_syntax_var ⟨l.toArray⟩ hs hA tp p w hv).mono fun e w' ⟨N, he, _, _, hb⟩ => ⟨N, by rw [he, failN, hA], hb⟩
  | .range =>
    obtain ⟨tp, p, hv⟩ := hg.rng
    exact (Tryz.strconv_Atoi_range_var ⟨l.toArray⟩ hs hA tp p w hv).mono fun e w' ⟨N, he, _, _, hb⟩ => ⟨N, by rw [he, failN, hA], hb⟩
theorem atoiAll_le {l : List UInt8} {v : Int} (h : Lib.atoiAll l = .ok v) : -9223372036854775808 ≤ v ∧ v ≤ 9223372036854775807 := by
  unfold Lib.atoiAll at h
  split at h
  · cases h
  · dsimp only at h
    split at h
    · cases h
    · cases h
    · split at h
      · cases h
      · split at h
        · cases h
        · injection h with h
          split at h <;> omega
set_option maxHeartbeats 2000000 in
set_option maxRecDepth 100000 in
theorem pri_t (B : Nat) (l : List UInt8) (ok : Bool) (w : World) (h : Tk w B l ok) (hl : l.length ≤ 4194304) (hB : 9 ≤ B) (hg : Glb w) :
    Calls Tryz.prog 12 #[.pointer (some ⟨B, 0, none⟩)] w fun e w' => ∃ a b : Int, e = .returned (.tuple #[.int .i64 a, .int .i64 b]) ∧ (∀ n : Nat, priNum (priS l) = some n → a = ((n % 8 : Nat) : Int) ∧ b = ((n / 8 : Nat) : Int)) ∧ Tk w' B (priL l) (ok && priK l && (priNum (priS l)).isSome) ∧ Turn (· = B) w w' := by
  have l1 : (Lib.trimPrefix l lt8).length ≤ 140737488355328 := Nat.le_trans (trim_len _ _) (by omega)
  have l2 : (priS l).length ≤ 4194304 := Nat.le_trans (pTo_len _ _) (Nat.le_trans (trim_len _ _) hl)
  have hf := failN_le (priS l)
  obtain ⟨sb, hsb⟩ : ∃ sb : ByteArray, sb = ⟨(priS l).toArray⟩ := ⟨_, rfl⟩
  have SB : Hid (Ending.returned (txt (priS l)) = Ending.returned (.string sb)) := Lib.hid (by rw [hsb]; rfl)
  have SD := Lib.hid hsb; clear hsb
  have H := Lib.hid h; have HGL := Lib.hid hg; have HT := Lib.hid (Turn.refl (· = B) w); clear h hg
  by_cases hA : ∃ v, Lib.atoiAll (priS l) = .ok v
  · obtain ⟨v, hA⟩ := hA
    replace hA := Lib.hid hA
    by_cases hv : 0 ≤ v ∧ v ≤ 191
    · obtain ⟨h0, h1⟩ := hv
      obtain ⟨ib, hib⟩ : ∃ ib : ByteArray, ib = ⟨(Lib.itoa v).toArray⟩ := ⟨_, rfl⟩
      have IB : Hid (Ending.returned (txt (Lib.itoa v)) = Ending.returned (.string ib)) := Lib.hid (by rw [hib]; rfl)
      have SA : Hid (∀ w : World, Calls Tryz.prog 33 #[.string sb] w fun e w' => e = .returned (.tuple #[.int .i64 v, .nilIface]) ∧ Below w.heap.size w w') := Lib.hid fun w => by rw [SD.out]; exact atoi_t (priS l) v l2 hA.out w
      have he : (ib = sb) ↔ Lib.itoa v = priS l := by
        rw [hib, SD.out]
        constructor
        · intro h; exact congrArg (fun s : ByteArray => s.data.toList) h
        · intro h; rw [h]
      clear hib
      by_cases hq : Lib.itoa v = priS l
      · have hbq : (ib.toList == sb.toList) = true := by rw [he.2 hq]; simp
        have hN : Hid (priNum (priS l) = some v.toNat) := by
          show priNum (priS l) = _
          rw [priNum, hA.out]
          show (if _ then _ else _) = _
          rw [if_pos ⟨h0, h1, hq⟩]
        clear he hq
        go_enter Tryz.func12, Tryz.ntmps12
        go_wp2_with (first
      | (go_at_call 16; refine (need_t _ _ _ _ _ H.out).mono ?_; rintro e w1 ⟨rfl, h1, t1⟩; replace H := Lib.hid h1; replace HT := Lib.hid (HT.out.trans t1); have c1 := h1.c1; have f1 := h1.f 1; clear h1 t1)
      | (go_at_call 31; clear c1 f1; refine (upto_gt _ _ _ _ H.out l1).mono ?_; rintro e w1 ⟨he, h1, t1⟩; replace he := he.trans SB.out; subst he; replace H := Lib.hid h1; replace HT := Lib.hid (HT.out.trans t1); clear h1 t1)
      | (go_at_call 34; refine (itoa_t _ h0 h1 _ (HGL.out.turn1 HT.out hB)).mono ?_; rintro e w1 ⟨he, b1⟩; replace he := he.trans IB.out; subst he; replace H := Lib.hid (Tk.below H.out b1); replace HT := Lib.hid (HT.out.trans (Turn.of_below b1)); have c1 := H.out.c1; have f1 := H.out.f 1; clear b1)
      | (go_at_call 33; clear c1 f1; refine (SA.out _).mono ?_; rintro e w1 ⟨rfl, b1⟩; replace H := Lib.hid (Tk.below H.out b1); replace HT := Lib.hid (HT.out.trans (Turn.of_below b1)); have c1 := H.out.c1; have f1 := H.out.f 1; clear b1))
        go_ret2
        refine ⟨_, _, rfl, fun n hn => ?_, ?_, HT.out⟩
        · rw [hN.out] at hn
          injection hn with hn
          subst hn
          constructor
          · omega
          · omega
        · rw [hN.out]
          simpa [priL, priK, lt8, gt8, Bool.and_assoc] using H.out
      · have hbq : (ib.toList == sb.toList) = false := by
          rw [beq_eq_false_iff_ne, ByteArray.toList_eq, ByteArray.toList_eq]
          intro h
          exact hq (he.1 (ByteArray.ext (Array.toList_inj.1 h)))
        have hN : Hid (priNum (priS l) = none) := by
          show priNum (priS l) = _
          rw [priNum, hA.out]
          show (if _ then _ else _) = _
          rw [if_neg (fun h => hq h.2.2)]
        clear he hq
        go_enter Tryz.func12, Tryz.ntmps12
        go_wp2_with (first
      | (go_at_call 16; refine (need_t _ _ _ _ _ H.out).mono ?_; rintro e w1 ⟨rfl, h1, t1⟩; replace H := Lib.hid h1; replace HT := Lib.hid (HT.out.trans t1); have c1 := h1.c1; have f1 := h1.f 1; clear h1 t1)
      | (go_at_call 31; clear c1 f1; refine (upto_gt _ _ _ _ H.out l1).mono ?_; rintro e w1 ⟨he, h1, t1⟩; replace he := he.trans SB.out; subst he; replace H := Lib.hid h1; replace HT := Lib.hid (HT.out.trans t1); clear h1 t1)
      | (go_at_call 34; refine (itoa_t _ h0 h1 _ (HGL.out.turn1 HT.out hB)).mono ?_; rintro e w1 ⟨he, b1⟩; replace he := he.trans IB.out; subst he; replace H := Lib.hid (Tk.below H.out b1); replace HT := Lib.hid (HT.out.trans (Turn.of_below b1)); have c1 := H.out.c1; have f1 := H.out.f 1; clear b1)
      | (go_at_call 33; clear c1 f1; refine (SA.out _).mono ?_; rintro e w1 ⟨rfl, b1⟩; replace H := Lib.hid (Tk.below H.out b1); replace HT := Lib.hid (HT.out.trans (Turn.of_below b1)); have c1 := H.out.c1; have f1 := H.out.f 1; clear b1))
        go_ret2
        refine ⟨_, _, rfl, fun n hn => ?_, ?_, HT.out.put (q := ⟨B, 1, none⟩) rfl _⟩
        · rw [hN.out] at hn; cases hn
        · rw [hN.out]
          have := H.out.put1 false
          simpa [priL, lt8, gt8] using this
    · have hN : Hid (priNum (priS l) = none) := by
        show priNum (priS l) = none
        rw [priNum, hA.out]
        show (if _ then _ else _) = none
        rw [if_neg (by omega)]
      have hr := atoiAll_le hA.out
      have SA : Hid (∀ w : World, Calls Tryz.prog 33 #[.string sb] w fun e w' => e = .returned (.tuple #[.int .i64 v, .nilIface]) ∧ Below w.heap.size w w') := Lib.hid fun w => by rw [SD.out]; exact atoi_t (priS l) v l2 hA.out w
      rcases Int.lt_or_le v 0 with hn | hn
      · have hw : v < 0 := hn
        go_enter Tryz.func12, Tryz.ntmps12
        go_wp2_with (first
      | (go_at_call 16; refine (need_t _ _ _ _ _ H.out).mono ?_; rintro e w1 ⟨rfl, h1, t1⟩; replace H := Lib.hid h1; replace HT := Lib.hid (HT.out.trans t1); have c1 := h1.c1; have f1 := h1.f 1; clear h1 t1)
      | (go_at_call 31; clear c1 f1; refine (upto_gt _ _ _ _ H.out l1).mono ?_; rintro e w1 ⟨he, h1, t1⟩; replace he := he.trans SB.out; subst he; replace H := Lib.hid h1; replace HT := Lib.hid (HT.out.trans t1); clear h1 t1)
      | (go_at_call 34; refine (itoa_t _ h0 h1 _ (HGL.out.turn1 HT.out hB)).mono ?_; rintro e w1 ⟨he, b1⟩; replace he := he.trans IB.out; subst he; replace H := Lib.hid (Tk.below H.out b1); replace HT := Lib.hid (HT.out.trans (Turn.of_below b1)); have c1 := H.out.c1; have f1 := H.out.f 1; clear b1)
      | (go_at_call 33; clear c1 f1; refine (SA.out _).mono ?_; rintro e w1 ⟨rfl, b1⟩; replace H := Lib.hid (Tk.below H.out b1); replace HT := Lib.hid (HT.out.trans (Turn.of_below b1)); have c1 := H.out.c1; have f1 := H.out.f 1; clear b1))
        go_ret2
        refine ⟨_, _, rfl, fun n hn => ?_, ?_, HT.out.put (q := ⟨B, 1, none⟩) rfl _⟩
        · rw [hN.out] at hn; cases hn
        · rw [hN.out]
          have := H.out.put1 false
          simpa [priL, lt8, gt8] using this
      · have hw : 191 < v := by omega
        go_enter Tryz.func12, Tryz.ntmps12
        go_wp2_with (first
      | (go_at_call 16; refine (need_t _ _ _ _ _ H.out).mono ?_; rintro e w1 ⟨rfl, h1, t1⟩; replace H := Lib.hid h1; replace HT := Lib.hid (HT.out.trans t1); have c1 := h1.c1; have f1 := h1.f 1; clear h1 t1)
      | (go_at_call 31; clear c1 f1; refine (upto_gt _ _ _ _ H.out l1).mono ?_; rintro e w1 ⟨he, h1, t1⟩; replace he := he.trans SB.out; subst he; replace H := Lib.hid h1; replace HT := Lib.hid (HT.out.trans t1); clear h1 t1)
      | (go_at_call 34; refine (itoa_t _ h0 h1 _ (HGL.out.turn1 HT.out hB)).mono ?_; rintro e w1 ⟨he, b1⟩; replace he := he.trans IB.out; subst he; replace H := Lib.hid (Tk.below H.out b1); replace HT := Lib.hid (HT.out.trans (Turn.of_below b1)); have c1 := H.out.c1; have f1 := H.out.f 1; clear b1)
      | (go_at_call 33; clear c1 f1; refine (SA.out _).mono ?_; rintro e w1 ⟨rfl, b1⟩; replace H := Lib.hid (Tk.below H.out b1); replace HT := Lib.hid (HT.out.trans (Turn.of_below b1)); have c1 := H.out.c1; have f1 := H.out.f 1; clear b1))
        go_ret2
        refine ⟨_, _, rfl, fun n hn => ?_, ?_, HT.out.put (q := ⟨B, 1, none⟩) rfl _⟩
        · rw [hN.out] at hn; cases hn
        · rw [hN.out]
          have := H.out.put1 false
          simpa [priL, lt8, gt8] using this
  · replace hA : Hid (∀ v, Lib.atoiAll (priS l) ≠ .ok v) := fun v h => hA ⟨v, h⟩
    have hN : Hid (priNum (priS l) = none) := by
      show priNum (priS l) = none
      unfold priNum
      split
      · rename_i v h; exact absurd h (hA.out v)
      · rfl
    go_enter Tryz.func12, Tryz.ntmps12
    have SA : Hid (∀ w : World, Glb w → Calls Tryz.prog 33 #[.string sb] w fun e w' => ∃ N, e = .returned (.tuple #[.int .i64 (failN (priS l)), .iface 126 (.pointer (some ⟨N, 0, none⟩))]) ∧ Below w.heap.size w w') := Lib.hid fun w hg => by rw [SD.out]; exact atoi_f (priS l) l2 hA.out w hg
    go_wp2_with (first
    | (go_at_call 16; refine (need_t _ _ _ _ _ H.out).mono ?_; rintro e w1 ⟨rfl, h1, t1⟩; replace H := Lib.hid h1; replace HT := Lib.hid (HT.out.trans t1); have c1 := h1.c1; have f1 := h1.f 1; clear h1 t1)
    | (go_at_call 31; clear c1 f1; refine (upto_gt _ _ _ _ H.out l1).mono ?_; rintro e w1 ⟨he, h1, t1⟩; replace he := he.trans SB.out; subst he; replace H := Lib.hid h1; replace HT := Lib.hid (HT.out.trans t1); clear h1 t1)
    | (go_at_call 34; refine (itoa_t _ h0 h1 _ (HGL.out.turn1 HT.out hB)).mono ?_; rintro e w1 ⟨he, b1⟩; replace he := he.trans IB.out; subst he; replace H := Lib.hid (Tk.below H.out b1); replace HT := Lib.hid (HT.out.trans (Turn.of_below b1)); have c1 := H.out.c1; have f1 := H.out.f 1; clear b1)
    | (go_at_call 33; clear c1 f1; refine (SA.out _ (HGL.out.turn1 HT.out hB)).mono ?_; rintro e w1 ⟨N, rfl, b1⟩; replace H := Lib.hid (Tk.below H.out b1); replace HT := Lib.hid (HT.out.trans (Turn.of_below b1)); have c1 := H.out.c1; have f1 := H.out.f 1; clear b1))
    go_ret2
    refine ⟨_, _, rfl, fun n hn => ?_, ?_, HT.out.put (q := ⟨B, 1, none⟩) rfl _⟩
    · rw [hN.out] at hn; cases hn
    · rw [hN.out]
      have := H.out.put1 false
      simpa [priL, lt8, gt8] using this
end Go.Proofs.YtdkfgobbpadmgaaGreatDoor
