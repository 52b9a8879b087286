/- Package tabularyref05: elem. -/
import Derived.Test.YtdkfgobbpadmgaaGreatDoorRef5Value
import Derived.Test.YtdkfgobbpadmgaaGreatDoorRef4Num
import Derived.Deep.RegionLaw
set_option linter.unusedVariables false
set_option linter.unusedSimpArgs false
namespace Go.Proofs.YtdkfgobbpadmgaaGreatDoor
open Go.RowKit
/-- what elem answers -/
def REL (l : List UInt8) (B : Nat) (w' : World) (q : Option (PEl × List UInt8)) (e : Ending) : Prop :=
  match q with
  | none => e = .returned (.tuple #[.agg #[Value.string ⟨#[]⟩, Value.slice none 0 0], .int .i64 (-1)])
  | some (x, r) => ∃ (v : Value) (t : Nat), t ≤ l.length ∧ r = l.drop t ∧ e = .returned (.tuple #[.agg #[txt x.1, v], .int .i64 t]) ∧ w'.ownsRow B 73 2 v x.2.length (parCells x.2)
theorem REL.no {l : List UInt8} {B : Nat} {w' : World} {q : Option (PEl × List UInt8)} {e : Ending} (h : q = none) (he : e = .returned (.tuple #[.agg #[Value.string ⟨#[]⟩, Value.slice none 0 0], .int .i64 (-1)])) : REL l B w' q e := by subst h; exact he
theorem REL.yes {l id : List UInt8} {ps : List Par} {B : Nat} {w' : World} {q : Option (PEl × List UInt8)} {e : Ending} {v : Value} {t : Nat} (h : q = some ((id, ps), l.drop t)) (ht : t ≤ l.length) (he : e = .returned (.tuple #[.agg #[txt id, v], .int .i64 t])) (hown : w'.ownsRow B 73 2 v ps.length (parCells ps)) : REL l B w' q e := by
  subst h
  exact ⟨v, t, ht, rfl, he, hown⟩
theorem from_drop_drop {p : UInt8 → Bool} (l : List UInt8) (k : Nat) : pFrom p (l.drop k) = l.drop (k + (pTo p (l.drop k)).length) := by rw [from_drop, List.drop_drop]
theorem piece_at (s : ByteArray) (l : List UInt8) (hl : l = s.data.toList) (i n : Nat) : s.extract i (i + n) = ⟨((l.drop i).take n).toArray⟩ := by
  subst hl
  apply ByteArray.ext
  apply Array.toList_inj.1
  rw [ByteArray.data_extract]
  simp only [Array.toList_extract, List.extract_eq_drop_take']
  rw [List.drop_take]
  congr 1
  omega
theorem hasEq_at (l : List UInt8) (k : Nat) (h : ∃ r, l.drop k = 61 :: r) : Lib.hasPrefix (l.drop k) eqMk = isAt l (k + 1) 34 := by
  obtain ⟨r, hr⟩ := h
  have : l.drop (k + 1) = r := by rw [← List.drop_drop, hr]; rfl
  rw [isAt, this, hr]
  simp [Lib.hasPrefix, eqMk, List.isPrefixOf]
theorem eq_head {l : List UInt8} (h : pAny eqB l = true) : ∃ r, pFrom eqB l = 61 :: r := by
  obtain ⟨c, r, hf, hc⟩ := from_head h
  have : c = 61 := by simpa [eqB] using hc
  exact ⟨r, by rw [hf, this]⟩
theorem grown_low {w wx w' : World} {B : Nat} {row : Option Nat} (hb : Below B w wx) (hg : wx.grownBy w' row) (hrow : ∀ k, row = some k → B ≤ k) (hB : B ≤ wx.heap.size := by omega) : Below B w w' :=
  ⟨hg.os.trans hb.os, hg.tape.trans hb.tape, hg.output.trans hb.output, Nat.le_trans hb.size hg.size, fun k hk => (hg.block k (Nat.lt_of_lt_of_le hk hB) (fun e => by have := hrow k e.symm; omega)).trans (hb.block k hk)⟩
set_option maxHeartbeats 4000000 in
set_option maxRecDepth 100000 in
theorem relem_c (s : ByteArray) (p : Nat) (w : World) (hs : s.size ≤ 4194304) (hp : p ≤ s.size) :
    Calls Tryz.prog 26 #[.string s, .int .i64 p] w fun e w' => Below w.heap.size w w' ∧ REL s.data.toList w.heap.size w' (relN (s.data.toList.drop p)) e := by
  obtain ⟨l, hl⟩ : ∃ l, l = s.data.toList := ⟨_, rfl⟩
  have hsz : l.length = s.size := by rw [hl]; rfl
  have HFA : Hid (∀ (k : Nat) (W : World), k ≤ s.size → Calls Tryz.prog 21 #[.string s, .int .i64 k, .int .u8 32, .int .u8 93] W fun e w' => e = .returned (.int .i64 (findI spbB l k)) ∧ W = w') := Lib.hid fun k W hk => by
    have h := find_c s k 32 93 W (by omega) (by omega)
    rw [twoB_spb, ← hl] at h
    exact h
  have HFB : Hid (∀ (k : Nat) (W : World), k ≤ s.size → Calls Tryz.prog 21 #[.string s, .int .i64 ((k : Int) + 1), .int .u8 61, .int .u8 61] W fun e w' => e = .returned (.int .i64 (findI eqB l (k + 1))) ∧ W = w') := Lib.hid fun k W hk => by
    have h := find_c s (k + 1) 61 61 W (by omega) (by omega)
    rw [twoB_eq, ← hl] at h
    exact h
  have HVC : Hid (∀ (k : Nat) (W : World), k + 2 ≤ s.size → Calls Tryz.prog 56 #[.string s, .int .i64 ((k : Int) + 2)] W fun e w' => RVAL l (rvalP (l.drop (k + 2))) e ∧ Below W.heap.size W w') := Lib.hid fun k W hk => by
    have h := rvalue_c s (k + 2) W hs hk
    rw [← hl] at h
    exact h
  rw [← hl]
  have HL := Lib.hid hl; have HSZ := Lib.hid hsz
  clear hl hsz
  obtain ⟨j0, hi, hz0, hz1, hz2⟩ := info_parts parInfo
  have HB0 : Hid (Below w.heap.size w (w.alloc (Obj.cells #[Value.string ⟨#[]⟩, Value.slice none 0 0] 58))) := Lib.hid ((Below.refl _ _).alloc (Nat.le_refl _) _)
  have HX0 : Hid (Row (w.alloc (Obj.cells #[Value.string ⟨#[]⟩, Value.slice none 0 0] 58)) w.heap.size 58 #[Value.string ⟨#[]⟩, Value.slice none 0 0]) := Lib.hid (Row.laid _ _ _)
  cases ha : pAny spbB (l.drop p) with
  | false =>
    have hR : Hid (relN (l.drop p) = none) := by
      show relN _ = none
      rw [relN, ha]; rfl
    have HF : Hid (∀ W : World, Calls Tryz.prog 21 #[.string s, .int .i64 p, .int .u8 32, .int .u8 93] W fun e w' => e = .returned (.int .i64 (-1)) ∧ W = w') := Lib.hid fun W => by
      have h := HFA.out p W hp
      rw [findI_no ha] at h
      exact h
    clear ha
    go_enter Tryz.func26, Tryz.ntmps26
    have x0 : (w.alloc (Obj.cells #[Value.string ⟨#[]⟩, Value.slice none 0 0] 58)).cell? ⟨w.heap.size, 0, none⟩ = some (.string ⟨#[]⟩) := HX0.out.cell 0
    have x1 : (w.alloc (Obj.cells #[Value.string ⟨#[]⟩, Value.slice none 0 0] 58)).cell? ⟨w.heap.size, 1, none⟩ = some (.slice none 0 0) := HX0.out.cell 1
    have fx0 := HX0.out.frozen 0
    have fx1 := HX0.out.frozen 1
    go_wp2_with (go_at_call 21; refine (HF.out _).mono ?_; rintro e w1 ⟨rfl, rfl⟩)
    refine bodyPost_ret (results_cell_row_tmp rfl _ _ w.heap.size _ #[Value.string ⟨#[]⟩, Value.slice none 0 0] (0, 0) _ rfl HX0.out Tryz.underlying58 rfl elemSize) rfl ⟨HB0.out, REL.no hR.out rfl⟩
  | true =>
    obtain ⟨q0, hq0⟩ : ∃ q0, q0 = p + (pTo spbB (l.drop p)).length := ⟨_, rfl⟩
    have hq1 : q0 < s.size := by
      have := to_lt ha
      rw [List.length_drop, HSZ.out] at this
      omega
    have hpq : p ≤ q0 := by omega
    obtain ⟨idb, hid⟩ : ∃ idb : ByteArray, idb = ⟨(pTo spbB (l.drop p)).toArray⟩ := ⟨_, rfl⟩
    have hsl : ∀ W : World, (Instr.slice 9 (.string s) (some (.int .i64 p)) (some (.int .i64 q0)) none).run Tryz.prog W = .ok (.string idb) W := fun W => by
      have h := slice_at s p q0 p q0 rfl rfl hpq (by omega) W
      rw [hq0, piece_at s l HL.out, ← to_take, ← hid, ← hq0] at h
      exact h
    have HF : Hid (∀ W : World, Calls Tryz.prog 21 #[.string s, .int .i64 p, .int .u8 32, .int .u8 93] W fun e w' => e = .returned (.int .i64 q0) ∧ W = w') := Lib.hid fun W => by
      have h := HFA.out p W hp
      rw [findI_yes ha, ← hq0] at h
      exact h
    have HRN : Hid (relN (l.drop p) = match rparN ((l.drop p).length + 1) (l.drop q0) [] with | none => none | some (ps, r) => some ((pTo spbB (l.drop p), ps), r)) := by
      show relN _ = _
      rw [relN, if_pos ha, from_drop_drop, ← hq0]
      rfl
    have HID := Lib.hid hid; have HHEAD : Hid (l[q0]? = some 32 ∨ l[q0]? = some 93) := by
      show _ ∨ _
      obtain ⟨c, r, hf, hc⟩ := from_head ha
      rw [from_drop_drop, ← hq0] at hf
      have h1 : l[q0]? = some c := by
        have := congrArg (fun x : List UInt8 => x[0]?) hf
        simpa [List.getElem?_drop] using this
      simp only [spbB, Bool.or_eq_true, beq_iff_eq] at hc
      rcases hc with rfl | rfl
      · exact .inl h1
      · exact .inr h1
    clear ha hid hq0
    have HX1 : Hid (Row ((w.alloc (Obj.cells #[Value.string ⟨#[]⟩, Value.slice none 0 0] 58)).alloc (Obj.cells #[Value.string idb, Value.slice none 0 0] 58)) w.heap.size 58 #[Value.string ⟨#[]⟩, Value.slice none 0 0]) := Lib.hid (HX0.out.alloc _)
    have HY1 : Hid (Row ((w.alloc (Obj.cells #[Value.string ⟨#[]⟩, Value.slice none 0 0] 58)).alloc (Obj.cells #[Value.string idb, Value.slice none 0 0] 58)) (w.heap.size + 1) 58 #[Value.string idb, Value.slice none 0 0]) := Lib.hid (by have := Row.laid (w.alloc (Obj.cells #[Value.string ⟨#[]⟩, Value.slice none 0 0] 58)) 58 #[Value.string idb, Value.slice none 0 0]; simpa using this)
    have HB1 : Hid (Below w.heap.size w ((w.alloc (Obj.cells #[Value.string ⟨#[]⟩, Value.slice none 0 0] 58)).alloc (Obj.cells #[Value.string idb, Value.slice none 0 0] 58))) := Lib.hid (HB0.out.alloc (by simp) _)
    go_enter Tryz.func26, Tryz.ntmps26
    go_wp2_with (go_at_call 21; refine (HF.out _).mono ?_; rintro e w1 ⟨rfl, rfl⟩)
    clear hsl
    go_loopg [6] (s.size - q0) (fun g a wr => ∃ (n k : Nat) (ps : List Par) (v : Value), Hid (g = s.size - k) ∧ a = .int .i64 k ∧ k < s.size ∧ ps.length ≤ k ∧ Hid ((l.drop k).length < n ∧ rparN n (l.drop k) ps = rparN ((l.drop p).length + 1) (l.drop q0) []) ∧ Row wr w.heap.size 58 #[Value.string ⟨#[]⟩, Value.slice none 0 0] ∧ Row wr (w.heap.size + 1) 58 #[Value.string idb, v] ∧ wr.ownsRow (w.heap.size + 2) 73 2 v ps.length (parCells ps) ∧ Below w.heap.size w wr)
    case atStart => exact ⟨(l.drop p).length + 1, q0, [], .slice none 0 0, rfl, rfl, hq1, by simp, ⟨by rw [List.length_drop, List.length_drop]; omega, rfl⟩, HX1.out, HY1.out, World.ownsRow_nil _ _ _ _, HB1.out⟩
    case round =>
      obtain ⟨n, k, ps, v, HG, rfl, hk, hpl, hv, hx, hy, hown, hb⟩ := hrel
      obtain ⟨pp, pl, pc, rfl⟩ := owns_slice hown
      have HX := Lib.hid hx; have HY := Lib.hid hy; have HO := Lib.hid hown; have HB := Lib.hid hb
      have hsw := hy.lt
      clear hx hy hown hb HX0 HX1 HY1 HB0 HB1
      have hkl : k < l.length := by rw [HSZ.out]; exact hk
      obtain ⟨c, hc⟩ : ∃ c, c = s[k] := ⟨_, rfl⟩
      have hget : l[k] = c := by
        rw [hc]
        have : s.data.toList[k]'(by rw [← HL.out]; exact hkl) = l[k] := by simp [HL.out]
        rw [← this]; rfl
      obtain ⟨hn, hv2⟩ := hv.out
      cases n with
      | zero => omega
      | succ n =>
      rw [List.drop_eq_getElem_cons hkl, hget] at hv2
      rw [List.length_drop] at hn
      have e32 := byte_eq s[k] 32 (by decide)
      have e93 := byte_eq s[k] 93 (by decide)
      rw [← hc] at e32 e93
      have HV := Lib.hid hv2; have HC := Lib.hid hc
      clear hv hv2 hget hc
      have x0 : wr.cell? ⟨w.heap.size, 0, none⟩ = some (.string ⟨#[]⟩) := HX.out.cell 0
      have x1 : wr.cell? ⟨w.heap.size, 1, none⟩ = some (.slice none 0 0) := HX.out.cell 1
      have fx0 := HX.out.frozen 0
      have fx1 := HX.out.frozen 1
      have y0 : wr.cell? ⟨w.heap.size + 1, 0, none⟩ = some (.string idb) := HY.out.cell 0
      have y1 : wr.cell? ⟨w.heap.size + 1, 1, none⟩ = some (.slice pp pl pc) := HY.out.cell 1
      have fy0 := HY.out.frozen 0
      have fy1 := HY.out.frozen 1
      cases h32 : (c == 32) with
      | false =>
        replace e32 : ((s[k].toNat : Int) == 32) = false := by rw [← HC.out]; exact e32.trans h32
        cases h93 : (c == 93) with
        | true =>
          have hR : Hid (relN (l.drop p) = some ((pTo spbB (l.drop p), ps), l.drop (k + 1))) := by
            show relN _ = _
            rw [HRN.out, ← HV.out, rparN, if_neg (by rw [h32]; simp), if_pos h93]
          replace e93 : ((s[k].toNat : Int) == 93) = true := by rw [← HC.out]; exact e93.trans h93
          have e93' : ((s[k].toNat : Int) != 93) = false := by rw [bne, e93]; rfl
          clear h32 h93
          go_wp2_with fail
          refine bodyPost_ret (results_cell_row_tmp rfl _ _ w.heap.size _ #[Value.string idb, .slice pp pl pc] (0, 0) _ rfl ((HX.out.put 0 (.string idb)).put 1 (.slice pp pl pc)) Tryz.underlying58 rfl elemSize) rfl ⟨(HB.out.setCell (by simp) _).setCell (by simp) _, REL.yes (t := k + 1) hR.out (by omega) (by rw [HID.out]; rfl) ?_⟩
          exact owns_lower (ownsRow_setCell_below (ownsRow_setCell_below HO.out (show w.heap.size < w.heap.size + 2 by omega) _) (show w.heap.size < w.heap.size + 2 by omega) _) (by omega)
        | false =>
          have hR : Hid (relN (l.drop p) = none) := by
            show relN _ = none
            rw [HRN.out, ← HV.out, rparN, if_neg (by rw [h32]; simp), if_neg (by rw [h93]; simp)]
          replace e93 : ((s[k].toNat : Int) == 93) = false := by rw [← HC.out]; exact e93.trans h93
          have e93' : ((s[k].toNat : Int) != 93) = true := by rw [bne, e93]; rfl
          clear h32 h93
          go_wp2_with fail
          refine bodyPost_ret (results_cell_row_tmp rfl _ _ w.heap.size _ #[Value.string ⟨#[]⟩, Value.slice none 0 0] (0, 0) _ rfl ((HX.out.put 0 (.string ⟨#[]⟩)).put 1 (.slice none 0 0)) Tryz.underlying58 rfl elemSize) rfl ⟨(HB.out.setCell (by simp) _).setCell (by simp) _, REL.no hR.out rfl⟩
      | true =>
        replace e32 : ((s[k].toNat : Int) == 32) = true := by rw [← HC.out]; exact e32.trans h32
        have HV2 : Hid ((if pAny eqB (l.drop (k + 1)) && Lib.hasPrefix (pFrom eqB (l.drop (k + 1))) eqMk then
            match rvalP ((pFrom eqB (l.drop (k + 1))).drop 2) with
            | none => none
            | some (v, r) => if r.isEmpty then none else rparN n r (ps ++ [(pTo eqB (l.drop (k + 1)), v)])
          else none) = rparN ((l.drop p).length + 1) (l.drop q0) []) := by
          show _ = _
          rw [← HV.out, rparN, if_pos h32]
          rfl
        clear HV h32 e93
        cases ha : pAny eqB (l.drop (k + 1)) with
        | false =>
          have hR : Hid (relN (l.drop p) = none) := by
            show relN _ = none
            rw [HRN.out, ← HV2.out, ha]; rfl
          have HF2 : Hid (∀ W : World, Calls Tryz.prog 21 #[.string s, .int .i64 ((k : Int) + 1), .int .u8 61, .int .u8 61] W fun e w' => e = .returned (.int .i64 (-1)) ∧ W = w') := Lib.hid fun W => by
            have h := HFB.out k W (by omega)
            rw [findI_no ha] at h
            exact h
          clear ha HV2
          go_wp2_with (go_at_call 21; refine (HF2.out _).mono ?_; rintro e w2 ⟨rfl, rfl⟩)
          refine bodyPost_ret (results_cell_row_tmp rfl _ _ w.heap.size _ #[Value.string ⟨#[]⟩, Value.slice none 0 0] (0, 0) _ rfl ((HX.out.put 0 (.string ⟨#[]⟩)).put 1 (.slice none 0 0)) Tryz.underlying58 rfl elemSize) rfl ⟨(HB.out.setCell (by simp) _).setCell (by simp) _, REL.no hR.out rfl⟩
        | true =>
          obtain ⟨kk, hkk⟩ : ∃ kk, kk = k + 1 + (pTo eqB (l.drop (k + 1))).length := ⟨_, rfl⟩
          have hk1 : kk < s.size := by
            have := to_lt ha
            rw [List.length_drop, HSZ.out] at this
            omega
          have hk2 : k + 1 ≤ kk := by omega
          have HF2 : Hid (∀ W : World, Calls Tryz.prog 21 #[.string s, .int .i64 ((k : Int) + 1), .int .u8 61, .int .u8 61] W fun e w' => e = .returned (.int .i64 kk) ∧ W = w') := Lib.hid fun W => by
            have h := HFB.out k W (by omega)
            rw [findI_yes ha, ← hkk] at h
            exact h
          have hfd : pFrom eqB (l.drop (k + 1)) = l.drop kk := by rw [from_drop_drop, ← hkk]
          have hat : Lib.hasPrefix (l.drop kk) eqMk = isAt l (kk + 1) 34 := hasEq_at l kk (by rw [← hfd]; exact eq_head ha)
          have HV3 : Hid ((if isAt l (kk + 1) 34 then
              match rvalP (l.drop (kk + 2)) with
              | none => none
              | some (v, r) => if r.isEmpty then none else rparN n r (ps ++ [(pTo eqB (l.drop (k + 1)), v)])
            else none) = rparN ((l.drop p).length + 1) (l.drop q0) []) := by
            show _ = _
            rw [← HV2.out, ha, hfd, hat, List.drop_drop, Bool.true_and]
          have HTO : Hid (pTo eqB (l.drop (k + 1)) = (l.drop (k + 1)).take (kk - (k + 1))) := by
            show pTo eqB (l.drop (k + 1)) = _
            rw [show kk - (k + 1) = (pTo eqB (l.drop (k + 1))).length by omega]
            exact to_take _
          clear ha HV2 hfd hat hkk
          have d0 : decide ((kk : Int) < 0) = false := decide_eq_false (by omega)
          by_cases hlt : kk + 1 < s.size
          · have d1 : decide ((s.size : Int) ≤ (kk : Int) + 1) = false := decide_eq_false (by omega)
            have hkl2 : kk + 1 < l.length := by rw [HSZ.out]; exact hlt
            have hia : isAt l (kk + 1) 34 = (s[kk + 1] == 34) := by
              rw [isAt_at l (kk + 1) 34 hkl2]
              have : s.data.toList[kk + 1]'(by rw [← HL.out]; exact hkl2) = l[kk + 1] := by simp [HL.out]
              rw [← this]; rfl
            have e34 := (byte_eq s[kk + 1] 34 (by decide)).trans (show (s[kk + 1] == UInt8.ofNat 34) = isAt l (kk + 1) 34 from hia.symm)
            cases h34 : isAt l (kk + 1) 34 with
            | false =>
              have hR : Hid (relN (l.drop p) = none) := by
                show relN _ = none
                rw [HRN.out, ← HV3.out, h34]; rfl
              replace e34 : ((s[kk + 1].toNat : Int) == 34) = false := e34.trans h34
              have e34' : ((s[kk + 1].toNat : Int) != 34) = true := by rw [bne, e34]; rfl
              clear h34 hia HV3
              go_wp2_with (go_at_call 21; refine (HF2.out _).mono ?_; rintro e w2 ⟨rfl, rfl⟩)
              refine bodyPost_ret (results_cell_row_tmp rfl _ _ w.heap.size _ #[Value.string ⟨#[]⟩, Value.slice none 0 0] (0, 0) _ rfl ((HX.out.put 0 (.string ⟨#[]⟩)).put 1 (.slice none 0 0)) Tryz.underlying58 rfl elemSize) rfl ⟨(HB.out.setCell (by simp) _).setCell (by simp) _, REL.no hR.out rfl⟩
            | true =>
              have HV4 : Hid ((match rvalP (l.drop (kk + 2)) with
                  | none => none
                  | some (v, r) => if r.isEmpty then none else rparN n r (ps ++ [(pTo eqB (l.drop (k + 1)), v)])) = rparN ((l.drop p).length + 1) (l.drop q0) []) := by
                show _ = _
                rw [← HV3.out, h34]; rfl
              replace e34 : ((s[kk + 1].toNat : Int) == 34) = true := e34.trans h34
              have e34' : ((s[kk + 1].toNat : Int) != 34) = false := by rw [bne, e34]; rfl
              clear h34 hia HV3
              cases hrv : rvalP (l.drop (kk + 2)) with
              | none =>
                have hR : Hid (relN (l.drop p) = none) := by
                  show relN _ = none
                  rw [HRN.out, ← HV4.out, hrv]
                have HW : Hid (∀ W : World, Calls Tryz.prog 56 #[.string s, .int .i64 ((kk : Int) + 2)] W fun e w' => e = .returned (.tuple #[.string ⟨#[]⟩, .int .i64 (-1)]) ∧ Below W.heap.size W w') := Lib.hid fun W => by
                  have h := HVC.out kk W (by omega)
                  rw [hrv] at h
                  exact h
                clear hrv HV4
                go_wp2_with (first
                  | (go_at_call 21; refine (HF2.out _).mono ?_; rintro e w2 ⟨rfl, rfl⟩)
                  | (go_at_call 56; clear x0 x1 fx0 fx1 y0 y1 fy0 fy1; refine (HW.out _).mono ?_; rintro e w3 ⟨rfl, b3⟩; have HX3 := Lib.hid (HX.out.below b3 HX.out.lt); have HB3 := Lib.hid (HB.out.trans (b3.mono HB.out.size)); have x0 : w3.cell? ⟨w.heap.size, 0, none⟩ = some (.string ⟨#[]⟩) := HX3.out.cell 0; have x1 : w3.cell? ⟨w.heap.size, 1, none⟩ = some (.slice none 0 0) := HX3.out.cell 1; have fx0 := HX3.out.frozen 0; have fx1 := HX3.out.frozen 1; clear b3))
                refine bodyPost_ret (results_cell_row_tmp rfl _ _ w.heap.size _ #[Value.string ⟨#[]⟩, Value.slice none 0 0] (0, 0) _ rfl ((HX3.out.put 0 (.string ⟨#[]⟩)).put 1 (.slice none 0 0)) Tryz.underlying58 rfl elemSize) rfl ⟨(HB3.out.setCell (by simp) _).setCell (by simp) _, REL.no hR.out rfl⟩
              | some vr =>
                obtain ⟨va, r⟩ := vr
                obtain ⟨hr1, hr2⟩ := rvalP_len hrv
                rw [List.length_drop, HSZ.out] at hr1
                have HV5 : Hid ((if r.isEmpty then none else rparN n r (ps ++ [(pTo eqB (l.drop (k + 1)), va)])) = rparN ((l.drop p).length + 1) (l.drop q0) []) := by
                  show _ = _
                  rw [← HV4.out, hrv]
                obtain ⟨t, ht, hrt, HW⟩ : ∃ t : Nat, t ≤ s.size ∧ r = l.drop t ∧ Hid (∀ W : World, Calls Tryz.prog 56 #[.string s, .int .i64 ((kk : Int) + 2)] W fun e w' => e = .returned (.tuple #[.string ⟨va.toArray⟩, .int .i64 t]) ∧ Below W.heap.size W w') := by
                  have hsuf : r = l.drop (s.size - r.length) := by
                    obtain ⟨j, hj⟩ := rval_suffix hrv
                    rw [hj, List.drop_drop, List.length_drop, HSZ.out]
                    by_cases hle : kk + 2 + j ≤ s.size
                    · congr 1; omega
                    · rw [List.drop_eq_nil_of_le (by rw [HSZ.out]; omega), List.drop_eq_nil_of_le (by rw [HSZ.out]; omega)]
                  refine ⟨s.size - r.length, by omega, hsuf, Lib.hid fun W => ?_⟩
                  refine (HVC.out kk W (by omega)).mono fun e w' ⟨h, hb⟩ => ?_
                  rw [hrv] at h
                  obtain ⟨t, ht, hrt, he⟩ := h
                  have : t = s.size - r.length := by
                    have := congrArg List.length hrt
                    rw [List.length_drop, HSZ.out] at this
                    rw [HSZ.out] at ht
                    omega
                  rw [← this]
                  exact ⟨he, hb⟩
                have d2 : decide ((t : Int) < 0) = false := decide_eq_false (by omega)
                rw [hrt] at HV5
                have hrl : r.length = s.size - t := by rw [hrt, List.length_drop, HSZ.out]
                clear hrv HV4 hrt hr2
                by_cases htl : t < s.size
                · have d3 : decide ((s.size : Int) ≤ (t : Int)) = false := decide_eq_false (by omega)
                  have HV6 : Hid (rparN n (l.drop t) (ps ++ [(pTo eqB (l.drop (k + 1)), va)]) = rparN ((l.drop p).length + 1) (l.drop q0) []) := by
                    show _ = _
                    rw [← HV5.out, if_neg]
                    rw [List.isEmpty_iff]
                    intro h
                    have := congrArg List.length h
                    rw [List.length_drop, HSZ.out] at this
                    simp at this
                    omega
                  obtain ⟨nb, hnb⟩ : ∃ nb : ByteArray, nb = ⟨(pTo eqB (l.drop (k + 1))).toArray⟩ := ⟨_, rfl⟩
                  have hsl : ∀ W : World, (Instr.slice 9 (.string s) (some (.int .i64 ((k : Int) + 1))) (some (.int .i64 kk)) none).run Tryz.prog W = .ok (.string nb) W := fun W => by
                    have h := slice_at s (k + 1) kk ((k : Int) + 1) kk (by omega) rfl hk2 (by omega) W
                    rw [show kk = (k + 1) + (kk - (k + 1)) by omega, piece_at s l HL.out, ← HTO.out, ← hnb] at h
                    rw [show kk = (k + 1) + (kk - (k + 1)) by omega]
                    exact h
                  have hsl2 : ∀ W : World, (Instr.slice 9 (.string s) (some (.int .i64 (IntKind.i64.wrap ((k : Int) + 1)))) (some (.int .i64 kk)) none).run Tryz.prog W = .ok (.string nb) W := fun W => by
                    have hwr : IntKind.i64.wrap ((k : Int) + 1) = (k : Int) + 1 := IntWalk.i64_in _ (by omega)
                    rw [hwr]
                    exact hsl W
                  have HNB := Lib.hid hnb
                  have tkv : True := trivial
                  clear hnb HV5 HTO
                  go_upto_region 12 with (first
                    | (go_at_call 21; refine (HF2.out _).mono ?_; rintro e w2 ⟨rfl, rfl⟩)
                    | (go_at_call 56; clear x0 x1 fx0 fx1 y0 y1 fy0 fy1; refine (HW.out _).mono ?_; rintro e w3 ⟨rfl, b3⟩; have HX3 := Lib.hid (HX.out.below b3 HX.out.lt); have HY3 := Lib.hid (HY.out.below b3 HY.out.lt); have HO3 := Lib.hid (owns_turn (p := fun _ => False) HO.out (Turn.of_below b3) (by simp)); have HB3 := Lib.hid (HB.out.trans (b3.mono HB.out.size)); have x0 : w3.cell? ⟨w.heap.size, 0, none⟩ = some (.string ⟨#[]⟩) := HX3.out.cell 0; have x1 : w3.cell? ⟨w.heap.size, 1, none⟩ = some (.slice none 0 0) := HX3.out.cell 1; have fx0 := HX3.out.frozen 0; have fx1 := HX3.out.frozen 1; have y0 : w3.cell? ⟨w.heap.size + 1, 0, none⟩ = some (.string idb) := HY3.out.cell 0; have y1 : w3.cell? ⟨w.heap.size + 1, 1, none⟩ = some (.slice pp pl pc) := HY3.out.cell 1; have fy0 := HY3.out.frozen 0; have fy1 := HY3.out.frozen 1; clear b3))
                  have y1b : (w3.alloc (Obj.cells #[.string nb, .string ⟨va.toArray⟩] 73)).cell? ⟨w.heap.size + 1, 1, none⟩ = some (.slice pp pl pc) := (HY3.out.alloc _).cell 1
                  go_region_law (refine step_append_lies _ rfl (.tmp 64) (.tmp 72) 56 rfl (w.heap.size + 2) 73 j0 (.agg #[.string ⟨#[]⟩, .string ⟨#[]⟩]) 2 32 Tryz.underlying56 hi hz0 hz1 hz2 rfl (by decide) (.slice pp pl pc) ps.length (parCells ps) (by simp [Act.eval, Act.put]) (by first | exact HO3.out.drew.alloc _ | exact (HO3.out.alloc _).drew) ⟨w3.heap.size, 0, none⟩ 1 1 [.string nb, .string ⟨va.toArray⟩] (by simp [Act.eval, Act.put]) rfl (World.news_of_block (heap_alloc_new _ _)) (by simp [Value.oneCell']) (by decide) (by unfold maxLen; omega) (by omega) (by have := HY3.out.lt; simp; omega) (w3.heap.size + 1) (by simp) ?_; intro g cap w6 hown6 hgrow6 hloc6 hlt6b; have hne6 : ∀ i, i < w.heap.size + 2 → some i ≠ (Value.slice pp pl pc).ownBlock := (fun i hi' e => (by have := own_ge HO3.out e.symm; omega)); have hxl := HX3.out.lt; have hyl := HY3.out.lt; have HX6 := Lib.hid ((show Row w6 w.heap.size 58 #[Value.string ⟨#[]⟩, Value.slice none 0 0] from (hgrow6.block _ (by simp; omega) (hne6 _ (by omega))).trans ((HX3.out.alloc _).drew))); have HY6 := Lib.hid ((show Row w6 (w.heap.size + 1) 58 #[Value.string idb, Value.slice pp pl pc] from (hgrow6.block _ (by simp; omega) (hne6 _ (by omega))).trans ((HY3.out.alloc _).drew))); have HB6 := Lib.hid (grown_low ((HB3.out.alloc HB3.out.size _).drew) hgrow6 (fun k hk => (by have := own_ge HO3.out hk; omega)) (by simp; omega)); have HO6 := Lib.hid hown6; clear x0 x1 fx0 fx1 y0 y1 y1b fy0 fy1 hne6 hgrow6 hloc6 hlt6b hown6; have x0 : w6.cell? ⟨w.heap.size, 0, none⟩ = some (.string ⟨#[]⟩) := HX6.out.cell 0; have x1 : w6.cell? ⟨w.heap.size, 1, none⟩ = some (.slice none 0 0) := HX6.out.cell 1; have fx0 := HX6.out.frozen 0; have fx1 := HX6.out.frozen 1; have y0 : w6.cell? ⟨w.heap.size + 1, 0, none⟩ = some (.string idb) := HY6.out.cell 0; have y1 : w6.cell? ⟨w.heap.size + 1, 1, none⟩ = some (.slice pp pl pc) := HY6.out.cell 1; have fy0 := HY6.out.frozen 0; have fy1 := HY6.out.frozen 1)
                  all_goals
                    go_wp2_with fail
                    go_roundg (s.size - t)
                    case measure => rw [HG.out]; omega
                    case rel =>
                      refine ⟨n, t, ps ++ [(pTo eqB (l.drop (k + 1)), va)], .slice (some ⟨g, 0, none⟩) (ps.length + 1) cap, rfl, rfl, htl, by simp; omega, ⟨by rw [List.length_drop, HSZ.out]; have := HSZ.out; omega, HV6.out⟩, HX6.out.other (by simp) _, HY6.out.put 1 _, ?_, HB6.out.setCell (by simp) _⟩
                      have h := ownsRow_setCell_below HO6.out (a := ⟨w.heap.size + 1, 1, none⟩) (show w.heap.size + 1 < w.heap.size + 2 by omega) (.slice (some ⟨g, 0, none⟩) (ps.length + 1) cap)
                      rw [HNB.out] at h
                      simpa [parCells, txt] using h
                · have d3 : decide ((s.size : Int) ≤ (t : Int)) = true := decide_eq_true (by omega)
                  have hR : Hid (relN (l.drop p) = none) := by
                    show relN _ = none
                    rw [HRN.out, ← HV5.out, if_pos]
                    rw [List.isEmpty_iff]
                    exact List.drop_eq_nil_of_le (by rw [HSZ.out]; omega)
                  clear HV5
                  go_wp2_with (first
                    | (go_at_call 21; refine (HF2.out _).mono ?_; rintro e w2 ⟨rfl, rfl⟩)
                    | (go_at_call 56; clear x0 x1 fx0 fx1 y0 y1 fy0 fy1; refine (HW.out _).mono ?_; rintro e w3 ⟨rfl, b3⟩; have HX3 := Lib.hid (HX.out.below b3 HX.out.lt); have HB3 := Lib.hid (HB.out.trans (b3.mono HB.out.size)); have x0 : w3.cell? ⟨w.heap.size, 0, none⟩ = some (.string ⟨#[]⟩) := HX3.out.cell 0; have x1 : w3.cell? ⟨w.heap.size, 1, none⟩ = some (.slice none 0 0) := HX3.out.cell 1; have fx0 := HX3.out.frozen 0; have fx1 := HX3.out.frozen 1; clear b3))
                  refine bodyPost_ret (results_cell_row_tmp rfl _ _ w.heap.size _ #[Value.string ⟨#[]⟩, Value.slice none 0 0] (0, 0) _ rfl ((HX3.out.put 0 (.string ⟨#[]⟩)).put 1 (.slice none 0 0)) Tryz.underlying58 rfl elemSize) rfl ⟨(HB3.out.setCell (by simp) _).setCell (by simp) _, REL.no hR.out rfl⟩
          · have d1 : decide ((s.size : Int) ≤ (kk : Int) + 1) = true := decide_eq_true (by omega)
            have hR : Hid (relN (l.drop p) = none) := by
              show relN _ = none
              rw [HRN.out, ← HV3.out, isAt_out l (kk + 1) 34 (by rw [HSZ.out]; omega)]; rfl
            clear HV3
            go_wp2_with (go_at_call 21; refine (HF2.out _).mono ?_; rintro e w2 ⟨rfl, rfl⟩)
            refine bodyPost_ret (results_cell_row_tmp rfl _ _ w.heap.size _ #[Value.string ⟨#[]⟩, Value.slice none 0 0] (0, 0) _ rfl ((HX.out.put 0 (.string ⟨#[]⟩)).put 1 (.slice none 0 0)) Tryz.underlying58 rfl elemSize) rfl ⟨(HB.out.setCell (by simp) _).setCell (by simp) _, REL.no hR.out rfl⟩
end Go.Proofs.YtdkfgobbpadmgaaGreatDoor
