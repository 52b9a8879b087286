/- Package tabularyref05: Parse. -/
import Derived.Test.YtdkfgobbpadmgaaGreatDoorRef5StB
set_option linter.unusedVariables false
set_option linter.unusedSimpArgs false
namespace Go.Proofs.YtdkfgobbpadmgaaGreatDoor
open Go.RowKit
theorem Z5.drews {w wx : World} (h : Z5 w wx) (k : Nat) : Z5 w (wx.drewN k) := ⟨h.res.drewN k, below_drewN h.below k⟩
theorem dig_not (s : List UInt8) (h : s.all isDig = false) : numP s = none := by
  rw [numP, if_neg]
  rintro ⟨_, _, h3, _⟩
  rw [h] at h3; cases h3
theorem numP_len (s : List UInt8) (h : s.length < 1 ∨ 3 < s.length) : numP s = none := by
  rw [numP, if_neg]
  rintro ⟨h1, h2, _⟩
  omega
theorem numP_big (s : List UInt8) (h : 191 < numN s) : numP s = none := by
  rw [numP, if_neg]
  rintro ⟨_, _, _, h4, _⟩
  omega
theorem numP_not (s : List UInt8) (h : Lib.itoa (numN s) ≠ s) : numP s = none := by
  rw [numP, if_neg]
  rintro ⟨_, _, _, _, h5⟩
  exact h h5
theorem numP_yes (s : List UInt8) (n : Nat) (h1 : 1 ≤ s.length) (h2 : s.length ≤ 3) (h3 : s.all isDig = true) (h4 : numN s = (n : Int)) (h5 : n ≤ 191) (h6 : Lib.itoa (n : Int) = s) : numP s = some n := by
  rw [numP, if_pos ⟨h1, h2, h3, by omega, by rw [h4]; exact h6⟩, h4]
  simp
theorem refN_no {l : List UInt8} (h : priK l = false) : parseN calD l = none := parse_no1 (by rw [h]; rfl)
theorem refN_num {l : List UInt8} (hk : priK l = true) (h : numP (priS l) = none) : parseN calD l = none := by
  rw [← refN_eq, refN, if_pos hk, h]
theorem refN_at {l : List UInt8} {n : Nat} (hk : priK l = true) (h : numP (priS l) = some n) : parseN calD l = rrestN n (rheadN calD (priL l)) := by
  rw [← refN_eq, refN, if_pos hk, h]
set_option maxHeartbeats 4000000 in
set_option maxRecDepth 100000 in
theorem ref5_c (s : ByteArray) (w : World) (hs : s.size ≤ 4194304) :
    Calls Tryz.prog 7 #[.string s] w (POST calD s.data.toList w) := by
  obtain ⟨l, hl⟩ : ∃ l, l = s.data.toList := ⟨_, rfl⟩
  have hsz : l.length = s.size := by rw [hl]; rfl
  rw [← hl]
  have HL := Lib.hid hl; have HSZ := Lib.hid hsz
  clear hl hsz
  have HZ : Hid (Z5 w (w.alloc (Obj.cells #[.int .i64 0, .int .i64 0, .bool false, .int .i64 0, .string ⟨#[]⟩, .string ⟨#[]⟩, .string ⟨#[]⟩, .string ⟨#[]⟩, .slice none 0 0, .string ⟨#[]⟩] 25))) := Lib.hid ⟨Row.laid _ _ _, (Below.refl _ _).alloc (Nat.le_refl _) _⟩
  obtain ⟨ob, hob⟩ : ∃ b, b = Lib.hasPrefix l lt8 := ⟨_, rfl⟩
  have HB0 : Hid (∀ W : World, Calls Tryz.prog 22 #[.string s, .int .i64 0, .string ⟨#[60]⟩] W fun e w' => e = .returned (.bool ob) ∧ W = w') := Lib.hid fun W => by
    have h := begins_c s 0 ⟨#[60]⟩ W (by omega) (by omega) (by show 1 ≤ 1 ∧ 1 ≤ 1152921504606846976; omega)
    rw [← HL.out, List.drop_zero] at h
    rw [hob]
    exact h
  have HF0 : Hid (∀ W : World, Calls Tryz.prog 21 #[.string s, .int .i64 0, .int .u8 62, .int .u8 62] W fun e w' => e = .returned (.int .i64 (findI gtB l 0)) ∧ W = w') := Lib.hid fun W => by
    have h := find_c s 0 62 62 W (by omega) (by omega)
    rw [twoB_gt, ← HL.out] at h
    exact h
  have HBE : Hid (∀ (k : Nat) (W : World), k ≤ s.size → Calls Tryz.prog 22 #[.string s, .int .i64 k, .string ⟨#[62, 49, 32]⟩] W fun e w' => e = .returned (.bool (Lib.hasPrefix (l.drop k) gt8)) ∧ W = w') := Lib.hid fun k W hk => by
    have h := begins_c s k ⟨#[62, 49, 32]⟩ W (by omega) (by omega) (by decide)
    rw [← HL.out] at h
    exact h
  have HBN : Hid (∀ W : World, Calls Tryz.prog 22 #[.string s, .int .i64 (-1), .string ⟨#[62, 49, 32]⟩] W fun e w' => e = .returned (.bool false) ∧ W = w') := Lib.hid fun W => begins_neg s _ W
  have HOB := Lib.hid hob
  clear hob
  cases hk : priK l with
  | false =>
    have HNO : Hid (parseN calD l = none) := refN_no hk
    cases hg : pAny gtB l with
    | false =>
      have HF1 : Hid (∀ W : World, Calls Tryz.prog 21 #[.string s, .int .i64 0, .int .u8 62, .int .u8 62] W fun e w' => e = .returned (.int .i64 (-1)) ∧ W = w') := Lib.hid fun W => by
        have h := HF0.out W
        rw [findI_no (by rw [List.drop_zero]; exact hg)] at h
        exact h
      clear hk hg
      cases ob
      all_goals
        have t1 : True := trivial
        go_enter Tryz.func7, Tryz.ntmps7
        go_wp2_with (first | (go_at_call 21; refine (HF1.out _).mono ?_; rintro e w2 ⟨rfl, rfl⟩) | (go_at_call 22; clear t1; refine (HB0.out _).mono ?_; rintro e w2 ⟨rfl, rfl⟩) | (go_at_call 22; refine (HBN.out _).mono ?_; rintro e w2 ⟨rfl, rfl⟩))
        refine bodyPost_ret (results_cell_row_tmp rfl _ _ w.heap.size _ EVZ (0, 0) _ rfl HZ.out.res Tryz.underlying25 rfl evSize) rfl (POST.no HNO.out rfl HZ.out.below)
    | true =>
      obtain ⟨en, hen⟩ : ∃ en, en = (pTo gtB l).length := ⟨_, rfl⟩
      have hes : en < s.size := by
        have := to_lt hg
        have := HSZ.out
        omega
      have HF1 : Hid (∀ W : World, Calls Tryz.prog 21 #[.string s, .int .i64 0, .int .u8 62, .int .u8 62] W fun e w' => e = .returned (.int .i64 en) ∧ W = w') := Lib.hid fun W => by
        have h := HF0.out W
        rw [findI_yes (by rw [List.drop_zero]; exact hg), List.drop_zero, Nat.zero_add, ← hen] at h
        exact h
      cases ob with
      | false =>
        obtain ⟨x, hx⟩ : ∃ x, x = Lib.hasPrefix (l.drop en) gt8 := ⟨_, rfl⟩
        have HB1 : Hid (∀ W : World, Calls Tryz.prog 22 #[.string s, .int .i64 en, .string ⟨#[62, 49, 32]⟩] W fun e w' => e = .returned (.bool x) ∧ W = w') := Lib.hid fun W => by rw [hx]; exact HBE.out en W (by omega)
        clear hk hg hen hx
        have t1 : True := trivial
        go_enter Tryz.func7, Tryz.ntmps7
        go_wp2_with (first | (go_at_call 21; refine (HF1.out _).mono ?_; rintro e w2 ⟨rfl, rfl⟩) | (go_at_call 22; clear t1; refine (HB0.out _).mono ?_; rintro e w2 ⟨rfl, rfl⟩) | (go_at_call 22; refine (HB1.out _).mono ?_; rintro e w2 ⟨rfl, rfl⟩))
        refine bodyPost_ret (results_cell_row_tmp rfl _ _ w.heap.size _ EVZ (0, 0) _ rfl HZ.out.res Tryz.underlying25 rfl evSize) rfl (POST.no HNO.out rfl HZ.out.below)
      | true =>
        have HB1 : Hid (∀ W : World, Calls Tryz.prog 22 #[.string s, .int .i64 en, .string ⟨#[62, 49, 32]⟩] W fun e w' => e = .returned (.bool false) ∧ W = w') := Lib.hid fun W => by
          have h := HBE.out en W (by omega)
          rw [hen, (priK_no hk HOB.out.symm hg).2, ← hen] at h
          exact h
        clear hk hg hen
        have t1 : True := trivial
        go_enter Tryz.func7, Tryz.ntmps7
        go_wp2_with (first | (go_at_call 21; refine (HF1.out _).mono ?_; rintro e w2 ⟨rfl, rfl⟩) | (go_at_call 22; clear t1; refine (HB0.out _).mono ?_; rintro e w2 ⟨rfl, rfl⟩) | (go_at_call 22; refine (HB1.out _).mono ?_; rintro e w2 ⟨rfl, rfl⟩))
        refine bodyPost_ret (results_cell_row_tmp rfl _ _ w.heap.size _ EVZ (0, 0) _ rfl HZ.out.res Tryz.underlying25 rfl evSize) rfl (POST.no HNO.out rfl HZ.out.below)
  | true =>
    obtain ⟨-, k1, k2, k3, k4, k5, k6⟩ := priL_at hk
    obtain ⟨en, hen⟩ : ∃ en, en = 1 + (priS l).length := ⟨_, rfl⟩
    rw [← hen] at k1 k2 k3 k5
    rw [HSZ.out] at k2
    obtain rfl : ob = true := HOB.out.trans k6
    have HF1 : Hid (∀ W : World, Calls Tryz.prog 21 #[.string s, .int .i64 0, .int .u8 62, .int .u8 62] W fun e w' => e = .returned (.int .i64 en) ∧ W = w') := Lib.hid fun W => by
      have h := HF0.out W
      rw [k3] at h
      exact h
    have HB1 : Hid (∀ W : World, Calls Tryz.prog 22 #[.string s, .int .i64 en, .string ⟨#[62, 49, 32]⟩] W fun e w' => e = .returned (.bool true) ∧ W = w') := Lib.hid fun W => by
      have h := HBE.out en W (by omega)
      rw [k5] at h
      exact h
    have HK1 := Lib.hid k1; have HK4 := Lib.hid k4; have HKK := Lib.hid hk; have HEN := Lib.hid hen
    clear k1 k3 k4 k5 k6 hk HF0 HBE HBN
    have t1 : True := trivial
    by_cases hlo : en < 2
    · have HNO : Hid (parseN calD l = none) := refN_num HKK.out (numP_len _ (.inl (by omega)))
      have d1 : decide ((en : Int) < 2) = true := decide_eq_true (by omega)
      have d2 : decide (en < 2) = true := decide_eq_true hlo
      clear hen
      go_enter Tryz.func7, Tryz.ntmps7
      go_wp2_with (first | (go_at_call 21; refine (HF1.out _).mono ?_; rintro e w2 ⟨rfl, rfl⟩) | (go_at_call 22; clear t1; refine (HB0.out _).mono ?_; rintro e w2 ⟨rfl, rfl⟩) | (go_at_call 22; refine (HB1.out _).mono ?_; rintro e w2 ⟨rfl, rfl⟩))
      refine bodyPost_ret (results_cell_row_tmp rfl _ _ w.heap.size _ EVZ (0, 0) _ rfl HZ.out.res Tryz.underlying25 rfl evSize) rfl (POST.no HNO.out rfl HZ.out.below)
    · have d1 : decide ((en : Int) < 2) = false := decide_eq_false (by omega)
      have d2 : decide (en < 2) = false := decide_eq_false hlo
      by_cases hhi : 4 < en
      · have HNO : Hid (parseN calD l = none) := refN_num HKK.out (numP_len _ (.inr (by omega)))
        have d3 : decide ((4 : Int) < (en : Int)) = true := decide_eq_true (by omega)
        have d4 : decide (4 < en) = true := decide_eq_true hhi
        clear hen
        go_enter Tryz.func7, Tryz.ntmps7
        go_wp2_with (first | (go_at_call 21; refine (HF1.out _).mono ?_; rintro e w2 ⟨rfl, rfl⟩) | (go_at_call 22; clear t1; refine (HB0.out _).mono ?_; rintro e w2 ⟨rfl, rfl⟩) | (go_at_call 22; refine (HB1.out _).mono ?_; rintro e w2 ⟨rfl, rfl⟩))
        refine bodyPost_ret (results_cell_row_tmp rfl _ _ w.heap.size _ EVZ (0, 0) _ rfl HZ.out.res Tryz.underlying25 rfl evSize) rfl (POST.no HNO.out rfl HZ.out.below)
      · have d3 : decide ((4 : Int) < (en : Int)) = false := decide_eq_false (by omega)
        have d4 : decide (4 < en) = false := decide_eq_false hhi
        have hsl1 : (priS l).length = en - 1 := by omega
        clear hen
        go_enter Tryz.func7, Tryz.ntmps7
        go_wp2_with (first | (go_at_call 21; refine (HF1.out _).mono ?_; rintro e w2 ⟨rfl, rfl⟩) | (go_at_call 22; clear t1; refine (HB0.out _).mono ?_; rintro e w2 ⟨rfl, rfl⟩) | (go_at_call 22; refine (HB1.out _).mono ?_; rintro e w2 ⟨rfl, rfl⟩))
        obtain ⟨ps, hps⟩ : ∃ ps, ps = priS l := ⟨_, rfl⟩
        rw [← hps] at hsl1
        have HPS := Lib.hid hps
        clear hps
        go_loopg [7, 8] (en - 1) (fun g s7 s8 wr => ∃ i : Nat, 1 ≤ i ∧ i ≤ en ∧ Hid (g = en - i) ∧ s8 = .int .i64 i ∧ s7 = .int .i64 (numN (ps.take (i - 1))) ∧ Hid ((ps.take (i - 1)).all isDig = true) ∧ wr = (w.alloc (Obj.cells #[.int .i64 0, .int .i64 0, .bool false, .int .i64 0, .string ⟨#[]⟩, .string ⟨#[]⟩, .string ⟨#[]⟩, .string ⟨#[]⟩, .slice none 0 0, .string ⟨#[]⟩] 25)))
        case atStart => exact ⟨1, by omega, by omega, rfl, rfl, rfl, (by show _ = _; simp), rfl⟩
        case round =>
          obtain ⟨i, hi1, hi2, HG, rfl, rfl, hd, rfl⟩ := hrel
          have hnb := numN_bd 4 (ps.take (i - 1)) (by rw [List.length_take]; omega) (by omega) hd.out
          obtain ⟨m, hm⟩ : ∃ m, m = numN (ps.take (i - 1)) := ⟨_, rfl⟩
          rw [← hm] at hnb ⊢
          have HM := Lib.hid hm
          obtain ⟨m0, m1⟩ := hnb
          clear hm
          by_cases hlt : i < en
          · have hdi : decide ((i : Int) < (en : Int)) = true := decide_eq_true (by omega)
            have his : i < s.size := by omega
            have hil : i < l.length := by rw [HSZ.out]; exact his
            have hip : i - 1 < ps.length := by omega
            have hget : ps[i - 1] = s[i] := by
              have h1 : l[i] = s[i] := by
                have : s.data.toList[i]'(by rw [← HL.out]; exact hil) = l[i] := by simp [HL.out]
                rw [← this]; rfl
              have h2 : ps[i - 1]? = some l[i] := by
                rw [HPS.out, HK4.out, List.getElem?_take, if_pos (by rw [← HPS.out]; omega), List.getElem?_drop, show 1 + (i - 1) = i by omega, List.getElem?_eq_getElem hil]
              rw [List.getElem?_eq_getElem hip] at h2
              injection h2 with h2
              rw [h2, h1]
            cases hp : isDig s[i] with
            | false =>
              have HNO : Hid (parseN calD l = none) := refN_num HKK.out (dig_not _ (by
                rw [← HPS.out, List.all_eq_false]
                exact ⟨ps[i - 1], List.getElem_mem hip, by rw [hget, hp]; simp⟩))
              have hq : s[i].toNat < 48 ∨ 57 < s[i].toNat := by
                have := of_decide_eq_false hp
                omega
              clear hp hget
              rcases hq with hq | hq
              · have q1 : ((s[i].toNat : Int) < 48) := by omega
                go_wp2_with fail
                refine bodyPost_ret (results_cell_row_tmp rfl _ _ w.heap.size _ EVZ (0, 0) _ rfl HZ.out.res Tryz.underlying25 rfl evSize) rfl (POST.no HNO.out rfl HZ.out.below)
              · have q1 : ¬ ((s[i].toNat : Int) < 48) := by omega
                have q2 : ((57 : Int) < (s[i].toNat : Int)) := by omega
                go_wp2_with fail
                refine bodyPost_ret (results_cell_row_tmp rfl _ _ w.heap.size _ EVZ (0, 0) _ rfl HZ.out.res Tryz.underlying25 rfl evSize) rfl (POST.no HNO.out rfl HZ.out.below)
            | true =>
              have HALL : Hid ((ps.take (i + 1 - 1)).all isDig = true) := by
                show _ = true
                rw [show i + 1 - 1 = (i - 1) + 1 by omega]
                exact take_all_succ ps (i - 1) hip hd.out (by rw [hget]; exact hp)
              have HNS : Hid (numN (ps.take (i + 1 - 1)) = 10 * m + ((s[i].toNat : Int) - 48)) := by
                show _ = _
                rw [show i + 1 - 1 = (i - 1) + 1 by omega, List.take_succ_eq_append_getElem hip, numN_snoc, hget, HM.out]
              obtain ⟨q1, q2⟩ := of_decide_eq_true hp
              have q1' : ¬ ((s[i].toNat : Int) < 48) := by omega
              have q2' : ¬ ((57 : Int) < (s[i].toNat : Int)) := by omega
              clear hp hget
              go_wp2_with fail
              go_roundg (en - (i + 1))
              case measure => rw [HG.out]; omega
              case rel => exact ⟨i + 1, by omega, by omega, rfl, by go_num, by rw [HNS.out], HALL, rfl⟩
          · obtain rfl : i = en := by omega
            have hdi : decide ((i : Int) < (i : Int)) = false := decide_eq_false (by omega)
            have HAL : Hid (ps.all isDig = true ∧ numN ps = m) := by
              show _ ∧ _
              have h := hd.out
              have h2 := HM.out
              rw [List.take_of_length_le (by omega)] at h h2
              exact ⟨h, h2.symm⟩
            obtain ⟨nn, hnn⟩ : ∃ nn : Nat, m = (nn : Int) := ⟨m.toNat, by omega⟩
            subst hnn
            clear hd HM HG
            by_cases hbig : 191 < nn
            · have HNO : Hid (parseN calD l = none) := refN_num HKK.out (numP_big _ (by rw [← HPS.out, HAL.out.2]; omega))
              have d5 : decide ((191 : Int) < (nn : Int)) = true := decide_eq_true (by omega)
              have d6 : decide (191 < nn) = true := decide_eq_true hbig
              go_upto_region 13 with fail
              go_cut [78] (fun s78 wx => s78 = .bool true ∧ Z5 w wx)
              case first =>
                go_quiet (fail)
                all_goals
                  go_wp2_with fail
                  go_meet
                  exact ⟨rfl, HZ.out.drews _⟩
              case rest =>
              obtain ⟨rfl, hz⟩ := hcut
              obtain ⟨w2, rfl⟩ : ∃ x : World, x = wc := ⟨_, rfl⟩
              have HZ2 := Lib.hid hz
              clear hz
              have r0 : w2.cell? ⟨w.heap.size, 0, none⟩ = some (.int .i64 0) := HZ2.out.res.cell 0
              have rf0 := HZ2.out.res.frozen 0
              have r1 : w2.cell? ⟨w.heap.size, 1, none⟩ = some (.int .i64 0) := HZ2.out.res.cell 1
              have rf1 := HZ2.out.res.frozen 1
              have r2 : w2.cell? ⟨w.heap.size, 2, none⟩ = some (.bool false) := HZ2.out.res.cell 2
              have rf2 := HZ2.out.res.frozen 2
              have r3 : w2.cell? ⟨w.heap.size, 3, none⟩ = some (.int .i64 0) := HZ2.out.res.cell 3
              have rf3 := HZ2.out.res.frozen 3
              have r4 : w2.cell? ⟨w.heap.size, 4, none⟩ = some (.string ⟨#[]⟩) := HZ2.out.res.cell 4
              have rf4 := HZ2.out.res.frozen 4
              have r5 : w2.cell? ⟨w.heap.size, 5, none⟩ = some (.string ⟨#[]⟩) := HZ2.out.res.cell 5
              have rf5 := HZ2.out.res.frozen 5
              have r6 : w2.cell? ⟨w.heap.size, 6, none⟩ = some (.string ⟨#[]⟩) := HZ2.out.res.cell 6
              have rf6 := HZ2.out.res.frozen 6
              have r7 : w2.cell? ⟨w.heap.size, 7, none⟩ = some (.string ⟨#[]⟩) := HZ2.out.res.cell 7
              have rf7 := HZ2.out.res.frozen 7
              have r8 : w2.cell? ⟨w.heap.size, 8, none⟩ = some (.slice none 0 0) := HZ2.out.res.cell 8
              have rf8 := HZ2.out.res.frozen 8
              have r9 : w2.cell? ⟨w.heap.size, 9, none⟩ = some (.string ⟨#[]⟩) := HZ2.out.res.cell 9
              have rf9 := HZ2.out.res.frozen 9
              go_wp2_with fail
              have hR2 := (((((((((((HZ2.out.res).put 0 (.int .i64 0)).put 1 (.int .i64 0)).put 2 (.bool false)).put 3 (.int .i64 0)).put 4 (.string ⟨#[]⟩)).put 5 (.string ⟨#[]⟩)).put 6 (.string ⟨#[]⟩)).put 7 (.string ⟨#[]⟩)).put 8 (.slice none 0 0)).put 9 (.string ⟨#[]⟩))
              have hR3 := (show Row _ w.heap.size 25 EVZ from by simpa [EVZ] using hR2)
              clear hR2
              refine bodyPost_ret (results_cell_row_tmp rfl _ _ w.heap.size _ EVZ (0, 0) _ rfl hR3 Tryz.underlying25 rfl evSize) rfl (POST.no HNO.out rfl ?_)
              exact (((((((((((HZ2.out.below).setCell (by simp) _).setCell (by simp) _).setCell (by simp) _).setCell (by simp) _).setCell (by simp) _).setCell (by simp) _).setCell (by simp) _).setCell (by simp) _).setCell (by simp) _).setCell (by simp) _)
            · have d5 : decide ((191 : Int) < (nn : Int)) = false := decide_eq_false (by omega)
              have d6 : decide (191 < nn) = false := decide_eq_false hbig
              obtain ⟨db, hdb⟩ : ∃ db : ByteArray, db = ⟨(Lib.itoa (nn : Int)).toArray⟩ := ⟨_, rfl⟩
              obtain ⟨pb, hpb⟩ : ∃ pb : ByteArray, pb = ⟨ps.toArray⟩ := ⟨_, rfl⟩
              have HDC : Hid (∀ W : World, Calls Tryz.prog 23 #[.int .i64 nn] W fun e w' => e = .returned (.string db) ∧ Below W.heap.size W w') := Lib.hid fun W => by
                rw [hdb]
                exact decimal_c 2 nn W (by omega) (by omega)
              have hsl : ∀ W : World, (Instr.slice 9 (.string s) (some (.int .i64 1)) (some (.int .i64 i)) none).run Tryz.prog W = .ok (.string pb) W := fun W => by
                have h := slice_at s 1 i 1 i rfl rfl hi1 (by omega) W
                rw [show i = 1 + (i - 1) by omega, piece_at s l HL.out, show i - 1 = (priS l).length by rw [← HPS.out]; omega, ← HK4.out, ← HPS.out, ← hpb] at h
                rw [show i = 1 + (i - 1) by omega, show i - 1 = (priS l).length by rw [← HPS.out]; omega]
                rw [← HPS.out]
                exact h
              have hdl : db.toList = Lib.itoa (nn : Int) := by rw [ByteArray.toList_eq, hdb]
              have hpl : pb.toList = ps := by rw [ByteArray.toList_eq, hpb]
              obtain ⟨ne, hne⟩ : ∃ b : Bool, b = (db.toList != pb.toList) := ⟨_, rfl⟩
              have HNE : Hid (ne = (Lib.itoa (nn : Int) != ps)) := by
                show _ = _
                rw [hne, hdl, hpl]
              have HNEQ := Lib.hid hne
              clear hdb hpb hdl hpl hne
              go_upto_region 13 with fail
              go_cut [78] (fun s78 wx => s78 = .bool ne ∧ Z5 w wx)
              case first =>
                go_region_with (go_at_call 23; refine (HDC.out _).mono ?_; rintro e w5 ⟨rfl, b5⟩; have HZ5 := Lib.hid (HZ.out.drew.lower b5); clear b5)
                all_goals
                  go_wp2_with fail
                  go_meet
                  exact ⟨by rw [HNEQ.out]; rfl, HZ5.out⟩
              case rest =>
              obtain ⟨rfl, hz⟩ := hcut
              obtain ⟨w2, rfl⟩ : ∃ x : World, x = wc := ⟨_, rfl⟩
              have HZ2 := Lib.hid hz
              clear hz HNEQ
              cases ne with
              | true =>
                have HNO : Hid (parseN calD l = none) := refN_num HKK.out (numP_not _ (by
                  rw [← HPS.out, HAL.out.2]
                  have h := HNE.out
                  intro he
                  rw [he] at h
                  simp at h))
                have r0 : w2.cell? ⟨w.heap.size, 0, none⟩ = some (.int .i64 0) := HZ2.out.res.cell 0
                have rf0 := HZ2.out.res.frozen 0
                have r1 : w2.cell? ⟨w.heap.size, 1, none⟩ = some (.int .i64 0) := HZ2.out.res.cell 1
                have rf1 := HZ2.out.res.frozen 1
                have r2 : w2.cell? ⟨w.heap.size, 2, none⟩ = some (.bool false) := HZ2.out.res.cell 2
                have rf2 := HZ2.out.res.frozen 2
                have r3 : w2.cell? ⟨w.heap.size, 3, none⟩ = some (.int .i64 0) := HZ2.out.res.cell 3
                have rf3 := HZ2.out.res.frozen 3
                have r4 : w2.cell? ⟨w.heap.size, 4, none⟩ = some (.string ⟨#[]⟩) := HZ2.out.res.cell 4
                have rf4 := HZ2.out.res.frozen 4
                have r5 : w2.cell? ⟨w.heap.size, 5, none⟩ = some (.string ⟨#[]⟩) := HZ2.out.res.cell 5
                have rf5 := HZ2.out.res.frozen 5
                have r6 : w2.cell? ⟨w.heap.size, 6, none⟩ = some (.string ⟨#[]⟩) := HZ2.out.res.cell 6
                have rf6 := HZ2.out.res.frozen 6
                have r7 : w2.cell? ⟨w.heap.size, 7, none⟩ = some (.string ⟨#[]⟩) := HZ2.out.res.cell 7
                have rf7 := HZ2.out.res.frozen 7
                have r8 : w2.cell? ⟨w.heap.size, 8, none⟩ = some (.slice none 0 0) := HZ2.out.res.cell 8
                have rf8 := HZ2.out.res.frozen 8
                have r9 : w2.cell? ⟨w.heap.size, 9, none⟩ = some (.string ⟨#[]⟩) := HZ2.out.res.cell 9
                have rf9 := HZ2.out.res.frozen 9
                go_wp2_with fail
                have hR2 := (((((((((((HZ2.out.res).put 0 (.int .i64 0)).put 1 (.int .i64 0)).put 2 (.bool false)).put 3 (.int .i64 0)).put 4 (.string ⟨#[]⟩)).put 5 (.string ⟨#[]⟩)).put 6 (.string ⟨#[]⟩)).put 7 (.string ⟨#[]⟩)).put 8 (.slice none 0 0)).put 9 (.string ⟨#[]⟩))
                have hR3 := (show Row _ w.heap.size 25 EVZ from by simpa [EVZ] using hR2)
                clear hR2
                refine bodyPost_ret (results_cell_row_tmp rfl _ _ w.heap.size _ EVZ (0, 0) _ rfl hR3 Tryz.underlying25 rfl evSize) rfl (POST.no HNO.out rfl ?_)
                exact (((((((((((HZ2.out.below).setCell (by simp) _).setCell (by simp) _).setCell (by simp) _).setCell (by simp) _).setCell (by simp) _).setCell (by simp) _).setCell (by simp) _).setCell (by simp) _).setCell (by simp) _).setCell (by simp) _)
              | false =>
                have HPN : Hid (parseN calD l = rrestN nn (rheadN calD (l.drop (i + 3)))) := by
                  show parseN calD l = _
                  rw [refN_at HKK.out (n := nn) (numP_yes _ nn (by rw [← HPS.out]; omega) (by rw [← HPS.out]; omega) (by rw [← HPS.out]; exact HAL.out.1) (by rw [← HPS.out]; exact HAL.out.2) (by omega) (by
                    rw [← HPS.out]
                    have h := HNE.out
                    simpa using h.symm)), HK1.out]
                go_upto_if 78 with (fail)
                go_cut [] (fun wx => Z5 w wx)
                case first =>
                  go_wp2_with fail
                  go_meet
                  exact HZ2.out
                case rest =>
                  apply_assumption
                  rw [HL.out]
                  refine stageB5 s w hs _ _ ?_
                  unfold JB5
                  refine ⟨nn, i, ?_⟩
                  repeat apply Exists.intro
                  rw [← HL.out]
                  exact ⟨⟨hcut, by omega, k2, HPN.out⟩, rfl⟩
end Go.Proofs.YtdkfgobbpadmgaaGreatDoor
