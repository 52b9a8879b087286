/- Package sysl: a text's event. -/
import Derived.Test.YtdkfgobbpadmgaaGreatDoorSyslParseN
set_option linter.unusedVariables false
set_option linter.unusedSimpArgs false
namespace Go.Proofs.YtdkfgobbpadmgaaGreatDoor
open Go.RowKit
set_option maxHeartbeats 4000000 in
set_option maxRecDepth 100000 in
theorem parse_c (cal : List UInt8 → Option (D8 × List UInt8)) (l : List UInt8) (w : World) (hl : l.length ≤ 4194304) (hG : Glb w) (hc : Lib.hasPrefix (priL l) dash8 = true ∨ CalOk cal) :
    Calls Tryz.prog 6 #[.string ⟨l.toArray⟩] w (POST cal l w) := by
  have HGLB := Lib.hid hG; have HC := Lib.hid hc; clear hG hc
  go_enter Tryz.func6, Tryz.ntmps6
  go_wp2_with fail
  refine wp_scope_jumps 0 (JNo cal l w) (fun _ _ => 0) rfl ?_ ?_
  · obtain ⟨W, hW⟩ : ∃ W, W = ((w.alloc (Obj.cells #[.int .i64 0, .int .i64 0, .bool false, .int .i64 0, .string ⟨#[]⟩, .string ⟨#[]⟩, .string ⟨#[]⟩, .string ⟨#[]⟩, .slice none 0 0, .string ⟨#[]⟩] 25)).alloc (Obj.cells #[txt l, .bool true] 42)).alloc (Obj.cells #[.int .i64 0, .int .i64 0, .bool false, .int .i64 0, .string ⟨#[]⟩, .string ⟨#[]⟩, .string ⟨#[]⟩, .string ⟨#[]⟩, .slice none 0 0, .string ⟨#[]⟩] 25) := ⟨_, rfl⟩
    have hb0 : Below w.heap.size w W := by rw [hW]; exact (((Below.refl _ _).alloc (Nat.le_refl _) _).alloc (by simp) _).alloc (by simp; omega) _
    have hR : Row W w.heap.size 25 #[.int .i64 0, .int .i64 0, .bool false, .int .i64 0, .string ⟨#[]⟩, .string ⟨#[]⟩, .string ⟨#[]⟩, .string ⟨#[]⟩, .slice none 0 0, .string ⟨#[]⟩] := by rw [hW]; exact ((Row.laid _ _ _).alloc _).alloc _
    have hT : Tk W (w.heap.size + 1) l true := by
      rw [hW]
      have := Row.laid (w.alloc (Obj.cells #[.int .i64 0, .int .i64 0, .bool false, .int .i64 0, .string ⟨#[]⟩, .string ⟨#[]⟩, .string ⟨#[]⟩, .string ⟨#[]⟩, .slice none 0 0, .string ⟨#[]⟩] 25)) 42 #[txt l, .bool true]
      rw [show (w.alloc (Obj.cells #[.int .i64 0, .int .i64 0, .bool false, .int .i64 0, .string ⟨#[]⟩, .string ⟨#[]⟩, .string ⟨#[]⟩, .string ⟨#[]⟩, .slice none 0 0, .string ⟨#[]⟩] 25)).heap.size = w.heap.size + 1 by simp] at this
      exact this.alloc _
    have hE : Row W (w.heap.size + 2) 25 #[.int .i64 0, .int .i64 0, .bool false, .int .i64 0, .string ⟨#[]⟩, .string ⟨#[]⟩, .string ⟨#[]⟩, .string ⟨#[]⟩, .slice none 0 0, .string ⟨#[]⟩] := by
      rw [hW]
      have := Row.laid ((w.alloc (Obj.cells #[.int .i64 0, .int .i64 0, .bool false, .int .i64 0, .string ⟨#[]⟩, .string ⟨#[]⟩, .string ⟨#[]⟩, .string ⟨#[]⟩, .slice none 0 0, .string ⟨#[]⟩] 25)).alloc (Obj.cells #[txt l, .bool true] 42)) 25 #[.int .i64 0, .int .i64 0, .bool false, .int .i64 0, .string ⟨#[]⟩, .string ⟨#[]⟩, .string ⟨#[]⟩, .string ⟨#[]⟩, .slice none 0 0, .string ⟨#[]⟩]
      rw [show ((w.alloc (Obj.cells #[.int .i64 0, .int .i64 0, .bool false, .int .i64 0, .string ⟨#[]⟩, .string ⟨#[]⟩, .string ⟨#[]⟩, .string ⟨#[]⟩, .slice none 0 0, .string ⟨#[]⟩] 25)).alloc (Obj.cells #[txt l, .bool true] 42)).heap.size = w.heap.size + 2 by simp] at this
      exact this
    have hgW := HGLB.out.below hb0
    have h9 : 9 ≤ w.heap.size := HGLB.out.size
    have HP : Hid (Calls Tryz.prog 12 #[.pointer (some ⟨w.heap.size + 1, 0, none⟩)] W fun e w' => ∃ a b : Int, e = .returned (.tuple #[.int .i64 a, .int .i64 b]) ∧ (∀ n : Nat, priNum (priS l) = some n → a = ((n % 8 : Nat) : Int) ∧ b = ((n / 8 : Nat) : Int)) ∧ Tk w' (w.heap.size + 1) (priL l) (true && priK l && (priNum (priS l)).isSome) ∧ Turn (· = w.heap.size + 1) W w') := Lib.hid (pri_t (w.heap.size + 1) l true W hT hl (by omega) hgW)
    rw [hW] at HP
    have HW := Lib.hid hW; have HPW := Lib.hid (show PW w W l true (EVC 0 0 false 0 [] [] [] [] (.slice none 0 0) []) from ⟨hR, hE, hT, hb0⟩)
    clear hW hb0 hR hE hgW hT
    by_cases hpk : (priK l && (priNum (priS l)).isSome) = true
    · obtain ⟨n, hn⟩ : ∃ n, priNum (priS l) = some n := by
        simp only [Bool.and_eq_true] at hpk
        exact Option.isSome_iff_exists.1 hpk.2
      have HPK : Hid ((true && priK l && (priNum (priS l)).isSome) = true) := by
        show _ = true
        simpa using hpk
      have HN := Lib.hid hn
      have HPRI : Hid (priK l = true) := by
        show priK l = true
        simp only [Bool.and_eq_true] at hpk
        exact hpk.1
      obtain ⟨hd, hhd⟩ : ∃ hd, hd = Lib.hasPrefix (priL l) dash8 := ⟨_, rfl⟩
      have HHD := Lib.hid hhd
      have hpl : (priL l).length ≤ 4194304 := Nat.le_trans (trim_len _ _) (Nat.le_trans (pFrom_len _ _) (Nat.le_trans (trim_len _ _) hl))
      clear hpk hn hhd
      go_upto_if 31 with (first
        | (go_at_call 12; refine HP.out.mono ?_; rw [← HW.out]; rintro e w1 ⟨a, b, rfl, hab, h1, t1⟩; obtain ⟨ha, hb⟩ := hab _ HN.out; subst ha; subst hb; rw [HPK.out] at h1; replace HPW := Lib.hid (HPW.out.taker t1 h1); clear hab t1 h1; have e0 := HPW.out.ev.cell 0; replace e0 : w1.cell? ⟨w.heap.size + 2, 0, none⟩ = some (.int .i64 0) := e0; have e1 := HPW.out.ev.cell 1; replace e1 : w1.cell? ⟨w.heap.size + 2, 1, none⟩ = some (.int .i64 0) := e1; have ef0 := HPW.out.ev.frozen 0; have ef1 := HPW.out.ev.frozen 1; have k1 := HPW.out.tk.c1)
        | (go_at_call 13; clear e0 e1 ef0 ef1 k1; have HP2 := Lib.hid ((HPW.out.put 0 (.int .i64 ((n % 8 : Nat) : Int))).put 1 (.int .i64 ((n / 8 : Nat) : Int))); refine (mark_t _ _ _ _ _ HP2.out.tk).mono ?_; rintro e w2 ⟨he, h1, t1⟩; replace he : e = .returned (.bool hd) := he.trans (by rw [HHD.out]; rfl); subst he; replace HP2 := Lib.hid (HP2.out.taker t1 h1); clear h1 t1))
      go_cut [] (fun wx => ∃ (t : Bool) (a : Int) (l2 : List UInt8) (ok2 : Bool), Hid (headN cal (priL l) = some (t, a, l2, ok2)) ∧ PW w wx l2 ok2 (EVC ((n % 8 : Nat) : Int) ((n / 8 : Nat) : Int) t a [] [] [] [] (.slice none 0 0) []) ∧ l2.length ≤ 4194304 ∧ -9223372036854775808 ≤ a ∧ a ≤ 9223372036854775807)
      case first =>
        cases hd with
        | true =>
          go_wp2_with fail
          go_meet
          refine ⟨false, 0, Lib.trimPrefix (priL l) dash8, true, ?_, HP2.out.cells (by simp [EVC]), Nat.le_trans (trim_len _ _) hpl, by omega, by omega⟩
          show headN cal (priL l) = _
          rw [headN, if_pos HHD.out.symm]
        | false =>
          have hno : Lib.hasPrefix (priL l) dash8 = false := HHD.out.symm
          have hco : CalOk cal := by
            rcases HC.out with h | h
            · rw [hno] at h; cases h
            · exact h
          have hT : Lib.trimPrefix (priL l) dash8 = priL l := by rw [Lib.trimPrefix, hno]; rfl
          have HP3 : Hid (PW w w2 (priL l) true (EVC ((n % 8 : Nat) : Int) ((n / 8 : Nat) : Int) false 0 [] [] [] [] (.slice none 0 0) [])) := by
            have h := HP2.out
            replace h : PW w w2 (Lib.trimPrefix (priL l) dash8) true _ := h
            rw [hT] at h
            exact h.cells (by simp [EVC])
          have k0 := HP3.out.tk.c0
          have HNO := Lib.hid hno; have HCO := Lib.hid hco
          clear hno hco hT HP2
          cases hcal : cal (priL l) with
          | none =>
            have hc2 := HCO.out.none (priL l) w2 hpl (HP3.out.glb HGLB.out) hcal
            have HC2 : Hid (Calls Tryz.prog 14 #[.string ⟨(priL l).toArray⟩] w2 fun e w' => e = .returned (.tuple #[.agg #[.int .i64 0, .int .i64 0, .int .i64 0, .int .i64 0, .int .i64 0, .int .i64 0, .int .i64 0, .int .i64 0], .string ⟨#[]⟩, .int .i64 3]) ∧ Below w2.heap.size w2 w') := Lib.hid hc2
            have HHN : Hid (headN cal (priL l) = none) := by
              show headN cal (priL l) = none
              rw [headN, if_neg (by rw [HNO.out]; simp), hcal]
            clear hc2 hcal
            go_wp2_with (go_at_call 14; refine HC2.out.mono ?_; rintro e w3 ⟨rfl, b1⟩; clear k0; have HP4 := Lib.hid (HP3.out.lower b1); clear b1)
            go_step3
            refine ⟨rfl, ?_⟩
            unfold JNo
            repeat apply Exists.intro
            have hq := HP4.out.alloc (Obj.cells #[.int .i64 0, .int .i64 0, .int .i64 0, .int .i64 0, .int .i64 0, .int .i64 0, .int .i64 0, .int .i64 0] 46)
            exact ⟨⟨hq.res, hq.below, by rw [parse_at HPRI.out HN.out, HHN.out]; rfl⟩, rfl⟩
          | some xr =>
            obtain ⟨x, r⟩ := xr
            obtain ⟨hxo, hrl⟩ := HCO.out.ok _ _ _ hcal
            have hc2 := HCO.out.some (priL l) w2 x r hpl (HP3.out.glb HGLB.out) hcal
            have hhead : headN cal (priL l) = some (true, x.nanos, Lib.trimPrefix r blank8, Lib.hasPrefix r blank8) := by
              rw [headN, if_neg (by rw [HNO.out]; simp), hcal]
            obtain ⟨y, m, d, hh, mi, ss, nn, z⟩ := x
            have HHEAD : Hid (headN cal (priL l) = some (true, nanosI y m d hh mi ss nn z, Lib.trimPrefix r blank8, Lib.hasPrefix r blank8)) := Lib.hid hhead
            replace hxo : rightB y m d hh mi ss nn z = true := hxo
            obtain ⟨rb, hrb⟩ : ∃ rb : ByteArray, rb = ⟨r.toArray⟩ := ⟨_, rfl⟩
            have HC2 : Hid (Calls Tryz.prog 14 #[.string ⟨(priL l).toArray⟩] w2 fun e w' => e = .returned (.tuple #[.agg #[.int .i64 y, .int .i64 m, .int .i64 d, .int .i64 hh, .int .i64 mi, .int .i64 ss, .int .i64 nn, .int .i64 z], .string rb, .int .i64 0]) ∧ Below w2.heap.size w2 w') := Lib.hid (by rw [hrb]; exact hc2)
            obtain ⟨NN, hNN⟩ : ∃ NN, NN = nanosI y m d hh mi ss nn z := ⟨_, rfl⟩
            have HNA : Hid (∀ w : World, Glb w → Calls Tryz.prog 15 #[.agg #[.int .i64 y, .int .i64 m, .int .i64 d, .int .i64 hh, .int .i64 mi, .int .i64 ss, .int .i64 nn, .int .i64 z]] w fun e w' => e = .returned (.tuple #[.int .i64 NN, .int .i64 0]) ∧ Below w.heap.size w w') := Lib.hid fun w hw => by rw [hNN]; exact nanos_yes _ _ _ _ _ _ _ _ w hw.cal hxo
            rw [← hNN] at HHEAD
            have HRB := Lib.hid hrb
            have hnb := nanos_bd hxo
            rw [← hNN] at hnb
            obtain ⟨hnb1, hnb2⟩ := hnb
            have hrl2 : r.length ≤ 4194304 := by omega
            clear hc2 hcal hhead hxo hNN hrb hrl
            go_wp2_with (first
              | (go_at_call 14; refine HC2.out.mono ?_; rintro e w3 ⟨rfl, b1⟩; clear k0; have HP4 := Lib.hid ((HP3.out.lower b1).alloc (Obj.cells #[.int .i64 y, .int .i64 m, .int .i64 d, .int .i64 hh, .int .i64 mi, .int .i64 ss, .int .i64 nn, .int .i64 z] 46)); clear b1)
              | (go_at_call 15; refine (HNA.out _ (HP4.out.glb HGLB.out)).mono ?_; rintro e w4 ⟨rfl, b1⟩; have HP5 := Lib.hid (HP4.out.lower b1); clear b1; have e2 := HP5.out.ev.cell 2; replace e2 : w4.cell? ⟨w.heap.size + 2, 2, none⟩ = some (.bool false) := e2; have e3 := HP5.out.ev.cell 3; replace e3 : w4.cell? ⟨w.heap.size + 2, 3, none⟩ = some (.int .i64 0) := e3; have ef2 := HP5.out.ev.frozen 2; have ef3 := HP5.out.ev.frozen 3; have k0 := HP5.out.tk.c0; have kf := HP5.out.tk.f 0)
              | (go_at_call 16; clear e2 e3 ef2 ef3 k0 kf; have hq := ((HP5.out.put 2 (.bool true)).put 3 (.int .i64 NN)).put0 r; rw [← HRB.out] at hq; have HP6 := Lib.hid hq; clear hq; refine (need_t _ _ _ _ _ HP6.out.tk).mono ?_; rintro e w5 ⟨rfl, h1, t1⟩; have HP7 := Lib.hid (HP6.out.taker t1 h1); clear h1 t1))
            go_meet
            exact ⟨true, NN, Lib.trimPrefix r blank8, Lib.hasPrefix r blank8, HHEAD, by have := HP7.out; exact (show PW w w5 (Lib.trimPrefix r blank8) (true && Lib.hasPrefix r blank8) _ from this).cells (by simp [EVC]), Nat.le_trans (trim_len _ _) hrl2, by omega, by omega⟩
      case rest =>
        obtain ⟨t, a, l2, ok2, hh, hpw, hl2, a0, a1⟩ := hcut
        have HPA : Hid (parseN cal l = restN n (some (t, a, l2, ok2))) := by
          show parseN cal l = _
          rw [parse_at HPRI.out HN.out, hh.out]
        have HPW := Lib.hid hpw
        obtain ⟨gg, hgg⟩ : ∃ gg, gg = ((n % 8 : Nat) : Int) := ⟨_, rfl⟩
        obtain ⟨ff, hff⟩ : ∃ ff, ff = ((n / 8 : Nat) : Int) := ⟨_, rfl⟩
        rw [← hgg, ← hff] at HPW
        have HGG := Lib.hid hgg; have HFF := Lib.hid hff
        clear hgg hff
        have hwc : w.heap.size + 2 < wc.heap.size := hpw.ev.lt
        clear hpw hh HHD hpl HP HW HPK HC
        go_wp2_with fail
        go_loopg [63] 4 (fun g c wr => ∃ (k : Nat) (l' : List UInt8) (ok' : Bool) (ws : List (List UInt8)), g = 4 - k ∧ k ≤ 4 ∧ c = .int .i64 k ∧ (k = 0 ∨ ok' = true) ∧ l'.length ≤ 4194304 ∧ Hid (ws.length = k) ∧ Hid (wordsN (4 - k) l' ok' ws = wordsN 4 l2 ok2 []) ∧ PW w wr l' ok' (EVC gg ff t a (ws.getD 0 []) (ws.getD 1 []) (ws.getD 2 []) (ws.getD 3 []) (.slice none 0 0) []) ∧ Row wr wc.heap.size 52 (ptrs (w.heap.size + 2)))
        case atStart => exact ⟨0, l2, ok2, [], rfl, by omega, rfl, .inl rfl, hl2, rfl, rfl, HPW.out.alloc _, Row.laid _ _ _⟩
        case round =>
          obtain ⟨k, l', ok', ws, hg, hk, rfl, hok, hl', hws, hwd, hp', hr'⟩ := hrel
          have HGK := Lib.hid hg; have HP1 := Lib.hid hp'; have HR1 := Lib.hid hr'
          clear hg hp' HPW
          by_cases hlt : k < 4
          · have cS : wr.cell? ⟨wc.heap.size, k, none⟩ = some (.pointer (some ⟨w.heap.size + 2, 4 + k, none⟩)) := (Row.cell HR1.out k).trans (ptrs_at _ k hlt)
            obtain ⟨sb, hsb⟩ : ∃ sb : ByteArray, sb = ⟨(wordS l').toArray⟩ := ⟨_, rfl⟩
            have SB : Hid (Ending.returned (txt (wordS l')) = Ending.returned (.string sb)) := Lib.hid (by rw [hsb]; rfl)
            have HSB := Lib.hid hsb; clear hsb
            obtain ⟨so, hso⟩ := EVC_at gg ff t a (ws.getD 0 []) (ws.getD 1 []) (ws.getD 2 []) (ws.getD 3 []) (.slice none 0 0) [] k hlt
            have HSO := Lib.hid hso
            have hev := EVC_word gg ff t a ws (.slice none 0 0) [] k hlt hws.out (wordS l')
            have HEV := Lib.hid hev
            have hle : (wordL l').length ≤ 4194304 := Nat.le_trans (trim_len _ _) (Nat.le_trans (pFrom_len _ _) hl')
            have hstep : wordsN (4 - k) l' ok' ws = if ok' && wordK l' then wordsN (4 - (k + 1)) (wordL l') true (ws ++ [wordS l']) else none := by
              rw [show 4 - k = (4 - (k + 1)) + 1 by omega, wordsN]
            rw [hwd.out] at hstep
            have HST := Lib.hid hstep
            clear hso hev hstep hwd
            cases hw : (ok' && wordK l') with
            | true =>
              have HWT := Lib.hid hw
              clear hw
              go_wp2_with (go_at_call 17; clear cS; refine (word_t _ _ _ _ HP1.out.tk (by omega)).mono ?_; rintro e w1 ⟨he, h1, t1⟩; replace he := he.trans SB.out; subst he; rw [HWT.out] at h1; have HP2 := Lib.hid (HP1.out.taker t1 h1); have HR2 := Lib.hid (HR1.out.turn t1 (by omega)); have cw : w1.cell? ⟨w.heap.size + 2, 4 + k, none⟩ = some (.string so) := (HP2.out.ev.cell _).trans HSO.out; have fw := HP2.out.ev.frozen (4 + k); have k1 := HP2.out.tk.c1; clear h1 t1)
              go_roundg (4 - (k + 1))
              case measure => rw [HGK.out]; omega
              case rel =>
                refine ⟨k + 1, wordL l', true, ws ++ [wordS l'], rfl, by omega, by go_num, .inr rfl, hle, ?_, ?_, ?_, HR2.out.other (show wc.heap.size ≠ w.heap.size + 2 by omega) _⟩
                · show _ = _
                  rw [List.length_append, hws.out]; rfl
                · show _ = _
                  rw [HST.out, HWT.out]; rfl
                · have := HP2.out.put (4 + k) (.string sb)
                  rw [HSB.out, HEV.out] at this
                  rw [HSB.out]
                  exact this
            | false =>
              have HWT := Lib.hid hw
              have HNO : Hid (parseN cal l = none) := by
                show parseN cal l = none
                rw [HPA.out, restN, HST.out, hw]
                rfl
              clear hw
              go_wp2_with (go_at_call 17; clear cS; refine (word_t _ _ _ _ HP1.out.tk (by omega)).mono ?_; rintro e w1 ⟨he, h1, t1⟩; replace he := he.trans SB.out; subst he; rw [HWT.out] at h1; have HP2 := Lib.hid (HP1.out.taker t1 h1); have HR2 := Lib.hid (HR1.out.turn t1 (by omega)); have cw : w1.cell? ⟨w.heap.size + 2, 4 + k, none⟩ = some (.string so) := (HP2.out.ev.cell _).trans HSO.out; have fw := HP2.out.ev.frozen (4 + k); have k1 := HP2.out.tk.c1; clear h1 t1)
              go_step3
              refine ⟨rfl, ?_⟩
              unfold JNo
              repeat apply Exists.intro
              have hq := HP2.out.put (4 + k) (.string sb)
              exact ⟨⟨hq.res, hq.below, HNO.out⟩, rfl⟩
          · obtain rfl : k = 4 := by omega
            obtain rfl : ok' = true := by simpa using hok
            have HPB : Hid (wordsN 4 l2 ok2 [] = some (ws, l')) := hwd.out.symm
            have HP2 := HP1
            clear hws hwd hok HR1 HGK hlt HP1
            obtain ⟨hd2, hhd2⟩ : ∃ b, b = Lib.hasPrefix l' [45] := ⟨_, rfl⟩
            have HHD2 := Lib.hid hhd2; clear hhd2
            go_upto_if 79 with (go_at_call 13; refine (mark_t _ _ _ _ _ HP2.out.tk).mono ?_; rintro e w3 ⟨he, h1, t1⟩; replace he : e = .returned (.bool hd2) := he.trans (by rw [HHD2.out]); subst he; have HP3 := Lib.hid (HP2.out.taker t1 h1); clear h1 t1)
            go_cut [13] (fun s13 wx => ∃ (l4 : List UInt8) (ok4 : Bool) (dv : Value) (es : List VEl), Hid (dataN l' = (es.map (fun y => (y.1, y.2.2)), l4, ok4)) ∧ PW w wx l4 ok4 (EVC gg ff t a (ws.getD 0 []) (ws.getD 1 []) (ws.getD 2 []) (ws.getD 3 []) dv []) ∧ OwnEls wx (w.heap.size + 3) dv es ∧ l4.length ≤ 4194304 ∧ SmallEls es)
            case first =>
              cases hd2 with
              | true =>
                go_wp2_with fail
                go_meet
                refine ⟨Lib.trimPrefix l' [45], true, .slice none 0 0, [], ?_, HP3.out, OwnEls.nil _ _, Nat.le_trans (trim_len _ _) hl', ⟨by simp, by simp⟩⟩
                show dataN l' = _
                rw [dataN, if_pos HHD2.out.symm]; rfl
              | false =>
                have hT : Lib.trimPrefix l' [45] = l' := by rw [Lib.trimPrefix, HHD2.out.symm]; rfl
                have HP4 : Hid (PW w w3 l' true (EVC gg ff t a (ws.getD 0 []) (ws.getD 1 []) (ws.getD 2 []) (ws.getD 3 []) (.slice none 0 0) [])) := by
                  have h := HP3.out
                  replace h : PW w w3 (Lib.trimPrefix l' [45]) true _ := h
                  rw [hT] at h
                  exact h
                have HDN : Hid (dataN l' = elsN (l'.length + 2) true l' true []) := by
                  show dataN l' = _
                  rw [dataN, if_neg (by rw [← HHD2.out]; simp)]
                clear hT HP3 HP2
                go_wp2_with fail
                go_loopg [13] (l'.length + 1) (fun g s13 wr => ∃ (n : Nat) (first : Bool) (l5 : List UInt8) (ok5 : Bool) (dv : Value) (es : List VEl), s13 = .bool first ∧ g = l5.length + first.toNat ∧ l5.length + first.toNat < n ∧ l5.length ≤ 4194304 ∧ es.length + l5.length ≤ 4194304 ∧ Hid (elsN n first l5 ok5 (es.map fun y => (y.1, y.2.2)) = dataN l') ∧ PW w wr l5 ok5 (EVC gg ff t a (ws.getD 0 []) (ws.getD 1 []) (ws.getD 2 []) (ws.getD 3 []) dv []) ∧ OwnEls wr (w.heap.size + 3) dv es ∧ SmallEls es)
                case atStart => exact ⟨l'.length + 2, true, l', true, .slice none 0 0, [], rfl, rfl, by simp, hl', by simpa using hl', HDN.out.symm, HP4.out, OwnEls.nil _ _, ⟨by simp, by simp⟩⟩
                case round =>
                  obtain ⟨nn, first, l5, ok5, dv, es, rfl, hg, hn, hl5, hes, hv, hp5, ho5, hsm⟩ := hrel
                  have HGK := Lib.hid hg; have HP5 := Lib.hid hp5; have HO5 := Lib.hid ho5; have HSM := Lib.hid hsm
                  clear hg hp5 ho5 hsm HP4
                  have k1 := HP5.out.tk.c1
                  cases ok5 with
                  | false =>
                    have HV : Hid (dataN l' = (es.map (fun y => (y.1, y.2.2)), l5, false)) := by
                      show dataN l' = _
                      rw [← hv.out]
                      match nn, hn with
                      | nn + 1, _ => simp [elsN]
                    clear hv
                    go_wp2_with fail
                    go_meet
                    exact ⟨l5, false, dv, es, HV, HP5.out, HO5.out, hl5, HSM.out⟩
                  | true =>
                    cases hp : Lib.hasPrefix l5 open8 with
                    | false =>
                      have hT : Lib.trimPrefix l5 open8 = l5 := by rw [Lib.trimPrefix, hp]; rfl
                      have HT5 := Lib.hid hT; have HPX := Lib.hid hp
                      have HH : Hid (∀ w : World, Calls Tryz.prog 18 #[.string ⟨l5.toArray⟩, .string ⟨#[91]⟩] w fun e w' => e = .returned (.bool false) ∧ w = w') := Lib.hid fun w => (Tryz.strings_HasPrefix _ _ w).mono fun e w' ⟨he, hw⟩ => ⟨he.trans (by rw [← HPX.out]; rfl), hw.symm⟩
                      clear hT hp
                      cases first with
                      | false =>
                        have HV : Hid (dataN l' = (es.map (fun y => (y.1, y.2.2)), l5, true)) := by
                          show dataN l' = _
                          rw [← hv.out]
                          match nn, hn with
                          | nn + 1, _ => simp [elsN, HPX.out]
                        have k0 := HP5.out.tk.c0
                        go_wp2_with (go_at_call 18; refine (HH.out _).mono ?_; rintro e w4 ⟨rfl, rfl⟩)
                        go_meet
                        exact ⟨l5, true, dv, es, HV, HP5.out, HO5.out, hl5, HSM.out⟩
                      | true =>
                        have HV : Hid (elsN (nn - 1) false l5 false (es.map fun y => (y.1, y.2.2)) = dataN l') := by
                          show _ = dataN l'
                          rw [← hv.out]
                          match nn, hn with
                          | nn + 1, _ => simp [elsN, HPX.out]
                        go_wp2_with (go_at_call 16; clear k1; refine (need_t _ _ _ _ _ HP5.out.tk).mono ?_; rintro e w4 ⟨rfl, h1, t1⟩; replace h1 : Tk w4 (w.heap.size + 1) (Lib.trimPrefix l5 open8) (true && Lib.hasPrefix l5 open8) := h1; rw [HPX.out, HT5.out] at h1; have HP6 := Lib.hid (HP5.out.taker t1 h1); have HO6 := Lib.hid (HO5.out.turn t1 (by omega)); have k1 := HP6.out.tk.c1; clear h1 t1)
                        go_roundg l5.length
                        case measure => rw [HGK.out]; simp
                        case rel => exact ⟨nn - 1, false, l5, false, dv, es, rfl, by simp, by simp at hn ⊢; omega, hl5, hes, HV, HP6.out, HO6.out, HSM.out⟩
                    | true =>
                      have HH : Hid (∀ w : World, Calls Tryz.prog 18 #[.string ⟨l5.toArray⟩, .string ⟨#[91]⟩] w fun e w' => e = .returned (.bool true) ∧ w = w') := Lib.hid fun w => (Tryz.strings_HasPrefix _ _ w).mono fun e w' ⟨he, hw⟩ => ⟨he.trans (by rw [← hp]; rfl), hw.symm⟩
                      have hlt6 : (Lib.trimPrefix l5 open8).length < l5.length := trim_lt hp
                      have hl6 : (Lib.trimPrefix l5 open8).length ≤ 4194304 := by omega
                      have HPX := Lib.hid hp
                      obtain ⟨dp, dl, dc, rfl⟩ := owns_slice HO5.out.row
                      obtain ⟨i0, hi, hz0, hz1, hz2⟩ := info_parts elInfo
                      obtain ⟨l6, hl6e⟩ : ∃ l6, l6 = Lib.trimPrefix l5 open8 := ⟨_, rfl⟩
                      rw [← hl6e] at hlt6 hl6
                      have HL6 := Lib.hid hl6e; clear hl6e
                      have HV : Hid (elsN (nn - 1) false (Lib.trimPrefix (elemR l6 true).2.1 [93]) ((elemR l6 true).2.2 && Lib.hasPrefix (elemR l6 true).2.1 [93]) ((es.map fun y => (y.1, y.2.2)) ++ [(elemN l6, (elemR l6 true).1)]) = dataN l') := by
                        show _ = dataN l'
                        rw [← hv.out]
                        match nn, hn with
                        | nn + 1, _ =>
                          rw [elsN, HPX.out, HL6.out]
                          simp
                      obtain ⟨er1, er2, er3, her⟩ : ∃ a b c, elemR l6 true = (a, b, c) := ⟨_, _, _, rfl⟩
                      have hsz := elemR_small 4194304 l6 true hl6
                      have hsn := HSM.out.snoc l6
                      rw [her] at HV hsz hsn
                      have HSN := Lib.hid hsn; have HER := Lib.hid her
                      obtain ⟨hs1, hs2, hs3, hs4⟩ := hsz
                      replace hs2 : er2.length ≤ l6.length := hs2
                      have htr := trim_len er2 [93]
                      clear hp hs1 hs3 hs4 hsn her hv
                      cases first
                      all_goals
                        have k0 := HP5.out.tk.c0
                        go_upto_region 23 with (first
                          | (go_at_call 18; refine (HH.out _).mono ?_; rintro e w4 ⟨rfl, rfl⟩)
                          | (go_at_call 16; clear k1 k0; refine (need_t _ _ _ _ _ HP5.out.tk).mono ?_; rintro e w4 ⟨rfl, h1, t1⟩; replace h1 : Tk w4 (w.heap.size + 1) (Lib.trimPrefix l5 open8) (true && Lib.hasPrefix l5 open8) := h1; rw [HPX.out, ← HL6.out, Bool.true_and] at h1; have HP6 := Lib.hid (HP5.out.taker t1 h1); have HO6 := Lib.hid (HO5.out.turn t1 (by omega)); have k1 := HP6.out.tk.c1; have e8 := HP6.out.ev.cell 8; replace e8 : w4.cell? ⟨w.heap.size + 2, 8, none⟩ = some (.slice dp dl dc) := e8; clear h1 t1))
                        go_region_law (first
                          | (refine step_append_lies _ rfl (.tmp 101) (.tmp 104) 23 rfl (w.heap.size + 3) 58 i0 (.agg #[.string ⟨#[]⟩, .slice none 0 0]) 2 40 Tryz.underlying23 hi hz0 hz1 hz2 rfl (by decide) (.slice dp dl dc) es.length (elCells es) (by simp [Act.eval, Act.put]) (HO7.out.row.alloc _) ⟨w5.heap.size, 0, none⟩ 1 1 [.string ⟨(elemN l6).toArray⟩, .slice vp vl vc] (by simp [Act.eval, Act.put]) rfl (World.news_of_block (heap_alloc_new _ _)) (by simp [Value.oneCell']) (by decide) (by unfold maxLen; omega) (by omega) (by have := HP7.out.ev.lt; simp; omega) (w5.heap.size + 1) (by simp) ?_; intro g cap w6 hown6 hgrow6 hloc6 hlt6b; have HO8 := Lib.hid (OwnEls.snoc (id := elemN l6) (v := .slice vp vl vc) (ps := er1) HO6.out.drew HO7.out (show w.heap.size + 3 ≤ w4.heap.size from HP6.out.ev.lt) HV5.out hown6 hgrow6 hloc6); have HP8 := Lib.hid ((HP7.out.alloc _).grown hgrow6 (fun k hk => own_ge HO7.out.row hk)); have e86 := HP8.out.ev.cell 8; replace e86 : w6.cell? ⟨w.heap.size + 2, 8, none⟩ = some (.slice dp dl dc) := e86; have ef86 := HP8.out.ev.frozen 8; clear hown6 hgrow6 hloc6 hlt6b e85 e85b)
                          | (go_simp; go_wp2_with (go_at_call 19; refine (elem_t _ _ _ _ HP6.out.drew.tk hl6).mono ?_; rintro e w5 ⟨v, he, hv5, hk5, t5⟩; obtain ⟨vp, vl, vc, rfl⟩ := owns_slice hv5; replace he : e = .returned (.agg #[.string ⟨(elemN l6).toArray⟩, .slice vp vl vc]) := he; subst he; rw [HER.out] at hv5 hk5; have HP7 := Lib.hid (HP6.out.drew.taker t5 hk5); have HO7 := Lib.hid (HO6.out.drew.turn t5 (by omega)); have HV5 := Lib.hid hv5; have e85 := HP7.out.ev.cell 8; replace e85 : w5.cell? ⟨w.heap.size + 2, 8, none⟩ = some (.slice dp dl dc) := e85; have e85b := (HP7.out.alloc (Obj.cells #[.string ⟨(elemN l6).toArray⟩, .slice vp vl vc] 58)).ev.cell 8; replace e85b : (w5.alloc (Obj.cells #[.string ⟨(elemN l6).toArray⟩, .slice vp vl vc] 58)).cell? ⟨w.heap.size + 2, 8, none⟩ = some (.slice dp dl dc) := e85b; clear hv5 hk5 t5 e8)))
                        all_goals
                          go_wp2_with fail
                          go_roundg (Lib.trimPrefix er2 [93]).length
                          case measure => rw [HGK.out]; omega
                          case rel =>
                            refine ⟨nn - 1, false, Lib.trimPrefix er2 [93], er3 && Lib.hasPrefix er2 [93], .slice (some ⟨g, 0, none⟩) (es.length + 1) cap, es ++ [(elemN l6, .slice vp vl vc, er1)], rfl, by simp, ?_, ?_, ?_, ?_, ?_, ?_, ?_⟩
                            · simp only [Bool.toNat_false, Bool.toNat_true] at hn ⊢; omega
                            · omega
                            · rw [List.length_append, List.length_singleton]; omega
                            · show _ = dataN l'
                              rw [← HV.out, List.map_append]
                              rfl
                            · exact (HP8.out.put 8 (.slice (some ⟨g, 0, none⟩) (es.length + 1) cap)).cells (by simp [EVC])
                            · exact HO8.out.put (show w.heap.size + 2 < w.heap.size + 3 by omega) _
                            · have := HSN.out (.slice vp vl vc) (by omega)
                              simpa using this
            case rest =>
              obtain ⟨l4, ok4, dv, es, hdn, hp4, ho4, hl4, hsm⟩ := hcut
              obtain ⟨dp, dl, dc, rfl⟩ := owns_slice ho4.row
              have HP4 := Lib.hid hp4; have HO4 := Lib.hid ho4; have HSM := Lib.hid hsm
              obtain ⟨hw1, hw2⟩ := wordsN_small 4194304 4 l2 ok2 [] ws l' hl2 (by simp) HPB.out
              have s0 := getD_small hw1 0; have s1 := getD_small hw1 1; have s2 := getD_small hw1 2; have s3 := getD_small hw1 3
              have HFIN : Hid (∀ (tx : List UInt8) (ok5 : Bool), textN l4 ok4 = some (tx, ok5) → parseN cal l = if ok5 = true ∧ rightP ⟨n % 8, n / 8, t, a, ws.getD 0 [], ws.getD 1 [], ws.getD 2 [], ws.getD 3 [], es.map (fun y => (y.1, y.2.2)), tx⟩ = 0 then some ⟨n % 8, n / 8, t, a, ws.getD 0 [], ws.getD 1 [], ws.getD 2 [], ws.getD 3 [], es.map (fun y => (y.1, y.2.2)), tx⟩ else none) := Lib.hid fun tx ok5 h => by
                rw [HPA.out, restN]
                simp only [HPB.out, hdn.out, h]
              have HFN : Hid (textN l4 ok4 = none → parseN cal l = none) := Lib.hid fun h => by
                rw [HPA.out, restN]
                simp only [HPB.out, hdn.out, h]
              have HRT : Hid (∀ tx : List UInt8, tx.length ≤ 4194304 → ∀ W : World, Glb W → OwnEls W (w.heap.size + 3) (.slice dp dl dc) es → Calls Tryz.prog 20 #[.agg #[.int .i64 gg, .int .i64 ff, .bool t, .int .i64 a, .string ⟨(ws.getD 0 []).toArray⟩, .string ⟨(ws.getD 1 []).toArray⟩, .string ⟨(ws.getD 2 []).toArray⟩, .string ⟨(ws.getD 3 []).toArray⟩, .slice dp dl dc, .string ⟨tx.toArray⟩]] W fun e w' => e = .returned (.int .i64 (rightP ⟨n % 8, n / 8, t, a, ws.getD 0 [], ws.getD 1 [], ws.getD 2 [], ws.getD 3 [], es.map (fun y => (y.1, y.2.2)), tx⟩)) ∧ Below W.heap.size W w') := Lib.hid fun tx htx W hG hO => by
                have h := right_c gg ff t a ⟨(ws.getD 0 []).toArray⟩ ⟨(ws.getD 1 []).toArray⟩ ⟨(ws.getD 2 []).toArray⟩ ⟨(ws.getD 3 []).toArray⟩ ⟨tx.toArray⟩ (.slice dp dl dc) (es.map VEl.bel) W hO.elems HSM.out.elsIn hG a0 a1 (Nat.le_trans s0 (by omega)) (Nat.le_trans s1 (by omega)) (Nat.le_trans s2 (by omega)) (Nat.le_trans s3 (by omega)) (Nat.le_trans htx (by omega))
                have he : rightP ⟨n % 8, n / 8, t, a, ws.getD 0 [], ws.getD 1 [], ws.getD 2 [], ws.getD 3 [], es.map (fun y => (y.1, y.2.2)), tx⟩ = rightE gg ff t a ⟨(ws.getD 0 []).toArray⟩ ⟨(ws.getD 1 []).toArray⟩ ⟨(ws.getD 2 []).toArray⟩ ⟨(ws.getD 3 []).toArray⟩ ⟨tx.toArray⟩ (es.map VEl.bel) := by
                  rw [rightP, HGG.out, HFF.out]
                  exact (rightE_same _ _ _ _ _ _ _ _ _ (bel_same es)).symm
                rw [he]
                exact h
              clear hp4 ho4 hsm hw1 hw2 s0 s1 s2 s3 hdn HPA HPB HN HPRI
              cases ok4 with
              | false =>
                have HNO : Hid (parseN cal l = none) := by
                  show parseN cal l = none
                  rw [HFIN.out [] false (by simp [textN]), if_neg (by simp)]
                have k1 := HP4.out.tk.c1
                go_wp2_with fail
                go_step3
                have r0 : wc.cell? ⟨w.heap.size, 0, none⟩ = some (.int .i64 0) := HP4.out.res.cell 0; have fr0 := HP4.out.res.frozen 0; have r1 : wc.cell? ⟨w.heap.size, 1, none⟩ = some (.int .i64 0) := HP4.out.res.cell 1; have fr1 := HP4.out.res.frozen 1; have r2 : wc.cell? ⟨w.heap.size, 2, none⟩ = some (.bool false) := HP4.out.res.cell 2; have fr2 := HP4.out.res.frozen 2; have r3 : wc.cell? ⟨w.heap.size, 3, none⟩ = some (.int .i64 0) := HP4.out.res.cell 3; have fr3 := HP4.out.res.frozen 3; have r4 : wc.cell? ⟨w.heap.size, 4, none⟩ = some (.string ⟨#[]⟩) := HP4.out.res.cell 4; have fr4 := HP4.out.res.frozen 4; have r5 : wc.cell? ⟨w.heap.size, 5, none⟩ = some (.string ⟨#[]⟩) := HP4.out.res.cell 5; have fr5 := HP4.out.res.frozen 5; have r6 : wc.cell? ⟨w.heap.size, 6, none⟩ = some (.string ⟨#[]⟩) := HP4.out.res.cell 6; have fr6 := HP4.out.res.frozen 6; have r7 : wc.cell? ⟨w.heap.size, 7, none⟩ = some (.string ⟨#[]⟩) := HP4.out.res.cell 7; have fr7 := HP4.out.res.frozen 7; have r8 : wc.cell? ⟨w.heap.size, 8, none⟩ = some (.slice none 0 0) := HP4.out.res.cell 8; have fr8 := HP4.out.res.frozen 8; have r9 : wc.cell? ⟨w.heap.size, 9, none⟩ = some (.string ⟨#[]⟩) := HP4.out.res.cell 9; have fr9 := HP4.out.res.frozen 9
                go_wp2_with fail
                have hR2 := ((((((((((HP4.out.res).put 0 (.int .i64 0)).put 1 (.int .i64 0)).put 2 (.bool false)).put 3 (.int .i64 0)).put 4 (.string ⟨#[]⟩)).put 5 (.string ⟨#[]⟩)).put 6 (.string ⟨#[]⟩)).put 7 (.string ⟨#[]⟩)).put 8 (.slice none 0 0)).put 9 (.string ⟨#[]⟩)
                have hR3 := (show Row _ w.heap.size 25 #[.int .i64 0, .int .i64 0, .bool false, .int .i64 0, .string ⟨#[]⟩, .string ⟨#[]⟩, .string ⟨#[]⟩, .string ⟨#[]⟩, .slice none 0 0, .string ⟨#[]⟩] from by simpa using hR2)
                clear hR2
                refine bodyPost_ret (results_cell_row_tmp rfl _ _ w.heap.size _ #[.int .i64 0, .int .i64 0, .bool false, .int .i64 0, .string ⟨#[]⟩, .string ⟨#[]⟩, .string ⟨#[]⟩, .string ⟨#[]⟩, .slice none 0 0, .string ⟨#[]⟩] (0, 0) _ rfl hR3 Tryz.underlying25 rfl evSize) rfl (POST.no HNO.out rfl ?_)
                exact ((((((((((HP4.out.below).setCell (by simp) _).setCell (by simp) _).setCell (by simp) _).setCell (by simp) _).setCell (by simp) _).setCell (by simp) _).setCell (by simp) _).setCell (by simp) _).setCell (by simp) _).setCell (by simp) _
              | true =>
                have k1 := HP4.out.tk.c1
                cases l4 with
                | nil =>
                  have HTX : Hid (textN [] true = some ([], true)) := by rfl
                  have k0 := HP4.out.tk.c0
                  obtain ⟨RV, hRV⟩ : ∃ RV, RV = rightP ⟨n % 8, n / 8, t, a, ws.getD 0 [], ws.getD 1 [], ws.getD 2 [], ws.getD 3 [], es.map (fun y => (y.1, y.2.2)), []⟩ := ⟨_, rfl⟩
                  have HRC := HRT.out [] (by simp)
                  rw [← hRV] at HRC
                  replace HRC := Lib.hid HRC
                  have HRV := Lib.hid hRV; clear hRV
                  by_cases hr : RV = 0
                  · have HYES : Hid (parseN cal l = some ⟨n % 8, n / 8, t, a, ws.getD 0 [], ws.getD 1 [], ws.getD 2 [], ws.getD 3 [], es.map (fun y => (y.1, y.2.2)), []⟩) := by
                      show parseN cal l = _
                      rw [HFIN.out [] true HTX.out, ← HRV.out, if_pos ⟨rfl, hr⟩]
                    subst hr
                    have e0 : wc.cell? ⟨w.heap.size + 2, 0, none⟩ = some (.int .i64 gg) := HP4.out.ev.cell 0; have e1 : wc.cell? ⟨w.heap.size + 2, 1, none⟩ = some (.int .i64 ff) := HP4.out.ev.cell 1; have e2 : wc.cell? ⟨w.heap.size + 2, 2, none⟩ = some (.bool t) := HP4.out.ev.cell 2; have e3 : wc.cell? ⟨w.heap.size + 2, 3, none⟩ = some (.int .i64 a) := HP4.out.ev.cell 3; have e4 : wc.cell? ⟨w.heap.size + 2, 4, none⟩ = some (.string ⟨(ws.getD 0 []).toArray⟩) := HP4.out.ev.cell 4; have e5 : wc.cell? ⟨w.heap.size + 2, 5, none⟩ = some (.string ⟨(ws.getD 1 []).toArray⟩) := HP4.out.ev.cell 5; have e6 : wc.cell? ⟨w.heap.size + 2, 6, none⟩ = some (.string ⟨(ws.getD 2 []).toArray⟩) := HP4.out.ev.cell 6; have e7 : wc.cell? ⟨w.heap.size + 2, 7, none⟩ = some (.string ⟨(ws.getD 3 []).toArray⟩) := HP4.out.ev.cell 7; have e8 : wc.cell? ⟨w.heap.size + 2, 8, none⟩ = some (.slice dp dl dc) := HP4.out.ev.cell 8; have e9 : wc.cell? ⟨w.heap.size + 2, 9, none⟩ = some (.string ⟨[].toArray⟩) := HP4.out.ev.cell 9
                    go_wp2_with (go_at_call 20; clear e0 e1 e2 e3 e4 e5 e6 e7 e8 e9; refine (HRC.out _ (HP4.out.glb HGLB.out) HO4.out).mono ?_; rintro e wz ⟨rfl, bz⟩; have HPz := Lib.hid (HP4.out.lower bz); have HOz := Lib.hid (HO4.out.lower bz); clear bz; have e0 : wz.cell? ⟨w.heap.size + 2, 0, none⟩ = some (.int .i64 gg) := HPz.out.ev.cell 0; have e1 : wz.cell? ⟨w.heap.size + 2, 1, none⟩ = some (.int .i64 ff) := HPz.out.ev.cell 1; have e2 : wz.cell? ⟨w.heap.size + 2, 2, none⟩ = some (.bool t) := HPz.out.ev.cell 2; have e3 : wz.cell? ⟨w.heap.size + 2, 3, none⟩ = some (.int .i64 a) := HPz.out.ev.cell 3; have e4 : wz.cell? ⟨w.heap.size + 2, 4, none⟩ = some (.string ⟨(ws.getD 0 []).toArray⟩) := HPz.out.ev.cell 4; have e5 : wz.cell? ⟨w.heap.size + 2, 5, none⟩ = some (.string ⟨(ws.getD 1 []).toArray⟩) := HPz.out.ev.cell 5; have e6 : wz.cell? ⟨w.heap.size + 2, 6, none⟩ = some (.string ⟨(ws.getD 2 []).toArray⟩) := HPz.out.ev.cell 6; have e7 : wz.cell? ⟨w.heap.size + 2, 7, none⟩ = some (.string ⟨(ws.getD 3 []).toArray⟩) := HPz.out.ev.cell 7; have e8 : wz.cell? ⟨w.heap.size + 2, 8, none⟩ = some (.slice dp dl dc) := HPz.out.ev.cell 8; have e9 : wz.cell? ⟨w.heap.size + 2, 9, none⟩ = some (.string ⟨[].toArray⟩) := HPz.out.ev.cell 9; have r0 : wz.cell? ⟨w.heap.size, 0, none⟩ = some (.int .i64 0) := HPz.out.res.cell 0; have fr0 := HPz.out.res.frozen 0; have r1 : wz.cell? ⟨w.heap.size, 1, none⟩ = some (.int .i64 0) := HPz.out.res.cell 1; have fr1 := HPz.out.res.frozen 1; have r2 : wz.cell? ⟨w.heap.size, 2, none⟩ = some (.bool false) := HPz.out.res.cell 2; have fr2 := HPz.out.res.frozen 2; have r3 : wz.cell? ⟨w.heap.size, 3, none⟩ = some (.int .i64 0) := HPz.out.res.cell 3; have fr3 := HPz.out.res.frozen 3; have r4 : wz.cell? ⟨w.heap.size, 4, none⟩ = some (.string ⟨#[]⟩) := HPz.out.res.cell 4; have fr4 := HPz.out.res.frozen 4; have r5 : wz.cell? ⟨w.heap.size, 5, none⟩ = some (.string ⟨#[]⟩) := HPz.out.res.cell 5; have fr5 := HPz.out.res.frozen 5; have r6 : wz.cell? ⟨w.heap.size, 6, none⟩ = some (.string ⟨#[]⟩) := HPz.out.res.cell 6; have fr6 := HPz.out.res.frozen 6; have r7 : wz.cell? ⟨w.heap.size, 7, none⟩ = some (.string ⟨#[]⟩) := HPz.out.res.cell 7; have fr7 := HPz.out.res.frozen 7; have r8 : wz.cell? ⟨w.heap.size, 8, none⟩ = some (.slice none 0 0) := HPz.out.res.cell 8; have fr8 := HPz.out.res.frozen 8; have r9 : wz.cell? ⟨w.heap.size, 9, none⟩ = some (.string ⟨#[]⟩) := HPz.out.res.cell 9; have fr9 := HPz.out.res.frozen 9; try clear k1)
                    have hR2 := ((((((((((HPz.out.res).put 0 (.int .i64 gg)).put 1 (.int .i64 ff)).put 2 (.bool t)).put 3 (.int .i64 a)).put 4 (.string ⟨(ws.getD 0 []).toArray⟩)).put 5 (.string ⟨(ws.getD 1 []).toArray⟩)).put 6 (.string ⟨(ws.getD 2 []).toArray⟩)).put 7 (.string ⟨(ws.getD 3 []).toArray⟩)).put 8 (.slice dp dl dc)).put 9 (.string ⟨[].toArray⟩)
                    have hR3 := (show Row _ w.heap.size 25 (EVC gg ff t a (ws.getD 0 []) (ws.getD 1 []) (ws.getD 2 []) (ws.getD 3 []) (.slice dp dl dc) []) from by simpa [EVC] using hR2)
                    clear hR2
                    refine bodyPost_ret (results_cell_row_tmp rfl _ _ w.heap.size _ (EVC gg ff t a (ws.getD 0 []) (ws.getD 1 []) (ws.getD 2 []) (ws.getD 3 []) (.slice dp dl dc) []) (0, 0) _ rfl hR3 Tryz.underlying25 rfl evSize) rfl (POST.yes (dv := .slice dp dl dc) (es := es) HYES.out (by rw [HGG.out, HFF.out]; rfl) ?_ rfl ?_)
                    · exact OwnEls.mono (((((((((((HOz.out).put (show w.heap.size < w.heap.size + 3 by omega) _).put (show w.heap.size < w.heap.size + 3 by omega) _).put (show w.heap.size < w.heap.size + 3 by omega) _).put (show w.heap.size < w.heap.size + 3 by omega) _).put (show w.heap.size < w.heap.size + 3 by omega) _).put (show w.heap.size < w.heap.size + 3 by omega) _).put (show w.heap.size < w.heap.size + 3 by omega) _).put (show w.heap.size < w.heap.size + 3 by omega) _).put (show w.heap.size < w.heap.size + 3 by omega) _).put (show w.heap.size < w.heap.size + 3 by omega) _) (by omega)
                    · exact ((((((((((HPz.out.below).setCell (by simp) _).setCell (by simp) _).setCell (by simp) _).setCell (by simp) _).setCell (by simp) _).setCell (by simp) _).setCell (by simp) _).setCell (by simp) _).setCell (by simp) _).setCell (by simp) _
                  · have HNO : Hid (parseN cal l = none) := by
                      show parseN cal l = none
                      rw [HFIN.out [] true HTX.out, ← HRV.out, if_neg (fun h => hr h.2)]
                    have hrv : (RV == 0) = false := beq_eq_false_iff_ne.2 hr
                    clear hr
                    have e0 : wc.cell? ⟨w.heap.size + 2, 0, none⟩ = some (.int .i64 gg) := HP4.out.ev.cell 0; have e1 : wc.cell? ⟨w.heap.size + 2, 1, none⟩ = some (.int .i64 ff) := HP4.out.ev.cell 1; have e2 : wc.cell? ⟨w.heap.size + 2, 2, none⟩ = some (.bool t) := HP4.out.ev.cell 2; have e3 : wc.cell? ⟨w.heap.size + 2, 3, none⟩ = some (.int .i64 a) := HP4.out.ev.cell 3; have e4 : wc.cell? ⟨w.heap.size + 2, 4, none⟩ = some (.string ⟨(ws.getD 0 []).toArray⟩) := HP4.out.ev.cell 4; have e5 : wc.cell? ⟨w.heap.size + 2, 5, none⟩ = some (.string ⟨(ws.getD 1 []).toArray⟩) := HP4.out.ev.cell 5; have e6 : wc.cell? ⟨w.heap.size + 2, 6, none⟩ = some (.string ⟨(ws.getD 2 []).toArray⟩) := HP4.out.ev.cell 6; have e7 : wc.cell? ⟨w.heap.size + 2, 7, none⟩ = some (.string ⟨(ws.getD 3 []).toArray⟩) := HP4.out.ev.cell 7; have e8 : wc.cell? ⟨w.heap.size + 2, 8, none⟩ = some (.slice dp dl dc) := HP4.out.ev.cell 8; have e9 : wc.cell? ⟨w.heap.size + 2, 9, none⟩ = some (.string ⟨[].toArray⟩) := HP4.out.ev.cell 9
                    go_wp2_with (go_at_call 20; clear e0 e1 e2 e3 e4 e5 e6 e7 e8 e9; refine (HRC.out _ (HP4.out.glb HGLB.out) HO4.out).mono ?_; rintro e wz ⟨rfl, bz⟩; have HPz := Lib.hid (HP4.out.lower bz); clear bz; try clear k1)
                    go_step3
                    have r0 : wz.cell? ⟨w.heap.size, 0, none⟩ = some (.int .i64 0) := HPz.out.res.cell 0; have fr0 := HPz.out.res.frozen 0; have r1 : wz.cell? ⟨w.heap.size, 1, none⟩ = some (.int .i64 0) := HPz.out.res.cell 1; have fr1 := HPz.out.res.frozen 1; have r2 : wz.cell? ⟨w.heap.size, 2, none⟩ = some (.bool false) := HPz.out.res.cell 2; have fr2 := HPz.out.res.frozen 2; have r3 : wz.cell? ⟨w.heap.size, 3, none⟩ = some (.int .i64 0) := HPz.out.res.cell 3; have fr3 := HPz.out.res.frozen 3; have r4 : wz.cell? ⟨w.heap.size, 4, none⟩ = some (.string ⟨#[]⟩) := HPz.out.res.cell 4; have fr4 := HPz.out.res.frozen 4; have r5 : wz.cell? ⟨w.heap.size, 5, none⟩ = some (.string ⟨#[]⟩) := HPz.out.res.cell 5; have fr5 := HPz.out.res.frozen 5; have r6 : wz.cell? ⟨w.heap.size, 6, none⟩ = some (.string ⟨#[]⟩) := HPz.out.res.cell 6; have fr6 := HPz.out.res.frozen 6; have r7 : wz.cell? ⟨w.heap.size, 7, none⟩ = some (.string ⟨#[]⟩) := HPz.out.res.cell 7; have fr7 := HPz.out.res.frozen 7; have r8 : wz.cell? ⟨w.heap.size, 8, none⟩ = some (.slice none 0 0) := HPz.out.res.cell 8; have fr8 := HPz.out.res.frozen 8; have r9 : wz.cell? ⟨w.heap.size, 9, none⟩ = some (.string ⟨#[]⟩) := HPz.out.res.cell 9; have fr9 := HPz.out.res.frozen 9
                    go_wp2_with fail
                    have hR2 := ((((((((((HPz.out.res).put 0 (.int .i64 0)).put 1 (.int .i64 0)).put 2 (.bool false)).put 3 (.int .i64 0)).put 4 (.string ⟨#[]⟩)).put 5 (.string ⟨#[]⟩)).put 6 (.string ⟨#[]⟩)).put 7 (.string ⟨#[]⟩)).put 8 (.slice none 0 0)).put 9 (.string ⟨#[]⟩)
                    have hR3 := (show Row _ w.heap.size 25 #[.int .i64 0, .int .i64 0, .bool false, .int .i64 0, .string ⟨#[]⟩, .string ⟨#[]⟩, .string ⟨#[]⟩, .string ⟨#[]⟩, .slice none 0 0, .string ⟨#[]⟩] from by simpa using hR2)
                    clear hR2
                    refine bodyPost_ret (results_cell_row_tmp rfl _ _ w.heap.size _ #[.int .i64 0, .int .i64 0, .bool false, .int .i64 0, .string ⟨#[]⟩, .string ⟨#[]⟩, .string ⟨#[]⟩, .string ⟨#[]⟩, .slice none 0 0, .string ⟨#[]⟩] (0, 0) _ rfl hR3 Tryz.underlying25 rfl evSize) rfl (POST.no HNO.out rfl ?_)
                    exact ((((((((((HPz.out.below).setCell (by simp) _).setCell (by simp) _).setCell (by simp) _).setCell (by simp) _).setCell (by simp) _).setCell (by simp) _).setCell (by simp) _).setCell (by simp) _).setCell (by simp) _).setCell (by simp) _
                | cons c r =>
                  obtain ⟨sb, hsb⟩ : ∃ sb : ByteArray, sb = ⟨(c :: r).toArray⟩ := ⟨_, rfl⟩
                  have hne : sb.toList.isEmpty = false := by rw [ByteArray.toList_eq, hsb]; rfl
                  have k0 := HP4.out.tk.c0
                  rw [← hsb] at k0
                  obtain ⟨l6, hl6⟩ : ∃ l6, l6 = Lib.trimPrefix (c :: r) blank8 := ⟨_, rfl⟩
                  obtain ⟨ok5, hok5⟩ : ∃ ok5, ok5 = Lib.hasPrefix (c :: r) blank8 := ⟨_, rfl⟩
                  obtain ⟨l7, hl7⟩ : ∃ l7, l7 = Lib.trimPrefix l6 bom8 := ⟨_, rfl⟩
                  obtain ⟨mk, hmk⟩ : ∃ mk, mk = Lib.hasPrefix l6 bom8 := ⟨_, rfl⟩
                  obtain ⟨sb7, hsb7⟩ : ∃ sb7 : ByteArray, sb7 = ⟨l7.toArray⟩ := ⟨_, rfl⟩
                  have HT7 : Hid (textN (c :: r) true = if !mk && l7.isEmpty then none else some (l7, ok5)) := by
                    show textN (c :: r) true = _
                    rw [textN, if_pos (by simp), hmk, hl7, hok5, hl6]
                  have hl7s : l7.length ≤ 4194304 := by
                    rw [hl7, hl6]
                    exact Nat.le_trans (trim_len _ _) (Nat.le_trans (trim_len _ _) hl4)
                  have HL6 := Lib.hid hl6; have HOK5 := Lib.hid hok5; have HL7 := Lib.hid hl7; have HMK := Lib.hid hmk; have HSB7 := Lib.hid hsb7
                  clear hsb hl6 hok5 hl7 hmk hsb7
                  cases mk with
                  | true =>
                    have HTX : Hid (textN (c :: r) true = some (l7, ok5)) := by
                      show textN (c :: r) true = _
                      rw [HT7.out]; rfl
                    go_upto_region 28 with (first
                      | (go_at_call 16; clear k1 k0; refine (need_t _ _ _ _ _ HP4.out.tk).mono ?_; rintro e w5 ⟨rfl, h1, t1⟩; replace h1 : Tk w5 (w.heap.size + 1) (Lib.trimPrefix (c :: r) blank8) (true && Lib.hasPrefix (c :: r) blank8) := h1; rw [Bool.true_and, ← HL6.out, ← HOK5.out] at h1; have HP5 := Lib.hid (HP4.out.taker t1 h1); have HO5 := Lib.hid (HO4.out.turn t1 (by omega)); clear h1 t1)
                      | (go_at_call 13; refine (mark_t _ _ _ _ _ HP5.out.tk).mono ?_; rintro e w6 ⟨he, h1, t1⟩; replace he : e = .returned (.bool true) := he.trans (by rw [HMK.out]; rfl); subst he; replace h1 : Tk w6 (w.heap.size + 1) (Lib.trimPrefix l6 bom8) ok5 := h1; rw [← HL7.out] at h1; have HP6 := Lib.hid (HP5.out.taker t1 h1); have HO6 := Lib.hid (HO5.out.turn t1 (by omega)); have k1 := HP6.out.tk.c1; have k0 := HP6.out.tk.c0; rw [← HSB7.out] at k0; have e9 : w6.cell? ⟨w.heap.size + 2, 9, none⟩ = some (.string ⟨#[]⟩) := HP6.out.ev.cell 9; have ef9 := HP6.out.ev.frozen 9; clear h1 t1))
                    obtain ⟨w7, hw7⟩ : ∃ w7, w7 = w6.setCell ⟨w.heap.size + 1 + 1, 9, none⟩ (.string sb7) := ⟨_, rfl⟩
                    rw [← hw7]
                    have HP7 : Hid (PW w w7 l7 ok5 (EVC gg ff t a (ws.getD 0 []) (ws.getD 1 []) (ws.getD 2 []) (ws.getD 3 []) (.slice dp dl dc) l7)) := by
                      rw [hw7]
                      exact Lib.hid ((HP6.out.put 9 (.string sb7)).cells (by rw [HSB7.out]; simp [EVC]))
                    have HO7 : Hid (OwnEls w7 (w.heap.size + 3) (.slice dp dl dc) es) := by
                      rw [hw7]
                      exact Lib.hid (HO6.out.put (show w.heap.size + 2 < w.heap.size + 3 by omega) _)
                    clear hw7 k0 k1 e9 ef9
                    cases ok5 with
                    | false =>
                      have HNO : Hid (parseN cal l = none) := by
                        show parseN cal l = none
                        rw [HFIN.out l7 false HTX.out, if_neg (by simp)]
                      have k1 := HP7.out.tk.c1
                      go_wp2_with fail
                      go_step3
                      have r0 : w7.cell? ⟨w.heap.size, 0, none⟩ = some (.int .i64 0) := HP7.out.res.cell 0; have fr0 := HP7.out.res.frozen 0; have r1 : w7.cell? ⟨w.heap.size, 1, none⟩ = some (.int .i64 0) := HP7.out.res.cell 1; have fr1 := HP7.out.res.frozen 1; have r2 : w7.cell? ⟨w.heap.size, 2, none⟩ = some (.bool false) := HP7.out.res.cell 2; have fr2 := HP7.out.res.frozen 2; have r3 : w7.cell? ⟨w.heap.size, 3, none⟩ = some (.int .i64 0) := HP7.out.res.cell 3; have fr3 := HP7.out.res.frozen 3; have r4 : w7.cell? ⟨w.heap.size, 4, none⟩ = some (.string ⟨#[]⟩) := HP7.out.res.cell 4; have fr4 := HP7.out.res.frozen 4; have r5 : w7.cell? ⟨w.heap.size, 5, none⟩ = some (.string ⟨#[]⟩) := HP7.out.res.cell 5; have fr5 := HP7.out.res.frozen 5; have r6 : w7.cell? ⟨w.heap.size, 6, none⟩ = some (.string ⟨#[]⟩) := HP7.out.res.cell 6; have fr6 := HP7.out.res.frozen 6; have r7 : w7.cell? ⟨w.heap.size, 7, none⟩ = some (.string ⟨#[]⟩) := HP7.out.res.cell 7; have fr7 := HP7.out.res.frozen 7; have r8 : w7.cell? ⟨w.heap.size, 8, none⟩ = some (.slice none 0 0) := HP7.out.res.cell 8; have fr8 := HP7.out.res.frozen 8; have r9 : w7.cell? ⟨w.heap.size, 9, none⟩ = some (.string ⟨#[]⟩) := HP7.out.res.cell 9; have fr9 := HP7.out.res.frozen 9
                      go_wp2_with fail
                      have hR2 := ((((((((((HP7.out.res).put 0 (.int .i64 0)).put 1 (.int .i64 0)).put 2 (.bool false)).put 3 (.int .i64 0)).put 4 (.string ⟨#[]⟩)).put 5 (.string ⟨#[]⟩)).put 6 (.string ⟨#[]⟩)).put 7 (.string ⟨#[]⟩)).put 8 (.slice none 0 0)).put 9 (.string ⟨#[]⟩)
                      have hR3 := (show Row _ w.heap.size 25 #[.int .i64 0, .int .i64 0, .bool false, .int .i64 0, .string ⟨#[]⟩, .string ⟨#[]⟩, .string ⟨#[]⟩, .string ⟨#[]⟩, .slice none 0 0, .string ⟨#[]⟩] from by simpa using hR2)
                      clear hR2
                      refine bodyPost_ret (results_cell_row_tmp rfl _ _ w.heap.size _ #[.int .i64 0, .int .i64 0, .bool false, .int .i64 0, .string ⟨#[]⟩, .string ⟨#[]⟩, .string ⟨#[]⟩, .string ⟨#[]⟩, .slice none 0 0, .string ⟨#[]⟩] (0, 0) _ rfl hR3 Tryz.underlying25 rfl evSize) rfl (POST.no HNO.out rfl ?_)
                      exact ((((((((((HP7.out.below).setCell (by simp) _).setCell (by simp) _).setCell (by simp) _).setCell (by simp) _).setCell (by simp) _).setCell (by simp) _).setCell (by simp) _).setCell (by simp) _).setCell (by simp) _).setCell (by simp) _
                    | true =>
                      have k1 := HP7.out.tk.c1
                      obtain ⟨RV, hRV⟩ : ∃ RV, RV = rightP ⟨n % 8, n / 8, t, a, ws.getD 0 [], ws.getD 1 [], ws.getD 2 [], ws.getD 3 [], es.map (fun y => (y.1, y.2.2)), l7⟩ := ⟨_, rfl⟩
                      have HRC := HRT.out l7 hl7s
                      rw [← hRV] at HRC
                      replace HRC := Lib.hid HRC
                      have HRV := Lib.hid hRV; clear hRV
                      by_cases hr : RV = 0
                      · have HYES : Hid (parseN cal l = some ⟨n % 8, n / 8, t, a, ws.getD 0 [], ws.getD 1 [], ws.getD 2 [], ws.getD 3 [], es.map (fun y => (y.1, y.2.2)), l7⟩) := by
                          show parseN cal l = _
                          rw [HFIN.out l7 true HTX.out, ← HRV.out, if_pos ⟨rfl, hr⟩]
                        subst hr
                        have e0 : w7.cell? ⟨w.heap.size + 2, 0, none⟩ = some (.int .i64 gg) := HP7.out.ev.cell 0; have e1 : w7.cell? ⟨w.heap.size + 2, 1, none⟩ = some (.int .i64 ff) := HP7.out.ev.cell 1; have e2 : w7.cell? ⟨w.heap.size + 2, 2, none⟩ = some (.bool t) := HP7.out.ev.cell 2; have e3 : w7.cell? ⟨w.heap.size + 2, 3, none⟩ = some (.int .i64 a) := HP7.out.ev.cell 3; have e4 : w7.cell? ⟨w.heap.size + 2, 4, none⟩ = some (.string ⟨(ws.getD 0 []).toArray⟩) := HP7.out.ev.cell 4; have e5 : w7.cell? ⟨w.heap.size + 2, 5, none⟩ = some (.string ⟨(ws.getD 1 []).toArray⟩) := HP7.out.ev.cell 5; have e6 : w7.cell? ⟨w.heap.size + 2, 6, none⟩ = some (.string ⟨(ws.getD 2 []).toArray⟩) := HP7.out.ev.cell 6; have e7 : w7.cell? ⟨w.heap.size + 2, 7, none⟩ = some (.string ⟨(ws.getD 3 []).toArray⟩) := HP7.out.ev.cell 7; have e8 : w7.cell? ⟨w.heap.size + 2, 8, none⟩ = some (.slice dp dl dc) := HP7.out.ev.cell 8; have e9 : w7.cell? ⟨w.heap.size + 2, 9, none⟩ = some (.string ⟨l7.toArray⟩) := HP7.out.ev.cell 9
                        go_wp2_with (go_at_call 20; clear e0 e1 e2 e3 e4 e5 e6 e7 e8 e9; refine (HRC.out _ (HP7.out.glb HGLB.out) HO7.out).mono ?_; rintro e wz ⟨rfl, bz⟩; have HPz := Lib.hid (HP7.out.lower bz); have HOz := Lib.hid (HO7.out.lower bz); clear bz; have e0 : wz.cell? ⟨w.heap.size + 2, 0, none⟩ = some (.int .i64 gg) := HPz.out.ev.cell 0; have e1 : wz.cell? ⟨w.heap.size + 2, 1, none⟩ = some (.int .i64 ff) := HPz.out.ev.cell 1; have e2 : wz.cell? ⟨w.heap.size + 2, 2, none⟩ = some (.bool t) := HPz.out.ev.cell 2; have e3 : wz.cell? ⟨w.heap.size + 2, 3, none⟩ = some (.int .i64 a) := HPz.out.ev.cell 3; have e4 : wz.cell? ⟨w.heap.size + 2, 4, none⟩ = some (.string ⟨(ws.getD 0 []).toArray⟩) := HPz.out.ev.cell 4; have e5 : wz.cell? ⟨w.heap.size + 2, 5, none⟩ = some (.string ⟨(ws.getD 1 []).toArray⟩) := HPz.out.ev.cell 5; have e6 : wz.cell? ⟨w.heap.size + 2, 6, none⟩ = some (.string ⟨(ws.getD 2 []).toArray⟩) := HPz.out.ev.cell 6; have e7 : wz.cell? ⟨w.heap.size + 2, 7, none⟩ = some (.string ⟨(ws.getD 3 []).toArray⟩) := HPz.out.ev.cell 7; have e8 : wz.cell? ⟨w.heap.size + 2, 8, none⟩ = some (.slice dp dl dc) := HPz.out.ev.cell 8; have e9 : wz.cell? ⟨w.heap.size + 2, 9, none⟩ = some (.string ⟨l7.toArray⟩) := HPz.out.ev.cell 9; have r0 : wz.cell? ⟨w.heap.size, 0, none⟩ = some (.int .i64 0) := HPz.out.res.cell 0; have fr0 := HPz.out.res.frozen 0; have r1 : wz.cell? ⟨w.heap.size, 1, none⟩ = some (.int .i64 0) := HPz.out.res.cell 1; have fr1 := HPz.out.res.frozen 1; have r2 : wz.cell? ⟨w.heap.size, 2, none⟩ = some (.bool false) := HPz.out.res.cell 2; have fr2 := HPz.out.res.frozen 2; have r3 : wz.cell? ⟨w.heap.size, 3, none⟩ = some (.int .i64 0) := HPz.out.res.cell 3; have fr3 := HPz.out.res.frozen 3; have r4 : wz.cell? ⟨w.heap.size, 4, none⟩ = some (.string ⟨#[]⟩) := HPz.out.res.cell 4; have fr4 := HPz.out.res.frozen 4; have r5 : wz.cell? ⟨w.heap.size, 5, none⟩ = some (.string ⟨#[]⟩) := HPz.out.res.cell 5; have fr5 := HPz.out.res.frozen 5; have r6 : wz.cell? ⟨w.heap.size, 6, none⟩ = some (.string ⟨#[]⟩) := HPz.out.res.cell 6; have fr6 := HPz.out.res.frozen 6; have r7 : wz.cell? ⟨w.heap.size, 7, none⟩ = some (.string ⟨#[]⟩) := HPz.out.res.cell 7; have fr7 := HPz.out.res.frozen 7; have r8 : wz.cell? ⟨w.heap.size, 8, none⟩ = some (.slice none 0 0) := HPz.out.res.cell 8; have fr8 := HPz.out.res.frozen 8; have r9 : wz.cell? ⟨w.heap.size, 9, none⟩ = some (.string ⟨#[]⟩) := HPz.out.res.cell 9; have fr9 := HPz.out.res.frozen 9; try clear k1)
                        have hR2 := ((((((((((HPz.out.res).put 0 (.int .i64 gg)).put 1 (.int .i64 ff)).put 2 (.bool t)).put 3 (.int .i64 a)).put 4 (.string ⟨(ws.getD 0 []).toArray⟩)).put 5 (.string ⟨(ws.getD 1 []).toArray⟩)).put 6 (.string ⟨(ws.getD 2 []).toArray⟩)).put 7 (.string ⟨(ws.getD 3 []).toArray⟩)).put 8 (.slice dp dl dc)).put 9 (.string ⟨l7.toArray⟩)
                        have hR3 := (show Row _ w.heap.size 25 (EVC gg ff t a (ws.getD 0 []) (ws.getD 1 []) (ws.getD 2 []) (ws.getD 3 []) (.slice dp dl dc) l7) from by simpa [EVC] using hR2)
                        clear hR2
                        refine bodyPost_ret (results_cell_row_tmp rfl _ _ w.heap.size _ (EVC gg ff t a (ws.getD 0 []) (ws.getD 1 []) (ws.getD 2 []) (ws.getD 3 []) (.slice dp dl dc) l7) (0, 0) _ rfl hR3 Tryz.underlying25 rfl evSize) rfl (POST.yes (dv := .slice dp dl dc) (es := es) HYES.out (by rw [HGG.out, HFF.out]; rfl) ?_ rfl ?_)
                        · exact OwnEls.mono (((((((((((HOz.out).put (show w.heap.size < w.heap.size + 3 by omega) _).put (show w.heap.size < w.heap.size + 3 by omega) _).put (show w.heap.size < w.heap.size + 3 by omega) _).put (show w.heap.size < w.heap.size + 3 by omega) _).put (show w.heap.size < w.heap.size + 3 by omega) _).put (show w.heap.size < w.heap.size + 3 by omega) _).put (show w.heap.size < w.heap.size + 3 by omega) _).put (show w.heap.size < w.heap.size + 3 by omega) _).put (show w.heap.size < w.heap.size + 3 by omega) _).put (show w.heap.size < w.heap.size + 3 by omega) _) (by omega)
                        · exact ((((((((((HPz.out.below).setCell (by simp) _).setCell (by simp) _).setCell (by simp) _).setCell (by simp) _).setCell (by simp) _).setCell (by simp) _).setCell (by simp) _).setCell (by simp) _).setCell (by simp) _).setCell (by simp) _
                      · have HNO : Hid (parseN cal l = none) := by
                          show parseN cal l = none
                          rw [HFIN.out l7 true HTX.out, ← HRV.out, if_neg (fun h => hr h.2)]
                        have hrv : (RV == 0) = false := beq_eq_false_iff_ne.2 hr
                        clear hr
                        have e0 : w7.cell? ⟨w.heap.size + 2, 0, none⟩ = some (.int .i64 gg) := HP7.out.ev.cell 0; have e1 : w7.cell? ⟨w.heap.size + 2, 1, none⟩ = some (.int .i64 ff) := HP7.out.ev.cell 1; have e2 : w7.cell? ⟨w.heap.size + 2, 2, none⟩ = some (.bool t) := HP7.out.ev.cell 2; have e3 : w7.cell? ⟨w.heap.size + 2, 3, none⟩ = some (.int .i64 a) := HP7.out.ev.cell 3; have e4 : w7.cell? ⟨w.heap.size + 2, 4, none⟩ = some (.string ⟨(ws.getD 0 []).toArray⟩) := HP7.out.ev.cell 4; have e5 : w7.cell? ⟨w.heap.size + 2, 5, none⟩ = some (.string ⟨(ws.getD 1 []).toArray⟩) := HP7.out.ev.cell 5; have e6 : w7.cell? ⟨w.heap.size + 2, 6, none⟩ = some (.string ⟨(ws.getD 2 []).toArray⟩) := HP7.out.ev.cell 6; have e7 : w7.cell? ⟨w.heap.size + 2, 7, none⟩ = some (.string ⟨(ws.getD 3 []).toArray⟩) := HP7.out.ev.cell 7; have e8 : w7.cell? ⟨w.heap.size + 2, 8, none⟩ = some (.slice dp dl dc) := HP7.out.ev.cell 8; have e9 : w7.cell? ⟨w.heap.size + 2, 9, none⟩ = some (.string ⟨l7.toArray⟩) := HP7.out.ev.cell 9
                        go_wp2_with (go_at_call 20; clear e0 e1 e2 e3 e4 e5 e6 e7 e8 e9; refine (HRC.out _ (HP7.out.glb HGLB.out) HO7.out).mono ?_; rintro e wz ⟨rfl, bz⟩; have HPz := Lib.hid (HP7.out.lower bz); clear bz; try clear k1)
                        go_step3
                        have r0 : wz.cell? ⟨w.heap.size, 0, none⟩ = some (.int .i64 0) := HPz.out.res.cell 0; have fr0 := HPz.out.res.frozen 0; have r1 : wz.cell? ⟨w.heap.size, 1, none⟩ = some (.int .i64 0) := HPz.out.res.cell 1; have fr1 := HPz.out.res.frozen 1; have r2 : wz.cell? ⟨w.heap.size, 2, none⟩ = some (.bool false) := HPz.out.res.cell 2; have fr2 := HPz.out.res.frozen 2; have r3 : wz.cell? ⟨w.heap.size, 3, none⟩ = some (.int .i64 0) := HPz.out.res.cell 3; have fr3 := HPz.out.res.frozen 3; have r4 : wz.cell? ⟨w.heap.size, 4, none⟩ = some (.string ⟨#[]⟩) := HPz.out.res.cell 4; have fr4 := HPz.out.res.frozen 4; have r5 : wz.cell? ⟨w.heap.size, 5, none⟩ = some (.string ⟨#[]⟩) := HPz.out.res.cell 5; have fr5 := HPz.out.res.frozen 5; have r6 : wz.cell? ⟨w.heap.size, 6, none⟩ = some (.string ⟨#[]⟩) := HPz.out.res.cell 6; have fr6 := HPz.out.res.frozen 6; have r7 : wz.cell? ⟨w.heap.size, 7, none⟩ = some (.string ⟨#[]⟩) := HPz.out.res.cell 7; have fr7 := HPz.out.res.frozen 7; have r8 : wz.cell? ⟨w.heap.size, 8, none⟩ = some (.slice none 0 0) := HPz.out.res.cell 8; have fr8 := HPz.out.res.frozen 8; have r9 : wz.cell? ⟨w.heap.size, 9, none⟩ = some (.string ⟨#[]⟩) := HPz.out.res.cell 9; have fr9 := HPz.out.res.frozen 9
                        go_wp2_with fail
                        have hR2 := ((((((((((HPz.out.res).put 0 (.int .i64 0)).put 1 (.int .i64 0)).put 2 (.bool false)).put 3 (.int .i64 0)).put 4 (.string ⟨#[]⟩)).put 5 (.string ⟨#[]⟩)).put 6 (.string ⟨#[]⟩)).put 7 (.string ⟨#[]⟩)).put 8 (.slice none 0 0)).put 9 (.string ⟨#[]⟩)
                        have hR3 := (show Row _ w.heap.size 25 #[.int .i64 0, .int .i64 0, .bool false, .int .i64 0, .string ⟨#[]⟩, .string ⟨#[]⟩, .string ⟨#[]⟩, .string ⟨#[]⟩, .slice none 0 0, .string ⟨#[]⟩] from by simpa using hR2)
                        clear hR2
                        refine bodyPost_ret (results_cell_row_tmp rfl _ _ w.heap.size _ #[.int .i64 0, .int .i64 0, .bool false, .int .i64 0, .string ⟨#[]⟩, .string ⟨#[]⟩, .string ⟨#[]⟩, .string ⟨#[]⟩, .slice none 0 0, .string ⟨#[]⟩] (0, 0) _ rfl hR3 Tryz.underlying25 rfl evSize) rfl (POST.no HNO.out rfl ?_)
                        exact ((((((((((HPz.out.below).setCell (by simp) _).setCell (by simp) _).setCell (by simp) _).setCell (by simp) _).setCell (by simp) _).setCell (by simp) _).setCell (by simp) _).setCell (by simp) _).setCell (by simp) _).setCell (by simp) _
                  | false =>
                    cases hl7c : l7 with
                    | nil =>
                      have hem : sb7.toList.isEmpty = true := by rw [ByteArray.toList_eq, HSB7.out, hl7c]; rfl
                      have hem' : sb7.toList = [] := by rw [ByteArray.toList_eq, HSB7.out, hl7c]
                      have HNO : Hid (parseN cal l = none) := Lib.hid (HFN.out (by rw [HT7.out, hl7c]; rfl))
                      clear hl7c
                      go_wp2_with (first
                        | (go_at_call 16; clear k1 k0; refine (need_t _ _ _ _ _ HP4.out.tk).mono ?_; rintro e w5 ⟨rfl, h1, t1⟩; replace h1 : Tk w5 (w.heap.size + 1) (Lib.trimPrefix (c :: r) blank8) (true && Lib.hasPrefix (c :: r) blank8) := h1; rw [Bool.true_and, ← HL6.out, ← HOK5.out] at h1; have HP5 := Lib.hid (HP4.out.taker t1 h1); have HO5 := Lib.hid (HO4.out.turn t1 (by omega)); clear h1 t1)
                        | (go_at_call 13; refine (mark_t _ _ _ _ _ HP5.out.tk).mono ?_; rintro e w6 ⟨he, h1, t1⟩; replace he : e = .returned (.bool false) := he.trans (by rw [HMK.out]; rfl); subst he; replace h1 : Tk w6 (w.heap.size + 1) (Lib.trimPrefix l6 bom8) ok5 := h1; rw [← HL7.out] at h1; have HP6 := Lib.hid (HP5.out.taker t1 h1); have HO6 := Lib.hid (HO5.out.turn t1 (by omega)); have k1 := HP6.out.tk.c1; have k0 := HP6.out.tk.c0; rw [← HSB7.out] at k0; have e9 : w6.cell? ⟨w.heap.size + 2, 9, none⟩ = some (.string ⟨#[]⟩) := HP6.out.ev.cell 9; have ef9 := HP6.out.ev.frozen 9; clear h1 t1))
                      go_step3
                      refine ⟨rfl, ?_⟩
                      unfold JNo
                      repeat apply Exists.intro
                      exact ⟨⟨HP6.out.res, HP6.out.below, HNO.out⟩, rfl⟩
                    | cons c7 r7 =>
                      have hne7 : sb7.toList.isEmpty = false := by rw [ByteArray.toList_eq, HSB7.out, hl7c]; rfl
                      have hne7' : (sb7.toList == []) = false := by rw [ByteArray.toList_eq, HSB7.out, hl7c]; rfl
                      have HTX : Hid (textN (c :: r) true = some (l7, ok5)) := by
                        show textN (c :: r) true = _
                        rw [HT7.out, hl7c]; rfl
                      clear hl7c
                      go_upto_region 28 with (first
                        | (go_at_call 16; clear k1 k0; refine (need_t _ _ _ _ _ HP4.out.tk).mono ?_; rintro e w5 ⟨rfl, h1, t1⟩; replace h1 : Tk w5 (w.heap.size + 1) (Lib.trimPrefix (c :: r) blank8) (true && Lib.hasPrefix (c :: r) blank8) := h1; rw [Bool.true_and, ← HL6.out, ← HOK5.out] at h1; have HP5 := Lib.hid (HP4.out.taker t1 h1); have HO5 := Lib.hid (HO4.out.turn t1 (by omega)); clear h1 t1)
                        | (go_at_call 13; refine (mark_t _ _ _ _ _ HP5.out.tk).mono ?_; rintro e w6 ⟨he, h1, t1⟩; replace he : e = .returned (.bool false) := he.trans (by rw [HMK.out]; rfl); subst he; replace h1 : Tk w6 (w.heap.size + 1) (Lib.trimPrefix l6 bom8) ok5 := h1; rw [← HL7.out] at h1; have HP6 := Lib.hid (HP5.out.taker t1 h1); have HO6 := Lib.hid (HO5.out.turn t1 (by omega)); have k1 := HP6.out.tk.c1; have k0 := HP6.out.tk.c0; rw [← HSB7.out] at k0; have e9 : w6.cell? ⟨w.heap.size + 2, 9, none⟩ = some (.string ⟨#[]⟩) := HP6.out.ev.cell 9; have ef9 := HP6.out.ev.frozen 9; clear h1 t1))
                      obtain ⟨w7, hw7⟩ : ∃ w7, w7 = w6.setCell ⟨w.heap.size + 1 + 1, 9, none⟩ (.string sb7) := ⟨_, rfl⟩
                      rw [← hw7]
                      have HP7 : Hid (PW w w7 l7 ok5 (EVC gg ff t a (ws.getD 0 []) (ws.getD 1 []) (ws.getD 2 []) (ws.getD 3 []) (.slice dp dl dc) l7)) := by
                        rw [hw7]
                        exact Lib.hid ((HP6.out.put 9 (.string sb7)).cells (by rw [HSB7.out]; simp [EVC]))
                      have HO7 : Hid (OwnEls w7 (w.heap.size + 3) (.slice dp dl dc) es) := by
                        rw [hw7]
                        exact Lib.hid (HO6.out.put (show w.heap.size + 2 < w.heap.size + 3 by omega) _)
                      clear hw7 k0 k1 e9 ef9
                      cases ok5 with
                      | false =>
                        have HNO : Hid (parseN cal l = none) := by
                          show parseN cal l = none
                          rw [HFIN.out l7 false HTX.out, if_neg (by simp)]
                        have k1 := HP7.out.tk.c1
                        go_wp2_with fail
                        go_step3
                        have r0 : w7.cell? ⟨w.heap.size, 0, none⟩ = some (.int .i64 0) := HP7.out.res.cell 0; have fr0 := HP7.out.res.frozen 0; have r1 : w7.cell? ⟨w.heap.size, 1, none⟩ = some (.int .i64 0) := HP7.out.res.cell 1; have fr1 := HP7.out.res.frozen 1; have r2 : w7.cell? ⟨w.heap.size, 2, none⟩ = some (.bool false) := HP7.out.res.cell 2; have fr2 := HP7.out.res.frozen 2; have r3 : w7.cell? ⟨w.heap.size, 3, none⟩ = some (.int .i64 0) := HP7.out.res.cell 3; have fr3 := HP7.out.res.frozen 3; have r4 : w7.cell? ⟨w.heap.size, 4, none⟩ = some (.string ⟨#[]⟩) := HP7.out.res.cell 4; have fr4 := HP7.out.res.frozen 4; have r5 : w7.cell? ⟨w.heap.size, 5, none⟩ = some (.string ⟨#[]⟩) := HP7.out.res.cell 5; have fr5 := HP7.out.res.frozen 5; have r6 : w7.cell? ⟨w.heap.size, 6, none⟩ = some (.string ⟨#[]⟩) := HP7.out.res.cell 6; have fr6 := HP7.out.res.frozen 6; have r7 : w7.cell? ⟨w.heap.size, 7, none⟩ = some (.string ⟨#[]⟩) := HP7.out.res.cell 7; have fr7 := HP7.out.res.frozen 7; have r8 : w7.cell? ⟨w.heap.size, 8, none⟩ = some (.slice none 0 0) := HP7.out.res.cell 8; have fr8 := HP7.out.res.frozen 8; have r9 : w7.cell? ⟨w.heap.size, 9, none⟩ = some (.string ⟨#[]⟩) := HP7.out.res.cell 9; have fr9 := HP7.out.res.frozen 9
                        go_wp2_with fail
                        have hR2 := ((((((((((HP7.out.res).put 0 (.int .i64 0)).put 1 (.int .i64 0)).put 2 (.bool false)).put 3 (.int .i64 0)).put 4 (.string ⟨#[]⟩)).put 5 (.string ⟨#[]⟩)).put 6 (.string ⟨#[]⟩)).put 7 (.string ⟨#[]⟩)).put 8 (.slice none 0 0)).put 9 (.string ⟨#[]⟩)
                        have hR3 := (show Row _ w.heap.size 25 #[.int .i64 0, .int .i64 0, .bool false, .int .i64 0, .string ⟨#[]⟩, .string ⟨#[]⟩, .string ⟨#[]⟩, .string ⟨#[]⟩, .slice none 0 0, .string ⟨#[]⟩] from by simpa using hR2)
                        clear hR2
                        refine bodyPost_ret (results_cell_row_tmp rfl _ _ w.heap.size _ #[.int .i64 0, .int .i64 0, .bool false, .int .i64 0, .string ⟨#[]⟩, .string ⟨#[]⟩, .string ⟨#[]⟩, .string ⟨#[]⟩, .slice none 0 0, .string ⟨#[]⟩] (0, 0) _ rfl hR3 Tryz.underlying25 rfl evSize) rfl (POST.no HNO.out rfl ?_)
                        exact ((((((((((HP7.out.below).setCell (by simp) _).setCell (by simp) _).setCell (by simp) _).setCell (by simp) _).setCell (by simp) _).setCell (by simp) _).setCell (by simp) _).setCell (by simp) _).setCell (by simp) _).setCell (by simp) _
                      | true =>
                        have k1 := HP7.out.tk.c1
                        obtain ⟨RV, hRV⟩ : ∃ RV, RV = rightP ⟨n % 8, n / 8, t, a, ws.getD 0 [], ws.getD 1 [], ws.getD 2 [], ws.getD 3 [], es.map (fun y => (y.1, y.2.2)), l7⟩ := ⟨_, rfl⟩
                        have HRC := HRT.out l7 hl7s
                        rw [← hRV] at HRC
                        replace HRC := Lib.hid HRC
                        have HRV := Lib.hid hRV; clear hRV
                        by_cases hr : RV = 0
                        · have HYES : Hid (parseN cal l = some ⟨n % 8, n / 8, t, a, ws.getD 0 [], ws.getD 1 [], ws.getD 2 [], ws.getD 3 [], es.map (fun y => (y.1, y.2.2)), l7⟩) := by
                            show parseN cal l = _
                            rw [HFIN.out l7 true HTX.out, ← HRV.out, if_pos ⟨rfl, hr⟩]
                          subst hr
                          have e0 : w7.cell? ⟨w.heap.size + 2, 0, none⟩ = some (.int .i64 gg) := HP7.out.ev.cell 0; have e1 : w7.cell? ⟨w.heap.size + 2, 1, none⟩ = some (.int .i64 ff) := HP7.out.ev.cell 1; have e2 : w7.cell? ⟨w.heap.size + 2, 2, none⟩ = some (.bool t) := HP7.out.ev.cell 2; have e3 : w7.cell? ⟨w.heap.size + 2, 3, none⟩ = some (.int .i64 a) := HP7.out.ev.cell 3; have e4 : w7.cell? ⟨w.heap.size + 2, 4, none⟩ = some (.string ⟨(ws.getD 0 []).toArray⟩) := HP7.out.ev.cell 4; have e5 : w7.cell? ⟨w.heap.size + 2, 5, none⟩ = some (.string ⟨(ws.getD 1 []).toArray⟩) := HP7.out.ev.cell 5; have e6 : w7.cell? ⟨w.heap.size + 2, 6, none⟩ = some (.string ⟨(ws.getD 2 []).toArray⟩) := HP7.out.ev.cell 6; have e7 : w7.cell? ⟨w.heap.size + 2, 7, none⟩ = some (.string ⟨(ws.getD 3 []).toArray⟩) := HP7.out.ev.cell 7; have e8 : w7.cell? ⟨w.heap.size + 2, 8, none⟩ = some (.slice dp dl dc) := HP7.out.ev.cell 8; have e9 : w7.cell? ⟨w.heap.size + 2, 9, none⟩ = some (.string ⟨l7.toArray⟩) := HP7.out.ev.cell 9
                          go_wp2_with (go_at_call 20; clear e0 e1 e2 e3 e4 e5 e6 e7 e8 e9; refine (HRC.out _ (HP7.out.glb HGLB.out) HO7.out).mono ?_; rintro e wz ⟨rfl, bz⟩; have HPz := Lib.hid (HP7.out.lower bz); have HOz := Lib.hid (HO7.out.lower bz); clear bz; have e0 : wz.cell? ⟨w.heap.size + 2, 0, none⟩ = some (.int .i64 gg) := HPz.out.ev.cell 0; have e1 : wz.cell? ⟨w.heap.size + 2, 1, none⟩ = some (.int .i64 ff) := HPz.out.ev.cell 1; have e2 : wz.cell? ⟨w.heap.size + 2, 2, none⟩ = some (.bool t) := HPz.out.ev.cell 2; have e3 : wz.cell? ⟨w.heap.size + 2, 3, none⟩ = some (.int .i64 a) := HPz.out.ev.cell 3; have e4 : wz.cell? ⟨w.heap.size + 2, 4, none⟩ = some (.string ⟨(ws.getD 0 []).toArray⟩) := HPz.out.ev.cell 4; have e5 : wz.cell? ⟨w.heap.size + 2, 5, none⟩ = some (.string ⟨(ws.getD 1 []).toArray⟩) := HPz.out.ev.cell 5; have e6 : wz.cell? ⟨w.heap.size + 2, 6, none⟩ = some (.string ⟨(ws.getD 2 []).toArray⟩) := HPz.out.ev.cell 6; have e7 : wz.cell? ⟨w.heap.size + 2, 7, none⟩ = some (.string ⟨(ws.getD 3 []).toArray⟩) := HPz.out.ev.cell 7; have e8 : wz.cell? ⟨w.heap.size + 2, 8, none⟩ = some (.slice dp dl dc) := HPz.out.ev.cell 8; have e9 : wz.cell? ⟨w.heap.size + 2, 9, none⟩ = some (.string ⟨l7.toArray⟩) := HPz.out.ev.cell 9; have r0 : wz.cell? ⟨w.heap.size, 0, none⟩ = some (.int .i64 0) := HPz.out.res.cell 0; have fr0 := HPz.out.res.frozen 0; have r1 : wz.cell? ⟨w.heap.size, 1, none⟩ = some (.int .i64 0) := HPz.out.res.cell 1; have fr1 := HPz.out.res.frozen 1; have r2 : wz.cell? ⟨w.heap.size, 2, none⟩ = some (.bool false) := HPz.out.res.cell 2; have fr2 := HPz.out.res.frozen 2; have r3 : wz.cell? ⟨w.heap.size, 3, none⟩ = some (.int .i64 0) := HPz.out.res.cell 3; have fr3 := HPz.out.res.frozen 3; have r4 : wz.cell? ⟨w.heap.size, 4, none⟩ = some (.string ⟨#[]⟩) := HPz.out.res.cell 4; have fr4 := HPz.out.res.frozen 4; have r5 : wz.cell? ⟨w.heap.size, 5, none⟩ = some (.string ⟨#[]⟩) := HPz.out.res.cell 5; have fr5 := HPz.out.res.frozen 5; have r6 : wz.cell? ⟨w.heap.size, 6, none⟩ = some (.string ⟨#[]⟩) := HPz.out.res.cell 6; have fr6 := HPz.out.res.frozen 6; have r7 : wz.cell? ⟨w.heap.size, 7, none⟩ = some (.string ⟨#[]⟩) := HPz.out.res.cell 7; have fr7 := HPz.out.res.frozen 7; have r8 : wz.cell? ⟨w.heap.size, 8, none⟩ = some (.slice none 0 0) := HPz.out.res.cell 8; have fr8 := HPz.out.res.frozen 8; have r9 : wz.cell? ⟨w.heap.size, 9, none⟩ = some (.string ⟨#[]⟩) := HPz.out.res.cell 9; have fr9 := HPz.out.res.frozen 9; try clear k1)
                          have hR2 := ((((((((((HPz.out.res).put 0 (.int .i64 gg)).put 1 (.int .i64 ff)).put 2 (.bool t)).put 3 (.int .i64 a)).put 4 (.string ⟨(ws.getD 0 []).toArray⟩)).put 5 (.string ⟨(ws.getD 1 []).toArray⟩)).put 6 (.string ⟨(ws.getD 2 []).toArray⟩)).put 7 (.string ⟨(ws.getD 3 []).toArray⟩)).put 8 (.slice dp dl dc)).put 9 (.string ⟨l7.toArray⟩)
                          have hR3 := (show Row _ w.heap.size 25 (EVC gg ff t a (ws.getD 0 []) (ws.getD 1 []) (ws.getD 2 []) (ws.getD 3 []) (.slice dp dl dc) l7) from by simpa [EVC] using hR2)
                          clear hR2
                          refine bodyPost_ret (results_cell_row_tmp rfl _ _ w.heap.size _ (EVC gg ff t a (ws.getD 0 []) (ws.getD 1 []) (ws.getD 2 []) (ws.getD 3 []) (.slice dp dl dc) l7) (0, 0) _ rfl hR3 Tryz.underlying25 rfl evSize) rfl (POST.yes (dv := .slice dp dl dc) (es := es) HYES.out (by rw [HGG.out, HFF.out]; rfl) ?_ rfl ?_)
                          · exact OwnEls.mono (((((((((((HOz.out).put (show w.heap.size < w.heap.size + 3 by omega) _).put (show w.heap.size < w.heap.size + 3 by omega) _).put (show w.heap.size < w.heap.size + 3 by omega) _).put (show w.heap.size < w.heap.size + 3 by omega) _).put (show w.heap.size < w.heap.size + 3 by omega) _).put (show w.heap.size < w.heap.size + 3 by omega) _).put (show w.heap.size < w.heap.size + 3 by omega) _).put (show w.heap.size < w.heap.size + 3 by omega) _).put (show w.heap.size < w.heap.size + 3 by omega) _).put (show w.heap.size < w.heap.size + 3 by omega) _) (by omega)
                          · exact ((((((((((HPz.out.below).setCell (by simp) _).setCell (by simp) _).setCell (by simp) _).setCell (by simp) _).setCell (by simp) _).setCell (by simp) _).setCell (by simp) _).setCell (by simp) _).setCell (by simp) _).setCell (by simp) _
                        · have HNO : Hid (parseN cal l = none) := by
                            show parseN cal l = none
                            rw [HFIN.out l7 true HTX.out, ← HRV.out, if_neg (fun h => hr h.2)]
                          have hrv : (RV == 0) = false := beq_eq_false_iff_ne.2 hr
                          clear hr
                          have e0 : w7.cell? ⟨w.heap.size + 2, 0, none⟩ = some (.int .i64 gg) := HP7.out.ev.cell 0; have e1 : w7.cell? ⟨w.heap.size + 2, 1, none⟩ = some (.int .i64 ff) := HP7.out.ev.cell 1; have e2 : w7.cell? ⟨w.heap.size + 2, 2, none⟩ = some (.bool t) := HP7.out.ev.cell 2; have e3 : w7.cell? ⟨w.heap.size + 2, 3, none⟩ = some (.int .i64 a) := HP7.out.ev.cell 3; have e4 : w7.cell? ⟨w.heap.size + 2, 4, none⟩ = some (.string ⟨(ws.getD 0 []).toArray⟩) := HP7.out.ev.cell 4; have e5 : w7.cell? ⟨w.heap.size + 2, 5, none⟩ = some (.string ⟨(ws.getD 1 []).toArray⟩) := HP7.out.ev.cell 5; have e6 : w7.cell? ⟨w.heap.size + 2, 6, none⟩ = some (.string ⟨(ws.getD 2 []).toArray⟩) := HP7.out.ev.cell 6; have e7 : w7.cell? ⟨w.heap.size + 2, 7, none⟩ = some (.string ⟨(ws.getD 3 []).toArray⟩) := HP7.out.ev.cell 7; have e8 : w7.cell? ⟨w.heap.size + 2, 8, none⟩ = some (.slice dp dl dc) := HP7.out.ev.cell 8; have e9 : w7.cell? ⟨w.heap.size + 2, 9, none⟩ = some (.string ⟨l7.toArray⟩) := HP7.out.ev.cell 9
                          go_wp2_with (go_at_call 20; clear e0 e1 e2 e3 e4 e5 e6 e7 e8 e9; refine (HRC.out _ (HP7.out.glb HGLB.out) HO7.out).mono ?_; rintro e wz ⟨rfl, bz⟩; have HPz := Lib.hid (HP7.out.lower bz); clear bz; try clear k1)
                          go_step3
                          have r0 : wz.cell? ⟨w.heap.size, 0, none⟩ = some (.int .i64 0) := HPz.out.res.cell 0; have fr0 := HPz.out.res.frozen 0; have r1 : wz.cell? ⟨w.heap.size, 1, none⟩ = some (.int .i64 0) := HPz.out.res.cell 1; have fr1 := HPz.out.res.frozen 1; have r2 : wz.cell? ⟨w.heap.size, 2, none⟩ = some (.bool false) := HPz.out.res.cell 2; have fr2 := HPz.out.res.frozen 2; have r3 : wz.cell? ⟨w.heap.size, 3, none⟩ = some (.int .i64 0) := HPz.out.res.cell 3; have fr3 := HPz.out.res.frozen 3; have r4 : wz.cell? ⟨w.heap.size, 4, none⟩ = some (.string ⟨#[]⟩) := HPz.out.res.cell 4; have fr4 := HPz.out.res.frozen 4; have r5 : wz.cell? ⟨w.heap.size, 5, none⟩ = some (.string ⟨#[]⟩) := HPz.out.res.cell 5; have fr5 := HPz.out.res.frozen 5; have r6 : wz.cell? ⟨w.heap.size, 6, none⟩ = some (.string ⟨#[]⟩) := HPz.out.res.cell 6; have fr6 := HPz.out.res.frozen 6; have r7 : wz.cell? ⟨w.heap.size, 7, none⟩ = some (.string ⟨#[]⟩) := HPz.out.res.cell 7; have fr7 := HPz.out.res.frozen 7; have r8 : wz.cell? ⟨w.heap.size, 8, none⟩ = some (.slice none 0 0) := HPz.out.res.cell 8; have fr8 := HPz.out.res.frozen 8; have r9 : wz.cell? ⟨w.heap.size, 9, none⟩ = some (.string ⟨#[]⟩) := HPz.out.res.cell 9; have fr9 := HPz.out.res.frozen 9
                          go_wp2_with fail
                          have hR2 := ((((((((((HPz.out.res).put 0 (.int .i64 0)).put 1 (.int .i64 0)).put 2 (.bool false)).put 3 (.int .i64 0)).put 4 (.string ⟨#[]⟩)).put 5 (.string ⟨#[]⟩)).put 6 (.string ⟨#[]⟩)).put 7 (.string ⟨#[]⟩)).put 8 (.slice none 0 0)).put 9 (.string ⟨#[]⟩)
                          have hR3 := (show Row _ w.heap.size 25 #[.int .i64 0, .int .i64 0, .bool false, .int .i64 0, .string ⟨#[]⟩, .string ⟨#[]⟩, .string ⟨#[]⟩, .string ⟨#[]⟩, .slice none 0 0, .string ⟨#[]⟩] from by simpa using hR2)
                          clear hR2
                          refine bodyPost_ret (results_cell_row_tmp rfl _ _ w.heap.size _ #[.int .i64 0, .int .i64 0, .bool false, .int .i64 0, .string ⟨#[]⟩, .string ⟨#[]⟩, .string ⟨#[]⟩, .string ⟨#[]⟩, .slice none 0 0, .string ⟨#[]⟩] (0, 0) _ rfl hR3 Tryz.underlying25 rfl evSize) rfl (POST.no HNO.out rfl ?_)
                          exact ((((((((((HPz.out.below).setCell (by simp) _).setCell (by simp) _).setCell (by simp) _).setCell (by simp) _).setCell (by simp) _).setCell (by simp) _).setCell (by simp) _).setCell (by simp) _).setCell (by simp) _).setCell (by simp) _
    · have HPK : Hid ((true && priK l && (priNum (priS l)).isSome) = false) := by
        show _ = false
        cases hq : (priK l && (priNum (priS l)).isSome)
        · simpa using hq
        · exact absurd hq hpk
      clear hpk
      go_wp2_with (go_at_call 12; refine HP.out.mono ?_; rw [← HW.out]; rintro e w1 ⟨a, b, rfl, hab, h1, t1⟩; rw [HPK.out] at h1; replace HPW := Lib.hid (HPW.out.taker t1 h1); clear hab t1 h1; have e0 := HPW.out.ev.cell 0; replace e0 : w1.cell? ⟨w.heap.size + 2, 0, none⟩ = some (.int .i64 0) := e0; have e1 := HPW.out.ev.cell 1; replace e1 : w1.cell? ⟨w.heap.size + 2, 1, none⟩ = some (.int .i64 0) := e1; have ef0 := HPW.out.ev.frozen 0; have ef1 := HPW.out.ev.frozen 1; have k1 := HPW.out.tk.c1)
      go_step3
      refine ⟨rfl, ?_⟩
      unfold JNo
      repeat apply Exists.intro
      have hq := (HPW.out.put 0 (.int .i64 a)).put 1 (.int .i64 b)
      exact ⟨⟨hq.res, hq.below, parse_no1 (by simpa using HPK.out)⟩, rfl⟩
  · intro a' wx hinv
    obtain ⟨u0, hinv⟩ := hinv
    obtain ⟨u1, hinv⟩ := hinv
    obtain ⟨u3, hinv⟩ := hinv
    obtain ⟨u4, hinv⟩ := hinv
    obtain ⟨u5, hinv⟩ := hinv
    obtain ⟨u6, hinv⟩ := hinv
    obtain ⟨u7, hinv⟩ := hinv
    obtain ⟨u8, hinv⟩ := hinv
    obtain ⟨u9, hinv⟩ := hinv
    obtain ⟨u10, hinv⟩ := hinv
    obtain ⟨u11, hinv⟩ := hinv
    obtain ⟨u12, hinv⟩ := hinv
    obtain ⟨u13, hinv⟩ := hinv
    obtain ⟨u14, hinv⟩ := hinv
    obtain ⟨u15, hinv⟩ := hinv
    obtain ⟨u16, hinv⟩ := hinv
    obtain ⟨u17, hinv⟩ := hinv
    obtain ⟨u18, hinv⟩ := hinv
    obtain ⟨u19, hinv⟩ := hinv
    obtain ⟨u20, hinv⟩ := hinv
    obtain ⟨u21, hinv⟩ := hinv
    obtain ⟨u22, hinv⟩ := hinv
    obtain ⟨u23, hinv⟩ := hinv
    obtain ⟨u24, hinv⟩ := hinv
    obtain ⟨u25, hinv⟩ := hinv
    obtain ⟨u26, hinv⟩ := hinv
    obtain ⟨u27, hinv⟩ := hinv
    obtain ⟨u28, hinv⟩ := hinv
    obtain ⟨u29, hinv⟩ := hinv
    obtain ⟨u30, hinv⟩ := hinv
    obtain ⟨u31, hinv⟩ := hinv
    obtain ⟨u32, hinv⟩ := hinv
    obtain ⟨u33, hinv⟩ := hinv
    obtain ⟨u34, hinv⟩ := hinv
    obtain ⟨u35, hinv⟩ := hinv
    obtain ⟨u36, hinv⟩ := hinv
    obtain ⟨u37, hinv⟩ := hinv
    obtain ⟨u38, hinv⟩ := hinv
    obtain ⟨u39, hinv⟩ := hinv
    obtain ⟨u40, hinv⟩ := hinv
    obtain ⟨u41, hinv⟩ := hinv
    obtain ⟨u42, hinv⟩ := hinv
    obtain ⟨u43, hinv⟩ := hinv
    obtain ⟨u44, hinv⟩ := hinv
    obtain ⟨u45, hinv⟩ := hinv
    obtain ⟨u46, hinv⟩ := hinv
    obtain ⟨u47, hinv⟩ := hinv
    obtain ⟨u48, hinv⟩ := hinv
    obtain ⟨u49, hinv⟩ := hinv
    obtain ⟨u50, hinv⟩ := hinv
    obtain ⟨u51, hinv⟩ := hinv
    obtain ⟨u52, hinv⟩ := hinv
    obtain ⟨u53, hinv⟩ := hinv
    obtain ⟨u54, hinv⟩ := hinv
    obtain ⟨u55, hinv⟩ := hinv
    obtain ⟨u56, hinv⟩ := hinv
    obtain ⟨u57, hinv⟩ := hinv
    obtain ⟨u58, hinv⟩ := hinv
    obtain ⟨u59, hinv⟩ := hinv
    obtain ⟨u60, hinv⟩ := hinv
    obtain ⟨u61, hinv⟩ := hinv
    obtain ⟨u62, hinv⟩ := hinv
    obtain ⟨u63, hinv⟩ := hinv
    obtain ⟨u64, hinv⟩ := hinv
    obtain ⟨u65, hinv⟩ := hinv
    obtain ⟨u66, hinv⟩ := hinv
    obtain ⟨u67, hinv⟩ := hinv
    obtain ⟨u68, hinv⟩ := hinv
    obtain ⟨u69, hinv⟩ := hinv
    obtain ⟨u70, hinv⟩ := hinv
    obtain ⟨u71, hinv⟩ := hinv
    obtain ⟨u72, hinv⟩ := hinv
    obtain ⟨u73, hinv⟩ := hinv
    obtain ⟨u74, hinv⟩ := hinv
    obtain ⟨u75, hinv⟩ := hinv
    obtain ⟨u76, hinv⟩ := hinv
    obtain ⟨u77, hinv⟩ := hinv
    obtain ⟨u78, hinv⟩ := hinv
    obtain ⟨u79, hinv⟩ := hinv
    obtain ⟨u80, hinv⟩ := hinv
    obtain ⟨u81, hinv⟩ := hinv
    obtain ⟨u82, hinv⟩ := hinv
    obtain ⟨u83, hinv⟩ := hinv
    obtain ⟨u84, hinv⟩ := hinv
    obtain ⟨u85, hinv⟩ := hinv
    obtain ⟨u86, hinv⟩ := hinv
    obtain ⟨u87, hinv⟩ := hinv
    obtain ⟨u88, hinv⟩ := hinv
    obtain ⟨u89, hinv⟩ := hinv
    obtain ⟨u90, hinv⟩ := hinv
    obtain ⟨u91, hinv⟩ := hinv
    obtain ⟨u92, hinv⟩ := hinv
    obtain ⟨u93, hinv⟩ := hinv
    obtain ⟨u94, hinv⟩ := hinv
    obtain ⟨u95, hinv⟩ := hinv
    obtain ⟨u96, hinv⟩ := hinv
    obtain ⟨u97, hinv⟩ := hinv
    obtain ⟨u98, hinv⟩ := hinv
    obtain ⟨u99, hinv⟩ := hinv
    obtain ⟨u100, hinv⟩ := hinv
    obtain ⟨u101, hinv⟩ := hinv
    obtain ⟨u102, hinv⟩ := hinv
    obtain ⟨u103, hinv⟩ := hinv
    obtain ⟨u104, hinv⟩ := hinv
    obtain ⟨u105, hinv⟩ := hinv
    obtain ⟨u106, hinv⟩ := hinv
    obtain ⟨u107, hinv⟩ := hinv
    obtain ⟨u108, hinv⟩ := hinv
    obtain ⟨u109, hinv⟩ := hinv
    obtain ⟨u110, hinv⟩ := hinv
    obtain ⟨u111, hinv⟩ := hinv
    obtain ⟨u112, hinv⟩ := hinv
    obtain ⟨u113, hinv⟩ := hinv
    obtain ⟨u114, hinv⟩ := hinv
    obtain ⟨u115, hinv⟩ := hinv
    obtain ⟨u116, hinv⟩ := hinv
    obtain ⟨u117, hinv⟩ := hinv
    obtain ⟨u118, hinv⟩ := hinv
    obtain ⟨u119, hinv⟩ := hinv
    obtain ⟨u120, hinv⟩ := hinv
    obtain ⟨u121, hinv⟩ := hinv
    obtain ⟨u122, hinv⟩ := hinv
    obtain ⟨u123, hinv⟩ := hinv
    obtain ⟨u124, hinv⟩ := hinv
    obtain ⟨u125, hinv⟩ := hinv
    obtain ⟨u126, hinv⟩ := hinv
    obtain ⟨u127, hinv⟩ := hinv
    obtain ⟨u128, hinv⟩ := hinv
    obtain ⟨u129, hinv⟩ := hinv
    obtain ⟨u130, hinv⟩ := hinv
    obtain ⟨u131, hinv⟩ := hinv
    obtain ⟨u132, hinv⟩ := hinv
    obtain ⟨u133, hinv⟩ := hinv
    obtain ⟨u134, hinv⟩ := hinv
    obtain ⟨u135, hinv⟩ := hinv
    obtain ⟨u136, hinv⟩ := hinv
    obtain ⟨u137, hinv⟩ := hinv
    obtain ⟨u138, hinv⟩ := hinv
    obtain ⟨u139, hinv⟩ := hinv
    obtain ⟨u140, hinv⟩ := hinv
    obtain ⟨u141, hinv⟩ := hinv
    obtain ⟨u142, hinv⟩ := hinv
    obtain ⟨u143, hinv⟩ := hinv
    obtain ⟨u144, hinv⟩ := hinv
    obtain ⟨u145, hinv⟩ := hinv
    obtain ⟨⟨hr, hb, hno⟩, ha⟩ := hinv
    subst ha
    have HR := Lib.hid hr; have HB := Lib.hid hb; have HNONE := Lib.hid hno; clear hb hno
    have c0 : wx.cell? ⟨w.heap.size, 0, none⟩ = some (.int .i64 0) := hr.cell 0
    have f0 := hr.frozen 0
    have c1 : wx.cell? ⟨w.heap.size, 1, none⟩ = some (.int .i64 0) := hr.cell 1
    have f1 := hr.frozen 1
    have c2 : wx.cell? ⟨w.heap.size, 2, none⟩ = some (.bool false) := hr.cell 2
    have f2 := hr.frozen 2
    have c3 : wx.cell? ⟨w.heap.size, 3, none⟩ = some (.int .i64 0) := hr.cell 3
    have f3 := hr.frozen 3
    have c4 : wx.cell? ⟨w.heap.size, 4, none⟩ = some (.string ⟨#[]⟩) := hr.cell 4
    have f4 := hr.frozen 4
    have c5 : wx.cell? ⟨w.heap.size, 5, none⟩ = some (.string ⟨#[]⟩) := hr.cell 5
    have f5 := hr.frozen 5
    have c6 : wx.cell? ⟨w.heap.size, 6, none⟩ = some (.string ⟨#[]⟩) := hr.cell 6
    have f6 := hr.frozen 6
    have c7 : wx.cell? ⟨w.heap.size, 7, none⟩ = some (.string ⟨#[]⟩) := hr.cell 7
    have f7 := hr.frozen 7
    have c8 : wx.cell? ⟨w.heap.size, 8, none⟩ = some (.slice none 0 0) := hr.cell 8
    have f8 := hr.frozen 8
    have c9 : wx.cell? ⟨w.heap.size, 9, none⟩ = some (.string ⟨#[]⟩) := hr.cell 9
    have f9 := hr.frozen 9
    clear hr
    go_wp2_with fail
    have hR2 := ((((((((((HR.out).put 0 (.int .i64 0)).put 1 (.int .i64 0)).put 2 (.bool false)).put 3 (.int .i64 0)).put 4 (.string ⟨#[]⟩)).put 5 (.string ⟨#[]⟩)).put 6 (.string ⟨#[]⟩)).put 7 (.string ⟨#[]⟩)).put 8 (.slice none 0 0)).put 9 (.string ⟨#[]⟩)
    have hR3 := (show Row _ w.heap.size 25 #[.int .i64 0, .int .i64 0, .bool false, .int .i64 0, .string ⟨#[]⟩, .string ⟨#[]⟩, .string ⟨#[]⟩, .string ⟨#[]⟩, .slice none 0 0, .string ⟨#[]⟩] from by simpa using hR2)
    clear hR2
    refine bodyPost_ret (results_cell_row_tmp rfl _ _ w.heap.size _ #[.int .i64 0, .int .i64 0, .bool false, .int .i64 0, .string ⟨#[]⟩, .string ⟨#[]⟩, .string ⟨#[]⟩, .string ⟨#[]⟩, .slice none 0 0, .string ⟨#[]⟩] (0, 0) _ rfl hR3 Tryz.underlying25 rfl evSize) rfl (POST.no HNONE.out rfl ?_)
    exact ((((((((((HB.out).setCell (by simp) _).setCell (by simp) _).setCell (by simp) _).setCell (by simp) _).setCell (by simp) _).setCell (by simp) _).setCell (by simp) _).setCell (by simp) _).setCell (by simp) _).setCell (by simp) _
end Go.Proofs.YtdkfgobbpadmgaaGreatDoor
