/- Package sysl's taker: a value, and the mark behind it. -/
import Derived.Test.YtdkfgobbpadmgaaGreatDoorTaker
import Derived.Laws.IdiomStrings
import Derived.Deep.DeepMust
set_option linter.unusedVariables false
set_option linter.unusedSimpArgs false
namespace Go.Proofs.YtdkfgobbpadmgaaGreatDoor
open Go.RowKit
def isMk (c : UInt8) : Bool := c == 34 || c == 92 || c == 93
def escd : UInt8 → List UInt8 → Bool
  | _, [] => false
  | c, d :: _ => c == 92 && isMk d
def valN : Nat → List UInt8 → List UInt8 → Bool → List UInt8 × List UInt8 × Bool
  | 0, _, _, _ => ([], [], false)
  | _ + 1, [], _, _ => ([], [], false)
  | n + 1, c :: l, o, ok =>
    if c == 34 then (o, l, ok)
    else if c == 93 then valN n l (o ++ [c]) false
    else if escd c l then valN n l.tail (o ++ [l.headD 0]) ok
    else valN n l (o ++ [c]) ok
def valP (l : List UInt8) (ok : Bool) : List UInt8 × List UInt8 × Bool := valN (l.length + 1) l [] ok
def byteCells (l : List UInt8) : List Value := l.map fun c => .int .u8 c.toNat
theorem byteInfo : (Tryz.prog.info? 5).map (fun i => (i.zero, i.size, i.bytes)) = some (some (.int .u8 0), 1, 1) := by kernel_rfl
theorem toText {P : Program} {w : World} {base src dst e : Nat} {v : Value} {o : List UInt8} (h : w.ownsRow base e 1 v o.length (byteCells o)) (hs : P.underlying src = some (.slice e)) (he : P.underlying e = some (.int .u8)) (hd : P.underlying dst = some .string) :
    (convert src dst v).run P w = .ok (.string ⟨o.toArray⟩) w := by
  have h' := h
  obtain ⟨hx, h1 | ⟨g, cap, cur, rfl, hg, hh, hn, hc, hs', hxs⟩⟩ := h
  · obtain ⟨rfl, h0⟩ := h1
    have : o = [] := List.eq_nil_of_length_eq_zero h0
    subst this
    rw [run_convert_bytes_string w src dst e none 0 0 hs he hd]
    rfl
  · refine run_convert_bytes_back w src dst e ⟨g, 0, none⟩ cap o hs he hd fun j hj => ?_
    exact h'.cells rfl j _ (by rw [byteCells, List.getElem?_map, List.getElem?_eq_getElem hj]; rfl)
set_option maxHeartbeats 2000000 in
set_option maxRecDepth 100000 in
theorem value_t (B : Nat) (l : List UInt8) (ok : Bool) (w : World) (h : Tk w B l ok) (hl : l.length ≤ 4194304) :
    Calls Tryz.prog 45 #[.pointer (some ⟨B, 0, none⟩)] w fun e w' => e = .returned (txt (valP l ok).1) ∧ Tk w' B (valP l ok).2.1 (valP l ok).2.2 ∧ Turn (· = B) w w' := by
  have hBlt : B < w.heap.size := Row.lt h
  have H := Lib.hid h; clear h
  obtain ⟨i0, hi, hz0, hz1, hz2⟩ := info_parts byteInfo
  go_enter Tryz.func45, Tryz.ntmps45
  go_wp2_with fail
  go_loopg [3, 4] (l.length + 1) (fun g v cv wr => ∃ (n : Nat) (l' o : List UInt8) (ok' : Bool), g = l'.length + 1 ∧ l'.length < n ∧ l'.length ≤ 4194304 ∧ o.length + l'.length ≤ 4194304 ∧ Hid (valN n l' o ok' = valP l ok) ∧ Tk wr B l' ok' ∧ wr.ownsRow w.heap.size 5 1 v o.length (byteCells o) ∧ Turn (· = B) w wr)
  case atStart => exact ⟨l.length + 1, l, [], ok, rfl, by omega, hl, by simpa using hl, rfl, H.out, World.ownsRow_nil _ _ _ _, Turn.refl _ _⟩
  case round =>
    obtain ⟨n, l', o, ok', hg, hn, hl1, hl2, hv, hk, hown, ht⟩ := hrel
    have HG := Lib.hid hg; clear hg
    have HO := Lib.hid hown; have HT := Lib.hid ht; clear hown ht
    have c0 := hk.c0
    have c1 := hk.c1
    have f0 := hk.f 0
    have f1 := hk.f 1
    have HK := Lib.hid hk; clear hk
    match l', n, hn with
    | [], n + 1, _ =>
      have hR : Hid (valP l ok = ([], [], false)) := hv.out.symm
      go_wp2_with fail
      go_ret
      refine ⟨ret_v (by rw [hR.out]; rfl), ?_, HT.out.put (q := ⟨B, 1, none⟩) rfl _⟩
      rw [hR.out]
      exact HK.out.put1 false
    | c :: l2, n + 1, hn' =>
      obtain ⟨s, hs⟩ : ∃ s : ByteArray, s = ⟨(c :: l2).toArray⟩ := ⟨_, rfl⟩
      have hs0 : 0 < s.size := by rw [hs]; show 0 < (c :: l2).length; simp
      have hsl : s.data.toList = c :: l2 := by rw [hs]
      have hsc : s[0] = c := by
        have : s.data.toList[0]'(by rw [hsl]; simp) = c := by simp [hsl]
        exact this
      rw [← hs] at c0
      have HS := Lib.hid hsl; have HC := Lib.hid hsc
      have hne : s.toList.isEmpty = false := by rw [ByteArray.toList_eq, hsl]; rfl
      clear hs hsl hsc
      go_upto_region 5 with fail
      go_cut [4, 23] (fun s4 s23 wx => s4 = .int .u8 c.toNat ∧ s23 = .bool (c == 34) ∧ Tk wx B l2 ok' ∧ wx.ownsRow w.heap.size 5 1 u3 o.length (byteCells o) ∧ Turn (· = B) w wx)
      case first =>
        have he := Lib.hid ((byte_eq s[0] 34 (by decide)).trans (by rw [HC.out]; rfl) : ((s[0].toNat : Int) == ((34 : Nat) : Int)) = (c == 34))
        go_wp2_with fail
        go_meet
        refine ⟨by rw [HC.out], congrArg Value.bool he.out, ?_, ownsRow_setCell_below HO.out hBlt _, HT.out.put (q := ⟨B, 0, none⟩) rfl _⟩
        rw [piece_from, HS.out]
        exact HK.out.put0 l2
      case rest =>
      obtain ⟨rfl, rfl, hk2, hown2, ht2⟩ := hcut
      have HK2 := Lib.hid hk2
      clear c0 c1 f0 f1
      have c0 := hk2.c0
      have c1 := hk2.c1
      have f0 := hk2.f 0
      have f1 := hk2.f 1
      have HO2 := Lib.hid hown2; have HT2 := Lib.hid ht2
      clear hk2 hown2 ht2
      have hl3 : l2.length < n := by simp at hn'; omega
      have hl4 : l2.length ≤ 4194304 := by simp at hl1; omega
      have hl5 : o.length + 1 + l2.length ≤ 4194304 := by simp at hl2; omega
      cases h34 : (c == 34) with
      | true =>
        have hR : Hid (valP l ok = (o, l2, ok')) := by
          have := hv.out
          rw [valN, if_pos h34] at this
          exact this.symm
        have hconv := toText HO2.out Tryz.underlying101 Tryz.underlying5 Tryz.underlying9
        go_wp2_with fail
        go_ret
        rw [Hid.out hR]
        exact ⟨rfl, HK2.out, HT2.out⟩
      | false =>
      cases h93 : (c == 93) with
      | true =>
        have e93 := Lib.hid ((byte_eq c 93 (by decide)).trans h93 : ((c.toNat : Int) == ((93 : Nat) : Int)) = true)
        have e93' : ((c.toNat : Int) == 93) = true := e93.out
        have hV : Hid (valN n l2 (o ++ [c]) false = valP l ok) := by
          have := hv.out
          rw [valN, if_neg (by rw [h34]; simp), if_pos h93] at this
          exact this
        go_wp2_with (at_builtin; go_must (refine wpList_append_one (wc.setCell ⟨B, 1, none⟩ (.bool false)) rfl (.tmp 81) (.tmp 83) 101 rfl w.heap.size 5 i0 (.int .u8 0) 1 1 Tryz.underlying101 hi hz0 hz1 hz2 rfl (by decide) u3 o.length (byteCells o) [.int .u8 c.toNat] wc.heap.size (by simp [World.setCell]) rfl rfl (ownsRow_setCell_below HO2.out hBlt _) rfl (by simp [Value.oneCell']) (by unfold maxLen; omega) (by omega) (by first | exact HT2.out.size | (simp [World.setCell]; exact HT2.out.size)) ?_); intro v' w1 hown' hturn hloc; have HOW := Lib.hid hown'; have HTU := Lib.hid hturn; clear hown' hturn hloc)
        go_roundg (l2.length + 1)
        case measure => rw [HG.out]; simp
        case rel =>
          have hq : ∀ k, Value.ownBlock u3 = some k → w.heap.size ≤ k := fun k hk => (HO2.out.lt k hk).1
          exact ⟨n, l2, o ++ [c], false, rfl, by omega, by omega, by simp; omega, hV, Row.turn (HK2.out.put1 false) HTU.out (fun hB => by have := hq B hB; omega), by have := HOW.out; simpa [byteCells] using this, Turn.via (HT2.out.put (q := ⟨B, 1, none⟩) rfl _) HTU.out (fun k hk => .inl (hq k hk))⟩
      | false =>
      have e93 : ((c.toNat : Int) == 93) = false := (byte_eq c 93 (by decide)).trans h93
      obtain ⟨s2, hs2⟩ : ∃ s2 : ByteArray, s2 = ⟨l2.toArray⟩ := ⟨_, rfl⟩
      have hs2l : s2.data.toList = l2 := by rw [hs2]
      rw [← hs2] at c0
      clear hs2
      cases he : escd c l2 with
      | false =>
        have hV : Hid (valN n l2 (o ++ [c]) ok' = valP l ok) := by
          have := hv.out
          rw [valN, if_neg (by rw [h34]; simp), if_neg (by rw [h93]; simp), if_neg (by rw [he]; simp)] at this
          exact this
        cases h92 : (c == 92) with
        | false =>
          have e92 : ((c.toNat : Int) == 92) = false := (byte_eq c 92 (by decide)).trans h92
          clear hs2l
          go_wp2_with (at_builtin; go_must (refine wpList_append_one wc rfl (.tmp 81) (.tmp 83) 101 rfl w.heap.size 5 i0 (.int .u8 0) 1 1 Tryz.underlying101 hi hz0 hz1 hz2 rfl (by decide) u3 o.length (byteCells o) [.int .u8 c.toNat] wc.heap.size (by simp [World.setCell]) rfl rfl HO2.out rfl (by simp [Value.oneCell']) (by unfold maxLen; omega) (by omega) (by first | exact HT2.out.size | (simp [World.setCell]; exact HT2.out.size)) ?_); intro v' w1 hown' hturn hloc; have HOW := Lib.hid hown'; have HTU := Lib.hid hturn; clear hown' hturn hloc)
          go_roundg (l2.length + 1)
          case measure => rw [HG.out]; simp
          case rel =>
            have hq : ∀ k, Value.ownBlock u3 = some k → w.heap.size ≤ k := fun k hk => (HO2.out.lt k hk).1
            exact ⟨n, l2, o ++ [c], ok', rfl, by omega, by omega, by simp; omega, hV, Row.turn HK2.out HTU.out (fun hB => by have := hq B hB; omega), by have := HOW.out; simpa [byteCells] using this, Turn.via HT2.out HTU.out (fun k hk => .inl (hq k hk))⟩
        | true =>
          have e92 : ((c.toNat : Int) == 92) = true := (byte_eq c 92 (by decide)).trans h92
          match l2, he, hs2l with
          | [], _, hs2l =>
            have hem : s2.toList.isEmpty = true := by rw [ByteArray.toList_eq, hs2l]; rfl
            have hem' : s2.toList = [] := by rw [ByteArray.toList_eq, hs2l]
            clear hs2l
            go_wp2_with (at_builtin; go_must (refine wpList_append_one wc rfl (.tmp 81) (.tmp 83) 101 rfl w.heap.size 5 i0 (.int .u8 0) 1 1 Tryz.underlying101 hi hz0 hz1 hz2 rfl (by decide) u3 o.length (byteCells o) [.int .u8 c.toNat] wc.heap.size (by simp [World.setCell]) rfl rfl HO2.out rfl (by simp [Value.oneCell']) (by unfold maxLen; omega) (by omega) (by first | exact HT2.out.size | (simp [World.setCell]; exact HT2.out.size)) ?_); intro v' w1 hown' hturn hloc; have HOW := Lib.hid hown'; have HTU := Lib.hid hturn; clear hown' hturn hloc)
            go_roundg (([] : List UInt8).length + 1)
            case measure => rw [HG.out]; simp
            case rel =>
              have hq : ∀ k, Value.ownBlock u3 = some k → w.heap.size ≤ k := fun k hk => (HO2.out.lt k hk).1
              exact ⟨n, ([] : List UInt8), o ++ [c], ok', rfl, by omega, by omega, by simp; omega, hV, Row.turn HK2.out HTU.out (fun hB => by have := hq B hB; omega), by have := HOW.out; simpa [byteCells] using this, Turn.via HT2.out HTU.out (fun k hk => .inl (hq k hk))⟩
          | d :: l4, he, hs2l =>
            have hnd : isMk d = false := by
              simp only [escd, h92, Bool.true_and] at he; exact he
            simp only [isMk, Bool.or_eq_false_iff] at hnd
            obtain ⟨⟨d1, d2⟩, d3⟩ := hnd
            have hs0 : 0 < s2.size := by have : s2.size = s2.data.toList.length := by simp
                                         rw [this, hs2l]; simp
            have hsc : s2[0] = d := by
              have : s2.data.toList[0]'(by rw [hs2l]; simp) = d := by simp [hs2l]
              exact this
            have hem : s2.toList.isEmpty = false := by rw [ByteArray.toList_eq, hs2l]; rfl
            have f34 : ((s2[0].toNat : Int) == 34) = false := (byte_eq s2[0] 34 (by decide)).trans (by rw [hsc]; exact d1)
            have f92 : ((s2[0].toNat : Int) == 92) = false := (byte_eq s2[0] 92 (by decide)).trans (by rw [hsc]; exact d2)
            have f93 : ((s2[0].toNat : Int) == 93) = false := (byte_eq s2[0] 93 (by decide)).trans (by rw [hsc]; exact d3)
            clear hsc hs2l d1 d2 d3
            go_wp2_with (at_builtin; go_must (refine wpList_append_one wc rfl (.tmp 81) (.tmp 83) 101 rfl w.heap.size 5 i0 (.int .u8 0) 1 1 Tryz.underlying101 hi hz0 hz1 hz2 rfl (by decide) u3 o.length (byteCells o) [.int .u8 c.toNat] wc.heap.size (by simp [World.setCell]) rfl rfl HO2.out rfl (by simp [Value.oneCell']) (by unfold maxLen; omega) (by omega) (by first | exact HT2.out.size | (simp [World.setCell]; exact HT2.out.size)) ?_); intro v' w1 hown' hturn hloc; have HOW := Lib.hid hown'; have HTU := Lib.hid hturn; clear hown' hturn hloc)
            go_roundg ((d :: l4).length + 1)
            case measure => rw [HG.out]; simp
            case rel =>
              have hq : ∀ k, Value.ownBlock u3 = some k → w.heap.size ≤ k := fun k hk => (HO2.out.lt k hk).1
              exact ⟨n, (d :: l4), o ++ [c], ok', rfl, by omega, by omega, by simp; omega, hV, Row.turn HK2.out HTU.out (fun hB => by have := hq B hB; omega), by have := HOW.out; simpa [byteCells] using this, Turn.via HT2.out HTU.out (fun k hk => .inl (hq k hk))⟩
      | true =>
        match l2, he, hs2l with
        | d :: l4, he, hs2l =>
          simp only [escd, Bool.and_eq_true] at he
          obtain ⟨h92, hnd⟩ := he
          have hV : Hid (valN n l4 (o ++ [d]) ok' = valP l ok) := by
            have := hv.out
            rw [valN, if_neg (by rw [h34]; simp), if_neg (by rw [h93]; simp), if_pos (by simp [escd, h92, hnd])] at this
            exact this
          have e92 : ((c.toNat : Int) == 92) = true := (byte_eq c 92 (by decide)).trans h92
          have hs0 : 0 < s2.size := by have : s2.size = s2.data.toList.length := by simp
                                       rw [this, hs2l]; simp
          have hsc : s2[0] = d := by
            have : s2.data.toList[0]'(by rw [hs2l]; simp) = d := by simp [hs2l]
            exact this
          have hem : s2.toList.isEmpty = false := by rw [ByteArray.toList_eq, hs2l]; rfl
          have f34 : ((s2[0].toNat : Int) == 34) = (d == 34) := (byte_eq s2[0] 34 (by decide)).trans (by rw [hsc]; rfl)
          have f92 : ((s2[0].toNat : Int) == 92) = (d == 92) := (byte_eq s2[0] 92 (by decide)).trans (by rw [hsc]; rfl)
          have f93 : ((s2[0].toNat : Int) == 93) = (d == 93) := (byte_eq s2[0] 93 (by decide)).trans (by rw [hsc]; rfl)
          have hT4 : Hid (Tk (wc.setCell ⟨B, 0, none⟩ (.string (s2.extract 1 s2.size))) B l4 ok') := by
            rw [piece_from, hs2l]; exact HK2.out.put0 l4
          have HSC := Lib.hid hsc
          clear hsc hs2l
          have hl6 : l4.length ≤ 4194304 := by simp at hl4; omega
          have hl7 : o.length + 1 + l4.length ≤ 4194304 := by simp at hl5; omega
          have hl8 : l4.length < n := by simp at hl3; omega
          cases q34 : (d == 34) with
          | true =>
            rw [q34] at f34
            clear f92 f93
            go_wp2_with (at_builtin; go_must (refine wpList_append_one (wc.setCell ⟨B, 0, none⟩ (.string (s2.extract 1 s2.size))) rfl (.tmp 81) (.tmp 83) 101 rfl w.heap.size 5 i0 (.int .u8 0) 1 1 Tryz.underlying101 hi hz0 hz1 hz2 rfl (by decide) u3 o.length (byteCells o) [.int .u8 s2[0].toNat] wc.heap.size (by simp [World.setCell]) rfl rfl (ownsRow_setCell_below HO2.out hBlt _) rfl (by simp [Value.oneCell']) (by unfold maxLen; omega) (by omega) (by first | exact HT2.out.size | (simp [World.setCell]; exact HT2.out.size)) ?_); intro v' w1 hown' hturn hloc; have HOW := Lib.hid hown'; have HTU := Lib.hid hturn; clear hown' hturn hloc)
            go_roundg (l4.length + 1)
            case measure => rw [HG.out]; simp
            case rel =>
              have hq : ∀ k, Value.ownBlock u3 = some k → w.heap.size ≤ k := fun k hk => (HO2.out.lt k hk).1
              exact ⟨n, l4, o ++ [d], ok', rfl, by omega, by omega, by simp; omega, hV, Row.turn hT4.out HTU.out (fun hB => by have := hq B hB; omega), by have := HOW.out; rw [HSC.out] at this; simpa [byteCells] using this, Turn.via (HT2.out.put (q := ⟨B, 0, none⟩) rfl _) HTU.out (fun k hk => .inl (hq k hk))⟩
          | false =>
          rw [q34] at f34
          cases q92 : (d == 92) with
          | true =>
            rw [q92] at f92
            clear f93
            go_wp2_with (at_builtin; go_must (refine wpList_append_one (wc.setCell ⟨B, 0, none⟩ (.string (s2.extract 1 s2.size))) rfl (.tmp 81) (.tmp 83) 101 rfl w.heap.size 5 i0 (.int .u8 0) 1 1 Tryz.underlying101 hi hz0 hz1 hz2 rfl (by decide) u3 o.length (byteCells o) [.int .u8 s2[0].toNat] wc.heap.size (by simp [World.setCell]) rfl rfl (ownsRow_setCell_below HO2.out hBlt _) rfl (by simp [Value.oneCell']) (by unfold maxLen; omega) (by omega) (by first | exact HT2.out.size | (simp [World.setCell]; exact HT2.out.size)) ?_); intro v' w1 hown' hturn hloc; have HOW := Lib.hid hown'; have HTU := Lib.hid hturn; clear hown' hturn hloc)
            go_roundg (l4.length + 1)
            case measure => rw [HG.out]; simp
            case rel =>
              have hq : ∀ k, Value.ownBlock u3 = some k → w.heap.size ≤ k := fun k hk => (HO2.out.lt k hk).1
              exact ⟨n, l4, o ++ [d], ok', rfl, by omega, by omega, by simp; omega, hV, Row.turn hT4.out HTU.out (fun hB => by have := hq B hB; omega), by have := HOW.out; rw [HSC.out] at this; simpa [byteCells] using this, Turn.via (HT2.out.put (q := ⟨B, 0, none⟩) rfl _) HTU.out (fun k hk => .inl (hq k hk))⟩
          | false =>
            have q93 : (d == 93) = true := by simpa [isMk, q34, q92] using hnd
            rw [q92] at f92; rw [q93] at f93
            go_wp2_with (at_builtin; go_must (refine wpList_append_one (wc.setCell ⟨B, 0, none⟩ (.string (s2.extract 1 s2.size))) rfl (.tmp 81) (.tmp 83) 101 rfl w.heap.size 5 i0 (.int .u8 0) 1 1 Tryz.underlying101 hi hz0 hz1 hz2 rfl (by decide) u3 o.length (byteCells o) [.int .u8 s2[0].toNat] wc.heap.size (by simp [World.setCell]) rfl rfl (ownsRow_setCell_below HO2.out hBlt _) rfl (by simp [Value.oneCell']) (by unfold maxLen; omega) (by omega) (by first | exact HT2.out.size | (simp [World.setCell]; exact HT2.out.size)) ?_); intro v' w1 hown' hturn hloc; have HOW := Lib.hid hown'; have HTU := Lib.hid hturn; clear hown' hturn hloc)
            go_roundg (l4.length + 1)
            case measure => rw [HG.out]; simp
            case rel =>
              have hq : ∀ k, Value.ownBlock u3 = some k → w.heap.size ≤ k := fun k hk => (HO2.out.lt k hk).1
              exact ⟨n, l4, o ++ [d], ok', rfl, by omega, by omega, by simp; omega, hV, Row.turn hT4.out HTU.out (fun hB => by have := hq B hB; omega), by have := HOW.out; rw [HSC.out] at this; simpa [byteCells] using this, Turn.via (HT2.out.put (q := ⟨B, 0, none⟩) rfl _) HTU.out (fun k hk => .inl (hq k hk))⟩
end Go.Proofs.YtdkfgobbpadmgaaGreatDoor
