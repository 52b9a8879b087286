/- Package sysl: are all elements such as they may be? -/
import Derived.Test.YtdkfgobbpadmgaaGreatDoorSyslGet
import Derived.Test.YtdkfgobbpadmgaaGreatDoorBoolMap
set_option linter.unusedVariables false
set_option linter.unusedSimpArgs false
namespace Go.Proofs.YtdkfgobbpadmgaaGreatDoor
open Go.RowKit
open Go.WideMaps (keyOf_string_mk)
def elsOk : List (List UInt8) → List BEl → Bool
  | _, [] => true
  | had, x :: r => nameB x.1.data.toList && !had.any (fun y => y == x.1.data.toList) && !x.2.2.any parBad && elsOk (had ++ [x.1.data.toList]) r
def namesOf (es : List BEl) : List (List UInt8) := es.map fun x => x.1.data.toList
theorem namesOf_snoc (es : List BEl) (k : Nat) (h : k < es.length) : namesOf (es.take (k + 1)) = namesOf (es.take k) ++ [es[k].1.data.toList] := by
  rw [namesOf, namesOf, List.take_succ_eq_append_getElem h, List.map_append]
  rfl
theorem elsOk_step (es : List BEl) (k : Nat) (h : k < es.length) (had : List (List UInt8)) : elsOk had (es.drop k) = (nameB es[k].1.data.toList && !had.any (fun y => y == es[k].1.data.toList) && !es[k].2.2.any parBad && elsOk (had ++ [es[k].1.data.toList]) (es.drop (k + 1))) := by
  rw [List.drop_eq_getElem_cons h, elsOk]
theorem zeroBool (w : World) : (zeroValue 4).run Tryz.prog w = .ok (.bool false) w := by kernel_rfl
structure ElsIn (es : List BEl) : Prop where
  len : es.length ≤ 9223372036854775807
  id : ∀ x ∈ es, x.1.size ≤ 9223372036854775807
  many : ∀ x ∈ es, x.2.2.length ≤ 9223372036854775807
  par : ∀ x ∈ es, ∀ q ∈ x.2.2, q.1.size ≤ 9223372036854775807 ∧ q.2.size ≤ 9223372036854775807
theorem below_grown {b : Nat} {w a w1 : World} (h : Below w.heap.size w a) (hg : a.grownBy w1 (some b)) (hb : w.heap.size ≤ b) : Below w.heap.size w w1 :=
  ⟨hg.os.trans h.os, hg.tape.trans h.tape, hg.output.trans h.output, Nat.le_trans h.size hg.size, fun k hk => (hg.block k (Nat.lt_of_lt_of_le hk h.size) (by intro e; injection e with e; omega)).trans (h.block k hk)⟩
theorem grown_below {w w1 : World} (h : Below w.heap.size w w1) (row : Option Nat) : w.grownBy w1 row := ⟨h.os, h.tape, h.output, h.size, fun i hi _ => h.block i hi⟩
theorem row_grown {w w1 : World} {g b : Nat} {t : TypeId} {cs : Array Value} (h : Row w g t cs) (hg : w.grownBy w1 (some b)) (hne : g ≠ b) : Row w1 g t cs :=
  (hg.block g h.lt (by intro e; injection e with e; exact hne e)).trans h
set_option maxHeartbeats 2000000 in
set_option maxRecDepth 100000 in
theorem elems_c (v : Value) (es : List BEl) (w : World) (hE : Elems w v es) (hU : UTabs w) (h9 : 9 ≤ w.heap.size) (hI : ElsIn es) :
    Calls Tryz.prog 48 #[v] w fun e w' => e = .returned (.bool (elsOk [] es)) ∧ Below w.heap.size w w' := by
  have hlen := hI.len
  have HE := Lib.hid hE
  obtain ⟨a, cap, rfl, hlt, hc⟩ := hE.shape
  have HC := Lib.hid hc; have HL := Lib.hid hlt; have HU := Lib.hid hU; have HI := Lib.hid hI
  have hmm := @run_makeMap Tryz.prog
  clear hc hlt hU hI
  go_enter Tryz.func48, Tryz.ntmps48
  go_wp2_with fail
  clear hmm
  go_loopg [9] es.length (fun g c wr => ∃ k : Nat, k ≤ es.length ∧ g = es.length - k ∧ c = .int .i64 k ∧ Hid (elsOk (namesOf (es.take k)) (es.drop k) = elsOk [] es) ∧ wr.ownsMap Tryz.prog 9 (plainElem Tryz.prog 4) w.heap.size k (setB (namesOf (es.take k))) ∧ Below w.heap.size w wr)
  case atStart => exact ⟨0, by omega, rfl, rfl, rfl, World.ownsMap_made _ _ _ _, (Below.refl _ _).alloc (Nat.le_refl _) _⟩
  case round =>
    obtain ⟨k, hk, hg, rfl, hok, hown, hbel⟩ := hrel
    have HG := Lib.hid hg; have HB := Lib.hid hbel; have HO := Lib.hid hown; clear hg hbel hown
    by_cases hlt : k < es.length
    · obtain ⟨b, rfl, hsp, e1, e2, hP⟩ := HC.out k hlt
      have hbl := HL.out b rfl (by omega)
      obtain ⟨g, off, sp⟩ := b
      cases hsp
      replace e1 : wr.cell? ⟨g, off + k * 2, none⟩ = some (.string es[k].1) := (World.cell?_of_block (HB.out.block g hbl)).trans e1
      replace e2 : wr.cell? ⟨g, off + k * 2 + 1, none⟩ = some es[k].2.1 := (World.cell?_of_block (HB.out.block g hbl)).trans e2
      have hP' := hP
      obtain ⟨pa, pc, hpv, -⟩ := hP'.shape
      rw [hpv] at e2 hP
      have hst := elsOk_step es k hlt (namesOf (es.take k))
      rw [hok.out] at hst
      have hmem : es[k] ∈ es := List.getElem_mem hlt
      have hid1 := HI.out.id _ hmem
      have hmany := HI.out.many _ hmem
      have hpar := HI.out.par _ hmem
      have hsn := namesOf_snoc es k hlt
      generalize hX : es[k].1 = xid at *
      generalize hPS : es[k].2.2 = ps at *
      have HSt := Lib.hid hst; have HSn := Lib.hid hsn; have HP := Lib.hid hP; have HPar := Lib.hid hpar
      have hmx : xid.size ≤ maxLen := by unfold maxLen; omega
      have hc1 := name_c xid
      clear hst hsn hP hpar hX hPS hmem hpv hP' hok
      cases hn : nameB xid.data.toList with
      | false =>
        have hR : Hid (elsOk [] es = false) := by
          show elsOk [] es = false
          rw [HSt.out, hn]; rfl
        rw [hn] at hc1
        have HC1 := Lib.hid hc1; clear hc1 hn
        go_wp2_with (go_at_call 73; refine (HC1.out _ (by omega)).mono ?_; rintro e w' ⟨rfl, rfl⟩)
        go_ret
        exact ⟨ret_v (by rw [hR.out]; rfl), HB.out.alloc HB.out.size _⟩
      | true =>
      rw [hn] at hc1
      have HC1 := Lib.hid hc1; clear hc1
      cases hh : ((namesOf (es.take k)).any fun y => y == xid.data.toList) with
      | true =>
        have hR : Hid (elsOk [] es = false) := by
          show elsOk [] es = false
          rw [HSt.out, hn, hh]; rfl
        have HH := Lib.hid hh; clear hn hh
        go_wp2_with (first
          | (go_at_call 73; refine (HC1.out _ (by omega)).mono ?_; rintro e w' ⟨rfl, rfl⟩)
          | (at_lookup; refine wpList_lookup_setB _ rfl _ _ 113 rfl 9 4 Tryz.underlying9 Tryz.underlying113 Tryz.underlying4 (zeroBool _) w.heap.size k (namesOf (es.take k)) rfl (HO.out.alloc _) xid rfl hmx true HH.out ?_))
        go_ret
        exact ⟨ret_v (by rw [hR.out]; rfl), HB.out.alloc HB.out.size _⟩
      | false =>
      have HH := Lib.hid hh
      have HPB : Hid (∀ w' : World, Below w.heap.size w w' → Calls Tryz.prog 74 #[.slice pa ps.length pc, .func (.func 75) #[] #[]] w' fun e w'' => e = .returned (.bool (ps.any parBad)) ∧ Below w'.heap.size w' w'') := Lib.hid fun w' hb => by
        refine hasPar _ ps parBad w' (HP.out.mono hb.size hb.block) hmany fun j hj w'' hb2 => ?_
        have hq := HPar.out _ (List.getElem_mem hj)
        refine parBad_c _ _ w'' hq.1 hq.2 ?_ ?_
        · exact UTabs.same HU.out fun i hi => ((hb.trans (hb2.mono hb.size)).block i (by omega))
        · have := hb.size; have := hb2.size; omega
      have hR0 : Hid (elsOk [] es = (!ps.any parBad && elsOk (namesOf (es.take (k + 1))) (es.drop (k + 1)))) := by
        show elsOk [] es = _
        rw [HSt.out, hn, hh, HSn.out]
        simp
      clear hn hh
      cases hb : ps.any parBad with
      | true =>
        have hR : Hid (elsOk [] es = false) := by
          show elsOk [] es = false
          rw [hR0.out, hb]; rfl
        rw [hb] at HPB
        clear hb
        go_wp2_with (first
          | (go_at_call 73; refine (HC1.out _ (by omega)).mono ?_; rintro e w' ⟨rfl, rfl⟩)
          | (at_lookup; refine wpList_lookup_setB _ rfl _ _ 113 rfl 9 4 Tryz.underlying9 Tryz.underlying113 Tryz.underlying4 (zeroBool _) w.heap.size k (namesOf (es.take k)) rfl (HO.out.alloc _) xid rfl hmx false HH.out ?_)
          | (at_mapUpdate; refine wpList_mapUpdate_own _ rfl _ _ _ 113 rfl 9 4 (Go.Maps.string_keyed Tryz.underlying9) Tryz.underlying113 _ w.heap.size k _ rfl (HO.out.alloc _) (by unfold maxLen; omega) _ _ _ rfl rfl (keyOf_string_mk Tryz.underlying9 hmx) _ [] (plainElem_bool Tryz.underlying4 true) ?_; intro w1 hown1 hgrow1; rw [setB_snoc, ← HSn.out] at hown1; have HO1 := Lib.hid hown1; have hr1 := row_grown (Row.laid wr 58 #[.string xid, .slice pa ps.length pc]) hgrow1 (by have := HO.out.lt; omega); have HB1 := Lib.hid (below_grown (HB.out.alloc HB.out.size _) hgrow1 (Nat.le_refl _)); have c1 : w1.cell? ⟨wr.heap.size, 1, none⟩ = some (.slice pa ps.length pc) := hr1.cell 1; clear hown1 hgrow1 hr1)
          | (go_at_call 74; clear c1; refine (HPB.out _ HB1.out).mono ?_; rintro e w2 ⟨rfl, b2⟩; have HO2 := Lib.hid (HO1.out.kept (grown_below b2 none) (by simp)); have HB2 := Lib.hid (HB1.out.trans (b2.mono HB1.out.size)); clear b2))
        go_ret
        exact ⟨ret_v (by rw [hR.out]; rfl), HB2.out⟩
      | false =>
        have hR : Hid (elsOk (namesOf (es.take (k + 1))) (es.drop (k + 1)) = elsOk [] es) := by
          show _ = elsOk [] es
          rw [hR0.out, hb]; rfl
        rw [hb] at HPB
        clear hb
        go_wp2_with (first
          | (go_at_call 73; refine (HC1.out _ (by omega)).mono ?_; rintro e w' ⟨rfl, rfl⟩)
          | (at_lookup; refine wpList_lookup_setB _ rfl _ _ 113 rfl 9 4 Tryz.underlying9 Tryz.underlying113 Tryz.underlying4 (zeroBool _) w.heap.size k (namesOf (es.take k)) rfl (HO.out.alloc _) xid rfl hmx false HH.out ?_)
          | (at_mapUpdate; refine wpList_mapUpdate_own _ rfl _ _ _ 113 rfl 9 4 (Go.Maps.string_keyed Tryz.underlying9) Tryz.underlying113 _ w.heap.size k _ rfl (HO.out.alloc _) (by unfold maxLen; omega) _ _ _ rfl rfl (keyOf_string_mk Tryz.underlying9 hmx) _ [] (plainElem_bool Tryz.underlying4 true) ?_; intro w1 hown1 hgrow1; rw [setB_snoc, ← HSn.out] at hown1; have HO1 := Lib.hid hown1; have hr1 := row_grown (Row.laid wr 58 #[.string xid, .slice pa ps.length pc]) hgrow1 (by have := HO.out.lt; omega); have HB1 := Lib.hid (below_grown (HB.out.alloc HB.out.size _) hgrow1 (Nat.le_refl _)); have c1 : w1.cell? ⟨wr.heap.size, 1, none⟩ = some (.slice pa ps.length pc) := hr1.cell 1; clear hown1 hgrow1 hr1)
          | (go_at_call 74; clear c1; refine (HPB.out _ HB1.out).mono ?_; rintro e w2 ⟨rfl, b2⟩; have HO2 := Lib.hid (HO1.out.kept (grown_below b2 none) (by simp)); have HB2 := Lib.hid (HB1.out.trans (b2.mono HB1.out.size)); clear b2))
        go_roundg (es.length - (k + 1))
        case measure => rw [HG.out]; omega
        case rel => exact ⟨k + 1, by omega, rfl, by go_num, hR, HO2.out, HB2.out⟩
    · have hR : Hid (elsOk [] es = true) := by
        show elsOk [] es = true
        rw [← hok.out, List.drop_eq_nil_of_le (by omega), elsOk]
      have hlt' : decide ((k : Int) < (es.length : Int)) = false := decide_eq_false (by omega)
      clear hok
      go_wp2_with fail
      go_ret
      exact ⟨ret_v (by rw [hR.out]; rfl), HB.out⟩
end Go.Proofs.YtdkfgobbpadmgaaGreatDoor
