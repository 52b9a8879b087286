/- Package sysl: an event's time and words. -/
import Derived.Test.YtdkfgobbpadmgaaGreatDoorSyslPlain
import Derived.Test.YtdkfgobbpadmgaaGreatDoorCalDate
set_option linter.unusedVariables false
set_option linter.unusedSimpArgs false
namespace Go.Proofs.YtdkfgobbpadmgaaGreatDoor
open Go.RowKit
/-- an event, as a value -/
structure Ev where
  g : Int
  f : Int
  t : Bool
  a : Int
  host : ByteArray
  app : ByteArray
  proc : ByteArray
  id : ByteArray
  text : ByteArray
def Ev.v (x : Ev) (dv : Value) : Value := .agg #[.int .i64 x.g, .int .i64 x.f, .bool x.t, .int .i64 x.a, .string x.host, .string x.app, .string x.proc, .string x.id, dv, .string x.text]
structure Ev.Ok (x : Ev) : Prop where
  a0 : -9223372036854775808 ≤ x.a
  a1 : x.a ≤ 9223372036854775807
  host : x.host.size ≤ 9223372036854775807
  app : x.app.size ≤ 9223372036854775807
  proc : x.proc.size ≤ 9223372036854775807
  id : x.id.size ≤ 9223372036854775807
  text : x.text.size ≤ 9223372036854775807
noncomputable def dnan (a : Int) : Int := nanosN (dY a) (dM a) (dD a) (dh a) (dm a) (ds a) (dn a) 0
noncomputable def dbad (a : Int) : Int := nanosE (dY a) (dM a) (dD a) (dh a) (dm a) (ds a) (dn a) 0
noncomputable def momB (t : Bool) (a : Int) : Bool := if t then dbad a == 0 && dnan a == a else a == 0
set_option maxHeartbeats 1000000 in
set_option maxRecDepth 100000 in
theorem moment_c (g f : Int) (t : Bool) (a : Int) (h p q i x : ByteArray) (dv : Value) (w : World) (ht : Tab w) (a0 : -9223372036854775808 ≤ a) (a1 : a ≤ 9223372036854775807) :
    Calls Tryz.prog 46 #[.agg #[.int .i64 g, .int .i64 f, .bool t, .int .i64 a, .string h, .string p, .string q, .string i, dv, .string x]] w fun e w' => e = .returned (.bool (momB t a)) ∧ Below w.heap.size w w' := by
  have HT := Lib.hid ht; clear ht
  cases t
  · go_enter Tryz.func46, Tryz.ntmps46
    go_wp2_with fail
    go_ret
    exact ⟨ret_v (by rfl), (Below.refl _ _).alloc (Nat.le_refl _) _⟩
  · have hm : Hid (momB true a = (dbad a == 0 && dnan a == a)) := rfl
    obtain ⟨N, hN⟩ : ∃ N, N = dnan a := ⟨_, rfl⟩
    obtain ⟨E, hE⟩ : ∃ E, E = dbad a := ⟨_, rfl⟩
    have HN : Hid (∀ w : World, Tab w → Calls Tryz.prog 15 #[.agg #[.int .i64 (dY a), .int .i64 (dM a), .int .i64 (dD a), .int .i64 (dh a), .int .i64 (dm a), .int .i64 (ds a), .int .i64 (dn a), .int .i64 0]] w fun e w' => e = .returned (.tuple #[.int .i64 N, .int .i64 E]) ∧ Below w.heap.size w w') := Lib.hid fun w hw => by rw [hN, hE]; exact nanos_any _ _ _ _ _ _ _ _ w hw
    have HD : Hid (∀ w : World, Tab w → Calls Tryz.prog 70 #[.int .i64 a] w fun e w' => e = .returned (.agg #[.int .i64 (dY a), .int .i64 (dM a), .int .i64 (dD a), .int .i64 (dh a), .int .i64 (dm a), .int .i64 (ds a), .int .i64 (dn a), .int .i64 0]) ∧ Below w.heap.size w w') := Lib.hid fun w hw => date_any a w hw a0 a1
    rw [← hN, ← hE] at hm
    clear hN hE
    have ht1 := HT.out.alloc (Obj.cells #[.int .i64 g, .int .i64 f, .bool true, .int .i64 a, .string h, .string p, .string q, .string i, dv, .string x] 25)
    have hr := Row.laid w 25 #[.int .i64 g, .int .i64 f, .bool true, .int .i64 a, .string h, .string p, .string q, .string i, dv, .string x]
    have b0 : Below w.heap.size w (w.alloc (Obj.cells #[.int .i64 g, .int .i64 f, .bool true, .int .i64 a, .string h, .string p, .string q, .string i, dv, .string x] 25)) := (Below.refl _ _).alloc (Nat.le_refl _) _
    have HR := Lib.hid hr; have HB := Lib.hid b0; have H1 := Lib.hid ht1; clear hr b0 ht1
    go_enter Tryz.func46, Tryz.ntmps46
    go_wp2_with (first
      | (go_at_call 70; refine (HD.out _ H1.out).mono ?_; rintro e w1 ⟨rfl, b1⟩; replace H1 := Lib.hid (H1.out.below b1); replace HR := Lib.hid (HR.out.below b1 (Row.lt HR.out)); replace HB := Lib.hid (HB.out.trans (b1.mono HB.out.size)); have c3 : w1.cell? ⟨w.heap.size, 3, none⟩ = some (.int .i64 a) := HR.out.cell 3; clear b1)
      | (go_at_call 15; clear c3; refine (HN.out _ H1.out).mono ?_; rintro e w2 ⟨rfl, b2⟩; replace HR := Lib.hid (HR.out.below b2 (Row.lt HR.out)); replace HB := Lib.hid (HB.out.trans (b2.mono HB.out.size)); have c3 : w2.cell? ⟨w.heap.size, 3, none⟩ = some (.int .i64 a) := HR.out.cell 3; clear b2))
    all_goals
      go_ret
      refine ⟨ret_v ?_, HB.out⟩
      rw [hm.out]
      show Value.bool _ = Value.bool _
      congr 1
      try simp_all
set_option maxHeartbeats 1000000 in
set_option maxRecDepth 100000 in
theorem words_c (g f : Int) (t : Bool) (a : Int) (h p q i x : ByteArray) (dv : Value) (w : World) (h1 : h.size ≤ 9223372036854775807) (h2 : p.size ≤ 9223372036854775807) (h3 : q.size ≤ 9223372036854775807) (h4 : i.size ≤ 9223372036854775807) :
    Calls Tryz.prog 47 #[.agg #[.int .i64 g, .int .i64 f, .bool t, .int .i64 a, .string h, .string p, .string q, .string i, dv, .string x]] w fun e w' => e = .returned (.bool (mayB h.data.toList 255 && mayB p.data.toList 48 && mayB q.data.toList 128 && mayB i.data.toList 32)) ∧ Below w.heap.size w w' := by
  have c1 : Hid (∀ w : World, Calls Tryz.prog 71 #[.string h, .int .i64 255] w fun e w' => e = .returned (.bool (mayB h.data.toList 255)) ∧ w = w') := Lib.hid fun w => may_c h 255 w (by omega) (by omega)
  have c2 : Hid (∀ w : World, Calls Tryz.prog 71 #[.string p, .int .i64 48] w fun e w' => e = .returned (.bool (mayB p.data.toList 48)) ∧ w = w') := Lib.hid fun w => may_c p 48 w (by omega) (by omega)
  have c3 : Hid (∀ w : World, Calls Tryz.prog 71 #[.string q, .int .i64 128] w fun e w' => e = .returned (.bool (mayB q.data.toList 128)) ∧ w = w') := Lib.hid fun w => may_c q 128 w (by omega) (by omega)
  have c4 : Hid (∀ w : World, Calls Tryz.prog 71 #[.string i, .int .i64 32] w fun e w' => e = .returned (.bool (mayB i.data.toList 32)) ∧ w = w') := Lib.hid fun w => may_c i 32 w (by omega) (by omega)
  generalize mayB h.data.toList 255 = m1 at c1 ⊢
  generalize mayB p.data.toList 48 = m2 at c2 ⊢
  generalize mayB q.data.toList 128 = m3 at c3 ⊢
  generalize mayB i.data.toList 32 = m4 at c4 ⊢
  clear h1 h2 h3 h4
  go_enter Tryz.func47, Tryz.ntmps47
  go_wp2_with (first
    | (go_at_call 71; refine (c1.out _).mono ?_; rintro e w' ⟨rfl, rfl⟩; clear c1)
    | (go_at_call 71; refine (c2.out _).mono ?_; rintro e w' ⟨rfl, rfl⟩; clear c2)
    | (go_at_call 71; refine (c3.out _).mono ?_; rintro e w' ⟨rfl, rfl⟩; clear c3)
    | (go_at_call 71; refine (c4.out _).mono ?_; rintro e w' ⟨rfl, rfl⟩; clear c4))
  all_goals
    go_ret
    refine ⟨ret_v ?_, (Below.refl _ _).alloc (Nat.le_refl _) _⟩
    show Value.bool _ = Value.bool _
    congr 1
    try simp_all
end Go.Proofs.YtdkfgobbpadmgaaGreatDoor
