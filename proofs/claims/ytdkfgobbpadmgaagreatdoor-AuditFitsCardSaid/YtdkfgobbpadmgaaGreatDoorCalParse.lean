/- Package cal: Parse. -/
import Derived.Test.YtdkfgobbpadmgaaGreatDoorCalStageB
set_option linter.unusedVariables false
set_option linter.unusedSimpArgs false
namespace Go.Proofs.YtdkfgobbpadmgaaGreatDoor
open Go.RowKit
theorem sz_alloc (w : World) (o : Obj) : (w.alloc o).heap.size = w.heap.size + 1 := by simp
def W0 (l : List UInt8) (w : World) : World := (((((w.alloc (Obj.cells #[txt l] 9)).alloc (Obj.cells DATZ 46)).alloc (Obj.cells #[.bool true] 4)).alloc (Obj.cells #[.func (.func 37) #[] #[.pointer (some ⟨w.heap.size, 0, none⟩)]] 32)).alloc (Obj.cells DATZ 46))
theorem W0_cw (l : List UInt8) (w : World) : CW w (W0 l w) l true (DC 0 0 0 0 0 0 0 0) := by
  refine ⟨?_, ?_, ?_, ⟨?_, ?_, by omega⟩, ?_⟩
  · have := Row.laid (w.alloc (Obj.cells #[txt l] 9)) 46 DATZ
    rw [show (w.alloc (Obj.cells #[txt l] 9)).heap.size = w.heap.size + 1 by simp] at this
    exact ((this.alloc _).alloc _).alloc _
  · have := Row.laid ((((w.alloc (Obj.cells #[txt l] 9)).alloc (Obj.cells DATZ 46)).alloc (Obj.cells #[.bool true] 4)).alloc (Obj.cells #[.func (.func 37) #[] #[.pointer (some ⟨w.heap.size, 0, none⟩)]] 32)) 46 DATZ
    simp only [sz_alloc] at this
    exact this
  · have := Row.laid (((w.alloc (Obj.cells #[txt l] 9)).alloc (Obj.cells DATZ 46)).alloc (Obj.cells #[.bool true] 4)) 32 #[.func (.func 37) #[] #[.pointer (some ⟨w.heap.size, 0, none⟩)]]
    simp only [sz_alloc] at this
    exact this.alloc _
  · exact ((((Row.laid w 9 #[txt l]).alloc _).alloc _).alloc _).alloc _
  · have := Row.laid ((w.alloc (Obj.cells #[txt l] 9)).alloc (Obj.cells DATZ 46)) 4 #[.bool true]
    simp only [sz_alloc] at this
    exact (this.alloc _).alloc _
  · exact (((((Below.refl _ _).alloc (Nat.le_refl _) _).alloc (by simp) _).alloc (by simp; omega) _).alloc (by simp; omega) _).alloc (by simp; omega) _
set_option maxHeartbeats 4000000 in
set_option maxRecDepth 100000 in
theorem calparse_c (l : List UInt8) (w : World) (hl : l.length ≤ 4194304) (hG : Tab w) :
    Calls Tryz.prog 14 #[.string ⟨l.toArray⟩] w (CPOST l w) := by
  have HTAB := Lib.hid hG; clear hG
  obtain ⟨y, l1, k1, e1⟩ : ∃ y l1 k1, tkN 4 l true = (y, l1, k1) := ⟨_, _, _, rfl⟩
  obtain ⟨m, l2, k2, e2⟩ : ∃ y l2 k2, tkN 2 (Lib.trimPrefix l1 [45]) (Lib.hasPrefix l1 [45] && k1) = (y, l2, k2) := ⟨_, _, _, rfl⟩
  obtain ⟨d, l3, k3, e3⟩ : ∃ y l3 k3, tkN 2 (Lib.trimPrefix l2 [45]) (Lib.hasPrefix l2 [45] && k2) = (y, l3, k3) := ⟨_, _, _, rfl⟩
  obtain ⟨h, l4, k4, e4⟩ : ∃ y l4 k4, tkN 2 (Lib.trimPrefix l3 [84]) (Lib.hasPrefix l3 [84] && k3) = (y, l4, k4) := ⟨_, _, _, rfl⟩
  obtain ⟨mi, l5, k5, e5⟩ : ∃ y l5 k5, tkN 2 (Lib.trimPrefix l4 [58]) (Lib.hasPrefix l4 [58] && k4) = (y, l5, k5) := ⟨_, _, _, rfl⟩
  obtain ⟨s, l6, k6, e6⟩ : ∃ y l6 k6, tkN 2 (Lib.trimPrefix l5 [58]) (Lib.hasPrefix l5 [58] && k5) = (y, l6, k6) := ⟨_, _, _, rfl⟩
  have HCD : Hid (calD l = if k6 then tailD y m d h mi s l6 else none) := by
    show calD l = _
    rw [calD, headD_at e1 e2 e3 e4 e5 e6]
  have hl1 := tk_to e1; have hl2 := tk_step e2; have hl3 := tk_step e3; have hl4 := tk_step e4; have hl5 := tk_step e5; have hl6 := tk_step e6
  have LN : Hid (l6.length ≤ 4194304 ∧ (Lib.trimPrefix l1 [45]).length ≤ 4194304 ∧ (Lib.trimPrefix l2 [45]).length ≤ 4194304 ∧ (Lib.trimPrefix l3 [84]).length ≤ 4194304 ∧ (Lib.trimPrefix l4 [58]).length ≤ 4194304 ∧ (Lib.trimPrefix l5 [58]).length ≤ 4194304) := by
    have t1 := trim_len l1 [45]; have t2 := trim_len l2 [45]; have t3 := trim_len l3 [84]; have t4 := trim_len l4 [58]; have t5 := trim_len l5 [58]
    exact ⟨by omega, by omega, by omega, by omega, by omega, by omega⟩
  obtain ⟨hl6', n1, n2, n3, n4, n5⟩ := LN.out
  have HN1 := Lib.hid n1; have HN2 := Lib.hid n2; have HN3 := Lib.hid n3; have HN4 := Lib.hid n4; have HN5 := Lib.hid n5
  have E1 := Lib.hid e1; have E2 := Lib.hid e2; have E3 := Lib.hid e3; have E4 := Lib.hid e4; have E5 := Lib.hid e5; have E6 := Lib.hid e6
  clear e1 e2 e3 e4 e5 e6 hl1 hl2 hl3 hl4 hl5 hl6 n1 n2 n3 n4 n5 LN
  go_enter Tryz.func14, Tryz.ntmps14
  go_wp2_with fail
  refine wp_scope_two (J0 l w) (J1 l w) rfl rfl ?_ ?_ ?_
  · have HP0 := Lib.hid (W0_cw l w)
    have tk1 : True := trivial; have tk2 : True := trivial; have tk3 : True := trivial; have tk4 : True := trivial; have tk5 : True := trivial; have tk6 : True := trivial; have tk7 : True := trivial; have tk8 : True := trivial; have tk9 : True := trivial; have tk10 : True := trivial; have tk11 : True := trivial
    go_upto_if 46 with (first
        | (go_at_call 36; clear tk1; refine (take_t 4 _ _ _ _ _ (by omega) HP0.out.sh (Nat.le_trans hl (by decide))).mono ?_; rintro e v1 ⟨he, h1, t1⟩; rw [E1.out] at he h1; subst he; have HP1 := Lib.hid (HP0.out.turn t1 h1); clear h1 t1; have c1 : v1.cell? ⟨w.heap.size + 4, 0, none⟩ = some (.int .i64 0) := HP1.out.d.cell 0; have f1 := HP1.out.d.frozen 0)
        | (go_at_call 38; clear tk2; clear c1 f1; have HQ2 := Lib.hid (HP1.out.put 0 (.int .i64 y)); refine (needc_t _ _ _ _ _ _ _ HQ2.out.sh HQ2.out.mf).mono ?_; rintro e v2 ⟨rfl, h1, t1⟩; have HP2 := Lib.hid (HQ2.out.turn t1 h1); clear h1 t1)
        | (go_at_call 36; clear tk3; refine (take_t 2 _ _ _ _ _ (by omega) HP2.out.sh (Nat.le_trans HN1.out (by decide))).mono ?_; rintro e v3 ⟨he, h1, t1⟩; rw [E2.out] at he h1; subst he; have HP3 := Lib.hid (HP2.out.turn t1 h1); clear h1 t1; have c3 : v3.cell? ⟨w.heap.size + 4, 1, none⟩ = some (.int .i64 0) := HP3.out.d.cell 1; have f3 := HP3.out.d.frozen 1)
        | (go_at_call 38; clear tk4; clear c3 f3; have HQ4 := Lib.hid (HP3.out.put 1 (.int .i64 m)); refine (needc_t _ _ _ _ _ _ _ HQ4.out.sh HQ4.out.mf).mono ?_; rintro e v4 ⟨rfl, h1, t1⟩; have HP4 := Lib.hid (HQ4.out.turn t1 h1); clear h1 t1)
        | (go_at_call 36; clear tk5; refine (take_t 2 _ _ _ _ _ (by omega) HP4.out.sh (Nat.le_trans HN2.out (by decide))).mono ?_; rintro e v5 ⟨he, h1, t1⟩; rw [E3.out] at he h1; subst he; have HP5 := Lib.hid (HP4.out.turn t1 h1); clear h1 t1; have c5 : v5.cell? ⟨w.heap.size + 4, 2, none⟩ = some (.int .i64 0) := HP5.out.d.cell 2; have f5 := HP5.out.d.frozen 2)
        | (go_at_call 38; clear tk6; clear c5 f5; have HQ6 := Lib.hid (HP5.out.put 2 (.int .i64 d)); refine (needc_t _ _ _ _ _ _ _ HQ6.out.sh HQ6.out.mf).mono ?_; rintro e v6 ⟨rfl, h1, t1⟩; have HP6 := Lib.hid (HQ6.out.turn t1 h1); clear h1 t1)
        | (go_at_call 36; clear tk7; refine (take_t 2 _ _ _ _ _ (by omega) HP6.out.sh (Nat.le_trans HN3.out (by decide))).mono ?_; rintro e v7 ⟨he, h1, t1⟩; rw [E4.out] at he h1; subst he; have HP7 := Lib.hid (HP6.out.turn t1 h1); clear h1 t1; have c7 : v7.cell? ⟨w.heap.size + 4, 3, none⟩ = some (.int .i64 0) := HP7.out.d.cell 3; have f7 := HP7.out.d.frozen 3)
        | (go_at_call 38; clear tk8; clear c7 f7; have HQ8 := Lib.hid (HP7.out.put 3 (.int .i64 h)); refine (needc_t _ _ _ _ _ _ _ HQ8.out.sh HQ8.out.mf).mono ?_; rintro e v8 ⟨rfl, h1, t1⟩; have HP8 := Lib.hid (HQ8.out.turn t1 h1); clear h1 t1)
        | (go_at_call 36; clear tk9; refine (take_t 2 _ _ _ _ _ (by omega) HP8.out.sh (Nat.le_trans HN4.out (by decide))).mono ?_; rintro e v9 ⟨he, h1, t1⟩; rw [E5.out] at he h1; subst he; have HP9 := Lib.hid (HP8.out.turn t1 h1); clear h1 t1; have c9 : v9.cell? ⟨w.heap.size + 4, 4, none⟩ = some (.int .i64 0) := HP9.out.d.cell 4; have f9 := HP9.out.d.frozen 4)
        | (go_at_call 38; clear tk10; clear c9 f9; have HQ10 := Lib.hid (HP9.out.put 4 (.int .i64 mi)); refine (needc_t _ _ _ _ _ _ _ HQ10.out.sh HQ10.out.mf).mono ?_; rintro e v10 ⟨rfl, h1, t1⟩; have HP10 := Lib.hid (HQ10.out.turn t1 h1); clear h1 t1)
        | (go_at_call 36; clear tk11; refine (take_t 2 _ _ _ _ _ (by omega) HP10.out.sh (Nat.le_trans HN5.out (by decide))).mono ?_; rintro e v11 ⟨he, h1, t1⟩; rw [E6.out] at he h1; subst he; have HP11 := Lib.hid (HP10.out.turn t1 h1); clear h1 t1; have c11 : v11.cell? ⟨w.heap.size + 4, 5, none⟩ = some (.int .i64 0) := HP11.out.d.cell 5; have f11 := HP11.out.d.frozen 5; have o11 : v11.cell? ⟨w.heap.size + 2, 0, none⟩ = some (.bool k6) := HP11.out.sh.o.cell 0))
    have HA := Lib.hid (show CW w _ l6 k6 (DC y m d h mi s 0 0) from (HP11.out.put 5 (.int .i64 s)).cells (by simp [DC]))
    clear c11 f11 o11
    go_cut [] (fun wx => k6 = true ∧ CW w wx l6 true (DC y m d h mi s 0 0))
    case first =>
      cases k6 with
      | false =>
        have HNO : calD l = none := by rw [HCD.out]; rfl
        refine wp_cond_true rfl ?_
        go_step3
        refine Goes.zero ?_
        unfold J0
        repeat apply Exists.intro
        exact ⟨⟨HA.out.res, HA.out.below, HNO⟩, rfl⟩
      | true =>
        refine wp_cond_false rfl ?_
        refine wp_skip ?_
        simp only [Exit.then]
        apply_assumption
        refine Met.intro ?_
        apply_assumption
        repeat apply Exists.intro
        exact ⟨⟨rfl, HA.out⟩, rfl⟩
    case rest =>
      obtain ⟨hk6, hcw⟩ := hcut
      apply_assumption
      refine stageB l w HTAB.out _ _ ?_
      unfold JB
      refine ⟨y, m, d, h, mi, s, l6, ?_⟩
      repeat apply Exists.intro
      refine ⟨⟨hcw, hl6', ?_⟩, rfl⟩
      rw [HCD.out, hk6]
      rfl
  · exact lbl0 l w
  · exact lbl1 l w HTAB.out
end Go.Proofs.YtdkfgobbpadmgaaGreatDoor
