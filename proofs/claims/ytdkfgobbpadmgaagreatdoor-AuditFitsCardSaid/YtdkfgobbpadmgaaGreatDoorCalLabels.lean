/- Package cal: the two labels of Parse. -/
import Derived.Test.YtdkfgobbpadmgaaGreatDoorCalPlain
set_option linter.unusedVariables false
set_option linter.unusedSimpArgs false
namespace Go.Proofs.YtdkfgobbpadmgaaGreatDoor
open Go.RowKit
def scopeOf : Code → Code
  | .seq _ b => scopeOf b
  | .scope c => c
  | c => c
def labelOf (c : Code) (k : Nat) : Code := (findLabel c k).getD .ret
theorem at_label {P : Program} {c r : Code} {k : Nat} {J : Act → World → Prop} {Q : Exit → Act → World → Prop} (h : findLabel c k = some r) (body : ∀ a w, J a w → r.wp P Q a w) : ∀ a w, J a w → (labelOf c k).wp P Q a w := by
  have : labelOf c k = r := by rw [labelOf, h]; rfl
  rw [this]
  exact body
def restO : Nat → Code → Option Code
  | 0, .seq a b => some (.seq a b)
  | 0, _ => none
  | n + 1, .seq _ b => restO n b
  | _ + 1, _ => none
def restOf (n : Nat) (c : Code) : Code := (restO n c).getD .ret
theorem at_rest {P : Program} {c r : Code} {n : Nat} {J : Act → World → Prop} {Q : Exit → Act → World → Prop} (h : restO n c = some r) (body : ∀ a w, J a w → r.wp P Q a w) : ∀ a w, J a w → (restOf n c).wp P Q a w := by
  rw [restOf, h]
  exact body
theorem Exit.of_no {P : Program} {J0 J1 : Act → World → Prop} {Q : Exit → Act → World → Prop} {c : Code} {a : Act} {w : World} (h : c.wp P (Exit.noGoto Q) a w) : c.wp P (Exit.two J0 J1 Q) a w := by
  intro b k cs
  obtain ⟨e, a1, w1, hq, harr⟩ := h b k cs
  cases e with
  | goto l => exact hq.elim
  | normal => exact ⟨.normal, a1, w1, hq, harr⟩
  | exit id => exact ⟨.exit id, a1, w1, hq, harr⟩
  | ret => exact ⟨.ret, a1, w1, hq, harr⟩
  | panic ch => exact ⟨.panic ch, a1, w1, hq, harr⟩
  | outgrown => exact ⟨.outgrown, a1, w1, hq, harr⟩
set_option maxHeartbeats 4000000 in
set_option maxRecDepth 100000 in
theorem lbl0 (l : List UInt8) (w : World) : ∀ a wx, J0 l w a wx → (labelOf (scopeOf (Tryz.f14.body.getD .ret)) 0).wp Tryz.prog (Exit.noGoto (bodyPost Tryz.prog Tryz.f14 (CPOST l w))) a wx := by
  refine at_label rfl ?_
  intro a' wx hinv
  unfold J0 at hinv
  obtain ⟨u0, hinv⟩ := hinv
  obtain ⟨u1, hinv⟩ := hinv
  obtain ⟨u3, hinv⟩ := hinv
  obtain ⟨u4, hinv⟩ := hinv
  obtain ⟨u5, hinv⟩ := hinv
  obtain ⟨u6, hinv⟩ := hinv
  obtain ⟨u7, hinv⟩ := hinv
  obtain ⟨u8, hinv⟩ := hinv
  obtain ⟨u9, hinv⟩ := hinv
  obtain ⟨u10, hinv⟩ := hinv
  obtain ⟨u11, hinv⟩ := hinv
  obtain ⟨u12, hinv⟩ := hinv
  obtain ⟨u13, hinv⟩ := hinv
  obtain ⟨u14, hinv⟩ := hinv
  obtain ⟨u15, hinv⟩ := hinv
  obtain ⟨u16, hinv⟩ := hinv
  obtain ⟨u17, hinv⟩ := hinv
  obtain ⟨u18, hinv⟩ := hinv
  obtain ⟨u19, hinv⟩ := hinv
  obtain ⟨u20, hinv⟩ := hinv
  obtain ⟨u21, hinv⟩ := hinv
  obtain ⟨u22, hinv⟩ := hinv
  obtain ⟨u23, hinv⟩ := hinv
  obtain ⟨u24, hinv⟩ := hinv
  obtain ⟨u25, hinv⟩ := hinv
  obtain ⟨u26, hinv⟩ := hinv
  obtain ⟨u27, hinv⟩ := hinv
  obtain ⟨u28, hinv⟩ := hinv
  obtain ⟨u29, hinv⟩ := hinv
  obtain ⟨u30, hinv⟩ := hinv
  obtain ⟨u31, hinv⟩ := hinv
  obtain ⟨u32, hinv⟩ := hinv
  obtain ⟨u33, hinv⟩ := hinv
  obtain ⟨u34, hinv⟩ := hinv
  obtain ⟨u35, hinv⟩ := hinv
  obtain ⟨u36, hinv⟩ := hinv
  obtain ⟨u37, hinv⟩ := hinv
  obtain ⟨u38, hinv⟩ := hinv
  obtain ⟨u39, hinv⟩ := hinv
  obtain ⟨u40, hinv⟩ := hinv
  obtain ⟨u41, hinv⟩ := hinv
  obtain ⟨u42, hinv⟩ := hinv
  obtain ⟨u43, hinv⟩ := hinv
  obtain ⟨u44, hinv⟩ := hinv
  obtain ⟨u45, hinv⟩ := hinv
  obtain ⟨u46, hinv⟩ := hinv
  obtain ⟨u47, hinv⟩ := hinv
  obtain ⟨u48, hinv⟩ := hinv
  obtain ⟨u49, hinv⟩ := hinv
  obtain ⟨u50, hinv⟩ := hinv
  obtain ⟨u51, hinv⟩ := hinv
  obtain ⟨u52, hinv⟩ := hinv
  obtain ⟨u53, hinv⟩ := hinv
  obtain ⟨u54, hinv⟩ := hinv
  obtain ⟨u55, hinv⟩ := hinv
  obtain ⟨u56, hinv⟩ := hinv
  obtain ⟨u57, hinv⟩ := hinv
  obtain ⟨u58, hinv⟩ := hinv
  obtain ⟨u59, hinv⟩ := hinv
  obtain ⟨u60, hinv⟩ := hinv
  obtain ⟨u61, hinv⟩ := hinv
  obtain ⟨u62, hinv⟩ := hinv
  obtain ⟨u63, hinv⟩ := hinv
  obtain ⟨u64, hinv⟩ := hinv
  obtain ⟨u65, hinv⟩ := hinv
  obtain ⟨u66, hinv⟩ := hinv
  obtain ⟨u67, hinv⟩ := hinv
  obtain ⟨u68, hinv⟩ := hinv
  obtain ⟨u69, hinv⟩ := hinv
  obtain ⟨u70, hinv⟩ := hinv
  obtain ⟨u71, hinv⟩ := hinv
  obtain ⟨u72, hinv⟩ := hinv
  obtain ⟨u73, hinv⟩ := hinv
  obtain ⟨u74, hinv⟩ := hinv
  obtain ⟨u75, hinv⟩ := hinv
  obtain ⟨u76, hinv⟩ := hinv
  obtain ⟨u77, hinv⟩ := hinv
  obtain ⟨u78, hinv⟩ := hinv
  obtain ⟨u79, hinv⟩ := hinv
  obtain ⟨u80, hinv⟩ := hinv
  obtain ⟨u81, hinv⟩ := hinv
  obtain ⟨u82, hinv⟩ := hinv
  obtain ⟨u83, hinv⟩ := hinv
  obtain ⟨u84, hinv⟩ := hinv
  obtain ⟨u85, hinv⟩ := hinv
  obtain ⟨u86, hinv⟩ := hinv
  obtain ⟨u87, hinv⟩ := hinv
  obtain ⟨u88, hinv⟩ := hinv
  obtain ⟨u89, hinv⟩ := hinv
  obtain ⟨u90, hinv⟩ := hinv
  obtain ⟨u91, hinv⟩ := hinv
  obtain ⟨u92, hinv⟩ := hinv
  obtain ⟨u93, hinv⟩ := hinv
  obtain ⟨u94, hinv⟩ := hinv
  obtain ⟨u95, hinv⟩ := hinv
  obtain ⟨u96, hinv⟩ := hinv
  obtain ⟨u97, hinv⟩ := hinv
  obtain ⟨u98, hinv⟩ := hinv
  obtain ⟨u99, hinv⟩ := hinv
  obtain ⟨u100, hinv⟩ := hinv
  obtain ⟨u101, hinv⟩ := hinv
  obtain ⟨u102, hinv⟩ := hinv
  obtain ⟨u103, hinv⟩ := hinv
  obtain ⟨u104, hinv⟩ := hinv
  obtain ⟨u105, hinv⟩ := hinv
  obtain ⟨u106, hinv⟩ := hinv
  obtain ⟨u107, hinv⟩ := hinv
  obtain ⟨u108, hinv⟩ := hinv
  obtain ⟨u109, hinv⟩ := hinv
  obtain ⟨u110, hinv⟩ := hinv
  obtain ⟨u111, hinv⟩ := hinv
  obtain ⟨u112, hinv⟩ := hinv
  obtain ⟨⟨hr, hb, hno⟩, ha⟩ := hinv
  subst ha
  have HR := Lib.hid hr; have HB := Lib.hid hb; have HNO := Lib.hid hno; clear hr hb hno
  have r0 : wx.cell? ⟨w.heap.size + 1, 0, none⟩ = some (.int .i64 0) := HR.out.cell 0; have rf0 := HR.out.frozen 0; have r1 : wx.cell? ⟨w.heap.size + 1, 1, none⟩ = some (.int .i64 0) := HR.out.cell 1; have rf1 := HR.out.frozen 1; have r2 : wx.cell? ⟨w.heap.size + 1, 2, none⟩ = some (.int .i64 0) := HR.out.cell 2; have rf2 := HR.out.frozen 2; have r3 : wx.cell? ⟨w.heap.size + 1, 3, none⟩ = some (.int .i64 0) := HR.out.cell 3; have rf3 := HR.out.frozen 3; have r4 : wx.cell? ⟨w.heap.size + 1, 4, none⟩ = some (.int .i64 0) := HR.out.cell 4; have rf4 := HR.out.frozen 4; have r5 : wx.cell? ⟨w.heap.size + 1, 5, none⟩ = some (.int .i64 0) := HR.out.cell 5; have rf5 := HR.out.frozen 5; have r6 : wx.cell? ⟨w.heap.size + 1, 6, none⟩ = some (.int .i64 0) := HR.out.cell 6; have rf6 := HR.out.frozen 6; have r7 : wx.cell? ⟨w.heap.size + 1, 7, none⟩ = some (.int .i64 0) := HR.out.cell 7; have rf7 := HR.out.frozen 7
  go_wp2_with fail
  have hR2 := (((((((((HR.out).put 0 (.int .i64 0)).put 1 (.int .i64 0)).put 2 (.int .i64 0)).put 3 (.int .i64 0)).put 4 (.int .i64 0)).put 5 (.int .i64 0)).put 6 (.int .i64 0)).put 7 (.int .i64 0))
  have hR3 := (show Row _ (w.heap.size + 1) 46 DATZ from by simpa [DATZ] using hR2)
  clear hR2
  refine bodyPost_ret (results_cell_row_tmp2 rfl _ _ (w.heap.size + 1) _ DATZ (0, 0) _ rfl hR3 Tryz.underlying46 rfl dateSize) rfl (CPOST.no HNO.out rfl ?_)
  exact (((((((((HB.out).setCell (by simp) _).setCell (by simp) _).setCell (by simp) _).setCell (by simp) _).setCell (by simp) _).setCell (by simp) _).setCell (by simp) _).setCell (by simp) _)
set_option maxHeartbeats 4000000 in
set_option maxRecDepth 100000 in
theorem lbl1 (l : List UInt8) (w : World) (hG : Tab w) : ∀ a wx, J1 l w a wx → (labelOf (scopeOf (Tryz.f14.body.getD .ret)) 1).wp Tryz.prog (Exit.noGoto (bodyPost Tryz.prog Tryz.f14 (CPOST l w))) a wx := by
  have HTAB := Lib.hid hG; clear hG
  refine at_label rfl ?_
  intro a' wx hinv
  unfold J1 at hinv
  obtain ⟨u0, hinv⟩ := hinv
  obtain ⟨u3, hinv⟩ := hinv
  obtain ⟨u4, hinv⟩ := hinv
  obtain ⟨u6, hinv⟩ := hinv
  obtain ⟨u7, hinv⟩ := hinv
  obtain ⟨u8, hinv⟩ := hinv
  obtain ⟨u10, hinv⟩ := hinv
  obtain ⟨u11, hinv⟩ := hinv
  obtain ⟨u12, hinv⟩ := hinv
  obtain ⟨u13, hinv⟩ := hinv
  obtain ⟨u14, hinv⟩ := hinv
  obtain ⟨u15, hinv⟩ := hinv
  obtain ⟨u16, hinv⟩ := hinv
  obtain ⟨u17, hinv⟩ := hinv
  obtain ⟨u18, hinv⟩ := hinv
  obtain ⟨u19, hinv⟩ := hinv
  obtain ⟨u20, hinv⟩ := hinv
  obtain ⟨u21, hinv⟩ := hinv
  obtain ⟨u22, hinv⟩ := hinv
  obtain ⟨u23, hinv⟩ := hinv
  obtain ⟨u24, hinv⟩ := hinv
  obtain ⟨u25, hinv⟩ := hinv
  obtain ⟨u26, hinv⟩ := hinv
  obtain ⟨u27, hinv⟩ := hinv
  obtain ⟨u28, hinv⟩ := hinv
  obtain ⟨u29, hinv⟩ := hinv
  obtain ⟨u30, hinv⟩ := hinv
  obtain ⟨u31, hinv⟩ := hinv
  obtain ⟨u32, hinv⟩ := hinv
  obtain ⟨u33, hinv⟩ := hinv
  obtain ⟨u34, hinv⟩ := hinv
  obtain ⟨u35, hinv⟩ := hinv
  obtain ⟨u36, hinv⟩ := hinv
  obtain ⟨u37, hinv⟩ := hinv
  obtain ⟨u38, hinv⟩ := hinv
  obtain ⟨u39, hinv⟩ := hinv
  obtain ⟨u40, hinv⟩ := hinv
  obtain ⟨u41, hinv⟩ := hinv
  obtain ⟨u42, hinv⟩ := hinv
  obtain ⟨u43, hinv⟩ := hinv
  obtain ⟨u44, hinv⟩ := hinv
  obtain ⟨u45, hinv⟩ := hinv
  obtain ⟨u46, hinv⟩ := hinv
  obtain ⟨u47, hinv⟩ := hinv
  obtain ⟨u48, hinv⟩ := hinv
  obtain ⟨u49, hinv⟩ := hinv
  obtain ⟨u50, hinv⟩ := hinv
  obtain ⟨u51, hinv⟩ := hinv
  obtain ⟨u52, hinv⟩ := hinv
  obtain ⟨u53, hinv⟩ := hinv
  obtain ⟨u54, hinv⟩ := hinv
  obtain ⟨u55, hinv⟩ := hinv
  obtain ⟨u56, hinv⟩ := hinv
  obtain ⟨u57, hinv⟩ := hinv
  obtain ⟨u58, hinv⟩ := hinv
  obtain ⟨u59, hinv⟩ := hinv
  obtain ⟨u60, hinv⟩ := hinv
  obtain ⟨u61, hinv⟩ := hinv
  obtain ⟨u62, hinv⟩ := hinv
  obtain ⟨u63, hinv⟩ := hinv
  obtain ⟨u64, hinv⟩ := hinv
  obtain ⟨u65, hinv⟩ := hinv
  obtain ⟨u66, hinv⟩ := hinv
  obtain ⟨u67, hinv⟩ := hinv
  obtain ⟨u68, hinv⟩ := hinv
  obtain ⟨u69, hinv⟩ := hinv
  obtain ⟨u70, hinv⟩ := hinv
  obtain ⟨u71, hinv⟩ := hinv
  obtain ⟨u72, hinv⟩ := hinv
  obtain ⟨u73, hinv⟩ := hinv
  obtain ⟨u74, hinv⟩ := hinv
  obtain ⟨u75, hinv⟩ := hinv
  obtain ⟨u76, hinv⟩ := hinv
  obtain ⟨u77, hinv⟩ := hinv
  obtain ⟨u78, hinv⟩ := hinv
  obtain ⟨u79, hinv⟩ := hinv
  obtain ⟨u80, hinv⟩ := hinv
  obtain ⟨u81, hinv⟩ := hinv
  obtain ⟨u82, hinv⟩ := hinv
  obtain ⟨u83, hinv⟩ := hinv
  obtain ⟨u84, hinv⟩ := hinv
  obtain ⟨u85, hinv⟩ := hinv
  obtain ⟨u86, hinv⟩ := hinv
  obtain ⟨u87, hinv⟩ := hinv
  obtain ⟨u88, hinv⟩ := hinv
  obtain ⟨u89, hinv⟩ := hinv
  obtain ⟨u90, hinv⟩ := hinv
  obtain ⟨u91, hinv⟩ := hinv
  obtain ⟨u92, hinv⟩ := hinv
  obtain ⟨u93, hinv⟩ := hinv
  obtain ⟨u94, hinv⟩ := hinv
  obtain ⟨u95, hinv⟩ := hinv
  obtain ⟨u96, hinv⟩ := hinv
  obtain ⟨u97, hinv⟩ := hinv
  obtain ⟨u98, hinv⟩ := hinv
  obtain ⟨u99, hinv⟩ := hinv
  obtain ⟨u100, hinv⟩ := hinv
  obtain ⟨u101, hinv⟩ := hinv
  obtain ⟨u102, hinv⟩ := hinv
  obtain ⟨u103, hinv⟩ := hinv
  obtain ⟨u104, hinv⟩ := hinv
  obtain ⟨u105, hinv⟩ := hinv
  obtain ⟨u106, hinv⟩ := hinv
  obtain ⟨u107, hinv⟩ := hinv
  obtain ⟨u108, hinv⟩ := hinv
  obtain ⟨u109, hinv⟩ := hinv
  obtain ⟨u110, hinv⟩ := hinv
  obtain ⟨u111, hinv⟩ := hinv
  obtain ⟨u112, hinv⟩ := hinv
  obtain ⟨⟨y, m, d, h, mi, s, n, z, r, k, hcw, hrl, hx⟩, ha⟩ := hinv
  subst ha
  have HP := Lib.hid hcw; have HX := Lib.hid hx; clear hcw hx
  cases k with
  | false =>
    have HNO : Hid (calD l = none) := by
      show calD l = none
      rw [HX.out]; simp [endD]
    have o1 : wx.cell? ⟨w.heap.size + 2, 0, none⟩ = some (.bool false) := HP.out.sh.o.cell 0
    go_wp2_with fail
    go_step3
    have r0 : wx.cell? ⟨w.heap.size + 1, 0, none⟩ = some (.int .i64 0) := HP.out.res.cell 0; have rf0 := HP.out.res.frozen 0; have r1 : wx.cell? ⟨w.heap.size + 1, 1, none⟩ = some (.int .i64 0) := HP.out.res.cell 1; have rf1 := HP.out.res.frozen 1; have r2 : wx.cell? ⟨w.heap.size + 1, 2, none⟩ = some (.int .i64 0) := HP.out.res.cell 2; have rf2 := HP.out.res.frozen 2; have r3 : wx.cell? ⟨w.heap.size + 1, 3, none⟩ = some (.int .i64 0) := HP.out.res.cell 3; have rf3 := HP.out.res.frozen 3; have r4 : wx.cell? ⟨w.heap.size + 1, 4, none⟩ = some (.int .i64 0) := HP.out.res.cell 4; have rf4 := HP.out.res.frozen 4; have r5 : wx.cell? ⟨w.heap.size + 1, 5, none⟩ = some (.int .i64 0) := HP.out.res.cell 5; have rf5 := HP.out.res.frozen 5; have r6 : wx.cell? ⟨w.heap.size + 1, 6, none⟩ = some (.int .i64 0) := HP.out.res.cell 6; have rf6 := HP.out.res.frozen 6; have r7 : wx.cell? ⟨w.heap.size + 1, 7, none⟩ = some (.int .i64 0) := HP.out.res.cell 7; have rf7 := HP.out.res.frozen 7
    go_wp2_with fail
    have hR2 := (((((((((HP.out.res).put 0 (.int .i64 0)).put 1 (.int .i64 0)).put 2 (.int .i64 0)).put 3 (.int .i64 0)).put 4 (.int .i64 0)).put 5 (.int .i64 0)).put 6 (.int .i64 0)).put 7 (.int .i64 0))
    have hR3 := (show Row _ (w.heap.size + 1) 46 DATZ from by simpa [DATZ] using hR2)
    clear hR2
    refine bodyPost_ret (results_cell_row_tmp2 rfl _ _ (w.heap.size + 1) _ DATZ (0, 0) _ rfl hR3 Tryz.underlying46 rfl dateSize) rfl (CPOST.no HNO.out rfl ?_)
    exact (((((((((HP.out.below).setCell (by simp) _).setCell (by simp) _).setCell (by simp) _).setCell (by simp) _).setCell (by simp) _).setCell (by simp) _).setCell (by simp) _).setCell (by simp) _)
  | true =>
    have o1 : wx.cell? ⟨w.heap.size + 2, 0, none⟩ = some (.bool true) := HP.out.sh.o.cell 0
    have d0 : wx.cell? ⟨w.heap.size + 4, 0, none⟩ = some (.int .i64 y) := HP.out.d.cell 0; have d1 : wx.cell? ⟨w.heap.size + 4, 1, none⟩ = some (.int .i64 m) := HP.out.d.cell 1; have d2 : wx.cell? ⟨w.heap.size + 4, 2, none⟩ = some (.int .i64 d) := HP.out.d.cell 2; have d3 : wx.cell? ⟨w.heap.size + 4, 3, none⟩ = some (.int .i64 h) := HP.out.d.cell 3; have d4 : wx.cell? ⟨w.heap.size + 4, 4, none⟩ = some (.int .i64 mi) := HP.out.d.cell 4; have d5 : wx.cell? ⟨w.heap.size + 4, 5, none⟩ = some (.int .i64 s) := HP.out.d.cell 5; have d6 : wx.cell? ⟨w.heap.size + 4, 6, none⟩ = some (.int .i64 n) := HP.out.d.cell 6; have d7 : wx.cell? ⟨w.heap.size + 4, 7, none⟩ = some (.int .i64 z) := HP.out.d.cell 7
    have HT2 := Lib.hid (tab_low HTAB.out HP.out.below)
    cases hrb : rightB y m d h mi s n z with
    | false =>
      have HNO : Hid (calD l = none) := by
        show calD l = none
        rw [HX.out]; simp [endD, D8.ok, hrb]
      have HRB := Lib.hid hrb; clear hrb
      go_wp2_with (go_at_call 39; refine (right_any _ _ _ _ _ _ _ _ _ HT2.out).mono ?_; rintro e wz ⟨he, bz⟩; rw [HRB.out] at he; subst he; clear d0 d1 d2 d3 d4 d5 d6 d7 o1; have HPz := Lib.hid (HP.out.lower bz); clear bz)
      go_step3
      have r0 : wz.cell? ⟨w.heap.size + 1, 0, none⟩ = some (.int .i64 0) := HPz.out.res.cell 0; have rf0 := HPz.out.res.frozen 0; have r1 : wz.cell? ⟨w.heap.size + 1, 1, none⟩ = some (.int .i64 0) := HPz.out.res.cell 1; have rf1 := HPz.out.res.frozen 1; have r2 : wz.cell? ⟨w.heap.size + 1, 2, none⟩ = some (.int .i64 0) := HPz.out.res.cell 2; have rf2 := HPz.out.res.frozen 2; have r3 : wz.cell? ⟨w.heap.size + 1, 3, none⟩ = some (.int .i64 0) := HPz.out.res.cell 3; have rf3 := HPz.out.res.frozen 3; have r4 : wz.cell? ⟨w.heap.size + 1, 4, none⟩ = some (.int .i64 0) := HPz.out.res.cell 4; have rf4 := HPz.out.res.frozen 4; have r5 : wz.cell? ⟨w.heap.size + 1, 5, none⟩ = some (.int .i64 0) := HPz.out.res.cell 5; have rf5 := HPz.out.res.frozen 5; have r6 : wz.cell? ⟨w.heap.size + 1, 6, none⟩ = some (.int .i64 0) := HPz.out.res.cell 6; have rf6 := HPz.out.res.frozen 6; have r7 : wz.cell? ⟨w.heap.size + 1, 7, none⟩ = some (.int .i64 0) := HPz.out.res.cell 7; have rf7 := HPz.out.res.frozen 7
      go_wp2_with fail
      have hR2 := (((((((((HPz.out.res).put 0 (.int .i64 0)).put 1 (.int .i64 0)).put 2 (.int .i64 0)).put 3 (.int .i64 0)).put 4 (.int .i64 0)).put 5 (.int .i64 0)).put 6 (.int .i64 0)).put 7 (.int .i64 0))
      have hR3 := (show Row _ (w.heap.size + 1) 46 DATZ from by simpa [DATZ] using hR2)
      clear hR2
      refine bodyPost_ret (results_cell_row_tmp2 rfl _ _ (w.heap.size + 1) _ DATZ (0, 0) _ rfl hR3 Tryz.underlying46 rfl dateSize) rfl (CPOST.no HNO.out rfl ?_)
      exact (((((((((HPz.out.below).setCell (by simp) _).setCell (by simp) _).setCell (by simp) _).setCell (by simp) _).setCell (by simp) _).setCell (by simp) _).setCell (by simp) _).setCell (by simp) _)
    | true =>
      have HYES : Hid (calD l = some (⟨y, m, d, h, mi, s, n, z⟩, r)) := by
        show calD l = _
        rw [HX.out]; simp [endD, D8.ok, hrb]
      have HRB := Lib.hid hrb; clear hrb
      go_upto_if 109 with (go_at_call 39; refine (right_any _ _ _ _ _ _ _ _ _ HT2.out).mono ?_; rintro e wz ⟨he, bz⟩; rw [HRB.out] at he; subst he; clear d0 d1 d2 d3 d4 d5 d6 d7 o1; have HPz := Lib.hid (HP.out.lower bz); clear bz; have r0 : wz.cell? ⟨w.heap.size + 1, 0, none⟩ = some (.int .i64 0) := HPz.out.res.cell 0; have rf0 := HPz.out.res.frozen 0; have r1 : wz.cell? ⟨w.heap.size + 1, 1, none⟩ = some (.int .i64 0) := HPz.out.res.cell 1; have rf1 := HPz.out.res.frozen 1; have r2 : wz.cell? ⟨w.heap.size + 1, 2, none⟩ = some (.int .i64 0) := HPz.out.res.cell 2; have rf2 := HPz.out.res.frozen 2; have r3 : wz.cell? ⟨w.heap.size + 1, 3, none⟩ = some (.int .i64 0) := HPz.out.res.cell 3; have rf3 := HPz.out.res.frozen 3; have r4 : wz.cell? ⟨w.heap.size + 1, 4, none⟩ = some (.int .i64 0) := HPz.out.res.cell 4; have rf4 := HPz.out.res.frozen 4; have r5 : wz.cell? ⟨w.heap.size + 1, 5, none⟩ = some (.int .i64 0) := HPz.out.res.cell 5; have rf5 := HPz.out.res.frozen 5; have r6 : wz.cell? ⟨w.heap.size + 1, 6, none⟩ = some (.int .i64 0) := HPz.out.res.cell 6; have rf6 := HPz.out.res.frozen 6; have r7 : wz.cell? ⟨w.heap.size + 1, 7, none⟩ = some (.int .i64 0) := HPz.out.res.cell 7; have rf7 := HPz.out.res.frozen 7; have d0 : wz.cell? ⟨w.heap.size + 4, 0, none⟩ = some (.int .i64 y) := HPz.out.d.cell 0; have d1 : wz.cell? ⟨w.heap.size + 4, 1, none⟩ = some (.int .i64 m) := HPz.out.d.cell 1; have d2 : wz.cell? ⟨w.heap.size + 4, 2, none⟩ = some (.int .i64 d) := HPz.out.d.cell 2; have d3 : wz.cell? ⟨w.heap.size + 4, 3, none⟩ = some (.int .i64 h) := HPz.out.d.cell 3; have d4 : wz.cell? ⟨w.heap.size + 4, 4, none⟩ = some (.int .i64 mi) := HPz.out.d.cell 4; have d5 : wz.cell? ⟨w.heap.size + 4, 5, none⟩ = some (.int .i64 s) := HPz.out.d.cell 5; have d6 : wz.cell? ⟨w.heap.size + 4, 6, none⟩ = some (.int .i64 n) := HPz.out.d.cell 6; have d7 : wz.cell? ⟨w.heap.size + 4, 7, none⟩ = some (.int .i64 z) := HPz.out.d.cell 7; have s1 : wz.cell? ⟨w.heap.size, 0, none⟩ = some (.string ⟨r.toArray⟩) := HPz.out.sh.s.cell 0)
      go_wp2_with fail
      go_region
      all_goals
        go_wp2_with fail
        have hR2 := (((((((((HPz.out.res).put 0 (.int .i64 y)).put 1 (.int .i64 m)).put 2 (.int .i64 d)).put 3 (.int .i64 h)).put 4 (.int .i64 mi)).put 5 (.int .i64 s)).put 6 (.int .i64 n)).put 7 (.int .i64 z))
        have hR3 := (show Row _ (w.heap.size + 1) 46 (DC y m d h mi s n z) from by simpa [DATZ, DC] using hR2)
        clear hR2
        refine bodyPost_ret (results_cell_row_tmp2 rfl _ _ (w.heap.size + 1) _ (DC y m d h mi s n z) (0, 0) _ rfl hR3.drew Tryz.underlying46 rfl dateSize) rfl (CPOST.yes HYES.out rfl ?_)
        exact ((((((((((HPz.out.below).setCell (by simp) _).setCell (by simp) _).setCell (by simp) _).setCell (by simp) _).setCell (by simp) _).setCell (by simp) _).setCell (by simp) _).setCell (by simp) _)).drew
set_option maxHeartbeats 4000000 in
set_option maxRecDepth 100000 in
theorem lbl1b (l : List UInt8) (w : World) (hG : Tab w) : ∀ a wx, J1 l w a wx → (restOf 28 (scopeOf (Tryz.f14.body.getD .ret))).wp Tryz.prog (Exit.noGoto (bodyPost Tryz.prog Tryz.f14 (CPOST l w))) a wx := by
  have HTAB := Lib.hid hG; clear hG
  refine at_rest rfl ?_
  intro a' wx hinv
  unfold J1 at hinv
  obtain ⟨u0, hinv⟩ := hinv
  obtain ⟨u3, hinv⟩ := hinv
  obtain ⟨u4, hinv⟩ := hinv
  obtain ⟨u6, hinv⟩ := hinv
  obtain ⟨u7, hinv⟩ := hinv
  obtain ⟨u8, hinv⟩ := hinv
  obtain ⟨u10, hinv⟩ := hinv
  obtain ⟨u11, hinv⟩ := hinv
  obtain ⟨u12, hinv⟩ := hinv
  obtain ⟨u13, hinv⟩ := hinv
  obtain ⟨u14, hinv⟩ := hinv
  obtain ⟨u15, hinv⟩ := hinv
  obtain ⟨u16, hinv⟩ := hinv
  obtain ⟨u17, hinv⟩ := hinv
  obtain ⟨u18, hinv⟩ := hinv
  obtain ⟨u19, hinv⟩ := hinv
  obtain ⟨u20, hinv⟩ := hinv
  obtain ⟨u21, hinv⟩ := hinv
  obtain ⟨u22, hinv⟩ := hinv
  obtain ⟨u23, hinv⟩ := hinv
  obtain ⟨u24, hinv⟩ := hinv
  obtain ⟨u25, hinv⟩ := hinv
  obtain ⟨u26, hinv⟩ := hinv
  obtain ⟨u27, hinv⟩ := hinv
  obtain ⟨u28, hinv⟩ := hinv
  obtain ⟨u29, hinv⟩ := hinv
  obtain ⟨u30, hinv⟩ := hinv
  obtain ⟨u31, hinv⟩ := hinv
  obtain ⟨u32, hinv⟩ := hinv
  obtain ⟨u33, hinv⟩ := hinv
  obtain ⟨u34, hinv⟩ := hinv
  obtain ⟨u35, hinv⟩ := hinv
  obtain ⟨u36, hinv⟩ := hinv
  obtain ⟨u37, hinv⟩ := hinv
  obtain ⟨u38, hinv⟩ := hinv
  obtain ⟨u39, hinv⟩ := hinv
  obtain ⟨u40, hinv⟩ := hinv
  obtain ⟨u41, hinv⟩ := hinv
  obtain ⟨u42, hinv⟩ := hinv
  obtain ⟨u43, hinv⟩ := hinv
  obtain ⟨u44, hinv⟩ := hinv
  obtain ⟨u45, hinv⟩ := hinv
  obtain ⟨u46, hinv⟩ := hinv
  obtain ⟨u47, hinv⟩ := hinv
  obtain ⟨u48, hinv⟩ := hinv
  obtain ⟨u49, hinv⟩ := hinv
  obtain ⟨u50, hinv⟩ := hinv
  obtain ⟨u51, hinv⟩ := hinv
  obtain ⟨u52, hinv⟩ := hinv
  obtain ⟨u53, hinv⟩ := hinv
  obtain ⟨u54, hinv⟩ := hinv
  obtain ⟨u55, hinv⟩ := hinv
  obtain ⟨u56, hinv⟩ := hinv
  obtain ⟨u57, hinv⟩ := hinv
  obtain ⟨u58, hinv⟩ := hinv
  obtain ⟨u59, hinv⟩ := hinv
  obtain ⟨u60, hinv⟩ := hinv
  obtain ⟨u61, hinv⟩ := hinv
  obtain ⟨u62, hinv⟩ := hinv
  obtain ⟨u63, hinv⟩ := hinv
  obtain ⟨u64, hinv⟩ := hinv
  obtain ⟨u65, hinv⟩ := hinv
  obtain ⟨u66, hinv⟩ := hinv
  obtain ⟨u67, hinv⟩ := hinv
  obtain ⟨u68, hinv⟩ := hinv
  obtain ⟨u69, hinv⟩ := hinv
  obtain ⟨u70, hinv⟩ := hinv
  obtain ⟨u71, hinv⟩ := hinv
  obtain ⟨u72, hinv⟩ := hinv
  obtain ⟨u73, hinv⟩ := hinv
  obtain ⟨u74, hinv⟩ := hinv
  obtain ⟨u75, hinv⟩ := hinv
  obtain ⟨u76, hinv⟩ := hinv
  obtain ⟨u77, hinv⟩ := hinv
  obtain ⟨u78, hinv⟩ := hinv
  obtain ⟨u79, hinv⟩ := hinv
  obtain ⟨u80, hinv⟩ := hinv
  obtain ⟨u81, hinv⟩ := hinv
  obtain ⟨u82, hinv⟩ := hinv
  obtain ⟨u83, hinv⟩ := hinv
  obtain ⟨u84, hinv⟩ := hinv
  obtain ⟨u85, hinv⟩ := hinv
  obtain ⟨u86, hinv⟩ := hinv
  obtain ⟨u87, hinv⟩ := hinv
  obtain ⟨u88, hinv⟩ := hinv
  obtain ⟨u89, hinv⟩ := hinv
  obtain ⟨u90, hinv⟩ := hinv
  obtain ⟨u91, hinv⟩ := hinv
  obtain ⟨u92, hinv⟩ := hinv
  obtain ⟨u93, hinv⟩ := hinv
  obtain ⟨u94, hinv⟩ := hinv
  obtain ⟨u95, hinv⟩ := hinv
  obtain ⟨u96, hinv⟩ := hinv
  obtain ⟨u97, hinv⟩ := hinv
  obtain ⟨u98, hinv⟩ := hinv
  obtain ⟨u99, hinv⟩ := hinv
  obtain ⟨u100, hinv⟩ := hinv
  obtain ⟨u101, hinv⟩ := hinv
  obtain ⟨u102, hinv⟩ := hinv
  obtain ⟨u103, hinv⟩ := hinv
  obtain ⟨u104, hinv⟩ := hinv
  obtain ⟨u105, hinv⟩ := hinv
  obtain ⟨u106, hinv⟩ := hinv
  obtain ⟨u107, hinv⟩ := hinv
  obtain ⟨u108, hinv⟩ := hinv
  obtain ⟨u109, hinv⟩ := hinv
  obtain ⟨u110, hinv⟩ := hinv
  obtain ⟨u111, hinv⟩ := hinv
  obtain ⟨u112, hinv⟩ := hinv
  obtain ⟨⟨y, m, d, h, mi, s, n, z, r, k, hcw, hrl, hx⟩, ha⟩ := hinv
  subst ha
  have HP := Lib.hid hcw; have HX := Lib.hid hx; clear hcw hx
  cases k with
  | false =>
    have HNO : Hid (calD l = none) := by
      show calD l = none
      rw [HX.out]; simp [endD]
    have o1 : wx.cell? ⟨w.heap.size + 2, 0, none⟩ = some (.bool false) := HP.out.sh.o.cell 0
    go_wp2_with fail
    go_step3
    have r0 : wx.cell? ⟨w.heap.size + 1, 0, none⟩ = some (.int .i64 0) := HP.out.res.cell 0; have rf0 := HP.out.res.frozen 0; have r1 : wx.cell? ⟨w.heap.size + 1, 1, none⟩ = some (.int .i64 0) := HP.out.res.cell 1; have rf1 := HP.out.res.frozen 1; have r2 : wx.cell? ⟨w.heap.size + 1, 2, none⟩ = some (.int .i64 0) := HP.out.res.cell 2; have rf2 := HP.out.res.frozen 2; have r3 : wx.cell? ⟨w.heap.size + 1, 3, none⟩ = some (.int .i64 0) := HP.out.res.cell 3; have rf3 := HP.out.res.frozen 3; have r4 : wx.cell? ⟨w.heap.size + 1, 4, none⟩ = some (.int .i64 0) := HP.out.res.cell 4; have rf4 := HP.out.res.frozen 4; have r5 : wx.cell? ⟨w.heap.size + 1, 5, none⟩ = some (.int .i64 0) := HP.out.res.cell 5; have rf5 := HP.out.res.frozen 5; have r6 : wx.cell? ⟨w.heap.size + 1, 6, none⟩ = some (.int .i64 0) := HP.out.res.cell 6; have rf6 := HP.out.res.frozen 6; have r7 : wx.cell? ⟨w.heap.size + 1, 7, none⟩ = some (.int .i64 0) := HP.out.res.cell 7; have rf7 := HP.out.res.frozen 7
    go_wp2_with fail
    have hR2 := (((((((((HP.out.res).put 0 (.int .i64 0)).put 1 (.int .i64 0)).put 2 (.int .i64 0)).put 3 (.int .i64 0)).put 4 (.int .i64 0)).put 5 (.int .i64 0)).put 6 (.int .i64 0)).put 7 (.int .i64 0))
    have hR3 := (show Row _ (w.heap.size + 1) 46 DATZ from by simpa [DATZ] using hR2)
    clear hR2
    refine bodyPost_ret (results_cell_row_tmp2 rfl _ _ (w.heap.size + 1) _ DATZ (0, 0) _ rfl hR3 Tryz.underlying46 rfl dateSize) rfl (CPOST.no HNO.out rfl ?_)
    exact (((((((((HP.out.below).setCell (by simp) _).setCell (by simp) _).setCell (by simp) _).setCell (by simp) _).setCell (by simp) _).setCell (by simp) _).setCell (by simp) _).setCell (by simp) _)
  | true =>
    have o1 : wx.cell? ⟨w.heap.size + 2, 0, none⟩ = some (.bool true) := HP.out.sh.o.cell 0
    have d0 : wx.cell? ⟨w.heap.size + 4, 0, none⟩ = some (.int .i64 y) := HP.out.d.cell 0; have d1 : wx.cell? ⟨w.heap.size + 4, 1, none⟩ = some (.int .i64 m) := HP.out.d.cell 1; have d2 : wx.cell? ⟨w.heap.size + 4, 2, none⟩ = some (.int .i64 d) := HP.out.d.cell 2; have d3 : wx.cell? ⟨w.heap.size + 4, 3, none⟩ = some (.int .i64 h) := HP.out.d.cell 3; have d4 : wx.cell? ⟨w.heap.size + 4, 4, none⟩ = some (.int .i64 mi) := HP.out.d.cell 4; have d5 : wx.cell? ⟨w.heap.size + 4, 5, none⟩ = some (.int .i64 s) := HP.out.d.cell 5; have d6 : wx.cell? ⟨w.heap.size + 4, 6, none⟩ = some (.int .i64 n) := HP.out.d.cell 6; have d7 : wx.cell? ⟨w.heap.size + 4, 7, none⟩ = some (.int .i64 z) := HP.out.d.cell 7
    have HT2 := Lib.hid (tab_low HTAB.out HP.out.below)
    cases hrb : rightB y m d h mi s n z with
    | false =>
      have HNO : Hid (calD l = none) := by
        show calD l = none
        rw [HX.out]; simp [endD, D8.ok, hrb]
      have HRB := Lib.hid hrb; clear hrb
      go_wp2_with (go_at_call 39; refine (right_any _ _ _ _ _ _ _ _ _ HT2.out).mono ?_; rintro e wz ⟨he, bz⟩; rw [HRB.out] at he; subst he; clear d0 d1 d2 d3 d4 d5 d6 d7 o1; have HPz := Lib.hid (HP.out.lower bz); clear bz)
      go_step3
      have r0 : wz.cell? ⟨w.heap.size + 1, 0, none⟩ = some (.int .i64 0) := HPz.out.res.cell 0; have rf0 := HPz.out.res.frozen 0; have r1 : wz.cell? ⟨w.heap.size + 1, 1, none⟩ = some (.int .i64 0) := HPz.out.res.cell 1; have rf1 := HPz.out.res.frozen 1; have r2 : wz.cell? ⟨w.heap.size + 1, 2, none⟩ = some (.int .i64 0) := HPz.out.res.cell 2; have rf2 := HPz.out.res.frozen 2; have r3 : wz.cell? ⟨w.heap.size + 1, 3, none⟩ = some (.int .i64 0) := HPz.out.res.cell 3; have rf3 := HPz.out.res.frozen 3; have r4 : wz.cell? ⟨w.heap.size + 1, 4, none⟩ = some (.int .i64 0) := HPz.out.res.cell 4; have rf4 := HPz.out.res.frozen 4; have r5 : wz.cell? ⟨w.heap.size + 1, 5, none⟩ = some (.int .i64 0) := HPz.out.res.cell 5; have rf5 := HPz.out.res.frozen 5; have r6 : wz.cell? ⟨w.heap.size + 1, 6, none⟩ = some (.int .i64 0) := HPz.out.res.cell 6; have rf6 := HPz.out.res.frozen 6; have r7 : wz.cell? ⟨w.heap.size + 1, 7, none⟩ = some (.int .i64 0) := HPz.out.res.cell 7; have rf7 := HPz.out.res.frozen 7
      go_wp2_with fail
      have hR2 := (((((((((HPz.out.res).put 0 (.int .i64 0)).put 1 (.int .i64 0)).put 2 (.int .i64 0)).put 3 (.int .i64 0)).put 4 (.int .i64 0)).put 5 (.int .i64 0)).put 6 (.int .i64 0)).put 7 (.int .i64 0))
      have hR3 := (show Row _ (w.heap.size + 1) 46 DATZ from by simpa [DATZ] using hR2)
      clear hR2
      refine bodyPost_ret (results_cell_row_tmp2 rfl _ _ (w.heap.size + 1) _ DATZ (0, 0) _ rfl hR3 Tryz.underlying46 rfl dateSize) rfl (CPOST.no HNO.out rfl ?_)
      exact (((((((((HPz.out.below).setCell (by simp) _).setCell (by simp) _).setCell (by simp) _).setCell (by simp) _).setCell (by simp) _).setCell (by simp) _).setCell (by simp) _).setCell (by simp) _)
    | true =>
      have HYES : Hid (calD l = some (⟨y, m, d, h, mi, s, n, z⟩, r)) := by
        show calD l = _
        rw [HX.out]; simp [endD, D8.ok, hrb]
      have HRB := Lib.hid hrb; clear hrb
      go_upto_if 109 with (go_at_call 39; refine (right_any _ _ _ _ _ _ _ _ _ HT2.out).mono ?_; rintro e wz ⟨he, bz⟩; rw [HRB.out] at he; subst he; clear d0 d1 d2 d3 d4 d5 d6 d7 o1; have HPz := Lib.hid (HP.out.lower bz); clear bz; have r0 : wz.cell? ⟨w.heap.size + 1, 0, none⟩ = some (.int .i64 0) := HPz.out.res.cell 0; have rf0 := HPz.out.res.frozen 0; have r1 : wz.cell? ⟨w.heap.size + 1, 1, none⟩ = some (.int .i64 0) := HPz.out.res.cell 1; have rf1 := HPz.out.res.frozen 1; have r2 : wz.cell? ⟨w.heap.size + 1, 2, none⟩ = some (.int .i64 0) := HPz.out.res.cell 2; have rf2 := HPz.out.res.frozen 2; have r3 : wz.cell? ⟨w.heap.size + 1, 3, none⟩ = some (.int .i64 0) := HPz.out.res.cell 3; have rf3 := HPz.out.res.frozen 3; have r4 : wz.cell? ⟨w.heap.size + 1, 4, none⟩ = some (.int .i64 0) := HPz.out.res.cell 4; have rf4 := HPz.out.res.frozen 4; have r5 : wz.cell? ⟨w.heap.size + 1, 5, none⟩ = some (.int .i64 0) := HPz.out.res.cell 5; have rf5 := HPz.out.res.frozen 5; have r6 : wz.cell? ⟨w.heap.size + 1, 6, none⟩ = some (.int .i64 0) := HPz.out.res.cell 6; have rf6 := HPz.out.res.frozen 6; have r7 : wz.cell? ⟨w.heap.size + 1, 7, none⟩ = some (.int .i64 0) := HPz.out.res.cell 7; have rf7 := HPz.out.res.frozen 7; have d0 : wz.cell? ⟨w.heap.size + 4, 0, none⟩ = some (.int .i64 y) := HPz.out.d.cell 0; have d1 : wz.cell? ⟨w.heap.size + 4, 1, none⟩ = some (.int .i64 m) := HPz.out.d.cell 1; have d2 : wz.cell? ⟨w.heap.size + 4, 2, none⟩ = some (.int .i64 d) := HPz.out.d.cell 2; have d3 : wz.cell? ⟨w.heap.size + 4, 3, none⟩ = some (.int .i64 h) := HPz.out.d.cell 3; have d4 : wz.cell? ⟨w.heap.size + 4, 4, none⟩ = some (.int .i64 mi) := HPz.out.d.cell 4; have d5 : wz.cell? ⟨w.heap.size + 4, 5, none⟩ = some (.int .i64 s) := HPz.out.d.cell 5; have d6 : wz.cell? ⟨w.heap.size + 4, 6, none⟩ = some (.int .i64 n) := HPz.out.d.cell 6; have d7 : wz.cell? ⟨w.heap.size + 4, 7, none⟩ = some (.int .i64 z) := HPz.out.d.cell 7; have s1 : wz.cell? ⟨w.heap.size, 0, none⟩ = some (.string ⟨r.toArray⟩) := HPz.out.sh.s.cell 0)
      go_wp2_with fail
      go_region
      all_goals
        go_wp2_with fail
        have hR2 := (((((((((HPz.out.res).put 0 (.int .i64 y)).put 1 (.int .i64 m)).put 2 (.int .i64 d)).put 3 (.int .i64 h)).put 4 (.int .i64 mi)).put 5 (.int .i64 s)).put 6 (.int .i64 n)).put 7 (.int .i64 z))
        have hR3 := (show Row _ (w.heap.size + 1) 46 (DC y m d h mi s n z) from by simpa [DATZ, DC] using hR2)
        clear hR2
        refine bodyPost_ret (results_cell_row_tmp2 rfl _ _ (w.heap.size + 1) _ (DC y m d h mi s n z) (0, 0) _ rfl hR3.drew Tryz.underlying46 rfl dateSize) rfl (CPOST.yes HYES.out rfl ?_)
        exact ((((((((((HPz.out.below).setCell (by simp) _).setCell (by simp) _).setCell (by simp) _).setCell (by simp) _).setCell (by simp) _).setCell (by simp) _).setCell (by simp) _).setCell (by simp) _)).drew
end Go.Proofs.YtdkfgobbpadmgaaGreatDoor
