/- Package tabularyref05: Same, of two events of one content. -/
import Derived.Test.YtdkfgobbpadmgaaGreatDoorRef5Right
set_option linter.unusedVariables false
set_option linter.unusedSimpArgs false
namespace Go.Proofs.YtdkfgobbpadmgaaGreatDoor
open Go.RowKit
theorem same_get (es es' : List BEl) (hs : es.map (fun x => (x.1, x.2.2)) = es'.map (fun x => (x.1, x.2.2))) (k : Nat) (h : k < es.length) (h' : k < es'.length) : es[k].1 = es'[k].1 ∧ es[k].2.2 = es'[k].2.2 := by
  have h1 : (es.map (fun x => (x.1, x.2.2)))[k]? = (es'.map (fun x => (x.1, x.2.2)))[k]? := by rw [hs]
  rw [List.getElem?_map, List.getElem?_map, List.getElem?_eq_getElem h, List.getElem?_eq_getElem h'] at h1
  simpa using h1
set_option maxHeartbeats 8000000 in
set_option maxRecDepth 100000 in
theorem rsame_c (g f : Int) (t : Bool) (a : Int) (h p q i x : ByteArray) (dv ev : Value) (es es' : List BEl) (w : World) (hE : Elems w dv es) (hE' : Elems w ev es') (hI : EB es) (hs : es.map (fun x => (x.1, x.2.2)) = es'.map (fun x => (x.1, x.2.2))) :
    Calls Tryz.prog 8 #[.agg #[.int .i64 g, .int .i64 f, .bool t, .int .i64 a, .string h, .string p, .string q, .string i, dv, .string x], .agg #[.int .i64 g, .int .i64 f, .bool t, .int .i64 a, .string h, .string p, .string q, .string i, ev, .string x]] w fun e w' => e = .returned (.bool true) ∧ Below w.heap.size w w' := by
  have hlen := hI.len
  have hll : es.length = es'.length := by simpa using congrArg List.length hs
  obtain ⟨da, dc, rfl, hlt, hc⟩ := hE.shape
  obtain ⟨db, ec, rfl, hlt', hc'⟩ := hE'.shape
  have HS : Hid (∀ k (h : k < es.length) (h' : k < es'.length), es[k].1 = es'[k].1 ∧ es[k].2.2 = es'[k].2.2) := Lib.hid fun k h h' => same_get es es' hs k h h'
  have HC := Lib.hid hc; have HL := Lib.hid hlt; have HC' := Lib.hid hc'; have HL' := Lib.hid hlt'; have HI := Lib.hid hI; have HLL := Lib.hid hll
  rw [← hll]
  clear hc hlt hc' hlt' hI hE hE' hs hll
  have HX0 : Hid (Row ((w.alloc (Obj.cells #[.int .i64 g, .int .i64 f, .bool t, .int .i64 a, .string h, .string p, .string q, .string i, .slice da es.length dc, .string x] 25)).alloc (Obj.cells #[.int .i64 g, .int .i64 f, .bool t, .int .i64 a, .string h, .string p, .string q, .string i, .slice db es.length ec, .string x] 25)) w.heap.size 25 #[.int .i64 g, .int .i64 f, .bool t, .int .i64 a, .string h, .string p, .string q, .string i, .slice da es.length dc, .string x]) := Lib.hid ((Row.laid _ _ _).alloc _)
  have HY0 : Hid (Row ((w.alloc (Obj.cells #[.int .i64 g, .int .i64 f, .bool t, .int .i64 a, .string h, .string p, .string q, .string i, .slice da es.length dc, .string x] 25)).alloc (Obj.cells #[.int .i64 g, .int .i64 f, .bool t, .int .i64 a, .string h, .string p, .string q, .string i, .slice db es.length ec, .string x] 25)) (w.heap.size + 1) 25 #[.int .i64 g, .int .i64 f, .bool t, .int .i64 a, .string h, .string p, .string q, .string i, .slice db es.length ec, .string x]) := Lib.hid (by have := Row.laid (w.alloc (Obj.cells #[.int .i64 g, .int .i64 f, .bool t, .int .i64 a, .string h, .string p, .string q, .string i, .slice da es.length dc, .string x] 25)) 25 #[.int .i64 g, .int .i64 f, .bool t, .int .i64 a, .string h, .string p, .string q, .string i, .slice db es.length ec, .string x]; simpa using this)
  have HB0 : Hid (Below w.heap.size w ((w.alloc (Obj.cells #[.int .i64 g, .int .i64 f, .bool t, .int .i64 a, .string h, .string p, .string q, .string i, .slice da es.length dc, .string x] 25)).alloc (Obj.cells #[.int .i64 g, .int .i64 f, .bool t, .int .i64 a, .string h, .string p, .string q, .string i, .slice db es.length ec, .string x] 25))) := Lib.hid (((Below.refl _ _).alloc (Nat.le_refl _) _).alloc (by simp) _)
  have c0 : ((w.alloc (Obj.cells #[.int .i64 g, .int .i64 f, .bool t, .int .i64 a, .string h, .string p, .string q, .string i, .slice da es.length dc, .string x] 25)).alloc (Obj.cells #[.int .i64 g, .int .i64 f, .bool t, .int .i64 a, .string h, .string p, .string q, .string i, .slice db es.length ec, .string x] 25)).cell? ⟨w.heap.size, 0, none⟩ = some (.int .i64 g) := HX0.out.cell 0
  have d0 : ((w.alloc (Obj.cells #[.int .i64 g, .int .i64 f, .bool t, .int .i64 a, .string h, .string p, .string q, .string i, .slice da es.length dc, .string x] 25)).alloc (Obj.cells #[.int .i64 g, .int .i64 f, .bool t, .int .i64 a, .string h, .string p, .string q, .string i, .slice db es.length ec, .string x] 25)).cell? ⟨w.heap.size + 1, 0, none⟩ = some (.int .i64 g) := HY0.out.cell 0
  have c1 : ((w.alloc (Obj.cells #[.int .i64 g, .int .i64 f, .bool t, .int .i64 a, .string h, .string p, .string q, .string i, .slice da es.length dc, .string x] 25)).alloc (Obj.cells #[.int .i64 g, .int .i64 f, .bool t, .int .i64 a, .string h, .string p, .string q, .string i, .slice db es.length ec, .string x] 25)).cell? ⟨w.heap.size, 1, none⟩ = some (.int .i64 f) := HX0.out.cell 1
  have d1 : ((w.alloc (Obj.cells #[.int .i64 g, .int .i64 f, .bool t, .int .i64 a, .string h, .string p, .string q, .string i, .slice da es.length dc, .string x] 25)).alloc (Obj.cells #[.int .i64 g, .int .i64 f, .bool t, .int .i64 a, .string h, .string p, .string q, .string i, .slice db es.length ec, .string x] 25)).cell? ⟨w.heap.size + 1, 1, none⟩ = some (.int .i64 f) := HY0.out.cell 1
  have c2 : ((w.alloc (Obj.cells #[.int .i64 g, .int .i64 f, .bool t, .int .i64 a, .string h, .string p, .string q, .string i, .slice da es.length dc, .string x] 25)).alloc (Obj.cells #[.int .i64 g, .int .i64 f, .bool t, .int .i64 a, .string h, .string p, .string q, .string i, .slice db es.length ec, .string x] 25)).cell? ⟨w.heap.size, 2, none⟩ = some (.bool t) := HX0.out.cell 2
  have d2 : ((w.alloc (Obj.cells #[.int .i64 g, .int .i64 f, .bool t, .int .i64 a, .string h, .string p, .string q, .string i, .slice da es.length dc, .string x] 25)).alloc (Obj.cells #[.int .i64 g, .int .i64 f, .bool t, .int .i64 a, .string h, .string p, .string q, .string i, .slice db es.length ec, .string x] 25)).cell? ⟨w.heap.size + 1, 2, none⟩ = some (.bool t) := HY0.out.cell 2
  have c3 : ((w.alloc (Obj.cells #[.int .i64 g, .int .i64 f, .bool t, .int .i64 a, .string h, .string p, .string q, .string i, .slice da es.length dc, .string x] 25)).alloc (Obj.cells #[.int .i64 g, .int .i64 f, .bool t, .int .i64 a, .string h, .string p, .string q, .string i, .slice db es.length ec, .string x] 25)).cell? ⟨w.heap.size, 3, none⟩ = some (.int .i64 a) := HX0.out.cell 3
  have d3 : ((w.alloc (Obj.cells #[.int .i64 g, .int .i64 f, .bool t, .int .i64 a, .string h, .string p, .string q, .string i, .slice da es.length dc, .string x] 25)).alloc (Obj.cells #[.int .i64 g, .int .i64 f, .bool t, .int .i64 a, .string h, .string p, .string q, .string i, .slice db es.length ec, .string x] 25)).cell? ⟨w.heap.size + 1, 3, none⟩ = some (.int .i64 a) := HY0.out.cell 3
  have c4 : ((w.alloc (Obj.cells #[.int .i64 g, .int .i64 f, .bool t, .int .i64 a, .string h, .string p, .string q, .string i, .slice da es.length dc, .string x] 25)).alloc (Obj.cells #[.int .i64 g, .int .i64 f, .bool t, .int .i64 a, .string h, .string p, .string q, .string i, .slice db es.length ec, .string x] 25)).cell? ⟨w.heap.size, 4, none⟩ = some (.string h) := HX0.out.cell 4
  have d4 : ((w.alloc (Obj.cells #[.int .i64 g, .int .i64 f, .bool t, .int .i64 a, .string h, .string p, .string q, .string i, .slice da es.length dc, .string x] 25)).alloc (Obj.cells #[.int .i64 g, .int .i64 f, .bool t, .int .i64 a, .string h, .string p, .string q, .string i, .slice db es.length ec, .string x] 25)).cell? ⟨w.heap.size + 1, 4, none⟩ = some (.string h) := HY0.out.cell 4
  have c5 : ((w.alloc (Obj.cells #[.int .i64 g, .int .i64 f, .bool t, .int .i64 a, .string h, .string p, .string q, .string i, .slice da es.length dc, .string x] 25)).alloc (Obj.cells #[.int .i64 g, .int .i64 f, .bool t, .int .i64 a, .string h, .string p, .string q, .string i, .slice db es.length ec, .string x] 25)).cell? ⟨w.heap.size, 5, none⟩ = some (.string p) := HX0.out.cell 5
  have d5 : ((w.alloc (Obj.cells #[.int .i64 g, .int .i64 f, .bool t, .int .i64 a, .string h, .string p, .string q, .string i, .slice da es.length dc, .string x] 25)).alloc (Obj.cells #[.int .i64 g, .int .i64 f, .bool t, .int .i64 a, .string h, .string p, .string q, .string i, .slice db es.length ec, .string x] 25)).cell? ⟨w.heap.size + 1, 5, none⟩ = some (.string p) := HY0.out.cell 5
  have c6 : ((w.alloc (Obj.cells #[.int .i64 g, .int .i64 f, .bool t, .int .i64 a, .string h, .string p, .string q, .string i, .slice da es.length dc, .string x] 25)).alloc (Obj.cells #[.int .i64 g, .int .i64 f, .bool t, .int .i64 a, .string h, .string p, .string q, .string i, .slice db es.length ec, .string x] 25)).cell? ⟨w.heap.size, 6, none⟩ = some (.string q) := HX0.out.cell 6
  have d6 : ((w.alloc (Obj.cells #[.int .i64 g, .int .i64 f, .bool t, .int .i64 a, .string h, .string p, .string q, .string i, .slice da es.length dc, .string x] 25)).alloc (Obj.cells #[.int .i64 g, .int .i64 f, .bool t, .int .i64 a, .string h, .string p, .string q, .string i, .slice db es.length ec, .string x] 25)).cell? ⟨w.heap.size + 1, 6, none⟩ = some (.string q) := HY0.out.cell 6
  have c7 : ((w.alloc (Obj.cells #[.int .i64 g, .int .i64 f, .bool t, .int .i64 a, .string h, .string p, .string q, .string i, .slice da es.length dc, .string x] 25)).alloc (Obj.cells #[.int .i64 g, .int .i64 f, .bool t, .int .i64 a, .string h, .string p, .string q, .string i, .slice db es.length ec, .string x] 25)).cell? ⟨w.heap.size, 7, none⟩ = some (.string i) := HX0.out.cell 7
  have d7 : ((w.alloc (Obj.cells #[.int .i64 g, .int .i64 f, .bool t, .int .i64 a, .string h, .string p, .string q, .string i, .slice da es.length dc, .string x] 25)).alloc (Obj.cells #[.int .i64 g, .int .i64 f, .bool t, .int .i64 a, .string h, .string p, .string q, .string i, .slice db es.length ec, .string x] 25)).cell? ⟨w.heap.size + 1, 7, none⟩ = some (.string i) := HY0.out.cell 7
  have c8 : ((w.alloc (Obj.cells #[.int .i64 g, .int .i64 f, .bool t, .int .i64 a, .string h, .string p, .string q, .string i, .slice da es.length dc, .string x] 25)).alloc (Obj.cells #[.int .i64 g, .int .i64 f, .bool t, .int .i64 a, .string h, .string p, .string q, .string i, .slice db es.length ec, .string x] 25)).cell? ⟨w.heap.size, 8, none⟩ = some (.slice da es.length dc) := HX0.out.cell 8
  have d8 : ((w.alloc (Obj.cells #[.int .i64 g, .int .i64 f, .bool t, .int .i64 a, .string h, .string p, .string q, .string i, .slice da es.length dc, .string x] 25)).alloc (Obj.cells #[.int .i64 g, .int .i64 f, .bool t, .int .i64 a, .string h, .string p, .string q, .string i, .slice db es.length ec, .string x] 25)).cell? ⟨w.heap.size + 1, 8, none⟩ = some (.slice db es.length ec) := HY0.out.cell 8
  have c9 : ((w.alloc (Obj.cells #[.int .i64 g, .int .i64 f, .bool t, .int .i64 a, .string h, .string p, .string q, .string i, .slice da es.length dc, .string x] 25)).alloc (Obj.cells #[.int .i64 g, .int .i64 f, .bool t, .int .i64 a, .string h, .string p, .string q, .string i, .slice db es.length ec, .string x] 25)).cell? ⟨w.heap.size, 9, none⟩ = some (.string x) := HX0.out.cell 9
  have d9 : ((w.alloc (Obj.cells #[.int .i64 g, .int .i64 f, .bool t, .int .i64 a, .string h, .string p, .string q, .string i, .slice da es.length dc, .string x] 25)).alloc (Obj.cells #[.int .i64 g, .int .i64 f, .bool t, .int .i64 a, .string h, .string p, .string q, .string i, .slice db es.length ec, .string x] 25)).cell? ⟨w.heap.size + 1, 9, none⟩ = some (.string x) := HY0.out.cell 9
  have n1 : ((g : Int) != g) = false := by simp
  have n2 : ((f : Int) != f) = false := by simp
  have n3 : ((a : Int) != a) = false := by simp
  have n4 : (t != t) = false := by simp
  have n5 : (h.toList != h.toList) = false := by simp
  have n6 : (p.toList != p.toList) = false := by simp
  have n7 : (q.toList != q.toList) = false := by simp
  have n8 : (i.toList != i.toList) = false := by simp
  have n9 : (x.toList != x.toList) = false := by simp
  have n10 : ((es.length : Int) != (es.length : Int)) = false := by simp
  go_enter Tryz.func8, Tryz.ntmps8
  go_wp2_with fail
  clear n1 n2 n3 n4 n5 n6 n7 n8 n9 n10 c0 d0 c1 d1 c2 d2 c3 d3 c4 d4 c5 d5 c6 d6 c7 d7 c8 d8 c9 d9
  go_loopg [5] es.length (fun gg s5 wr => ∃ k : Nat, k ≤ es.length ∧ Hid (gg = es.length - k) ∧ s5 = .int .i64 k ∧ Row wr w.heap.size 25 #[.int .i64 g, .int .i64 f, .bool t, .int .i64 a, .string h, .string p, .string q, .string i, .slice da es.length dc, .string x] ∧ Row wr (w.heap.size + 1) 25 #[.int .i64 g, .int .i64 f, .bool t, .int .i64 a, .string h, .string p, .string q, .string i, .slice db es.length ec, .string x] ∧ Below w.heap.size w wr)
  case atStart => exact ⟨0, by omega, rfl, rfl, HX0.out, HY0.out, HB0.out⟩
  case round =>
    obtain ⟨k, hk, HG, rfl, hxr, hyr, hbr⟩ := hrel
    have HX := Lib.hid hxr; have HY := Lib.hid hyr; have HB := Lib.hid hbr
    clear hxr hyr hbr HX0 HY0 HB0
    obtain ⟨wo, rfl⟩ : ∃ wo : World, wo = wr := ⟨_, rfl⟩
    by_cases hlt : k < es.length
    · have hlt' : k < es'.length := by rw [← HLL.out]; exact hlt
      obtain ⟨b, rfl, hsp, e1, e2, hP⟩ := HC.out k hlt
      have hbl := HL.out b rfl (by omega)
      obtain ⟨ga, oa, sp⟩ := b
      cases hsp
      have hbl' : ga < w.heap.size := hbl
      obtain ⟨b', rfl, hsp', f1, f2, hP'⟩ := HC'.out k hlt'
      have hbm := HL'.out b' rfl (by omega)
      obtain ⟨gb, ob, sp'⟩ := b'
      cases hsp'
      have hbm' : gb < w.heap.size := hbm
      obtain ⟨s1, s2⟩ := HS.out k hlt hlt'
      obtain ⟨pa, pc, hpv, hplt, hpc⟩ := hP.shape
      obtain ⟨pb, pd, hpv', hplt', hpc'⟩ := hP'.shape
      rw [hpv] at e2
      rw [hpv', ← s2] at f2
      rw [← s1] at f1
      rw [← s2] at hplt' hpc'
      replace e1 : w.cell? ⟨ga, oa + k * 2, none⟩ = some (.string es[k].1) := e1
      replace e2 : w.cell? ⟨ga, oa + k * 2 + 1, none⟩ = some (.slice pa es[k].2.2.length pc) := e2
      replace f1 : w.cell? ⟨gb, ob + k * 2, none⟩ = some (.string es[k].1) := f1
      replace f2 : w.cell? ⟨gb, ob + k * 2 + 1, none⟩ = some (.slice pb es[k].2.2.length pd) := f2
      have hmany := HI.out.many _ (List.getElem_mem hlt)
      have hpc2 : ∀ m (hm : m < es[k].2.2.length), ∃ b, pb = some b ∧ b.spot = none ∧ w.cell? ⟨b.block, b.off + m * 2, none⟩ = some (.string es[k].2.2[m].1) ∧ w.cell? ⟨b.block, b.off + m * 2 + 1, none⟩ = some (.string es[k].2.2[m].2) := hpc'
      clear hpc'
      generalize hX : es[k].1 = xid at *
      generalize hPS : es[k].2.2 = ps at *
      have HEo : Hid (∀ W : World, Below w.heap.size w W → W.cell? ⟨ga, oa + k * 2, none⟩ = some (.string xid) ∧ W.cell? ⟨ga, oa + k * 2 + 1, none⟩ = some (.slice pa ps.length pc) ∧ W.cell? ⟨gb, ob + k * 2, none⟩ = some (.string xid) ∧ W.cell? ⟨gb, ob + k * 2 + 1, none⟩ = some (.slice pb ps.length pd)) := Lib.hid fun W hb => ⟨(World.cell?_of_block (hb.block ga hbl')).trans e1, (World.cell?_of_block (hb.block ga hbl')).trans e2, (World.cell?_of_block (hb.block gb hbm')).trans f1, (World.cell?_of_block (hb.block gb hbm')).trans f2⟩
      have HPC := Lib.hid hpc; have HPL := Lib.hid hplt; have HPC' := Lib.hid hpc2; have HPL' := Lib.hid hplt'
      clear e1 e2 f1 f2 hpc hplt hpc2 hplt' hP hP' hpv hpv' s1 s2 hX hPS
      obtain ⟨e1, e2, f1, f2⟩ := HEo.out _ HB.out
      have c8 : wo.cell? ⟨w.heap.size, 8, none⟩ = some (.slice (some ⟨ga, oa, none⟩) es.length dc) := HX.out.cell 8
      have d8 : wo.cell? ⟨w.heap.size + 1, 8, none⟩ = some (.slice (some ⟨gb, ob, none⟩) es.length ec) := HY.out.cell 8
      have hdk : decide ((k : Int) < (es.length : Int)) = true := decide_eq_true (by omega)
      have n1 : (xid.toList != xid.toList) = false := by simp
      have n2 : ((ps.length : Int) != (ps.length : Int)) = false := by simp
      go_wp2_with fail
      go_quiet (fail)
      all_goals
        go_wp2_with fail
        clear e1 e2 f1 f2 c8 d8 n1 n2
        go_loopg [6] ps.length (fun gg s6 wr => ∃ m : Nat, m ≤ ps.length ∧ Hid (gg = ps.length - m) ∧ s6 = .int .i64 m ∧ Row wr w.heap.size 25 #[.int .i64 g, .int .i64 f, .bool t, .int .i64 a, .string h, .string p, .string q, .string i, .slice (some ⟨ga, oa, none⟩) es.length dc, .string x] ∧ Row wr (w.heap.size + 1) 25 #[.int .i64 g, .int .i64 f, .bool t, .int .i64 a, .string h, .string p, .string q, .string i, .slice (some ⟨gb, ob, none⟩) es.length ec, .string x] ∧ Below w.heap.size w wr)
        case atStart => exact ⟨0, by omega, rfl, rfl, by first | exact HX.out.drewN _ | exact HX.out.drew, by first | exact HY.out.drewN _ | exact HY.out.drew, by first | exact below_drewN HB.out _ | exact HB.out.drew⟩
        case round =>
          obtain ⟨m, hm, HG2, rfl, hx2, hy2, hb2⟩ := hrel
          have HX2 := Lib.hid hx2; have HY2 := Lib.hid hy2; have HB2 := Lib.hid hb2
          clear hx2 hy2 hb2
          obtain ⟨wm, rfl⟩ : ∃ wm : World, wm = wr := ⟨_, rfl⟩
          obtain ⟨e1, e2, f1, f2⟩ := HEo.out _ HB2.out
          have c8 : wm.cell? ⟨w.heap.size, 8, none⟩ = some (.slice (some ⟨ga, oa, none⟩) es.length dc) := HX2.out.cell 8
          have d8 : wm.cell? ⟨w.heap.size + 1, 8, none⟩ = some (.slice (some ⟨gb, ob, none⟩) es.length ec) := HY2.out.cell 8
          by_cases hml : m < ps.length
          · obtain ⟨b3, rfl, hsp3, u1, u2⟩ := HPC.out m hml
            have hbl3 := HPL.out b3 rfl (by omega)
            obtain ⟨gp, po, sp⟩ := b3
            cases hsp3
            obtain ⟨b4, rfl, hsp4, v1, v2⟩ := HPC'.out m hml
            have hbl4 := HPL'.out b4 rfl (by omega)
            obtain ⟨gq, qo, sp⟩ := b4
            cases hsp4
            replace u1 : wm.cell? ⟨gp, po + m * 2, none⟩ = some (.string ps[m].1) := (World.cell?_of_block (HB2.out.block gp hbl3)).trans u1
            replace u2 : wm.cell? ⟨gp, po + m * 2 + 1, none⟩ = some (.string ps[m].2) := (World.cell?_of_block (HB2.out.block gp hbl3)).trans u2
            replace v1 : wm.cell? ⟨gq, qo + m * 2, none⟩ = some (.string ps[m].1) := (World.cell?_of_block (HB2.out.block gq hbl4)).trans v1
            replace v2 : wm.cell? ⟨gq, qo + m * 2 + 1, none⟩ = some (.string ps[m].2) := (World.cell?_of_block (HB2.out.block gq hbl4)).trans v2
            generalize hN : ps[m].1 = pn at *
            generalize hVl : ps[m].2 = pvv at *
            have n1 : (pn.toList != pn.toList) = false := by simp
            have n2 : (pvv.toList != pvv.toList) = false := by simp
            have hdm : decide (m < ps.length) = true := decide_eq_true hml
            clear hN hVl
            go_wp2_with fail
            go_quiet (fail)
            all_goals
              go_wp2_with fail
              go_roundg (ps.length - (m + 1))
              case measure => rw [HG2.out]; omega
              case rel => exact ⟨m + 1, by omega, rfl, by go_num, by first | exact HX2.out.drewN _ | exact HX2.out.drew, by first | exact HY2.out.drewN _ | exact HY2.out.drew, by first | exact below_drewN HB2.out _ | exact HB2.out.drew⟩
          · have hdm : decide (m < ps.length) = false := decide_eq_false hml
            go_wp2_with fail
            go_roundg (es.length - (k + 1))
            case measure => rw [HG.out]; omega
            case rel => exact ⟨k + 1, by omega, rfl, by go_num, HX2.out, HY2.out, HB2.out⟩
    · have hdk : decide ((k : Int) < (es.length : Int)) = false := decide_eq_false (by omega)
      have c8 : wo.cell? ⟨w.heap.size, 8, none⟩ = some (.slice da es.length dc) := HX.out.cell 8
      have d8 : wo.cell? ⟨w.heap.size + 1, 8, none⟩ = some (.slice db es.length ec) := HY.out.cell 8
      go_wp2_with fail
      go_ret
      exact ⟨rfl, HB.out⟩
end Go.Proofs.YtdkfgobbpadmgaaGreatDoor
