/- Words on memory, of no program: a block known whole, kept over what is laid and written elsewhere; what a call of its own turns. -/
import Derived.WalkKit
import Derived.Below
import Derived.Laws.OwnMore
import Derived.Deep.Draws
import Derived.OneCell
import Derived.Lib.Hide
import Derived.Maps.AppendAt
import Derived.Deep.AppendLies
import Derived.OwnWalk
set_option linter.unusedVariables false
set_option linter.unusedSimpArgs false
namespace Go.Proofs.YtdkfgobbpadmgaaGreatDoor
open Go.RowKit
/-- Block g holds just these cells, of type t; none is frozen. -/
def Row (w : World) (g : Nat) (t : TypeId) (cs : Array Value) : Prop := w.heap[g]? = some (.cells cs t (0, 0))
theorem Row.lt {w : World} {g : Nat} {t : TypeId} {cs : Array Value} (h : Row w g t cs) : g < w.heap.size := lt_of_block h
theorem Row.cell {w : World} {g : Nat} {t : TypeId} {cs : Array Value} (h : Row w g t cs) (i : Nat) : w.cell? ⟨g, i, none⟩ = cs[i]? := by
  unfold Row at h
  simp [World.cell?, h]
theorem Row.frozen {w : World} {g : Nat} {t : TypeId} {cs : Array Value} (h : Row w g t cs) (i : Nat) : w.frozen? ⟨g, i, none⟩ = false := by
  unfold Row at h
  simp [World.frozen?, h]
theorem Row.laid (w : World) (t : TypeId) (cs : Array Value) : Row (w.alloc (.cells cs t)) w.heap.size t cs := by
  unfold Row
  show (w.heap.push _)[w.heap.size]? = _
  simp
theorem Row.alloc {w : World} {g : Nat} {t : TypeId} {cs : Array Value} (h : Row w g t cs) (o : Obj) : Row (w.alloc o) g t cs := (Below.heap_alloc w o g h.lt).trans h
theorem Row.put {w : World} {g : Nat} {t : TypeId} {cs : Array Value} (h : Row w g t cs) (i : Nat) (u : Value) : Row (w.setCell ⟨g, i, none⟩ u) g t (cs.setIfInBounds i u) := by
  unfold Row at h ⊢
  simp [World.setCell, Array.getElem?_modify, h]
theorem Row.other {w : World} {g : Nat} {t : TypeId} {cs : Array Value} (h : Row w g t cs) {p : Addr} (hp : g ≠ p.block) (u : Value) : Row (w.setCell p u) g t cs := (Below.heap_setCell w p u g hp).trans h
theorem Row.below {w w' : World} {B g : Nat} {t : TypeId} {cs : Array Value} (h : Row w g t cs) (hb : Below B w w') (hg : g < B) : Row w' g t cs := (hb.block g hg).trans h
theorem Row.drewN {w : World} {g : Nat} {t : TypeId} {cs : Array Value} (h : Row w g t cs) (k : Nat) : Row (w.drewN k) g t cs := h
theorem Row.drew {w : World} {g : Nat} {t : TypeId} {cs : Array Value} (h : Row w g t cs) : Row w.drew g t cs := h
/-- Of the blocks that there were, w' has turned the blocks that p tells alone. -/
structure Turn (p : Nat → Prop) (w w' : World) : Prop where
  os : w'.os = w.os
  tape : w'.tape = w.tape
  output : w'.output = w.output
  size : w.heap.size ≤ w'.heap.size
  block : ∀ k, k < w.heap.size → ¬ p k → w'.heap[k]? = w.heap[k]?
theorem Turn.refl (p : Nat → Prop) (w : World) : Turn p w w := ⟨rfl, rfl, rfl, Nat.le_refl _, fun _ _ _ => rfl⟩
theorem Turn.trans {p : Nat → Prop} {a b c : World} (h : Turn p a b) (k : Turn p b c) : Turn p a c :=
  ⟨k.os.trans h.os, k.tape.trans h.tape, k.output.trans h.output, Nat.le_trans h.size k.size, fun i hi hp => (k.block i (Nat.lt_of_lt_of_le hi h.size) hp).trans (h.block i hi hp)⟩
theorem Turn.mono {p q : Nat → Prop} {w w' : World} (h : Turn p w w') (hpq : ∀ k, p k → q k) : Turn q w w' := ⟨h.os, h.tape, h.output, h.size, fun k hk hq => h.block k hk fun hp => hq (hpq k hp)⟩
theorem Turn.alloc {p : Nat → Prop} {a w : World} (h : Turn p a w) (o : Obj) : Turn p a (w.alloc o) := h.trans ⟨rfl, rfl, rfl, by simp, fun k hk _ => Below.heap_alloc w o k hk⟩
theorem Turn.put {p : Nat → Prop} {a w : World} (h : Turn p a w) {q : Addr} (hq : p q.block) (u : Value) : Turn p a (w.setCell q u) :=
  h.trans ⟨rfl, rfl, rfl, by simp [World.setCell], fun k _ hk => Below.heap_setCell _ _ _ _ fun e => hk (e ▸ hq)⟩
theorem Turn.drewN {p : Nat → Prop} {a w : World} (h : Turn p a w) (n : Nat) : Turn p a (w.drewN n) := ⟨h.os, h.tape, h.output, h.size, h.block⟩
theorem Turn.drew {p : Nat → Prop} {a w : World} (h : Turn p a w) : Turn p a w.drew := ⟨h.os, h.tape, h.output, h.size, h.block⟩
theorem Turn.of_below {p : Nat → Prop} {w w' : World} (h : Below w.heap.size w w') : Turn p w w' := ⟨h.os, h.tape, h.output, h.size, fun k hk _ => h.block k hk⟩
theorem Turn.below {p : Nat → Prop} {w w' : World} (h : Turn p w w') {B : Nat} (hp : ∀ k, p k → B ≤ k) (hB : B ≤ w.heap.size) : Below B w w' :=
  ⟨h.os, h.tape, h.output, h.size, fun k hk => h.block k (Nat.lt_of_lt_of_le hk hB) fun hpk => absurd (hp k hpk) (by omega)⟩
theorem Turn.via {p q : Nat → Prop} {a b c : World} (h : Turn p a b) (k : Turn q b c) (hq : ∀ i, q i → a.heap.size ≤ i ∨ p i) : Turn p a c :=
  ⟨k.os.trans h.os, k.tape.trans h.tape, k.output.trans h.output, Nat.le_trans h.size k.size, fun i hi hp => (k.block i (Nat.lt_of_lt_of_le hi h.size) (fun hqi => by rcases hq i hqi with h1 | h1; omega; exact hp h1)).trans (h.block i hi hp)⟩
theorem Row.turn {w w' : World} {p : Nat → Prop} {g : Nat} {t : TypeId} {cs : Array Value} (h : Row w g t cs) (ht : Turn p w w') (hg : ¬ p g) : Row w' g t cs := (ht.block g h.lt hg).trans h
theorem Turn.cell {p : Nat → Prop} {w w' : World} (h : Turn p w w') {a : Addr} {v : Value} (hc : w.cell? a = some v) (ha : ¬ p a.block) : w'.cell? a = some v := by
  have hlt : a.block < w.heap.size := by
    rcases Nat.lt_or_ge a.block w.heap.size with h' | h'
    · exact h'
    · simp [World.cell?, Array.getElem?_eq_none h'] at hc
  exact (World.cell?_of_block (w := w) (h.block a.block hlt ha)).trans hc
/-- a text as a value -/
def txt (l : List UInt8) : Value := .string ⟨l.toArray⟩
theorem txt_data (l : List UInt8) : (⟨l.toArray⟩ : ByteArray).data.toList = l := rfl
theorem txt_size (l : List UInt8) : (⟨l.toArray⟩ : ByteArray).size = l.length := rfl
theorem txt_of (s : ByteArray) : Value.string s = txt s.data.toList := by cases s; simp [txt]
/-- append of one element, laid in a block of its own just ahead: what is owned grows by it; nothing else turns. -/
theorem wpList_append_one {P : Program} {ops : Array Oper} {rest : List Oper} {o : Oper} {a : Act} {Q : Exit → Act → World → Prop} (W1 : World) (hgd : o.guard = none) (s x : Operand) (t : TypeId)
    (ho : o.op = .call { callee := .builtin .append, args := #[s, x], argTypes := #[t, t] })
    (base : Nat) (e : TypeId) (i : TypeInfo) (z : Value) (size bytes : Nat) (ht : P.underlying t = some (.slice e)) (hi : P.info? e = some i) (hz : i.zero = some z)
    (hsize : i.size = size) (hby : i.bytes = bytes) (hzs : z.cells.size = size) (hsz : 0 < size)
    (v : Value) (n : Nat) (xs news : List Value) (N : Nat) (hN : N = W1.heap.size) (hs : a.eval s = v) (hx : a.eval x = .slice (some ⟨N, 0, none⟩) 1 1) (hown : W1.ownsRow base e size v n xs) (hl : news.length = size) (h1 : ∀ u ∈ news, u.oneCell' = true)
    (h63 : n + 1 ≤ maxLen) (hbytes : (n + 1) * bytes ≤ 140737488355328) (hbase : base ≤ W1.heap.size)
    (h : ∀ v' w', w'.ownsRow base e size v' (n + 1) (xs ++ news) → Turn (fun k => v.ownBlock = some k) W1 w' → (v'.ownBlock = v.ownBlock ∨ ∃ g, v'.ownBlock = some g ∧ W1.heap.size ≤ g) → wpList P ops Q rest (a.put o.dst v') w') :
    wpList P ops Q (o :: rest) a (W1.alloc (.cells news.toArray e)) := by
  subst hN
  have hrow : Row (W1.alloc (.cells news.toArray e)) W1.heap.size e news.toArray := Row.laid _ _ _
  refine wpList_append_own_at _ hgd s x t ho base e i z size bytes ht hi hz hsize hby hzs hsz v n xs hs (hown.alloc _) ⟨W1.heap.size, 0, none⟩ 1 1 news hx (by omega) ?_ h1 h63 hbytes (by simp; omega) ?_
  · intro j u hu
    have := hrow.cell j
    have e2 : ({ block := W1.heap.size, off := 0, spot := none } : Addr).add j = ⟨W1.heap.size, j, none⟩ := by
      unfold Addr.add
      split
      · rename_i h0; rw [h0]
      · simp
    rw [e2, this]
    simpa using hu
  · intro v' w' h2 h3 _ h5
    refine h v' w' h2 ?_ ?_
    · refine ⟨h3.os, h3.tape, h3.output, Nat.le_trans (by simp) h3.size, fun k hk hp => ?_⟩
      exact (h3.block k (by simp; omega) (fun e => hp e.symm)).trans (Below.heap_alloc _ _ _ hk)
    · rcases h5 with h5 | h5
      · exact .inl h5
      · exact .inr ⟨_, h5, by simp⟩
theorem ret_v {a b : Value} (h : a = b) : Ending.returned a = Ending.returned b := by rw [h]
theorem piece_to (s : ByteArray) (k : Nat) : s.extract 0 k = ⟨(s.data.toList.take k).toArray⟩ := by
  apply ByteArray.ext
  apply Array.toList_inj.1
  simp [ByteArray.data_extract]
theorem piece_from (s : ByteArray) (k : Nat) : s.extract k s.size = ⟨(s.data.toList.drop k).toArray⟩ := by
  apply ByteArray.ext
  apply Array.toList_inj.1
  simp [ByteArray.data_extract]
  rw [List.take_of_length_le (by simp)]
theorem byte_eq (c : UInt8) (k : Nat) (hk : k < 256) : ((c.toNat : Int) == (k : Int)) = (c == UInt8.ofNat k) := by
  have h : (UInt8.ofNat k).toNat = k := by simp; omega
  rw [Bool.eq_iff_iff, beq_iff_eq, beq_iff_eq]
  constructor
  · intro e
    exact UInt8.toNat_inj.1 (by rw [h]; omega)
  · intro e
    rw [e, h]
end Go.Proofs.YtdkfgobbpadmgaaGreatDoor
