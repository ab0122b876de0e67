/-
  Words for memory: a slice that reads as a list of records, a slice in a block of the call's own; how they are kept over draws, new blocks and stores. No condition: plain lemmas.
-/
import Derived.Deep.DeepMust
import Derived.Deep.RegionLaw
import Derived.WalkKit
import Derived.Lib.Hide
import Derived.Deep.QuietTactic
import Derived.BigQuiet
import Derived.Deep.RegionHeld3
import Derived.Deep.RegionWith
import Derived.Deep.AppendLies
import Derived.Outline
import Derived.WalkSpells
import Derived.Deep.DeepCutAuto
import Derived.Deep.Draws
namespace Go.Proofs.Ytnnanknljpkdeaa
open Go.RowKit
/-- How a record lies in cells. -/
structure Enc (α : Type) where
  cells : α → List Value
  size : Nat
  pos : 0 < size
  len : ∀ x, (cells x).length = size
  one : ∀ x, ∀ u ∈ cells x, u.oneCell' = true

def eInt : Enc Int := ⟨fun x => [.int .i64 x], 1, by omega, fun _ => rfl, by intro x u h; simp at h; subst h; rfl⟩
def eByte : Enc Int := ⟨fun x => [.int .u8 x], 1, by omega, fun _ => rfl, by intro x u h; simp at h; subst h; rfl⟩
def eBool : Enc Bool := ⟨fun x => [.bool x], 1, by omega, fun _ => rfl, by intro x u h; simp at h; subst h; rfl⟩

/-- The slice at A reads in w as the list l. -/
def Rd {α : Type} (E : Enc α) (w : World) (A : Option Addr) (l : List α) : Prop :=
  0 < l.length → ∃ b off, A = some ⟨b, off, none⟩ ∧ ∀ k (hk : k < l.length) j, j < E.size → w.cell? ⟨b, off + k * E.size + j, none⟩ = (E.cells (l[k]'hk))[j]?

/-- The slice at A, of capacity c, lies at the head of block g of element type e, nothing of it frozen, and reads as the list l: it may be read, written, appended to. -/
def Row {α : Type} (E : Enc α) (w : World) (g : Nat) (e : TypeId) (A : Option Addr) (c : Nat) (l : List α) : Prop :=
  (A = none ∧ c = 0 ∧ l = []) ∨ ∃ cur, A = some ⟨g, 0, none⟩ ∧ w.heap[g]? = some (.cells cur e (0, 0)) ∧ l.length ≤ c ∧ c ≤ maxLen ∧ cur.size = c * E.size ∧ cur.toList.take (l.length * E.size) = l.flatMap E.cells

section
variable {α : Type} {E : Enc α} {w w' : World} {A : Option Addr} {l : List α} {g : Nat} {e : TypeId}

theorem bcell {W w1 : World} (hb : Below W.heap.size W w1) : (∀ b o, b < W.heap.size → w1.cell? ⟨b, o, none⟩ = W.cell? ⟨b, o, none⟩) ∧ (∀ b o, b < W.heap.size → w1.frozen? ⟨b, o, none⟩ = W.frozen? ⟨b, o, none⟩) :=
  ⟨fun b o h => hb.cell (p := ⟨b, o, none⟩) h, fun b o h => hb.frozen (p := ⟨b, o, none⟩) h⟩

theorem below_drewN {B : Nat} {a w : World} (h : Below B a w) (n : Nat) : Below B a (w.drewN n) := ⟨h.os, h.tape, h.output, h.size, h.block⟩

theorem Rd.nil (w : World) (A : Option Addr) : Rd E w A ([] : List α) := fun h => absurd h (by simp)
theorem Row.nil (w : World) (g : Nat) (e : TypeId) : Row E w g e none 0 ([] : List α) := .inl ⟨rfl, rfl, rfl⟩

/-- the cells are there: so the block is an old one -/
theorem Rd.lt (h : Rd E w A l) (hl : 0 < l.length) {b off : Nat} (hA : A = some ⟨b, off, none⟩) : b < w.heap.size := by
  obtain ⟨b', off', rfl, hc⟩ := h hl
  cases hA
  have h0 := hc 0 hl 0 E.pos
  have hs : 0 < (E.cells (l[0]'hl)).length := by rw [E.len]; exact E.pos
  rw [List.getElem?_eq_getElem hs] at h0
  exact World.block_lt_of_cell? w _ h0

theorem Rd.keep (h : Rd E w A l) (hk : ∀ b off, 0 < l.length → A = some ⟨b, off, none⟩ → ∀ o, w'.cell? ⟨b, o, none⟩ = w.cell? ⟨b, o, none⟩) : Rd E w' A l := by
  intro hl
  obtain ⟨b, off, rfl, hc⟩ := h hl
  exact ⟨b, off, rfl, fun k hk' j hj => (hk b off hl rfl _).trans (hc k hk' j hj)⟩

theorem Rd.below (h : Rd E w A l) (hb : Below w.heap.size w w') : Rd E w' A l :=
  h.keep fun _ _ hl hA o => (bcell hb).1 _ o (h.lt hl hA)
theorem Rd.take (h : Rd E w A l) (n : Nat) : Rd E w A (l.take n) := by
  intro hl
  obtain ⟨b, off, rfl, hc⟩ := h (by simp at hl; omega)
  refine ⟨b, off, rfl, fun k hk j hj => ?_⟩
  have hk' : k < l.length := by simp at hk; omega
  rw [hc k hk' j hj]
  simp
theorem Rd.drewN (h : Rd E w A l) (n : Nat) : Rd E (w.drewN n) A l := h
theorem Rd.drew (h : Rd E w A l) : Rd E w.drew A l := h
theorem Rd.alloc (h : Rd E w A l) (o : Obj) : Rd E (w.alloc o) A l := h.below ((Below.refl _ _).alloc (Nat.le_refl _) o)
theorem Rd.grown (h : Rd E w A l) {g : Nat} (hg : w.grownBy w' (some g)) (hne : ∀ b off, 0 < l.length → A = some ⟨b, off, none⟩ → b ≠ g) : Rd E w' A l :=
  h.keep fun b off hl hA o => World.cell?_of_block (hg.block b (h.lt hl hA) (fun e => hne b off hl hA (by injection e)))

theorem mul_add_lt_inj {s k j k' j' : Nat} (hj : j < s) (hj' : j' < s) (h : k * s + j = k' * s + j') : k = k' ∧ j = j' := by
  have h1 : (k * s + j) / s = k := by rw [Nat.add_comm, Nat.add_mul_div_right _ _ (by omega), Nat.div_eq_of_lt hj]; omega
  have h2 : (k' * s + j') / s = k' := by rw [Nat.add_comm, Nat.add_mul_div_right _ _ (by omega), Nat.div_eq_of_lt hj']; omega
  have hk : k = k' := by rw [← h1, ← h2, h]
  subst hk
  exact ⟨rfl, by omega⟩

theorem grownBy_setCell (w : World) (g o : Nat) (v : Value) : w.grownBy (w.setCell ⟨g, o, none⟩ v) (some g) :=
  ⟨rfl, rfl, rfl, by simp [World.setCell], fun k _ hk => Below.heap_setCell w _ v k (fun e => hk (by rw [e]))⟩
theorem grownBy_refl (w : World) (r : Option Nat) : w.grownBy w r := ⟨rfl, rfl, rfl, Nat.le_refl _, fun _ _ _ => rfl⟩
theorem grownBy_trans {a b c : World} {r : Option Nat} (h : a.grownBy b r) (k : b.grownBy c r) : a.grownBy c r :=
  ⟨k.os.trans h.os, k.tape.trans h.tape, k.output.trans h.output, Nat.le_trans h.size k.size, fun i hi hne => (k.block i (Nat.lt_of_lt_of_le hi h.size) hne).trans (h.block i hi hne)⟩
theorem grownBy_of_below {a b : World} (h : Below a.heap.size a b) (r : Option Nat) : a.grownBy b r := ⟨h.os, h.tape, h.output, h.size, fun i hi _ => h.block i hi⟩
theorem grownBy_drewN {a b : World} {r : Option Nat} (h : a.grownBy b r) (n : Nat) : a.grownBy (b.drewN n) r := ⟨h.os, h.tape, h.output, h.size, h.block⟩
theorem Below.grown1 {B : Nat} {a w w' : World} {g : Nat} (h : Below B a w) (hg : w.grownBy w' (some g)) (hB : B ≤ w.heap.size) (hr : B ≤ g) : Below B a w' :=
  h.grown hg hB (by intro k hk; cases hk; exact hr)
/-- behind a call in the middle: what is new since the beginning stays new -/
theorem Below.next {W w1 w2 : World} (h : Below W.heap.size W w1) (k : Below w1.heap.size w1 w2) : Below W.heap.size W w2 := h.trans (k.mono h.size)
end

section
variable {α : Type} {E : Enc α} {w w' : World} {l : List α} {e : TypeId} {g : Nat} {A : Option Addr} {c : Nat}
theorem flat_length (E : Enc α) (l : List α) : (l.flatMap E.cells).length = l.length * E.size := by
  induction l with
  | nil => simp
  | cons x r ih => simp [ih, E.len, Nat.add_mul]; omega
theorem flat_get (E : Enc α) (l : List α) (k : Nat) (hk : k < l.length) (j : Nat) (hj : j < E.size) : (l.flatMap E.cells)[k * E.size + j]? = (E.cells (l[k]'hk))[j]? := by
  induction l generalizing k with
  | nil => simp at hk
  | cons x r ih =>
    cases k with
    | zero => simp [List.getElem?_append_left, E.len, hj]
    | succ k =>
      simp only [List.flatMap_cons]
      rw [List.getElem?_append_right (by rw [E.len, Nat.add_mul]; omega), E.len, show (k + 1) * E.size + j - E.size = k * E.size + j by rw [Nat.add_mul]; omega, ih k (by simpa using hk)]
      simp
theorem flat_one (E : Enc α) (l : List α) : ∀ u ∈ l.flatMap E.cells, u.oneCell' = true := by
  intro u hu
  obtain ⟨x, _, hx⟩ := List.mem_flatMap.1 hu
  exact E.one x u hx
theorem idx_lt {n k s j : Nat} (hk : k < n) (hj : j < s) : k * s + j < n * s := by
  have : (k + 1) * s ≤ n * s := Nat.mul_le_mul_right _ hk
  rw [Nat.add_mul] at this
  omega
/-- a list of cells that reads, record by record, as l -/
theorem flat_of_cells (E : Enc α) (l : List α) (xs : List Value) (hl : xs.length = l.length * E.size) (h : ∀ k (hk : k < l.length) j, j < E.size → xs[k * E.size + j]? = (E.cells (l[k]'hk))[j]?) : xs = l.flatMap E.cells := by
  apply List.ext_getElem?
  intro i
  by_cases hi : i < l.length * E.size
  · have hdm : i / E.size * E.size + i % E.size = i := by rw [Nat.mul_comm]; exact Nat.div_add_mod i E.size
    have hk : i / E.size < l.length := Nat.div_lt_of_lt_mul (by rw [Nat.mul_comm]; exact hi)
    have hj : i % E.size < E.size := Nat.mod_lt _ E.pos
    rw [← hdm, h _ hk _ hj, flat_get E l _ hk _ hj]
  · rw [List.getElem?_eq_none (by omega), List.getElem?_eq_none (by rw [flat_length]; omega)]

theorem Row.le (h : Row E w g e A c l) : l.length ≤ c := by
  rcases h with ⟨rfl, rfl, rfl⟩ | ⟨cur, rfl, hh, hl, hm, hs, ht⟩
  · simp
  · exact hl
theorem Row.lt (h : Row E w g e A c l) (hl : 0 < l.length) : g < w.heap.size := by
  rcases h with ⟨rfl, rfl, rfl⟩ | ⟨cur, rfl, hh, _⟩
  · simp at hl
  · exact (Array.getElem?_eq_some_iff.1 hh).1
theorem Row.cur (h : Row E w g e A c l) (hl : 0 < l.length) : A = some ⟨g, 0, none⟩ ∧ ∃ cur, w.heap[g]? = some (.cells cur e (0, 0)) ∧ cur.size = c * E.size ∧ c ≤ maxLen ∧ ∀ k (hk : k < l.length) j, j < E.size → cur[k * E.size + j]? = (E.cells (l[k]'hk))[j]? := by
  rcases h with ⟨rfl, rfl, rfl⟩ | ⟨cur, rfl, hh, hlc, hm, hs, ht⟩
  · simp at hl
  · refine ⟨rfl, cur, hh, hs, hm, fun k hk j hj => ?_⟩
    rw [← flat_get E l k hk j hj, ← ht, List.getElem?_take_of_lt (idx_lt hk hj), Array.getElem?_toList]
theorem Row.rd (h : Row E w g e A c l) : Rd E w A l := by
  intro hl
  obtain ⟨rfl, cur, hh, hs, _, hc⟩ := h.cur hl
  exact ⟨g, 0, rfl, fun k hk j hj => by rw [cell_of_row w g _ cur e (0, 0) hh, Nat.zero_add]; exact hc k hk j hj⟩
theorem Row.unfrozen (h : Row E w g e A c l) (hl : 0 < l.length) (o : Nat) : w.frozen? ⟨g, o, none⟩ = false := by
  obtain ⟨rfl, cur, hh, _⟩ := h.cur hl
  simp [World.frozen?, hh]
theorem Row.keep (h : Row E w g e A c l) (hk : g < w.heap.size → w'.heap[g]? = w.heap[g]?) : Row E w' g e A c l := by
  rcases h with h | ⟨cur, rfl, hh, r⟩
  · exact .inl h
  · exact .inr ⟨cur, rfl, (hk (Array.getElem?_eq_some_iff.1 hh).1).trans hh, r⟩
theorem Row.below (h : Row E w g e A c l) (hb : Below w.heap.size w w') : Row E w' g e A c l := h.keep fun hl => hb.block g hl
theorem Row.grown (h : Row E w g e A c l) {g' : Nat} (hg : w.grownBy w' (some g')) (hne : g ≠ g') : Row E w' g e A c l :=
  h.keep fun hl => hg.block g hl (fun e => hne (by injection e))
theorem Row.drewN (h : Row E w g e A c l) (n : Nat) : Row E (w.drewN n) g e A c l := h
theorem Row.drew (h : Row E w g e A c l) : Row E w.drew g e A c l := h
theorem Row.alloc (h : Row E w g e A c l) (o : Obj) : Row E (w.alloc o) g e A c l := h.below ((Below.refl _ _).alloc (Nat.le_refl _) o)
theorem Row.other (h : Row E w g e A c l) {p : Addr} (hp : g ≠ p.block) (v : Value) : Row E (w.setCell p v) g e A c l := h.keep fun _ => Below.heap_setCell w p v g hp
theorem Row.owns (h : Row E w g e A c l) {base : Nat} (hb : base ≤ g) : w.ownsRow base e E.size (.slice A l.length c) l.length (l.flatMap E.cells) := by
  refine ⟨flat_length E l, ?_⟩
  rcases h with ⟨rfl, rfl, rfl⟩ | ⟨cur, rfl, hh, hl, hm, hs, ht⟩
  · exact .inl ⟨rfl, rfl⟩
  · exact .inr ⟨g, c, cur, rfl, hb, hh, hl, hm, hs, ht⟩
theorem row_of_owns {v : Value} {base : Nat} (h : w.ownsRow base e E.size v l.length (l.flatMap E.cells)) : ∃ A c g, v = .slice A l.length c ∧ base ≤ g ∧ Row E w g e A c l ∧ (v.ownBlock = none ∨ v.ownBlock = some g) := by
  rcases h.2 with ⟨rfl, hn⟩ | ⟨g, cap, cur, rfl, hb, hh, hnc, hm, hs, ht⟩
  · have hl : l = [] := List.eq_nil_of_length_eq_zero hn
    subst hl
    exact ⟨none, 0, base, rfl, Nat.le_refl _, Row.nil _ _ _, .inl rfl⟩
  · exact ⟨_, cap, g, rfl, hb, .inr ⟨cur, rfl, hh, hnc, hm, hs, ht⟩, .inr rfl⟩
/-- A store of one cell of one element. -/
theorem Row.setCell (h : Row E w g e A c l) {k j : Nat} (hk : k < l.length) (hj : j < E.size) (v : Value) (x : α) (hx : E.cells x = (E.cells (l[k]'hk)).set j v) :
    Row E (w.setCell ⟨g, k * E.size + j, none⟩ v) g e A c (l.set k x) := by
  have hl0 : 0 < l.length := by omega
  have hle := h.le
  obtain ⟨rfl, cur, hh, hs, hm, hc⟩ := h.cur hl0
  refine .inr ⟨cur.setIfInBounds (k * E.size + j) v, rfl, ?_, by simpa using hle, hm, by simpa using hs, ?_⟩
  · simp [World.setCell, Array.getElem?_modify, hh]
  · have hsz : l.length * E.size ≤ cur.size := by rw [hs]; exact Nat.mul_le_mul_right _ hle
    apply flat_of_cells
    · simp only [List.length_take, Array.length_toList, Array.size_setIfInBounds, List.length_set]; omega
    · intro k' hk' j' hj'
      have hk'' : k' < l.length := by simpa using hk'
      rw [List.getElem?_take_of_lt (by rw [List.length_set]; exact idx_lt hk'' hj'), Array.getElem?_toList]
      have hb := hc k' hk'' j' hj'
      by_cases hkk : k' = k
      · subst hkk
        by_cases hjj : j' = j
        · subst hjj
          have hin : k' * E.size + j' < cur.size := Nat.lt_of_lt_of_le (idx_lt hk'' hj') hsz
          rw [Array.getElem?_setIfInBounds, if_pos rfl, if_pos hin]
          simp only [List.getElem_set_self]
          rw [hx, List.getElem?_set_self (by rw [E.len]; exact hj')]
        · rw [Array.getElem?_setIfInBounds, if_neg (by omega), hb]
          simp only [List.getElem_set_self]
          rw [hx, List.getElem?_set_ne (by omega)]
      · have hne : ¬ (k * E.size + j = k' * E.size + j') := by
          intro he
          exact hkk (mul_add_lt_inj hj' hj he.symm).1
        rw [Array.getElem?_setIfInBounds, if_neg hne, hb]
        rw [List.getElem_set_ne (by omega)]
/-- A new block, made whole. -/
theorem Row.made (w : World) (e : TypeId) (cur : Array Value) (l : List α) (c : Nat) (hc : cur.size = c * E.size) (hl : l.length ≤ c) (hm : c ≤ maxLen) (h : cur.toList.take (l.length * E.size) = l.flatMap E.cells) :
    Row E (w.alloc (.cells cur e)) w.heap.size e (some ⟨w.heap.size, 0, none⟩) c l := .inr ⟨cur, rfl, heap_alloc_new w _, hl, hm, hc, h⟩
/-- An empty slice in a new block. -/
theorem Row.made0 {w : World} {e : TypeId} {b : Nat} (hb : w.heap.size = b) : Row E (w.alloc (.cells #[] e)) b e (some ⟨b, 0, none⟩) 0 ([] : List α) := by
  subst hb
  exact Row.made w e #[] [] 0 (by simp) (by simp) (by simp [maxLen]) (by simp)
/-- Shorter, in the same block. -/
theorem Row.take (h : Row E w g e A c l) (n : Nat) (hn : n ≤ l.length) : Row E w g e A c (l.take n) := by
  rcases h with ⟨rfl, rfl, rfl⟩ | ⟨cur, rfl, hh, hl, hm, hs, ht⟩
  · exact .inl ⟨rfl, rfl, by simp⟩
  · have hlen : (l.take n).length = n := by simp; omega
    refine .inr ⟨cur, rfl, hh, by omega, hm, hs, ?_⟩
    rw [hlen]
    apply List.ext_getElem?
    intro i
    have e1 : (cur.toList.take (n * E.size)) = (l.flatMap E.cells).take (n * E.size) := by
      rw [← ht, List.take_take, Nat.min_eq_left (Nat.mul_le_mul_right _ hn)]
    have e2 : (l.flatMap E.cells).take (n * E.size) = (l.take n).flatMap E.cells := by
      have e3 : l.flatMap E.cells = (l.take n).flatMap E.cells ++ (l.drop n).flatMap E.cells := by rw [← List.flatMap_append, List.take_append_drop]
      rw [e3, List.take_left' (by rw [flat_length, hlen])]
    rw [e1, e2]
theorem rd_news {A : Option Addr} (h : Rd E w A l) (ad : Addr) (hA : A = some ad) : ∀ j u, (l.flatMap E.cells)[j]? = some u → w.cell? (ad.add j) = some u := by
  intro j u hu
  have hlt : j < l.length * E.size := by rw [← flat_length]; exact (List.getElem?_eq_some_iff.1 hu).1
  have hl : 0 < l.length := by
    rcases Nat.eq_zero_or_pos l.length with h0 | h0
    · rw [h0] at hlt; omega
    · exact h0
  obtain ⟨b, off, hA', hc⟩ := h hl
  rw [hA] at hA'
  cases hA'
  have hdm : j / E.size * E.size + j % E.size = j := by rw [Nat.mul_comm]; exact Nat.div_add_mod j E.size
  have hk : j / E.size < l.length := Nat.div_lt_of_lt_mul (by rw [Nat.mul_comm]; exact hlt)
  have hcc := hc (j / E.size) hk (j % E.size) (Nat.mod_lt _ E.pos)
  rw [Nat.add_assoc, hdm, ← flat_get E l _ hk _ (Nat.mod_lt _ E.pos), hdm, hu] at hcc
  unfold Addr.add
  split
  · subst j; simpa using hcc
  · exact hcc
end
section
variable {w w' : World} {A : Option Addr} {g : Nat} {e : TypeId}
theorem Rd.ints {l : List Int} (h : Rd eInt w A l) (hl : 0 < l.length) : ∃ b off, A = some ⟨b, off, none⟩ ∧ b < w.heap.size ∧ ∀ k (hk : k < l.length), w.cell? ⟨b, off + k, none⟩ = some (.int .i64 (l[k]'hk)) := by
  obtain ⟨b, off, rfl, hc⟩ := h hl
  refine ⟨b, off, rfl, h.lt hl rfl, fun k hk => ?_⟩
  have := hc k hk 0 (by simp [eInt])
  simpa [eInt] using this
theorem Rd.int {l : List Int} (h : Rd eInt w A l) {k : Nat} (hk : k < l.length) : ∃ b off, A = some ⟨b, off, none⟩ ∧ b < w.heap.size ∧ w.cell? ⟨b, off + k, none⟩ = some (.int .i64 (l[k]'hk)) := by
  obtain ⟨b, off, e, hb, hc⟩ := h.ints (by omega)
  exact ⟨b, off, e, hb, hc k hk⟩
theorem Rd.bytes {l : List Int} (h : Rd eByte w A l) (hl : 0 < l.length) : ∃ b off, A = some ⟨b, off, none⟩ ∧ b < w.heap.size ∧ ∀ k (hk : k < l.length), w.cell? ⟨b, off + k, none⟩ = some (.int .u8 (l[k]'hk)) := by
  obtain ⟨b, off, rfl, hc⟩ := h hl
  refine ⟨b, off, rfl, h.lt hl rfl, fun k hk => ?_⟩
  have := hc k hk 0 (by simp [eByte])
  simpa [eByte] using this
theorem Rd.bools {l : List Bool} (h : Rd eBool w A l) (hl : 0 < l.length) : ∃ b off, A = some ⟨b, off, none⟩ ∧ b < w.heap.size ∧ ∀ k (hk : k < l.length), w.cell? ⟨b, off + k, none⟩ = some (.bool (l[k]'hk)) := by
  obtain ⟨b, off, rfl, hc⟩ := h hl
  refine ⟨b, off, rfl, h.lt hl rfl, fun k hk => ?_⟩
  have := hc k hk 0 (by simp [eBool])
  simpa [eBool] using this
theorem Row.int {c : Nat} {l : List Int} (h : Row eInt w g e A c l) (hl : 0 < l.length) : A = some ⟨g, 0, none⟩ ∧ g < w.heap.size ∧ (∀ o, w.frozen? ⟨g, o, none⟩ = false) ∧ ∀ k (hk : k < l.length), w.cell? ⟨g, k, none⟩ = some (.int .i64 (l[k]'hk)) := by
  obtain ⟨rfl, cur, hh, _, _, hc⟩ := h.cur hl
  refine ⟨rfl, h.lt hl, h.unfrozen hl, fun k hk => ?_⟩
  rw [cell_of_row w g _ cur e (0, 0) hh]
  simpa [eInt] using hc k hk 0 (by simp [eInt])
theorem Row.setInt {c : Nat} {l : List Int} (h : Row eInt w g e A c l) {k : Nat} (hk : k < l.length) (x : Int) : Row eInt (w.setCell ⟨g, k, none⟩ (.int .i64 x)) g e A c (l.set k x) := by
  have := h.setCell (j := 0) hk (by simp [eInt]) (.int .i64 x) x (by simp [eInt])
  simpa [eInt] using this
theorem Row.bool {c : Nat} {l : List Bool} (h : Row eBool w g e A c l) (hl : 0 < l.length) : A = some ⟨g, 0, none⟩ ∧ g < w.heap.size ∧ (∀ o, w.frozen? ⟨g, o, none⟩ = false) ∧ ∀ k (hk : k < l.length), w.cell? ⟨g, k, none⟩ = some (.bool (l[k]'hk)) := by
  obtain ⟨rfl, cur, hh, _, _, hc⟩ := h.cur hl
  refine ⟨rfl, h.lt hl, h.unfrozen hl, fun k hk => ?_⟩
  rw [cell_of_row w g _ cur e (0, 0) hh]
  simpa [eBool] using hc k hk 0 (by simp [eBool])
theorem Row.setBool {c : Nat} {l : List Bool} (h : Row eBool w g e A c l) {k : Nat} (hk : k < l.length) (x : Bool) : Row eBool (w.setCell ⟨g, k, none⟩ (.bool x)) g e A c (l.set k x) := by
  have := h.setCell (j := 0) hk (by simp [eBool]) (.bool x) x (by simp [eBool])
  simpa [eBool] using this
end

theorem Rd.lit {α : Type} {E : Enc α} {w : World} {arr : Array Value} {t : TypeId} {b : Nat} {l : List α} (hb : w.heap.size = b) (h : arr.toList = l.flatMap E.cells) : Rd E (w.alloc (.cells arr t)) (some ⟨b, 0, none⟩) l := by
  subst hb
  intro hl
  refine ⟨w.heap.size, 0, rfl, fun k hk j hj => ?_⟩
  rw [cell_of_row _ _ _ arr t (0, 0) (heap_alloc_new w _), Nat.zero_add, ← Array.getElem?_toList, h, flat_get E l k hk j hj]
/-- Block b holds the cells cs at its head, nothing of it frozen: a local variable's block, or a literal's. -/
def Loc (w : World) (b : Nat) (cs : List Value) : Prop := ∃ cur t, w.heap[b]? = some (.cells cur t (0, 0)) ∧ ∀ (j : Nat) (v : Value), cs[j]? = some v → cur[j]? = some v
section
variable {w w' : World} {b : Nat} {cs : List Value}
theorem Loc.lt (h : Loc w b cs) : b < w.heap.size := by
  obtain ⟨cur, t, hh, _⟩ := h
  exact (Array.getElem?_eq_some_iff.1 hh).1
theorem Loc.of_block {t : TypeId} (h : w.heap[b]? = some (.cells cs.toArray t (0, 0))) : Loc w b cs := ⟨_, t, h, fun j v hv => by simpa using hv⟩
theorem Loc.new (w : World) (cs : List Value) (t : TypeId) : Loc (w.alloc (.cells cs.toArray t)) w.heap.size cs := Loc.of_block (heap_alloc_new w _)
theorem Loc.keep (h : Loc w b cs) (hk : w'.heap[b]? = w.heap[b]?) : Loc w' b cs := by
  obtain ⟨cur, t, hh, hc⟩ := h
  exact ⟨cur, t, hk.trans hh, hc⟩
theorem Loc.below (h : Loc w b cs) (hb : Below w.heap.size w w') : Loc w' b cs := h.keep (hb.block b h.lt)
theorem Loc.grown (h : Loc w b cs) {g : Nat} (hg : w.grownBy w' (some g)) (hne : b ≠ g) : Loc w' b cs := h.keep (hg.block b h.lt (fun e => hne (by injection e)))
theorem Loc.alloc (h : Loc w b cs) (o : Obj) : Loc (w.alloc o) b cs := h.below ((Below.refl _ _).alloc (Nat.le_refl _) o)
theorem Loc.drew (h : Loc w b cs) : Loc w.drew b cs := h
theorem Loc.drewN (h : Loc w b cs) (n : Nat) : Loc (w.drewN n) b cs := h
theorem Loc.other (h : Loc w b cs) {p : Addr} (hp : b ≠ p.block) (v : Value) : Loc (w.setCell p v) b cs := h.keep (Below.heap_setCell w p v b hp)
theorem Loc.other' {p : Addr} (hp : b ≠ p.block) (h : Loc w b cs) (v : Value) : Loc (w.setCell p v) b cs := h.other hp v
theorem Loc.set (h : Loc w b cs) (j : Nat) (v : Value) : Loc (w.setCell ⟨b, j, none⟩ v) b (cs.set j v) := by
  obtain ⟨cur, t, hh, hc⟩ := h
  refine ⟨cur.setIfInBounds j v, t, by simp [World.setCell, Array.getElem?_modify, hh], fun i u hu => ?_⟩
  by_cases hij : j = i
  · subst hij
    have hjl : j < cs.length := by
      rcases Nat.lt_or_ge j cs.length with h1 | h1
      · exact h1
      · rw [List.getElem?_eq_none (by simpa using h1)] at hu; cases hu
    rw [List.getElem?_set_self hjl] at hu
    have hlt := (Array.getElem?_eq_some_iff.1 (hc j _ (List.getElem?_eq_getElem hjl))).1
    rw [Array.getElem?_setIfInBounds, if_pos rfl, if_pos hlt]
    exact hu
  · rw [List.getElem?_set_ne hij] at hu
    rw [Array.getElem?_setIfInBounds, if_neg hij]
    exact hc i u hu
theorem Loc.carry {w0 : World} (h : Loc w0 b cs) (up : Loc w0 b cs → Loc w b cs) {g : Nat} (hg : w.grownBy w' (some g)) (hne : b ≠ g) : Loc w' b cs := (up h).grown hg hne
theorem Loc.carryB {w0 : World} (h : Loc w0 b cs) (up : Loc w0 b cs → Loc w b cs) (hb : Below w.heap.size w w') : Loc w' b cs := (up h).below hb
theorem Loc.frozen (h : Loc w b cs) (o : Nat) : w.frozen? ⟨b, o, none⟩ = false := by
  obtain ⟨cur, t, hh, _⟩ := h
  simp [World.frozen?, hh]
theorem Loc.cell (h : Loc w b cs) {j : Nat} {v : Value} (hv : cs[j]? = some v) : w.cell? ⟨b, j, none⟩ = some v := by
  obtain ⟨cur, t, hh, hc⟩ := h
  rw [cell_of_row w b j cur t (0, 0) hh]
  exact hc j v hv
theorem Loc.one {x : Value} (h : Loc w b [x]) : w.cell? ⟨b, 0, none⟩ = some x ∧ (∀ o, w.frozen? ⟨b, o, none⟩ = false) := ⟨h.cell rfl, h.frozen⟩
theorem Loc.two {x y : Value} (h : Loc w b [x, y]) : w.cell? ⟨b, 0, none⟩ = some x ∧ w.cell? ⟨b, 1, none⟩ = some y ∧ (∀ o, w.frozen? ⟨b, o, none⟩ = false) := ⟨h.cell rfl, h.cell rfl, h.frozen⟩
theorem Loc.three {x y z : Value} (h : Loc w b [x, y, z]) : w.cell? ⟨b, 0, none⟩ = some x ∧ w.cell? ⟨b, 1, none⟩ = some y ∧ w.cell? ⟨b, 2, none⟩ = some z ∧ (∀ o, w.frozen? ⟨b, o, none⟩ = false) := ⟨h.cell rfl, h.cell rfl, h.cell rfl, h.frozen⟩
theorem Loc.four {x y z u : Value} (h : Loc w b [x, y, z, u]) : w.cell? ⟨b, 0, none⟩ = some x ∧ w.cell? ⟨b, 1, none⟩ = some y ∧ w.cell? ⟨b, 2, none⟩ = some z ∧ w.cell? ⟨b, 3, none⟩ = some u ∧ (∀ o, w.frozen? ⟨b, o, none⟩ = false) := ⟨h.cell rfl, h.cell rfl, h.cell rfl, h.cell rfl, h.frozen⟩
/-- an index into a literal of numbers: what is read, by whatever road -/
theorem lit_pick (l : List Int) (r : Int) (h0 : 0 ≤ r) (h1 : r < l.length) (lo hi : Int) (hl : ∀ x ∈ l, lo ≤ x ∧ x ≤ hi) : ∃ x : Int, (l.map (Value.int .i64))[r.toNat]? = some (.int .i64 x) ∧ (∀ h, (l.map (Value.int .i64))[r.toNat]'h = .int .i64 x) ∧ lo ≤ x ∧ x ≤ hi := by
  have hr : r.toNat < l.length := by omega
  exact ⟨l[r.toNat], by simp [hr], fun h => by simp, hl _ (List.getElem_mem hr)⟩
/-- an index into a literal of numbers -/
theorem Loc.pick_int {l : List Int} (h : Loc w b (l.map (Value.int .i64))) (r : Int) (h0 : 0 ≤ r) (h1 : r < l.length) (lo hi : Int) (hl : ∀ x ∈ l, lo ≤ x ∧ x ≤ hi) : ∃ x : Int, w.cell? ⟨b, r.toNat, none⟩ = some (.int .i64 x) ∧ lo ≤ x ∧ x ≤ hi := by
  have hr : r.toNat < l.length := by omega
  exact ⟨l[r.toNat], h.cell (by simp [hr]), hl _ (List.getElem_mem hr)⟩
end

/-- A contract that leaves the world alone, in a region that draws its order. -/
theorem quiet_left {P : Program} {f : FuncId} {args : Array Value} {w : World} {n : Nat} {v : Value}
    (h : Calls P f args (w.drewN n) fun e w' => e = .returned v ∧ w.drewN n = w') : Calls P f args (w.drewN n) fun e w'' => e = .returned v ∧ ∃ m, w'' = w.drewN m :=
  h.mono fun _ _ ⟨he, hw⟩ => ⟨he, n, hw.symm⟩
theorem quiet_add_left {P : Program} {f : FuncId} {args : Array Value} {w : World} {a n : Nat} {v : Value}
    (h : Calls P f args (w.drewN (a + n)) fun e w' => e = .returned v ∧ w.drewN (a + n) = w') : Calls P f args (w.drewN (a + n)) fun e w'' => e = .returned v ∧ ∃ m, w'' = w.drewN (a + m) :=
  h.mono fun _ _ ⟨he, hw⟩ => ⟨he, n, hw.symm⟩
theorem calls_eq {P : Program} {f : FuncId} {args args' : Array Value} {w : World} {R : Ending → World → Prop} (h : Calls P f args w R) (he : args = args') : Calls P f args' w R := he ▸ h
theorem calls_len {P : Program} {f : FuncId} {A : Option Addr} {n m c : Nat} {rest : List Value} {w : World} {R : Ending → World → Prop} (he : n = m) (h : Calls P f (Value.slice A n c :: rest).toArray w R) : Calls P f (Value.slice A m c :: rest).toArray w R := he ▸ h
section
variable {α : Type} {E : Enc α} {w w' : World} {A : Option Addr} {l : List α} {g g' c : Nat} {e : TypeId}
theorem Row.made? (h : Row E w g e A c l) : A = none ∨ g < w.heap.size := by
  rcases h with ⟨rfl, _⟩ | ⟨cur, rfl, hh, _⟩
  · exact .inl rfl
  · exact .inr (Array.getElem?_eq_some_iff.1 hh).1
theorem Row.far (h : Row E w g e A c l) (hg : w.grownBy w' (some g')) {B : Nat} (hm : A = none ∨ g < B) (hB : B ≤ g') : Row E w' g e A c l := by
  rcases h with h | ⟨cur, rfl, r⟩
  · exact .inl h
  · rcases hm with hm | hm
    · cases hm
    · exact Row.grown (.inr ⟨cur, rfl, r⟩) hg (by omega)
theorem Row.avoid (h : Row E w g e A c l) {X B : Nat} (hm : A = none ∨ g ≠ X) (hB : B ≤ g) (hX : B ≤ X) : ∃ g', Row E w g' e A c l ∧ g' ≠ X ∧ B ≤ g' := by
  rcases h with h | ⟨cur, rfl, r⟩
  · exact ⟨X + 1, .inl h, by omega, by omega⟩
  · rcases hm with hm | hm
    · cases hm
    · exact ⟨g, .inr ⟨cur, rfl, r⟩, hm, hB⟩
theorem Row.apart (h : Row E w g e A c l) (hg : w.grownBy w' (some g')) (hne : g ≠ g') : Row E w' g e A c l := h.grown hg hne
theorem Rd.far {w0 : World} (h : Rd E w A l) (h0 : Rd E w0 A l) (hg : w.grownBy w' (some g)) (hB : w0.heap.size ≤ g) : Rd E w' A l :=
  h.grown hg fun b off hl hA => by have := h0.lt hl hA; omega
theorem Rd.store {w0 : World} {p : Addr} (h0 : Rd E w0 A l) (hB : w0.heap.size ≤ p.block) (h : Rd E w A l) (v : Value) : Rd E (w.setCell p v) A l := by
  obtain ⟨b, o, sp⟩ := p
  exact h.keep fun b' off hl hA o' => World.cell?_of_block (Below.heap_setCell w _ v b' (by have := h0.lt hl hA; simp at hB ⊢; omega))
theorem Below.far' {B : Nat} {a : World} (hg : w.grownBy w' (some g)) (hB : B ≤ w.heap.size) (hr : B ≤ g) (h : Below B a w) : Below B a w' := Below.grown1 h hg hB hr
theorem Rd.far' {w0 : World} (h0 : Rd E w0 A l) (hg : w.grownBy w' (some g)) (hB : w0.heap.size ≤ g) (h : Rd E w A l) : Rd E w' A l := h.far h0 hg hB
theorem Row.far' (hg : w.grownBy w' (some g')) (hne : g ≠ g') (h : Row E w g e A c l) : Row E w' g e A c l := h.grown hg hne
theorem Below.far {B : Nat} {a : World} (h : Below B a w) (hg : w.grownBy w' (some g)) (hB : B ≤ w.heap.size) (hr : B ≤ g) : Below B a w' := Below.grown1 h hg hB hr
end
section
variable {w w' : World} {b : Nat} {cs : List Value}
theorem Loc.far' {g : Nat} (hg : w.grownBy w' (some g)) (hne : b ≠ g) (h : Loc w b cs) : Loc w' b cs := h.grown hg hne
theorem Loc.newAt' {w : World} {arr : Array Value} {t : TypeId} {b : Nat} {cs : List Value} (h : w.heap.size = b) (hc : arr.toList = cs) : Loc (w.alloc (.cells arr t)) b cs := by
  subst h; subst hc; exact Loc.new w arr.toList t
theorem Loc.newAt (w : World) (cs : List Value) (t : TypeId) {b : Nat} (h : w.heap.size = b) : Loc (w.alloc (.cells cs.toArray t)) b cs := h ▸ Loc.new w cs t
theorem Loc.far (h : Loc w b cs) {g : Nat} (hg : w.grownBy w' (some g)) (hne : b ≠ g) : Loc w' b cs := h.grown hg hne
theorem Loc.fill2 {x y : Value} (h : Loc w b [x, y]) (p q : Value) : Loc ((w.setCell ⟨b, 0, none⟩ p).setCell ⟨b, 1, none⟩ q) b [p, q] := by simpa using (h.set 0 p).set 1 q
theorem Loc.fill3 {x y z : Value} (h : Loc w b [x, y, z]) (p q r : Value) : Loc (((w.setCell ⟨b, 0, none⟩ p).setCell ⟨b, 1, none⟩ q).setCell ⟨b, 2, none⟩ r) b [p, q, r] := by simpa using ((h.set 0 p).set 1 q).set 2 r
/-- The cells and marks of a local's block, for the walk. -/
theorem Loc.all (h : Loc w b cs) : (∀ (j : Nat) (hj : j < cs.length), w.cell? ⟨b, j, none⟩ = some (cs[j]'hj)) ∧ (∀ o, w.frozen? ⟨b, o, none⟩ = false) := ⟨fun j hj => h.cell (by simp [hj]), h.frozen⟩
end
theorem gcell {W w1 : World} {R : Nat} (hb : W.grownBy w1 (some R)) : (∀ b o, b < W.heap.size → b ≠ R → w1.cell? ⟨b, o, none⟩ = W.cell? ⟨b, o, none⟩) ∧ (∀ b o, b < W.heap.size → b ≠ R → w1.frozen? ⟨b, o, none⟩ = W.frozen? ⟨b, o, none⟩) :=
  ⟨fun b o h hn => World.cell?_of_block (a := ⟨b, o, none⟩) (hb.block b h (fun e => hn (by injection e))), fun b o h hn => World.frozen?_of_block (a := ⟨b, o, none⟩) (hb.block b h (fun e => hn (by injection e)))⟩
end Go.Proofs.Ytnnanknljpkdeaa
