/-
  Words for memory: a slice that reads as a list of records, a slice in a block of the call's own; how they are kept over draws, new blocks and stores. No condition: plain lemmas.
-/
import Derived.WalkKit
import Derived.Lib.Hide
import Derived.Deep.QuietTactic
import Derived.BigQuiet
import Derived.Deep.RegionHeld3
import Derived.Deep.RegionWith
import Derived.Deep.AppendLies
import Derived.Outline
import Derived.WalkSpells
import Derived.Deep.DeepCutAuto
import Derived.Deep.Draws
namespace Go.Proofs.Ytmgbenfmhgkogaa
open Go.RowKit
/-- How a record lies in cells. -/
structure Enc (α : Type) where
  cells : α → List Value
  size : Nat
  pos : 0 < size
  len : ∀ x, (cells x).length = size
  one : ∀ x, ∀ u ∈ cells x, u.oneCell' = true

def eInt : Enc Int := ⟨fun x => [.int .i64 x], 1, by omega, fun _ => rfl, by intro x u h; simp at h; subst h; rfl⟩
def eByte : Enc Int := ⟨fun x => [.int .u8 x], 1, by omega, fun _ => rfl, by intro x u h; simp at h; subst h; rfl⟩
def eBool : Enc Bool := ⟨fun x => [.bool x], 1, by omega, fun _ => rfl, by intro x u h; simp at h; subst h; rfl⟩

/-- The slice at A reads in w as the list l. -/
def Rd {α : Type} (E : Enc α) (w : World) (A : Option Addr) (l : List α) : Prop :=
  0 < l.length → ∃ b off, A = some ⟨b, off, none⟩ ∧ ∀ k (hk : k < l.length) j, j < E.size → w.cell? ⟨b, off + k * E.size + j, none⟩ = (E.cells (l[k]'hk))[j]?

/-- The slice at A reads in w as the list l, and it lies in block g, of element type e, nothing of it frozen. -/
def Own {α : Type} (E : Enc α) (w : World) (g : Nat) (e : TypeId) (A : Option Addr) (l : List α) : Prop :=
  0 < l.length → ∃ off cur, A = some ⟨g, off, none⟩ ∧ w.heap[g]? = some (.cells cur e (0, 0)) ∧ ∀ k (hk : k < l.length) j, j < E.size → cur[off + k * E.size + j]? = (E.cells (l[k]'hk))[j]?

section
variable {α : Type} {E : Enc α} {w w' : World} {A : Option Addr} {l : List α} {g : Nat} {e : TypeId}

theorem bcell {W w1 : World} (hb : Below W.heap.size W w1) : (∀ b o, b < W.heap.size → w1.cell? ⟨b, o, none⟩ = W.cell? ⟨b, o, none⟩) ∧ (∀ b o, b < W.heap.size → w1.frozen? ⟨b, o, none⟩ = W.frozen? ⟨b, o, none⟩) :=
  ⟨fun b o h => hb.cell (p := ⟨b, o, none⟩) h, fun b o h => hb.frozen (p := ⟨b, o, none⟩) h⟩

theorem below_drewN {B : Nat} {a w : World} (h : Below B a w) (n : Nat) : Below B a (w.drewN n) := ⟨h.os, h.tape, h.output, h.size, h.block⟩

theorem Rd.nil (w : World) (A : Option Addr) : Rd E w A ([] : List α) := fun h => absurd h (by simp)
theorem Own.nil (w : World) (g : Nat) (e : TypeId) (A : Option Addr) : Own E w g e A ([] : List α) := fun h => absurd h (by simp)

/-- the cells are there: so the block is an old one -/
theorem Rd.lt (h : Rd E w A l) (hl : 0 < l.length) {b off : Nat} (hA : A = some ⟨b, off, none⟩) : b < w.heap.size := by
  obtain ⟨b', off', rfl, hc⟩ := h hl
  cases hA
  have h0 := hc 0 hl 0 E.pos
  have hs : 0 < (E.cells (l[0]'hl)).length := by rw [E.len]; exact E.pos
  rw [List.getElem?_eq_getElem hs] at h0
  exact World.block_lt_of_cell? w _ h0

theorem Rd.keep (h : Rd E w A l) (hk : ∀ b off, 0 < l.length → A = some ⟨b, off, none⟩ → ∀ o, w'.cell? ⟨b, o, none⟩ = w.cell? ⟨b, o, none⟩) : Rd E w' A l := by
  intro hl
  obtain ⟨b, off, rfl, hc⟩ := h hl
  exact ⟨b, off, rfl, fun k hk' j hj => (hk b off hl rfl _).trans (hc k hk' j hj)⟩

theorem Rd.below (h : Rd E w A l) (hb : Below w.heap.size w w') : Rd E w' A l :=
  h.keep fun _ _ hl hA o => (bcell hb).1 _ o (h.lt hl hA)
theorem Rd.drewN (h : Rd E w A l) (n : Nat) : Rd E (w.drewN n) A l := h
theorem Rd.alloc (h : Rd E w A l) (o : Obj) : Rd E (w.alloc o) A l := h.below ((Below.refl _ _).alloc (Nat.le_refl _) o)
theorem Rd.grown (h : Rd E w A l) {g : Nat} (hg : w.grownBy w' (some g)) (hne : ∀ b off, 0 < l.length → A = some ⟨b, off, none⟩ → b ≠ g) : Rd E w' A l :=
  h.keep fun b off hl hA o => World.cell?_of_block (hg.block b (h.lt hl hA) (fun e => hne b off hl hA (by injection e)))

theorem Own.rd (h : Own E w g e A l) : Rd E w A l := by
  intro hl
  obtain ⟨off, cur, rfl, hh, hc⟩ := h hl
  exact ⟨g, off, rfl, fun k hk j hj => by rw [cell_of_row w g _ cur e (0, 0) hh]; exact hc k hk j hj⟩
theorem Own.lt (h : Own E w g e A l) (hl : 0 < l.length) : g < w.heap.size := by
  obtain ⟨off, cur, rfl, hh, hc⟩ := h hl
  exact (Array.getElem?_eq_some_iff.1 hh).1
theorem Own.keep (h : Own E w g e A l) (hk : 0 < l.length → w'.heap[g]? = w.heap[g]?) : Own E w' g e A l := by
  intro hl
  obtain ⟨off, cur, rfl, hh, hc⟩ := h hl
  exact ⟨off, cur, rfl, (hk hl).trans hh, hc⟩
theorem Own.below (h : Own E w g e A l) (hb : Below w.heap.size w w') : Own E w' g e A l := h.keep fun hl => hb.block g (h.lt hl)
theorem Own.grown (h : Own E w g e A l) {g' : Nat} (hg : w.grownBy w' (some g')) (hne : g ≠ g') : Own E w' g e A l :=
  h.keep fun hl => hg.block g (h.lt hl) (fun e => hne (by injection e))
theorem Own.drewN (h : Own E w g e A l) (n : Nat) : Own E (w.drewN n) g e A l := h
theorem Own.alloc (h : Own E w g e A l) (o : Obj) : Own E (w.alloc o) g e A l := h.below ((Below.refl _ _).alloc (Nat.le_refl _) o)
/-- blocks of different element types are different -/
theorem Own.ne_ {β : Type} {E' : Enc β} {g' : Nat} {e' : TypeId} {A' : Option Addr} {l' : List β} (h : Own E w g e A l) (h' : Own E' w g' e' A' l') (hl : 0 < l.length) (hl' : 0 < l'.length) (hne : e ≠ e') : g ≠ g' := by
  rintro rfl
  obtain ⟨_, _, _, hh, _⟩ := h hl
  obtain ⟨_, _, _, hh', _⟩ := h' hl'
  rw [hh] at hh'
  injection hh' with hh'
  injection hh' with _ ht
  exact hne ht

/-- what the walk asks of a store -/
theorem Own.unfrozen (h : Own E w g e A l) (hl : 0 < l.length) (o : Nat) : w.frozen? ⟨g, o, none⟩ = false := by
  obtain ⟨off, cur, rfl, hh, _⟩ := h hl
  simp [World.frozen?, hh]

theorem mul_add_lt_inj {s k j k' j' : Nat} (hj : j < s) (hj' : j' < s) (h : k * s + j = k' * s + j') : k = k' ∧ j = j' := by
  have h1 : (k * s + j) / s = k := by rw [Nat.add_comm, Nat.add_mul_div_right _ _ (by omega), Nat.div_eq_of_lt hj]; omega
  have h2 : (k' * s + j') / s = k' := by rw [Nat.add_comm, Nat.add_mul_div_right _ _ (by omega), Nat.div_eq_of_lt hj']; omega
  have hk : k = k' := by rw [← h1, ← h2, h]
  subst hk
  exact ⟨rfl, by omega⟩

/-- A store of one cell of one element. -/
theorem Own.setCell (h : Own E w g e A l) {k j off : Nat} (hk : k < l.length) (hj : j < E.size) (hA : A = some ⟨g, off, none⟩) (v : Value) (x : α) (hx : E.cells x = (E.cells (l[k]'hk)).set j v) :
    Own E (w.setCell ⟨g, off + k * E.size + j, none⟩ v) g e A (l.set k x) := by
  intro hl
  have hl0 : 0 < l.length := by omega
  obtain ⟨off', cur, hA', hh, hc⟩ := h hl0
  rw [hA] at hA'
  cases hA'
  refine ⟨off, cur.setIfInBounds (off + k * E.size + j) v, hA, ?_, fun k' hk' j' hj' => ?_⟩
  · simp [World.setCell, Array.getElem?_modify, hh]
  · have hk'' : k' < l.length := by simpa using hk'
    have hb := hc k' hk'' j' hj'
    by_cases hkk : k' = k
    · subst hkk
      by_cases hjj : j' = j
      · subst hjj
        have hsz : off + k' * E.size + j' < cur.size := by
          have hs : j' < (E.cells (l[k']'hk'')).length := by rw [E.len]; exact hj'
          rw [List.getElem?_eq_getElem hs] at hb
          exact (Array.getElem?_eq_some_iff.1 hb).1
        rw [Array.getElem?_setIfInBounds, if_pos rfl, if_pos hsz]
        simp only [List.getElem_set_self]
        rw [hx, List.getElem?_set_self (by rw [E.len]; exact hj')]
      · rw [Array.getElem?_setIfInBounds, if_neg (by omega), hb]
        simp only [List.getElem_set_self]
        rw [hx, List.getElem?_set_ne (by omega)]
    · have hne : ¬ (off + k * E.size + j = off + k' * E.size + j') := by
        intro he
        exact hkk (mul_add_lt_inj hj' hj (by omega)).1
      rw [Array.getElem?_setIfInBounds, if_neg hne, hb]
      rw [List.getElem_set_ne (by omega)]

theorem grownBy_setCell (w : World) (g o : Nat) (v : Value) : w.grownBy (w.setCell ⟨g, o, none⟩ v) (some g) :=
  ⟨rfl, rfl, rfl, by simp [World.setCell], fun k _ hk => Below.heap_setCell w _ v k (fun e => hk (by rw [e]))⟩
theorem grownBy_refl (w : World) (r : Option Nat) : w.grownBy w r := ⟨rfl, rfl, rfl, Nat.le_refl _, fun _ _ _ => rfl⟩
theorem grownBy_trans {a b c : World} {r : Option Nat} (h : a.grownBy b r) (k : b.grownBy c r) : a.grownBy c r :=
  ⟨k.os.trans h.os, k.tape.trans h.tape, k.output.trans h.output, Nat.le_trans h.size k.size, fun i hi hne => (k.block i (Nat.lt_of_lt_of_le hi h.size) hne).trans (h.block i hi hne)⟩
theorem grownBy_of_below {a b : World} (h : Below a.heap.size a b) (r : Option Nat) : a.grownBy b r := ⟨h.os, h.tape, h.output, h.size, fun i hi _ => h.block i hi⟩
theorem grownBy_drewN {a b : World} {r : Option Nat} (h : a.grownBy b r) (n : Nat) : a.grownBy (b.drewN n) r := ⟨h.os, h.tape, h.output, h.size, h.block⟩
theorem Below.grown1 {B : Nat} {a w w' : World} {g : Nat} (h : Below B a w) (hg : w.grownBy w' (some g)) (hB : B ≤ w.heap.size) (hr : B ≤ g) : Below B a w' :=
  h.grown hg hB (by intro k hk; cases hk; exact hr)
/-- behind a call in the middle: what is new since the beginning stays new -/
theorem Below.next {W w1 w2 : World} (h : Below W.heap.size W w1) (k : Below w1.heap.size w1 w2) : Below W.heap.size W w2 := h.trans (k.mono h.size)
end

section
variable {w w' : World} {A : Option Addr} {g : Nat} {e : TypeId}
theorem Rd.ints {l : List Int} (h : Rd eInt w A l) (hl : 0 < l.length) : ∃ b off, A = some ⟨b, off, none⟩ ∧ b < w.heap.size ∧ ∀ k (hk : k < l.length), w.cell? ⟨b, off + k, none⟩ = some (.int .i64 (l[k]'hk)) := by
  obtain ⟨b, off, rfl, hc⟩ := h hl
  refine ⟨b, off, rfl, h.lt hl rfl, fun k hk => ?_⟩
  have := hc k hk 0 (by simp [eInt])
  simpa [eInt] using this
theorem Rd.int {l : List Int} (h : Rd eInt w A l) {k : Nat} (hk : k < l.length) : ∃ b off, A = some ⟨b, off, none⟩ ∧ b < w.heap.size ∧ w.cell? ⟨b, off + k, none⟩ = some (.int .i64 (l[k]'hk)) := by
  obtain ⟨b, off, e, hb, hc⟩ := h.ints (by omega)
  exact ⟨b, off, e, hb, hc k hk⟩
theorem Rd.bytes {l : List Int} (h : Rd eByte w A l) (hl : 0 < l.length) : ∃ b off, A = some ⟨b, off, none⟩ ∧ b < w.heap.size ∧ ∀ k (hk : k < l.length), w.cell? ⟨b, off + k, none⟩ = some (.int .u8 (l[k]'hk)) := by
  obtain ⟨b, off, rfl, hc⟩ := h hl
  refine ⟨b, off, rfl, h.lt hl rfl, fun k hk => ?_⟩
  have := hc k hk 0 (by simp [eByte])
  simpa [eByte] using this
theorem Rd.bools {l : List Bool} (h : Rd eBool w A l) (hl : 0 < l.length) : ∃ b off, A = some ⟨b, off, none⟩ ∧ b < w.heap.size ∧ ∀ k (hk : k < l.length), w.cell? ⟨b, off + k, none⟩ = some (.bool (l[k]'hk)) := by
  obtain ⟨b, off, rfl, hc⟩ := h hl
  refine ⟨b, off, rfl, h.lt hl rfl, fun k hk => ?_⟩
  have := hc k hk 0 (by simp [eBool])
  simpa [eBool] using this
theorem Own.int {l : List Int} (h : Own eInt w g e A l) (hl : 0 < l.length) : ∃ off, A = some ⟨g, off, none⟩ ∧ g < w.heap.size ∧ (∀ o, w.frozen? ⟨g, o, none⟩ = false) ∧ ∀ k (hk : k < l.length), w.cell? ⟨g, off + k, none⟩ = some (.int .i64 (l[k]'hk)) := by
  obtain ⟨off, cur, hA, _⟩ := h hl
  obtain ⟨b, off', hA', hb, hc⟩ := h.rd.ints hl
  rw [hA] at hA'
  cases hA'
  exact ⟨off, hA, hb, h.unfrozen hl, hc⟩
theorem Own.setInt {l : List Int} (h : Own eInt w g e A l) {k off : Nat} (hk : k < l.length) (hA : A = some ⟨g, off, none⟩) (x : Int) : Own eInt (w.setCell ⟨g, off + k, none⟩ (.int .i64 x)) g e A (l.set k x) := by
  have := h.setCell (j := 0) hk (by simp [eInt]) hA (.int .i64 x) x (by simp [eInt])
  simpa [eInt] using this
theorem Own.bool {l : List Bool} (h : Own eBool w g e A l) (hl : 0 < l.length) : ∃ off, A = some ⟨g, off, none⟩ ∧ g < w.heap.size ∧ (∀ o, w.frozen? ⟨g, o, none⟩ = false) ∧ ∀ k (hk : k < l.length), w.cell? ⟨g, off + k, none⟩ = some (.bool (l[k]'hk)) := by
  obtain ⟨off, cur, hA, _⟩ := h hl
  obtain ⟨b, off', hA', hb, hc⟩ := h.rd.bools hl
  rw [hA] at hA'
  cases hA'
  exact ⟨off, hA, hb, h.unfrozen hl, hc⟩
theorem Own.setBool {l : List Bool} (h : Own eBool w g e A l) {k off : Nat} (hk : k < l.length) (hA : A = some ⟨g, off, none⟩) (x : Bool) : Own eBool (w.setCell ⟨g, off + k, none⟩ (.bool x)) g e A (l.set k x) := by
  have := h.setCell (j := 0) hk (by simp [eBool]) hA (.bool x) x (by simp [eBool])
  simpa [eBool] using this
end

section
variable {α : Type} {E : Enc α} {w : World} {l : List α} {e : TypeId}
theorem flat_length (E : Enc α) (l : List α) : (l.flatMap E.cells).length = l.length * E.size := by
  induction l with
  | nil => simp
  | cons x r ih => simp [ih, E.len, Nat.add_mul]; omega
theorem flat_get (E : Enc α) (l : List α) (k : Nat) (hk : k < l.length) (j : Nat) (hj : j < E.size) : (l.flatMap E.cells)[k * E.size + j]? = (E.cells (l[k]'hk))[j]? := by
  induction l generalizing k with
  | nil => simp at hk
  | cons x r ih =>
    cases k with
    | zero => simp [List.getElem?_append_left, E.len, hj]
    | succ k =>
      simp only [List.flatMap_cons]
      rw [List.getElem?_append_right (by rw [E.len, Nat.add_mul]; omega), E.len, show (k + 1) * E.size + j - E.size = k * E.size + j by rw [Nat.add_mul]; omega, ih k (by simpa using hk)]
      simp
theorem flat_one (E : Enc α) (l : List α) : ∀ u ∈ l.flatMap E.cells, u.oneCell' = true := by
  intro u hu
  obtain ⟨x, _, hx⟩ := List.mem_flatMap.1 hu
  exact E.one x u hx
/-- A row that may be appended to, as a list of records. -/
def Row (E : Enc α) (w : World) (base : Nat) (e : TypeId) (v : Value) (l : List α) : Prop := w.ownsRow base e E.size v l.length (l.flatMap E.cells)
theorem Row.own {base : Nat} {v : Value} (h : Row E w base e v l) : ∃ A c g, v = .slice A l.length c ∧ l.length ≤ c ∧ base ≤ g ∧ Own E w g e A l ∧ (0 < l.length → v.ownBlock = some g) ∧ (l.length = 0 → v.ownBlock = none ∨ v.ownBlock = some g) := by
  rcases h.2 with ⟨rfl, hn⟩ | ⟨g, cap, cur, rfl, hb, hh, hnc, _, _, ht⟩
  · exact ⟨none, 0, base, by rw [hn], by omega, Nat.le_refl _, fun hl => absurd hl (by omega), fun hl => absurd hl (by omega), fun _ => .inl rfl⟩
  · refine ⟨_, cap, g, rfl, hnc, hb, fun hl => ⟨0, cur, rfl, hh, fun k hk j hj => ?_⟩, fun _ => rfl, fun _ => .inr rfl⟩
    rw [← flat_get E l k hk j hj, ← ht, List.getElem?_take_of_lt, Nat.zero_add, Array.getElem?_toList]
    have : (k + 1) * E.size ≤ l.length * E.size := Nat.mul_le_mul_right _ hk
    rw [Nat.add_mul] at this
    omega
theorem Row.nil (w : World) (base : Nat) (e : TypeId) : Row E w base e (.slice none 0 0) [] := World.ownsRow_nil w base e E.size
theorem rd_news {A : Option Addr} (h : Rd E w A l) (ad : Addr) (hA : A = some ad) : ∀ j u, (l.flatMap E.cells)[j]? = some u → w.cell? (ad.add j) = some u := by
  intro j u hu
  have hlt : j < l.length * E.size := by rw [← flat_length]; exact (List.getElem?_eq_some_iff.1 hu).1
  have hl : 0 < l.length := by
    rcases Nat.eq_zero_or_pos l.length with h0 | h0
    · rw [h0] at hlt; omega
    · exact h0
  obtain ⟨b, off, hA', hc⟩ := h hl
  rw [hA] at hA'
  cases hA'
  have hdm : j / E.size * E.size + j % E.size = j := by rw [Nat.mul_comm]; exact Nat.div_add_mod j E.size
  have hk : j / E.size < l.length := Nat.div_lt_of_lt_mul (by rw [Nat.mul_comm]; exact hlt)
  have hcc := hc (j / E.size) hk (j % E.size) (Nat.mod_lt _ E.pos)
  rw [Nat.add_assoc, hdm, ← flat_get E l _ hk _ (Nat.mod_lt _ E.pos), hdm, hu] at hcc
  unfold Addr.add
  split
  · subst j; simpa using hcc
  · exact hcc
end
end Go.Proofs.Ytmgbenfmhgkogaa
