/-
  Flash memories: collecting a block, the program's way. Conditions: lengths at most 2^40.
-/
import Derived.Test.YtnnanknljpkdeaaBase
import Derived.Test.YtnnanknljpkdeaaNum
import Derived.Test.YtnnanknljpkdeaaInts
import Derived.Test.YtnnanknljpkdeaaApp
import Derived.Test.YtnnanknljpkdeaaIntsW
import Derived.Test.YtnnanknljpkdeaaLib
import Derived.Test.YtnnanknljpkdeaaSpares
import Derived.Test.YtnnanknljpkdeaaOwn
import Derived.Test.YtnnanknljpkdeaaPage
import Derived.Test.YtnnanknljpkdeaaFlash
import Derived.Test.YtnnanknljpkdeaaFlashM
import Derived.Test.YtnnanknljpkdeaaFlashC
import Derived.Test.YtnnanknljpkdeaaFlashD
import Derived.Test.YtnnanknljpkdeaaFlashV
import Derived.Test.YtnnanknljpkdeaaThinC
import Derived.Test.YtnnanknljpkdeaaFlashW
namespace Go.Proofs.Ytnnanknljpkdeaa
open Go.RowKit
section
variable {α : Type} {E : Enc α} {w : World} {l : List α}
theorem Rd.dropAt {b off : Nat} (h : Rd E w (some ⟨b, off, none⟩) l) (n : Nat) : Rd E w (some ⟨b, off + n * E.size, none⟩) (l.drop n) := by
  intro hl
  obtain ⟨b', off', he, hc⟩ := h (by simp at hl; omega)
  cases he
  refine ⟨b, off + n * E.size, rfl, fun k hk j hj => ?_⟩
  have hk' : n + k < l.length := by simp at hk; omega
  have := hc (n + k) hk' j hj
  rw [List.getElem_drop, ← this]
  congr 2
  rw [Nat.add_mul]; omega
end
theorem GIn.alloc {B C : Nat} {a b : World} (h : GIn B C a b) (o : Obj) : GIn B C a (b.alloc o) := h.trans (GIn.of_below ((Below.refl _ _).alloc (Nat.le_refl _) o))
theorem GIn.drew {B C : Nat} {a b : World} (h : GIn B C a b) : GIn B C a b.drew := ⟨h.os, h.tape, h.output, h.size, h.block⟩
theorem GIn.drewN {B C : Nat} {a b : World} (h : GIn B C a b) (n : Nat) : GIn B C a (b.drewN n) := ⟨h.os, h.tape, h.output, h.size, h.block⟩
theorem GIn.below {B C : Nat} {a b c : World} (h : GIn B C a b) (hb : Below b.heap.size b c) : GIn B C a c := h.trans (GIn.of_below hb)
theorem GIn.set {B C : Nat} {a b : World} (h : GIn B C a b) {g o : Nat} (h1 : B ≤ g) (h2 : g < C) (v : Value) : GIn B C a (b.setCell ⟨g, o, none⟩ v) := h.trans (GIn.of_grown (grownBy_setCell b g o v) h1 h2)
/-- a store into a block that is new since a -/
theorem GIn.setNew {B C : Nat} {a b : World} (h : GIn B C a b) {g o : Nat} (h1 : a.heap.size ≤ g) (v : Value) : GIn B C a (b.setCell ⟨g, o, none⟩ v) :=
  ⟨h.os, h.tape, h.output, by simpa [World.setCell] using h.size, fun k hk hn => (Below.heap_setCell b ⟨g, o, none⟩ v k (by simp; omega)).trans (h.block k hk hn)⟩
theorem GIn.grownNew {B C g : Nat} {a b c : World} (h : GIn B C a b) (k : b.grownBy c (some g)) (h1 : a.heap.size ≤ g) : GIn B C a c :=
  ⟨k.os.trans h.os, k.tape.trans h.tape, k.output.trans h.output, Nat.le_trans h.size k.size, fun i hi hn => (k.block i (Nat.lt_of_lt_of_le hi h.size) (fun e => by injection e with e; omega)).trans (h.block i hi hn)⟩
section
variable {w w' : World} {xs : List Value} {f : Fl} {B C : Nat}
theorem FlashOwn.alloc (h : FlashOwn B w C xs f) (o : Obj) : FlashOwn B (w.alloc o) C xs f := h.below ((Below.refl _ _).alloc (Nat.le_refl _) o)
theorem FlashOwn.drew (h : FlashOwn B w C xs f) : FlashOwn B w.drew C xs f := h
theorem FlashOwn.drewN (h : FlashOwn B w C xs f) (n : Nat) : FlashOwn B (w.drewN n) C xs f := h
theorem FlashOwn.other (h : FlashOwn B w C xs f) {p : Addr} (hp : p.block < B ∨ C ≤ p.block) (v : Value) : FlashOwn B (w.setCell p v) C xs f := by
  obtain ⟨u, v', h1, h2, h3, h4⟩ := h
  exact ⟨u, v', h1, h2.other hp v, h3.other hp v, h4⟩
theorem FlashOwn.mono {B' C' : Nat} (h : FlashOwn B w C xs f) (h1 : B' ≤ B) (h2 : C ≤ C') : FlashOwn B' w C' xs f := by
  obtain ⟨u, v, h0, a, b, h4⟩ := h
  exact ⟨u, v, h0, a.mono h1 h2, b.mono h1 h2, h4⟩
/-- one page of a flash memory of ours: where it lies, and what a store makes of it -/
theorem FlashOwn.page {A : Option Addr} {n c : Nat} {y1 : Value} (h : FlashOwn B w C [.slice A n c, y1] f) {k : Nat} (hk : k < f.pages.length) :
    ∃ g, A = some ⟨g, 0, none⟩ ∧ B ≤ g ∧ g < C ∧ g < w.heap.size ∧ n = f.pages.length ∧ n ≤ c ∧ (∀ o, w.frozen? ⟨g, o, none⟩ = false) ∧ w.cell? ⟨g, k * 2, none⟩ = some (.int .i64 f.pages[k].own) ∧ w.cell? ⟨g, k * 2 + 1, none⟩ = some (.int .i64 f.pages[k].val) ∧
      (∀ p : Pg, FlashOwn B ((w.setCell ⟨g, k * 2, none⟩ (.int .i64 p.own)).setCell ⟨g, k * 2 + 1, none⟩ (.int .i64 p.val)) C [.slice A n c, y1] ⟨f.pages.set k p, f.erases⟩) ∧
      (∀ x : Int, FlashOwn B (w.setCell ⟨g, k * 2, none⟩ (.int .i64 x)) C [.slice A n c, y1] ⟨f.pages.set k ⟨x, f.pages[k].val⟩, f.erases⟩) := by
  obtain ⟨u, v, h1, ⟨A1, c1, g, rfl, hr, hg⟩, ⟨A2, c2, g2, rfl, hr2, hg2⟩, hap⟩ := h
  simp only [List.cons.injEq, and_true, Value.slice.injEq] at h1
  obtain ⟨⟨rfl, rfl, rfl⟩, rfl⟩ := h1
  have hl : 0 < f.pages.length := by omega
  obtain ⟨rfl, hlt, hfz, hcc⟩ := hr.rPageS hl
  have hg' : B ≤ g ∧ g < C := by rcases hg with hg | hg; cases hg; exact hg
  have hle := hr.le
  have hap' : ∀ a, A2 = some a → a.block ≠ g := fun a ha => by
    have := hap ⟨g, 0, none⟩ _ _ a f.erases.length c2 rfl (by rw [ha])
    exact fun e => this e.symm
  have key : ∀ (w2 : World) (l : List Pg), w.grownBy w2 (some g) → Row encPageS w2 g tyPageS (some ⟨g, 0, none⟩) c l → l.length = f.pages.length → FlashOwn B w2 C [.slice (some ⟨g, 0, none⟩) f.pages.length c, .slice A2 f.erases.length c2] ⟨l, f.erases⟩ := by
    intro w2 l hgr hrow hll
    refine ⟨_, _, rfl, ⟨_, _, g, by rw [hll], hrow, .inr hg'⟩, ⟨A2, c2, g2, rfl, ?_, hg2⟩, hap⟩
    rcases hr2 with hr2 | ⟨cur, rfl, r⟩
    · exact .inl hr2
    · exact Row.grown (.inr ⟨cur, rfl, r⟩) hgr (hap' _ rfl)
  refine ⟨g, rfl, hg'.1, hg'.2, hlt, rfl, hle, hfz, (hcc k hk).1, (hcc k hk).2, fun p => ?_, fun x => ?_⟩
  · exact key _ _ (grownBy_trans (grownBy_setCell _ _ _ _) (grownBy_setCell _ _ _ _)) (hr.setRPageS hk p) (by simp)
  · exact key _ _ (grownBy_setCell _ _ _ _) (hr.setAPageS hk x) (by simp)
/-- one number of erasures of a flash memory of ours -/
theorem FlashOwn.erase {A : Option Addr} {n c : Nat} {y0 : Value} (h : FlashOwn B w C [y0, .slice A n c] f) {k : Nat} (hk : k < f.erases.length) :
    ∃ g, A = some ⟨g, 0, none⟩ ∧ B ≤ g ∧ g < C ∧ g < w.heap.size ∧ n = f.erases.length ∧ n ≤ c ∧ (∀ o, w.frozen? ⟨g, o, none⟩ = false) ∧ w.cell? ⟨g, k, none⟩ = some (.int .i64 f.erases[k]) ∧
      (∀ x : Int, FlashOwn B (w.setCell ⟨g, k, none⟩ (.int .i64 x)) C [y0, .slice A n c] ⟨f.pages, f.erases.set k x⟩) := by
  obtain ⟨u, v, h1, ⟨A2, c2, g2, rfl, hr2, hg2⟩, ⟨A1, c1, g, rfl, hr, hg⟩, hap⟩ := h
  simp only [List.cons.injEq, and_true, Value.slice.injEq] at h1
  obtain ⟨rfl, rfl, rfl, rfl⟩ := h1
  have hl : 0 < f.erases.length := by omega
  obtain ⟨rfl, hlt, hfz, hcc⟩ := hr.int hl
  have hg' : B ≤ g ∧ g < C := by rcases hg with hg | hg; cases hg; exact hg
  have hle := hr.le
  have hap' : ∀ a, A2 = some a → a.block ≠ g := fun a ha => by
    have := hap a f.pages.length c2 ⟨g, 0, none⟩ _ _ (by rw [ha]) rfl
    exact this
  refine ⟨g, rfl, hg'.1, hg'.2, hlt, rfl, hle, hfz, hcc k hk, fun x => ?_⟩
  refine ⟨_, _, rfl, ⟨A2, c2, g2, rfl, ?_, hg2⟩, ⟨_, c, g, by simp, hr.setInt hk x, .inr hg'⟩, hap⟩
  rcases hr2 with hr2 | ⟨cur, rfl, r⟩
  · exact .inl hr2
  · exact Row.grown (.inr ⟨cur, rfl, r⟩) (grownBy_setCell _ _ _ _) (hap' _ rfl)
end
def mostK (l : List Pg) (k : Nat) : Nat := if k = 0 then 0 else staleAt l (bestK l k)
theorem best_yes {l : List Pg} {k : Nat} (h : mostK l k < staleAt l k) : bestK l (k + 1) = k ∧ mostK l (k + 1) = staleAt l k := by
  have e : bestK l (k + 1) = k := by
    unfold bestK
    rcases Nat.eq_zero_or_pos k with h0 | h0
    · subst h0; simp [bestK]
    · unfold mostK at h; rw [if_neg (by omega)] at h; rw [if_pos h]
  exact ⟨e, by unfold mostK; rw [if_neg (by omega), e]⟩
theorem best_no {l : List Pg} {k : Nat} (h : ¬ mostK l k < staleAt l k) : bestK l (k + 1) = bestK l k ∧ mostK l (k + 1) = mostK l k := by
  rcases Nat.eq_zero_or_pos k with h0 | h0
  · subst h0
    have e : bestK l (0 + 1) = 0 := by simp [bestK]
    refine ⟨by rw [e]; rfl, ?_⟩
    unfold mostK at h ⊢
    rw [if_neg (by omega), e]
    simp at h ⊢
    exact h
  · unfold mostK at h ⊢
    rw [if_neg (by omega)] at h
    have e : bestK l (k + 1) = bestK l k := by rw [bestK, if_neg h]
    exact ⟨e, by rw [if_neg (by omega), if_neg (by omega), e]⟩
theorem bestK_le (l : List Pg) (k : Nat) : bestK l k ≤ k := by
  induction k with
  | zero => simp [bestK]
  | succ k ih => unfold bestK; split <;> omega
theorem staleAt_le (l : List Pg) (k : Nat) : staleAt l k ≤ 4 := by
  unfold staleAt staleN
  have h1 := List.countP_le_length (p := fun p : Pg => p.own == -2) (l := blockOf l k)
  have h2 : (blockOf l k).length ≤ 4 := by unfold blockOf; rw [List.length_take]; omega
  omega
theorem mostK_le (l : List Pg) (k : Nat) : mostK l k ≤ 4 := by
  unfold mostK; split
  · omega
  · exact staleAt_le _ _
theorem staleN_take {l : List Pg} {j : Nat} (hj : j < l.length) : staleN (l.take (j + 1)) = staleN (l.take j) + (if l[j].own = -2 then 1 else 0) := by
  rw [List.take_succ_eq_append_getElem hj, staleN_append]
  simp [staleN, List.countP_cons]
theorem staleN_le (l : List Pg) : staleN l ≤ l.length := List.countP_le_length
/-- the block's pages, freed up to place t -/
def erasedTo (l : List Pg) (lo t : Nat) (m : List Pg) : Prop := m.length = l.length ∧ ∀ s (h : s < m.length) (h' : s < l.length), m[s] = if lo ≤ s ∧ s < t then freeP else l[s]
theorem erasedTo_start (l : List Pg) (lo : Nat) : erasedTo l lo lo l := ⟨rfl, fun s _ _ => by rw [if_neg (by omega)]⟩
theorem erasedTo_step {l m : List Pg} {lo t : Nat} (h : erasedTo l lo t m) (h1 : lo ≤ t) : erasedTo l lo (t + 1) (m.set t freeP) := by
  refine ⟨by simpa using h.1, fun s hs hs' => ?_⟩
  have hs2 : s < m.length := by simpa using hs
  by_cases hst : t = s
  · subst hst
    rw [if_pos (by omega)]; simp
  · rw [List.getElem_set_ne hst, h.2 s hs2 hs']
    by_cases h2 : lo ≤ s ∧ s < t
    · rw [if_pos h2, if_pos (by omega)]
    · rw [if_neg h2, if_neg (by omega)]
theorem erasedTo_all {l m : List Pg} {b : Nat} (hb : 4 * b + 4 ≤ l.length) (h : erasedTo l (4 * b) (4 * b + 4) m) : m = erased l b := by
  apply List.ext_getElem
  · rw [erased_length hb, h.1]
  · intro s h1 h2
    have hs : s < l.length := by rw [h.1] at h1; exact h1
    rw [erased_get hb h2 hs, h.2 s h1 hs]
/-- the kept pages of the block's first j, written -/
def putTo (l : List Pg) (b j : Nat) : List Pg := (live ((blockOf l b).take j)).foldl put1 (erased l b)
theorem putTo_zero (l : List Pg) (b : Nat) : putTo l b 0 = erased l b := rfl
theorem putTo_yes {l : List Pg} {b j : Nat} (hj : j < (blockOf l b).length) (h : 0 ≤ (blockOf l b)[j].own) : putTo l b (j + 1) = put1 (putTo l b j) (blockOf l b)[j] := by
  unfold putTo
  rw [List.take_succ_eq_append_getElem hj, live_append, List.foldl_append]
  have : live [(blockOf l b)[j]] = [(blockOf l b)[j]] := by simp [live, h]
  rw [this]; rfl
theorem putTo_no {l : List Pg} {b j : Nat} (hj : j < (blockOf l b).length) (h : ¬ 0 ≤ (blockOf l b)[j].own) : putTo l b (j + 1) = putTo l b j := by
  unfold putTo
  rw [List.take_succ_eq_append_getElem hj, live_append, List.foldl_append]
  have : live [(blockOf l b)[j]] = [] := by simp [live, h]
  rw [this]; rfl
theorem putTo_all {l : List Pg} {b j : Nat} (hj : (blockOf l b).length ≤ j) : putTo l b j = collectP l b := by
  unfold putTo collectP; rw [List.take_of_length_le hj]
theorem putTo_length {l : List Pg} {b : Nat} (hb : 4 * b + 4 ≤ l.length) (j : Nat) : (putTo l b j).length = l.length := by
  unfold putTo; rw [foldl_put1_length, erased_length hb]
theorem erased_free {l : List Pg} {b : Nat} : 4 ≤ freeN (erased l b) := by
  have : freeN (erased l b) = freeN (l.take (4 * b)) + (4 + freeN (l.drop (4 * b + 4))) := by simp only [erased, freeN_append]; rfl
  omega
theorem putTo_free {l : List Pg} {b j : Nat} (hj : j < 4) : 0 < freeN (putTo l b j) := by
  have h1 := @erased_free l b
  have h2 : (live ((blockOf l b).take j)).length ≤ j := by
    have := List.length_filter_le (fun p : Pg => decide (0 ≤ p.own)) ((blockOf l b).take j)
    unfold live
    rw [List.length_take] at this
    omega
  have := (foldl_put1 (live ((blockOf l b).take j)) (erased l b) (by omega) (fun p hp => by simpa using (List.mem_filter.1 hp).2)).2.1
  unfold putTo
  omega
theorem block_get {l : List Pg} {b lo j : Nat} (hlo : lo = 4 * b) (hj : j < (blockOf l b).length) (h : lo + j < l.length) : (blockOf l b)[j] = l[lo + j] := by
  subst hlo; simp [blockOf]
end Go.Proofs.Ytnnanknljpkdeaa
