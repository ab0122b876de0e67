/-
  Lists of spare sectors: the contracts in one form. Conditions: lengths at most 2^40.
-/
import Derived.Test.YtekpahddcnbnfaaBase
import Derived.Test.YtekpahddcnbnfaaNum
import Derived.Test.YtekpahddcnbnfaaInts
import Derived.Test.YtekpahddcnbnfaaApp
import Derived.Test.YtekpahddcnbnfaaIntsW
import Derived.Test.YtekpahddcnbnfaaLib
import Derived.Test.YtekpahddcnbnfaaSpares
import Derived.Test.YtekpahddcnbnfaaHome
import Derived.Test.YtekpahddcnbnfaaMark
import Derived.Test.YtekpahddcnbnfaaMarkS
import Derived.Test.YtekpahddcnbnfaaMarkA
import Derived.Test.YtekpahddcnbnfaaOwn
namespace Go.Proofs.Ytekpahddcnbnfaa
open Go.RowKit
def SparesRd (w : World) (xs : List Value) (s : Sp) : Prop := ∃ v, xs = [.int .i64 s.sec, .int .i64 s.cnt, v] ∧ SRd eInt w v s.bad
def SparesOwn (B : Nat) (w : World) (C : Nat) (xs : List Value) (s : Sp) : Prop := ∃ v, xs = [.int .i64 s.sec, .int .i64 s.cnt, v] ∧ SOwn eInt 3 B w C v s.bad
def sizeSpares (s : Sp) : Nat := s.bad.length
def cntSpares (s : Sp) : Nat := s.bad.length
theorem cntSpares_le (s : Sp) : cntSpares s ≤ 3 * sizeSpares s := by unfold cntSpares sizeSpares; omega
def markedSpares (s : Sp) (k : Int) : Sp := ⟨s.sec, s.cnt, marks s.bad.length k⟩
section
variable {w w' : World} {xs : List Value} {s : Sp} {B C : Nat}
theorem SparesRd.below (h : SparesRd w xs s) (hb : Below w.heap.size w w') : SparesRd w' xs s := by
  obtain ⟨v, h1, h2⟩ := h
  exact ⟨v, h1, h2.below hb⟩
theorem SparesRd.gin {w0 : World} (h : SparesRd w xs s) (h0 : SparesRd w0 xs s) (hg : GIn B C w w') (hB : w0.heap.size ≤ B) : SparesRd w' xs s := by
  obtain ⟨v, h1, h2⟩ := h
  obtain ⟨v', h1', h2'⟩ := h0
  rw [h1] at h1'
  simp only [List.cons.injEq, true_and, and_true] at h1'
  subst h1'
  exact ⟨v, h1, h2.gin h2' hg hB⟩
theorem SparesOwn.rd (h : SparesOwn B w C xs s) : SparesRd w xs s := by
  obtain ⟨v, h1, h2⟩ := h
  exact ⟨v, h1, h2.rd⟩
theorem SparesOwn.one (h : SparesOwn B w C xs s) : ∀ v ∈ xs, v.oneCell' = true := by
  obtain ⟨v, rfl, A, c, g, rfl, _⟩ := h
  simp [Value.oneCell']
theorem SparesOwn.below (h : SparesOwn B w C xs s) (hb : Below w.heap.size w w') : SparesOwn B w' C xs s := by
  obtain ⟨v, h1, h2⟩ := h
  exact ⟨v, h1, h2.below hb⟩
theorem SparesOwn.gin {B' C' : Nat} (h : SparesOwn B w C xs s) (hg : GIn B' C' w w') (hd : C ≤ B' ∨ C' ≤ B) : SparesOwn B w' C xs s := by
  obtain ⟨v, h1, h2⟩ := h
  exact ⟨v, h1, h2.gin hg hd⟩
end
def MadeSpares (s : Sp) (w : World) (en : Ending) (w' : World) : Prop := ∃ y0 y1 y2, en = .returned (.agg #[y0, y1, y2]) ∧ SparesOwn w.heap.size w' w'.heap.size [y0, y1, y2] s ∧ Below w.heap.size w w'
def MadeSparesB (s : Sp) (ok : Bool) (w : World) (en : Ending) (w' : World) : Prop := ∃ y0 y1 y2, en = .returned (.tuple #[.agg #[y0, y1, y2], .bool ok]) ∧ SparesOwn w.heap.size w' w'.heap.size [y0, y1, y2] s ∧ Below w.heap.size w w'
theorem szSpares_bigc (x0 x1 x2 : Value) (t : Sp) (k : Int) (w : World) (h : SparesRd w [x0, x1, x2] t) (hk : 0 ≤ k ∧ k ≤ 1048576) (hs : k < sizeSpares t) :
    Calls Try.prog 10 #[.agg #[x0, x1, x2], .int .i64 k] w fun e w' => e = .returned (.int .i64 (-1)) ∧ Below w.heap.size w w' := by
  obtain ⟨v, h1, A, c, rfl, hr, hc, hm, hn⟩ := h
  simp only [List.cons.injEq, and_true] at h1
  obtain ⟨rfl, rfl, rfl⟩ := h1
  unfold maxLen at hm
  exact szSpares_big A t.bad.length c k _ _ w (by omega) hk.1 hk.2 hs
theorem szSpares_okc (x0 x1 x2 : Value) (t : Sp) (k : Int) (w : World) (h : SparesRd w [x0, x1, x2] t) (hk : 0 ≤ k ∧ k ≤ 1048576) (hs : (sizeSpares t : Int) ≤ k) :
    Calls Try.prog 10 #[.agg #[x0, x1, x2], .int .i64 k] w fun e w' => e = .returned (.int .i64 (k - sizeSpares t)) ∧ Below w.heap.size w w' := by
  obtain ⟨v, h1, A, c, rfl, hr, hc, hm, hn⟩ := h
  simp only [List.cons.injEq, and_true] at h1
  obtain ⟨rfl, rfl, rfl⟩ := h1
  exact szSpares_ok A t.bad.length c k _ _ w hk.1 hk.2 hs
theorem toSpares_c (x0 x1 x2 : Value) (t : Sp) (w : World) (h : SparesRd w [x0, x1, x2] t) (hs : sizeSpares t ≤ 1099511627776) :
    Calls Try.prog 12 #[.agg #[x0, x1, x2]] w (MadeSpares t w) := by
  obtain ⟨v, h1, A, c, rfl, hr, hc, hm, hn⟩ := h
  simp only [List.cons.injEq, and_true] at h1
  obtain ⟨rfl, rfl, rfl⟩ := h1
  refine (toSpares_s t A c w hr hs).mono ?_
  rintro en w' ⟨A', c', g, rfl, hg, hgl, hrow, hb⟩
  exact ⟨_, _, _, rfl, ⟨_, rfl, SOwn.of_fresh hrow hg⟩, hb⟩
theorem eqSpares_c (x0 x1 x2 y0 y1 y2 : Value) (s t : Sp) (w : World) (h : SparesRd w [x0, x1, x2] s) (k : SparesRd w [y0, y1, y2] t) (hs : sizeSpares s ≤ 1099511627776) (ht : sizeSpares t ≤ 1099511627776) :
    Calls Try.prog 14 #[.agg #[x0, x1, x2], .agg #[y0, y1, y2]] w fun e w' => e = .returned (.bool (decide (s = t))) ∧ Below w.heap.size w w' := by
  obtain ⟨v, h1, A, c, rfl, hr, hc, hm, hn⟩ := h
  simp only [List.cons.injEq, and_true] at h1
  obtain ⟨rfl, rfl, rfl⟩ := h1
  obtain ⟨v, h1, A', c', rfl, hr', _⟩ := k
  simp only [List.cons.injEq, and_true] at h1
  obtain ⟨rfl, rfl, rfl⟩ := h1
  exact eqSpares_any s t A A' c c' w hr hr' hs ht
theorem markSpares_c (x0 x1 x2 : Value) (t : Sp) (k : Int) (B C : Nat) (w : World) (h : SparesOwn B w C [x0, x1, x2] t) (_ : C ≤ w.heap.size) (hs : sizeSpares t ≤ 34359738368) (hk0 : 0 ≤ k) (hk : k ≤ 1048576) :
    Calls Try.prog 22 #[.agg #[x0, x1, x2], .int .i64 k] w fun e w' => e = .returned (.int .i64 (k + cntSpares t)) ∧ SparesOwn B w' C [x0, x1, x2] (markedSpares t k) ∧ GIn B C w w' := by
  obtain ⟨v, h1, h⟩ := h
  simp only [List.cons.injEq, and_true] at h1
  obtain ⟨rfl, rfl, rfl⟩ := h1
  obtain ⟨sec, cnt, bad⟩ := t
  have h' := Lib.hid (SOwn.alloc h (.cells #[.int .i64 sec, .int .i64 cnt, x2] 27))
  go_enter Try.func22, Try.ntmps22
  go_wp2_with fail
  refine (markIntS_v x2 bad k B C _ h'.out (Nat.le_trans hs (by omega)) hk0 (by omega)).mono ?_
  rintro e w1 ⟨rfl, h1, h2, _⟩
  go_wp2
  go_ret
  exact ⟨rfl, ⟨_, rfl, h1⟩, GIn.trans (GIn.of_below ((Below.refl _ _).alloc (Nat.le_refl _) _)) h2⟩
theorem heldSpares_c (x0 x1 x2 : Value) (t : Sp) (k : Int) (w : World) (h : SparesRd w [x0, x1, x2] (markedSpares t k)) (hs : sizeSpares t ≤ 34359738368) (hk0 : 0 ≤ k) (hk : k ≤ 1048576) :
    Calls Try.prog 23 #[.agg #[x0, x1, x2], .int .i64 k] w fun e w' => e = .returned (.int .i64 (k + cntSpares t)) ∧ Below w.heap.size w w' := by
  obtain ⟨v, h1, A, c, rfl, hr, hc, hm, hn⟩ := h
  simp only [List.cons.injEq, and_true] at h1
  obtain ⟨rfl, rfl, rfl⟩ := h1
  simp only [markedSpares, marks_length]
  exact heldSpares_any _ _ A c t.bad.length k w hr (Nat.le_trans hs (by omega)) hk0 (by omega)
theorem markB_size (s : Sp) (a : Int) : sizeSpares (markB s a) ≤ sizeSpares s + 1 := by
  unfold sizeSpares markB; split
  · split <;> simp
  · simp
theorem implMark_c (x0 x1 x2 : Value) (t : Sp) (a : Int) (w : World) (h : SparesRd w [x0, x1, x2] t) (hs : sizeSpares t ≤ 1099511627776) :
    Calls Try.prog 21 #[.agg #[x0, x1, x2], .int .i64 a] w (MadeSparesB (markB t a) (markOk t a) w) := by
  obtain ⟨v, h1, A, c, rfl, hr, hc, hm, hn⟩ := h
  simp only [List.cons.injEq, and_true] at h1
  obtain ⟨rfl, rfl, rfl⟩ := h1
  refine (implMark_any t A c a w hr hc hs hn).mono ?_
  rintro en w' ⟨A', c', g, rfl, hg, hrow, hb⟩
  exact ⟨_, _, _, rfl, ⟨_, rfl, SOwn.of_fresh hrow hg⟩, hb⟩
theorem specMark_c (x0 x1 x2 : Value) (t : Sp) (a : Int) (w : World) (h : SparesRd w [x0, x1, x2] t) (hs : sizeSpares t ≤ 1099511627776) :
    Calls Try.prog 20 #[.agg #[x0, x1, x2], .int .i64 a] w (MadeSparesB (markB t a) (markOk t a) w) := by
  obtain ⟨v, h1, A, c, rfl, hr, hc, hm, hn⟩ := h
  simp only [List.cons.injEq, and_true] at h1
  obtain ⟨rfl, rfl, rfl⟩ := h1
  refine (specMark_any t A c a w hr hs).mono ?_
  rintro en w' ⟨A', c', g, rfl, hg, hrow, hb⟩
  exact ⟨_, _, _, rfl, ⟨_, rfl, SOwn.of_fresh hrow hg⟩, hb⟩
end Go.Proofs.Ytekpahddcnbnfaa
