/-
  From a law's arguments, read as data, to lists of records; and the row's last step. No condition.
-/
import Derived.Test.YtnnanknljpkdeaaBase
import Derived.Test.YtnnanknljpkdeaaRows
import Derived.ProofKit
import Derived.OpenShut
import Derived.ChangeOld
import Derived.Carry
import Derived.Deep.Slices
import Derived.Deep.Fields
import Derived.Lib.SmallJoins
import Derived.ChangeSame
namespace Go.Proofs.Ytnnanknljpkdeaa
open Go.RowKit Go.ChangeShapes Go.WideShapes Go.ChangeAt Go.Deep Go.Joins
theorem own_knob : ownKnob Try.prog.godebug = none := by kernel_rfl
theorem laid_out : laidOutB Try.prog = true := by kernel_rfl
theorem choose_list {α : Type} {n : Nat} {p : Nat → α → Prop} (h : ∀ i, i < n → ∃ x, p i x) : ∃ l : List α, l.length = n ∧ ∀ i (hi : i < l.length), p i (l[i]'hi) := by
  induction n with
  | zero => exact ⟨[], rfl, fun i hi => absurd hi (by simp)⟩
  | succ n ih =>
    obtain ⟨l, hl, hp⟩ := ih (fun i hi => h i (by omega))
    obtain ⟨x, hx⟩ := h n (by omega)
    refine ⟨l ++ [x], by simp [hl], fun i hi => ?_⟩
    by_cases hin : i < l.length
    · rw [List.getElem_append_left hin]; exact hp i hin
    · have : i = n := by simp at hi; omega
      subst this
      simpa [← hl] using hx
section
variable {H : Type} {enc : TypeId × Value → H} {P : Program} {w : World} {base : Nat} {spare : Nat → Bool} {held : Bool}
theorem open_slice_rd {α : Type} (E : Enc α) {t e : TypeId} {v : Value} {fuel : Nat} {x : DataW H × List MemPlace} (ht : P.underlying t = some (.slice e)) (hC : P.cellsOf e = E.size)
    (hdec : ∀ (n : Nat) (cs : List Value) (y : DataW H × List MemPlace), DataW.trod enc P w base spare held n e cs = some y → ∃ z, cs = E.cells z)
    (h : DataW.trod enc P w base spare held fuel t [v] = some x) : ∃ A c l, v = .slice A l.length c ∧ l.length ≤ c ∧ c ≤ maxLen ∧ Rd E w A l ∧ (A = none → c = 0) := by
  rcases open_slice ht h with ⟨h0, _⟩ | ⟨a, len, cap, m, n, D, Pl, hcs, _, hl, hm, hmm, _, hi⟩
  · simp only [List.cons.injEq, and_true] at h0
    subst h0
    exact ⟨none, 0, [], rfl, by simp, by simp [maxLen], Rd.nil _ _, fun _ => rfl⟩
  · simp only [List.cons.injEq, and_true] at hcs
    subst hcs
    have hlm : len ≤ m := by rw [hmm]; split <;> omega
    obtain ⟨l, hll, hp⟩ := choose_list (α := α) (n := len) (p := fun i z => ∀ j, j < E.size → w.cell? (a.add (i * E.size + j)) = (E.cells z)[j]?) (by
      intro i hin
      obtain ⟨cs', hc, ht'⟩ := hi i (by omega)
      obtain ⟨z, rfl⟩ := hdec _ _ _ ht'
      rw [hC] at hc
      obtain ⟨_, _, hat⟩ := World.cells?_some hc
      exact ⟨z, fun j hj => by rw [← Go.Deep.add_add]; exact hat j hj⟩)
    refine ⟨some a, cap, l, by rw [hll], by omega, hm, fun hpos => ?_, fun h => by cases h⟩
    obtain ⟨b, off, spot⟩ := a
    have h0 := hp 0 hpos 0 E.pos
    have hs : 0 < (E.cells (l[0]'hpos)).length := by rw [E.len]; exact E.pos
    rw [List.getElem?_eq_getElem hs] at h0
    have hspot : spot = none := by simpa [Addr.add] using World.cell?_spot h0
    subst hspot
    refine ⟨b, off, rfl, fun k hk j hj => ?_⟩
    rw [← hp k hk j hj]
    congr 1
    unfold Addr.add
    split
    · simp
    · simp [Nat.add_assoc]
theorem dec_int {k : IntKind} {e : TypeId} (he : P.underlying e = some (.int k)) {n : Nat} {cs : List Value} {y : DataW H × List MemPlace} (h : DataW.trod enc P w base spare held n e cs = some y) : ∃ z, cs = [.int k z] ∧ (Lit.int k z).wf = true := by
  obtain ⟨a, e0, _, wa⟩ := DataW.trod_int he h
  exact ⟨a, e0, wa⟩
theorem dec_bool {e : TypeId} (he : P.underlying e = some .bool) {n : Nat} {cs : List Value} {y : DataW H × List MemPlace} (h : DataW.trod enc P w base spare held n e cs = some y) : ∃ z, cs = [.bool z] := by
  obtain ⟨a, e0, _⟩ := DataW.trod_bool he h
  exact ⟨a, e0⟩
theorem wf_i64 {a : Int} (h : (Lit.int .i64 a).wf = true) : -9223372036854775808 ≤ a ∧ a ≤ 9223372036854775807 := by
  simpa [Lit.wf, IntKind.min, IntKind.max, IntKind.signed, IntKind.bits] using h
theorem wf_u8 {a : Int} (h : (Lit.int .u8 a).wf = true) : 0 ≤ a ∧ a ≤ 255 := by
  simpa [Lit.wf, IntKind.min, IntKind.max, IntKind.signed, IntKind.bits] using h
theorem open_bytes {t e : TypeId} {v : Value} {d : DataW H} {p : List MemPlace} (ht : P.underlying t = some (.slice e)) (he : P.underlying e = some (.int .u8)) (hC : P.cellsOf e = 1)
    (hv : Value.okWide P w .any 0 t v) (h : DataW.Trod enc P w base spare held t v d p) : ∃ A c l, v = .slice A l.length c ∧ l.length ≤ c ∧ c ≤ maxLen ∧ Rd eByte w A l ∧ ∀ x ∈ l, 0 ≤ x ∧ x ≤ 255 := by
  obtain ⟨fuel, hf⟩ := h
  obtain ⟨a0, len0, cap0, rfl⟩ := okWide_slice ht hv
  simp only [Value.cells] at hf
  rcases open_slice ht hf with ⟨h0, _⟩ | ⟨a, len, cap, m, n, D, Pl, hcs, _, hl, hm, hmm, _, hi⟩
  · simp only [List.cons.injEq, and_true] at h0
    rw [h0]
    exact ⟨none, 0, [], rfl, by simp, by simp [maxLen], Rd.nil _ _, by simp⟩
  · simp only [List.cons.injEq, and_true] at hcs
    rw [hcs]
    have hlm : len ≤ m := by rw [hmm]; split <;> omega
    obtain ⟨l, hll, hp⟩ := choose_list (α := Int) (n := len) (p := fun i z => w.cell? (a.add i) = some (.int .u8 z) ∧ 0 ≤ z ∧ z ≤ 255) (by
      intro i hin
      obtain ⟨cs', hc, ht'⟩ := hi i (by omega)
      obtain ⟨z, rfl, wz⟩ := dec_int he ht'
      rw [hC] at hc
      obtain ⟨_, _, hat⟩ := World.cells?_some hc
      have := hat 0 (by omega)
      rw [Go.Deep.add_add] at this
      exact ⟨z, by simpa using this, wf_u8 wz⟩)
    refine ⟨some a, cap, l, by rw [hll], by omega, hm, fun hpos => ?_, fun x hx => ?_⟩
    · obtain ⟨b, off, spot⟩ := a
      have h0 := (hp 0 hpos).1
      have hspot : spot = none := by simpa [Addr.add] using World.cell?_spot h0
      subst hspot
      refine ⟨b, off, rfl, fun k hk j hj => ?_⟩
      have hj0 : j = 0 := by simp [eByte] at hj; exact hj
      subst hj0
      have := (hp k hk).1
      simp only [eByte, Nat.mul_one, Nat.add_zero]
      simp only [List.getElem?_cons_zero]
      rw [← this]
      congr 1
      unfold Addr.add
      split
      · simp
      · rfl
    · obtain ⟨i, hi, rfl⟩ := List.getElem_of_mem hx
      exact (hp i hi).2
end
section
variable {H : Type} {enc : TypeId × Value → H} {P : Program} {w : World} {base : Nat} {spare : Nat → Bool} {held : Bool}
theorem open_recs {α : Type} (E : Enc α) {t e : TypeId} {v : Value} {d : DataW H} {p : List MemPlace} (ht : P.underlying t = some (.slice e)) (hC : P.cellsOf e = E.size)
    (hdec : ∀ (n : Nat) (cs : List Value) (y : DataW H × List MemPlace), DataW.trod enc P w base spare held n e cs = some y → ∃ z, cs = E.cells z)
    (hv : Value.okWide P w .any 0 t v) (h : DataW.Trod enc P w base spare held t v d p) : ∃ A c l, v = .slice A l.length c ∧ l.length ≤ c ∧ c ≤ maxLen ∧ Rd E w A l ∧ (A = none → c = 0) := by
  obtain ⟨fuel, hf⟩ := h
  obtain ⟨a0, len0, cap0, rfl⟩ := okWide_slice ht hv
  simp only [Value.cells] at hf
  exact open_slice_rd E ht hC hdec hf
theorem dec_struct2 {e : TypeId} {f0 f1 : Field} (he : P.underlying e = some (.struct #[f0, f1])) (hone : oneCellFields P #[f0, f1] = true) (hC : P.cellsOf e = 2) {n : Nat} {cs : List Value} {y : DataW H × List MemPlace}
    (h : DataW.trod enc P w base spare held n e cs = some y) : ∃ v0 v1 m y0 y1, cs = [v0, v1] ∧ DataW.trod enc P w base spare held m f0.type [v0] = some y0 ∧ DataW.trod enc P w base spare held m f1.type [v1] = some y1 := by
  obtain ⟨y0, y1, m, _, hl, h0, h1⟩ := trod_struct2 he h
  rw [hC] at hl
  match cs, hl with
  | [v0, v1], _ =>
    obtain ⟨o0, k0⟩ := hone_of hone 0 f0 rfl
    obtain ⟨o1, k1⟩ := hone_of hone 1 f1 rfl
    exact ⟨v0, v1, m, y0, y1, rfl, by simpa [o0, k0] using h0, by simpa [o1, k1] using h1⟩
theorem dec_struct3 {e : TypeId} {f0 f1 f2 : Field} (he : P.underlying e = some (.struct #[f0, f1, f2])) (hone : oneCellFields P #[f0, f1, f2] = true) (hC : P.cellsOf e = 3) {n : Nat} {cs : List Value} {y : DataW H × List MemPlace}
    (h : DataW.trod enc P w base spare held n e cs = some y) : ∃ v0 v1 v2 m y0 y1 y2, cs = [v0, v1, v2] ∧ DataW.trod enc P w base spare held m f0.type [v0] = some y0 ∧ DataW.trod enc P w base spare held m f1.type [v1] = some y1 ∧ DataW.trod enc P w base spare held m f2.type [v2] = some y2 := by
  obtain ⟨y0, y1, y2, m, _, hl, h0, h1, h2⟩ := trod_struct3 he h
  rw [hC] at hl
  match cs, hl with
  | [v0, v1, v2], _ =>
    obtain ⟨o0, k0⟩ := hone_of hone 0 f0 rfl
    obtain ⟨o1, k1⟩ := hone_of hone 1 f1 rfl
    obtain ⟨o2, k2⟩ := hone_of hone 2 f2 rfl
    exact ⟨v0, v1, v2, m, y0, y1, y2, rfl, by simpa [o0, k0] using h0, by simpa [o1, k1] using h1, by simpa [o2, k2] using h2⟩
theorem one_int {e : TypeId} (he : P.underlying e = some (.int .i64)) {n : Nat} {v : Value} {y : DataW H × List MemPlace} (h : DataW.trod enc P w base spare held n e [v] = some y) : ∃ a : Int, v = .int .i64 a := by
  obtain ⟨a, ea, _⟩ := dec_int he h
  simp only [List.cons.injEq, and_true] at ea
  exact ⟨a, ea⟩
theorem one_bool {e : TypeId} (he : P.underlying e = some .bool) {n : Nat} {v : Value} {y : DataW H × List MemPlace} (h : DataW.trod enc P w base spare held n e [v] = some y) : ∃ a : Bool, v = .bool a := by
  obtain ⟨a, ea⟩ := dec_bool he h
  simp only [List.cons.injEq, and_true] at ea
  exact ⟨a, ea⟩
end
end Go.Proofs.Ytnnanknljpkdeaa
