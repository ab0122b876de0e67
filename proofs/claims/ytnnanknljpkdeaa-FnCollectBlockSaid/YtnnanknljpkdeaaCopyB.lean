/-
  The builtin copy over rows of records. No condition.
-/
import Derived.Test.YtnnanknljpkdeaaBase
import Derived.Test.YtnnanknljpkdeaaNum
import Derived.Test.YtnnanknljpkdeaaApp
import Derived.Laws.CopyRow
import Derived.Laws.CopyOwn
namespace Go.Proofs.Ytnnanknljpkdeaa
open Go.RowKit
/-- m laid over l from place k on, as far as there is room -/
def overAt {α : Type} (l : List α) (k : Nat) (m : List α) : List α := l.take k ++ (m.take (l.length - k) ++ l.drop (k + m.length))
theorem overAt_length {α : Type} (l : List α) (k : Nat) (m : List α) (hk : k ≤ l.length) : (overAt l k m).length = l.length := by
  simp only [overAt, List.length_append, List.length_take, List.length_drop]; omega
theorem overAt_get {α : Type} (l : List α) (k : Nat) (m : List α) (hk : k ≤ l.length) (t : Nat) (ht : t < (overAt l k m).length) (ht' : t < l.length) : (overAt l k m)[t] = if h : k ≤ t ∧ t < k + m.length then m[t - k]'(by omega) else l[t] := by
  simp only [overAt] at ht ⊢
  by_cases h1 : t < k
  · rw [List.getElem_append_left (by simp; omega), dif_neg (by omega), List.getElem_take]
  · rw [List.getElem_append_right (by simp; omega)]
    have e1 : min k l.length = k := by omega
    simp only [List.length_take, e1]
    by_cases h2 : t < k + m.length
    · rw [List.getElem_append_left (by simp; omega), dif_pos (by omega), List.getElem_take]
    · rw [List.getElem_append_right (by simp; omega), dif_neg (by omega)]
      simp only [List.getElem_drop, List.length_take]
      congr 1
      omega
theorem overAt_nil {α : Type} (l : List α) (k : Nat) : overAt l k ([] : List α) = l := by simp [overAt]
theorem overAt_end {α : Type} (l : List α) (k : Nat) (m : List α) (hk : l.length ≤ k) : overAt l k m = l := by
  have h0 : l.length - k = 0 := by omega
  unfold overAt
  rw [h0, List.take_zero, List.nil_append, List.take_of_length_le hk, List.drop_eq_nil_of_le (by omega), List.append_nil]
section
variable {α : Type} {P : Program} {E : Enc α} {t e : TypeId} {z : Value} {bytes : Nat}
theorem run_copy_recs (he : ElemOk P t e E z bytes) (tt ty : TypeId) (w : World) {g c : Nat} {l : List α} {A : Option Addr} (hrow : Row E w g e A c l) (k dLen dCap : Nat) (hk : k ≤ l.length) (hdl : dLen = l.length - k) (D : Option Addr) (hD : k < l.length → D = some ⟨g, k * E.size, none⟩)
    (B : Option Addr) (d : Nat) (m : List α) (hr : Rd E w B m) :
    ∃ w', (Builtin.copy_ #[t, tt] ty #[.slice D dLen dCap, .slice B m.length d]).run P w = .ok (goInt (min m.length dLen : Nat)) w' ∧ Row E w' g e A c (overAt l k m) ∧ w.grownBy w' (some g) := by
  obtain ⟨ht, i, hi, hz, hsize, hby, hzs⟩ := he
  by_cases h0 : min m.length dLen = 0
  · refine ⟨w, ?_, ?_, grownBy_refl _ _⟩
    · rw [h0]
      have h0' : Nat.min m.length dLen = 0 := h0
      rcases B with _ | ad
      · rcases D with _ | dd <;> simp [Builtin.copy_, run_underlying ht, Builtin.lenOf, Builtin.firstCells, sizeOf, typeInfo, hi, h0', storeCells]
      · have hl := run_loadCells_list (P := P) w ad [] (by simp)
        simp only [List.length_nil] at hl
        rcases D with _ | dd <;> simp [Builtin.copy_, run_underlying ht, Builtin.lenOf, Builtin.firstCells, sizeOf, typeInfo, hi, h0', hl, storeCells]
    · have : overAt l k m = l := by
        rcases Nat.eq_zero_or_pos m.length with h1 | h1
        · rw [List.eq_nil_of_length_eq_zero h1]; exact overAt_nil l k
        · exact overAt_end l k m (by omega)
      rw [this]; exact hrow
  · have hkl : k < l.length := by omega
    have hD' := hD hkl
    subst hD'
    obtain ⟨b, off, rfl, _⟩ := hr (by omega)
    have hle := hrow.le
    obtain ⟨rfl, cur, hh, hs, hcm, hcc⟩ := hrow.cur (by omega)
    obtain ⟨n, hn⟩ : ∃ n, n = min m.length dLen := ⟨_, rfl⟩
    have hn' : Nat.min m.length dLen = n := hn.symm
    have hnm : n ≤ m.length := by omega
    have hcs : ((m.take n).flatMap E.cells).length = n * E.size := by rw [flat_length]; congr 1; simp; omega
    have hld := run_loadCells_list (P := P) w ⟨b, off, none⟩ ((m.take n).flatMap E.cells) (rd_news (hr.take n) _ rfl)
    have hfit : k * E.size + ((m.take n).flatMap E.cells).length ≤ cur.size := by
      rw [hcs, hs, ← Nat.add_mul]
      exact Nat.mul_le_mul_right _ (by omega)
    have hst := run_storeCells_at P g (k * E.size) e ((m.take n).flatMap E.cells) 0 cur w hh (by simpa using hfit) (flat_one E _)
    simp only [Nat.add_zero] at hst
    rw [hcs] at hld
    refine ⟨w.setRow g (cur.toList.take (k * E.size) ++ (m.take n).flatMap E.cells ++ cur.toList.drop (k * E.size + ((m.take n).flatMap E.cells).length)).toArray, ?_, ?_, ?_⟩
    · rw [← hn]
      simp [Builtin.copy_, run_underlying ht, Builtin.lenOf, Builtin.firstCells, sizeOf, typeInfo, hi, hsize, hn', hld, hst]
    · refine .inr ⟨_, rfl, setRow_heap w g cur _ e _ hh, ?_, hcm, ?_, ?_⟩
      · rw [overAt_length l k m hk]; exact hle
      · simp only [List.size_toArray, List.length_append, List.length_take, List.length_drop, Array.length_toList]
        rw [← hs]; omega
      · have hol := overAt_length l k m hk
        have hcl : l.length * E.size ≤ cur.size := by rw [hs]; exact Nat.mul_le_mul_right _ hle
        apply flat_of_cells
        · simp only [List.length_take, List.length_append, List.length_drop, Array.length_toList, hol]
          omega
        · intro i hi j hj
          have hil : i < l.length := by omega
          rw [List.getElem?_take_of_lt (by rw [hol]; exact idx_lt hil hj)]
          have hlt : i * E.size + j < l.length * E.size := idx_lt hil hj
          have hks : k * E.size ≤ cur.size := by omega
          by_cases h1 : i < k
          · have h2 : i * E.size + j < k * E.size := idx_lt h1 hj
            rw [List.append_assoc, List.getElem?_append_left (by simp; omega), List.getElem?_take_of_lt h2, Array.getElem?_toList, hcc i hil j hj]
            congr 2
            rw [overAt_get l k m hk i hi hil, dif_neg (by omega)]
          · have h2 : k * E.size ≤ i * E.size + j := by have := Nat.mul_le_mul_right E.size (show k ≤ i by omega); omega
            have e0 : min (k * E.size) cur.toList.length = k * E.size := by simp; omega
            rw [List.append_assoc, List.getElem?_append_right (by simp; omega)]
            simp only [List.length_take, e0]
            have e1 : i * E.size + j - k * E.size = (i - k) * E.size + j := by rw [Nat.sub_mul]; have := Nat.mul_le_mul_right E.size (show k ≤ i by omega); omega
            rw [e1]
            by_cases h3 : i - k < n
            · have h4 : (i - k) * E.size + j < n * E.size := idx_lt h3 hj
              rw [List.getElem?_append_left (by rw [hcs]; exact h4), flat_get E (m.take n) (i - k) (by simp; omega) j hj]
              congr 2
              rw [overAt_get l k m hk i hi hil, dif_pos (by omega), List.getElem_take]
            · have h4 : n * E.size ≤ (i - k) * E.size + j := by have := Nat.mul_le_mul_right E.size (show n ≤ i - k by omega); omega
              rw [List.getElem?_append_right (by rw [hcs]; exact h4), List.getElem?_drop, hcs, Array.getElem?_toList]
              have e2 : k * E.size + n * E.size + ((i - k) * E.size + j - n * E.size) = i * E.size + j := by omega
              rw [e2, hcc i hil j hj]
              congr 2
              rw [overAt_get l k m hk i hi hil, dif_neg (by omega)]
    · exact ⟨rfl, rfl, rfl, by simp [World.setRow], fun q _ hne => setRow_other w g q _ (fun h => hne (by rw [h]))⟩
theorem wpList_copy_recs {ops : Array Oper} {rest : List Oper} {o : Oper} {a : Act} {w : World} {Q : Exit → Act → World → Prop} {tt : TypeId} (hgd : o.guard = none) (s x : Operand)
    (ho : o.op = .call { callee := .builtin .copy, args := #[s, x], argTypes := #[t, tt] }) (he : ElemOk P t e E z bytes) {g c : Nat} {l : List α} {A : Option Addr} (hrow : Row E w g e A c l) (k dLen dCap : Nat) (hk : k ≤ l.length) (hdl : dLen = l.length - k) (D : Option Addr) (hD : k < l.length → D = some ⟨g, k * E.size, none⟩)
    (hs : a.eval s = .slice D dLen dCap) (B : Option Addr) (d : Nat) (m : List α) (hx : a.eval x = .slice B m.length d) (hr : Rd E w B m)
    (h : ∀ (w' : World), Hid (Row E w' g e A c (overAt l k m)) → w.grownBy w' (some g) → wpList P ops Q rest (a.put o.dst (goInt (min m.length dLen : Nat))) w') : wpList P ops Q (o :: rest) a w := by
  obtain ⟨w', hrun, h2, h3⟩ := run_copy_recs he tt o.type w hrow k dLen dCap hk hdl D hD B d m hr
  refine wpList_plain hgd fun K hK => ?_
  unfold Oper.wp execOp
  simp only [ho, resolve, invoke, builtin, Sem.run_bind, Sem.run_pure, Result.andThen_ok, List.map_toArray, List.map_cons, List.map_nil, hs, hx, hrun]
  exact hK _ _ (h w' h2 h3)
theorem step_copy_recs {ops : Array Oper} {o : Oper} {a : Act} {w : World} {K : Act → World → Prop} {Q : Exit → Act → World → Prop} {F : Prop} {tt : TypeId} (hgd : o.guard = none) (s x : Operand)
    (ho : o.op = .call { callee := .builtin .copy, args := #[s, x], argTypes := #[t, tt] }) (he : ElemOk P t e E z bytes) {g c : Nat} {l : List α} {A : Option Addr} (hrow : Row E w g e A c l) (k dLen dCap : Nat) (hk : k ≤ l.length) (hdl : dLen = l.length - k) (D : Option Addr) (hD : k < l.length → D = some ⟨g, k * E.size, none⟩)
    (hs : a.eval s = .slice D dLen dCap) (B : Option Addr) (n d : Nat) (m : List α) (hn : m.length = n) (hx : a.eval x = .slice B n d) (hr : Rd E w B m)
    (h : ∀ (w' : World) (q : Nat), Hid (q = min n dLen) → q ≤ n → q ≤ dLen → (n ≤ q ∨ dLen ≤ q) → Hid (Row E w' g e A c (overAt l k m)) → w.grownBy w' (some g) → K (a.put o.dst (.int .i64 (q : Int))) w') : if Region.wanted o (yielded ops a.tmps) = true then Oper.wp P o a w K Q else F := by
  subst hn
  have hw : Region.wanted o (yielded ops a.tmps) = true := by simp [Region.wanted, hgd]
  rw [if_pos hw]
  obtain ⟨w', hrun, h2, h3⟩ := run_copy_recs he tt o.type w hrow k dLen dCap hk hdl D hD B d m hr
  unfold Oper.wp execOp
  simp only [ho, resolve, invoke, builtin, Sem.run_bind, Sem.run_pure, Result.andThen_ok, List.map_toArray, List.map_cons, List.map_nil, hs, hx, hrun]
  exact h w' _ (Lib.hid rfl) (by omega) (by omega) (by omega) h2 h3
end
end Go.Proofs.Ytnnanknljpkdeaa
