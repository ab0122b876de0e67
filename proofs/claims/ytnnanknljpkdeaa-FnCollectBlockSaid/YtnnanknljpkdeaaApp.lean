/-
  make and append over rows of records. Conditions: the bytes of the new slice are at most 2^47.
-/
import Derived.Test.YtnnanknljpkdeaaBase
import Derived.Test.YtnnanknljpkdeaaProg
import Derived.KernelRfl
import Derived.Maps.AppendAt
import Derived.OwnWalk
import Derived.Laws.MakeOwn
import Derived.Laws.OwnMore
import Derived.RegionTactic
namespace Go.Proofs.Ytnnanknljpkdeaa
open Go.RowKit
/-- Type t is 'slice of e', e lies as E says, z is its zero, of so many bytes. -/
def ElemOk {α : Type} (P : Program) (t e : TypeId) (E : Enc α) (z : Value) (bytes : Nat) : Prop :=
  P.underlying t = some (.slice e) ∧ ∃ i, P.info? e = some i ∧ i.zero = some z ∧ i.size = E.size ∧ i.bytes = bytes ∧ z.cells.size = E.size
theorem elem_ok {α : Type} {P : Program} {t e : TypeId} {E : Enc α} {z : Value} {bytes : Nat} (ht : P.underlying t = some (.slice e))
    (h : (P.info? e).map (fun i => (i.zero, i.size, i.bytes)) = some (some z, E.size, bytes)) (hz : z.cells.size = E.size) : ElemOk P t e E z bytes := by
  obtain ⟨i, hi, h1, h2, h3⟩ := info_parts h
  exact ⟨ht, i, hi, h1, h2, h3, hz⟩
section
variable {α : Type} {P : Program} {E : Enc α} {t e : TypeId} {z : Value} {bytes : Nat}
theorem run_append_row (he : ElemOk P t e E z bytes) (ty : TypeId) (w : World) {A : Option Addr} {c g : Nat} {l : List α} (hown : Row E w g e A c l)
    (B : Option Addr) (d : Nat) (m : List α) (hr : Rd E w B m) (h63 : l.length + m.length ≤ maxLen) (hbytes : (l.length + m.length) * bytes ≤ 140737488355328) :
    ∃ A' c' g' w', (Builtin.append_ #[t, t] ty #[.slice A l.length c, .slice B m.length d]).run P w = .ok (.slice A' (l ++ m).length c') w' ∧ Row E w' g' e A' c' (l ++ m) ∧ w.grownBy w' (some g) ∧ (g' = g ∨ w.heap.size ≤ g') := by
  obtain ⟨ht, i, hi, hz, hsize, hby, hzs⟩ := he
  rcases B with _ | ad
  · have hm : m = [] := by
      rcases Nat.eq_zero_or_pos m.length with h0 | h0
      · exact List.eq_nil_of_length_eq_zero h0
      · obtain ⟨_, _, h, _⟩ := hr h0
        cases h
    subst hm
    refine ⟨A, c, g, w, ?_, by simpa using hown, grownBy_refl _ _, .inl rfl⟩
    rcases hown with ⟨rfl, rfl, rfl⟩ | ⟨cur, rfl, hh, hlc, _⟩
    · simp [Builtin.append_, run_underlying ht, sizeOf, typeInfo, hi, Builtin.lenOf, Builtin.firstCells]
    · simp [Builtin.append_, run_underlying ht, sizeOf, typeInfo, hi, Builtin.lenOf, Builtin.firstCells, hlc, storeCells]
  · have ho := hown.owns (base := min g w.heap.size) (Nat.min_le_left _ _)
    obtain ⟨v', w', hrun, h2, h3, _, h5⟩ := run_append_own_at (P := P) w _ t ty e i z E.size bytes ht hi hz hsize hby hzs E.pos _ _ _ ho ad m.length d (m.flatMap E.cells) (flat_length E m) (rd_news hr ad rfl) (flat_one E m) h63 hbytes (Nat.min_le_right _ _)
    rw [← List.flatMap_append, show l.length + m.length = (l ++ m).length by simp] at h2
    obtain ⟨A', c', g', rfl, hg', hrow, hob⟩ := row_of_owns h2
    have hrg : w.grownBy w' (some g) := by
      rcases hown with ⟨rfl, rfl, rfl⟩ | ⟨cur, rfl, _⟩
      · exact ⟨h3.os, h3.tape, h3.output, h3.size, fun k hk _ => h3.block k hk (by simp [Value.ownBlock])⟩
      · exact h3
    rcases hrow with hn | hc
    · exact ⟨A', c', g, w', hrun, .inl hn, hrg, .inl rfl⟩
    · obtain ⟨cur, rfl, hcr⟩ := hc
      refine ⟨_, c', g', w', hrun, .inr ⟨cur, rfl, hcr⟩, hrg, ?_⟩
      rcases h5 with h5 | h5
      · rcases hown with ⟨rfl, rfl, rfl⟩ | ⟨cur', rfl, _⟩
        · simp [Value.ownBlock] at h5
        · simp [Value.ownBlock] at h5
          exact .inl h5
      · simp [Value.ownBlock] at h5
        exact .inr (by omega)
theorem wpList_append_row {ops : Array Oper} {rest : List Oper} {o : Oper} {a : Act} {w : World} {Q : Exit → Act → World → Prop} (hgd : o.guard = none) (s x : Operand)
    (ho : o.op = .call { callee := .builtin .append, args := #[s, x], argTypes := #[t, t] }) (he : ElemOk P t e E z bytes)
    {A : Option Addr} {c g : Nat} {l : List α} (hs : a.eval s = .slice A l.length c) (hown : Row E w g e A c l)
    (B : Option Addr) (d : Nat) (m : List α) (hx : a.eval x = .slice B m.length d) (hr : Rd E w B m) (h63 : l.length + m.length ≤ maxLen) (hbytes : (l.length + m.length) * bytes ≤ 140737488355328)
    (h : ∀ (A' : Option Addr) (c' g' : Nat) (w' : World) (l' : List α), Hid (l' = l ++ m) → l'.length ≤ l.length + m.length → l.length + m.length ≤ l'.length → Row E w' g' e A' c' l' → w.grownBy w' (some g) → (g' = g ∨ w.heap.size ≤ g') →
      wpList P ops Q rest (a.put o.dst (.slice A' l'.length c')) w') : wpList P ops Q (o :: rest) a w := by
  obtain ⟨A', c', g', w', hrun, h2, h3, h4⟩ := run_append_row he o.type w hown B d m hr h63 hbytes
  refine wpList_plain hgd fun K hK => ?_
  unfold Oper.wp execOp
  simp only [ho, resolve, invoke, builtin, Sem.run_bind, Sem.run_pure, Result.andThen_ok, List.map_toArray, List.map_cons, List.map_nil, hs, hx, hrun]
  exact hK _ _ (h A' c' g' w' (l ++ m) rfl (by simp) (by simp) h2 h3 h4)
theorem wpList_append_rowg {ops : Array Oper} {rest : List Oper} {o : Oper} {a : Act} {w : World} {Q : Exit → Act → World → Prop} (hgd : Region.wanted o (yielded ops a.tmps) = true) (s x : Operand)
    (ho : o.op = .call { callee := .builtin .append, args := #[s, x], argTypes := #[t, t] }) (he : ElemOk P t e E z bytes)
    {A : Option Addr} {c g : Nat} {l : List α} (hs : a.eval s = .slice A l.length c) (hown : Row E w g e A c l)
    (B : Option Addr) (d : Nat) (m : List α) (hx : a.eval x = .slice B m.length d) (hr : Rd E w B m) (h63 : l.length + m.length ≤ maxLen) (hbytes : (l.length + m.length) * bytes ≤ 140737488355328)
    (h : ∀ (A' : Option Addr) (c' g' : Nat) (w' : World) (l' : List α), Hid (l' = l ++ m) → l'.length ≤ l.length + m.length → l.length + m.length ≤ l'.length → Row E w' g' e A' c' l' → w.grownBy w' (some g) → (g' = g ∨ w.heap.size ≤ g') →
      wpList P ops Q rest (a.put o.dst (.slice A' l'.length c')) w') : wpList P ops Q (o :: rest) a w := by
  obtain ⟨A', c', g', w', hrun, h2, h3, h4⟩ := run_append_row he o.type w hown B d m hr h63 hbytes
  refine wpList_step fun K hK => ?_
  rw [if_pos hgd]
  unfold Oper.wp execOp
  simp only [ho, resolve, invoke, builtin, Sem.run_bind, Sem.run_pure, Result.andThen_ok, List.map_toArray, List.map_cons, List.map_nil, hs, hx, hrun]
  exact hK _ _ (h A' c' g' w' (l ++ m) rfl (by simp) (by simp) h2 h3 h4)
theorem step_append_row {ops : Array Oper} {o : Oper} {a : Act} {w : World} {K : Act → World → Prop} {Q : Exit → Act → World → Prop} {F : Prop} (hgd : o.guard = none) (s x : Operand)
    (ho : o.op = .call { callee := .builtin .append, args := #[s, x], argTypes := #[t, t] }) (he : ElemOk P t e E z bytes)
    {A : Option Addr} {c g : Nat} {l : List α} (hs : a.eval s = .slice A l.length c) (hown : Row E w g e A c l)
    (B : Option Addr) (d : Nat) (m : List α) (hx : a.eval x = .slice B m.length d) (hr : Rd E w B m) (h63 : l.length + m.length ≤ maxLen) (hbytes : (l.length + m.length) * bytes ≤ 140737488355328)
    (h : ∀ (A' : Option Addr) (c' g' : Nat) (w' : World) (l' : List α), Hid (l' = l ++ m) → l'.length ≤ l.length + m.length → l.length + m.length ≤ l'.length → Row E w' g' e A' c' l' → w.grownBy w' (some g) → (g' = g ∨ w.heap.size ≤ g') →
      K (a.put o.dst (.slice A' l'.length c')) w') : if Region.wanted o (yielded ops a.tmps) = true then Oper.wp P o a w K Q else F := by
  have hw : Region.wanted o (yielded ops a.tmps) = true := by simp [Region.wanted, hgd]
  rw [if_pos hw]
  obtain ⟨A', c', g', w', hrun, h2, h3, h4⟩ := run_append_row he o.type w hown B d m hr h63 hbytes
  unfold Oper.wp execOp
  simp only [ho, resolve, invoke, builtin, Sem.run_bind, Sem.run_pure, Result.andThen_ok, List.map_toArray, List.map_cons, List.map_nil, hs, hx, hrun]
  exact h A' c' g' w' (l ++ m) rfl (by simp) (by simp) h2 h3 h4
theorem step_append_at {ops : Array Oper} {o : Oper} {a : Act} {w : World} {K : Act → World → Prop} {Q : Exit → Act → World → Prop} {F : Prop} (hgd : o.guard = none) (s x : Operand)
    (ho : o.op = .call { callee := .builtin .append, args := #[s, x], argTypes := #[t, t] }) (he : ElemOk P t e E z bytes)
    {g c : Nat} (l : List α) (hs : a.eval s = .slice (some ⟨g, 0, none⟩) l.length c) (hown : Row E w g e (some ⟨g, 0, none⟩) c l)
    (B : Option Addr) (d : Nat) (m : List α) (hx : a.eval x = .slice B m.length d) (hr : Rd E w B m) (h63 : l.length + m.length ≤ maxLen) (hbytes : (l.length + m.length) * bytes ≤ 140737488355328)
    (h : ∀ (A' : Option Addr) (c' g' : Nat) (w' : World) (l' : List α), Hid (l' = l ++ m) → l'.length ≤ l.length + m.length → l.length + m.length ≤ l'.length → Row E w' g' e A' c' l' → w.grownBy w' (some g) → (g' = g ∨ w.heap.size ≤ g') →
      K (a.put o.dst (.slice A' l'.length c')) w') : if Region.wanted o (yielded ops a.tmps) = true then Oper.wp P o a w K Q else F :=
  step_append_row hgd s x ho he hs hown B d m hx hr h63 hbytes h
theorem run_make_el (he : ElemOk P t e E z bytes) (n : Nat) (hn : n * bytes ≤ 140737488355328) (hm : n ≤ 140737488355328) (w : World) :
    (Instr.makeSlice t (.int .i64 (n : Int)) (.int .i64 (n : Int))).run P w = .ok (.slice (some ⟨w.heap.size, 0, none⟩) n n) (w.alloc (.cells (madeCells z.cells (n * E.size)) e)) := by
  obtain ⟨ht, i, hi, hz, hsize, hby, hzs⟩ := he
  have hb : (i.bytes : Int) * (n : Int) ≤ 281474976710656 := by
    rw [hby]
    have h : ((bytes * n : Nat) : Int) ≤ 281474976710656 := by rw [Nat.mul_comm] at hn; omega
    rwa [Int.natCast_mul] at h
  have hr := run_make (P := P) w t e i z ht hi hz .i64 .i64 n n (by omega) (by omega) hb (by omega)
  simp only [Int.toNat_natCast] at hr
  rw [hsize] at hr
  exact hr
theorem made_row (w : World) (x : α) (hx : (E.cells x) = z.cells.toList) (n : Nat) (hm : n ≤ 140737488355328) :
    Row E (w.alloc (.cells (madeCells z.cells (n * E.size)) e)) w.heap.size e (some ⟨w.heap.size, 0, none⟩) n (List.replicate n x) := by
  have hzs : z.cells.size = E.size := by rw [← Array.length_toList, ← hx, E.len]
  refine Row.made w e _ _ n (size_madeCells _ _) (by simp) (by simp [maxLen]; omega) ?_
  apply flat_of_cells
  · simp [size_madeCells]
  · intro k hk j hj
    have hk' : k < n := by simpa using hk
    rw [List.getElem?_take_of_lt (idx_lt hk hj), Array.getElem?_toList]
    have hi : k * E.size + j < n * E.size := idx_lt hk' hj
    have hmod : (k * E.size + j) % z.cells.size = j := by rw [hzs, Nat.add_comm, Nat.add_mul_mod_self_right, Nat.mod_eq_of_lt hj]
    have hjz : j < z.cells.size := by omega
    simp only [madeCells, Array.getElem?_map, Array.getElem?_range, hi, if_true, Option.map_some, hmod, List.getElem_replicate, hx, Array.getElem?_toList]
    rw [getElem!_pos z.cells j hjz, Array.getElem?_eq_getElem hjz]
end
theorem el_int : ElemOk Try.prog 23 3 eInt (.int .i64 0) 8 := elem_ok Try.underlying23 (by kernel_rfl) rfl
end Go.Proofs.Ytnnanknljpkdeaa
