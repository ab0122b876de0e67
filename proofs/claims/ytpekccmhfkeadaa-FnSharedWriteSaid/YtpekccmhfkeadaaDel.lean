/-
  slices.Delete of one record of a slice of ours. Conditions: lengths at most 2^40.
-/
import Derived.Test.YtpekccmhfkeadaaBase
import Derived.Test.YtpekccmhfkeadaaNum
import Derived.Test.YtpekccmhfkeadaaInts
import Derived.Test.YtpekccmhfkeadaaApp
import Derived.Test.YtpekccmhfkeadaaIntsW
import Derived.Test.YtpekccmhfkeadaaLib
import Derived.Test.YtpekccmhfkeadaaSpares
import Derived.Test.YtpekccmhfkeadaaOwn
import Derived.Test.YtpekccmhfkeadaaCopy
import Derived.Laws.CopyRow
import Derived.Laws.AppendOwn
namespace Go.Proofs.Ytpekccmhfkeadaa
open Go.RowKit
section
variable {α : Type} {P : Program} {E : Enc α} {t e : TypeId} {z : Value} {bytes : Nat}
theorem Rd.dropO {w : World} {l : List α} {b off : Nat} (h : Rd E w (some ⟨b, off, none⟩) l) (n : Nat) : Rd E w (some ⟨b, off + n * E.size, none⟩) (l.drop n) := by
  intro hl
  obtain ⟨b', off', he, hc⟩ := h (by simp at hl; omega)
  cases he
  refine ⟨b, off + n * E.size, rfl, fun k hk j hj => ?_⟩
  have hk' : n + k < l.length := by simp at hk; omega
  have := hc (n + k) hk' j hj
  rw [List.getElem_drop, ← this]
  congr 2
  rw [Nat.add_mul]; omega
theorem run_append_rowroom (he : ElemOk P t e E z bytes) (ty : TypeId) (w : World) {c g : Nat} {l : List α} (hown : Row E w g e (some ⟨g, 0, none⟩) c l)
    (ad : Addr) (d : Nat) (m : List α) (hr : Rd E w (some ad) m) (hroom : l.length + m.length ≤ c) :
    ∃ w', (Builtin.append_ #[t, t] ty #[.slice (some ⟨g, 0, none⟩) l.length c, .slice (some ad) m.length d]).run P w = .ok (.slice (some ⟨g, 0, none⟩) (l.length + m.length) c) w' ∧ Row E w' g e (some ⟨g, 0, none⟩) c (l ++ m) ∧ w.grownBy w' (some g) := by
  obtain ⟨ht, i, hi, hz, hsize, hby, hzs⟩ := he
  rcases hown with ⟨h, _⟩ | ⟨cur, _, hh, hlc, hcm, hcs, htake⟩
  · cases h
  have hfit : l.length * i.size + (m.flatMap E.cells).length ≤ cur.size := by
    rw [hsize, flat_length, hcs, ← Nat.add_mul]; exact Nat.mul_le_mul_right _ hroom
  have hrun := run_append_room (P := P) (w := w) t ty e i ht hi g l.length c cur hh ad m.length d (m.flatMap E.cells) (by rw [hsize, flat_length]) (rd_news hr ad rfl) (flat_one E m) hroom hfit
  refine ⟨_, hrun, .inr ⟨_, rfl, setRow_heap w g cur _ e _ hh, by simpa using hroom, hcm, ?_, ?_⟩, ⟨rfl, rfl, rfl, by simp, fun k _ hk => setRow_other w g k _ (fun e => hk (by rw [e]))⟩⟩
  · simp only [List.size_toArray, List.length_append, List.length_take, List.length_drop, Array.length_toList]
    omega
  · rw [hsize, htake, ← List.flatMap_append, ← flat_length E (l ++ m)]
    exact List.take_left
theorem step_append_rowroom {ops : Array Oper} {o : Oper} {a : Act} {w : World} {K : Act → World → Prop} {Q : Exit → Act → World → Prop} {F : Prop} (hgd : o.guard = none) (s x : Operand)
    (ho : o.op = .call { callee := .builtin .append, args := #[s, x], argTypes := #[t, t] }) (he : ElemOk P t e E z bytes)
    {c g n k : Nat} {l : List α} (hn : l.length = n) (hs : a.eval s = .slice (some ⟨g, 0, none⟩) n c) (hown : Row E w g e (some ⟨g, 0, none⟩) c l)
    (ad : Addr) (d : Nat) (m : List α) (hk : m.length = k) (hx : a.eval x = .slice (some ad) k d) (hr : Rd E w (some ad) m) (hroom : n + k ≤ c) (j : Nat) (hj : n + k = j)
    (h : ∀ (w' : World), Hid (Row E w' g e (some ⟨g, 0, none⟩) c (l ++ m)) → w.grownBy w' (some g) → K (a.put o.dst (.slice (some ⟨g, 0, none⟩) j c)) w') : if Region.wanted o (yielded ops a.tmps) = true then Oper.wp P o a w K Q else F := by
  subst hn; subst hk; subst hj
  have hw : Region.wanted o (yielded ops a.tmps) = true := by simp [Region.wanted, hgd]
  rw [if_pos hw]
  obtain ⟨w', hrun, h2, h3⟩ := run_append_rowroom he o.type w hown ad d m hr hroom
  unfold Oper.wp execOp
  simp only [ho, resolve, invoke, builtin, Sem.run_bind, Sem.run_pure, Result.andThen_ok, List.map_toArray, List.map_cons, List.map_nil, hs, hx, hrun]
  exact h w' h2 h3
end
theorem run_clear_copy {w : World} {g c n m : Nat} {l : List Cp} (hrow : Row encCopyS w g tyCopyS (some ⟨g, 0, none⟩) c l) (hm : l.length = m) (hn : n - m = 1) (hc : n ≤ c) :
    ∃ w', (∀ ty cc, (Builtin.clear_ #[28] ty #[.slice (some ⟨g, m * 2, none⟩) (n - m) cc]).run Try.prog w = .ok (.tuple #[]) w') ∧ Row encCopyS w' g tyCopyS (some ⟨g, 0, none⟩) c l ∧ w.grownBy w' (some g) := by
  subst hm
  obtain ⟨ht, i, hi, hz, hsize, hby, hzs⟩ := elCopyS
  rcases hrow with ⟨h, _⟩ | ⟨cur, _, hh, hlc, hcm, hcs, htake⟩
  · cases h
  have hcs' : cur.size = c * 2 := hcs
  have hst := run_storeCells_at Try.prog g (l.length * 2) tyCopyS [.int .i64 0, .int .i64 0] 0 cur w hh (by simp; omega) (by simp [Value.oneCell'])
  simp only [Nat.add_zero] at hst
  have hv : ∀ w, (zeroValue 47).run Try.prog w = .ok (.agg #[.int .i64 0, .int .i64 0]) w := fun w => by simp [zeroValue, typeInfo, hi, hz]
  have hzc : (Builtin.zeroCells (Value.agg #[.int .i64 0, .int .i64 0]).cells 1).toList = [.int .i64 0, .int .i64 0] := by
    rw [show (Value.agg #[.int .i64 0, .int .i64 0]).cells = #[.int .i64 0, .int .i64 0] from rfl]
    simp [Builtin.zeroCells]
    rfl
  refine ⟨w.setRow g (cur.toList.take (l.length * 2) ++ [Value.int .i64 0, Value.int .i64 0] ++ cur.toList.drop (l.length * 2 + 2)).toArray, fun ty cc => ?_, .inr ⟨_, rfl, setRow_heap w g cur _ _ _ hh, hlc, hcm, ?_, ?_⟩, ⟨rfl, rfl, rfl, by simp, fun k _ hk => setRow_other w g k _ (fun e => hk (by rw [e]))⟩⟩
  · rw [hn]
    simp [Builtin.clear_, run_underlying ht, hv, hzc, hst]
  · simp only [List.size_toArray, List.length_append, List.length_take, List.length_drop, Array.length_toList, List.length_cons, List.length_nil, hcs']
    show _ = c * 2
    omega
  · have h2 : l.length * encCopyS.size = l.length * 2 := rfl
    rw [← htake, h2, List.append_assoc, List.take_append_of_le_length (by simp; omega), List.take_take, Nat.min_self]
set_option maxHeartbeats 4000000 in
theorem delete_c (c g o : Nat) (l : List Cp) (w : World) (hrow : Row encCopyS w g tyCopyS (some ⟨g, 0, none⟩) c l) (ho : o < l.length) (hl : l.length ≤ 1099511627776) :
    Calls Try.prog 58 #[.slice (some ⟨g, 0, none⟩) l.length c, .int .i64 (o : Int), .int .i64 ((o : Int) + 1)] w fun e w' => e = .returned (.slice (some ⟨g, 0, none⟩) (l.eraseIdx o).length c) ∧ Row encCopyS w' g tyCopyS (some ⟨g, 0, none⟩) c (l.eraseIdx o) ∧ w.grownBy w' (some g) := by
  obtain ⟨j, hj⟩ : ∃ j, j = o + 1 := ⟨_, rfl⟩
  have hje : (o : Int) + 1 = (j : Int) := by omega
  have hrowle := hrow.le
  have hlt := hrow.lt (by omega)
  have HE : Hid ((l.take o) ++ (l.drop j) = l.eraseIdx o) := Lib.hid (by rw [hj, List.eraseIdx_eq_take_drop_succ])
  have hA : Hid ((l.take o).length = o) := Lib.hid (by simp; omega)
  have hB : Hid ((l.drop j).length = l.length - j) := Lib.hid (by simp)
  have hC : Hid ((l.eraseIdx o).length = l.length - 1) := Lib.hid (by rw [List.length_eraseIdx, if_pos ho])
  have HT := Lib.hid (Row.drew (hrow.take o (by omega)))
  have HD : Hid (Rd encCopyS w.drew (some ⟨g, j * 2, none⟩) (l.drop j)) := Lib.hid (by have := hrow.rd.dropO j; rw [Nat.zero_add] at this; exact this)
  rw [hje]
  have hne : ((o : Int) == (j : Int)) = false := by rw [beq_eq_false_iff_ne]; omega
  obtain ⟨n, hn⟩ : ∃ n, n = l.length := ⟨_, rfl⟩
  obtain ⟨m, hm⟩ : ∃ m, m = n - 1 := ⟨_, rfl⟩
  rw [← hn] at hB hrowle hl ho ⊢
  have hHC : Hid ((l.eraseIdx o).length = m) := Lib.hid (by rw [hC.out]; omega)
  have hoj : o + (n - j) = m := by omega
  have hroom : o + (n - j) ≤ c := by omega
  have hmn : m < n := by omega
  have hoc : o ≤ c := by omega
  have hjn : j ≤ n := by omega
  have hmn1 : Hid (n - m = 1) := Lib.hid (by omega)
  have HOJ := Lib.hid hoj
  rw [hHC.out]
  clear hrow hn hC hm hoj hj
  by_cases hcj : c = j
  · subst hcj
    have hnc : n = c := by omega
    subst hnc
    have HD : Hid (Rd encCopyS w.drew (some ⟨g, 0, none⟩) (l.drop n)) := Lib.hid (by
      have : l.drop n = [] := List.eq_nil_of_length_eq_zero (by rw [hB.out]; omega)
      rw [this]; exact Rd.nil _ _)
    go_enter Try.func58, Try.ntmps58
    go_wp2
    go_region_law (refine step_append_rowroom (by rfl) (.tmp 22) (.tmp 25) (by rfl) elCopyS hA.out (by simp [go_sem]; done) HT.out ⟨g, 0, none⟩ (n - n) (l.drop n) hB.out (by simp [go_sem]; done) HD.out hroom m HOJ.out ?_; intro w1 hrow1 hg1)
    have hrow2 := hrow1.out
    rw [HE.out] at hrow2
    obtain ⟨w2, hcl, hrow3, hg3⟩ := run_clear_copy (n := n) hrow2 hHC.out hmn1.out hrowle
    have H3 := Lib.hid hrow3
    clear hrow1 hrow2 hrow3
    go_wp2
    go_ret
    exact ⟨rfl, H3.out, grownBy_trans ⟨hg1.os, hg1.tape, hg1.output, hg1.size, hg1.block⟩ hg3⟩
  · go_enter Try.func58, Try.ntmps58
    go_wp2
    go_region_law (refine step_append_rowroom (by rfl) (.tmp 22) (.tmp 25) (by rfl) elCopyS hA.out (by simp [go_sem]; done) HT.out ⟨g, j * 2, none⟩ (c - j) (l.drop j) hB.out (by simp [go_sem]; done) HD.out hroom m HOJ.out ?_; intro w1 hrow1 hg1)
    have hrow2 := hrow1.out
    rw [HE.out] at hrow2
    obtain ⟨w2, hcl, hrow3, hg3⟩ := run_clear_copy (n := n) hrow2 hHC.out hmn1.out hrowle
    have H3 := Lib.hid hrow3
    clear hrow1 hrow2 hrow3
    go_wp2
    go_ret
    exact ⟨rfl, H3.out, grownBy_trans ⟨hg1.os, hg1.tape, hg1.output, hg1.size, hg1.block⟩ hg3⟩
end Go.Proofs.Ytpekccmhfkeadaa
