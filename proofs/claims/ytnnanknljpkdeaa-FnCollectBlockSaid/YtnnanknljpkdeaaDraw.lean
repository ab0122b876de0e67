/-
  The reader of a code: whatever the code, what it draws lies in its range. Conditions: the count of draws stays below 10^9.
-/
import Derived.Test.YtnnanknljpkdeaaBase
import Derived.Test.YtnnanknljpkdeaaNum
import Derived.Laws.BitsAllLaws
import Derived.Laws.BitsLemmas
namespace Go.Proofs.Ytnnanknljpkdeaa
open Go.RowKit
/-- Block R holds a reader; its bytes lie below block B, and R does not. -/
def Rdb (w : World) (T : TypeId) (B R : Nat) : Prop :=
  B ≤ R ∧ ∃ A c bs v, w.heap[R]? = some (.cells #[.slice A bs.length c, v] T (0, 0)) ∧ Rd eByte w A bs ∧ (∀ b off, 0 < bs.length → A = some ⟨b, off, none⟩ → b < B) ∧ (∀ x ∈ bs, 0 ≤ x ∧ x ≤ 255) ∧ bs.length ≤ 2000
/-- .. and its position is p. -/
def Rdr (w : World) (T : TypeId) (B R : Nat) (p : Int) : Prop := Rdb w T B R ∧ w.cell? ⟨R, 1, none⟩ = some (.int .i64 p)
section
variable {w w' : World} {T : TypeId} {B R : Nat} {p : Int}
theorem Rdb.lt (h : Rdb w T B R) : R < w.heap.size := by
  obtain ⟨_, A, c, bs, v, hh, _⟩ := h
  exact (Array.getElem?_eq_some_iff.1 hh).1
theorem Rdr.lt (h : Rdr w T B R p) : R < w.heap.size := h.1.lt
theorem Rdr.ge (h : Rdr w T B R p) : B ≤ R := h.1.1
theorem Rdr.rdb (h : Rdr w T B R p) : Rdb w T B R := h.1
theorem Rdb.below (h : Rdb w T B R) (hb : Below w.heap.size w w') : Rdb w' T B R := by
  have hl := h.lt
  obtain ⟨hB, A, c, bs, v, hh, h1, h2, h3, h4⟩ := h
  exact ⟨hB, A, c, bs, v, (hb.block R hl).trans hh, h1.below hb, h2, h3, h4⟩
theorem Rdr.below (h : Rdr w T B R p) (hb : Below w.heap.size w w') : Rdr w' T B R p := ⟨h.1.below hb, (hb.cell (p := ⟨R, 1, none⟩) h.lt).trans h.2⟩
/-- another block, from B on, has turned -/
theorem Rdb.grown {g : Nat} (h : Rdb w T B R) (hb : w.grownBy w' (some g)) (hg : B ≤ g) (hne : g ≠ R) : Rdb w' T B R := by
  have hl := h.lt
  obtain ⟨hB, A, c, bs, v, hh, h1, h2, h3, h4⟩ := h
  exact ⟨hB, A, c, bs, v, (hb.block R hl (fun e => hne (by injection e with e; exact e.symm))).trans hh, h1.grown hb (fun b off h0 hA e => by have := h2 b off h0 hA; omega), h2, h3, h4⟩
theorem Rdr.grown {g : Nat} (h : Rdr w T B R p) (hb : w.grownBy w' (some g)) (hg : B ≤ g) (hne : g ≠ R) : Rdr w' T B R p :=
  ⟨h.1.grown hb hg hne, (World.cell?_of_block (a := ⟨R, 1, none⟩) (hb.block R h.lt (fun e => hne (by injection e with e; exact e.symm)))).trans h.2⟩
theorem Rdr.alloc (h : Rdr w T B R p) (o : Obj) : Rdr (w.alloc o) T B R p := h.below ((Below.refl _ _).alloc (Nat.le_refl _) o)
theorem Rdr.drewN (h : Rdr w T B R p) (n : Nat) : Rdr (w.drewN n) T B R p := h
theorem Rdr.drew (h : Rdr w T B R p) : Rdr w.drew T B R p := h
theorem Rdr.other (h : Rdr w T B R p) {g : Nat} (o : Nat) (v : Value) (hg : B ≤ g) (hne : g ≠ R) : Rdr (w.setCell ⟨g, o, none⟩ v) T B R p := h.grown (grownBy_setCell w g o v) hg hne
theorem Rdb.alloc (h : Rdb w T B R) (o : Obj) : Rdb (w.alloc o) T B R := h.below ((Below.refl _ _).alloc (Nat.le_refl _) o)
theorem Rdb.drewN (h : Rdb w T B R) (n : Nat) : Rdb (w.drewN n) T B R := h
theorem Rdb.drew (h : Rdb w T B R) : Rdb w.drew T B R := h
theorem Rdb.other (h : Rdb w T B R) {g : Nat} (o : Nat) (v : Value) (hg : B ≤ g) (hne : g ≠ R) : Rdb (w.setCell ⟨g, o, none⟩ v) T B R := h.grown (grownBy_setCell w g o v) hg hne
theorem Rdb.step (h : Rdb w T B R) (u : Value) : Rdb (w.setCell ⟨R, 1, none⟩ u) T B R := by
  obtain ⟨hB, A, c, bs, v, hh, h1, h2, h3, h4⟩ := h
  refine ⟨hB, A, c, bs, u, by simp [World.setCell, Array.getElem?_modify, hh], h1.grown (grownBy_setCell w R 1 _) (fun b off h0 hA e => ?_), h2, h3, h4⟩
  have := h2 b off h0 hA
  omega
theorem Rdr.step (h : Rdb w T B R) {u : Value} (hu : u = .int .i64 p) : Rdr (w.setCell ⟨R, 1, none⟩ u) T B R p := by
  refine ⟨h.step u, ?_⟩
  subst hu
  obtain ⟨hB, A, c, bs, v, hh, _⟩ := h
  have : (w.setCell ⟨R, 1, none⟩ (.int .i64 p)).heap[R]? = some (.cells #[.slice A bs.length c, .int .i64 p] T (0, 0)) := by simp [World.setCell, Array.getElem?_modify, hh]
  rw [cell_of_row _ R 1 _ _ (0, 0) this]
  rfl
theorem Rdr.to {p' : Int} (h : Rdr w T B R p) (hp : p = p') : Rdr w T B R p' := hp ▸ h
end
theorem below_of_grown {B R : Nat} {a w w' : World} (h : Below B a w) (hg : w.grownBy w' (some R)) (hB : B ≤ w.heap.size) (hR : B ≤ R) : Below B a w' := Below.grown1 h hg hB hR
theorem ofInt_i64 (a : Nat) (ha : a < 9223372036854775808) : (BitVec.ofInt 64 (a : Int)).toNat = a := by
  rw [BitVec.ofInt_natCast, BitVec.toNat_ofNat]; exact Nat.mod_eq_of_lt (by omega)
theorem i64_xor_nat (a b : Nat) (ha : a < 9223372036854775808) (hb : b < 9223372036854775808) : bits .xor .i64 (a : Int) (b : Int) = ((a ^^^ b : Nat) : Int) := by
  have hx : a ^^^ b < 2 ^ 63 := Nat.xor_lt_two_pow (by omega) (by omega)
  show IntKind.i64.wrap ((BitVec.ofInt 64 (a : Int) ^^^ BitVec.ofInt 64 (b : Int)).toNat : Int) = _
  rw [BitVec.toNat_xor, ofInt_i64 a ha, ofInt_i64 b hb, IntKind.wrap_i64]
  omega
set_option maxHeartbeats 1000000 in
theorem l20Open_any (A : Option Addr) (c : Nat) (l : List Int) (w : World) (hl : l.length ≤ c) (hm : c ≤ maxLen) (hr : Rd eByte w A l) (hb : ∀ x ∈ l, 0 ≤ x ∧ x ≤ 255) (B : Nat) (hA : ∀ b off, 0 < l.length → A = some ⟨b, off, none⟩ → b < B) (hB : B ≤ w.heap.size) :
    Calls Try.prog 62 #[.slice A l.length c] w fun e w' => ∃ R, e = .returned (.pointer (some ⟨R, 0, none⟩)) ∧ Rdr w' 82 B R 0 ∧ w.heap.size ≤ R ∧ Below w.heap.size w w' := by
  unfold maxLen at hm
  by_cases h : (2000 : Int) < (l.length : Int)
  · go_enter Try.func62, Try.ntmps62
    go_wp2
    go_ret
    have e2 : (l.take 2000).length = 2000 := by simp; omega
    refine ⟨w.heap.size, rfl, ⟨⟨hB, A, c, l.take 2000, .int .i64 0, ?_, ?_, ?_, ?_, by omega⟩, by simp⟩, Nat.le_refl _, (by repeat (first | with_reducible exact Below.refl _ _ | with_reducible assumption | with_reducible refine below_drewN ?_ _ | with_reducible refine Below.drew ?_ | with_reducible refine Below.alloc ?_ ?_ _ | with_reducible refine Below.setCell ?_ ?_ _ | (with_reducible refine Below.next ?_ (by assumption)) | omega | (focus (simp; omega)) | (focus (simp; done))))⟩
    · rw [e2]; exact heap_alloc_new w _
    · exact (Rd.take hr 2000).alloc _
    · intro b off h0 hAA
      exact hA b off (by omega) hAA
    · exact fun x hx => hb x (List.mem_of_mem_take hx)
  · go_enter Try.func62, Try.ntmps62
    go_wp2
    go_ret
    refine ⟨w.heap.size, rfl, ⟨⟨hB, A, c, l, .int .i64 0, heap_alloc_new w _, hr.alloc _, ?_, hb, by omega⟩, by simp⟩, Nat.le_refl _, (by repeat (first | with_reducible exact Below.refl _ _ | with_reducible assumption | with_reducible refine below_drewN ?_ _ | with_reducible refine Below.drew ?_ | with_reducible refine Below.alloc ?_ ?_ _ | with_reducible refine Below.setCell ?_ ?_ _ | (with_reducible refine Below.next ?_ (by assumption)) | omega | (focus (simp; omega)) | (focus (simp; done))))⟩
    exact hA
theorem rem_range (x n : Int) (hn : 1 ≤ n) : 0 ≤ x % n ∧ x % n < n := ⟨Int.emod_nonneg _ (by omega), Int.emod_lt_of_pos _ (by omega)⟩
theorem xor_any (X : Int) (h0 : 0 ≤ X) (h1 : X ≤ 1000000000000) : ∃ y : Int, bits .xor .i64 X (X / 64) = y ∧ 0 ≤ y := by
  obtain ⟨n, rfl⟩ := Int.eq_ofNat_of_zero_le h0
  refine ⟨((n ^^^ (n / 64) : Nat) : Int), ?_, by omega⟩
  rw [show ((n : Int) / 64) = ((n / 64 : Nat) : Int) by omega]
  exact i64_xor_nat _ _ (by omega) (by omega)
/-- A number in 0..n-1 comes back; the reader's position has gone on; nothing else has turned. -/
def Picked (w : World) (T : TypeId) (B R : Nat) (p n : Int) (e : Ending) (w' : World) : Prop :=
  ∃ (r : Int), e = .returned (.int .i64 r) ∧ 0 ≤ r ∧ (1 ≤ n → r < n) ∧ Rdr w' T B R (p + 1) ∧ w.grownBy w' (some R)
set_option maxHeartbeats 2000000 in
theorem pick_any (B R : Nat) (p n : Int) (w : World) (h : Rdr w 82 B R p) (hp0 : 0 ≤ p) (hp1 : p ≤ 1000000000) (hn : n ≤ 1000000000) :
    Calls Try.prog 65 #[.pointer (some ⟨R, 0, none⟩), .int .i64 n] w (Picked w 82 B R p n) := by
  have hlt := h.lt
  have hend : ∀ k, Rdr ((w.setCell ⟨R, 1, none⟩ (.int .i64 (p + 1))).drewN k) 82 B R (p + 1) ∧ w.grownBy ((w.setCell ⟨R, 1, none⟩ (.int .i64 (p + 1))).drewN k) (some R) :=
    fun k => ⟨Rdr.drewN (Rdr.step h.rdb rfl) k, grownBy_drewN (grownBy_setCell _ _ _ _) _⟩
  have HE := Lib.hid hend
  clear hend
  obtain ⟨⟨hB, A, c, bs, v, hh, h1, h2, h3, h4⟩, c1⟩ := h
  obtain ⟨p, rfl⟩ := Int.eq_ofNat_of_zero_le hp0
  clear hp0
  have h5 : p ≤ 1000000000 := by omega
  clear hp1
  have c0 : w.cell? ⟨R, 0, none⟩ = some (.slice A bs.length c) := by rw [cell_of_row w R 0 _ _ (0, 0) hh]; rfl
  have fz : ∀ o, w.frozen? ⟨R, o, none⟩ = false := fun o => by simp [World.frozen?, hh]
  clear hh
  by_cases hn1 : n < 1
  · go_enter Try.func65, Try.ntmps65
    go_wp2
    go_ret
    exact ⟨0, rfl, by omega, by omega, HE.out 0⟩
  · by_cases h0 : bs.length = 0
    · have h0' : ((bs.length : Int) == 0) = true := by simp [h0]
      have H0 := Lib.hid h0
      clear h0
      go_enter Try.func65, Try.ntmps65
      go_wp2
      go_ret
      exact ⟨0, rfl, by omega, by omega, HE.out 0⟩
    · have h0' : ((bs.length : Int) == 0) = false := by rw [beq_eq_false_iff_ne]; omega
      have hpos : 0 < bs.length := by omega
      obtain ⟨b, off, rfl, hbl, hcs⟩ := h1.bytes hpos
      have hbR : b ≠ R := by have := h2 b off hpos rfl; omega
      by_cases hk : p < bs.length
      · have hx := h3 (bs[p]'hk) (List.getElem_mem hk)
        have hxc := hcs p hk
        clear hcs h3 h0 h2
        obtain ⟨x, hxe⟩ : ∃ x, x = bs[p]'hk := ⟨_, rfl⟩
        rw [← hxe] at hx hxc
        clear hxe
        obtain ⟨hx0, hx1⟩ := hx
        have hrr := rem_range x n (by omega)
        go_enter Try.func65, Try.ntmps65
        go_wp2
        go_ret
        exact ⟨x % n, rfl, hrr.1, fun _ => hrr.2, HE.out 0⟩
      · have hl1 : 1 ≤ (bs.length : Int) := by omega
        have hi1 : p % bs.length < bs.length := Nat.mod_lt _ hpos
        have hi2 : (p * 7 + 3) % bs.length < bs.length := Nat.mod_lt _ hpos
        have hx1 := h3 (bs[p % bs.length]'hi1) (List.getElem_mem hi1)
        have hx2 := h3 (bs[(p * 7 + 3) % bs.length]'hi2) (List.getElem_mem hi2)
        have hc1 := hcs _ hi1
        have hc2 := hcs _ hi2
        obtain ⟨x1, hxe1⟩ : ∃ x, x = bs[p % bs.length]'hi1 := ⟨_, rfl⟩
        obtain ⟨x2, hxe2⟩ : ∃ x, x = bs[(p * 7 + 3) % bs.length]'hi2 := ⟨_, rfl⟩
        rw [← hxe1] at hx1 hc1
        rw [← hxe2] at hx2 hc2
        clear hxe1 hxe2 hcs h3 h0 h2
        obtain ⟨i1, hie1⟩ : ∃ i, i = p % bs.length := ⟨_, rfl⟩
        obtain ⟨i2, hie2⟩ : ∃ i, i = (p * 7 + 3) % bs.length := ⟨_, rfl⟩
        rw [← hie1] at hi1 hc1
        rw [← hie2] at hi2 hc2
        have E1 : Hid ((p : Int) % (bs.length : Int) = (i1 : Int)) := Lib.hid (by rw [hie1]; simp)
        have E2 : Hid (((p : Int) * 7 + 3) % (bs.length : Int) = (i2 : Int)) := Lib.hid (by rw [hie2]; simp)
        clear hie1 hie2
        have hd0 : 0 ≤ (p : Int) / (bs.length : Int) := Int.ediv_nonneg (by omega) (by omega)
        have hd1 : (p : Int) / (bs.length : Int) ≤ 1000000000 := by have := Int.ediv_le_self (a := (p : Int)) (bs.length : Int) (by omega); omega
        have hX0 : 0 ≤ x1 * 131 + x2 * 1117 + (p : Int) * 29 + (p : Int) / (bs.length : Int) * 53 := by omega
        have hX1 : x1 * 131 + x2 * 1117 + (p : Int) * 29 + (p : Int) / (bs.length : Int) * 53 ≤ 1000000000000 := by omega
        obtain ⟨y, hy, hy0⟩ := xor_any _ hX0 hX1
        have HY := Lib.hid hy
        clear hy
        have hrr := rem_range y n (by omega)
        go_enter Try.func65, Try.ntmps65
        go_wp2
        have E1' := E1.out
        have E2' := E2.out
        go_quiet (fail)
        clear E1' E2'
        have HY' := HY.out
        go_wp2
        go_ret
        exact ⟨y % n, rfl, hrr.1, fun _ => hrr.2, HE.out _⟩
/-- 'odd' says something; the reader's position has gone on. -/
def Odd (w : World) (T : TypeId) (B R : Nat) (p : Int) (e : Ending) (w' : World) : Prop :=
  ∃ (b : Bool), e = .returned (.bool b) ∧ Rdr w' T B R (p + 1) ∧ w.grownBy w' (some R)
set_option maxHeartbeats 1000000 in
theorem odd_any (B R : Nat) (p n : Int) (w : World) (h : Rdr w 82 B R p) (hp0 : 0 ≤ p) (hp1 : p ≤ 1000000000) (h0 : 1 ≤ n) (hn : n ≤ 1000000000) :
    Calls Try.prog 78 #[.pointer (some ⟨R, 0, none⟩), .int .i64 n] w (Odd w 82 B R p) := by
  go_enter Try.func78, Try.ntmps78
  go_wp2_with fail
  refine (pick_any B R p n _ h hp0 hp1 hn).mono ?_
  rintro e w1 ⟨r, rfl, hr0, hr1, hR, hg⟩
  clear hr1
  go_wp2
  go_ret
  exact ⟨_, rfl, hR, hg⟩
end Go.Proofs.Ytnnanknljpkdeaa
