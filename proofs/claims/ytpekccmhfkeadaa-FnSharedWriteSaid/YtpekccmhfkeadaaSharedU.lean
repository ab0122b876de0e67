/-
  Shared volumes: one user more. Conditions: lengths at most 2^40.
-/
import Derived.Test.YtpekccmhfkeadaaBase
import Derived.Test.YtpekccmhfkeadaaNum
import Derived.Test.YtpekccmhfkeadaaInts
import Derived.Test.YtpekccmhfkeadaaApp
import Derived.Test.YtpekccmhfkeadaaIntsW
import Derived.Test.YtpekccmhfkeadaaLib
import Derived.Test.YtpekccmhfkeadaaSpares
import Derived.Test.YtpekccmhfkeadaaOwn
import Derived.Test.YtpekccmhfkeadaaCopy
import Derived.Test.YtpekccmhfkeadaaShared
import Derived.Test.YtpekccmhfkeadaaSharedM
import Derived.Test.YtpekccmhfkeadaaSharedC
import Derived.Test.YtpekccmhfkeadaaSharedV
import Derived.StillTailTactics
namespace Go.Proofs.Ytpekccmhfkeadaa
open Go.RowKit
/-- w' is w with new blocks, and with writes to blocks X and g alone. -/
structure GTwo (X g : Nat) (w w' : World) : Prop where
  os : w'.os = w.os
  tape : w'.tape = w.tape
  output : w'.output = w.output
  size : w.heap.size ≤ w'.heap.size
  block : ∀ k, k < w.heap.size → k ≠ X → k ≠ g → w'.heap[k]? = w.heap[k]?
section
variable {X g : Nat} {a b c : World}
theorem GTwo.refl (X g : Nat) (w : World) : GTwo X g w w := ⟨rfl, rfl, rfl, Nat.le_refl _, fun _ _ _ _ => rfl⟩
theorem GTwo.below (h : GTwo X g a b) (k : Below b.heap.size b c) : GTwo X g a c :=
  ⟨k.os.trans h.os, k.tape.trans h.tape, k.output.trans h.output, Nat.le_trans h.size k.size, fun i hi h1 h2 => (k.block i (Nat.lt_of_lt_of_le hi h.size)).trans (h.block i hi h1 h2)⟩
theorem GTwo.alloc (h : GTwo X g a b) (o : Obj) : GTwo X g a (b.alloc o) := h.below ((Below.refl _ _).alloc (Nat.le_refl _) o)
theorem GTwo.drew (h : GTwo X g a b) : GTwo X g a b.drew := ⟨h.os, h.tape, h.output, h.size, h.block⟩
theorem GTwo.drewN (h : GTwo X g a b) (n : Nat) : GTwo X g a (b.drewN n) := ⟨h.os, h.tape, h.output, h.size, h.block⟩
theorem GTwo.grown {r : Nat} (h : GTwo X g a b) (k : b.grownBy c (some r)) (hr : r = X ∨ r = g ∨ a.heap.size ≤ r) : GTwo X g a c :=
  ⟨k.os.trans h.os, k.tape.trans h.tape, k.output.trans h.output, Nat.le_trans h.size k.size, fun i hi h1 h2 => (k.block i (Nat.lt_of_lt_of_le hi h.size) (fun e => by injection e with e; omega)).trans (h.block i hi h1 h2)⟩
theorem GTwo.set {r o : Nat} (h : GTwo X g a b) (hr : r = X ∨ r = g ∨ a.heap.size ≤ r) (v : Value) : GTwo X g a (b.setCell ⟨r, o, none⟩ v) := h.grown (grownBy_setCell b r o v) hr
theorem Below.gtwo {D : Nat} (h : Below D a b) (k : GTwo X g b c) (hD : D ≤ b.heap.size) (hX : D ≤ X) (hg : D ≤ g) : Below D a c :=
  ⟨k.os.trans h.os, k.tape.trans h.tape, k.output.trans h.output, Nat.le_trans h.size k.size, fun i hi => (k.block i (by omega) (by omega) (by omega)).trans (h.block i hi)⟩
theorem Row.gtwo {α : Type} {E : Enc α} {e : TypeId} {q n : Nat} {A : Option Addr} {l : List α} (h : Row E a q e A n l) (k : GTwo X g a b) (h1 : q ≠ X) (h2 : q ≠ g) : Row E b q e A n l := h.keep fun hl => k.block q hl h1 h2
theorem Loc.gtwo {q : Nat} {cs : List Value} (h : Loc a q cs) (k : GTwo X g a b) (h1 : q ≠ X) (h2 : q ≠ g) : Loc b q cs := h.keep (k.block q h.lt h1 h2)
theorem Rd.gtwo {α : Type} {E : Enc α} {A : Option Addr} {l : List α} {w0 : World} (h : Rd E a A l) (h0 : Rd E w0 A l) (k : GTwo X g a b) (h1 : w0.heap.size ≤ X) (h2 : w0.heap.size ≤ g) : Rd E b A l :=
  h.keep fun q off hl hA o => World.cell?_of_block (k.block q (h.lt hl hA) (by have := h0.lt hl hA; omega) (by have := h0.lt hl hA; omega))
end
theorem useN_new {l : List Cp} {v : Int} (h : idx (l.map Cp.val) v < 0) : useN l v = l.length ∧ useL l v = l ++ [⟨v, 1⟩] := by unfold useN useL; rw [if_pos h, if_pos h]; exact ⟨rfl, rfl⟩
theorem useN_old {l : List Cp} {v : Int} {i : Nat} (h : idx (l.map Cp.val) v = i) (hi : i < l.length) : useN l v = i ∧ useL l v = l.set i ⟨v, l[i].usr + 1⟩ := by
  unfold useN useL; rw [if_neg (by omega), if_neg (by omega), h]
  simp [hi]
theorem useN_lt (l : List Cp) (v : Int) : useN l v < (useL l v).length := by
  unfold useN useL
  have := idx_le (l.map Cp.val) v
  rw [List.length_map] at this
  split
  · simp
  · simp; omega
/-- what 'use' leaves -/
def Used (X : Nat) (u : Value) (g : Nat) (l : List Cp) (v : Int) (w : World) (e : Ending) (w' : World) : Prop :=
  e = .returned (.int .i64 (useN l v : Nat)) ∧ GTwo X g w w' ∧ ∃ A' c' g', Loc w' X [u, .slice A' (useL l v).length c'] ∧ Row encCopyS w' g' tyCopyS A' c' (useL l v) ∧ (g' = g ∨ w.heap.size ≤ g')
set_option maxHeartbeats 4000000 in
theorem use_c (X : Nat) (A0 : Option Addr) (n0 c0 : Nat) (A : Option Addr) (c g : Nat) (l : List Cp) (v : Int) (w : World) (LX : Loc w X [.slice A0 n0 c0, .slice A l.length c]) (hrow : Row encCopyS w g tyCopyS A c l) (hgX : g ≠ X) (hl : l.length ≤ 1099511627776) (hu : ∀ p ∈ l, 0 ≤ p.usr ∧ p.usr ≤ 1000000) :
    Calls Try.prog 48 #[.pointer (some ⟨X, 0, none⟩), .int .i64 v] w (Used X (.slice A0 n0 c0) g l v w) := by
  have HROW := Lib.hid hrow
  have HU := Lib.hid hu
  clear hrow hu
  obtain ⟨x0, x1, xf⟩ := LX.two
  have zX := LX.lt
  have hixl := idx_le (l.map Cp.val) v
  rw [List.length_map] at hixl
  by_cases hix : idx (l.map Cp.val) v < 0
  · have HN := Lib.hid (useN_new hix)
    obtain ⟨ix, hixe⟩ : ∃ ix, ix = idx (l.map Cp.val) v := ⟨_, rfl⟩
    have HIX := Lib.hid hixe
    rw [← hixe] at hix hixl
    clear hixe
    go_enter Try.func48, Try.ntmps48
    go_wp2_with fail
    refine (copyOf_any A l.length c l v _ rfl HROW.out.rd hl).mono ?_
    rw [← HIX.out]
    rintro e w1 ⟨rfl, hb1⟩
    have LX1 := Loc.carryB LX (fun h => by ((repeat (first | with_reducible exact h | with_reducible refine Loc.drew ?_ | with_reducible refine Loc.drewN ?_ _ | with_reducible refine Loc.alloc ?_ _)); done)) hb1
    obtain ⟨y0, y1, yf⟩ := LX1.two
    have zX1 := LX1.lt
    have HROW1 := Lib.hid (Row.below HROW.out hb1)
    have G1 : GTwo X g w w1 := GTwo.below (GTwo.refl _ _ _) hb1
    have hz1 := hb1.size
    have hlit : Hid (Rd encCopyS (w1.alloc (.cells #[.int .i64 v, .int .i64 0] 47)) (some ⟨w1.heap.size, 0, none⟩) [⟨v, 0⟩]) := Lib.hid (Rd.lit rfl rfl)
    clear hb1 x0 x1 xf
    go_wp2_with (at_builtin; refine wpList_append_row rfl _ _ rfl elCopyS rfl (Row.alloc HROW1.out _) _ _ [(⟨v, 0⟩ : Cp)] rfl hlit.out (by simp only [maxLen, List.length_cons, List.length_nil]; omega) (by simp only [List.length_cons, List.length_nil]; omega) ?_; intro A2 c2 g2 w3 l2 hl2 hle1 hle2 hrow3 hg3 hgg3; have LX3 := Loc.carry LX1 (fun h => by ((repeat (first | with_reducible exact h | with_reducible refine Loc.drew ?_ | with_reducible refine Loc.drewN ?_ _ | with_reducible refine Loc.alloc ?_ _)); done)) hg3 (Ne.symm hgX); obtain ⟨s0, s1, sf⟩ := LX3.two; have zX3 := LX3.lt; simp only [List.length_cons, List.length_nil] at hle1 hle2; obtain ⟨hA2, hgl2, hfz2, hcc2⟩ := hrow3.rCopyS (by omega); subst hA2; have e2 : Hid (l2[l.length]'(by omega) = ⟨v, 0⟩) := Lib.hid (by simp only [hl2.out]; simp); have hca := (hcc2 l.length (by omega)).1; have hcb := (hcc2 l.length (by omega)).2; rw [e2.out] at hca hcb; simp only at hca hcb; have hll : l.length < l2.length := (by omega); have hg2X : g2 ≠ X := (by simp at hgg3; omega); have HS := Lib.hid ((Row.other hrow3 (p := ⟨X, 1, none⟩) hg2X (.slice (some ⟨g2, 0, none⟩) l2.length c2)).setBCopyS (k := l.length) (by omega) 1); rw [e2.out] at HS; clear hcc2 e2)
    go_ret
    have hz3 := hg3.size
    simp at hz3 hgg3
    have hlen : Hid (l2.set l.length ⟨v, 1⟩ = useL l v) := Lib.hid (by rw [HN.out.2, hl2.out]; simp)
    have HS2 := HS.out
    rw [hlen.out] at HS2
    have hle : (useL l v).length = l2.length := by rw [← hlen.out]; simp
    refine ⟨ret_int (by rw [HN.out.1]), ?_, some ⟨g2, 0, none⟩, c2, g2, ?_, ?_, ?_⟩
    · exact (by repeat (first | with_reducible exact GTwo.refl _ _ _ | with_reducible assumption | with_reducible refine GTwo.drew ?_ | with_reducible refine GTwo.drewN ?_ _ | with_reducible refine GTwo.alloc ?_ _ | (with_reducible refine GTwo.below ?_ (by assumption)) | ((with_reducible refine GTwo.grown ?_ (by assumption) ?_); rotate_left; (focus (first | omega | (simp; omega) | (simp; done)))) | ((with_reducible refine GTwo.set ?_ ?_ _); rotate_left; (focus (first | omega | (simp; omega) | (simp; done))))))
    · rw [hle]
      refine Loc.other' (p := ⟨g2, _, none⟩) (by simp; omega) ?_ _
      simpa using LX3.set 1 (.slice (some ⟨g2, 0, none⟩) l2.length c2)
    · exact HS2
    · omega
  · obtain ⟨i, hi, hil, hio, -⟩ := idx_get (Int.not_lt.1 hix)
    rw [List.length_map] at hil
    have HN := Lib.hid (useN_old hi hil)
    have HIX : Hid (idx (l.map Cp.val) v = (i : Int)) := Lib.hid hi
    have hub := HU.out _ (List.getElem_mem hil)
    have hval : Hid (l[i].val = v) := Lib.hid (by simpa using hio)
    clear hix hixl hio hi
    go_enter Try.func48, Try.ntmps48
    go_wp2_with fail
    refine (copyOf_any A l.length c l v _ rfl HROW.out.rd hl).mono ?_
    rw [HIX.out]
    rintro e w1 ⟨rfl, hb1⟩
    have LX1 := Loc.carryB LX (fun h => by ((repeat (first | with_reducible exact h | with_reducible refine Loc.drew ?_ | with_reducible refine Loc.drewN ?_ _ | with_reducible refine Loc.alloc ?_ _)); done)) hb1
    obtain ⟨y0, y1, yf⟩ := LX1.two
    have zX1 := LX1.lt
    have hrow1 := Row.below HROW.out hb1
    have G1 : GTwo X g w w1 := GTwo.below (GTwo.refl _ _ _) hb1
    have hz1 := hb1.size
    obtain ⟨rfl, hgl2, hfz2, hcc2⟩ := hrow1.rCopyS (by omega)
    have hcb := (hcc2 i hil).2
    have HS := Lib.hid (hrow1.setBCopyS (k := i) hil (l[i].usr + 1))
    obtain ⟨us, hus⟩ : ∃ us, us = l[i].usr := ⟨_, rfl⟩
    rw [← hus] at hcb HS hub HN
    clear hb1 x0 x1 xf hcc2 hrow1 hus
    obtain ⟨hub0, hub1⟩ := hub
    go_wp2
    go_ret
    have hlen : Hid (l.set i ⟨l[i].val, us + 1⟩ = useL l v) := Lib.hid (by rw [HN.out.2, hval.out])
    have HS2 := HS.out
    rw [hlen.out] at HS2
    have hle : (useL l v).length = l.length := by rw [← hlen.out]; simp
    refine ⟨ret_int (by rw [HN.out.1]), ?_, some ⟨g, 0, none⟩, c, g, ?_, HS2, .inl rfl⟩
    · exact (by repeat (first | with_reducible exact GTwo.refl _ _ _ | with_reducible assumption | with_reducible refine GTwo.drew ?_ | with_reducible refine GTwo.drewN ?_ _ | with_reducible refine GTwo.alloc ?_ _ | (with_reducible refine GTwo.below ?_ (by assumption)) | ((with_reducible refine GTwo.grown ?_ (by assumption) ?_); rotate_left; (focus (first | omega | (simp; omega) | (simp; done)))) | ((with_reducible refine GTwo.set ?_ ?_ _); rotate_left; (focus (first | omega | (simp; omega) | (simp; done))))))
    · rw [hle]
      exact Loc.other' (p := ⟨g, _, none⟩) (by simp; omega) LX1 _
end Go.Proofs.Ytpekccmhfkeadaa
