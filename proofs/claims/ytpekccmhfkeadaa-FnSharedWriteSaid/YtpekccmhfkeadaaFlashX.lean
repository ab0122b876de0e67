/-
  Flash memories: collecting a block, the program's way. Conditions: lengths at most 2^40.
-/
import Derived.Test.YtpekccmhfkeadaaBase
import Derived.Test.YtpekccmhfkeadaaNum
import Derived.Test.YtpekccmhfkeadaaInts
import Derived.Test.YtpekccmhfkeadaaApp
import Derived.Test.YtpekccmhfkeadaaIntsW
import Derived.Test.YtpekccmhfkeadaaLib
import Derived.Test.YtpekccmhfkeadaaSpares
import Derived.Test.YtpekccmhfkeadaaOwn
import Derived.Test.YtpekccmhfkeadaaThinC
import Derived.Test.YtpekccmhfkeadaaFlashW
namespace Go.Proofs.Ytpekccmhfkeadaa
open Go.RowKit
section
variable {α : Type} {E : Enc α} {w : World} {l : List α}
theorem Rd.dropAt {b off : Nat} (h : Rd E w (some ⟨b, off, none⟩) l) (n : Nat) : Rd E w (some ⟨b, off + n * E.size, none⟩) (l.drop n) := by
  intro hl
  obtain ⟨b', off', he, hc⟩ := h (by simp at hl; omega)
  cases he
  refine ⟨b, off + n * E.size, rfl, fun k hk j hj => ?_⟩
  have hk' : n + k < l.length := by simp at hk; omega
  have := hc (n + k) hk' j hj
  rw [List.getElem_drop, ← this]
  congr 2
  rw [Nat.add_mul]; omega
end
theorem GIn.alloc {B C : Nat} {a b : World} (h : GIn B C a b) (o : Obj) : GIn B C a (b.alloc o) := h.trans (GIn.of_below ((Below.refl _ _).alloc (Nat.le_refl _) o))
theorem GIn.drew {B C : Nat} {a b : World} (h : GIn B C a b) : GIn B C a b.drew := ⟨h.os, h.tape, h.output, h.size, h.block⟩
theorem GIn.drewN {B C : Nat} {a b : World} (h : GIn B C a b) (n : Nat) : GIn B C a (b.drewN n) := ⟨h.os, h.tape, h.output, h.size, h.block⟩
theorem GIn.below {B C : Nat} {a b c : World} (h : GIn B C a b) (hb : Below b.heap.size b c) : GIn B C a c := h.trans (GIn.of_below hb)
theorem GIn.set {B C : Nat} {a b : World} (h : GIn B C a b) {g o : Nat} (h1 : B ≤ g) (h2 : g < C) (v : Value) : GIn B C a (b.setCell ⟨g, o, none⟩ v) := h.trans (GIn.of_grown (grownBy_setCell b g o v) h1 h2)
/-- a store into a block that is new since a -/
theorem GIn.setNew {B C : Nat} {a b : World} (h : GIn B C a b) {g o : Nat} (h1 : a.heap.size ≤ g) (v : Value) : GIn B C a (b.setCell ⟨g, o, none⟩ v) :=
  ⟨h.os, h.tape, h.output, by simpa [World.setCell] using h.size, fun k hk hn => (Below.heap_setCell b ⟨g, o, none⟩ v k (by simp; omega)).trans (h.block k hk hn)⟩
theorem GIn.grownNew {B C g : Nat} {a b c : World} (h : GIn B C a b) (k : b.grownBy c (some g)) (h1 : a.heap.size ≤ g) : GIn B C a c :=
  ⟨k.os.trans h.os, k.tape.trans h.tape, k.output.trans h.output, Nat.le_trans h.size k.size, fun i hi hn => (k.block i (Nat.lt_of_lt_of_le hi h.size) (fun e => by injection e with e; omega)).trans (h.block i hi hn)⟩
end Go.Proofs.Ytpekccmhfkeadaa
