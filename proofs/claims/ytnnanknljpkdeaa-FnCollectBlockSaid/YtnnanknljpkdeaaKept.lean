/-
  What lies in blocks from B on is kept. No condition: plain lemmas.
-/
import Derived.Test.YtnnanknljpkdeaaBase
import Derived.Test.YtnnanknljpkdeaaNum
import Derived.Test.YtnnanknljpkdeaaApp
import Derived.Test.YtnnanknljpkdeaaIntsW
import Derived.Test.YtnnanknljpkdeaaOwn
namespace Go.Proofs.Ytnnanknljpkdeaa
open Go.RowKit
/-- The blocks from B on are as they were. -/
def Kept (B : Nat) (w w' : World) : Prop := ∀ k, B ≤ k → k < w.heap.size → w'.heap[k]? = w.heap[k]?
theorem Kept.mono {B B' : Nat} {w w' : World} (h : Kept B w w') (hB : B ≤ B') : Kept B' w w' := fun k h1 h2 => h k (by omega) h2
theorem Kept.refl (B : Nat) (w : World) : Kept B w w := fun _ _ _ => rfl
theorem Kept.of_below {B : Nat} {w w' : World} (h : Below w.heap.size w w') : Kept B w w' := fun k _ hk => h.block k hk
theorem Kept.of_grown {B R : Nat} {w w' : World} (h : w.grownBy w' (some R)) (hR : R < B) : Kept B w w' := fun k hB hk => h.block k hk (fun e => by injection e with e; omega)
theorem Kept.drew {B : Nat} {w w' : World} (h : Kept B w w') : Kept B w w'.drew := h
theorem Kept.drewN {B : Nat} {w w' : World} (h : Kept B w w') (n : Nat) : Kept B w (w'.drewN n) := h
theorem Kept.alloc {B : Nat} {w w' : World} (h : Kept B w w') (hs : w.heap.size ≤ w'.heap.size) (o : Obj) : Kept B w (w'.alloc o) := fun k h1 h2 => by
  have : ((Below.refl w'.heap.size w').alloc (Nat.le_refl _) o).block k (by omega) = _ := rfl
  exact (((Below.refl w'.heap.size w').alloc (Nat.le_refl _) o).block k (by omega)).trans (h k h1 h2)
theorem Kept.set {B g o : Nat} {w w' : World} (h : Kept B w w') (hg : g < B ∨ w.heap.size ≤ g) (v : Value) : Kept B w (w'.setCell ⟨g, o, none⟩ v) := fun k h1 h2 =>
  (Below.heap_setCell w' ⟨g, o, none⟩ v k (by simp only; omega)).trans (h k h1 h2)
theorem Kept.trans {B : Nat} {w w1 w2 : World} (h : Kept B w w1) (k : Kept B w1 w2) (hs : w.heap.size ≤ w1.heap.size) : Kept B w w2 := fun i h1 h2 => (k i h1 (by omega)).trans (h i h1 h2)
theorem SOwn.kept {α : Type} {E : Enc α} {e : TypeId} {B C : Nat} {w w' : World} {v : Value} {l : List α} (h : SOwn E e B w C v l) (hk : Kept B w w') : SOwn E e B w' C v l := by
  obtain ⟨A, c, g, rfl, hr, h1⟩ := h
  refine ⟨A, c, g, rfl, ?_, h1⟩
  rcases h1 with h1 | h1
  · rcases hr with hr | ⟨cur, hA, _⟩
    · exact .inl hr
    · rw [h1] at hA; cases hA
  · exact hr.keep fun hl => hk g h1.1 hl
end Go.Proofs.Ytnnanknljpkdeaa
