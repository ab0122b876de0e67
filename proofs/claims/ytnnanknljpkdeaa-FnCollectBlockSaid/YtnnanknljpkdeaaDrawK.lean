/-
  Words for draws: picks one after the other, what a literal holds at a drawn index. No condition.
-/
import Derived.Test.YtnnanknljpkdeaaBase
import Derived.Test.YtnnanknljpkdeaaNum
import Derived.Test.YtnnanknljpkdeaaDraw
namespace Go.Proofs.Ytnnanknljpkdeaa
open Go.RowKit
section
variable {w a b : World} {r : Option Nat}
theorem grownBy_drew (h : w.grownBy a r) : w.grownBy a.drew r := ⟨h.os, h.tape, h.output, h.size, h.block⟩
theorem grownBy_below (h : w.grownBy a r) (k : Below a.heap.size a b) : w.grownBy b r := grownBy_trans h (grownBy_of_below k r)
theorem grownBy_alloc (h : w.grownBy a r) (o : Obj) : w.grownBy (a.alloc o) r := grownBy_below h ((Below.refl _ _).alloc (Nat.le_refl _) o)
theorem grownBy_new {g : Nat} (k : a.grownBy b (some g)) (hg : w.heap.size ≤ g) (h : w.grownBy a r) : w.grownBy b r :=
  ⟨k.os.trans h.os, k.tape.trans h.tape, k.output.trans h.output, Nat.le_trans h.size k.size, fun i hi hne => (k.block i (Nat.lt_of_lt_of_le hi h.size) (fun e => by injection e with e; omega)).trans (h.block i hi hne)⟩
theorem grownBy_set {g : Nat} (h : w.grownBy a r) (hg : w.heap.size ≤ g) (o : Nat) (v : Value) : w.grownBy (a.setCell ⟨g, o, none⟩ v) r := grownBy_new (grownBy_setCell a g o v) hg h
end
/-- an index into a literal of numbers: what is read -/
theorem Loc.at_int {w : World} {b : Nat} {l : List Int} (h : Loc w b (l.map (Value.int .i64))) (r : Int) (h0 : 0 ≤ r) (h1 : r < l.length) : ∃ x : Int, x ∈ l ∧ w.cell? ⟨b, r.toNat, none⟩ = some (.int .i64 x) := by
  have hr : r.toNat < l.length := by omega
  exact ⟨l[r.toNat], List.getElem_mem hr, h.cell (by simp [hr])⟩
theorem Loc.lits {w : World} {b : Nat} (l : List Int) {cs : List Value} (h : Loc w b cs) (hc : cs = l.map (Value.int .i64)) : Loc w b (l.map (Value.int .i64)) := hc ▸ h
end Go.Proofs.Ytnnanknljpkdeaa
