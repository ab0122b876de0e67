/-
  Bare slices as results: the laws' helpers in one form (a text to be filled). No condition.
-/
import Derived.Test.YtlhbjfjphckifaaBase
import Derived.Test.YtlhbjfjphckifaaNum
import Derived.Test.YtlhbjfjphckifaaInts
import Derived.Test.YtlhbjfjphckifaaApp
import Derived.Test.YtlhbjfjphckifaaIntsW
import Derived.Test.YtlhbjfjphckifaaOwn
namespace Go.Proofs.Ytlhbjfjphckifaa
open Go.RowKit
abbrev IntsRd (w : World) (v : Value) (l : List elemIntS) : Prop := SRd encIntS w v l
abbrev IntsOwn (B : Nat) (w : World) (C : Nat) (v : Value) (l : List elemIntS) : Prop := SOwn encIntS tyIntS B w C v l
def sizeInts (l : List elemIntS) : Nat := l.length
def cntInts (l : List elemIntS) : Nat := 1 * l.length
theorem cntInts_le (t : List elemIntS) : cntInts t ≤ 3 * sizeInts t := by unfold cntInts sizeInts; omega
def markedInts (t : List elemIntS) (k : Int) : List elemIntS := marksIntS t.length k
theorem IntsRd.below {w w' : World} {v : Value} {l : List elemIntS} (h : IntsRd w v l) (hb : Below w.heap.size w w') : IntsRd w' v l := SRd.below h hb
theorem IntsOwn.rd {w : World} {v : Value} {l : List elemIntS} {B C : Nat} (h : IntsOwn B w C v l) : IntsRd w v l := SOwn.rd h
theorem IntsOwn.below {w w' : World} {v : Value} {l : List elemIntS} {B C : Nat} (h : IntsOwn B w C v l) (hb : Below w.heap.size w w') : IntsOwn B w' C v l := SOwn.below h hb
theorem IntsOwn.gin {w w' : World} {v : Value} {l : List elemIntS} {B C B' C' : Nat} (h : IntsOwn B w C v l) (hg : GIn B' C' w w') (hd : C ≤ B' ∨ C' ≤ B) : IntsOwn B w' C v l := SOwn.gin h hg hd
theorem eqInts_c (x0 y0 : Value) (s t : List elemIntS) (w : World) (h : IntsRd w x0 s) (k : IntsRd w y0 t) (hs : sizeInts s ≤ 1099511627776) (ht : sizeInts t ≤ 1099511627776) :
    Calls Try.prog 43 #[x0, y0] w fun e w' => e = .returned (.bool (decide (s = t))) ∧ Below w.heap.size w w' := eqIntS_w x0 y0 s t w h k hs ht
theorem markInts_c (x0 : Value) (t : List elemIntS) (k : Int) (B C : Nat) (w : World) (h : IntsOwn B w C x0 t) (_hC : C ≤ w.heap.size) (hs : sizeInts t ≤ 34359738368) (hk0 : 0 ≤ k) (hk : k ≤ 1048576) :
    Calls Try.prog 44 #[x0, .int .i64 k] w fun e w' => e = .returned (.int .i64 (k + cntInts t)) ∧ IntsOwn B w' C x0 (markedInts t k) ∧ GIn B C w w' :=
  (markIntS_w x0 t k B C w h (by unfold sizeInts at hs; omega) hk0 (by omega)).mono fun _ _ h => ⟨by rw [h.1]; unfold cntInts; simp, h.2.1, h.2.2.1⟩
theorem heldInts_c (x0 : Value) (t : List elemIntS) (k : Int) (w : World) (h : IntsRd w x0 (markedInts t k)) (hs : sizeInts t ≤ 34359738368) (hk0 : 0 ≤ k) (hk : k ≤ 1048576) :
    Calls Try.prog 45 #[x0, .int .i64 k] w fun e w' => e = .returned (.int .i64 (k + cntInts t)) ∧ Below w.heap.size w w' :=
  (heldIntS_w x0 t.length k w h (by unfold sizeInts at hs; omega) hk0 (by omega)).mono fun _ _ h => ⟨by rw [h.1]; unfold cntInts; simp, h.2⟩
end Go.Proofs.Ytlhbjfjphckifaa
