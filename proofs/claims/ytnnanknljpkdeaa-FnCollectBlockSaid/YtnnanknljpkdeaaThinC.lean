/-
  Thin volumes: the program's and the reference's functions. Conditions: lengths at most 2^40.
-/
import Derived.Test.YtnnanknljpkdeaaBase
import Derived.Test.YtnnanknljpkdeaaNum
import Derived.Test.YtnnanknljpkdeaaInts
import Derived.Test.YtnnanknljpkdeaaApp
import Derived.Test.YtnnanknljpkdeaaIntsW
import Derived.Test.YtnnanknljpkdeaaLib
import Derived.Test.YtnnanknljpkdeaaSpares
import Derived.Test.YtnnanknljpkdeaaOwn
import Derived.Test.YtnnanknljpkdeaaThin
import Derived.Test.YtnnanknljpkdeaaThinM
namespace Go.Proofs.Ytnnanknljpkdeaa
open Go.RowKit
theorem thin_no1 {t : Th} (h : decide (t.whr.length ≤ 64) = false) : thinB t = false := by simp [thinB, h]
theorem thin_no2 {t : Th} (h : diskB t.pool = false) : thinB t = false := by simp [thinB, h]
theorem thin_no3 {t : Th} (h : allIn t.whr (-1) (t.pool.length - 1) = false) : thinB t = false := by simp [thinB, h]
theorem thin_no4 {t : Th} {k : Nat} (hk : k < t.whr.length) (h : thinOkAt t k = false) : thinB t = false := by simp [thinB, allK_no hk h]
theorem thin_yes {t : Th} (h1 : t.whr.length ≤ 64) (h2 : diskB t.pool = true) (h3 : allIn t.whr (-1) (t.pool.length - 1) = true) (h4 : allK t.whr.length (thinOkAt t) = true) : thinB t = true := by simp [thinB, h1, h2, h3, h4]
theorem cloneInts_w (v : Value) (l : List Int) (w : World) (h : SRd encIntS w v l) (hl : l.length ≤ 1099511627776) : Calls Try.prog 72 #[v] w (MadeS encIntS tyIntS l w) := by
  obtain ⟨A, c, rfl, hr, _, _, hn⟩ := h
  exact (cloneInts_any A c l w hr hl hn).mono MadeS.of_fresh
end Go.Proofs.Ytnnanknljpkdeaa
