/-
  New flash memories: the plain laws, and the draw. No condition.
-/
import Derived.Test.YtnnanknljpkdeaaBase
import Derived.Test.YtnnanknljpkdeaaNum
import Derived.Test.YtnnanknljpkdeaaInts
import Derived.Test.YtnnanknljpkdeaaApp
import Derived.Test.YtnnanknljpkdeaaIntsW
import Derived.Test.YtnnanknljpkdeaaLib
import Derived.Test.YtnnanknljpkdeaaSpares
import Derived.Test.YtnnanknljpkdeaaOwn
import Derived.Test.YtnnanknljpkdeaaPage
import Derived.Test.YtnnanknljpkdeaaFlash
import Derived.Test.YtnnanknljpkdeaaFlashM
import Derived.Test.YtnnanknljpkdeaaFlashC
import Derived.Test.YtnnanknljpkdeaaFlashD
import Derived.Test.YtnnanknljpkdeaaFlashV
import Derived.Test.YtnnanknljpkdeaaThinC
import Derived.Test.YtnnanknljpkdeaaFlashW
import Derived.Test.YtnnanknljpkdeaaFlashN
import Derived.Test.YtnnanknljpkdeaaFlashX
import Derived.Test.YtnnanknljpkdeaaFlashY
import Derived.Test.YtnnanknljpkdeaaFlashCB
import Derived.Test.YtnnanknljpkdeaaDraw
import Derived.Test.YtnnanknljpkdeaaDrawK
import Derived.Laws.StructEq
import Derived.IntWalk
import Derived.StillTailTactics
namespace Go.Proofs.Ytnnanknljpkdeaa
open Go.RowKit
theorem drawNf_any (A : Option Addr) (c : Nat) (l : List Int) (w : World) (hl : l.length ≤ c) (hm : c ≤ maxLen) (hr : Rd eByte w A l) (hb : ∀ x ∈ l, 0 ≤ x ∧ x ≤ 255) :
    Calls Try.prog 34 #[.slice A l.length c] w fun e w' => ∃ n : Int, e = .returned (.int .i64 n) ∧ -1 ≤ n ∧ n ≤ 7 ∧ Below w.heap.size w w' := by
  have HB := Lib.hid hb
  clear hb
  have hA : Hid (∀ b off, 0 < l.length → A = some ⟨b, off, none⟩ → b < w.heap.size) := Lib.hid fun _ _ h0 hA => hr.lt h0 hA
  go_enter Try.func34, Try.ntmps34
  go_wp2_with fail
  refine (l20Open_any A c l _ hl hm hr HB.out w.heap.size hA.out (Nat.le_refl _)).mono ?_
  rintro e w1 ⟨R, rfl, hR1, hge, hb1⟩
  have hz1 := hb1.size
  go_wp2_with fail
  refine (pick_any w.heap.size R 0 9 _ hR1 (by omega) (by omega) (by omega)).mono ?_
  rintro e w2 ⟨r, rfl, a, b, hR2, hg2⟩
  have b' := b (by omega)
  clear b
  have HB2 := Lib.hid (below_of_grown hb1 hg2 hz1 hge)
  clear hg2 hb1
  go_wp2
  go_ret
  exact ⟨_, rfl, by omega, by omega, HB2.out⟩
theorem stale_new (m : Nat) : staleN (List.replicate m freeP) = 0 := by
  unfold staleN
  rw [List.countP_eq_zero]
  intro p hp
  rw [List.eq_of_mem_replicate hp]
  decide
theorem val_new (m : Nat) (k : Int) (hk : 0 ≤ k) : valOf (List.replicate m freeP) k = 0 := by
  unfold valOf
  have : (List.replicate m freeP).find? (fun p => p.own == k) = none := by
    rw [List.find?_eq_none]
    intro p hp
    rw [List.eq_of_mem_replicate hp]
    have e : freeP.own = -1 := rfl
    rw [e]; simp; omega
  rw [this]
theorem newF_ok {n : Nat} (h2 : 2 ≤ n) (h6 : n ≤ 6) : FlashOk ⟨List.replicate (n * 4) freeP, List.replicate n 0⟩ := by
  rw [← flashB_iff]
  refine flash_yes (inB_true.2 (by simp; omega)) (by simp) ?_ ?_
  · rw [allIn, List.all_eq_true]
    intro x hx
    rw [List.eq_of_mem_replicate hx]; decide
  · rw [allK_iff]
    intro k hk
    have hk' : k < n * 4 := by simpa using hk
    rw [flashOkAt_get hk rfl]
    have e : (List.replicate (n * 4) freeP)[k]'hk = freeP := by simp
    simp only [e]
    have e1 : freeP.own = -1 := rfl
    have e2 : freeP.val = 0 := rfl
    rw [e1, e2]
    simp [inB]
    omega
theorem newF_facts {n : Int} (h2 : 2 ≤ n) (h6 : n ≤ 6) : ∃ f : Fl, newF n = f ∧ (f.pages.length : Int) = n * 4 ∧ (f.erases.length : Int) = n ∧ flashB f = true ∧ collectB f = f ∧ collectBOk f = false ∧ wearB f = 0 ∧ viewF f = List.replicate ((4 * (n - 1)).toNat) 0 := by
  obtain ⟨m, rfl⟩ := Int.eq_ofNat_of_zero_le (by omega : 0 ≤ n)
  have hi : inB (m : Int) 2 6 = true := inB_true.2 ⟨h2, h6⟩
  have hok := newF_ok (n := m) (by omega) (by omega)
  have hb := flashB_iff.2 hok
  have hc : collectOk ⟨List.replicate (m * 4) freeP, List.replicate m 0⟩ = false := by rw [collectOk_iff hok]; simp [stale_new]
  refine ⟨⟨List.replicate (m * 4) freeP, List.replicate m 0⟩, by rw [newF_yes hi, Int.toNat_natCast], by simp, by simp, hb, ?_, ?_, ?_, ?_⟩
  · rw [(collectB_yes hb).1, collectF, hc]; rfl
  · rw [(collectB_yes hb).2, hc]
  · simp only [wearB, hb, if_true]
    have hm : ∀ k, (List.replicate k (0 : Int)).foldl max 0 = 0 := fun k => by induction k with
      | zero => rfl
      | succ k ih => rw [List.replicate_succ, List.foldl_cons]; simpa using ih
    have hn : ∀ k, (List.replicate k (0 : Int)).foldl min 0 = 0 := fun k => by induction k with
      | zero => rfl
      | succ k ih => rw [List.replicate_succ, List.foldl_cons]; simpa using ih
    have e0 : (List.replicate m (0 : Int)).getD 0 0 = 0 := by
      cases m with
      | zero => rfl
      | succ m => simp [List.replicate_succ]
    unfold maxL minL
    rw [e0, hm, hn]
    rfl
  · rw [viewF_yes hb]
    simp only [List.length_replicate]
    rw [show (4 * ((m : Int) - 1)).toNat = (m - 1) * 4 by omega]
    apply List.ext_getElem
    · simp [viewL]
    · intro k h1 h2
      rw [viewL_get, val_new _ _ (by omega)]
      simp
end Go.Proofs.Ytnnanknljpkdeaa
