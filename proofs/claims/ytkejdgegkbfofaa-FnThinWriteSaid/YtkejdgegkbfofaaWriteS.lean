/-
  Writing one sector of a disk. Conditions: the disk is valid, the sector is on it, the value is in 0..255.
-/
import Derived.Test.YtkejdgegkbfofaaBase
import Derived.Test.YtkejdgegkbfofaaNum
import Derived.Test.YtkejdgegkbfofaaInts
import Derived.Test.YtkejdgegkbfofaaApp
import Derived.Test.YtkejdgegkbfofaaIntsW
import Derived.Test.YtkejdgegkbfofaaLib
import Derived.Test.YtkejdgegkbfofaaCopyB
namespace Go.Proofs.Ytkejdgegkbfofaa
open Go.RowKit
theorem Row.capLe {α : Type} {E : Enc α} {w : World} {g : Nat} {e : TypeId} {A : Option Addr} {c : Nat} {l : List α} (h : Row E w g e A c l) : c ≤ maxLen := by
  rcases h with ⟨_, h, _⟩ | ⟨cur, _, _, _, h, _⟩
  · rw [h]; exact Nat.zero_le _
  · exact h
theorem overAt_one {α : Type} {l : List α} {k : Nat} (hk : k < l.length) (v : α) : overAt l k [v] = l.set k v := by
  apply List.ext_getElem
  · rw [overAt_length l k [v] (by omega)]; simp
  intro t h1 h2
  have ht : t < l.length := by simpa using h2
  rw [overAt_get l k [v] (by omega) t h1 ht, List.getElem_set]
  by_cases he : k = t
  · subst he
    simp
  · rw [if_neg he, dif_neg (by simp; omega)]
set_option maxHeartbeats 2000000 in
theorem implWrite1_c (A : Option Addr) (c : Nat) (d : List Int) (k : Nat) (v : Int) (B : Option Addr) (cv : Nat) (w : World) (ha : Rd eInt w A d) (hnil : A = none → c = 0) (hb : Rd eInt w B [v]) (hd : diskB d = true) (hk : k < d.length) (hv : 0 ≤ v ∧ v ≤ 255) :
    Calls Try.prog 24 #[.slice A d.length c, .int .i64 k, .slice B 1 cv] w (Fresh eInt 3 (d.set k v) w) := by
  have hdl := (diskB_true.1 hd).1
  have h1 : allIn [v] 0 255 = true := by simp [allIn, inB_true.2 hv]
  have h2 : (inB (k : Int) 0 d.length && inB 1 0 ((d.length : Int) - k)) = true := by rw [inB_true.2 (by omega), inB_true.2 (by omega)]; rfl
  have HD := Lib.hid hd
  have H1 := Lib.hid h1
  have H2 := Lib.hid h2
  have HV := Lib.hid hv
  clear hd h1 h2 hv
  go_enter Try.func24, Try.ntmps24
  go_wp2_with (first
    | (go_at_call 42; refine (diskValid_any A c d _ ha (by omega)).mono ?_; rw [HD.out]; rintro e w' ⟨rfl, rfl⟩)
    | (go_at_call 43; refine (allWithin_any B cv [v] 0 255 _ hb (by simp)).mono ?_; rw [H1.out]; rintro e w' ⟨rfl, rfl⟩)
    | (go_at_call 46; refine (isStretch_any k 1 d.length _ (by omega) (by omega)).mono ?_; rw [H2.out]; rintro e w' ⟨rfl, rfl⟩)
    | (go_at_call 47; go_must (refine (cloneInts_any A c d _ ha (by omega) hnil).mono ?_; rintro e w1 ⟨A1, c1, g1, rfl, hg1, row1, hb1⟩; obtain ⟨rfl, hgl, hfz, -⟩ := row1.int (by omega); have hlc := row1.le; have hcm : c1 ≤ maxLen := row1.capLe; have hk0 : (0 : Int) ≤ (k : Int) := (by omega); have hk1 : (k : Int) ≤ (d.length : Int) := (by omega); have hk2 : (k : Int) ≤ (c1 : Int) := (by omega); have hk3 : c1 - k ≠ 0 := (by omega); have hk4 : ¬ (k = c1) := (by omega); have HR := Lib.hid row1; have HB := Lib.hid (Rd.below hb hb1); have HB1 := Lib.hid hb1; clear row1 hb1))
    | ((with_reducible refine wpList_copy_recs (o := ⟨some 31, _, _, _, _, _⟩) rfl _ _ rfl el_int HR.out k (d.length - k) (c1 - k) (by omega) rfl (some ⟨g1, k, none⟩) (fun _ => by simp [eInt]) rfl B cv [v] rfl HB.out ?_); intro w2 HR2 hg2))
  go_ret
  refine ⟨some ⟨g1, 0, none⟩, c1, g1, by simp, hg1, ?_, Below.grown1 HB1.out hg2 HB1.out.size hg1⟩
  have := HR2.out
  rw [overAt_one hk] at this
  exact this
end Go.Proofs.Ytkejdgegkbfofaa
