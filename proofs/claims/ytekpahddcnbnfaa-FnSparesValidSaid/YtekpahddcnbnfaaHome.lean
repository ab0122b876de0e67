/-
  Homes of sectors: the program's and the reference's walk through the bad sectors come to one number.
-/
import Derived.Test.YtekpahddcnbnfaaBase
import Derived.Test.YtekpahddcnbnfaaNum
import Derived.Test.YtekpahddcnbnfaaInts
import Derived.Test.YtekpahddcnbnfaaApp
import Derived.Test.YtekpahddcnbnfaaIntsW
import Derived.Test.YtekpahddcnbnfaaLib
import Derived.Test.YtekpahddcnbnfaaSpares
namespace Go.Proofs.Ytekpahddcnbnfaa
open Go.RowKit
def homeGo : List Int → Int → Int → Int
  | [], _, a => a
  | b :: r, nx, a => homeGo r (nx + 1) (if b = a then nx else a)
theorem homeGo_append (p q : List Int) (nx a : Int) : homeGo (p ++ q) nx a = homeGo q (nx + p.length) (homeGo p nx a) := by
  induction p generalizing nx a with
  | nil => simp [homeGo]
  | cons b r ih =>
    simp only [List.cons_append, homeGo, ih, List.length_cons]
    congr 1
    omega
theorem homeGo_none {l : List Int} {a : Int} (h : a ∉ l) (nx : Int) : homeGo l nx a = a := by
  induction l generalizing nx with
  | nil => rfl
  | cons b r ih =>
    simp only [List.mem_cons, not_or] at h
    rw [homeGo, if_neg (fun e => h.1 e.symm), ih h.2]
/-- bad sector number k is below sec + k -/
def badLow (sec : Int) (l : List Int) : Prop := ∀ k (hk : k < l.length), 0 ≤ l[k] ∧ l[k] < sec + k
theorem homeGo_step {l : List Int} {sec a : Int} {k : Nat} (hv : badLow sec l) (hk : k < l.length) (he : l[k] = a) (hf : ∀ j (hj : j < k), l[j] ≠ a) : homeGo l sec a = homeGo l sec (sec + k) := by
  have hsplit : l = l.take k ++ (a :: l.drop (k + 1)) := by
    rw [← he, ← List.drop_eq_getElem_cons hk, List.take_append_drop]
  have hlen : ((l.take k).length : Int) = k := by simp; omega
  have n1 : a ∉ l.take k := by
    intro hm
    obtain ⟨i, hi, hie⟩ := List.getElem_of_mem hm
    rw [List.getElem_take] at hie
    exact hf i (by simp at hi; omega) hie
  have n2 : sec + (k : Int) ∉ l.take k := by
    intro hm
    obtain ⟨i, hi, hie⟩ := List.getElem_of_mem hm
    rw [List.getElem_take] at hie
    have := hv i (by simp at hi; omega)
    have hik : i < k := by simp at hi; omega
    omega
  rw [hsplit, homeGo_append, homeGo_append, homeGo_none n1, homeGo_none n2, hlen]
  simp only [homeGo, if_true]
  split <;> rfl
theorem badLow_of {sec : Int} {l : List Int} (h : allK l.length (badOk sec l) = true) : badLow sec l := by
  intro k hk
  have := allK_iff.1 h k hk
  rw [badOk_get hk, Bool.and_eq_true, inB_true] at this
  omega
theorem spares_parts {s : Sp} (h : sparesB s = true) : (1 ≤ s.sec ∧ s.sec ≤ 100000) ∧ (0 ≤ s.cnt ∧ s.cnt ≤ 16) ∧ (s.bad.length : Int) ≤ s.cnt ∧ badLow s.sec s.bad := by
  simp only [sparesB, Bool.and_eq_true, inB_true, decide_eq_true_eq] at h
  exact ⟨h.1.1.1, h.1.1.2, h.1.2, badLow_of h.2⟩
def homeB (s : Sp) (a : Int) : Int := if sparesB s && inB a 0 (s.sec - 1) then homeGo s.bad s.sec a else -1
set_option maxHeartbeats 1000000 in
theorem homeOf_any (s : Sp) (A : Option Addr) (c : Nat) (a : Int) (w : World) (hs : sparesB s = true) (h0 : 0 ≤ a) (h1 : a ≤ 200000) (ha : Rd eInt w A s.bad) :
    Calls Try.prog 33 #[.agg #[.int .i64 s.sec, .int .i64 s.cnt, .slice A s.bad.length c], .int .i64 a] w fun e w' => e = .returned (.int .i64 (homeGo s.bad s.sec a)) ∧ Below w.heap.size w w' := by
  obtain ⟨⟨s0, s1⟩, ⟨c0, c1⟩, hlc, hv⟩ := spares_parts hs
  obtain ⟨sec, cnt, bad⟩ := s
  simp only at ha s0 s1 c0 c1 hlc hv
  have HV := Lib.hid hv
  clear hv hs
  have HR := Lib.hid (ha.alloc (.cells #[.int .i64 sec, .int .i64 cnt, .slice A bad.length c] 27))
  have hl : bad.length ≤ 16 := by omega
  go_enter Try.func33, Try.ntmps33
  go_wp2
  go_loop [1] (fun x => ∃ y : Int, x = .int .i64 y ∧ 0 ≤ y ∧ y ≤ 200000 ∧ homeGo bad sec a = homeGo bad sec y) (fun x => (sec + bad.length - intOf x).toNat)
  case atStart => exact ⟨a, rfl, h0, h1, rfl⟩
  case round =>
    obtain ⟨y, rfl, y0, y1, hy⟩ := hrel
    have HY := Lib.hid hy
    clear hy
    by_cases hi : idx bad y < 0
    · obtain ⟨i, hie⟩ : ∃ i, i = idx bad y := ⟨_, rfl⟩
      have HI := Lib.hid hie
      rw [← hie] at hi
      clear hie
      go_wp2_with (go_at_call 41; refine (index_any A _ c bad y _ rfl HR.out (by omega)).mono ?_; rw [← HI.out]; rintro e w' ⟨rfl, rfl⟩)
      go_ret
      refine ⟨ret_int ?_, (by repeat (first | with_reducible exact Below.refl _ _ | with_reducible assumption | with_reducible refine below_drewN ?_ _ | with_reducible refine Below.drew ?_ | with_reducible refine Below.alloc ?_ ?_ _ | with_reducible refine Below.setCell ?_ ?_ _ | (with_reducible refine Below.next ?_ (by assumption)) | omega | (focus (simp; omega)) | (focus (simp; done))))⟩
      rw [HY.out, homeGo_none (idx_neg.1 (by rw [← HI.out]; exact hi))]
    · obtain ⟨k, hke, hk, hle, hf⟩ := idx_get (Int.not_lt.1 hi)
      have HK := Lib.hid hke
      clear hke hi
      have HS := Lib.hid (homeGo_step HV.out hk hle hf)
      have hlow := HV.out k hk
      rw [hle] at hlow
      obtain ⟨l0, l1⟩ := hlow
      clear hle hf
      go_wp2_with (go_at_call 41; refine (index_any A _ c bad y _ rfl HR.out (by omega)).mono ?_; rw [HK.out]; rintro e w' ⟨rfl, rfl⟩)
      go_round
      case rel => exact ⟨sec + k, rfl, by omega, by omega, by rw [HY.out, HS.out]⟩
      case measure => simp [intOf]; omega
set_option maxHeartbeats 1000000 in
theorem l22Home_any (s : Sp) (A : Option Addr) (c : Nat) (a : Int) (w : World) (hs : sparesB s = true) (ha : Rd eInt w A s.bad) :
    Calls Try.prog 32 #[.agg #[.int .i64 s.sec, .int .i64 s.cnt, .slice A s.bad.length c], .int .i64 s.bad.length, .int .i64 a] w fun e w' => e = .returned (.int .i64 (homeGo s.bad s.sec a)) ∧ Below w.heap.size w w' := by
  obtain ⟨⟨s0, s1⟩, ⟨c0, c1⟩, hlc, hv⟩ := spares_parts hs
  obtain ⟨sec, cnt, bad⟩ := s
  simp only at ha s0 s1 c0 c1 hlc hv
  clear hv hs
  have hl : bad.length ≤ 16 := by omega
  go_enter Try.func32, Try.ntmps32
  go_wp2
  go_loop [2, 7, 8] (fun x nx i => ∃ (k : Nat) (y : Int), k ≤ bad.length ∧ i = .int .i64 k ∧ nx = .int .i64 (sec + k) ∧ x = .int .i64 y ∧ homeGo bad sec a = homeGo (bad.drop k) (sec + k) y) (fun _ _ i => bad.length - (intOf i).toNat)
  case atStart => exact ⟨0, a, Nat.zero_le _, rfl, by simp, rfl, by simp⟩
  case round =>
    obtain ⟨k, y, hk, rfl, rfl, rfl, hy⟩ := hrel
    have HY := Lib.hid hy
    clear hy
    by_cases hlt : k < bad.length
    · obtain ⟨b, off, rfl, hbl, hc⟩ := ha.int hlt
      have HD : Hid (homeGo (bad.drop k) (sec + k) y = homeGo (bad.drop (k + 1)) (sec + k + 1) (if bad[k]'hlt = y then sec + k else y)) := Lib.hid (by rw [List.drop_eq_getElem_cons hlt]; rfl)
      cases hee : ((bad[k]'hlt) == y)
      · have HE := Lib.hid hee
        go_wp2
        go_round
        case rel =>
          refine ⟨k + 1, y, by omega, by go_num, by go_num, rfl, ?_⟩
          rw [HY.out, HD.out, if_neg (by simpa using HE.out)]
          congr 1
          omega
        case measure => simp [intOf]; omega
      · have HE := Lib.hid hee
        go_wp2
        go_round
        case rel =>
          refine ⟨k + 1, sec + k, by omega, by go_num, by go_num, rfl, ?_⟩
          rw [HY.out, HD.out, if_pos (by simpa using HE.out)]
          congr 1
          omega
        case measure => simp [intOf]; omega
    · go_wp2
      go_ret
      refine ⟨ret_int ?_, (by repeat (first | with_reducible exact Below.refl _ _ | with_reducible assumption | with_reducible refine below_drewN ?_ _ | with_reducible refine Below.drew ?_ | with_reducible refine Below.alloc ?_ ?_ _ | with_reducible refine Below.setCell ?_ ?_ _ | (with_reducible refine Below.next ?_ (by assumption)) | omega | (focus (simp; omega)) | (focus (simp; done))))⟩
      rw [HY.out, List.drop_of_length_le (by omega)]
      rfl
set_option maxHeartbeats 2000000 in
theorem implHome_any (s : Sp) (A : Option Addr) (c : Nat) (a : Int) (w : World) (ha : Rd eInt w A s.bad) (hlc0 : s.bad.length ≤ c) (hl0 : s.bad.length ≤ 1099511627776) :
    Calls Try.prog 16 #[.agg #[.int .i64 s.sec, .int .i64 s.cnt, .slice A s.bad.length c], .int .i64 a] w fun e w' => e = .returned (.int .i64 (homeB s a)) ∧ Below w.heap.size w w' := by
  by_cases hs : sparesB s = true
  · obtain ⟨⟨s0, s1⟩, ⟨c0, c1⟩, hlc, _⟩ := spares_parts hs
    cases hi : inB a 0 (s.sec - 1)
    · have e1 : homeB s a = -1 := by simp [homeB, hi]
      rw [e1]
      have HS := Lib.hid hs
      have hl := Lib.hid (show s.bad.length ≤ 1099511627776 by omega)
      clear hs e1
      go_enter Try.func16, Try.ntmps16
      go_wp2_with fail
      refine (implSpares_any s A c _ (by repeat (first | with_reducible assumption | with_reducible refine Rd.drew ?_ | with_reducible refine Rd.drewN ?_ _ | with_reducible refine Rd.alloc ?_ _ | (with_reducible refine Rd.below ?_ (by assumption)))) hlc0 hl.out).mono ?_
      rw [HS.out]
      rintro e w1 ⟨rfl, hb1⟩
      obtain ⟨hc1, hf1⟩ := bcell hb1
      have hz1 := hb1.size
      try simp at hz1
      go_wp2_with (go_at_call 29; refine (within_any _ _ _ _).mono ?_; rintro e w' ⟨rfl, rfl⟩)
      go_ret
      exact ⟨rfl, (by repeat (first | with_reducible exact Below.refl _ _ | with_reducible assumption | with_reducible refine below_drewN ?_ _ | with_reducible refine Below.drew ?_ | with_reducible refine Below.alloc ?_ ?_ _ | with_reducible refine Below.setCell ?_ ?_ _ | (with_reducible refine Below.next ?_ (by assumption)) | omega | (focus (simp; omega)) | (focus (simp; done))))⟩
    · obtain ⟨a0, a1⟩ := inB_true.1 hi
      have e1 : homeB s a = homeGo s.bad s.sec a := by simp [homeB, hi, hs]
      rw [e1]
      have HS := Lib.hid hs
      have hl := Lib.hid (show s.bad.length ≤ 1099511627776 by omega)
      clear hs e1
      go_enter Try.func16, Try.ntmps16
      go_wp2_with fail
      refine (implSpares_any s A c _ (by repeat (first | with_reducible assumption | with_reducible refine Rd.drew ?_ | with_reducible refine Rd.drewN ?_ _ | with_reducible refine Rd.alloc ?_ _ | (with_reducible refine Rd.below ?_ (by assumption)))) hlc0 hl.out).mono ?_
      rw [HS.out]
      rintro e w1 ⟨rfl, hb1⟩
      obtain ⟨hc1, hf1⟩ := bcell hb1
      have hz1 := hb1.size
      try simp at hz1
      go_wp2_with (go_at_call 29; refine (within_any _ _ _ _).mono ?_; rintro e w' ⟨rfl, rfl⟩)
      refine (homeOf_any s A c a _ HS.out (by omega) (by omega) (by repeat (first | with_reducible assumption | with_reducible refine Rd.drew ?_ | with_reducible refine Rd.drewN ?_ _ | with_reducible refine Rd.alloc ?_ _ | (with_reducible refine Rd.below ?_ (by assumption))))).mono ?_
      rintro e w2 ⟨rfl, hb2⟩
      go_wp2
      go_ret
      exact ⟨rfl, (by repeat (first | with_reducible exact Below.refl _ _ | with_reducible assumption | with_reducible refine below_drewN ?_ _ | with_reducible refine Below.drew ?_ | with_reducible refine Below.alloc ?_ ?_ _ | with_reducible refine Below.setCell ?_ ?_ _ | (with_reducible refine Below.next ?_ (by assumption)) | omega | (focus (simp; omega)) | (focus (simp; done))))⟩
  · have hs' : sparesB s = false := by simpa using hs
    have e1 : homeB s a = -1 := by simp [homeB, hs']
    rw [e1]
    have HS := Lib.hid hs'
    clear hs hs' e1
    go_enter Try.func16, Try.ntmps16
    go_wp2_with fail
    refine (implSpares_any s A c _ (by repeat (first | with_reducible assumption | with_reducible refine Rd.drew ?_ | with_reducible refine Rd.drewN ?_ _ | with_reducible refine Rd.alloc ?_ _ | (with_reducible refine Rd.below ?_ (by assumption)))) hlc0 hl0).mono ?_
    rw [HS.out]
    rintro e w1 ⟨rfl, hb1⟩
    go_wp2
    go_ret
    exact ⟨rfl, (by repeat (first | with_reducible exact Below.refl _ _ | with_reducible assumption | with_reducible refine below_drewN ?_ _ | with_reducible refine Below.drew ?_ | with_reducible refine Below.alloc ?_ ?_ _ | with_reducible refine Below.setCell ?_ ?_ _ | (with_reducible refine Below.next ?_ (by assumption)) | omega | (focus (simp; omega)) | (focus (simp; done))))⟩
set_option maxHeartbeats 2000000 in
theorem specHome_any (s : Sp) (A : Option Addr) (c : Nat) (a : Int) (w : World) (ha : Rd eInt w A s.bad) (hl0 : s.bad.length ≤ 1099511627776) :
    Calls Try.prog 15 #[.agg #[.int .i64 s.sec, .int .i64 s.cnt, .slice A s.bad.length c], .int .i64 a] w fun e w' => e = .returned (.int .i64 (homeB s a)) ∧ Below w.heap.size w w' := by
  by_cases hs : sparesB s = true
  · obtain ⟨⟨s0, s1⟩, ⟨c0, c1⟩, hlc, _⟩ := spares_parts hs
    cases hi : inB a 0 (s.sec - 1)
    · have e1 : homeB s a = -1 := by simp [homeB, hi]
      rw [e1]
      have HS := Lib.hid hs
      have hl := Lib.hid (show s.bad.length ≤ 1099511627776 by omega)
      clear hs e1
      go_enter Try.func15, Try.ntmps15
      go_wp2_with fail
      refine (specSpares_any s A c _ (by repeat (first | with_reducible assumption | with_reducible refine Rd.drew ?_ | with_reducible refine Rd.drewN ?_ _ | with_reducible refine Rd.alloc ?_ _ | (with_reducible refine Rd.below ?_ (by assumption)))) hl.out).mono ?_
      rw [HS.out]
      rintro e w1 ⟨rfl, hb1⟩
      obtain ⟨hc1, hf1⟩ := bcell hb1
      have hz1 := hb1.size
      try simp at hz1
      go_wp2_with (go_at_call 27; refine (l1In_any _ _ _ _).mono ?_; rintro e w' ⟨rfl, rfl⟩)
      go_ret
      exact ⟨rfl, (by repeat (first | with_reducible exact Below.refl _ _ | with_reducible assumption | with_reducible refine below_drewN ?_ _ | with_reducible refine Below.drew ?_ | with_reducible refine Below.alloc ?_ ?_ _ | with_reducible refine Below.setCell ?_ ?_ _ | (with_reducible refine Below.next ?_ (by assumption)) | omega | (focus (simp; omega)) | (focus (simp; done))))⟩
    · obtain ⟨a0, a1⟩ := inB_true.1 hi
      have e1 : homeB s a = homeGo s.bad s.sec a := by simp [homeB, hi, hs]
      rw [e1]
      have HS := Lib.hid hs
      have hl := Lib.hid (show s.bad.length ≤ 1099511627776 by omega)
      clear hs e1
      go_enter Try.func15, Try.ntmps15
      go_wp2_with fail
      refine (specSpares_any s A c _ (by repeat (first | with_reducible assumption | with_reducible refine Rd.drew ?_ | with_reducible refine Rd.drewN ?_ _ | with_reducible refine Rd.alloc ?_ _ | (with_reducible refine Rd.below ?_ (by assumption)))) hl.out).mono ?_
      rw [HS.out]
      rintro e w1 ⟨rfl, hb1⟩
      obtain ⟨hc1, hf1⟩ := bcell hb1
      have hz1 := hb1.size
      try simp at hz1
      go_wp2_with (go_at_call 27; refine (l1In_any _ _ _ _).mono ?_; rintro e w' ⟨rfl, rfl⟩)
      refine (l22Home_any s A c a _ HS.out (by repeat (first | with_reducible assumption | with_reducible refine Rd.drew ?_ | with_reducible refine Rd.drewN ?_ _ | with_reducible refine Rd.alloc ?_ _ | (with_reducible refine Rd.below ?_ (by assumption))))).mono ?_
      rintro e w2 ⟨rfl, hb2⟩
      go_wp2
      go_ret
      exact ⟨rfl, (by repeat (first | with_reducible exact Below.refl _ _ | with_reducible assumption | with_reducible refine below_drewN ?_ _ | with_reducible refine Below.drew ?_ | with_reducible refine Below.alloc ?_ ?_ _ | with_reducible refine Below.setCell ?_ ?_ _ | (with_reducible refine Below.next ?_ (by assumption)) | omega | (focus (simp; omega)) | (focus (simp; done))))⟩
  · have hs' : sparesB s = false := by simpa using hs
    have e1 : homeB s a = -1 := by simp [homeB, hs']
    rw [e1]
    have HS := Lib.hid hs'
    clear hs hs' e1
    go_enter Try.func15, Try.ntmps15
    go_wp2_with fail
    refine (specSpares_any s A c _ (by repeat (first | with_reducible assumption | with_reducible refine Rd.drew ?_ | with_reducible refine Rd.drewN ?_ _ | with_reducible refine Rd.alloc ?_ _ | (with_reducible refine Rd.below ?_ (by assumption)))) hl0).mono ?_
    rw [HS.out]
    rintro e w1 ⟨rfl, hb1⟩
    go_wp2
    go_ret
    exact ⟨rfl, (by repeat (first | with_reducible exact Below.refl _ _ | with_reducible assumption | with_reducible refine below_drewN ?_ _ | with_reducible refine Below.drew ?_ | with_reducible refine Below.alloc ?_ ?_ _ | with_reducible refine Below.setCell ?_ ?_ _ | (with_reducible refine Below.next ?_ (by assumption)) | omega | (focus (simp; omega)) | (focus (simp; done))))⟩
end Go.Proofs.Ytekpahddcnbnfaa
