/-
  Contracts of the functions on lists of spare sectors. Conditions: lengths at most 2^40.
-/
import Derived.Test.YtekpahddcnbnfaaBase
import Derived.Test.YtekpahddcnbnfaaNum
import Derived.Test.YtekpahddcnbnfaaInts
import Derived.Test.YtekpahddcnbnfaaApp
import Derived.Test.YtekpahddcnbnfaaIntsW
import Derived.Test.YtekpahddcnbnfaaLib
namespace Go.Proofs.Ytekpahddcnbnfaa
open Go.RowKit
/-- the first n numbers all meet p -/
def allK (n : Nat) (p : Nat → Bool) : Bool := (List.range n).all p
theorem allK_iff {n : Nat} {p : Nat → Bool} : allK n p = true ↔ ∀ k, k < n → p k = true := by simp [allK]
theorem allK_succ {k : Nat} {p : Nat → Bool} (h : allK k p = true) (hp : p k = true) : allK (k + 1) p = true := by
  rw [allK_iff] at h ⊢
  intro j hj
  by_cases hjk : j = k
  · rw [hjk]; exact hp
  · exact h j (by omega)
theorem allK_no {n k : Nat} {p : Nat → Bool} (hk : k < n) (hp : p k = false) : allK n p = false := by
  cases h : allK n p
  · rfl
  · rw [allK_iff] at h
    rw [h k hk] at hp
    cases hp
structure Sp where
  sec : Int
  cnt : Int
  bad : List Int
deriving DecidableEq
def badOk (sec : Int) (l : List Int) (k : Nat) : Bool := inB (l.getD k 0) 0 (sec + k - 1) && !decide (l.getD k 0 ∈ l.take k)
theorem badOk_get {sec : Int} {l : List Int} {k : Nat} (hk : k < l.length) : badOk sec l k = (inB l[k] 0 (sec + k - 1) && !decide (l[k] ∈ l.take k)) := by simp [badOk, hk]
def sparesB (s : Sp) : Bool := inB s.sec 1 100000 && inB s.cnt 0 16 && decide ((s.bad.length : Int) ≤ s.cnt) && allK s.bad.length (badOk s.sec s.bad)
set_option maxHeartbeats 1000000 in
theorem implSpares_any (s : Sp) (A : Option Addr) (c : Nat) (w : World) (ha : Rd eInt w A s.bad) (hc : s.bad.length ≤ c) (hl : s.bad.length ≤ 1099511627776) :
    Calls Try.prog 13 #[.agg #[.int .i64 s.sec, .int .i64 s.cnt, .slice A s.bad.length c]] w fun e w' => e = .returned (.bool (sparesB s)) ∧ Below w.heap.size w w' := by
  obtain ⟨sec, cnt, bad⟩ := s
  simp only at ha hl hc
  cases h1 : inB sec 1 100000
  · go_enter Try.func13, Try.ntmps13
    go_wp2_with (go_at_call 29; refine (within_any _ _ _ _).mono ?_; rintro e w' ⟨rfl, rfl⟩)
    go_ret
    exact ⟨ret_bool (by simp [sparesB, h1]), (by repeat (first | with_reducible exact Below.refl _ _ | with_reducible assumption | with_reducible refine below_drewN ?_ _ | with_reducible refine Below.drew ?_ | with_reducible refine Below.alloc ?_ ?_ _ | with_reducible refine Below.setCell ?_ ?_ _ | (with_reducible refine Below.next ?_ (by assumption)) | omega | (focus (simp; omega)) | (focus (simp; done))))⟩
  cases h2 : inB cnt 0 16
  · go_enter Try.func13, Try.ntmps13
    go_wp2_with (go_at_call 29; refine (within_any _ _ _ _).mono ?_; rintro e w' ⟨rfl, rfl⟩)
    go_ret
    exact ⟨ret_bool (by simp [sparesB, h2]), (by repeat (first | with_reducible exact Below.refl _ _ | with_reducible assumption | with_reducible refine below_drewN ?_ _ | with_reducible refine Below.drew ?_ | with_reducible refine Below.alloc ?_ ?_ _ | with_reducible refine Below.setCell ?_ ?_ _ | (with_reducible refine Below.next ?_ (by assumption)) | omega | (focus (simp; omega)) | (focus (simp; done))))⟩
  by_cases h3 : (bad.length : Int) ≤ cnt
  · obtain ⟨s0, s1⟩ := inB_true.1 h1
    obtain ⟨t0, t1⟩ := inB_true.1 h2
    have hra := Lib.hid (Rd.alloc ha (.cells #[.int .i64 sec, .int .i64 cnt, .slice A bad.length c] 27))
    go_enter Try.func13, Try.ntmps13
    go_wp2_with (go_at_call 29; refine (within_any _ _ _ _).mono ?_; rintro e w' ⟨rfl, rfl⟩)
    go_loop [26] (fun i => ∃ k : Nat, k ≤ bad.length ∧ i = .int .i64 k ∧ allK k (badOk sec bad) = true) (fun i => bad.length - (intOf i).toNat)
    case atStart => exact ⟨0, Nat.zero_le _, rfl, rfl⟩
    case round =>
      obtain ⟨k, hk, rfl, ht⟩ := hrel
      have HT := Lib.hid ht
      clear ht
      by_cases hlt : k < bad.length
      · obtain ⟨b, off, rfl, hbl, hcc⟩ := ha.int hlt
        have hw0 := Lib.hid ((Rd.alloc ha (.cells #[.int .i64 sec, .int .i64 cnt, .slice (some ⟨b, off, none⟩) bad.length c] 27)).take k)
        have hlk : (bad.take k).length = k := by simp; omega
        have HB := Lib.hid (badOk_get (sec := sec) hlt)
        cases hin : inB (bad[k]'hlt) 0 (sec + k - 1)
        · go_wp2_with (go_at_call 29; refine (within_any _ _ _ _).mono ?_; rintro e w' ⟨rfl, rfl⟩)
          go_ret
          refine ⟨ret_bool ?_, (by repeat (first | with_reducible exact Below.refl _ _ | with_reducible assumption | with_reducible refine below_drewN ?_ _ | with_reducible refine Below.drew ?_ | with_reducible refine Below.alloc ?_ ?_ _ | with_reducible refine Below.setCell ?_ ?_ _ | (with_reducible refine Below.next ?_ (by assumption)) | omega | (focus (simp; omega)) | (focus (simp; done))))⟩
          have : badOk sec bad k = false := by rw [HB.out]; simp [hin]
          simp [sparesB, allK_no hlt this]
        · cases hmem : decide ((bad[k]'hlt) ∈ bad.take k)
          · have HM := Lib.hid hmem
            have HLK := Lib.hid hlk
            clear hlk
            go_wp2_with (first
              | (go_at_call 29; refine (within_any _ _ _ _).mono ?_; rintro e w' ⟨rfl, rfl⟩)
              | (go_at_call 30; refine (contains_any _ _ _ (bad.take k) _ _ HLK.out hw0.out (by omega)).mono ?_; rintro e w' ⟨rfl, rfl⟩))
            go_round
            case rel =>
              refine ⟨k + 1, by omega, by go_num, allK_succ HT.out ?_⟩
              rw [HB.out, HM.out]; simp [hin]
            case measure => simp [intOf]; omega
          · have HM := Lib.hid hmem
            have HLK := Lib.hid hlk
            clear hlk
            go_wp2_with (first
              | (go_at_call 29; refine (within_any _ _ _ _).mono ?_; rintro e w' ⟨rfl, rfl⟩)
              | (go_at_call 30; refine (contains_any _ _ _ (bad.take k) _ _ HLK.out hw0.out (by omega)).mono ?_; rintro e w' ⟨rfl, rfl⟩))
            go_ret
            refine ⟨ret_bool ?_, (by repeat (first | with_reducible exact Below.refl _ _ | with_reducible assumption | with_reducible refine below_drewN ?_ _ | with_reducible refine Below.drew ?_ | with_reducible refine Below.alloc ?_ ?_ _ | with_reducible refine Below.setCell ?_ ?_ _ | (with_reducible refine Below.next ?_ (by assumption)) | omega | (focus (simp; omega)) | (focus (simp; done))))⟩
            have : badOk sec bad k = false := by rw [HB.out, HM.out]; simp
            simp [sparesB, allK_no hlt this]
      · go_wp2
        go_ret
        refine ⟨ret_bool ?_, (by repeat (first | with_reducible exact Below.refl _ _ | with_reducible assumption | with_reducible refine below_drewN ?_ _ | with_reducible refine Below.drew ?_ | with_reducible refine Below.alloc ?_ ?_ _ | with_reducible refine Below.setCell ?_ ?_ _ | (with_reducible refine Below.next ?_ (by assumption)) | omega | (focus (simp; omega)) | (focus (simp; done))))⟩
        have he : k = bad.length := by omega
        have := HT.out
        rw [he] at this
        simp [sparesB, h1, h2, h3, this]
  · go_enter Try.func13, Try.ntmps13
    go_wp2_with (go_at_call 29; refine (within_any _ _ _ _).mono ?_; rintro e w' ⟨rfl, rfl⟩)
    go_ret
    exact ⟨ret_bool (by simp [sparesB]; omega), (by repeat (first | with_reducible exact Below.refl _ _ | with_reducible assumption | with_reducible refine below_drewN ?_ _ | with_reducible refine Below.drew ?_ | with_reducible refine Below.alloc ?_ ?_ _ | with_reducible refine Below.setCell ?_ ?_ _ | (with_reducible refine Below.next ?_ (by assumption)) | omega | (focus (simp; omega)) | (focus (simp; done))))⟩
/-- none of the first j numbers is the k-th -/
def newUpTo (l : List Int) (k j : Nat) : Prop := ∀ i (hi : i < l.length) (hk : k < l.length), i < j → l[i] ≠ l[k]
theorem not_mem_take {l : List Int} {k : Nat} (hk : k < l.length) (h : newUpTo l k k) : decide (l[k] ∈ l.take k) = false := by
  rw [decide_eq_false_iff_not]
  intro hm
  obtain ⟨i, hi, he⟩ := List.getElem_of_mem hm
  have hil : i < l.length := by simp at hi; omega
  have hik : i < k := by simp at hi; omega
  rw [List.getElem_take] at he
  exact h i hil hk hik he
theorem mem_take {l : List Int} {k i : Nat} (hk : k < l.length) (hi : i < l.length) (hik : i < k) (he : l[i] = l[k]) : decide (l[k] ∈ l.take k) = true := by
  rw [decide_eq_true_iff, ← he]
  exact List.mem_take_iff_getElem.2 ⟨i, by omega, rfl⟩
set_option maxHeartbeats 2000000 in
theorem specSpares_any (s : Sp) (A : Option Addr) (c : Nat) (w : World) (ha : Rd eInt w A s.bad) (hl : s.bad.length ≤ 1099511627776) :
    Calls Try.prog 11 #[.agg #[.int .i64 s.sec, .int .i64 s.cnt, .slice A s.bad.length c]] w fun e w' => e = .returned (.bool (sparesB s)) ∧ Below w.heap.size w w' := by
  obtain ⟨sec, cnt, bad⟩ := s
  simp only at ha hl
  cases h1 : inB sec 1 100000
  · go_enter Try.func11, Try.ntmps11
    go_wp2_with (go_at_call 27; refine (l1In_any _ _ _ _).mono ?_; rintro e w' ⟨rfl, rfl⟩)
    go_ret
    exact ⟨ret_bool (by simp [sparesB, h1]), (by repeat (first | with_reducible exact Below.refl _ _ | with_reducible assumption | with_reducible refine below_drewN ?_ _ | with_reducible refine Below.drew ?_ | with_reducible refine Below.alloc ?_ ?_ _ | with_reducible refine Below.setCell ?_ ?_ _ | (with_reducible refine Below.next ?_ (by assumption)) | omega | (focus (simp; omega)) | (focus (simp; done))))⟩
  cases h2 : inB cnt 0 16
  · go_enter Try.func11, Try.ntmps11
    go_wp2_with (go_at_call 27; refine (l1In_any _ _ _ _).mono ?_; rintro e w' ⟨rfl, rfl⟩)
    go_ret
    exact ⟨ret_bool (by simp [sparesB, h2]), (by repeat (first | with_reducible exact Below.refl _ _ | with_reducible assumption | with_reducible refine below_drewN ?_ _ | with_reducible refine Below.drew ?_ | with_reducible refine Below.alloc ?_ ?_ _ | with_reducible refine Below.setCell ?_ ?_ _ | (with_reducible refine Below.next ?_ (by assumption)) | omega | (focus (simp; omega)) | (focus (simp; done))))⟩
  by_cases h3 : (bad.length : Int) ≤ cnt
  · obtain ⟨s0, s1⟩ := inB_true.1 h1
    obtain ⟨t0, t1⟩ := inB_true.1 h2
    go_enter Try.func11, Try.ntmps11
    go_wp2_with (go_at_call 27; refine (l1In_any _ _ _ _).mono ?_; rintro e w' ⟨rfl, rfl⟩)
    go_loopw [3] (fun i wr => ∃ k : Nat, k ≤ bad.length ∧ i = .int .i64 k ∧ allK k (badOk sec bad) = true ∧ ∃ q, wr = (w.alloc (.cells #[.int .i64 sec, .int .i64 cnt, .slice A bad.length c] 27)).drewN q) (fun i _ => bad.length - (intOf i).toNat)
    case atStart => exact ⟨0, Nat.zero_le _, rfl, rfl, 0, rfl⟩
    case round =>
      obtain ⟨k, hk, rfl, ht, q, rfl⟩ := hrel
      have HT := Lib.hid ht
      clear ht
      by_cases hlt : k < bad.length
      · obtain ⟨b, off, rfl, hbl, hcs⟩ := ha.ints (by omega)
        have hbl' : b ≠ w.heap.size := by omega
        have hck := hcs k hlt
        have HB := Lib.hid (badOk_get (sec := sec) hlt)
        cases hin : inB (bad[k]'hlt) 0 (sec + k - 1)
        · have HI := Lib.hid hin
          go_wp2
          go_quiet ((go_at_call 27; (first | exact quiet_left (l1In_any _ _ _ _) | exact quiet_add_left (l1In_any _ _ _ _))))
          go_wp2
          go_ret
          refine ⟨ret_bool ?_, (by repeat (first | with_reducible exact Below.refl _ _ | with_reducible assumption | with_reducible refine below_drewN ?_ _ | with_reducible refine Below.drew ?_ | with_reducible refine Below.alloc ?_ ?_ _ | with_reducible refine Below.setCell ?_ ?_ _ | (with_reducible refine Below.next ?_ (by assumption)) | omega | (focus (simp; omega)) | (focus (simp; done))))⟩
          have : badOk sec bad k = false := by rw [HB.out]; simp [HI.out]
          simp [sparesB, allK_no hlt this]
        · have HI := Lib.hid hin
          go_wp2
          go_quiet ((go_at_call 27; (first | exact quiet_left (l1In_any _ _ _ _) | exact quiet_add_left (l1In_any _ _ _ _))))
          go_wp2
          go_loopw [4] (fun i wr => ∃ j : Nat, j ≤ k ∧ i = .int .i64 j ∧ newUpTo bad k j ∧ ∃ q, wr = (w.alloc (.cells #[.int .i64 sec, .int .i64 cnt, .slice (some ⟨b, off, none⟩) bad.length c] 27)).drewN q) (fun i _ => k - (intOf i).toNat)
          case atStart => exact ⟨0, Nat.zero_le _, rfl, fun _ _ _ h => absurd h (by omega), _, World.drewN_drewN ..⟩
          case round =>
            obtain ⟨j, hj, rfl, hn, q2, rfl⟩ := hrel
            have HN := Lib.hid hn
            clear hn
            by_cases hjk : j < k
            · have hjl : j < bad.length := by omega
              have hcj := hcs j hjl
              cases hee : ((bad[j]'hjl) == (bad[k]'hlt))
              · have HE := Lib.hid hee
                go_wp2
                go_quiet (fail)
                go_wp2
                go_roundw
                case rel =>
                  refine ⟨j + 1, by omega, by go_num, ?_, _, rfl⟩
                  intro i hi hk2 hij
                  by_cases hij2 : i = j
                  · subst hij2
                    simpa using HE.out
                  · exact HN.out i hi hk2 (by omega)
                case measure => simp [intOf]; omega
              · have HE := Lib.hid hee
                go_wp2
                go_quiet (fail)
                go_wp2
                go_ret
                refine ⟨ret_bool ?_, (by repeat (first | with_reducible exact Below.refl _ _ | with_reducible assumption | with_reducible refine below_drewN ?_ _ | with_reducible refine Below.drew ?_ | with_reducible refine Below.alloc ?_ ?_ _ | with_reducible refine Below.setCell ?_ ?_ _ | (with_reducible refine Below.next ?_ (by assumption)) | omega | (focus (simp; omega)) | (focus (simp; done))))⟩
                have h5 := mem_take hlt hjl hjk (by simpa using HE.out)
                have : badOk sec bad k = false := by rw [HB.out, h5]; simp
                simp [sparesB, allK_no hlt this]
            · have hjk' : j = k := by omega
              have HNK : Hid (decide ((bad[k]'hlt) ∈ bad.take k) = false) := Lib.hid (not_mem_take hlt (by have := HN.out; rw [hjk'] at this; exact this))
              clear hjk'
              go_wp2
              go_roundw
              case rel =>
                refine ⟨k + 1, by omega, by go_num, allK_succ HT.out ?_, _, rfl⟩
                rw [HB.out, HNK.out, HI.out]; rfl
              case measure => simp [intOf]; omega
      · go_wp2
        go_ret
        refine ⟨ret_bool ?_, (by repeat (first | with_reducible exact Below.refl _ _ | with_reducible assumption | with_reducible refine below_drewN ?_ _ | with_reducible refine Below.drew ?_ | with_reducible refine Below.alloc ?_ ?_ _ | with_reducible refine Below.setCell ?_ ?_ _ | (with_reducible refine Below.next ?_ (by assumption)) | omega | (focus (simp; omega)) | (focus (simp; done))))⟩
        have he : k = bad.length := by omega
        have := HT.out
        rw [he] at this
        simp [sparesB, h1, h2, h3, this]
  · go_enter Try.func11, Try.ntmps11
    go_wp2_with (go_at_call 27; refine (l1In_any _ _ _ _).mono ?_; rintro e w' ⟨rfl, rfl⟩)
    go_ret
    exact ⟨ret_bool (by simp [sparesB]; omega), (by repeat (first | with_reducible exact Below.refl _ _ | with_reducible assumption | with_reducible refine below_drewN ?_ _ | with_reducible refine Below.drew ?_ | with_reducible refine Below.alloc ?_ ?_ _ | with_reducible refine Below.setCell ?_ ?_ _ | (with_reducible refine Below.next ?_ (by assumption)) | omega | (focus (simp; omega)) | (focus (simp; done))))⟩
/-- A fresh list of spare sectors comes back, with a slice that is not nil. -/
def FreshSpS (e : TypeId) (s : Sp) (w : World) (en : Ending) (w' : World) : Prop :=
  ∃ A c g, en = .returned (.agg #[.int .i64 s.sec, .int .i64 s.cnt, .slice A s.bad.length c]) ∧ w.heap.size ≤ g ∧ g < w'.heap.size ∧ Row eInt w' g e A c s.bad ∧ Below w.heap.size w w'
/-- A fresh list of spare sectors comes back. -/
def FreshSp (e : TypeId) (s : Sp) (w : World) (en : Ending) (w' : World) : Prop :=
  ∃ A c g, en = .returned (.agg #[.int .i64 s.sec, .int .i64 s.cnt, .slice A s.bad.length c]) ∧ w.heap.size ≤ g ∧ Row eInt w' g e A c s.bad ∧ Below w.heap.size w w'
set_option maxHeartbeats 1000000 in
theorem toSpares_s (s : Sp) (A : Option Addr) (c : Nat) (w : World) (ha : Rd eInt w A s.bad) (hl : s.bad.length ≤ 1099511627776) :
    Calls Try.prog 12 #[.agg #[.int .i64 s.sec, .int .i64 s.cnt, .slice A s.bad.length c]] w (FreshSpS 3 s w) := by
  obtain ⟨sec, cnt, bad⟩ := s
  simp only at ha hl
  go_enter Try.func12, Try.ntmps12
  go_wp2_with fail
  refine (toIntS_s _ _ bad _ (Rd.below ha (by repeat (first | with_reducible exact Below.refl _ _ | with_reducible assumption | with_reducible refine below_drewN ?_ _ | with_reducible refine Below.drew ?_ | with_reducible refine Below.alloc ?_ ?_ _ | with_reducible refine Below.setCell ?_ ?_ _ | (with_reducible refine Below.next ?_ (by assumption)) | omega | (focus (simp; omega)) | (focus (simp; done))))) hl).mono ?_
  rintro e w1 ⟨A', c', g, rfl, hg, hgl, hrow, hb⟩
  obtain ⟨hc, hf⟩ := bcell hb
  have hz := hb.size
  simp at hz hg
  have z0 : w.heap.size < w1.heap.size := by omega
  have z1 : w.heap.size + 1 < w1.heap.size := by omega
  have z2 : w.heap.size + 1 + 1 < w1.heap.size := by omega
  go_wp2
  refine bodyPost_ret (by first | (simp [results, Try.results12, go_sem, hc]; done) | (simp [results, Try.results12, go_sem, hc]; rfl)) rfl ⟨A', c', g, rfl, by omega, by simp; omega, ?_, ?_⟩
  · exact (by repeat (first | with_reducible assumption | with_reducible refine Row.drew ?_ | with_reducible refine Row.drewN ?_ _ | with_reducible refine Row.alloc ?_ _ | with_reducible refine Row.other ?_ ?_ _ | (with_reducible refine Row.below ?_ (by assumption)) | omega | (focus (simp; omega)) | (focus (simp; done))))
  · exact (by repeat (first | with_reducible exact Below.refl _ _ | with_reducible assumption | with_reducible refine below_drewN ?_ _ | with_reducible refine Below.drew ?_ | with_reducible refine Below.alloc ?_ ?_ _ | with_reducible refine Below.setCell ?_ ?_ _ | (with_reducible refine Below.next ?_ (by assumption)) | omega | (focus (simp; omega)) | (focus (simp; done))))
theorem toSpares_any (s : Sp) (A : Option Addr) (c : Nat) (w : World) (ha : Rd eInt w A s.bad) (hl : s.bad.length ≤ 1099511627776) :
    Calls Try.prog 12 #[.agg #[.int .i64 s.sec, .int .i64 s.cnt, .slice A s.bad.length c]] w (FreshSp 3 s w) :=
  (toSpares_s s A c w ha hl).mono fun _ _ ⟨A', c', g, h1, h2, _, h3, h4⟩ => ⟨A', c', g, h1, h2, h3, h4⟩
set_option maxHeartbeats 1000000 in
theorem eqSpares_any (s t : Sp) (A B : Option Addr) (c d : Nat) (w : World) (ha : Rd eInt w A s.bad) (hb : Rd eInt w B t.bad) (hl : s.bad.length ≤ 1099511627776) (hm : t.bad.length ≤ 1099511627776) :
    Calls Try.prog 14 #[.agg #[.int .i64 s.sec, .int .i64 s.cnt, .slice A s.bad.length c], .agg #[.int .i64 t.sec, .int .i64 t.cnt, .slice B t.bad.length d]] w fun e w' => e = .returned (.bool (decide (s = t))) ∧ Below w.heap.size w w' := by
  obtain ⟨sec, cnt, bad⟩ := s
  obtain ⟨sec', cnt', bad'⟩ := t
  simp only at ha hb hl hm
  go_enter Try.func14, Try.ntmps14
  go_wp2_with (go_at_call 31; refine (eqIntS_any A B _ _ bad bad' _ (by repeat (first | with_reducible assumption | with_reducible refine Rd.drew ?_ | with_reducible refine Rd.drewN ?_ _ | with_reducible refine Rd.alloc ?_ _ | (with_reducible refine Rd.below ?_ (by assumption)))) (by repeat (first | with_reducible assumption | with_reducible refine Rd.drew ?_ | with_reducible refine Rd.drewN ?_ _ | with_reducible refine Rd.alloc ?_ _ | (with_reducible refine Rd.below ?_ (by assumption)))) (by omega) (by omega)).mono ?_; rintro e w' ⟨rfl, q, rfl⟩)
  all_goals go_ret
  all_goals (refine ⟨?_, (by repeat (first | with_reducible exact Below.refl _ _ | with_reducible assumption | with_reducible refine below_drewN ?_ _ | with_reducible refine Below.drew ?_ | with_reducible refine Below.alloc ?_ ?_ _ | with_reducible refine Below.setCell ?_ ?_ _ | (with_reducible refine Below.next ?_ (by assumption)) | omega | (focus (simp; omega)) | (focus (simp; done))))⟩; simp_all)
set_option maxHeartbeats 1000000 in
theorem szSpares_big (A : Option Addr) (n c : Nat) (k a b : Int) (w : World) (hn : n ≤ 9223372036854775807) (hk0 : 0 ≤ k) (hk : k ≤ 1048576) (h : k < n) :
    Calls Try.prog 10 #[.agg #[.int .i64 a, .int .i64 b, .slice A n c], .int .i64 k] w fun e w' => e = .returned (.int .i64 (-1)) ∧ Below w.heap.size w w' := by
  go_enter Try.func10, Try.ntmps10
  go_wp2_with (go_at_call 26; refine (szIntS_big A n c k _ hn hk0 hk h).mono ?_; rintro e w' ⟨rfl, rfl⟩)
  go_ret
  exact ⟨rfl, (by repeat (first | with_reducible exact Below.refl _ _ | with_reducible assumption | with_reducible refine below_drewN ?_ _ | with_reducible refine Below.drew ?_ | with_reducible refine Below.alloc ?_ ?_ _ | with_reducible refine Below.setCell ?_ ?_ _ | (with_reducible refine Below.next ?_ (by assumption)) | omega | (focus (simp; omega)) | (focus (simp; done))))⟩
set_option maxHeartbeats 1000000 in
theorem szSpares_ok (A : Option Addr) (n c : Nat) (k a b : Int) (w : World) (hk0 : 0 ≤ k) (hk : k ≤ 1048576) (h : (n : Int) ≤ k) :
    Calls Try.prog 10 #[.agg #[.int .i64 a, .int .i64 b, .slice A n c], .int .i64 k] w fun e w' => e = .returned (.int .i64 (k - n)) ∧ Below w.heap.size w w' := by
  go_enter Try.func10, Try.ntmps10
  go_wp2_with (go_at_call 26; refine (szIntS_ok A n c k _ hk0 hk h).mono ?_; rintro e w' ⟨rfl, rfl⟩)
  go_ret
  exact ⟨rfl, (by repeat (first | with_reducible exact Below.refl _ _ | with_reducible assumption | with_reducible refine below_drewN ?_ _ | with_reducible refine Below.drew ?_ | with_reducible refine Below.alloc ?_ ?_ _ | with_reducible refine Below.setCell ?_ ?_ _ | (with_reducible refine Below.next ?_ (by assumption)) | omega | (focus (simp; omega)) | (focus (simp; done))))⟩
set_option maxHeartbeats 1000000 in
theorem markSpares_any (s : Sp) (A : Option Addr) (c g : Nat) (k : Int) (w : World) (hr : Row eInt w g 3 A c s.bad) (hl : s.bad.length ≤ 1099511627776) (hk0 : 0 ≤ k) (hk : k ≤ 1099511627776) :
    Calls Try.prog 22 #[.agg #[.int .i64 s.sec, .int .i64 s.cnt, .slice A s.bad.length c], .int .i64 k] w fun e w' => e = .returned (.int .i64 (k + s.bad.length)) ∧ Row eInt w' g 3 A c (marks s.bad.length k) ∧ w.grownBy w' (some g) := by
  obtain ⟨sec, cnt, bad⟩ := s
  simp only at hr hl
  go_enter Try.func22, Try.ntmps22
  go_wp2_with fail
  refine (markIntS_any A c g bad k _ (Row.alloc hr _) hl hk0 hk).mono ?_
  rintro e w1 ⟨rfl, hrow, hg⟩
  go_wp2
  go_ret
  exact ⟨rfl, hrow, grownBy_trans (grownBy_of_below ((Below.refl _ _).alloc (Nat.le_refl _) _) _) hg⟩
set_option maxHeartbeats 1000000 in
theorem heldSpares_any (a b : Int) (A : Option Addr) (c n : Nat) (k : Int) (w : World) (hr : Rd eInt w A (marks n k)) (hl : n ≤ 1099511627776) (hk0 : 0 ≤ k) (hk : k ≤ 1099511627776) :
    Calls Try.prog 23 #[.agg #[.int .i64 a, .int .i64 b, .slice A n c], .int .i64 k] w fun e w' => e = .returned (.int .i64 (k + n)) ∧ Below w.heap.size w w' := by
  go_enter Try.func23, Try.ntmps23
  go_wp2_with fail
  refine (heldIntS_any A c n k _ (Rd.alloc hr _) hl hk0 hk).mono ?_
  rintro e w1 ⟨rfl, rfl⟩
  go_wp2
  go_ret
  exact ⟨rfl, (by repeat (first | with_reducible exact Below.refl _ _ | with_reducible assumption | with_reducible refine below_drewN ?_ _ | with_reducible refine Below.drew ?_ | with_reducible refine Below.alloc ?_ ?_ _ | with_reducible refine Below.setCell ?_ ?_ _ | (with_reducible refine Below.next ?_ (by assumption)) | omega | (focus (simp; omega)) | (focus (simp; done))))⟩
end Go.Proofs.Ytekpahddcnbnfaa
