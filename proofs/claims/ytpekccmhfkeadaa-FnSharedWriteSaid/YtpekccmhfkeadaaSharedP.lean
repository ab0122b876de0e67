/-
  SharedWrite: the program's. Conditions: lengths at most 2^40.
-/
import Derived.Test.YtpekccmhfkeadaaBase
import Derived.Test.YtpekccmhfkeadaaNum
import Derived.Test.YtpekccmhfkeadaaInts
import Derived.Test.YtpekccmhfkeadaaApp
import Derived.Test.YtpekccmhfkeadaaIntsW
import Derived.Test.YtpekccmhfkeadaaLib
import Derived.Test.YtpekccmhfkeadaaSpares
import Derived.Test.YtpekccmhfkeadaaOwn
import Derived.Test.YtpekccmhfkeadaaCopy
import Derived.Test.YtpekccmhfkeadaaShared
import Derived.Test.YtpekccmhfkeadaaSharedM
import Derived.Test.YtpekccmhfkeadaaSharedC
import Derived.Test.YtpekccmhfkeadaaSharedV
import Derived.Test.YtpekccmhfkeadaaSharedU
import Derived.Test.YtpekccmhfkeadaaSharedD
import Derived.Test.YtpekccmhfkeadaaSharedWM
import Derived.Test.YtpekccmhfkeadaaDel
import Derived.Test.YtpekccmhfkeadaaThinC
import Derived.StillTailTactics
namespace Go.Proofs.Ytpekccmhfkeadaa
open Go.RowKit
def dec1 (o : Nat) (n : Int) : Int := if (o : Int) < n then n - 1 else n
def decTo (l : List Int) (o k : Nat) : List Int := (l.take k).map (dec1 o) ++ l.drop k
theorem decTo_len (l : List Int) (o k : Nat) : (decTo l o k).length = l.length := by simp [decTo]; omega
theorem decTo_get (l : List Int) (o k : Nat) (hk : k < l.length) (h : k < (decTo l o k).length) : (decTo l o k)[k] = l[k] := by
  have e : (decTo l o k)[k]? = some l[k] := by
    unfold decTo
    rw [List.getElem?_append_right (by simp; omega)]
    simp [Nat.min_eq_left (Nat.le_of_lt hk), hk]
  exact (List.getElem_eq_iff h).2 e
theorem decTo_succ (l : List Int) (o k : Nat) (hk : k < l.length) : decTo l o (k + 1) = (decTo l o k).set k (dec1 o l[k]) := by
  unfold decTo
  rw [List.take_succ_eq_append_getElem hk, List.map_append, List.append_assoc, List.set_append_right _ _ (by simp; omega)]
  congr 1
  have e : k - ((l.take k).map (dec1 o)).length = 0 := by simp; omega
  rw [e, List.drop_eq_getElem_cons hk]
  rfl
theorem decTo_same (l : List Int) (o k : Nat) (hk : k < l.length) (h : ¬ (o : Int) < l[k]) : decTo l o (k + 1) = decTo l o k := by
  rw [decTo_succ l o k hk]
  apply List.ext_getElem
  · simp
  · intro i h1 h2
    by_cases hi : k = i
    · subst hi
      rw [List.getElem_set_self, decTo_get l o k hk]
      unfold dec1; rw [if_neg h]
    · rw [List.getElem_set_ne hi]
theorem decTo_less (l : List Int) (o k : Nat) (hk : k < l.length) (h : (o : Int) < l[k]) : decTo l o (k + 1) = (decTo l o k).set k (l[k] - 1) := by
  rw [decTo_succ l o k hk]; unfold dec1; rw [if_pos h]
theorem decTo_all (l : List Int) (o : Nat) : decTo l o l.length = l.map (fun n => if (o : Int) < n then n - 1 else n) := by simp [decTo, dec1]
theorem decTo_zero (l : List Int) (o : Nat) : decTo l o 0 = l := by simp [decTo]
theorem lessAt_eq {l : List Cp} {o : Nat} (h : o < l.length) : lessAt l o = l.set o ⟨l[o].val, l[o].usr - 1⟩ := by simp [lessAt, h]
theorem putS_no {s : Sh} {a v : Int} (h : putOk s a v = false) : putS s a v = ⟨[], []⟩ := by unfold putS; rw [h]; rfl
theorem putS_yes {s : Sh} {a v : Int} (h : putOk s a v = true) : putS s a v = putSh s a.toNat v := by unfold putS; rw [h]; rfl
theorem putOk_1 {s : Sh} {a v : Int} (h : sharedB s = false) : putOk s a v = false := by unfold putOk; rw [h]; rfl
theorem putOk_2 {s : Sh} {a v : Int} (h : inB a 0 (s.whr.length - 1) = false) : putOk s a v = false := by unfold putOk; rw [h]; simp
theorem putOk_3 {s : Sh} {a v : Int} (h : inB v 0 255 = false) : putOk s a v = false := by unfold putOk; rw [h]; simp
theorem putOk_yes {s : Sh} {a v : Int} (h1 : sharedB s = true) (h2 : inB a 0 (s.whr.length - 1) = true) (h3 : inB v 0 255 = true) : putOk s a v = true := by unfold putOk; rw [h1, h2, h3]; rfl
/-- what SharedWrite leaves, by the users of the value before -/
theorem putSh_keep {s : Sh} {k o : Nat} {v : Int} (hk : k < s.whr.length) (ho : s.whr[k] = (o : Int)) (hol : o < (useL s.cps v).length) (h : ¬ (useL s.cps v)[o].usr - 1 = 0) : putSh s k v = ⟨s.whr.set k (useN s.cps v), lessAt (useL s.cps v) o⟩ := by
  have hg : (s.whr.getD k 0).toNat = o := by simp [hk, ho]
  unfold putSh
  rw [hg, if_neg]
  rw [lessAt_eq hol]
  simpa [hol] using h
theorem putSh_drop {s : Sh} {k o : Nat} {v : Int} (hk : k < s.whr.length) (ho : s.whr[k] = (o : Int)) (hol : o < (useL s.cps v).length) (h : (useL s.cps v)[o].usr - 1 = 0) : putSh s k v = ⟨decTo (s.whr.set k (useN s.cps v)) o s.whr.length, (lessAt (useL s.cps v) o).eraseIdx o⟩ := by
  have hg : (s.whr.getD k 0).toNat = o := by simp [hk, ho]
  unfold putSh
  rw [hg, if_pos]
  · have := decTo_all (s.whr.set k (useN s.cps v)) o
    rw [List.length_set] at this
    rw [this]; rfl
  · rw [lessAt_eq hol]
    simpa [hol] using h
theorem nodup_len {α : Type} [DecidableEq α] (l : List α) : ∀ m : List α, l.Nodup → (∀ x ∈ l, x ∈ m) → l.length ≤ m.length := by
  induction l with
  | nil => intro m _ _; simp
  | cons a r ih =>
    intro m hn hs
    have hn' := List.nodup_cons.1 hn
    have ha : a ∈ m := hs a (by simp)
    have h1 := ih (m.erase a) hn'.2 fun x hx => by
      have hne : x ≠ a := fun e => hn'.1 (e ▸ hx)
      exact (List.mem_erase_of_ne hne).2 (hs x (by simp [hx]))
    rw [List.length_erase_of_mem ha] at h1
    have := List.length_pos_of_mem ha
    simp; omega
theorem SharedRd.s0 {x0 x1 : Value} {s : Sh} {w : World} (h : SharedRd w [x0, x1] s) : SRd encIntS w x0 s.whr := by
  obtain ⟨u, v, h1, h2, h3⟩ := h
  simp only [List.cons.injEq, and_true] at h1
  rw [h1.1]; exact h2
theorem SharedRd.s1 {x0 x1 : Value} {s : Sh} {w : World} (h : SharedRd w [x0, x1] s) : SRd encCopyS w x1 s.cps := by
  obtain ⟨u, v, h1, h2, h3⟩ := h
  simp only [List.cons.injEq, and_true] at h1
  rw [h1.2]; exact h3
/-- facts of a valid volume -/
theorem put_facts {s : Sh} (h : sharedB s = true) {k o : Nat} (hk : k < s.whr.length) (ho : s.whr[k] = (o : Int)) {v : Int} (hv : 0 ≤ v ∧ v ≤ 255) :
    s.whr.length ≤ 64 ∧ s.cps.length ≤ 64 ∧ (∀ p ∈ s.cps, 0 ≤ p.usr ∧ p.usr ≤ 1000000) ∧ o < (useL s.cps v).length ∧ (useL s.cps v).length ≤ 65 ∧ ∀ h : o < (useL s.cps v).length, 1 ≤ (useL s.cps v)[o].usr ∧ (useL s.cps v)[o].usr ≤ 1000000 := by
  obtain ⟨h1, h2, h3⟩ := sharedB_iff.1 h
  have hu := use_ok h2 hv
  have hr := h2.rng _ (List.getElem_mem hk)
  have hus : ∀ p ∈ s.cps, 0 ≤ p.usr ∧ p.usr ≤ 64 := by
    intro p hp
    have a := h3 p hp
    obtain ⟨i, hi, rfl⟩ := List.getElem_of_mem hp
    have b := h2.usr i hi
    have c := List.count_le_length (a := (i : Int)) (l := s.whr)
    omega
  have hcl : s.cps.length ≤ 64 := by
    rcases Nat.lt_or_ge 64 s.cps.length with hlt | hge
    · have hsub : (s.cps.map Cp.val).length ≤ s.whr.length := by
        -- every value has a sector
        have hnd : ((List.range s.cps.length).map Int.ofNat).Nodup := by
          rw [List.nodup_iff_pairwise_ne, List.pairwise_iff_getElem]
          intro i j hi hj hij he
          simp at he
          omega
        have hs : ∀ x ∈ (List.range s.cps.length).map Int.ofNat, x ∈ s.whr := by
          intro x hx
          obtain ⟨i, hi, rfl⟩ := List.mem_map.1 hx
          have hi' : i < s.cps.length := List.mem_range.1 hi
          have a := h3 _ (List.getElem_mem hi')
          have b := h2.usr i hi'
          exact List.count_pos_iff.1 (show 0 < s.whr.count (i : Int) by omega)
        have := nodup_len _ _ hnd hs
        simpa using this
      simp at hsub; omega
    · exact hge
  have hol : o < (useL s.cps v).length := by have := hu.le; omega
  refine ⟨h1, hcl, fun p hp => ⟨(hus p hp).1, by have := (hus p hp).2; omega⟩, hol, by have := useL_len s.cps v; omega, fun h => ?_⟩
  have a := hu.usr o h
  have b : 0 < s.whr.count (o : Int) := List.count_pos_iff.2 (by rw [← ho]; exact List.getElem_mem hk)
  have c := List.count_le_length (a := (o : Int)) (l := s.whr)
  split at a <;> omega
theorem GTwo.drew0 {X g : Nat} {a b : World} (h : GTwo X g a.drew b) : GTwo X g a b := ⟨h.os, h.tape, h.output, h.size, h.block⟩
theorem sharedOwn_rown {B : Nat} {W : World} {g1 g2 c1 c2 n1 n2 : Nat} {A1 A2 : Option Addr} {l1 : List Int} {l2 : List Cp} (h1 : Row eInt W g1 3 A1 c1 l1) (h2 : Row encCopyS W g2 tyCopyS A2 c2 l2) (e1 : l1.length = n1) (e2 : l2.length = n2) (hne : g1 ≠ g2) (hB1 : B ≤ g1) (hB2 : B ≤ g2) : SharedOwn B W W.heap.size [.slice A1 n1 c1, .slice A2 n2 c2] ⟨l1, l2⟩ := by
  subst e1; subst e2
  exact sharedOwn_rows (s := ⟨l1, l2⟩) h1 h2 hne hB1 hB2
theorem put_range {s : Sh} (h : sharedB s = true) {k : Nat} {v : Int} (hv : 0 ≤ v ∧ v ≤ 255) (hl : (useL s.cps v).length ≤ 65) : ∀ x ∈ s.whr.set k (useN s.cps v : Nat), 0 ≤ x ∧ x ≤ 65 := by
  intro x hx
  obtain ⟨_, h2, _⟩ := sharedB_iff.1 h
  have hu := use_ok h2 hv
  have := hu.lt
  have := hu.le
  rcases List.mem_or_eq_of_mem_set hx with hx | hx
  · have := h2.rng x hx; omega
  · subst hx; omega
theorem delete_n (c g o n m : Nat) (l : List Cp) (w : World) (hrow : Row encCopyS w g tyCopyS (some ⟨g, 0, none⟩) c l) (hn : l.length = n) (hm : n - 1 = m) (ho : o < n) (hl : n ≤ 1099511627776) :
    Calls Try.prog 58 #[.slice (some ⟨g, 0, none⟩) n c, .int .i64 (o : Int), .int .i64 ((o : Int) + 1)] w fun e w' => e = .returned (.slice (some ⟨g, 0, none⟩) m c) ∧ Row encCopyS w' g tyCopyS (some ⟨g, 0, none⟩) c (l.eraseIdx o) ∧ w.grownBy w' (some g) := by
  subst hn
  have : (l.eraseIdx o).length = m := by rw [List.length_eraseIdx, if_pos ho]; exact hm
  rw [← this]
  exact delete_c c g o l w hrow ho hl
/-- the copy stands: a box X with a copy of both slices -/
def PutMid (w : World) (s : Sh) (v : Value) (wc : World) : Prop := ∃ X A1 c1 g1 A2 c2 g2, v = .pointer (some ⟨X, 0, none⟩) ∧ w.heap.size + 2 ≤ X ∧ Loc wc X [.slice A1 s.whr.length c1, .slice A2 s.cps.length c2] ∧ Loc wc (w.heap.size + 1) [.slice none 0 0, .slice none 0 0] ∧ Row eInt wc g1 3 A1 c1 s.whr ∧ Row encCopyS wc g2 tyCopyS A2 c2 s.cps ∧ g1 ≠ g2 ∧ g1 ≠ X ∧ g2 ≠ X ∧ w.heap.size + 2 ≤ g1 ∧ w.heap.size + 2 ≤ g2 ∧ Below w.heap.size w wc
theorem putMid_of {w wc : World} {s : Sh} {B1 C1 B2 C2 X : Nat} {u1 u2 : Value} (o1 : SOwn eInt 3 B1 wc C1 u1 s.whr) (o2 : SOwn encCopyS tyCopyS B2 wc C2 u2 s.cps) (LX : Loc wc X [u1, u2]) (L1 : Loc wc (w.heap.size + 1) [.slice none 0 0, .slice none 0 0]) (hb : Below w.heap.size w wc)
    (h12 : C1 ≤ B2) (h11 : B1 ≤ C1) (h22 : B2 ≤ C2) (hX : X < B1 ∨ (C1 ≤ X ∧ X < B2) ∨ C2 ≤ X) (hB1 : w.heap.size + 2 ≤ B1) (hB2 : w.heap.size + 2 ≤ B2) (hX2 : w.heap.size + 2 ≤ X) : PutMid w s (.pointer (some ⟨X, 0, none⟩)) wc := by
  obtain ⟨A1, c1, g1, rfl, r1, h1, -⟩ := o1.row (B1 + C1 + B2 + C2 + X + 1)
  obtain ⟨A2, c2, g2, rfl, r2, h2, -⟩ := o2.row (B1 + C1 + B2 + C2 + X + 2)
  refine ⟨X, A1, c1, g1, A2, c2, g2, rfl, hX2, LX, L1, r1, r2, ?_, ?_, ?_, ?_, ?_, hb⟩
  all_goals
    rcases h1 with ⟨_, h1⟩ | ⟨_, _, _, h1, h1'⟩ <;> rcases h2 with ⟨_, h2⟩ | ⟨_, _, _, h2, h2'⟩ <;> omega
set_option maxRecDepth 20000 in
set_option maxHeartbeats 8000000 in
theorem implPut_c (x0 x1 : Value) (s : Sh) (a v : Int) (w : World) (h : SharedRd w [x0, x1] s) (hs : sizeShared s ≤ 1099511627776) :
    Calls Try.prog 34 #[.agg #[x0, x1], .int .i64 a, .int .i64 v] w (MadeShared (putS s a v) w) := by
  obtain ⟨A0, c0, A0', c0', rfl, rfl⟩ := sharedRd_lens h
  have L0 := Loc.new w [.slice A0 s.whr.length c0, .slice A0' s.cps.length c0'] 30
  have L1 := Loc.newAt (w.alloc (.cells #[.slice A0 s.whr.length c0, .slice A0' s.cps.length c0'] 30)) [.slice none 0 0, .slice none 0 0] 30 (b := w.heap.size + 1) (by simp)
  have HR := Lib.hid h
  have hsw : s.whr.length ≤ 1099511627776 := by unfold sizeShared at hs; omega
  have hsc : s.cps.length ≤ 1099511627776 := by unfold sizeShared at hs; omega
  cases hv : sharedB s
  · have HV := Lib.hid hv
    have HN := Lib.hid (putS_no (a := a) (v := v) (putOk_1 hv))
    clear hv
    go_enter Try.func34, Try.ntmps34
    go_wp2_with fail
    refine (implShared_c _ _ s _ (SharedRd.below HR.out (by repeat (first | with_reducible exact Below.refl _ _ | with_reducible refine below_drewN ?_ _ | with_reducible refine Below.drew ?_ | with_reducible refine Below.alloc ?_ ?_ _ | with_reducible refine Below.setCell ?_ ?_ _ | omega | (focus (simp; omega)) | (focus (simp; done))))) hs).mono ?_
    rw [HV.out]
    rintro e w1 ⟨rfl, hb1⟩
    have M1 := Loc.carryB L1 (fun h => by ((repeat (first | with_reducible exact h | with_reducible refine Loc.drew ?_ | with_reducible refine Loc.drewN ?_ _ | with_reducible refine Loc.alloc ?_ _)); done)) hb1
    obtain ⟨m0, m1, mf⟩ := M1.two
    go_wp2
    refine bodyPost_ret (v := .agg #[.slice none 0 0, .slice none 0 0]) (by simp [results, Try.results34, go_sem, *]; done) rfl ⟨_, _, rfl, ?_, ?_⟩
    · rw [HN.out]; exact sharedOwn_nil _ _ _
    · exact (by repeat (first | with_reducible exact Below.refl _ _ | with_reducible assumption | with_reducible refine below_drewN ?_ _ | with_reducible refine Below.drew ?_ | with_reducible refine Below.alloc ?_ ?_ _ | with_reducible refine Below.setCell ?_ ?_ _ | (with_reducible refine Below.next ?_ (by assumption)) | omega | (focus (simp; omega)) | (focus (simp; done))))
  · have HV := Lib.hid hv
    go_enter Try.func34, Try.ntmps34
    go_wp2_with fail
    refine (implShared_c _ _ s _ (SharedRd.below HR.out (by repeat (first | with_reducible exact Below.refl _ _ | with_reducible refine below_drewN ?_ _ | with_reducible refine Below.drew ?_ | with_reducible refine Below.alloc ?_ ?_ _ | with_reducible refine Below.setCell ?_ ?_ _ | omega | (focus (simp; omega)) | (focus (simp; done))))) hs).mono ?_
    rw [HV.out]
    clear hv
    rintro e w1 ⟨rfl, hb1⟩
    have M0 := Loc.carryB L0 (fun h => by ((repeat (first | with_reducible exact h | with_reducible refine Loc.drew ?_ | with_reducible refine Loc.drewN ?_ _ | with_reducible refine Loc.alloc ?_ _)); done)) hb1
    have M1 := Loc.carryB L1 (fun h => by ((repeat (first | with_reducible exact h | with_reducible refine Loc.drew ?_ | with_reducible refine Loc.drewN ?_ _ | with_reducible refine Loc.alloc ?_ _)); done)) hb1
    obtain ⟨k0, k1, kf⟩ := M0.two
    obtain ⟨m0, m1, mf⟩ := M1.two
    have W1 : Hid (Below w.heap.size w w1) := Lib.hid (Below.next (W := w) (by repeat (first | with_reducible exact Below.refl _ _ | with_reducible refine below_drewN ?_ _ | with_reducible refine Below.drew ?_ | with_reducible refine Below.alloc ?_ ?_ _ | with_reducible refine Below.setCell ?_ ?_ _ | omega | (focus (simp; omega)) | (focus (simp; done)))) hb1)
    have zM0 := M0.lt
    have zM1 := M1.lt
    have hz1 := hb1.size
    (try simp at hz1)
    clear hb1
    cases hat : inB a 0 (s.whr.length - 1)
    · have HN := Lib.hid (putS_no (v := v) (putOk_2 hat))
      go_wp2_with (go_at_call 42; refine (within_any _ _ _ _).mono ?_; rintro e w' ⟨rfl, rfl⟩)
      refine bodyPost_ret (v := .agg #[.slice none 0 0, .slice none 0 0]) (by simp [results, Try.results34, go_sem, *]; done) rfl ⟨_, _, rfl, ?_, ?_⟩
      · rw [HN.out]; exact sharedOwn_nil _ _ _
      · exact (by repeat (first | with_reducible exact W1.out | with_reducible exact Below.refl _ _ | with_reducible refine below_drewN ?_ _ | with_reducible refine Below.drew ?_ | with_reducible refine Below.alloc ?_ ?_ _ | with_reducible refine Below.setCell ?_ ?_ _ | (with_reducible refine Below.next ?_ (by assumption)) | ((with_reducible refine Below.far' (by assumption) ?_ ?_ ?_); (focus (first | omega | (simp; omega) | (simp; done))); (focus (first | omega | (simp; omega) | (simp; done)))) | omega | (focus (simp; omega)) | (focus (simp; done))))
    · cases hvv : inB v 0 255
      · have HN := Lib.hid (putS_no (s := s) (a := a) (putOk_3 hvv))
        go_wp2_with (go_at_call 42; refine (within_any _ _ _ _).mono ?_; rintro e w' ⟨rfl, rfl⟩)
        refine bodyPost_ret (v := .agg #[.slice none 0 0, .slice none 0 0]) (by simp [results, Try.results34, go_sem, *]; done) rfl ⟨_, _, rfl, ?_, ?_⟩
        · rw [HN.out]; exact sharedOwn_nil _ _ _
        · exact (by repeat (first | with_reducible exact W1.out | with_reducible exact Below.refl _ _ | with_reducible refine below_drewN ?_ _ | with_reducible refine Below.drew ?_ | with_reducible refine Below.alloc ?_ ?_ _ | with_reducible refine Below.setCell ?_ ?_ _ | (with_reducible refine Below.next ?_ (by assumption)) | ((with_reducible refine Below.far' (by assumption) ?_ ?_ ?_); (focus (first | omega | (simp; omega) | (simp; done))); (focus (first | omega | (simp; omega) | (simp; done)))) | omega | (focus (simp; omega)) | (focus (simp; done))))
      · have HY := Lib.hid (putS_yes (putOk_yes HV.out hat hvv))
        obtain ⟨a0, a1⟩ := inB_true.1 hat
        obtain ⟨k, rfl⟩ := Int.eq_ofNat_of_zero_le a0
        have hkl : k < s.whr.length := by omega
        obtain ⟨r0, r1⟩ := allIn_get (sharedB_parts HV.out).2 hkl
        obtain ⟨o, ho⟩ := Int.eq_ofNat_of_zero_le r0
        obtain ⟨hw64, hc64, hu64, hol, hl65, huo⟩ := put_facts HV.out hkl ho (inB_true.1 hvv)
        obtain ⟨hu1, hu2⟩ := huo hol
        have HU := Lib.hid hu64
        have HO := Lib.hid ho
        have hoc : o < s.cps.length := by omega
        clear huo hu64 r0 r1 ho
        go_wp2_with (go_at_call 42; refine (within_any _ _ _ _).mono ?_; rintro e w' ⟨rfl, rfl⟩)
        clear hat
        go_cut [7] (fun v wc => PutMid w s v wc)
        case first =>
          go_region_held3 (fun w' => w'.cell? ⟨w.heap.size, 0, none⟩ = some (.slice A0 s.whr.length c0) ∧ w'.cell? ⟨w.heap.size, 1, none⟩ = some (.slice A0' s.cps.length c0')) (first | go_keep | (refine ⟨?_, ?_⟩ <;> assumption) | (refine ⟨?_, ?_⟩ <;> (simp [go_sem, *]; done)))
            (first
              | (go_at_call 56; (with_reducible refine (cloneInts_w (.slice A0 s.whr.length c0) s.whr _ (SharedRd.s0 (SharedRd.below HR.out (by repeat (first | with_reducible exact W1.out | with_reducible exact Below.refl _ _ | with_reducible refine below_drewN ?_ _ | with_reducible refine Below.drew ?_ | with_reducible refine Below.alloc ?_ ?_ _ | with_reducible refine Below.setCell ?_ ?_ _ | (with_reducible refine Below.next ?_ (by assumption)) | ((with_reducible refine Below.far' (by assumption) ?_ ?_ ?_); (focus (first | omega | (simp; omega) | (simp; done))); (focus (first | omega | (simp; omega) | (simp; done)))) | omega | (focus (simp; omega)) | (focus (simp; done)))))) hsw).mono ?_); rintro e w2 ⟨y0, rfl, o1, hb2⟩; obtain ⟨A1, c1, g1, rfl, -, -⟩ := id o1; have N0 := Loc.carryB M0 (fun h => by ((repeat (first | with_reducible exact h | with_reducible refine Loc.drew ?_ | with_reducible refine Loc.drewN ?_ _ | with_reducible refine Loc.alloc ?_ _)); done)) hb2; obtain ⟨n0, n1, nf⟩ := N0.two; have N1 := Loc.carryB M1 (fun h => by ((repeat (first | with_reducible exact h | with_reducible refine Loc.drew ?_ | with_reducible refine Loc.drewN ?_ _ | with_reducible refine Loc.alloc ?_ _)); done)) hb2; obtain ⟨p0, p1, pf⟩ := N1.two; have W2 : Hid (Below w.heap.size w w2) := Lib.hid (Below.next (W := w) (by repeat (first | with_reducible exact W1.out | with_reducible exact Below.refl _ _ | with_reducible refine below_drewN ?_ _ | with_reducible refine Below.drew ?_ | with_reducible refine Below.alloc ?_ ?_ _ | with_reducible refine Below.setCell ?_ ?_ _ | (with_reducible refine Below.next ?_ (by assumption)) | ((with_reducible refine Below.far' (by assumption) ?_ ?_ ?_); (focus (first | omega | (simp; omega) | (simp; done))); (focus (first | omega | (simp; omega) | (simp; done)))) | omega | (focus (simp; omega)) | (focus (simp; done)))) hb2); have zN0 := N0.lt; have zN1 := N1.lt; have hz2 := hb2.size; (try simp at hz2); obtain ⟨hc2, hf2⟩ := bcell hb2; (try have z12 : w1.heap.size < w2.heap.size := by omega))
              | (go_at_call 57; (with_reducible refine (cloneCopyS_w (.slice A0' s.cps.length c0') s.cps _ (SharedRd.s1 (SharedRd.below HR.out (by repeat (first | with_reducible exact W2.out | with_reducible exact Below.refl _ _ | with_reducible refine below_drewN ?_ _ | with_reducible refine Below.drew ?_ | with_reducible refine Below.alloc ?_ ?_ _ | with_reducible refine Below.setCell ?_ ?_ _ | (with_reducible refine Below.next ?_ (by assumption)) | ((with_reducible refine Below.far' (by assumption) ?_ ?_ ?_); (focus (first | omega | (simp; omega) | (simp; done))); (focus (first | omega | (simp; omega) | (simp; done)))) | omega | (focus (simp; omega)) | (focus (simp; done)))))) hsc).mono ?_); rintro e w3 ⟨y1, rfl, o2, hb3⟩; obtain ⟨A2, c2, g2, rfl, -, -⟩ := id o2; have O1 := SOwn.below o1 (Below.next (by repeat (first | with_reducible exact Below.refl _ _ | with_reducible refine below_drewN ?_ _ | with_reducible refine Below.drew ?_ | with_reducible refine Below.alloc ?_ ?_ _ | with_reducible refine Below.setCell ?_ ?_ _ | omega | (focus (simp; omega)) | (focus (simp; done)))) hb3); have P0 := Loc.carryB N0 (fun h => by ((repeat (first | with_reducible exact h | with_reducible refine Loc.drew ?_ | with_reducible refine Loc.drewN ?_ _ | with_reducible refine Loc.alloc ?_ _)); done)) hb3; have P1 := Loc.carryB N1 (fun h => by ((repeat (first | with_reducible exact h | with_reducible refine Loc.drew ?_ | with_reducible refine Loc.drewN ?_ _ | with_reducible refine Loc.alloc ?_ _)); done)) hb3; obtain ⟨q0, q1, qf⟩ := P1.two; obtain ⟨qq0, qq1, qqf⟩ := P0.two; have W3 : Hid (Below w.heap.size w w3) := Lib.hid (Below.next (W := w) (by repeat (first | with_reducible exact W2.out | with_reducible exact Below.refl _ _ | with_reducible refine below_drewN ?_ _ | with_reducible refine Below.drew ?_ | with_reducible refine Below.alloc ?_ ?_ _ | with_reducible refine Below.setCell ?_ ?_ _ | (with_reducible refine Below.next ?_ (by assumption)) | ((with_reducible refine Below.far' (by assumption) ?_ ?_ ?_); (focus (first | omega | (simp; omega) | (simp; done))); (focus (first | omega | (simp; omega) | (simp; done)))) | omega | (focus (simp; omega)) | (focus (simp; done)))) hb3); have zP1 := P1.lt; have hz3 := hb3.size; (try simp at hz3); obtain ⟨hc3, hf3⟩ := bcell hb3; (try have z13 : w1.heap.size < w3.heap.size := by omega); (try have z23 : w2.heap.size < w3.heap.size := by omega)))
          all_goals
            go_wp2_with fail
            go_meet
            try simp at hz2
            try simp at hz3
            first
              | (with_reducible show PutMid w s (.pointer (some ⟨w1.heap.size, 0, none⟩)) _
                 have q1 := SOwn.mono (B' := w1.heap.size + 1) (C' := w2.heap.size) O1 (by first | omega | (simp; done)) (Nat.le_refl _)
                 have q2 := SOwn.mono (B' := w2.heap.size) (C' := w3.heap.size) o2 (by first | omega | (simp; done)) (Nat.le_refl _)
                 refine putMid_of (X := w1.heap.size) (B1 := w1.heap.size + 1) (C1 := w2.heap.size) (B2 := w2.heap.size) (C2 := w3.heap.size) (u1 := .slice A1 s.whr.length c1) (u2 := .slice A2 s.cps.length c2) ?_ ?_ (by repeat (first | with_reducible assumption | with_reducible apply Loc.fill3 | with_reducible apply Loc.fill2 | ((with_reducible refine Loc.newAt' ?_ rfl); (focus (first | with_reducible rfl | omega | (simp; omega) | (simp; done)))) | with_reducible refine Loc.drew ?_ | with_reducible refine Loc.drewN ?_ _ | with_reducible refine Loc.alloc ?_ _ | (with_reducible refine Loc.below ?_ (by assumption)) | ((with_reducible refine Loc.other' ?_ ?_ _); (focus (first | omega | (simp; omega) | (simp; done)))) | ((with_reducible refine Loc.far' (by assumption) ?_ ?_); (focus (first | omega | (simp; omega) | (simp; done)))))) (by repeat (first | with_reducible assumption | with_reducible apply Loc.fill3 | with_reducible apply Loc.fill2 | ((with_reducible refine Loc.newAt' ?_ rfl); (focus (first | with_reducible rfl | omega | (simp; omega) | (simp; done)))) | with_reducible refine Loc.drew ?_ | with_reducible refine Loc.drewN ?_ _ | with_reducible refine Loc.alloc ?_ _ | (with_reducible refine Loc.below ?_ (by assumption)) | ((with_reducible refine Loc.other' ?_ ?_ _); (focus (first | omega | (simp; omega) | (simp; done)))) | ((with_reducible refine Loc.far' (by assumption) ?_ ?_); (focus (first | omega | (simp; omega) | (simp; done)))))) (by repeat (first | with_reducible exact W3.out | with_reducible exact Below.refl _ _ | with_reducible refine below_drewN ?_ _ | with_reducible refine Below.drew ?_ | with_reducible refine Below.alloc ?_ ?_ _ | with_reducible refine Below.setCell ?_ ?_ _ | (with_reducible refine Below.next ?_ (by assumption)) | ((with_reducible refine Below.far' (by assumption) ?_ ?_ ?_); (focus (first | omega | (simp; omega) | (simp; done))); (focus (first | omega | (simp; omega) | (simp; done)))) | omega | (focus (simp; omega)) | (focus (simp; done)))) ?_ ?_ ?_ ?_ ?_ ?_ ?_
                 focus (exact (by repeat (first | with_reducible exact q1 | with_reducible refine SOwn.drew ?_ | with_reducible refine SOwn.drewN ?_ _ | with_reducible refine SOwn.alloc ?_ _ | (with_reducible refine SOwn.below ?_ (by assumption)) | ((with_reducible refine SOwn.other ?_ ?_ _); rotate_left; (focus (first | omega | (simp; omega) | (simp; done)))))))
                 focus (exact (by repeat (first | with_reducible exact q2 | with_reducible refine SOwn.drew ?_ | with_reducible refine SOwn.drewN ?_ _ | with_reducible refine SOwn.alloc ?_ _ | (with_reducible refine SOwn.below ?_ (by assumption)) | ((with_reducible refine SOwn.other ?_ ?_ _); rotate_left; (focus (first | omega | (simp; omega) | (simp; done))))))))
              | (with_reducible show PutMid w s (.pointer (some ⟨w2.heap.size, 0, none⟩)) _
                 have q1 := SOwn.mono (B' := w1.heap.size) (C' := w2.heap.size) O1 (by first | omega | (simp; done)) (Nat.le_refl _)
                 have q2 := SOwn.mono (B' := w2.heap.size + 1) (C' := w3.heap.size) o2 (by first | omega | (simp; done)) (Nat.le_refl _)
                 refine putMid_of (X := w2.heap.size) (B1 := w1.heap.size) (C1 := w2.heap.size) (B2 := w2.heap.size + 1) (C2 := w3.heap.size) (u1 := .slice A1 s.whr.length c1) (u2 := .slice A2 s.cps.length c2) ?_ ?_ (by repeat (first | with_reducible assumption | with_reducible apply Loc.fill3 | with_reducible apply Loc.fill2 | ((with_reducible refine Loc.newAt' ?_ rfl); (focus (first | with_reducible rfl | omega | (simp; omega) | (simp; done)))) | with_reducible refine Loc.drew ?_ | with_reducible refine Loc.drewN ?_ _ | with_reducible refine Loc.alloc ?_ _ | (with_reducible refine Loc.below ?_ (by assumption)) | ((with_reducible refine Loc.other' ?_ ?_ _); (focus (first | omega | (simp; omega) | (simp; done)))) | ((with_reducible refine Loc.far' (by assumption) ?_ ?_); (focus (first | omega | (simp; omega) | (simp; done)))))) (by repeat (first | with_reducible assumption | with_reducible apply Loc.fill3 | with_reducible apply Loc.fill2 | ((with_reducible refine Loc.newAt' ?_ rfl); (focus (first | with_reducible rfl | omega | (simp; omega) | (simp; done)))) | with_reducible refine Loc.drew ?_ | with_reducible refine Loc.drewN ?_ _ | with_reducible refine Loc.alloc ?_ _ | (with_reducible refine Loc.below ?_ (by assumption)) | ((with_reducible refine Loc.other' ?_ ?_ _); (focus (first | omega | (simp; omega) | (simp; done)))) | ((with_reducible refine Loc.far' (by assumption) ?_ ?_); (focus (first | omega | (simp; omega) | (simp; done)))))) (by repeat (first | with_reducible exact W3.out | with_reducible exact Below.refl _ _ | with_reducible refine below_drewN ?_ _ | with_reducible refine Below.drew ?_ | with_reducible refine Below.alloc ?_ ?_ _ | with_reducible refine Below.setCell ?_ ?_ _ | (with_reducible refine Below.next ?_ (by assumption)) | ((with_reducible refine Below.far' (by assumption) ?_ ?_ ?_); (focus (first | omega | (simp; omega) | (simp; done))); (focus (first | omega | (simp; omega) | (simp; done)))) | omega | (focus (simp; omega)) | (focus (simp; done)))) ?_ ?_ ?_ ?_ ?_ ?_ ?_
                 focus (exact (by repeat (first | with_reducible exact q1 | with_reducible refine SOwn.drew ?_ | with_reducible refine SOwn.drewN ?_ _ | with_reducible refine SOwn.alloc ?_ _ | (with_reducible refine SOwn.below ?_ (by assumption)) | ((with_reducible refine SOwn.other ?_ ?_ _); rotate_left; (focus (first | omega | (simp; omega) | (simp; done)))))))
                 focus (exact (by repeat (first | with_reducible exact q2 | with_reducible refine SOwn.drew ?_ | with_reducible refine SOwn.drewN ?_ _ | with_reducible refine SOwn.alloc ?_ _ | (with_reducible refine SOwn.below ?_ (by assumption)) | ((with_reducible refine SOwn.other ?_ ?_ _); rotate_left; (focus (first | omega | (simp; omega) | (simp; done))))))))
              | (with_reducible show PutMid w s (.pointer (some ⟨w3.heap.size, 0, none⟩)) _
                 have q1 := SOwn.mono (B' := w1.heap.size) (C' := w2.heap.size) O1 (by first | omega | (simp; done)) (Nat.le_refl _)
                 have q2 := SOwn.mono (B' := w2.heap.size) (C' := w3.heap.size) o2 (by first | omega | (simp; done)) (Nat.le_refl _)
                 refine putMid_of (X := w3.heap.size) (B1 := w1.heap.size) (C1 := w2.heap.size) (B2 := w2.heap.size) (C2 := w3.heap.size) (u1 := .slice A1 s.whr.length c1) (u2 := .slice A2 s.cps.length c2) ?_ ?_ (by repeat (first | with_reducible assumption | with_reducible apply Loc.fill3 | with_reducible apply Loc.fill2 | ((with_reducible refine Loc.newAt' ?_ rfl); (focus (first | with_reducible rfl | omega | (simp; omega) | (simp; done)))) | with_reducible refine Loc.drew ?_ | with_reducible refine Loc.drewN ?_ _ | with_reducible refine Loc.alloc ?_ _ | (with_reducible refine Loc.below ?_ (by assumption)) | ((with_reducible refine Loc.other' ?_ ?_ _); (focus (first | omega | (simp; omega) | (simp; done)))) | ((with_reducible refine Loc.far' (by assumption) ?_ ?_); (focus (first | omega | (simp; omega) | (simp; done)))))) (by repeat (first | with_reducible assumption | with_reducible apply Loc.fill3 | with_reducible apply Loc.fill2 | ((with_reducible refine Loc.newAt' ?_ rfl); (focus (first | with_reducible rfl | omega | (simp; omega) | (simp; done)))) | with_reducible refine Loc.drew ?_ | with_reducible refine Loc.drewN ?_ _ | with_reducible refine Loc.alloc ?_ _ | (with_reducible refine Loc.below ?_ (by assumption)) | ((with_reducible refine Loc.other' ?_ ?_ _); (focus (first | omega | (simp; omega) | (simp; done)))) | ((with_reducible refine Loc.far' (by assumption) ?_ ?_); (focus (first | omega | (simp; omega) | (simp; done)))))) (by repeat (first | with_reducible exact W3.out | with_reducible exact Below.refl _ _ | with_reducible refine below_drewN ?_ _ | with_reducible refine Below.drew ?_ | with_reducible refine Below.alloc ?_ ?_ _ | with_reducible refine Below.setCell ?_ ?_ _ | (with_reducible refine Below.next ?_ (by assumption)) | ((with_reducible refine Below.far' (by assumption) ?_ ?_ ?_); (focus (first | omega | (simp; omega) | (simp; done))); (focus (first | omega | (simp; omega) | (simp; done)))) | omega | (focus (simp; omega)) | (focus (simp; done)))) ?_ ?_ ?_ ?_ ?_ ?_ ?_
                 focus (exact (by repeat (first | with_reducible exact q1 | with_reducible refine SOwn.drew ?_ | with_reducible refine SOwn.drewN ?_ _ | with_reducible refine SOwn.alloc ?_ _ | (with_reducible refine SOwn.below ?_ (by assumption)) | ((with_reducible refine SOwn.other ?_ ?_ _); rotate_left; (focus (first | omega | (simp; omega) | (simp; done)))))))
                 focus (exact (by repeat (first | with_reducible exact q2 | with_reducible refine SOwn.drew ?_ | with_reducible refine SOwn.drewN ?_ _ | with_reducible refine SOwn.alloc ?_ _ | (with_reducible refine SOwn.below ?_ (by assumption)) | ((with_reducible refine SOwn.other ?_ ?_ _); rotate_left; (focus (first | omega | (simp; omega) | (simp; done))))))))
            all_goals omega
        case rest =>
          obtain ⟨X, A1, c1, g1, A2, c2, g2, rfl, hX, LX, LR, row1, row2, hg12, hg1X, hg2X, hg1, hg2, hbb⟩ := hcut
          obtain ⟨x0, x1, xf⟩ := LX.two
          obtain ⟨q0, q1, qf⟩ := LR.two
          have zX := LX.lt
          have zR := LR.lt
          have WC := Lib.hid hbb
          have hzc := hbb.size
          obtain ⟨rfl, hgl, hfz, hcc⟩ := row1.int (by omega)
          have hck := hcc k hkl
          rw [HO.out] at hck
          have H1 := Lib.hid row1
          have H2 := Lib.hid row2
          clear hbb hcc row1 row2 M0 M1 k0 k1 kf m0 m1 mf zM0 zM1 hz1 W1
          go_wp2_with fail
          go_region_held3 (fun w' => w'.cell? ⟨X, 0, none⟩ = some (.slice (some ⟨g1, 0, none⟩) s.whr.length c1)) (first | go_keep | assumption)
            ((go_at_call 48; (with_reducible refine (use_c X (some ⟨g1, 0, none⟩) s.whr.length c1 A2 c2 g2 s.cps v _ (Loc.drew LX) (Row.drew H2.out) hg2X hsc HU.out).mono ?_); rintro e w4 ⟨rfl, G4, A3, c3, g3, LX4, row3, hg3⟩; obtain ⟨y0, y1, yf⟩ := LX4.two; have LR4 := Loc.gtwo LR (GTwo.drew0 G4) (by omega) (by omega); obtain ⟨r0, r1, rf⟩ := LR4.two; have H14 := Lib.hid (Row.gtwo H1.out (GTwo.drew0 G4) hg1X hg12); have zX4 := LX4.lt; have zR4 := LR4.lt; have hz4 := G4.size; (try simp at hz4); obtain ⟨-, hgl4, hfz4, hcc4⟩ := H14.out.int (by omega); have hck4 := hcc4 k hkl; clear hcc4; (try simp at hg3)))
          all_goals
            have hg3' : w.heap.size + 2 ≤ g3 := by omega
            have hg31 : g3 ≠ g1 := by omega
            have hg3X : g3 ≠ X := by omega
            obtain ⟨W, hW⟩ : ∃ W, W = w4.setCell ⟨g1, k, none⟩ (.int .i64 (useN s.cps v : Nat)) := ⟨_, rfl⟩
            rw [← hW]
            have LXW : Loc W X [.slice (some ⟨g1, 0, none⟩) s.whr.length c1, .slice A3 (useL s.cps v).length c3] := by rw [hW]; exact Loc.other' (p := ⟨g1, k, none⟩) (Ne.symm hg1X) LX4 _
            have LRW : Loc W (w.heap.size + 1) [.slice none 0 0, .slice none 0 0] := by rw [hW]; exact Loc.other' (p := ⟨g1, k, none⟩) (by simp; omega) LR4 _
            have H1W : Hid (Row eInt W g1 3 (some ⟨g1, 0, none⟩) c1 (s.whr.set k (useN s.cps v : Nat))) := Lib.hid (by rw [hW]; exact H14.out.setInt hkl _)
            have row3W : Row encCopyS W g3 tyCopyS A3 c3 (useL s.cps v) := by rw [hW]; exact Row.other row3 hg31 _
            have BW : Hid (Below w.heap.size w W) := Lib.hid (by rw [hW]; exact Below.setCell (Below.gtwo WC.out (GTwo.drew0 G4) hzc (by omega) (by omega)) (by simp; omega) _)
            have hzW : w4.heap.size ≤ W.heap.size := by rw [hW]; simp
            have hL1 : Hid ((s.whr.set k (useN s.cps v : Nat)).length = s.whr.length) := Lib.hid (by simp)
            have HRG := Lib.hid (put_range (k := k) HV.out (inB_true.1 hvv) hl65)
            have HK := Lib.hid (@putSh_keep s k o v hkl HO.out hol)
            have HDR := Lib.hid (@putSh_drop s k o v hkl HO.out hol)
            have HLE := Lib.hid (lessAt_eq hol)
            clear hW row3 LX4 LR4 G4 y0 y1 yf r0 r1 rf H14 hck4 hfz4 hgl4 zX4 zR4 x0 x1 xf q0 q1 qf H1 H2 WC LX LR hck hfz hgl HU
            obtain ⟨us, huse⟩ : ∃ us, us = (useL s.cps v)[o].usr := ⟨_, rfl⟩
            obtain ⟨rfl, hg3l, hfz3, hcc3⟩ := row3W.rCopyS (by omega)
            have hcu := (hcc3 o hol).2
            have HS0 := row3W.setBCopyS (k := o) hol (us - 1)
            have hrest : ∀ u : Int, u = us → (useL s.cps v).set o ⟨(useL s.cps v)[o].val, u - 1⟩ = lessAt (useL s.cps v) o := fun u hu => by rw [HLE.out, hu, huse]
            rw [hrest us rfl] at HS0
            have HS := Lib.hid HS0
            rw [← huse] at hcu hu1 hu2 HK HDR
            have hcap3 := row3W.le
            have HR3W := Lib.hid row3W
            obtain ⟨x0, x1, xf⟩ := LXW.two
            obtain ⟨q0, q1, qf⟩ := LRW.two
            have zX := LXW.lt
            have zR := LRW.lt
            clear hrest HS0 hcc3 row3W huse hvv
            by_cases hus : us = 1
            · subst hus
              have HDD := Lib.hid (HDR.out rfl)
              have hLn : Hid ((lessAt (useL s.cps v) o).length = (useL s.cps v).length) := Lib.hid (lessAt_len _ _)
              obtain ⟨m, hm⟩ : ∃ m, (useL s.cps v).length - 1 = m := ⟨_, rfl⟩
              have HM := Lib.hid hm
              have hLm : Hid (((lessAt (useL s.cps v) o).eraseIdx o).length = m) := Lib.hid (by rw [List.length_eraseIdx, hLn.out, if_pos hol, hm])
              have hm65 : m ≤ 65 := by omega
              clear hm
              go_wp2_with fail
              refine (delete_n c3 g3 o _ m (lessAt (useL s.cps v) o) _ HS.out hLn.out HM.out hol (by omega)).mono ?_
              rintro e w5 ⟨rfl, row5, hg5⟩
              have LX5 := Loc.grown (Loc.other' (p := ⟨g3, o * 2 + 1, none⟩) (Ne.symm hg3X) LXW _) hg5 (Ne.symm hg3X)
              have LR5 := Loc.grown (Loc.other' (p := ⟨g3, o * 2 + 1, none⟩) (show w.heap.size + 1 ≠ g3 by omega) LRW _) hg5 (by omega)
              have row15 := Row.grown (Row.other (p := ⟨g3, o * 2 + 1, none⟩) H1W.out (Ne.symm hg31) _) hg5 (Ne.symm hg31)
              have hzz := hg5.size
              simp only [World.size_setCell] at hzz
              have B5 : Hid (Below w.heap.size w w5) := Lib.hid (Below.grown1 (Below.setCell BW.out (by simp; omega) _) hg5 (by simp; omega) (by omega))
              obtain ⟨x0', x1', xf'⟩ := LX5.two
              obtain ⟨q0', q1', qf'⟩ := LR5.two
              have zX5 := LX5.lt
              have zR5 := LR5.lt
              have H15 := Lib.hid row15
              have H25 := Lib.hid row5
              clear x0 x1 xf q0 q1 qf LXW LRW row15 row5 hg5 H1W HS HR3W hcu hfz3 hg3l BW HK HDR HLE
              go_wp2_with fail
              go_loopw [73] (fun i wr => ∃ j : Nat, j ≤ s.whr.length ∧ i = .int .i64 j ∧ Loc wr X [.slice (some ⟨g1, 0, none⟩) s.whr.length c1, .slice (some ⟨g3, 0, none⟩) m c3] ∧ Loc wr (w.heap.size + 1) [.slice none 0 0, .slice none 0 0] ∧ Below w.heap.size w wr ∧ ∃ lk : List Int, Hid (lk = decTo (s.whr.set k (useN s.cps v : Nat)) o j) ∧ (lk.length ≤ s.whr.length ∧ s.whr.length ≤ lk.length) ∧ Row eInt wr g1 3 (some ⟨g1, 0, none⟩) c1 lk ∧ Row encCopyS wr g3 tyCopyS (some ⟨g3, 0, none⟩) c3 ((lessAt (useL s.cps v) o).eraseIdx o)) (fun i _ => s.whr.length - (intOf i).toNat)
              case atStart =>
                refine ⟨0, Nat.zero_le _, rfl, by simpa using Loc.set LX5 1 _, Loc.other' (by simp; omega) LR5 _, Below.setCell B5.out (by simp; omega) _, _, Lib.hid (decTo_zero _ _).symm, ?_, Row.other H15.out (by simp; omega) _, Row.other H25.out (by simp; omega) _⟩
                simp
              case round =>
                obtain ⟨j, hj, rfl, LXr, LRr, hbr, lk, HLK, ⟨hlk1, hlk2⟩, row1r, row3r⟩ := hrel
                obtain ⟨x0, x1, xf⟩ := LXr.two
                obtain ⟨q0, q1, qf⟩ := LRr.two
                have zXr := LXr.lt
                have zRr := LRr.lt
                by_cases hlt : j < s.whr.length
                · obtain ⟨-, hgl, hfz, hcc⟩ := row1r.int (by omega)
                  have hjk : j < lk.length := by omega
                  have hjl : j < (s.whr.set k (useN s.cps v : Nat)).length := by rw [hL1.out]; exact hlt
                  have hcj := hcc j hjk
                  have hlkj : Hid (lk[j]'hjk = (s.whr.set k (useN s.cps v : Nat))[j]'hjl) := Lib.hid (by simp only [HLK.out, decTo_get _ o j hjl])
                  have hrg := HRG.out _ (List.getElem_mem hjl)
                  have HLESS := Lib.hid (decTo_less (s.whr.set k (useN s.cps v : Nat)) o j hjl)
                  have HSAME := Lib.hid (decTo_same (s.whr.set k (useN s.cps v : Nat)) o j hjl)
                  rw [hlkj.out] at hcj
                  have HSET := fun x : Int => Lib.hid (row1r.setInt (k := j) hjk x)
                  obtain ⟨y, hy⟩ : ∃ y, y = (s.whr.set k (useN s.cps v : Nat))[j]'hjl := ⟨_, rfl⟩
                  rw [← hy] at hcj hrg HLESS HSAME
                  obtain ⟨hrg1, hrg2⟩ := hrg
                  have HS1 := HSET (y - 1)
                  have H3r := Lib.hid row3r
                  have H1r := Lib.hid row1r
                  clear hcc hlkj hy HSET row3r row1r
                  by_cases hgt : (o : Int) < y
                  · have HQ := Lib.hid (HLESS.out hgt)
                    go_wp2
                    go_roundw
                    case rel => exact ⟨j + 1, by omega, by go_num, (by repeat (first | with_reducible exact LXr | with_reducible refine Loc.drew ?_ | with_reducible refine Loc.drewN ?_ _ | with_reducible refine Loc.alloc ?_ _ | (with_reducible refine Loc.below ?_ (by assumption)) | ((with_reducible refine Loc.other' ?_ ?_ _); (focus (first | omega | (simp; omega) | (simp; done)))) | ((with_reducible refine Loc.far' (by assumption) ?_ ?_); (focus (first | omega | (simp; omega) | (simp; done)))))), (by repeat (first | with_reducible exact LRr | with_reducible refine Loc.drew ?_ | with_reducible refine Loc.drewN ?_ _ | with_reducible refine Loc.alloc ?_ _ | (with_reducible refine Loc.below ?_ (by assumption)) | ((with_reducible refine Loc.other' ?_ ?_ _); (focus (first | omega | (simp; omega) | (simp; done)))) | ((with_reducible refine Loc.far' (by assumption) ?_ ?_); (focus (first | omega | (simp; omega) | (simp; done)))))), (by repeat (first | with_reducible exact hbr | with_reducible exact Below.refl _ _ | with_reducible refine below_drewN ?_ _ | with_reducible refine Below.drew ?_ | with_reducible refine Below.alloc ?_ ?_ _ | with_reducible refine Below.setCell ?_ ?_ _ | (with_reducible refine Below.next ?_ (by assumption)) | ((with_reducible refine Below.far' (by assumption) ?_ ?_ ?_); (focus (first | omega | (simp; omega) | (simp; done))); (focus (first | omega | (simp; omega) | (simp; done)))) | omega | (focus (simp; omega)) | (focus (simp; done)))), lk.set j (y - 1), Lib.hid (by rw [HQ.out, HLK.out]), ⟨by simp; omega, by simp; omega⟩, HS1.out, (by repeat (first | with_reducible exact H3r.out | with_reducible refine Row.drew ?_ | with_reducible refine Row.drewN ?_ _ | with_reducible refine Row.alloc ?_ _ | (with_reducible refine Row.below ?_ (by assumption)) | ((with_reducible refine Row.other ?_ ?_ _); rotate_left; (focus (first | omega | (simp; omega) | (simp; done)))) | ((with_reducible refine Row.far' (by assumption) ?_ ?_); (focus (first | omega | (simp; omega) | (simp; done))))))⟩
                    case measure => simp [intOf]; omega
                  · have HQ := Lib.hid (HSAME.out hgt)
                    go_wp2
                    go_roundw
                    case rel => exact ⟨j + 1, by omega, by go_num, LXr, LRr, hbr, lk, Lib.hid (by rw [HQ.out, HLK.out]), ⟨by omega, by omega⟩, H1r.out, H3r.out⟩
                    case measure => simp [intOf]; omega
                · have hje : j = s.whr.length := by omega
                  have HE : Hid (putSh s k v = ⟨lk, (lessAt (useL s.cps v) o).eraseIdx o⟩) := Lib.hid (by rw [HDD.out, HLK.out, hje])
                  have H3r := Lib.hid row3r
                  have H1r := Lib.hid row1r
                  clear row3r row1r hje
                  go_wp2
                  refine bodyPost_ret (v := .agg #[.slice (some ⟨g1, 0, none⟩) s.whr.length c1, .slice (some ⟨g3, 0, none⟩) m c3]) (by simp [results, Try.results34, go_sem, *]; done) rfl ⟨_, _, rfl, ?_, ?_⟩
                  · rw [HY.out, Int.toNat_natCast, HE.out]
                    exact sharedOwn_rown (g1 := g1) (g2 := g3) (by repeat (first | with_reducible exact H1r.out | with_reducible refine Row.drew ?_ | with_reducible refine Row.drewN ?_ _ | with_reducible refine Row.alloc ?_ _ | (with_reducible refine Row.below ?_ (by assumption)) | ((with_reducible refine Row.other ?_ ?_ _); rotate_left; (focus (first | omega | (simp; omega) | (simp; done)))) | ((with_reducible refine Row.far' (by assumption) ?_ ?_); (focus (first | omega | (simp; omega) | (simp; done)))))) (by repeat (first | with_reducible exact H3r.out | with_reducible refine Row.drew ?_ | with_reducible refine Row.drewN ?_ _ | with_reducible refine Row.alloc ?_ _ | (with_reducible refine Row.below ?_ (by assumption)) | ((with_reducible refine Row.other ?_ ?_ _); rotate_left; (focus (first | omega | (simp; omega) | (simp; done)))) | ((with_reducible refine Row.far' (by assumption) ?_ ?_); (focus (first | omega | (simp; omega) | (simp; done)))))) (by omega) hLm.out (Ne.symm hg31) (by omega) (by omega)
                  · exact (by repeat (first | with_reducible exact hbr | with_reducible exact Below.refl _ _ | with_reducible refine below_drewN ?_ _ | with_reducible refine Below.drew ?_ | with_reducible refine Below.alloc ?_ ?_ _ | with_reducible refine Below.setCell ?_ ?_ _ | (with_reducible refine Below.next ?_ (by assumption)) | ((with_reducible refine Below.far' (by assumption) ?_ ?_ ?_); (focus (first | omega | (simp; omega) | (simp; done))); (focus (first | omega | (simp; omega) | (simp; done)))) | omega | (focus (simp; omega)) | (focus (simp; done))))
            · have hus0 : ((us - 1 : Int) == 0) = false := by rw [beq_eq_false_iff_ne]; omega
              have HPK := Lib.hid (HK.out (by omega))
              clear hus
              go_wp2_with fail
              refine bodyPost_ret (v := .agg #[.slice (some ⟨g1, 0, none⟩) s.whr.length c1, .slice (some ⟨g3, 0, none⟩) (useL s.cps v).length c3]) (by simp [results, Try.results34, go_sem, *]; done) rfl ⟨_, _, rfl, ?_, ?_⟩
              · rw [HY.out, Int.toNat_natCast, HPK.out]
                exact sharedOwn_rown (g1 := g1) (g2 := g3) (by repeat (first | with_reducible exact H1W.out | with_reducible refine Row.drew ?_ | with_reducible refine Row.drewN ?_ _ | with_reducible refine Row.alloc ?_ _ | (with_reducible refine Row.below ?_ (by assumption)) | ((with_reducible refine Row.other ?_ ?_ _); rotate_left; (focus (first | omega | (simp; omega) | (simp; done)))) | ((with_reducible refine Row.far' (by assumption) ?_ ?_); (focus (first | omega | (simp; omega) | (simp; done)))))) (by repeat (first | with_reducible exact HS.out | with_reducible refine Row.drew ?_ | with_reducible refine Row.drewN ?_ _ | with_reducible refine Row.alloc ?_ _ | (with_reducible refine Row.below ?_ (by assumption)) | ((with_reducible refine Row.other ?_ ?_ _); rotate_left; (focus (first | omega | (simp; omega) | (simp; done)))) | ((with_reducible refine Row.far' (by assumption) ?_ ?_); (focus (first | omega | (simp; omega) | (simp; done)))))) hL1.out (lessAt_len _ _) (Ne.symm hg31) (by omega) (by omega)
              · exact (by repeat (first | with_reducible exact BW.out | with_reducible exact Below.refl _ _ | with_reducible refine below_drewN ?_ _ | with_reducible refine Below.drew ?_ | with_reducible refine Below.alloc ?_ ?_ _ | with_reducible refine Below.setCell ?_ ?_ _ | (with_reducible refine Below.next ?_ (by assumption)) | ((with_reducible refine Below.far' (by assumption) ?_ ?_ ?_); (focus (first | omega | (simp; omega) | (simp; done))); (focus (first | omega | (simp; omega) | (simp; done)))) | omega | (focus (simp; omega)) | (focus (simp; done))))
end Go.Proofs.Ytpekccmhfkeadaa
