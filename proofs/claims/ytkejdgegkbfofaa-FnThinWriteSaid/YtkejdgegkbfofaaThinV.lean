/-
  Thin volumes: views. Conditions: lengths at most 2^40.
-/
import Derived.Test.YtkejdgegkbfofaaBase
import Derived.Test.YtkejdgegkbfofaaNum
import Derived.Test.YtkejdgegkbfofaaInts
import Derived.Test.YtkejdgegkbfofaaApp
import Derived.Test.YtkejdgegkbfofaaIntsW
import Derived.Test.YtkejdgegkbfofaaLib
import Derived.Test.YtkejdgegkbfofaaSpares
import Derived.Test.YtkejdgegkbfofaaOwn
import Derived.Test.YtkejdgegkbfofaaThin
import Derived.Test.YtkejdgegkbfofaaThinM
import Derived.Test.YtkejdgegkbfofaaThinC
import Derived.Test.YtkejdgegkbfofaaThinW
import Derived.Test.YtkejdgegkbfofaaThinF
import Derived.Test.YtkejdgegkbfofaaThinX
import Derived.Test.YtkejdgegkbfofaaThinP
namespace Go.Proofs.Ytkejdgegkbfofaa
open Go.RowKit
theorem thinV_no {t : Th} (h : thinB t = false) : thinV t = [] := by unfold thinV; rw [h]; rfl
theorem thinV_yes {t : Th} (h : thinB t = true) : thinV t = viewT t := by unfold thinV; rw [h]; rfl
/-- the first k values of the view, then zeros -/
def viewTo (t : Th) (k : Nat) : List Int := (viewT t).take k ++ List.replicate (t.whr.length - k) 0
theorem viewTo_zero (t : Th) : viewTo t 0 = List.replicate t.whr.length 0 := by simp [viewTo]
theorem viewTo_all (t : Th) {k : Nat} (h : t.whr.length ≤ k) : viewTo t k = viewT t := by
  unfold viewTo
  rw [List.take_of_length_le (by rw [viewT_len]; exact h), Nat.sub_eq_zero_of_le h]
  simp
theorem viewTo_len (t : Th) {k : Nat} (h : k ≤ t.whr.length) : (viewTo t k).length = t.whr.length := by
  simp [viewTo, viewT_len]; omega
theorem viewT_take {t : Th} {k : Nat} (hk : k < t.whr.length) : (viewT t).take (k + 1) = (viewT t).take k ++ [seeT t.pool t.whr[k]] := by
  have hv : k < (viewT t).length := by rw [viewT_len]; exact hk
  rw [List.take_succ_eq_append_getElem hv, viewT_get hk]
theorem zeros_cut {n k : Nat} (hk : k < n) : List.replicate (n - k) (0 : Int) = 0 :: List.replicate (n - (k + 1)) 0 := by
  rw [show n - k = (n - (k + 1)) + 1 by omega, List.replicate_succ]
theorem viewTo_succ {t : Th} {k : Nat} (hk : k < t.whr.length) : viewTo t (k + 1) = (viewTo t k).set k (seeT t.pool t.whr[k]) := by
  have hl : ((viewT t).take k).length = k := by simp [viewT_len]; omega
  unfold viewTo
  rw [viewT_take hk, zeros_cut hk, List.set_append_right _ _ (by omega), hl]
  simp
theorem viewTo_skip {t : Th} {k : Nat} (hk : k < t.whr.length) (h : t.whr[k] < 0) : viewTo t (k + 1) = viewTo t k := by
  unfold viewTo
  rw [viewT_take hk, zeros_cut hk, seeT_neg h]
  simp
theorem trim_no {t : Th} {a : Int} (h : trimOk t a = false) : trimT t a = ⟨[], []⟩ := by simp [trimT, h]
theorem trim_neg {t : Th} {n : Nat} (h : trimOk t n = true) (hn : n < t.whr.length) (hm : t.whr[n] = -1) : trimT t n = t := by
  have e : t.whr.set n (-1) = t.whr := by rw [← hm]; exact List.set_getElem_self hn
  simp [trimT, h, trimS, hn, hm, e]
theorem trim_pos {t : Th} {n p : Nat} (h : trimOk t n = true) (hn : n < t.whr.length) (hm : t.whr[n] = (p : Int)) : trimT t n = ⟨t.whr.set n (-1), t.pool.set p 0⟩ := by
  simp [trimT, h, trimS, hn, hm]
theorem trimT_size (t : Th) (a : Int) : sizeThin (trimT t a) ≤ sizeThin t := by
  unfold sizeThin trimT trimS
  split
  · simp only [List.length_set]
    split <;> simp
  · simp
/-- how many of the first k sectors have a place -/
def usedTo (l : List Int) (k : Nat) : Nat := usedT (l.take k)
theorem usedTo_zero (l : List Int) : usedTo l 0 = 0 := by simp [usedTo, usedT]
theorem usedTo_succ {l : List Int} {k : Nat} (hk : k < l.length) : usedTo l (k + 1) = usedTo l k + (if 0 ≤ l[k] then 1 else 0) := by
  unfold usedTo usedT
  rw [List.take_succ_eq_append_getElem hk, List.countP_append, List.countP_singleton]
  simp
theorem usedTo_all {l : List Int} {k : Nat} (h : l.length ≤ k) : usedTo l k = usedT l := by unfold usedTo; rw [List.take_of_length_le h]
theorem usedTo_le (l : List Int) (k : Nat) : usedTo l k ≤ l.length := by
  unfold usedTo usedT
  exact Nat.le_trans (List.countP_le_length) (by simp; omega)
theorem freeTh_no {t : Th} (h : thinB t = false) : freeTh t = -1 := by unfold freeTh; rw [h]; rfl
theorem freeTh_yes {t : Th} (h : thinB t = true) : freeTh t = (t.pool.length : Int) - usedT t.whr := by unfold freeTh; rw [h]; rfl
def newTh (s p : Int) : Th := if inB s 0 64 && inB p 0 64 then ⟨List.replicate s.toNat (-1), List.replicate p.toNat 0⟩ else ⟨[], []⟩
theorem zeros_row {w : World} {b n : Nat} (h : w.heap.size = b) (hn : n ≤ 1099511627776) : Row eInt (w.alloc (.cells (madeCells #[.int .i64 0] n) 3)) b 3 (some ⟨b, 0, none⟩) n (List.replicate n (0 : Int)) := by
  subst h
  have := made_row (E := eInt) (z := .int .i64 0) (e := 3) w 0 rfl n (by omega)
  simpa [show (Value.int .i64 0).cells = #[.int .i64 0] from rfl, show eInt.size = 1 from rfl] using this
theorem ThinRd.whr {x1 : Value} {t : Th} {w : World} {A : Option Addr} {c : Nat} (h : ThinRd w [.slice A t.whr.length c, x1] t) : Rd eInt w A t.whr := by
  obtain ⟨u, v, h1, ⟨A2, c2, rfl, hr, _⟩, _⟩ := h
  simp only [List.cons.injEq, and_true] at h1
  obtain ⟨h2, rfl⟩ := h1
  injection h2 with h2 _ _
  rw [h2]; exact hr
theorem ThinRd.pool {x0 : Value} {t : Th} {w : World} {A' : Option Addr} {c' : Nat} (h : ThinRd w [x0, .slice A' t.pool.length c'] t) : Rd eInt w A' t.pool := by
  obtain ⟨u, v, h1, _, ⟨A2, c2, rfl, hr, _⟩⟩ := h
  simp only [List.cons.injEq, and_true] at h1
  obtain ⟨rfl, h2⟩ := h1
  injection h2 with h2 _ _
  rw [h2]; exact hr
set_option maxHeartbeats 4000000 in
theorem implTView_c (x0 x1 : Value) (t : Th) (w : World) (h : ThinRd w [x0, x1] t) (hs : sizeThin t ≤ 1099511627776) :
    Calls Try.prog 15 #[.agg #[x0, x1]] w (MadeS encIntS tyIntS (thinV t) w) := by
  obtain ⟨A, c, A', c', rfl, rfl⟩ := thinRd_lens h
  have HR := Lib.hid h
  have L0 := Loc.new w [.slice A t.whr.length c, .slice A' t.pool.length c'] 26
  cases hv : thinB t
  · have HV := Lib.hid hv
    have HF := Lib.hid (thinV_no hv)
    clear hv
    go_enter Try.func15, Try.ntmps15
    go_wp2_with fail
    refine (implThin_c _ _ t _ (ThinRd.below HR.out (by repeat (first | with_reducible exact Below.refl _ _ | with_reducible refine below_drewN ?_ _ | with_reducible refine Below.drew ?_ | with_reducible refine Below.alloc ?_ ?_ _ | with_reducible refine Below.setCell ?_ ?_ _ | omega | (focus (simp; omega)) | (focus (simp; done))))) hs).mono ?_
    rw [HV.out]
    rintro e w1 ⟨rfl, hb1⟩
    go_wp2
    go_ret
    refine ⟨.slice none 0 0, rfl, ?_, (by repeat (first | with_reducible exact Below.refl _ _ | with_reducible assumption | with_reducible refine below_drewN ?_ _ | with_reducible refine Below.drew ?_ | with_reducible refine Below.alloc ?_ ?_ _ | with_reducible refine Below.setCell ?_ ?_ _ | (with_reducible refine Below.next ?_ (by assumption)) | omega | (focus (simp; omega)) | (focus (simp; done))))⟩
    rw [HF.out]; exact SOwn.nil0 _ _ _
  · have HV := Lib.hid hv
    have HF := Lib.hid (thinV_yes hv)
    have HTV := Lib.hid (thin_iff.1 hv)
    have hl64 := (thin_iff.1 hv).w64
    have hp64 := (thin_iff.1 hv).p64
    clear hv
    have hmk := run_make_el el_int t.whr.length (by omega) (by omega)
    simp only [show (Value.int .i64 0).cells = #[.int .i64 0] from rfl, show eInt.size = 1 from rfl, Nat.mul_one] at hmk
    go_enter Try.func15, Try.ntmps15
    go_wp2_with fail
    refine (implThin_c _ _ t _ (ThinRd.below HR.out (by repeat (first | with_reducible exact Below.refl _ _ | with_reducible refine below_drewN ?_ _ | with_reducible refine Below.drew ?_ | with_reducible refine Below.alloc ?_ ?_ _ | with_reducible refine Below.setCell ?_ ?_ _ | omega | (focus (simp; omega)) | (focus (simp; done))))) hs).mono ?_
    rw [HV.out]
    rintro e w1 ⟨rfl, hb1⟩
    have M0 := Loc.carryB L0 (fun h => by ((repeat (first | with_reducible exact h | with_reducible refine Loc.drew ?_ | with_reducible refine Loc.drewN ?_ _ | with_reducible refine Loc.alloc ?_ _)); done)) hb1
    obtain ⟨k0, k1, kf⟩ := M0.two
    have zM := M0.lt
    have hrow := Lib.hid (zeros_row (w := w1) (b := w1.heap.size) (n := t.whr.length) rfl (by omega))
    have W1 : Hid (Below w.heap.size w w1) := Lib.hid (Below.next (W := w) (by repeat (first | with_reducible exact Below.refl _ _ | with_reducible refine below_drewN ?_ _ | with_reducible refine Below.drew ?_ | with_reducible refine Below.alloc ?_ ?_ _ | with_reducible refine Below.setCell ?_ ?_ _ | omega | (focus (simp; omega)) | (focus (simp; done)))) hb1)
    have hz1 := hb1.size
    simp at hz1
    clear hb1
    go_wp2
    clear hmk
    go_loopw [16] (fun i wr => ∃ k : Nat, k ≤ t.whr.length ∧ i = .int .i64 k ∧ Loc wr w.heap.size [.slice A t.whr.length c, .slice A' t.pool.length c'] ∧ Below w.heap.size w wr ∧ ∃ lk : List Int, (lk.length ≤ t.whr.length ∧ t.whr.length ≤ lk.length) ∧ Hid (lk = viewTo t k) ∧ Row eInt wr w1.heap.size 3 (some ⟨w1.heap.size, 0, none⟩) t.whr.length lk) (fun i _ => t.whr.length - (intOf i).toNat)
    case atStart => exact ⟨0, Nat.zero_le _, rfl, Loc.alloc M0 _, (by repeat (first | with_reducible exact W1.out | with_reducible exact Below.refl _ _ | with_reducible refine below_drewN ?_ _ | with_reducible refine Below.drew ?_ | with_reducible refine Below.alloc ?_ ?_ _ | with_reducible refine Below.setCell ?_ ?_ _ | (with_reducible refine Below.next ?_ (by assumption)) | ((with_reducible refine Below.far' (by assumption) ?_ ?_ ?_); (focus (first | omega | (simp; omega) | (simp; done))); (focus (first | omega | (simp; omega) | (simp; done)))) | omega | (focus (simp; omega)) | (focus (simp; done)))), List.replicate t.whr.length 0, by simp, Lib.hid (viewTo_zero t).symm, hrow.out⟩
    case round =>
      obtain ⟨k, hk, rfl, LW, hbw, lk, ⟨hlk1, hlk2⟩, HLK, hrow⟩ := hrel
      have hsz := hbw.size
      have hzl := LW.lt
      obtain ⟨k0, k1, kf⟩ := LW.two
      by_cases hlt : k < t.whr.length
      · have hra := Rd.below (ThinRd.whr HR.out) hbw
        have hrc := Rd.below (ThinRd.pool HR.out) hbw
        obtain ⟨b, off, rfl, hbl, hcc⟩ := hra.int hlt
        have hb1 : b < w.heap.size := (ThinRd.whr HR.out).lt (by omega) rfl
        have HSK := Lib.hid (viewTo_skip hlt)
        have HSU := Lib.hid (viewTo_succ hlt)
        obtain ⟨hx0, hx1⟩ := HTV.out.rng _ (List.getElem_mem hlt)
        obtain ⟨x, hx⟩ : ∃ x, x = t.whr[k]'hlt := ⟨_, rfl⟩
        rw [← hx] at hcc HSK HSU hx0 hx1
        clear hx
        by_cases hneg : x < 0
        · have HE := Lib.hid (HSK.out hneg)
          go_wp2
          go_roundw
          case rel => exact ⟨k + 1, by omega, by go_num, LW, hbw, lk, ⟨hlk1, hlk2⟩, Lib.hid (by rw [HLK.out, HE.out]), hrow⟩
          case measure => simp [intOf]; omega
        · obtain ⟨j, rfl⟩ := Int.eq_ofNat_of_zero_le (Int.not_lt.1 hneg)
          have hjc : j < t.pool.length := by omega
          obtain ⟨b2, off2, rfl, hbl2, hcv⟩ := hrc.int hjc
          have hb2 : b2 < w.heap.size := (ThinRd.pool HR.out).lt (by omega) rfl
          rw [seeT_pos hjc] at HSU
          obtain ⟨_, hg, hfz, hc2⟩ := hrow.int (by omega)
          have hc3 := hc2 k (by omega)
          obtain ⟨vv, hvv⟩ : ∃ vv, vv = t.pool[j]'hjc := ⟨_, rfl⟩
          rw [← hvv] at HSU hcv
          have HSET := Lib.hid (hrow.setInt (k := k) (by omega) vv)
          clear hvv hc2 hrow HSK
          go_wp2
          go_roundw
          case rel => exact ⟨k + 1, by omega, by go_num, (by repeat (first | with_reducible exact LW | with_reducible refine Loc.drew ?_ | with_reducible refine Loc.drewN ?_ _ | with_reducible refine Loc.alloc ?_ _ | (with_reducible refine Loc.below ?_ (by assumption)) | ((with_reducible refine Loc.other' ?_ ?_ _); (focus (first | omega | (simp; omega) | (simp; done)))) | ((with_reducible refine Loc.far' (by assumption) ?_ ?_); (focus (first | omega | (simp; omega) | (simp; done)))))), (by repeat (first | with_reducible exact hbw | with_reducible exact Below.refl _ _ | with_reducible refine below_drewN ?_ _ | with_reducible refine Below.drew ?_ | with_reducible refine Below.alloc ?_ ?_ _ | with_reducible refine Below.setCell ?_ ?_ _ | (with_reducible refine Below.next ?_ (by assumption)) | ((with_reducible refine Below.far' (by assumption) ?_ ?_ ?_); (focus (first | omega | (simp; omega) | (simp; done))); (focus (first | omega | (simp; omega) | (simp; done)))) | omega | (focus (simp; omega)) | (focus (simp; done)))), _, ⟨by simp; omega, by simp; omega⟩, Lib.hid (by rw [HLK.out, HSU.out]), HSET.out⟩
          case measure => simp [intOf]; omega
      · have HE : Hid (lk = thinV t) := Lib.hid (by rw [HF.out, HLK.out]; exact viewTo_all t (by omega))
        go_wp2
        go_ret
        refine ⟨_, rfl, ?_, hbw⟩
        rw [← HE.out]
        exact SOwn.of_rown hrow (by omega) (by omega)
set_option maxHeartbeats 4000000 in
theorem specTView_c (x0 x1 : Value) (t : Th) (w : World) (h : ThinRd w [x0, x1] t) (hs : sizeThin t ≤ 1099511627776) :
    Calls Try.prog 17 #[.agg #[x0, x1]] w (MadeS encIntS tyIntS (thinV t) w) := by
  obtain ⟨A, c, A', c', rfl, rfl⟩ := thinRd_lens h
  have HR := Lib.hid h
  have L0 := Loc.new w [.slice A t.whr.length c, .slice A' t.pool.length c'] 26
  have hcl : (t.pool.length : Int) ≤ 1099511627776 := by unfold sizeThin at hs; omega
  have hwl : t.whr.length ≤ 1099511627776 := by unfold sizeThin at hs; omega
  go_enter Try.func17, Try.ntmps17
  go_wp2
  go_loopw [3, 4] (fun out i wr => ∃ k : Nat, k ≤ t.whr.length ∧ i = .int .i64 k ∧ Loc wr w.heap.size [.slice A t.whr.length c, .slice A' t.pool.length c'] ∧ Below w.heap.size w wr ∧ Hid (k = 0 ∨ thinB t = true) ∧ ∃ A1 c1 g1, ∃ lk : List Int, out = .slice A1 lk.length c1 ∧ Hid (lk = (viewT t).take k) ∧ (lk.length ≤ k ∧ k ≤ lk.length) ∧ w.heap.size < g1 ∧ Row eInt wr g1 3 A1 c1 lk) (fun _ i _ => t.whr.length - (intOf i).toNat)
  case atStart => exact ⟨0, Nat.zero_le _, rfl, Loc.alloc L0 _, (by repeat (first | with_reducible exact Below.refl _ _ | with_reducible assumption | with_reducible refine below_drewN ?_ _ | with_reducible refine Below.drew ?_ | with_reducible refine Below.alloc ?_ ?_ _ | with_reducible refine Below.setCell ?_ ?_ _ | (with_reducible refine Below.next ?_ (by assumption)) | omega | (focus (simp; omega)) | (focus (simp; done)))), Lib.hid (.inl rfl), _, _, w.heap.size + 1, [], rfl, Lib.hid (by simp), by simp, by omega, (by repeat (first | ((with_reducible refine Row.made0 ?_); (focus (first | with_reducible rfl | omega | (simp; omega) | (simp; done)))) | with_reducible refine Row.drew ?_ | with_reducible refine Row.drewN ?_ _ | with_reducible refine Row.alloc ?_ _ | (with_reducible refine Row.below ?_ (by assumption))))⟩
  case round =>
    obtain ⟨k, hk, rfl, LW, hbw, HK0, A1, c1, g1, lk, rfl, HLK, ⟨hlk1, hlk2⟩, hg1, hrow⟩ := hrel
    have hsz := hbw.size
    have hzl := LW.lt
    obtain ⟨q0, q1, qf⟩ := LW.two
    by_cases hlt : k < t.whr.length
    · cases hv : thinB t
      · have HV := Lib.hid hv
        have HF := Lib.hid (thinV_no hv)
        have hk0 : Hid (k = 0) := Lib.hid (HK0.out.resolve_right (by rw [hv]; simp))
        clear hv
        have HE : Hid (lk = thinV t) := Lib.hid (by rw [HF.out, HLK.out, hk0.out]; rfl)
        have HROW := Lib.hid hrow
        clear hrow
        go_wp2_with fail
        refine (specThin_c _ _ t _ (ThinRd.below HR.out hbw) hs).mono ?_
        rw [HV.out]
        rintro e w1 ⟨rfl, hb1⟩
        go_wp2
        go_ret
        refine ⟨_, rfl, ?_, Below.next (W := w) hbw hb1⟩
        rw [← HE.out]
        exact SOwn.of_rown (Row.below HROW.out hb1) rfl (by omega)
      · have HV := Lib.hid hv
        have HTV := Lib.hid (thin_iff.1 hv)
        have hl64 := (thin_iff.1 hv).w64
        clear hv
        have HROW := Lib.hid hrow
        clear hrow
        go_wp2_with fail
        refine (specThin_c _ _ t _ (ThinRd.below HR.out hbw) hs).mono ?_
        rw [HV.out]
        rintro e w1 ⟨rfl, hb1⟩
        have M0 := Loc.carryB LW (fun h => by ((repeat (first | with_reducible exact h | with_reducible refine Loc.drew ?_ | with_reducible refine Loc.drewN ?_ _ | with_reducible refine Loc.alloc ?_ _)); done)) hb1
        obtain ⟨m0, m1, mf⟩ := M0.two
        have W1 : Hid (Below w.heap.size w w1) := Lib.hid (Below.next (W := w) hbw hb1)
        have HROW1 := Lib.hid (Row.below HROW.out hb1)
        have hzM := M0.lt
        have hz1 := hb1.size
        clear hb1
        obtain ⟨b, off, rfl, hbl, hcc⟩ := (Rd.below (ThinRd.whr HR.out) W1.out).int hlt
        obtain ⟨hx0, hx1⟩ := HTV.out.rng _ (List.getElem_mem hlt)
        have HTK := Lib.hid (viewT_take hlt)
        obtain ⟨x, hx⟩ : ∃ x, x = t.whr[k]'hlt := ⟨_, rfl⟩
        rw [← hx] at hcc HTK hx0 hx1
        clear hx q0 q1 qf
        have hwne : w.heap.size ≠ g1 := by omega
        by_cases hneg : x < 0
        · rw [seeT_neg hneg] at HTK
          have h63 : lk.length + [(0 : Int)].length ≤ maxLen := by simp only [maxLen, List.length_cons, List.length_nil]; omega
          have hby : (lk.length + [(0 : Int)].length) * 8 ≤ 140737488355328 := by simp only [List.length_cons, List.length_nil]; omega
          go_wp2_with (at_builtin; go_must (refine wpList_append_row rfl (.tmp 33) (.tmp 35) rfl el_int rfl (Row.alloc (HROW1.out) _) (some ⟨w1.heap.size, 0, none⟩) 1 [(0 : Int)] rfl (by repeat (first | ((with_reducible refine Rd.lit ?_ ?_); (focus (first | with_reducible rfl | omega | (simp; omega) | (simp; done))); (focus (first | rfl | (simp; rfl) | (simp; done)))) | with_reducible refine Rd.drew ?_ | with_reducible refine Rd.drewN ?_ _ | with_reducible refine Rd.alloc ?_ _ | (with_reducible refine Rd.below ?_ (by assumption)))) h63 hby ?_; intro A2 c2 g2 w3 l2 hl2 hle1 hle2 hrow3 hg3 hgg3; have LW3 := Loc.carry M0 (fun h => (by repeat (first | with_reducible exact h | with_reducible refine Loc.drew ?_ | with_reducible refine Loc.drewN ?_ _ | with_reducible refine Loc.alloc ?_ _ | (with_reducible refine Loc.below ?_ (by assumption)) | ((with_reducible refine Loc.other' ?_ ?_ _); (focus (first | omega | (simp; omega) | (simp; done)))) | ((with_reducible refine Loc.far' (by assumption) ?_ ?_); (focus (first | omega | (simp; omega) | (simp; done))))))) hg3 hwne; obtain ⟨z0, z1, zf⟩ := LW3.two))
          go_roundw
          case rel => have hz3 := hg3.size; (try simp at hz3); (try simp at hgg3); (try simp at hle1); (try simp at hle2); exact ⟨k + 1, by omega, by go_num, LW3, (by repeat (first | with_reducible exact W1.out | with_reducible exact Below.refl _ _ | with_reducible refine below_drewN ?_ _ | with_reducible refine Below.drew ?_ | with_reducible refine Below.alloc ?_ ?_ _ | with_reducible refine Below.setCell ?_ ?_ _ | (with_reducible refine Below.next ?_ (by assumption)) | ((with_reducible refine Below.far' (by assumption) ?_ ?_ ?_); (focus (first | omega | (simp; omega) | (simp; done))); (focus (first | omega | (simp; omega) | (simp; done)))) | omega | (focus (simp; omega)) | (focus (simp; done)))), (by first | exact Lib.hid (.inr HV.out) | exact Lib.hid (.inr trivial) | exact Lib.hid trivial), A2, c2, g2, l2, rfl, Lib.hid (by rw [hl2.out, HLK.out, HTK.out]), ⟨by omega, by omega⟩, by omega, hrow3⟩
          case measure => simp [intOf]; omega
        · obtain ⟨j, rfl⟩ := Int.eq_ofNat_of_zero_le (Int.not_lt.1 hneg)
          have hjc : j < t.pool.length := by omega
          obtain ⟨b2, off2, rfl, hbl2, hcv⟩ := (Rd.below (ThinRd.pool HR.out) W1.out).int hjc
          rw [seeT_pos hjc] at HTK
          obtain ⟨vv, hvv⟩ : ∃ vv, vv = t.pool[j]'hjc := ⟨_, rfl⟩
          rw [← hvv] at HTK hcv
          clear hvv
          have h63 : lk.length + [vv].length ≤ maxLen := by simp only [maxLen, List.length_cons, List.length_nil]; omega
          have hby : (lk.length + [vv].length) * 8 ≤ 140737488355328 := by simp only [List.length_cons, List.length_nil]; omega
          go_wp2
          go_quiet (fail)
          go_wp2_with (at_builtin; go_must (refine wpList_append_row rfl (.tmp 33) (.tmp 35) rfl el_int rfl (Row.alloc (Row.drewN HROW1.out _) _) (some ⟨w1.heap.size, 0, none⟩) 1 [vv] rfl (by repeat (first | ((with_reducible refine Rd.lit ?_ ?_); (focus (first | with_reducible rfl | omega | (simp; omega) | (simp; done))); (focus (first | rfl | (simp; rfl) | (simp; done)))) | with_reducible refine Rd.drew ?_ | with_reducible refine Rd.drewN ?_ _ | with_reducible refine Rd.alloc ?_ _ | (with_reducible refine Rd.below ?_ (by assumption)))) h63 hby ?_; intro A2 c2 g2 w3 l2 hl2 hle1 hle2 hrow3 hg3 hgg3; have LW3 := Loc.carry M0 (fun h => (by repeat (first | with_reducible exact h | with_reducible refine Loc.drew ?_ | with_reducible refine Loc.drewN ?_ _ | with_reducible refine Loc.alloc ?_ _ | (with_reducible refine Loc.below ?_ (by assumption)) | ((with_reducible refine Loc.other' ?_ ?_ _); (focus (first | omega | (simp; omega) | (simp; done)))) | ((with_reducible refine Loc.far' (by assumption) ?_ ?_); (focus (first | omega | (simp; omega) | (simp; done))))))) hg3 hwne; obtain ⟨z0, z1, zf⟩ := LW3.two))
          go_roundw
          case rel => have hz3 := hg3.size; (try simp at hz3); (try simp at hgg3); (try simp at hle1); (try simp at hle2); exact ⟨k + 1, by omega, by go_num, LW3, (by repeat (first | with_reducible exact W1.out | with_reducible exact Below.refl _ _ | with_reducible refine below_drewN ?_ _ | with_reducible refine Below.drew ?_ | with_reducible refine Below.alloc ?_ ?_ _ | with_reducible refine Below.setCell ?_ ?_ _ | (with_reducible refine Below.next ?_ (by assumption)) | ((with_reducible refine Below.far' (by assumption) ?_ ?_ ?_); (focus (first | omega | (simp; omega) | (simp; done))); (focus (first | omega | (simp; omega) | (simp; done)))) | omega | (focus (simp; omega)) | (focus (simp; done)))), (by first | exact Lib.hid (.inr HV.out) | exact Lib.hid (.inr trivial) | exact Lib.hid trivial), A2, c2, g2, l2, rfl, Lib.hid (by rw [hl2.out, HLK.out, HTK.out]), ⟨by omega, by omega⟩, by omega, hrow3⟩
          case measure => simp [intOf]; omega
    · have HE : Hid (lk = thinV t) := Lib.hid (by
        rw [HLK.out]
        cases hv : thinB t
        · have h0 := HK0.out.resolve_right (by rw [hv]; simp)
          rw [thinV_no hv, h0]; rfl
        · rw [thinV_yes hv, List.take_of_length_le (by rw [viewT_len]; omega)])
      go_wp2
      go_ret
      refine ⟨_, rfl, ?_, hbw⟩
      rw [← HE.out]
      exact SOwn.of_rown hrow rfl (by omega)
end Go.Proofs.Ytkejdgegkbfofaa
