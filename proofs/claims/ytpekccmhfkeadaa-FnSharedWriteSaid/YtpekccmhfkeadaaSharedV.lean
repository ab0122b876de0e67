/-
  Shared volumes: views. Conditions: lengths at most 2^40.
-/
import Derived.Test.YtpekccmhfkeadaaBase
import Derived.Test.YtpekccmhfkeadaaNum
import Derived.Test.YtpekccmhfkeadaaInts
import Derived.Test.YtpekccmhfkeadaaApp
import Derived.Test.YtpekccmhfkeadaaIntsW
import Derived.Test.YtpekccmhfkeadaaLib
import Derived.Test.YtpekccmhfkeadaaSpares
import Derived.Test.YtpekccmhfkeadaaOwn
import Derived.Test.YtpekccmhfkeadaaCopy
import Derived.Test.YtpekccmhfkeadaaShared
import Derived.Test.YtpekccmhfkeadaaSharedM
import Derived.Test.YtpekccmhfkeadaaSharedC
import Derived.StillTailTactics
namespace Go.Proofs.Ytpekccmhfkeadaa
open Go.RowKit
theorem viewS_no {s : Sh} (h : sharedB s = false) : viewS s = [] := by unfold viewS; rw [h]; rfl
theorem viewS_yes {s : Sh} (h : sharedB s = true) : viewS s = shView s := by unfold viewS; rw [h]; rfl
theorem shView_length (s : Sh) : (shView s).length = s.whr.length := by simp [shView]
theorem shView_get (s : Sh) {k j : Nat} (h : k < (shView s).length) (hk : k < s.whr.length) (hj : s.whr[k] = (j : Int)) (hjc : j < s.cps.length) : (shView s)[k] = s.cps[j].val := by simp [shView, hj, hjc]
theorem sharedB_parts {s : Sh} (h : sharedB s = true) : s.whr.length ≤ 64 ∧ allIn s.whr 0 (s.cps.length - 1) = true := by
  simp only [sharedB, Bool.and_eq_true, decide_eq_true_eq] at h
  exact ⟨h.1.1, h.1.2⟩
theorem sharedRd_lens {x0 x1 : Value} {t : Sh} {w : World} (h : SharedRd w [x0, x1] t) : ∃ A c A' c', x0 = .slice A t.whr.length c ∧ x1 = .slice A' t.cps.length c' := by
  obtain ⟨u, v, h1, ⟨A, c, rfl, _⟩, ⟨A', c', rfl, _⟩⟩ := h
  simp only [List.cons.injEq, and_true] at h1
  exact ⟨A, c, A', c', h1.1, h1.2⟩
theorem SharedRd.whr {x1 : Value} {t : Sh} {w : World} {A : Option Addr} {c : Nat} (h : SharedRd w [.slice A t.whr.length c, x1] t) : Rd eInt w A t.whr := by
  obtain ⟨u, v, h1, ⟨A2, c2, rfl, hr, _⟩, _⟩ := h
  simp only [List.cons.injEq, and_true] at h1
  obtain ⟨h2, rfl⟩ := h1
  injection h2 with h2 _ _
  rw [h2]; exact hr
theorem SharedRd.cps {x0 : Value} {t : Sh} {w : World} {A' : Option Addr} {c' : Nat} (h : SharedRd w [x0, .slice A' t.cps.length c'] t) : Rd encCopyS w A' t.cps := by
  obtain ⟨u, v, h1, _, ⟨A2, c2, rfl, hr, _⟩⟩ := h
  simp only [List.cons.injEq, and_true] at h1
  obtain ⟨rfl, h2⟩ := h1
  injection h2 with h2 _ _
  rw [h2]; exact hr
/-- the first k values of the view, then zeros -/
theorem view_step {s : Sh} {lk : List Int} {k : Nat} (_h1 : lk.length = s.whr.length) (h2 : ∀ t (h : t < lk.length) (h' : t < (shView s).length), t < k → lk[t] = (shView s)[t]) (_hk : k < s.whr.length) (h' : k < (shView s).length) :
    ∀ t (h : t < (lk.set k (shView s)[k]).length) (h' : t < (shView s).length), t < k + 1 → (lk.set k (shView s)[k])[t] = (shView s)[t] := by
  intro t ht ht' htk
  by_cases hkt : k = t
  · subst hkt; simp
  · rw [List.getElem_set_ne hkt]
    exact h2 t (by simpa using ht) ht' (by omega)
set_option maxHeartbeats 4000000 in
theorem implSView_c (x0 x1 : Value) (s : Sh) (w : World) (h : SharedRd w [x0, x1] s) (hs : sizeShared s ≤ 1099511627776) :
    Calls Try.prog 23 #[.agg #[x0, x1]] w (MadeS encIntS tyIntS (viewS s) w) := by
  obtain ⟨A, c, A', c', rfl, rfl⟩ := sharedRd_lens h
  have HR := Lib.hid h
  have L0 := Loc.new w [.slice A s.whr.length c, .slice A' s.cps.length c'] 30
  cases hv : sharedB s
  · have HV := Lib.hid hv
    have HF := Lib.hid (viewS_no hv)
    clear hv
    go_enter Try.func23, Try.ntmps23
    go_wp2_with fail
    refine (implShared_c _ _ s _ (SharedRd.below HR.out (by repeat (first | with_reducible exact Below.refl _ _ | with_reducible refine below_drewN ?_ _ | with_reducible refine Below.drew ?_ | with_reducible refine Below.alloc ?_ ?_ _ | with_reducible refine Below.setCell ?_ ?_ _ | omega | (focus (simp; omega)) | (focus (simp; done))))) hs).mono ?_
    rw [HV.out]
    rintro e w1 ⟨rfl, hb1⟩
    go_wp2
    go_ret
    refine ⟨.slice none 0 0, rfl, ?_, (by repeat (first | with_reducible exact Below.refl _ _ | with_reducible assumption | with_reducible refine below_drewN ?_ _ | with_reducible refine Below.drew ?_ | with_reducible refine Below.alloc ?_ ?_ _ | with_reducible refine Below.setCell ?_ ?_ _ | (with_reducible refine Below.next ?_ (by assumption)) | omega | (focus (simp; omega)) | (focus (simp; done))))⟩
    rw [HF.out]; exact SOwn.nil0 _ _ _
  · have HV := Lib.hid hv
    have HF := Lib.hid (viewS_yes hv)
    obtain ⟨hl64, hal⟩ := sharedB_parts hv
    have HAL := Lib.hid hal
    clear hv hal
    have hcl : (s.cps.length : Int) ≤ 1099511627776 := by unfold sizeShared at hs; omega
    have hmk := run_make_el el_int s.whr.length (by omega) (by omega)
    simp only [show (Value.int .i64 0).cells = #[.int .i64 0] from rfl, show eInt.size = 1 from rfl, Nat.mul_one] at hmk
    go_enter Try.func23, Try.ntmps23
    go_wp2_with fail
    refine (implShared_c _ _ s _ (SharedRd.below HR.out (by repeat (first | with_reducible exact Below.refl _ _ | with_reducible refine below_drewN ?_ _ | with_reducible refine Below.drew ?_ | with_reducible refine Below.alloc ?_ ?_ _ | with_reducible refine Below.setCell ?_ ?_ _ | omega | (focus (simp; omega)) | (focus (simp; done))))) hs).mono ?_
    rw [HV.out]
    rintro e w1 ⟨rfl, hb1⟩
    have M0 := Loc.carryB L0 (fun h => by ((repeat (first | with_reducible exact h | with_reducible refine Loc.drew ?_ | with_reducible refine Loc.drewN ?_ _ | with_reducible refine Loc.alloc ?_ _)); done)) hb1
    obtain ⟨k0, k1, kf⟩ := M0.two
    have zM := M0.lt
    have hrow := Lib.hid (users_row (w := w1) (b := w1.heap.size) (n := s.whr.length) rfl (by omega))
    have W1 : Hid (Below w.heap.size w w1) := Lib.hid (Below.next (W := w) (by repeat (first | with_reducible exact Below.refl _ _ | with_reducible refine below_drewN ?_ _ | with_reducible refine Below.drew ?_ | with_reducible refine Below.alloc ?_ ?_ _ | with_reducible refine Below.setCell ?_ ?_ _ | omega | (focus (simp; omega)) | (focus (simp; done)))) hb1)
    have hz1 := hb1.size
    simp at hz1
    clear hb1
    go_wp2
    clear hmk
    go_loopw [16] (fun i wr => ∃ k : Nat, k ≤ s.whr.length ∧ i = .int .i64 k ∧ Loc wr w.heap.size [.slice A s.whr.length c, .slice A' s.cps.length c'] ∧ Below w.heap.size w wr ∧ ∃ lk : List Int, (lk.length ≤ s.whr.length ∧ s.whr.length ≤ lk.length) ∧ Hid (∀ t (h : t < lk.length) (h' : t < (shView s).length), t < k → lk[t] = (shView s)[t]) ∧ Row eInt wr w1.heap.size 3 (some ⟨w1.heap.size, 0, none⟩) s.whr.length lk) (fun i _ => s.whr.length - (intOf i).toNat)
    case atStart => exact ⟨0, Nat.zero_le _, rfl, Loc.alloc M0 _, (by repeat (first | with_reducible exact W1.out | with_reducible exact Below.refl _ _ | with_reducible refine below_drewN ?_ _ | with_reducible refine Below.drew ?_ | with_reducible refine Below.alloc ?_ ?_ _ | with_reducible refine Below.setCell ?_ ?_ _ | (with_reducible refine Below.next ?_ (by assumption)) | ((with_reducible refine Below.far' (by assumption) ?_ ?_ ?_); (focus (first | omega | (simp; omega) | (simp; done))); (focus (first | omega | (simp; omega) | (simp; done)))) | omega | (focus (simp; omega)) | (focus (simp; done)))), List.replicate s.whr.length 0, by simp, Lib.hid (fun t _ _ h => absurd h (by omega)), hrow.out⟩
    case round =>
      obtain ⟨k, hk, rfl, LW, hbw, lk, ⟨hlk1, hlk2⟩, HLK, hrow⟩ := hrel
      have hsz := hbw.size
      have hzl := LW.lt
      obtain ⟨k0, k1, kf⟩ := LW.two
      by_cases hlt : k < s.whr.length
      · have hra := Rd.below (SharedRd.whr HR.out) hbw
        have hrc := Rd.below (SharedRd.cps HR.out) hbw
        obtain ⟨b, off, rfl, hbl, hcc⟩ := hra.int hlt
        have hb1 : b < w.heap.size := (SharedRd.whr HR.out).lt (by omega) rfl
        obtain ⟨v0, v1⟩ := allIn_get HAL.out hlt
        have hvl : k < (shView s).length := by rw [shView_length]; exact hlt
        have hvg := @shView_get s k
        obtain ⟨x, hx⟩ : ∃ x, x = s.whr[k]'hlt := ⟨_, rfl⟩
        have HX := Lib.hid hx
        rw [← hx] at hcc v0 v1
        clear hx
        obtain ⟨j, rfl⟩ := Int.eq_ofNat_of_zero_le v0
        have hjc : j < s.cps.length := by omega
        obtain ⟨b2, off2, rfl, hbl2, hcv, _⟩ := hrc.rCopyS hjc
        have hb2 : b2 < w.heap.size := (SharedRd.cps HR.out).lt (by omega) rfl
        have HVG := Lib.hid (hvg hvl hlt HX.out.symm hjc)
        have HST := Lib.hid (view_step (by omega) HLK.out hlt hvl)
        obtain ⟨_, hg, hfz, hc2⟩ := hrow.int (by omega)
        have hc3 := hc2 k (by omega)
        have HSET := Lib.hid (hrow.setInt (k := k) (by omega) (shView s)[k])
        obtain ⟨vv, hvv⟩ : ∃ vv, vv = (s.cps[j]'hjc).val := ⟨_, rfl⟩
        rw [HVG.out] at HSET HST
        rw [← hvv] at HSET HST hcv
        clear hvv hvg hc2 hrow
        go_wp2
        go_roundw
        case rel => exact ⟨k + 1, by omega, by go_num, (by repeat (first | with_reducible exact LW | with_reducible refine Loc.drew ?_ | with_reducible refine Loc.drewN ?_ _ | with_reducible refine Loc.alloc ?_ _ | (with_reducible refine Loc.below ?_ (by assumption)) | ((with_reducible refine Loc.other' ?_ ?_ _); (focus (first | omega | (simp; omega) | (simp; done)))) | ((with_reducible refine Loc.far' (by assumption) ?_ ?_); (focus (first | omega | (simp; omega) | (simp; done)))))), (by repeat (first | with_reducible exact hbw | with_reducible exact Below.refl _ _ | with_reducible refine below_drewN ?_ _ | with_reducible refine Below.drew ?_ | with_reducible refine Below.alloc ?_ ?_ _ | with_reducible refine Below.setCell ?_ ?_ _ | (with_reducible refine Below.next ?_ (by assumption)) | ((with_reducible refine Below.far' (by assumption) ?_ ?_ ?_); (focus (first | omega | (simp; omega) | (simp; done))); (focus (first | omega | (simp; omega) | (simp; done)))) | omega | (focus (simp; omega)) | (focus (simp; done)))), _, ⟨by simp; omega, by simp; omega⟩, HST, HSET.out⟩
        case measure => simp [intOf]; omega
      · have HE : Hid (lk = viewS s) := Lib.hid (by rw [HF.out]; exact eq_of_upto (by rw [shView_length]; omega) fun t h1 h2 => HLK.out t h1 h2 (by omega))
        go_wp2
        go_ret
        refine ⟨_, rfl, ?_, hbw⟩
        rw [← HE.out]
        exact SOwn.of_rown hrow (by omega) (by omega)
set_option maxHeartbeats 4000000 in
theorem specSView_c (x0 x1 : Value) (s : Sh) (w : World) (h : SharedRd w [x0, x1] s) (hs : sizeShared s ≤ 1099511627776) :
    Calls Try.prog 30 #[.agg #[x0, x1]] w (MadeS encIntS tyIntS (viewS s) w) := by
  obtain ⟨A, c, A', c', rfl, rfl⟩ := sharedRd_lens h
  have HR := Lib.hid h
  have L0 := Loc.new w [.slice A s.whr.length c, .slice A' s.cps.length c'] 30
  have hcl : (s.cps.length : Int) ≤ 1099511627776 := by unfold sizeShared at hs; omega
  have hwl : s.whr.length ≤ 1099511627776 := by unfold sizeShared at hs; omega
  go_enter Try.func30, Try.ntmps30
  go_wp2
  go_loopw [3, 4] (fun out i wr => ∃ k : Nat, k ≤ s.whr.length ∧ i = .int .i64 k ∧ Loc wr w.heap.size [.slice A s.whr.length c, .slice A' s.cps.length c'] ∧ Below w.heap.size w wr ∧ Hid (k = 0 ∨ sharedB s = true) ∧ ∃ A1 c1 g1, ∃ lk : List Int, out = .slice A1 lk.length c1 ∧ Hid (lk = (shView s).take k) ∧ (lk.length ≤ k ∧ k ≤ lk.length) ∧ w.heap.size < g1 ∧ Row eInt wr g1 3 A1 c1 lk) (fun _ i _ => s.whr.length - (intOf i).toNat)
  case atStart => exact ⟨0, Nat.zero_le _, rfl, Loc.alloc L0 _, (by repeat (first | with_reducible exact Below.refl _ _ | with_reducible assumption | with_reducible refine below_drewN ?_ _ | with_reducible refine Below.drew ?_ | with_reducible refine Below.alloc ?_ ?_ _ | with_reducible refine Below.setCell ?_ ?_ _ | (with_reducible refine Below.next ?_ (by assumption)) | omega | (focus (simp; omega)) | (focus (simp; done)))), Lib.hid (.inl rfl), _, _, w.heap.size + 1, [], rfl, Lib.hid (by simp), by simp, by omega, (by repeat (first | ((with_reducible refine Row.made0 ?_); (focus (first | with_reducible rfl | omega | (simp; omega) | (simp; done)))) | with_reducible refine Row.drew ?_ | with_reducible refine Row.drewN ?_ _ | with_reducible refine Row.alloc ?_ _ | (with_reducible refine Row.below ?_ (by assumption))))⟩
  case round =>
    obtain ⟨k, hk, rfl, LW, hbw, HK0, A1, c1, g1, lk, rfl, HLK, ⟨hlk1, hlk2⟩, hg1, hrow⟩ := hrel
    have hsz := hbw.size
    have hzl := LW.lt
    obtain ⟨q0, q1, qf⟩ := LW.two
    by_cases hlt : k < s.whr.length
    · cases hv : sharedB s
      · have HV := Lib.hid hv
        have HF := Lib.hid (viewS_no hv)
        have hk0 : Hid (k = 0) := Lib.hid (HK0.out.resolve_right (by rw [hv]; simp))
        clear hv
        have HE : Hid (lk = viewS s) := Lib.hid (by rw [HF.out, HLK.out, hk0.out]; rfl)
        have HROW := Lib.hid hrow
        clear hrow
        go_wp2_with fail
        refine (specShared_c _ _ s _ (SharedRd.below HR.out hbw) hs).mono ?_
        rw [HV.out]
        rintro e w1 ⟨rfl, hb1⟩
        go_wp2
        go_ret
        refine ⟨_, rfl, ?_, Below.next (W := w) hbw hb1⟩
        rw [← HE.out]
        exact SOwn.of_rown (Row.below HROW.out hb1) rfl (by omega)
      · have HV := Lib.hid hv
        obtain ⟨hl64, hal⟩ := sharedB_parts hv
        have HAL := Lib.hid hal
        clear hv hal
        have HROW := Lib.hid hrow
        clear hrow
        go_wp2_with fail
        refine (specShared_c _ _ s _ (SharedRd.below HR.out hbw) hs).mono ?_
        rw [HV.out]
        rintro e w1 ⟨rfl, hb1⟩
        have M0 := Loc.carryB LW (fun h => by ((repeat (first | with_reducible exact h | with_reducible refine Loc.drew ?_ | with_reducible refine Loc.drewN ?_ _ | with_reducible refine Loc.alloc ?_ _)); done)) hb1
        obtain ⟨m0, m1, mf⟩ := M0.two
        have W1 : Hid (Below w.heap.size w w1) := Lib.hid (Below.next (W := w) hbw hb1)
        have HROW1 := Lib.hid (Row.below HROW.out hb1)
        have hzM := M0.lt
        have hz1 := hb1.size
        clear hb1
        obtain ⟨b, off, rfl, hbl, hcc⟩ := (Rd.below (SharedRd.whr HR.out) W1.out).int hlt
        obtain ⟨v0, v1⟩ := allIn_get HAL.out hlt
        have hvl : k < (shView s).length := by rw [shView_length]; exact hlt
        have hvg := @shView_get s k
        obtain ⟨x, hx⟩ : ∃ x, x = s.whr[k]'hlt := ⟨_, rfl⟩
        have HX := Lib.hid hx
        rw [← hx] at hcc v0 v1
        clear hx
        obtain ⟨j, rfl⟩ := Int.eq_ofNat_of_zero_le v0
        have hjc : j < s.cps.length := by omega
        obtain ⟨b2, off2, rfl, hbl2, hcv, _⟩ := (Rd.below (SharedRd.cps HR.out) W1.out).rCopyS hjc
        have HVG := Lib.hid (hvg hvl hlt HX.out.symm hjc)
        have HTK : Hid ((shView s).take (k + 1) = (shView s).take k ++ [(s.cps[j]'hjc).val]) := Lib.hid (by rw [List.take_succ_eq_append_getElem hvl, HVG.out])
        obtain ⟨vv, hvv⟩ : ∃ vv, vv = (s.cps[j]'hjc).val := ⟨_, rfl⟩
        rw [← hvv] at HTK hcv
        clear hvv hvg q0 q1 qf
        have hwne : w.heap.size ≠ g1 := by omega
        have hbw2 : b < w.heap.size := (SharedRd.whr HR.out).lt (by omega) rfl
        have hb2w : b2 < w.heap.size := (SharedRd.cps HR.out).lt (by omega) rfl
        have hbg : b ≠ g1 := by omega
        have hb2g : b2 ≠ g1 := by omega
        have h63 : lk.length + [vv].length ≤ maxLen := by simp only [maxLen, List.length_cons, List.length_nil]; omega
        have hby : (lk.length + [vv].length) * 8 ≤ 140737488355328 := by simp only [List.length_cons, List.length_nil]; omega
        go_wp2
        go_region_held3 (fun w' => w'.cell? ⟨w.heap.size, 0, none⟩ = some (.slice (some ⟨b, off, none⟩) s.whr.length c) ∧ w'.cell? ⟨w.heap.size, 1, none⟩ = some (.slice (some ⟨b2, off2, none⟩) s.cps.length c') ∧ w'.cell? ⟨b, off + k, none⟩ = some (.int .i64 (j : Int)) ∧ w'.cell? ⟨b2, off2 + j * 2, none⟩ = some (.int .i64 vv)) (first | (refine ⟨?_, ?_, ?_, ?_⟩ <;> assumption) | (refine ⟨?_, ?_, ?_, ?_⟩ <;> (simp [go_sem, *]; done)) | go_keep)
          ((refine step_append_row (by rfl) (.tmp 17) (.tmp 28) (by rfl) el_int (by simp [go_sem]; done) (Row.alloc (Row.drew HROW1.out) _) (some ⟨w1.heap.size, 0, none⟩) 1 [vv] (by simp [go_sem]; done) (by repeat (first | ((with_reducible refine Rd.lit ?_ ?_); (focus (first | with_reducible rfl | omega | (simp; omega) | (simp; done))); (focus (first | rfl | (simp; rfl) | (simp; done)))) | with_reducible refine Rd.drew ?_ | with_reducible refine Rd.drewN ?_ _ | with_reducible refine Rd.alloc ?_ _ | (with_reducible refine Rd.below ?_ (by assumption)))) h63 hby ?_; intro A2 c2 g2 w3 l2 hl2 hle1 hle2 hrow3 hg3 hgg3; have LW3 := Loc.carry M0 (fun h => by ((repeat (first | with_reducible exact h | with_reducible refine Loc.drew ?_ | with_reducible refine Loc.drewN ?_ _ | with_reducible refine Loc.alloc ?_ _)); done)) hg3 hwne; obtain ⟨z0, z1, zf⟩ := LW3.two; obtain ⟨gc3, gf3⟩ := gcell hg3; clear gf3))
        all_goals clear gc3
        go_wp2
        go_roundw
        case rel =>
          have hz3 := hg3.size
          simp at hz3 hgg3 hle1 hle2
          exact ⟨k + 1, by omega, by go_num, LW3, (by repeat (first | with_reducible exact W1.out | with_reducible exact Below.refl _ _ | with_reducible refine below_drewN ?_ _ | with_reducible refine Below.drew ?_ | with_reducible refine Below.alloc ?_ ?_ _ | with_reducible refine Below.setCell ?_ ?_ _ | (with_reducible refine Below.next ?_ (by assumption)) | ((with_reducible refine Below.far' (by assumption) ?_ ?_ ?_); (focus (first | omega | (simp; omega) | (simp; done))); (focus (first | omega | (simp; omega) | (simp; done)))) | omega | (focus (simp; omega)) | (focus (simp; done)))), (by first | exact Lib.hid (.inr HV.out) | exact Lib.hid (.inr trivial) | exact Lib.hid trivial), A2, c2, g2, l2, rfl, Lib.hid (by rw [hl2.out, HLK.out, HTK.out]), by omega, by omega, hrow3⟩
        case measure => simp [intOf]; omega
    · have HE : Hid (lk = viewS s) := Lib.hid (by
        rw [HLK.out]
        cases hv : sharedB s
        · have h0 := HK0.out.resolve_right (by rw [hv]; simp)
          rw [viewS_no hv, h0]; rfl
        · rw [viewS_yes hv, List.take_of_length_le (by rw [shView_length]; omega)])
      go_wp2
      go_ret
      refine ⟨_, rfl, ?_, hbw⟩
      rw [← HE.out]
      exact SOwn.of_rown hrow rfl (by omega)
end Go.Proofs.Ytpekccmhfkeadaa
