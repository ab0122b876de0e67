/-
  GrantedTimes: the program's and the reference's. Conditions: lengths at most 2^40.
-/
import Derived.Test.YtmgbenfmhgkogaaBase
import Derived.Test.YtmgbenfmhgkogaaNum
import Derived.Test.YtmgbenfmhgkogaaInts
import Derived.Test.YtmgbenfmhgkogaaApp
import Derived.Test.YtmgbenfmhgkogaaIntsW
import Derived.Test.YtmgbenfmhgkogaaLib
import Derived.Test.YtmgbenfmhgkogaaOwn
import Derived.Test.YtmgbenfmhgkogaaSliceV
import Derived.Test.YtmgbenfmhgkogaaBoolW
import Derived.Test.YtmgbenfmhgkogaaBucket
import Derived.Test.YtmgbenfmhgkogaaGrant
namespace Go.Proofs.Ytmgbenfmhgkogaa
open Go.RowKit
abbrev BoolsRd (w : World) (v : Value) (l : List elemBoolS) : Prop := SRd encBoolS w v l
abbrev BoolsOwn (B : Nat) (w : World) (C : Nat) (v : Value) (l : List elemBoolS) : Prop := SOwn encBoolS tyBoolS B w C v l
def sizeBools (l : List elemBoolS) : Nat := l.length
def cntBools (l : List elemBoolS) : Nat := 1 * l.length
theorem cntBools_le (t : List elemBoolS) : cntBools t ≤ 3 * sizeBools t := by unfold cntBools sizeBools; omega
def markedBools (t : List elemBoolS) (k : Int) : List elemBoolS := marksBoolS t.length k
theorem BoolsRd.below {w w' : World} {v : Value} {l : List elemBoolS} (h : BoolsRd w v l) (hb : Below w.heap.size w w') : BoolsRd w' v l := SRd.below h hb
theorem BoolsOwn.rd {w : World} {v : Value} {l : List elemBoolS} {B C : Nat} (h : BoolsOwn B w C v l) : BoolsRd w v l := SOwn.rd h
theorem BoolsOwn.below {w w' : World} {v : Value} {l : List elemBoolS} {B C : Nat} (h : BoolsOwn B w C v l) (hb : Below w.heap.size w w') : BoolsOwn B w' C v l := SOwn.below h hb
theorem BoolsOwn.gin {w w' : World} {v : Value} {l : List elemBoolS} {B C B' C' : Nat} (h : BoolsOwn B w C v l) (hg : GIn B' C' w w') (hd : C ≤ B' ∨ C' ≤ B) : BoolsOwn B w' C v l := SOwn.gin h hg hd
theorem eqBools_c (x0 y0 : Value) (s t : List elemBoolS) (w : World) (h : BoolsRd w x0 s) (k : BoolsRd w y0 t) (hs : sizeBools s ≤ 1099511627776) (ht : sizeBools t ≤ 1099511627776) :
    Calls Try.prog 22 #[x0, y0] w fun e w' => e = .returned (.bool (decide (s = t))) ∧ Below w.heap.size w w' := eqBoolS_w x0 y0 s t w h k hs ht
theorem markBools_c (x0 : Value) (t : List elemBoolS) (k : Int) (B C : Nat) (w : World) (h : BoolsOwn B w C x0 t) (_hC : C ≤ w.heap.size) (hs : sizeBools t ≤ 34359738368) (hk0 : 0 ≤ k) (hk : k ≤ 1048576) :
    Calls Try.prog 25 #[x0, .int .i64 k] w fun e w' => e = .returned (.int .i64 (k + cntBools t)) ∧ BoolsOwn B w' C x0 (markedBools t k) ∧ GIn B C w w' :=
  (markBoolS_w x0 t k B C w h (by unfold sizeBools at hs; omega) hk0 (by omega)).mono fun _ _ h => ⟨by rw [h.1]; unfold cntBools; simp, h.2.1, h.2.2.1⟩
theorem heldBools_c (x0 : Value) (t : List elemBoolS) (k : Int) (w : World) (h : BoolsRd w x0 (markedBools t k)) (hs : sizeBools t ≤ 34359738368) (hk0 : 0 ≤ k) (hk : k ≤ 1048576) :
    Calls Try.prog 26 #[x0, .int .i64 k] w fun e w' => e = .returned (.int .i64 (k + cntBools t)) ∧ Below w.heap.size w w' :=
  (heldBoolS_w x0 t.length k w h (by unfold sizeBools at hs; omega) hk0 (by omega)).mono fun _ _ h => ⟨by rw [h.1]; unfold cntBools; simp, h.2⟩
theorem grant_set (res : List Bool) (n k : Nat) (hk : res.length = k) (hkn : k < n) : (res ++ List.replicate (n - k) false).set k true = (res ++ [true]) ++ List.replicate (n - (k + 1)) false := by
  obtain ⟨m, rfl⟩ : ∃ m, n = k + 1 + m := ⟨n - (k + 1), by omega⟩
  rw [show k + 1 + m - k = m + 1 by omega, show k + 1 + m - (k + 1) = m by omega, List.replicate_succ, List.set_append_right _ _ (by omega), hk]
  simp
theorem grant_keep (res : List Bool) (n k : Nat) (hkn : k < n) : res ++ List.replicate (n - k) false = (res ++ [false]) ++ List.replicate (n - (k + 1)) false := by
  obtain ⟨m, rfl⟩ : ∃ m, n = k + 1 + m := ⟨n - (k + 1), by omega⟩
  rw [show k + 1 + m - k = m + 1 by omega, show k + 1 + m - (k + 1) = m by omega, List.replicate_succ]
  simp
theorem bools_row {w : World} {b n : Nat} (h : w.heap.size = b) (hn : n ≤ 1099511627776) : Row eBool (w.alloc (.cells (madeCells #[.bool false] n) 4)) b 4 (some ⟨b, 0, none⟩) n (List.replicate n false) := by
  subst h
  have := made_row (E := eBool) (z := .bool false) (e := 4) w false rfl n (by omega)
  simpa [show (Value.bool false).cells = #[.bool false] from rfl, show eBool.size = 1 from rfl] using this
theorem grant_no {l : List Int} {cost rate most : Int} (h : grantOk l cost rate most = false) : grantB l cost rate most = [] := by simp [grantB, h]
theorem grant_yes {l : List Int} {cost rate most : Int} (h : grantOk l cost rate most = true) : grantB l cost rate most = (grantAt l cost rate most l.length).2 := by simp [grantB, h]
theorem grantStep_yes {s : Bk × List Bool} {cost rate most x : Int} {t l : Int} (hf : fillTo s.1 x rate most = ⟨t, l⟩) (h : cost ≤ t) : grantStep cost rate most s x = (⟨t - cost, l⟩, s.2 ++ [true]) := by
  have hl : x = l := by have : (fillTo s.1 x rate most).l = x := rfl; rw [hf] at this; exact this.symm
  subst hl
  simp [grantStep, hf, h]
theorem grantStep_not {s : Bk × List Bool} {cost rate most x : Int} {t l : Int} (hf : fillTo s.1 x rate most = ⟨t, l⟩) (h : ¬ cost ≤ t) : grantStep cost rate most s x = (⟨t, l⟩, s.2 ++ [false]) := by
  simp [grantStep, hf, h]
set_option maxHeartbeats 4000000 in
theorem implGrant_c (A : Option Addr) (c : Nat) (l : List Int) (cost rate most : Int) (w : World) (ha : Rd eInt w A l) (hl : l.length ≤ 1099511627776) :
    Calls Try.prog 21 #[.slice A l.length c, .int .i64 cost, .int .i64 rate, .int .i64 most] w (MadeS encBoolS tyBoolS (grantB l cost rate most) w) := by
  cases h1 : timesB l
  · rw [grant_no (by simp [grantOk, h1])]
    have H1 := Lib.hid h1
    clear h1
    go_enter Try.func21, Try.ntmps21
    go_wp2_with fail
    refine (implTimes_any A c l _ ha hl).mono ?_
    rw [H1.out]
    rintro e w' ⟨rfl, q, rfl⟩
    go_wp2
    go_ret
    exact ⟨_, rfl, SOwn.nil0 _ _ _, (by repeat (first | with_reducible exact Below.refl _ _ | with_reducible assumption | with_reducible refine below_drewN ?_ _ | with_reducible refine Below.drew ?_ | with_reducible refine Below.alloc ?_ ?_ _ | with_reducible refine Below.setCell ?_ ?_ _ | (with_reducible refine Below.next ?_ (by assumption)) | omega | (focus (simp; omega)) | (focus (simp; done))))⟩
  cases h2 : inB cost 0 1000
  · rw [grant_no (by simp [grantOk, h1, h2])]
    have H1 := Lib.hid h1
    have H2 := Lib.hid h2
    clear h1 h2
    go_enter Try.func21, Try.ntmps21
    go_wp2_with fail
    refine (implTimes_any A c l _ ha hl).mono ?_
    rw [H1.out]
    rintro e w' ⟨rfl, q, rfl⟩
    go_wp2_with (go_at_call 30; refine (within_any _ _ _ _).mono ?_; rw [H2.out]; rintro e w' ⟨rfl, rfl⟩)
    go_ret
    exact ⟨_, rfl, SOwn.nil0 _ _ _, (by repeat (first | with_reducible exact Below.refl _ _ | with_reducible assumption | with_reducible refine below_drewN ?_ _ | with_reducible refine Below.drew ?_ | with_reducible refine Below.alloc ?_ ?_ _ | with_reducible refine Below.setCell ?_ ?_ _ | (with_reducible refine Below.next ?_ (by assumption)) | omega | (focus (simp; omega)) | (focus (simp; done))))⟩
  cases h3 : ratesOk rate most
  · rw [grant_no (by simp [grantOk, h1, h2, h3])]
    have H1 := Lib.hid h1
    have H2 := Lib.hid h2
    have H3 := Lib.hid h3
    clear h1 h2 h3
    go_enter Try.func21, Try.ntmps21
    go_wp2_with fail
    refine (implTimes_any A c l _ ha hl).mono ?_
    rw [H1.out]
    rintro e w' ⟨rfl, q, rfl⟩
    go_wp2_with (first
      | (go_at_call 30; refine (within_any _ _ _ _).mono ?_; rw [H2.out]; rintro e w' ⟨rfl, rfl⟩)
      | (go_at_call 29; refine (areRates_any _ _ _).mono ?_; rw [H3.out]; rintro e w' ⟨rfl, rfl⟩))
    go_ret
    exact ⟨_, rfl, SOwn.nil0 _ _ _, (by repeat (first | with_reducible exact Below.refl _ _ | with_reducible assumption | with_reducible refine below_drewN ?_ _ | with_reducible refine Below.drew ?_ | with_reducible refine Below.alloc ?_ ?_ _ | with_reducible refine Below.setCell ?_ ?_ _ | (with_reducible refine Below.next ?_ (by assumption)) | omega | (focus (simp; omega)) | (focus (simp; done))))⟩
  · have hOK : grantOk l cost rate most = true := by simp [grantOk, h1, h2, h3]
    have hFin := grant_yes hOK
    have HINV := Lib.hid (grantAt_inv l cost rate most hOK)
    have HFILL := Lib.hid (grantAt_fill l cost rate most hOK)
    have HFIN := Lib.hid hFin
    obtain ⟨cost0, cost1⟩ := inB_true.1 h2
    have hr3 := h3
    simp only [ratesOk, Bool.and_eq_true, inB_true] at hr3
    obtain ⟨⟨rate0, rate1⟩, most0, most1⟩ := hr3
    have hl60 : l.length ≤ 60 := by simp only [timesB, Bool.and_eq_true, decide_eq_true_eq] at h1; exact h1.1.1
    have H1 := Lib.hid h1
    have H2 := Lib.hid h2
    have H3 := Lib.hid h3
    clear hOK hFin h1 h2 h3
    have hmk := run_make_el el_bool l.length (by omega) (by omega)
    simp only [show (Value.bool false).cells = #[.bool false] from rfl, show eBool.size = 1 from rfl, Nat.mul_one] at hmk
    go_enter Try.func21, Try.ntmps21
    go_wp2_with fail
    refine (implTimes_any A c l _ ha hl).mono ?_
    rw [H1.out]
    rintro e w0 ⟨rfl, hw0⟩
    have hb0 : Below w.heap.size w w0 := by obtain ⟨q, rfl⟩ := hw0; exact below_drewN (Below.refl _ _) q
    have hz0 := hb0.size
    clear hw0
    go_wp2_with (first
      | (go_at_call 30; refine (within_any _ _ _ _).mono ?_; rw [H2.out]; rintro e w' ⟨rfl, rfl⟩)
      | (go_at_call 29; refine (areRates_any _ _ _).mono ?_; rw [H3.out]; rintro e w' ⟨rfl, rfl⟩))
    clear hmk
    go_loopw [34] (fun i wr => ∃ k : Nat, k ≤ l.length ∧ i = .int .i64 k ∧ Loc wr w0.heap.size [.int .i64 (grantAt l cost rate most k).1.t, .int .i64 (grantAt l cost rate most k).1.l] ∧ Below w.heap.size w wr ∧ ∃ lk : List Bool, Hid (lk = (grantAt l cost rate most k).2 ++ List.replicate (l.length - k) false) ∧ (lk.length ≤ l.length ∧ l.length ≤ lk.length) ∧ Row eBool wr (w0.heap.size + 1) 4 (some ⟨w0.heap.size + 1, 0, none⟩) l.length lk) (fun i _ => l.length - (intOf i).toNat)
    case atStart => exact ⟨0, Nat.zero_le _, rfl, (by repeat (first | with_reducible assumption | with_reducible apply Loc.fill3 | with_reducible apply Loc.fill2 | ((with_reducible refine Loc.newAt' ?_ rfl); (focus (first | with_reducible rfl | omega | (simp; omega) | (simp; done)))) | with_reducible refine Loc.drew ?_ | with_reducible refine Loc.drewN ?_ _ | with_reducible refine Loc.alloc ?_ _ | (with_reducible refine Loc.below ?_ (by assumption)) | ((with_reducible refine Loc.other' ?_ ?_ _); (focus (first | omega | (simp; omega) | (simp; done)))) | ((with_reducible refine Loc.far' (by assumption) ?_ ?_); (focus (first | omega | (simp; omega) | (simp; done)))))), (by repeat (first | with_reducible exact hb0 | with_reducible exact Below.refl _ _ | with_reducible refine below_drewN ?_ _ | with_reducible refine Below.drew ?_ | with_reducible refine Below.alloc ?_ ?_ _ | with_reducible refine Below.setCell ?_ ?_ _ | (with_reducible refine Below.next ?_ (by assumption)) | ((with_reducible refine Below.far' (by assumption) ?_ ?_ ?_); (focus (first | omega | (simp; omega) | (simp; done))); (focus (first | omega | (simp; omega) | (simp; done)))) | omega | (focus (simp; omega)) | (focus (simp; done)))), List.replicate l.length false, Lib.hid (by simp [grantAt]), by simp, bools_row (by simp) (by omega)⟩
    case round =>
      obtain ⟨k, hk, rfl, LX, hbw, lk, HLK, ⟨hlk1, hlk2⟩, hrow⟩ := hrel
      have hsz := hbw.size
      by_cases hlt : k < l.length
      · have hrl := Rd.below ha hbw
        obtain ⟨b, off, rfl, hbl, hcc⟩ := hrl.int hlt
        obtain ⟨x, hx⟩ : ∃ x, x = l[k]'hlt := ⟨_, rfl⟩
        have HX := Lib.hid hx
        have hsucc := grantAt_succ l cost rate most k hlt
        have hlen := grantAt_len l cost rate most k hk
        have hfill := HFILL.out k hlt
        obtain ⟨i1, i2, i3, i4, -⟩ := HINV.out k hk
        rw [← hx] at hcc hsucc hfill
        clear hx
        obtain ⟨s, hs⟩ : ∃ s, s = grantAt l cost rate most k := ⟨_, rfl⟩
        have HS := Lib.hid hs
        rw [← hs] at LX HLK hsucc hfill i1 i2 i3 i4 hlen
        clear hs
        obtain ⟨⟨tk, la⟩, res⟩ := s
        simp only at LX HLK i1 i2 i3 i4 hlen hfill
        obtain ⟨f, hf⟩ : ∃ f, f = fillTo ⟨tk, la⟩ x rate most := ⟨_, rfl⟩
        have HF := Lib.hid hf
        have hf0 : 0 ≤ f.t ∧ f.t ≤ most := by
          simp only [fillOk, Bool.and_eq_true, inB_true] at hfill
          have hm0 : 0 ≤ rate * (x - la) := Int.mul_nonneg (by omega) (by omega)
          rw [hf]
          have : (fillTo ⟨tk, la⟩ x rate most).t = min most (tk + rate * (x - la)) := rfl
          omega
        obtain ⟨ft, fl⟩ := f
        simp only at hf0
        obtain ⟨hf0, hf1⟩ := hf0
        have HSUCC := Lib.hid hsucc
        have HFOK := Lib.hid hfill
        have HLEN := Lib.hid hlen
        clear hf hsucc hfill hlen
        obtain ⟨x0, x1, xf⟩ := LX.two
        have zX := LX.lt
        have HROW := Lib.hid hrow
        clear hrow
        go_wp2_with fail
        refine (filled_any ⟨tk, la⟩ x rate most _ HFOK.out).mono ?_
        rw [← HF.out]
        rintro e w1 ⟨rfl, hb1⟩
        have LX1 := Loc.carryB LX (fun h => by ((repeat (first | with_reducible exact h | with_reducible refine Loc.drew ?_ | with_reducible refine Loc.drewN ?_ _ | with_reducible refine Loc.alloc ?_ _)); done)) hb1
        obtain ⟨y0, y1, yf⟩ := LX1.two
        have zX1 := LX1.lt
        have row1 := Row.below HROW.out hb1
        have W1 : Hid (Below w.heap.size w w1) := Lib.hid (Below.next (W := w) hbw hb1)
        obtain ⟨_, hg, hfz, hc2⟩ := row1.bool (by omega)
        have hc3 := hc2 k (by omega)
        have HR1 := Lib.hid row1
        clear hb1 x0 x1 xf hc2 row1
        by_cases hle : cost ≤ ft
        · have hle' : decide (cost ≤ ft) = true := by simpa using hle
          have HNEXT := Lib.hid (HSUCC.out.trans (grantStep_yes HF.out.symm hle))
          go_wp2
          go_roundw
          case rel =>
            refine ⟨k + 1, by omega, by go_num, ?_, (by repeat (first | with_reducible exact W1.out | with_reducible exact Below.refl _ _ | with_reducible refine below_drewN ?_ _ | with_reducible refine Below.drew ?_ | with_reducible refine Below.alloc ?_ ?_ _ | with_reducible refine Below.setCell ?_ ?_ _ | (with_reducible refine Below.next ?_ (by assumption)) | ((with_reducible refine Below.far' (by assumption) ?_ ?_ ?_); (focus (first | omega | (simp; omega) | (simp; done))); (focus (first | omega | (simp; omega) | (simp; done)))) | omega | (focus (simp; omega)) | (focus (simp; done)))), lk.set k true, Lib.hid (by rw [HNEXT.out, HLK.out, grant_set _ _ _ HLEN.out hlt]), ⟨by simp; omega, by simp; omega⟩, ?_⟩
            · rw [HNEXT.out]
              refine Loc.other' (p := ⟨w0.heap.size + 1, _, none⟩) (by simp) ?_ _
              simpa using ((LX1.set 0 (.int .i64 ft)).set 1 (.int .i64 fl)).set 0 (.int .i64 (ft - cost))
            · refine Row.setBool ?_ (by omega) true
              exact (by repeat (first | with_reducible exact HR1.out | with_reducible refine Row.drew ?_ | with_reducible refine Row.drewN ?_ _ | with_reducible refine Row.alloc ?_ _ | (with_reducible refine Row.below ?_ (by assumption)) | ((with_reducible refine Row.other ?_ ?_ _); rotate_left; (focus (first | omega | (simp; omega) | (simp; done)))) | ((with_reducible refine Row.far' (by assumption) ?_ ?_); (focus (first | omega | (simp; omega) | (simp; done))))))
          case measure => simp [intOf]; omega
        · have hle' : decide (cost ≤ ft) = false := by simpa using hle
          have HNEXT := Lib.hid (HSUCC.out.trans (grantStep_not HF.out.symm hle))
          go_wp2
          go_roundw
          case rel =>
            refine ⟨k + 1, by omega, by go_num, ?_, (by repeat (first | with_reducible exact W1.out | with_reducible exact Below.refl _ _ | with_reducible refine below_drewN ?_ _ | with_reducible refine Below.drew ?_ | with_reducible refine Below.alloc ?_ ?_ _ | with_reducible refine Below.setCell ?_ ?_ _ | (with_reducible refine Below.next ?_ (by assumption)) | ((with_reducible refine Below.far' (by assumption) ?_ ?_ ?_); (focus (first | omega | (simp; omega) | (simp; done))); (focus (first | omega | (simp; omega) | (simp; done)))) | omega | (focus (simp; omega)) | (focus (simp; done)))), lk, Lib.hid (by rw [HNEXT.out, HLK.out, grant_keep _ _ _ hlt]), ⟨hlk1, hlk2⟩, ?_⟩
            · rw [HNEXT.out]
              simpa using (LX1.set 0 (.int .i64 ft)).set 1 (.int .i64 fl)
            · exact (by repeat (first | with_reducible exact HR1.out | with_reducible refine Row.drew ?_ | with_reducible refine Row.drewN ?_ _ | with_reducible refine Row.alloc ?_ _ | (with_reducible refine Row.below ?_ (by assumption)) | ((with_reducible refine Row.other ?_ ?_ _); rotate_left; (focus (first | omega | (simp; omega) | (simp; done)))) | ((with_reducible refine Row.far' (by assumption) ?_ ?_); (focus (first | omega | (simp; omega) | (simp; done))))))
          case measure => simp [intOf]; omega
      · have hke : k = l.length := by omega
        have HE : Hid (lk = grantB l cost rate most) := Lib.hid (by rw [HFIN.out, HLK.out, hke]; simp)
        go_wp2
        go_ret
        refine ⟨_, rfl, ?_, hbw⟩
        rw [← HE.out]
        exact SOwn.of_rown hrow (by omega) (by omega)
set_option maxHeartbeats 4000000 in
theorem specGrant_c (A : Option Addr) (c : Nat) (l : List Int) (cost rate most : Int) (w : World) (ha : Rd eInt w A l) (hl : l.length ≤ 1099511627776) :
    Calls Try.prog 19 #[.slice A l.length c, .int .i64 cost, .int .i64 rate, .int .i64 most] w (MadeS encBoolS tyBoolS (grantB l cost rate most) w) := by
  have ROW0 := Lib.hid (Row.made0 (E := eBool) (e := 4) (w := w) rfl)
  have HA := Lib.hid (ha.alloc (.cells #[] 4))
  cases h1 : timesB l
  · rw [grant_no (by simp [grantOk, h1])]
    have H1 := Lib.hid h1
    clear h1
    go_enter Try.func19, Try.ntmps19
    go_wp2_with fail
    refine (specTimes_any A c l _ HA.out hl).mono ?_
    rw [H1.out]
    rintro e w' ⟨rfl, q, rfl⟩
    go_wp2
    go_ret
    exact ⟨_, rfl, SOwn.of_rown (Row.drewN ROW0.out _) rfl (by simp), (by repeat (first | with_reducible exact Below.refl _ _ | with_reducible assumption | with_reducible refine below_drewN ?_ _ | with_reducible refine Below.drew ?_ | with_reducible refine Below.alloc ?_ ?_ _ | with_reducible refine Below.setCell ?_ ?_ _ | (with_reducible refine Below.next ?_ (by assumption)) | omega | (focus (simp; omega)) | (focus (simp; done))))⟩
  cases h2 : inB cost 0 1000
  · rw [grant_no (by simp [grantOk, h1, h2])]
    have H1 := Lib.hid h1
    have H2 := Lib.hid h2
    clear h1 h2
    go_enter Try.func19, Try.ntmps19
    go_wp2_with fail
    refine (specTimes_any A c l _ HA.out hl).mono ?_
    rw [H1.out]
    rintro e w' ⟨rfl, q, rfl⟩
    go_wp2_with (go_at_call 28; refine (l1In_any _ _ _ _).mono ?_; (try rw [H2.out]); rintro e w' ⟨rfl, rfl⟩)
    go_ret
    exact ⟨_, rfl, SOwn.of_rown (Row.drewN ROW0.out _) rfl (by simp), (by repeat (first | with_reducible exact Below.refl _ _ | with_reducible assumption | with_reducible refine below_drewN ?_ _ | with_reducible refine Below.drew ?_ | with_reducible refine Below.alloc ?_ ?_ _ | with_reducible refine Below.setCell ?_ ?_ _ | (with_reducible refine Below.next ?_ (by assumption)) | omega | (focus (simp; omega)) | (focus (simp; done))))⟩
  cases h3 : ratesOk rate most
  · rw [grant_no (by simp [grantOk, h1, h2, h3])]
    have H1 := Lib.hid h1
    have H2 := Lib.hid h2
    have h3' : inB rate 0 100 = false ∨ (inB rate 0 100 = true ∧ inB most 0 1000 = false) := by
      unfold ratesOk at h3
      cases hr : inB rate 0 100
      · exact .inl rfl
      · rw [hr] at h3; exact .inr ⟨rfl, by simpa using h3⟩
    clear h1 h2 h3
    rcases h3' with h3 | ⟨h3, h4⟩
    · have H3 := Lib.hid h3
      clear h3
      go_enter Try.func19, Try.ntmps19
      go_wp2_with fail
      refine (specTimes_any A c l _ HA.out hl).mono ?_
      rw [H1.out]
      rintro e w' ⟨rfl, q, rfl⟩
      go_wp2_with (go_at_call 28; refine (l1In_any _ _ _ _).mono ?_; (first | rw [H2.out] | rw [H3.out]); rintro e w' ⟨rfl, rfl⟩)
      go_ret
      exact ⟨_, rfl, SOwn.of_rown (Row.drewN ROW0.out _) rfl (by simp), (by repeat (first | with_reducible exact Below.refl _ _ | with_reducible assumption | with_reducible refine below_drewN ?_ _ | with_reducible refine Below.drew ?_ | with_reducible refine Below.alloc ?_ ?_ _ | with_reducible refine Below.setCell ?_ ?_ _ | (with_reducible refine Below.next ?_ (by assumption)) | omega | (focus (simp; omega)) | (focus (simp; done))))⟩
    · have H3 := Lib.hid h3
      have H4 := Lib.hid h4
      clear h3 h4
      go_enter Try.func19, Try.ntmps19
      go_wp2_with fail
      refine (specTimes_any A c l _ HA.out hl).mono ?_
      rw [H1.out]
      rintro e w' ⟨rfl, q, rfl⟩
      go_wp2_with (go_at_call 28; refine (l1In_any _ _ _ _).mono ?_; (first | rw [H2.out] | rw [H3.out] | rw [H4.out]); rintro e w' ⟨rfl, rfl⟩)
      go_ret
      exact ⟨_, rfl, SOwn.of_rown (Row.drewN ROW0.out _) rfl (by simp), (by repeat (first | with_reducible exact Below.refl _ _ | with_reducible assumption | with_reducible refine below_drewN ?_ _ | with_reducible refine Below.drew ?_ | with_reducible refine Below.alloc ?_ ?_ _ | with_reducible refine Below.setCell ?_ ?_ _ | (with_reducible refine Below.next ?_ (by assumption)) | omega | (focus (simp; omega)) | (focus (simp; done))))⟩
  · have H4 : Hid (inB rate 0 100 = true) := Lib.hid (by unfold ratesOk at h3; simp only [Bool.and_eq_true] at h3; exact h3.1)
    have H5 : Hid (inB most 0 1000 = true) := Lib.hid (by unfold ratesOk at h3; simp only [Bool.and_eq_true] at h3; exact h3.2)
    have hOK : grantOk l cost rate most = true := by simp [grantOk, h1, h2, h3]
    have hFin := grant_yes hOK
    have HINV := Lib.hid (grantAt_inv l cost rate most hOK)
    have HFILL := Lib.hid (grantAt_fill l cost rate most hOK)
    have HFIN := Lib.hid hFin
    obtain ⟨cost0, cost1⟩ := inB_true.1 h2
    have hr3 := h3
    simp only [ratesOk, Bool.and_eq_true, inB_true] at hr3
    obtain ⟨⟨rate0, rate1⟩, most0, most1⟩ := hr3
    have hl60 : l.length ≤ 60 := by simp only [timesB, Bool.and_eq_true, decide_eq_true_eq] at h1; exact h1.1.1
    have H1 := Lib.hid h1
    have H2 := Lib.hid h2
    have H3 := Lib.hid h3
    clear hOK hFin h1 h2 h3
    go_enter Try.func19, Try.ntmps19
    go_wp2_with fail
    refine (specTimes_any A c l _ HA.out hl).mono ?_
    rw [H1.out]
    rintro e w0 ⟨rfl, hw0⟩
    have ROW1 : Hid (Row eBool w0 w.heap.size 4 (some ⟨w.heap.size, 0, none⟩) 0 []) := Lib.hid (by obtain ⟨q, rfl⟩ := hw0; exact Row.drewN ROW0.out q)
    have hb0 : Below w.heap.size w w0 := by obtain ⟨q, rfl⟩ := hw0; exact below_drewN ((by repeat (first | with_reducible exact Below.refl _ _ | with_reducible assumption | with_reducible refine below_drewN ?_ _ | with_reducible refine Below.drew ?_ | with_reducible refine Below.alloc ?_ ?_ _ | with_reducible refine Below.setCell ?_ ?_ _ | (with_reducible refine Below.next ?_ (by assumption)) | omega | (focus (simp; omega)) | (focus (simp; done))))) q
    have hz0 := ROW1.out.some_lt
    clear hw0 ROW0
    go_wp2_with (go_at_call 28; refine (l1In_any _ _ _ _).mono ?_; (first | rw [H2.out] | rw [H4.out] | rw [H5.out]); rintro e w' ⟨rfl, rfl⟩)
    go_loopw [9, 11] (fun out i wr => ∃ k : Nat, k ≤ l.length ∧ i = .int .i64 k ∧ Loc wr w0.heap.size [.int .i64 (grantAt l cost rate most k).1.t, .int .i64 (grantAt l cost rate most k).1.l] ∧ Below w.heap.size w wr ∧ ∃ A1 c1 g1, ∃ lk : List Bool, out = .slice A1 lk.length c1 ∧ Hid (lk = (grantAt l cost rate most k).2) ∧ (lk.length ≤ k ∧ k ≤ lk.length) ∧ (g1 ≠ w0.heap.size ∧ w.heap.size ≤ g1 ∧ g1 < wr.heap.size) ∧ Row eBool wr g1 4 A1 c1 lk) (fun _ i _ => l.length - (intOf i).toNat)
    case atStart => exact ⟨0, Nat.zero_le _, rfl, (by repeat (first | with_reducible assumption | with_reducible apply Loc.fill3 | with_reducible apply Loc.fill2 | ((with_reducible refine Loc.newAt' ?_ rfl); (focus (first | with_reducible rfl | omega | (simp; omega) | (simp; done)))) | with_reducible refine Loc.drew ?_ | with_reducible refine Loc.drewN ?_ _ | with_reducible refine Loc.alloc ?_ _ | (with_reducible refine Loc.below ?_ (by assumption)) | ((with_reducible refine Loc.other' ?_ ?_ _); (focus (first | omega | (simp; omega) | (simp; done)))) | ((with_reducible refine Loc.far' (by assumption) ?_ ?_); (focus (first | omega | (simp; omega) | (simp; done)))))), (by repeat (first | with_reducible exact hb0 | with_reducible exact Below.refl _ _ | with_reducible refine below_drewN ?_ _ | with_reducible refine Below.drew ?_ | with_reducible refine Below.alloc ?_ ?_ _ | with_reducible refine Below.setCell ?_ ?_ _ | (with_reducible refine Below.next ?_ (by assumption)) | ((with_reducible refine Below.far' (by assumption) ?_ ?_ ?_); (focus (first | omega | (simp; omega) | (simp; done))); (focus (first | omega | (simp; omega) | (simp; done)))) | omega | (focus (simp; omega)) | (focus (simp; done)))), _, _, w.heap.size, [], rfl, Lib.hid (by simp [grantAt]), by simp, ⟨by omega, by omega, by simp; omega⟩, (by repeat (first | with_reducible exact ROW1.out | with_reducible refine Row.drew ?_ | with_reducible refine Row.drewN ?_ _ | with_reducible refine Row.alloc ?_ _ | (with_reducible refine Row.below ?_ (by assumption)) | ((with_reducible refine Row.other ?_ ?_ _); rotate_left; (focus (first | omega | (simp; omega) | (simp; done)))) | ((with_reducible refine Row.far' (by assumption) ?_ ?_); (focus (first | omega | (simp; omega) | (simp; done))))))⟩
    case round =>
      obtain ⟨k, hk, rfl, LX, hbw, A1, c1, g1, lk, rfl, HLK, ⟨hlk1, hlk2⟩, ⟨hg1X, hg1, hg1l⟩, hrow⟩ := hrel
      have hsz := hbw.size
      by_cases hlt : k < l.length
      · have hrl := Rd.below ha hbw
        obtain ⟨b, off, rfl, hbl, hcc⟩ := hrl.int hlt
        obtain ⟨x, hx⟩ : ∃ x, x = l[k]'hlt := ⟨_, rfl⟩
        have HX := Lib.hid hx
        have hsucc := grantAt_succ l cost rate most k hlt
        have hlen := grantAt_len l cost rate most k hk
        have hfill := HFILL.out k hlt
        obtain ⟨i1, i2, i3, i4, -⟩ := HINV.out k hk
        rw [← hx] at hcc hsucc hfill
        clear hx
        obtain ⟨s, hs⟩ : ∃ s, s = grantAt l cost rate most k := ⟨_, rfl⟩
        have HS := Lib.hid hs
        rw [← hs] at LX HLK hsucc hfill i1 i2 i3 i4 hlen
        clear hs
        obtain ⟨⟨tk, la⟩, res⟩ := s
        simp only at LX HLK i1 i2 i3 i4 hlen hfill
        obtain ⟨f, hf⟩ : ∃ f, f = fillTo ⟨tk, la⟩ x rate most := ⟨_, rfl⟩
        have HF := Lib.hid hf
        have hf0 : 0 ≤ f.t ∧ f.t ≤ most := by
          simp only [fillOk, Bool.and_eq_true, inB_true] at hfill
          have hm0 : 0 ≤ rate * (x - la) := Int.mul_nonneg (by omega) (by omega)
          rw [hf]
          have : (fillTo ⟨tk, la⟩ x rate most).t = min most (tk + rate * (x - la)) := rfl
          omega
        obtain ⟨ft, fl⟩ := f
        simp only at hf0
        obtain ⟨hf0, hf1⟩ := hf0
        have HSUCC := Lib.hid hsucc
        have HFOK := Lib.hid hfill
        have HLEN := Lib.hid hlen
        clear hf hsucc hfill hlen
        obtain ⟨x0, x1, xf⟩ := LX.two
        have zX := LX.lt
        have HROW := Lib.hid hrow
        clear hrow
        obtain ⟨nb, hnb⟩ : ∃ nb, nb = takeB ⟨ft, fl⟩ cost := ⟨_, rfl⟩
        obtain ⟨ok, hok⟩ : ∃ ok, ok = takeOk ⟨ft, fl⟩ cost := ⟨_, rfl⟩
        have HNB := Lib.hid hnb
        have HOK := Lib.hid hok
        have HNEXT : Hid (grantAt l cost rate most (k + 1) = (nb, lk ++ [ok])) := Lib.hid (by
          have hi := inB_true.2 ⟨cost0, cost1⟩
          have hi2 := H2.out
          rw [HSUCC.out]
          by_cases hle : cost ≤ ft
          · rw [grantStep_yes HF.out.symm hle, hnb, hok, HLK.out]
            have : ¬ ft < cost := by omega
            simp [takeB, takeOk, hi2, hle, this]
          · rw [grantStep_not HF.out.symm hle, hnb, hok, HLK.out]
            have : ft < cost := by omega
            simp [takeB, takeOk, hi2, hle, this])
        obtain ⟨nt, nl⟩ := nb
        clear hnb hok
        have hbw0 : b < w.heap.size := ha.lt (by omega) rfl
        have HFB : Hid (fillB ⟨tk, la⟩ x rate most = ⟨ft, fl⟩) := Lib.hid (by rw [fillB_yes HFOK.out, HF.out])
        go_wp2
        go_region_held3 (fun w' => w'.cell? ⟨w0.heap.size, 0, none⟩ = some (.int .i64 tk) ∧ w'.cell? ⟨w0.heap.size, 1, none⟩ = some (.int .i64 la) ∧ w'.cell? ⟨b, off + k, none⟩ = some (.int .i64 x)) (first | (refine ⟨?_, ?_, ?_⟩ <;> assumption) | (refine ⟨?_, ?_, ?_⟩ <;> (simp [go_sem, *]; done)) | go_keep)
          (first
            | (go_at_call 10; (with_reducible refine (specFill_any ⟨tk, la⟩ x rate most _).mono ?_); rw [HFB.out]; rintro e w1 ⟨rfl, hb1⟩; have LX1 := Loc.carryB LX (fun h => by ((repeat (first | with_reducible exact h | with_reducible refine Loc.drew ?_ | with_reducible refine Loc.drewN ?_ _ | with_reducible refine Loc.alloc ?_ _)); done)) hb1; obtain ⟨y0, y1, yf⟩ := LX1.two; have zX1 := LX1.lt; obtain ⟨hd1, -⟩ := bcell (Below.next (W := wr) (by repeat (first | with_reducible exact Below.refl _ _ | with_reducible refine below_drewN ?_ _ | with_reducible refine Below.drew ?_ | with_reducible refine Below.alloc ?_ ?_ _ | with_reducible refine Below.setCell ?_ ?_ _ | omega | (focus (simp; omega)) | (focus (simp; done)))) hb1); have hcd := (hd1 b (off + k) hbl).trans hcc; clear hd1; obtain ⟨hc1, hf1⟩ := bcell hb1; have HR1 := Lib.hid (Row.below HROW.out (Below.next (W := wr) (by repeat (first | with_reducible exact Below.refl _ _ | with_reducible refine below_drewN ?_ _ | with_reducible refine Below.drew ?_ | with_reducible refine Below.alloc ?_ ?_ _ | with_reducible refine Below.setCell ?_ ?_ _ | omega | (focus (simp; omega)) | (focus (simp; done)))) hb1)); have W1 : Hid (Below w.heap.size w w1) := Lib.hid (Below.next (W := w) (by repeat (first | with_reducible exact hbw | with_reducible exact Below.refl _ _ | with_reducible refine below_drewN ?_ _ | with_reducible refine Below.drew ?_ | with_reducible refine Below.alloc ?_ ?_ _ | with_reducible refine Below.setCell ?_ ?_ _ | (with_reducible refine Below.next ?_ (by assumption)) | ((with_reducible refine Below.far' (by assumption) ?_ ?_ ?_); (focus (first | omega | (simp; omega) | (simp; done))); (focus (first | omega | (simp; omega) | (simp; done)))) | omega | (focus (simp; omega)) | (focus (simp; done)))) hb1); have hz1 := hb1.size; (try simp at hz1); (try have z01 : wr.heap.size < w1.heap.size := by omega); clear hb1)
            | (go_at_call 14; (with_reducible refine (specTake_any ⟨ft, fl⟩ cost (by simp only; omega) _).mono ?_); rw [← HNB.out, ← HOK.out]; rintro e w2 ⟨rfl, hb2⟩; have LX2 := Loc.carryB LX1 (fun h => by ((repeat (first | with_reducible exact h | with_reducible refine Loc.drew ?_ | with_reducible refine Loc.drewN ?_ _ | with_reducible refine Loc.alloc ?_ _)); done)) hb2; obtain ⟨p0, p1, pf⟩ := LX2.two; have zX2 := LX2.lt; obtain ⟨hd2, -⟩ := bcell (Below.next (W := w1) (by repeat (first | with_reducible exact Below.refl _ _ | with_reducible refine below_drewN ?_ _ | with_reducible refine Below.drew ?_ | with_reducible refine Below.alloc ?_ ?_ _ | with_reducible refine Below.setCell ?_ ?_ _ | omega | (focus (simp; omega)) | (focus (simp; done)))) hb2); have hce := (hd2 b (off + k) (by omega)).trans hcd; clear hd2; obtain ⟨hc2, hf2⟩ := bcell hb2; have HR2 := Lib.hid (Row.below HR1.out (Below.next (W := w1) (by repeat (first | with_reducible exact Below.refl _ _ | with_reducible refine below_drewN ?_ _ | with_reducible refine Below.drew ?_ | with_reducible refine Below.alloc ?_ ?_ _ | with_reducible refine Below.setCell ?_ ?_ _ | omega | (focus (simp; omega)) | (focus (simp; done)))) hb2)); have W2 : Hid (Below w.heap.size w w2) := Lib.hid (Below.next (W := w) (by repeat (first | with_reducible exact W1.out | with_reducible exact Below.refl _ _ | with_reducible refine below_drewN ?_ _ | with_reducible refine Below.drew ?_ | with_reducible refine Below.alloc ?_ ?_ _ | with_reducible refine Below.setCell ?_ ?_ _ | (with_reducible refine Below.next ?_ (by assumption)) | ((with_reducible refine Below.far' (by assumption) ?_ ?_ ?_); (focus (first | omega | (simp; omega) | (simp; done))); (focus (first | omega | (simp; omega) | (simp; done)))) | omega | (focus (simp; omega)) | (focus (simp; done)))) hb2); have hz2 := hb2.size; (try simp at hz2); (try have z02 : wr.heap.size < w2.heap.size := by omega); (try have z12 : w1.heap.size < w2.heap.size := by omega); clear hb2))
        all_goals
          go_wp2_with (at_builtin; refine wpList_append_row (E := eBool) (A := A1) (c := c1) (g := g1) (l := lk) rfl _ _ rfl el_bool rfl ?_ _ _ [ok] rfl ?_ (by simp only [maxLen, List.length_cons, List.length_nil]; omega) (by simp only [List.length_cons, List.length_nil]; omega) ?_; (focus (exact (by repeat (first | with_reducible exact HR2.out | with_reducible refine Row.drew ?_ | with_reducible refine Row.drewN ?_ _ | with_reducible refine Row.alloc ?_ _ | (with_reducible refine Row.below ?_ (by assumption)) | ((with_reducible refine Row.other ?_ ?_ _); rotate_left; (focus (first | omega | (simp; omega) | (simp; done)))) | ((with_reducible refine Row.far' (by assumption) ?_ ?_); (focus (first | omega | (simp; omega) | (simp; done)))))))); (focus (exact (by repeat (first | ((with_reducible refine Rd.lit ?_ ?_); (focus (first | with_reducible rfl | omega | (simp; omega) | (simp; done))); (focus (first | rfl | (simp; rfl) | (simp; done)))) | with_reducible refine Rd.drew ?_ | with_reducible refine Rd.drewN ?_ _ | with_reducible refine Rd.alloc ?_ _ | (with_reducible refine Rd.below ?_ (by assumption)))))); intro A3 c3 g3 w3 l3 hl3 hle1 hle2 hrow3 hg3 hgg3)
          have hg3l := hrow3.lt (by simp only [List.length_cons, List.length_nil] at hle2; omega)
          go_roundw
          case rel =>
            simp only [List.length_cons, List.length_nil] at hle1 hle2
            have hz3 := hg3.size
            simp at hz3 hgg3
            refine ⟨k + 1, by omega, by go_num, ?_, ?_, A3, c3, g3, l3, rfl, Lib.hid (by rw [hl3.out, HNEXT.out]), ⟨by omega, by omega⟩, ⟨by omega, by omega, hg3l⟩, hrow3⟩
            · rw [HNEXT.out]
              refine Loc.far' hg3 (by omega) ?_
              show Loc _ _ [.int .i64 nt, .int .i64 nl]
              exact (by repeat (first | with_reducible assumption | with_reducible apply Loc.fill3 | with_reducible apply Loc.fill2 | ((with_reducible refine Loc.newAt' ?_ rfl); (focus (first | with_reducible rfl | omega | (simp; omega) | (simp; done)))) | with_reducible refine Loc.drew ?_ | with_reducible refine Loc.drewN ?_ _ | with_reducible refine Loc.alloc ?_ _ | (with_reducible refine Loc.below ?_ (by assumption)) | ((with_reducible refine Loc.other' ?_ ?_ _); (focus (first | omega | (simp; omega) | (simp; done)))) | ((with_reducible refine Loc.far' (by assumption) ?_ ?_); (focus (first | omega | (simp; omega) | (simp; done))))))
            · exact (by repeat (first | with_reducible exact W2.out | with_reducible exact Below.refl _ _ | with_reducible refine below_drewN ?_ _ | with_reducible refine Below.drew ?_ | with_reducible refine Below.alloc ?_ ?_ _ | with_reducible refine Below.setCell ?_ ?_ _ | (with_reducible refine Below.next ?_ (by assumption)) | ((with_reducible refine Below.far' (by assumption) ?_ ?_ ?_); (focus (first | omega | (simp; omega) | (simp; done))); (focus (first | omega | (simp; omega) | (simp; done)))) | omega | (focus (simp; omega)) | (focus (simp; done))))
          case measure => simp [intOf]; omega
      · have hke : k = l.length := by omega
        have HE : Hid (lk = grantB l cost rate most) := Lib.hid (by rw [HFIN.out, HLK.out, hke])
        go_wp2
        go_ret
        refine ⟨_, rfl, ?_, hbw⟩
        rw [← HE.out]
        exact SOwn.of_rown hrow rfl (by omega)
theorem grantB_size (t : List Int) (cost rate most : Int) : sizeBools (grantB t cost rate most) ≤ sizeInts t := grantB_lens t cost rate most
theorem implGrant_v (x0 : Value) (l : List Int) (cost rate most : Int) (w : World) (h : IntsRd w x0 l) (hs : sizeInts l ≤ 1099511627776) : Calls Try.prog 21 #[x0, .int .i64 cost, .int .i64 rate, .int .i64 most] w (MadeS encBoolS tyBoolS (grantB l cost rate most) w) := by
  obtain ⟨A, c, rfl, hr, _⟩ := h
  exact implGrant_c A c l cost rate most w hr hs
theorem specGrant_v (x0 : Value) (l : List Int) (cost rate most : Int) (w : World) (h : IntsRd w x0 l) (hs : sizeInts l ≤ 1099511627776) : Calls Try.prog 19 #[x0, .int .i64 cost, .int .i64 rate, .int .i64 most] w (MadeS encBoolS tyBoolS (grantB l cost rate most) w) := by
  obtain ⟨A, c, rfl, hr, _⟩ := h
  exact specGrant_c A c l cost rate most w hr hs
end Go.Proofs.Ytmgbenfmhgkogaa
