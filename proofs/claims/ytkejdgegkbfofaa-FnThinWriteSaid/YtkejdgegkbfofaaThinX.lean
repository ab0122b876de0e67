/-
  Thin volumes: ThinWrite of the program. Conditions: lengths at most 2^40.
-/
import Derived.Test.YtkejdgegkbfofaaBase
import Derived.Test.YtkejdgegkbfofaaNum
import Derived.Test.YtkejdgegkbfofaaInts
import Derived.Test.YtkejdgegkbfofaaApp
import Derived.Test.YtkejdgegkbfofaaIntsW
import Derived.Test.YtkejdgegkbfofaaLib
import Derived.Test.YtkejdgegkbfofaaSpares
import Derived.Test.YtkejdgegkbfofaaOwn
import Derived.Test.YtkejdgegkbfofaaThin
import Derived.Test.YtkejdgegkbfofaaThinM
import Derived.Test.YtkejdgegkbfofaaThinC
import Derived.Test.YtkejdgegkbfofaaThinW
import Derived.Test.YtkejdgegkbfofaaThinF
namespace Go.Proofs.Ytkejdgegkbfofaa
open Go.RowKit
theorem placeB_neg {t : Th} {a : Nat} (ha : a < t.whr.length) (h : t.whr[a] < 0) : placeB t a = freeB t := by simp [placeB, ha, h]
theorem placeB_pos {t : Th} {a : Nat} (ha : a < t.whr.length) (h : ¬ t.whr[a] < 0) : placeB t a = t.whr[a] := by simp [placeB, ha, h]
theorem not_beyond {t : Th} (h : allIn t.whr (-1) (t.pool.length - 1) = true) : ((t.pool.length : Nat) : Int) ∉ t.whr := by
  intro hm
  have := allIn_mem h hm
  omega
theorem thinWrite_no {t : Th} {a v : Int} (h : thinArgs t a v = false) : thinWriteB t a v = ⟨[], []⟩ ∧ thinWriteOk t a v = false := by simp [thinWriteB, thinWriteOk, h]
theorem thinWrite_full {t : Th} {a v : Int} (h : thinArgs t a v = true) (hp : placeB t a < 0) : thinWriteB t a v = t ∧ thinWriteOk t a v = false := by simp [thinWriteB, thinWriteOk, h, hp]
theorem thinWrite_to {t : Th} {a : Nat} {v : Int} {p : Nat} (h : thinArgs t a v = true) (hp : placeB t a = p) : thinWriteB t a v = ⟨t.whr.set a p, t.pool.set p v⟩ ∧ thinWriteOk t a v = true := by
  have h0 : ¬ ((p : Int) < 0) := by omega
  simp [thinWriteB, thinWriteOk, h, hp, h0]
theorem madeThin_nil (w : World) (w' : World) (hb : Below w.heap.size w w') : MadeThinB ⟨[], []⟩ false w (.returned (.tuple #[.agg #[.slice none 0 0, .slice none 0 0], .bool false])) w' :=
  ⟨_, _, rfl, ⟨_, _, rfl, SOwn.nil0 _ _ _, SOwn.nil0 _ _ _, fun _ _ _ _ _ _ h => by cases h⟩, hb⟩
set_option maxHeartbeats 4000000 in
theorem implThinWrite_c (x0 x1 : Value) (t : Th) (a v : Int) (w : World) (h : ThinRd w [x0, x1] t) (hs : sizeThin t ≤ 1099511627776) :
    Calls Try.prog 10 #[.agg #[x0, x1], .int .i64 a, .int .i64 v] w (MadeThinB (thinWriteB t a v) (thinWriteOk t a v) w) := by
  obtain ⟨A0, c0, A0', c0', rfl, rfl⟩ := thinRd_lens h
  have L0 := Loc.new w [.slice A0 t.whr.length c0, .slice A0' t.pool.length c0'] 26
  have L1 := Loc.newAt (w.alloc (.cells #[.slice A0 t.whr.length c0, .slice A0' t.pool.length c0'] 26)) [.slice none 0 0, .slice none 0 0] 26 (b := w.heap.size + 1) (by simp)
  have HR := Lib.hid h
  cases ht : (thinB t && inB a 0 (t.whr.length - 1))
  · have HT := Lib.hid ht
    have hno : thinArgs t a v = false := by simp only [thinArgs, ht, Bool.false_and]
    obtain ⟨e1, e2⟩ := thinWrite_no hno
    rw [e1, e2]
    clear ht hno e1 e2
    go_enter Try.func10, Try.ntmps10
    go_wp2_with fail
    refine (isThin_c _ _ t a _ (ThinRd.below HR.out (by repeat (first | with_reducible exact Below.refl _ _ | with_reducible refine below_drewN ?_ _ | with_reducible refine Below.drew ?_ | with_reducible refine Below.alloc ?_ ?_ _ | with_reducible refine Below.setCell ?_ ?_ _ | omega | (focus (simp; omega)) | (focus (simp; done))))) hs).mono ?_
    rw [HT.out]
    rintro e w1 ⟨rfl, hb1⟩
    have M1 := Loc.carryB L1 (fun h => by ((repeat (first | with_reducible exact h | with_reducible refine Loc.drew ?_ | with_reducible refine Loc.drewN ?_ _ | with_reducible refine Loc.alloc ?_ _)); done)) hb1
    obtain ⟨m0, m1, mf⟩ := M1.two
    go_wp2
    refine bodyPost_ret (v := .tuple #[.agg #[.slice none 0 0, .slice none 0 0], .bool false]) (by simp [results, Try.results10, go_sem, *]) rfl (madeThin_nil _ _ (by repeat (first | with_reducible exact Below.refl _ _ | with_reducible assumption | with_reducible refine below_drewN ?_ _ | with_reducible refine Below.drew ?_ | with_reducible refine Below.alloc ?_ ?_ _ | with_reducible refine Below.setCell ?_ ?_ _ | (with_reducible refine Below.next ?_ (by assumption)) | omega | (focus (simp; omega)) | (focus (simp; done)))))
  · cases hv : inB v 0 255
    · have HT := Lib.hid ht
      have hno : thinArgs t a v = false := by simp only [thinArgs, hv, Bool.and_false]
      obtain ⟨e1, e2⟩ := thinWrite_no hno
      rw [e1, e2]
      clear ht hno e1 e2
      go_enter Try.func10, Try.ntmps10
      go_wp2_with fail
      refine (isThin_c _ _ t a _ (ThinRd.below HR.out (by repeat (first | with_reducible exact Below.refl _ _ | with_reducible refine below_drewN ?_ _ | with_reducible refine Below.drew ?_ | with_reducible refine Below.alloc ?_ ?_ _ | with_reducible refine Below.setCell ?_ ?_ _ | omega | (focus (simp; omega)) | (focus (simp; done))))) hs).mono ?_
      rw [HT.out]
      rintro e w1 ⟨rfl, hb1⟩
      have M1 := Loc.carryB L1 (fun h => by ((repeat (first | with_reducible exact h | with_reducible refine Loc.drew ?_ | with_reducible refine Loc.drewN ?_ _ | with_reducible refine Loc.alloc ?_ _)); done)) hb1
      obtain ⟨m0, m1, mf⟩ := M1.two
      go_wp2_with (go_at_call 34; refine (within_any _ _ _ _).mono ?_; rintro e w' ⟨rfl, rfl⟩)
      refine bodyPost_ret (v := .tuple #[.agg #[.slice none 0 0, .slice none 0 0], .bool false]) (by simp [results, Try.results10, go_sem, *]) rfl (madeThin_nil _ _ (by repeat (first | with_reducible exact Below.refl _ _ | with_reducible assumption | with_reducible refine below_drewN ?_ _ | with_reducible refine Below.drew ?_ | with_reducible refine Below.alloc ?_ ?_ _ | with_reducible refine Below.setCell ?_ ?_ _ | (with_reducible refine Below.next ?_ (by assumption)) | omega | (focus (simp; omega)) | (focus (simp; done)))))
    · have HT := Lib.hid ht
      have HAR : Hid (thinArgs t a v = true) := by show thinArgs t a v = true; simp only [thinArgs, ht, hv]; rfl
      simp only [Bool.and_eq_true] at ht
      obtain ⟨hq1, hq2, hq3, _⟩ := thinB_true ht.1
      obtain ⟨a0, a1⟩ := inB_true.1 ht.2
      obtain ⟨n, rfl⟩ := Int.eq_ofNat_of_zero_le a0
      have hnl : n < t.whr.length := by omega
      have hrange := allIn_get hq3 hnl
      obtain ⟨hr0, hr1⟩ := hrange
      have hpl : t.pool.length ≤ 64 := hq2.1
      have HAL := Lib.hid hq3
      obtain ⟨v0, v1⟩ := inB_true.1 hv
      clear ht hq2 hq3
      go_enter Try.func10, Try.ntmps10
      go_wp2_with fail
      refine (isThin_c _ _ t n _ (ThinRd.below HR.out (by repeat (first | with_reducible exact Below.refl _ _ | with_reducible refine below_drewN ?_ _ | with_reducible refine Below.drew ?_ | with_reducible refine Below.alloc ?_ ?_ _ | with_reducible refine Below.setCell ?_ ?_ _ | omega | (focus (simp; omega)) | (focus (simp; done))))) hs).mono ?_
      rw [HT.out]
      rintro e w1 ⟨rfl, hb1⟩
      have M0 := Loc.carryB L0 (fun h => by ((repeat (first | with_reducible exact h | with_reducible refine Loc.drew ?_ | with_reducible refine Loc.drewN ?_ _ | with_reducible refine Loc.alloc ?_ _)); done)) hb1
      have M1 := Loc.carryB L1 (fun h => by ((repeat (first | with_reducible exact h | with_reducible refine Loc.drew ?_ | with_reducible refine Loc.drewN ?_ _ | with_reducible refine Loc.alloc ?_ _)); done)) hb1
      obtain ⟨m0, m1, mf⟩ := M0.two
      have W1 : Below w.heap.size w w1 := Below.next (by repeat (first | with_reducible exact Below.refl _ _ | with_reducible refine below_drewN ?_ _ | with_reducible refine Below.drew ?_ | with_reducible refine Below.alloc ?_ ?_ _ | with_reducible refine Below.setCell ?_ ?_ _ | omega | (focus (simp; omega)) | (focus (simp; done)))) hb1
      have hz1 := M1.lt
      go_wp2_with (go_at_call 34; refine (within_any _ _ _ _).mono ?_; rintro e w' ⟨rfl, rfl⟩)
      refine (cloneThin_c _ _ t _ (ThinRd.below HR.out W1) hs).mono ?_
      rintro e w2 ⟨y0, y1, rfl, ⟨u1, u2, he, o1, o2, hap⟩, hb2⟩
      simp only [List.cons.injEq, and_true] at he
      obtain ⟨rfl, rfl⟩ := he
      have hz2 := hb2.size
      obtain ⟨A, c, g, A', c', g', rfl, rfl, row, row', hg1, hg2, hgX, hgX', hgg, _, _⟩ := two_rows o1 o2 hap w2.heap.size (Nat.le_refl _) (by omega)
      clear o1 o2 hap
      have N0 := Loc.carryB M0 (fun h => by ((repeat (first | with_reducible exact h | with_reducible refine Loc.drew ?_ | with_reducible refine Loc.drewN ?_ _ | with_reducible refine Loc.alloc ?_ _)); done)) hb2
      have N1 := Loc.carryB M1 (fun h => by ((repeat (first | with_reducible exact h | with_reducible refine Loc.drew ?_ | with_reducible refine Loc.drewN ?_ _ | with_reducible refine Loc.alloc ?_ _)); done)) hb2
      have W2 : Below w.heap.size w w2 := Below.next W1 hb2
      clear m0 m1 mf hb1 hb2 L0 L1 M0 M1
      obtain ⟨m0, m1, mf⟩ := N0.two
      obtain ⟨q0, q1, qf⟩ := N1.two
      have hz3 := N1.lt
      obtain ⟨rfl, hgl, hfz, hcc⟩ := row.int (by omega)
      have hcn := hcc n hnl
      have H1 := Lib.hid row
      have H2 := Lib.hid row'
      clear row row' hcc
      by_cases hneg : (t.whr[n]'hnl) < 0
      · have HB : Hid (placeB t n = freeB t) := Lib.hid (placeB_neg hnl hneg)
        have HA0 : Hid (Rd eInt w A0 t.whr) := Lib.hid (by
          obtain ⟨u, v, he, ⟨A, c, hv, hr, _⟩, _⟩ := HR.out
          simp only [List.cons.injEq, and_true] at he
          rw [← he.1] at hv
          cases hv
          exact hr)
        have HNB := Lib.hid (not_beyond HAL.out)
        obtain ⟨j0, j1, jf⟩ := Loc.two (N0.alloc (.cells #[.slice (some ⟨g, 0, none⟩) t.whr.length c, .slice A' t.pool.length c'] 26))
        go_wp2_with fail
        go_loop [9] (fun i => ∃ p : Nat, p ≤ t.pool.length ∧ i = .int .i64 p ∧ (∀ q : Nat, q < p → (q : Int) ∈ t.whr)) (fun i => t.pool.length - (intOf i).toNat)
        case atStart => exact ⟨0, Nat.zero_le _, rfl, fun q h => absurd h (by omega)⟩
        case round =>
          obtain ⟨p, hp, rfl, hq⟩ := hrel
          have HQ := Lib.hid hq
          clear hq
          have RW0 : Hid (Rd eInt (w2.alloc (.cells #[.slice (some ⟨g, 0, none⟩) t.whr.length c, .slice A' t.pool.length c'] 26)) A0 t.whr) := Lib.hid ((HA0.out.below W2).alloc _)
          by_cases hmem : (p : Int) ∈ t.whr
          · have hpl3 : p < t.pool.length := by
              rcases Nat.lt_or_ge p t.pool.length with h | h
              · exact h
              · have : p = t.pool.length := by omega
                subst this
                exact absurd hmem HNB.out
            have HM : Hid (decide ((p : Int) ∈ t.whr) = true) := Lib.hid (by simpa using hmem)
            have HMM := Lib.hid hmem
            clear hmem
            go_wp2_with fail
            refine (contains_any A0 _ c0 t.whr p _ rfl RW0.out (by unfold sizeThin at hs; omega)).mono ?_
            rw [HM.out]
            rintro e w' ⟨rfl, rfl⟩
            go_wp2
            go_round
            case rel =>
              refine ⟨p + 1, by omega, by go_num, fun q hq => ?_⟩
              by_cases he : q = p
              · rw [he]; exact HMM.out
              · exact HQ.out q (by omega)
            case measure => simp [intOf]; omega
          · have HM : Hid (decide ((p : Int) ∈ t.whr) = false) := Lib.hid (by simpa using hmem)
            by_cases hfull : p = t.pool.length
            · have HF : Hid (freeB t = -1) := Lib.hid (freeB_no fun q hq => HQ.out q (by omega))
              obtain ⟨e1, e2⟩ := thinWrite_full HAR.out (by rw [HB.out, HF.out]; omega)
              have E1 := Lib.hid e1
              have E2 := Lib.hid e2
              have hpe : ((p : Int) == (t.pool.length : Int)) = true := by simp [hfull]
              clear e1 e2 hmem hfull
              go_wp2_with fail
              refine (contains_any A0 _ c0 t.whr p _ rfl RW0.out (by unfold sizeThin at hs; omega)).mono ?_
              rw [HM.out]
              rintro e w' ⟨rfl, rfl⟩
              go_wp2
              rw [E1.out, E2.out]
              refine bodyPost_ret (v := .tuple #[.agg #[.slice (some ⟨g, 0, none⟩) t.whr.length c, .slice A' t.pool.length c'], .bool false]) (by simp [results, Try.results10, go_sem, *]) rfl ⟨_, _, rfl, ⟨_, _, rfl, ?_, ?_, ?_⟩, ?_⟩
              · exact SOwn.of_row (g := g) (by repeat (first | with_reducible exact H1.out | with_reducible refine Row.drew ?_ | with_reducible refine Row.drewN ?_ _ | with_reducible refine Row.alloc ?_ _ | (with_reducible refine Row.below ?_ (by assumption)) | ((with_reducible refine Row.other ?_ ?_ _); rotate_left; (focus (first | omega | (simp; omega) | (simp; done)))) | ((with_reducible refine Row.far' (by assumption) ?_ ?_); (focus (first | omega | (simp; omega) | (simp; done)))))) (by omega)
              · exact SOwn.of_row (g := g') (by repeat (first | with_reducible exact H2.out | with_reducible refine Row.drew ?_ | with_reducible refine Row.drewN ?_ _ | with_reducible refine Row.alloc ?_ _ | (with_reducible refine Row.below ?_ (by assumption)) | ((with_reducible refine Row.other ?_ ?_ _); rotate_left; (focus (first | omega | (simp; omega) | (simp; done)))) | ((with_reducible refine Row.far' (by assumption) ?_ ?_); (focus (first | omega | (simp; omega) | (simp; done)))))) (by omega)
              · exact Apart.of_rows H1.out H2.out hgg
              · exact (by repeat (first | with_reducible exact W2 | with_reducible exact Below.refl _ _ | with_reducible refine below_drewN ?_ _ | with_reducible refine Below.drew ?_ | with_reducible refine Below.alloc ?_ ?_ _ | with_reducible refine Below.setCell ?_ ?_ _ | (with_reducible refine Below.next ?_ (by assumption)) | ((with_reducible refine Below.far' (by assumption) ?_ ?_ ?_); (focus (first | omega | (simp; omega) | (simp; done))); (focus (first | omega | (simp; omega) | (simp; done)))) | omega | (focus (simp; omega)) | (focus (simp; done))))
            · have hpl2 : p < t.pool.length := by omega
              have HF : Hid (freeB t = p) := Lib.hid (freeB_at hpl2 hmem HQ.out)
              obtain ⟨e1, e2⟩ := thinWrite_to (p := p) HAR.out (by rw [HB.out, HF.out])
              have E1 := Lib.hid e1
              have E2 := Lib.hid e2
              have hpe : ((p : Int) == (t.pool.length : Int)) = false := by
                rw [beq_eq_false_iff_ne]; omega
              have hr2 := H2.out
              obtain ⟨rfl, hgl', hfz', hcc'⟩ := hr2.int (by omega)
              have hcp := hcc' p hpl2
              have HS1 := Lib.hid (H1.out.setInt (k := n) hnl (p : Int))
              have HS2 := Lib.hid ((H2.out.other (p := ⟨g, n, none⟩) (Ne.symm hgg) (.int .i64 (p : Int))).setInt (k := p) hpl2 v)
              have F0 : Loc ((((w2.setCell ⟨g, n, none⟩ (.int .i64 (p : Int))).setCell ⟨g', p, none⟩ (.int .i64 v)).alloc (.cells #[.slice (some ⟨g, 0, none⟩) t.whr.length c, .slice (some ⟨g', 0, none⟩) t.pool.length c'] 26)).drew) w2.heap.size [.slice (some ⟨g, 0, none⟩) t.whr.length c, .slice (some ⟨g', 0, none⟩) t.pool.length c'] := (by repeat (first | with_reducible assumption | with_reducible apply Loc.fill3 | with_reducible apply Loc.fill2 | ((with_reducible refine Loc.newAt' ?_ rfl); (focus (first | with_reducible rfl | omega | (simp; omega) | (simp; done)))) | with_reducible refine Loc.drew ?_ | with_reducible refine Loc.drewN ?_ _ | with_reducible refine Loc.alloc ?_ _ | (with_reducible refine Loc.below ?_ (by assumption)) | ((with_reducible refine Loc.other' ?_ ?_ _); (focus (first | omega | (simp; omega) | (simp; done)))) | ((with_reducible refine Loc.far' (by assumption) ?_ ?_); (focus (first | omega | (simp; omega) | (simp; done))))))
              obtain ⟨F1, F2, _⟩ := F0.two
              have F3 : ((((w2.setCell ⟨g, n, none⟩ (.int .i64 (p : Int))).setCell ⟨g', p, none⟩ (.int .i64 v)).alloc (.cells #[.slice (some ⟨g, 0, none⟩) t.whr.length c, .slice (some ⟨g', 0, none⟩) t.pool.length c'] 26)).drew).cell? ⟨g, n, none⟩ = some (.int .i64 p) := Row.icell (w := World.drew _) (e := 3) (A := some ⟨g, 0, none⟩) (c := c) (l := t.whr.set n (p : Int)) (by repeat (first | with_reducible exact HS1.out | with_reducible refine Row.drew ?_ | with_reducible refine Row.drewN ?_ _ | with_reducible refine Row.alloc ?_ _ | (with_reducible refine Row.below ?_ (by assumption)) | ((with_reducible refine Row.other ?_ ?_ _); rotate_left; (focus (first | omega | (simp; omega) | (simp; done)))) | ((with_reducible refine Row.far' (by assumption) ?_ ?_); (focus (first | omega | (simp; omega) | (simp; done)))))) (by simpa using hnl) (by simp)
              have G0 : Loc (((w2.setCell ⟨g, n, none⟩ (.int .i64 (p : Int))).alloc (.cells #[.slice (some ⟨g, 0, none⟩) t.whr.length c, .slice (some ⟨g', 0, none⟩) t.pool.length c'] 26)).drew) w2.heap.size [.slice (some ⟨g, 0, none⟩) t.whr.length c, .slice (some ⟨g', 0, none⟩) t.pool.length c'] := (by repeat (first | with_reducible assumption | with_reducible apply Loc.fill3 | with_reducible apply Loc.fill2 | ((with_reducible refine Loc.newAt' ?_ rfl); (focus (first | with_reducible rfl | omega | (simp; omega) | (simp; done)))) | with_reducible refine Loc.drew ?_ | with_reducible refine Loc.drewN ?_ _ | with_reducible refine Loc.alloc ?_ _ | (with_reducible refine Loc.below ?_ (by assumption)) | ((with_reducible refine Loc.other' ?_ ?_ _); (focus (first | omega | (simp; omega) | (simp; done)))) | ((with_reducible refine Loc.far' (by assumption) ?_ ?_); (focus (first | omega | (simp; omega) | (simp; done))))))
              obtain ⟨G1, G2, _⟩ := G0.two
              have G3 : (((w2.setCell ⟨g, n, none⟩ (.int .i64 (p : Int))).alloc (.cells #[.slice (some ⟨g, 0, none⟩) t.whr.length c, .slice (some ⟨g', 0, none⟩) t.pool.length c'] 26)).drew).cell? ⟨g, n, none⟩ = some (.int .i64 p) := Row.icell (w := World.drew _) (e := 3) (A := some ⟨g, 0, none⟩) (c := c) (l := t.whr.set n (p : Int)) (by repeat (first | with_reducible exact HS1.out | with_reducible refine Row.drew ?_ | with_reducible refine Row.drewN ?_ _ | with_reducible refine Row.alloc ?_ _ | (with_reducible refine Row.below ?_ (by assumption)) | ((with_reducible refine Row.other ?_ ?_ _); rotate_left; (focus (first | omega | (simp; omega) | (simp; done)))) | ((with_reducible refine Row.far' (by assumption) ?_ ?_); (focus (first | omega | (simp; omega) | (simp; done)))))) (by simpa using hnl) (by simp)
              clear e1 e2 hmem hfull hr2 hcc'
              go_wp2_with fail
              refine (contains_any A0 _ c0 t.whr p _ rfl RW0.out (by unfold sizeThin at hs; omega)).mono ?_
              rw [HM.out]
              rintro e w' ⟨rfl, rfl⟩
              go_wp2
              go_region_held3 (fun w' => w'.cell? ⟨w2.heap.size, 0, none⟩ = some (.slice (some ⟨g, 0, none⟩) t.whr.length c) ∧ w'.cell? ⟨w2.heap.size, 1, none⟩ = some (.slice (some ⟨g', 0, none⟩) t.pool.length c') ∧ w'.cell? ⟨g, n, none⟩ = some (.int .i64 p)) (first | go_keep | (refine ⟨?_, ?_, ?_⟩ <;> (simp [go_sem, *]; done)) | exact ⟨F1, F2, F3⟩ | exact ⟨G1, G2, G3⟩) (fail)
              go_wp2
              rw [E1.out, E2.out]
              refine bodyPost_ret (v := .tuple #[.agg #[.slice (some ⟨g, 0, none⟩) t.whr.length c, .slice (some ⟨g', 0, none⟩) t.pool.length c'], .bool true]) (by simp [results, Try.results10, go_sem, *]) rfl ⟨_, _, rfl, ⟨_, _, rfl, ?_, ?_, ?_⟩, ?_⟩
              · exact SOwn.of_rown (g := g) (by repeat (first | with_reducible exact HS1.out | with_reducible refine Row.drew ?_ | with_reducible refine Row.drewN ?_ _ | with_reducible refine Row.alloc ?_ _ | (with_reducible refine Row.below ?_ (by assumption)) | ((with_reducible refine Row.other ?_ ?_ _); rotate_left; (focus (first | omega | (simp; omega) | (simp; done)))) | ((with_reducible refine Row.far' (by assumption) ?_ ?_); (focus (first | omega | (simp; omega) | (simp; done)))))) (by simp) (by omega)
              · exact SOwn.of_rown (g := g') (by repeat (first | with_reducible exact HS2.out | with_reducible refine Row.drew ?_ | with_reducible refine Row.drewN ?_ _ | with_reducible refine Row.alloc ?_ _ | (with_reducible refine Row.below ?_ (by assumption)) | ((with_reducible refine Row.other ?_ ?_ _); rotate_left; (focus (first | omega | (simp; omega) | (simp; done)))) | ((with_reducible refine Row.far' (by assumption) ?_ ?_); (focus (first | omega | (simp; omega) | (simp; done)))))) (by simp) (by omega)
              · exact Apart.of_rows H1.out H2.out hgg
              · exact (by repeat (first | with_reducible exact W2 | with_reducible exact Below.refl _ _ | with_reducible refine below_drewN ?_ _ | with_reducible refine Below.drew ?_ | with_reducible refine Below.alloc ?_ ?_ _ | with_reducible refine Below.setCell ?_ ?_ _ | (with_reducible refine Below.next ?_ (by assumption)) | ((with_reducible refine Below.far' (by assumption) ?_ ?_ ?_); (focus (first | omega | (simp; omega) | (simp; done))); (focus (first | omega | (simp; omega) | (simp; done)))) | omega | (focus (simp; omega)) | (focus (simp; done))))
      · obtain ⟨p, hp⟩ := Int.eq_ofNat_of_zero_le (Int.not_lt.1 hneg)
        have hpl2 : p < t.pool.length := by omega
        obtain ⟨e1, e2⟩ := thinWrite_to (p := p) HAR.out (by rw [placeB_pos hnl hneg, hp])
        have E1 := Lib.hid e1
        have E2 := Lib.hid e2
        have hself : t.whr.set n (p : Int) = t.whr := by rw [← hp]; exact List.set_getElem_self hnl
        have HSF := Lib.hid hself
        have hr2 := H2.out
        obtain ⟨rfl, hgl', hfz', hcc'⟩ := hr2.int (by omega)
        have hcp := hcc' p hpl2
        have HP := Lib.hid hp
        rw [hp] at hcn
        have HS2 := Lib.hid (H2.out.setInt (k := p) hpl2 v)
        have hnn : ¬ ((p : Int) < 0) := by omega
        clear e1 e2 hself hr2 hcc' hp hneg
        have F0 : Loc (((w2.setCell ⟨g', p, none⟩ (.int .i64 v)).alloc (.cells #[.slice (some ⟨g, 0, none⟩) t.whr.length c, .slice (some ⟨g', 0, none⟩) t.pool.length c'] 26)).drew) w2.heap.size [.slice (some ⟨g, 0, none⟩) t.whr.length c, .slice (some ⟨g', 0, none⟩) t.pool.length c'] := (by repeat (first | with_reducible assumption | with_reducible apply Loc.fill3 | with_reducible apply Loc.fill2 | ((with_reducible refine Loc.newAt' ?_ rfl); (focus (first | with_reducible rfl | omega | (simp; omega) | (simp; done)))) | with_reducible refine Loc.drew ?_ | with_reducible refine Loc.drewN ?_ _ | with_reducible refine Loc.alloc ?_ _ | (with_reducible refine Loc.below ?_ (by assumption)) | ((with_reducible refine Loc.other' ?_ ?_ _); (focus (first | omega | (simp; omega) | (simp; done)))) | ((with_reducible refine Loc.far' (by assumption) ?_ ?_); (focus (first | omega | (simp; omega) | (simp; done))))))
        obtain ⟨F1, F2, _⟩ := F0.two
        have F3 : (((w2.setCell ⟨g', p, none⟩ (.int .i64 v)).alloc (.cells #[.slice (some ⟨g, 0, none⟩) t.whr.length c, .slice (some ⟨g', 0, none⟩) t.pool.length c'] 26)).drew).cell? ⟨g, n, none⟩ = some (.int .i64 p) := Row.icell (w := World.drew _) (e := 3) (A := some ⟨g, 0, none⟩) (c := c) (by repeat (first | with_reducible exact H1.out | with_reducible refine Row.drew ?_ | with_reducible refine Row.drewN ?_ _ | with_reducible refine Row.alloc ?_ _ | (with_reducible refine Row.below ?_ (by assumption)) | ((with_reducible refine Row.other ?_ ?_ _); rotate_left; (focus (first | omega | (simp; omega) | (simp; done)))) | ((with_reducible refine Row.far' (by assumption) ?_ ?_); (focus (first | omega | (simp; omega) | (simp; done)))))) hnl HP.out
        go_wp2_with fail
        go_region_held3 (fun w' => w'.cell? ⟨w2.heap.size, 0, none⟩ = some (.slice (some ⟨g, 0, none⟩) t.whr.length c) ∧ w'.cell? ⟨w2.heap.size, 1, none⟩ = some (.slice (some ⟨g', 0, none⟩) t.pool.length c') ∧ w'.cell? ⟨g, n, none⟩ = some (.int .i64 p)) (first | go_keep | (refine ⟨?_, ?_, ?_⟩ <;> (simp [go_sem, *]; done)) | exact ⟨F1, F2, F3⟩) (fail)
        go_wp2
        rw [E1.out, E2.out, HSF.out]
        refine bodyPost_ret (v := .tuple #[.agg #[.slice (some ⟨g, 0, none⟩) t.whr.length c, .slice (some ⟨g', 0, none⟩) t.pool.length c'], .bool true]) (by simp [results, Try.results10, go_sem, *]) rfl ⟨_, _, rfl, ⟨_, _, rfl, ?_, ?_, ?_⟩, ?_⟩
        · exact SOwn.of_row (g := g) (by repeat (first | with_reducible exact H1.out | with_reducible refine Row.drew ?_ | with_reducible refine Row.drewN ?_ _ | with_reducible refine Row.alloc ?_ _ | (with_reducible refine Row.below ?_ (by assumption)) | ((with_reducible refine Row.other ?_ ?_ _); rotate_left; (focus (first | omega | (simp; omega) | (simp; done)))) | ((with_reducible refine Row.far' (by assumption) ?_ ?_); (focus (first | omega | (simp; omega) | (simp; done)))))) (by omega)
        · exact SOwn.of_rown (g := g') (by repeat (first | with_reducible exact HS2.out | with_reducible refine Row.drew ?_ | with_reducible refine Row.drewN ?_ _ | with_reducible refine Row.alloc ?_ _ | (with_reducible refine Row.below ?_ (by assumption)) | ((with_reducible refine Row.other ?_ ?_ _); rotate_left; (focus (first | omega | (simp; omega) | (simp; done)))) | ((with_reducible refine Row.far' (by assumption) ?_ ?_); (focus (first | omega | (simp; omega) | (simp; done)))))) (by simp) (by omega)
        · exact Apart.of_rows H1.out H2.out hgg
        · exact (by repeat (first | with_reducible exact W2 | with_reducible exact Below.refl _ _ | with_reducible refine below_drewN ?_ _ | with_reducible refine Below.drew ?_ | with_reducible refine Below.alloc ?_ ?_ _ | with_reducible refine Below.setCell ?_ ?_ _ | (with_reducible refine Below.next ?_ (by assumption)) | ((with_reducible refine Below.far' (by assumption) ?_ ?_ ?_); (focus (first | omega | (simp; omega) | (simp; done))); (focus (first | omega | (simp; omega) | (simp; done)))) | omega | (focus (simp; omega)) | (focus (simp; done))))
end Go.Proofs.Ytkejdgegkbfofaa
