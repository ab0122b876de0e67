/-
  Thin volumes: ThinWrite of the reference. Conditions: lengths at most 2^40.
-/
import Derived.Test.YtkejdgegkbfofaaBase
import Derived.Test.YtkejdgegkbfofaaNum
import Derived.Test.YtkejdgegkbfofaaInts
import Derived.Test.YtkejdgegkbfofaaApp
import Derived.Test.YtkejdgegkbfofaaIntsW
import Derived.Test.YtkejdgegkbfofaaLib
import Derived.Test.YtkejdgegkbfofaaSpares
import Derived.Test.YtkejdgegkbfofaaOwn
import Derived.Test.YtkejdgegkbfofaaThin
import Derived.Test.YtkejdgegkbfofaaThinM
import Derived.Test.YtkejdgegkbfofaaThinC
import Derived.Test.YtkejdgegkbfofaaThinW
import Derived.Test.YtkejdgegkbfofaaThinF
import Derived.Test.YtkejdgegkbfofaaThinX
namespace Go.Proofs.Ytkejdgegkbfofaa
open Go.RowKit
set_option maxHeartbeats 4000000 in
theorem specThinWrite_c (x0 x1 : Value) (t : Th) (a v : Int) (w : World) (h : ThinRd w [x0, x1] t) (hs : sizeThin t ≤ 1099511627776) :
    Calls Try.prog 8 #[.agg #[x0, x1], .int .i64 a, .int .i64 v] w (MadeThinB (thinWriteB t a v) (thinWriteOk t a v) w) := by
  obtain ⟨A0, c0, A0', c0', rfl, rfl⟩ := thinRd_lens h
  have L0 := Loc.new w [.slice A0 t.whr.length c0, .slice A0' t.pool.length c0'] 26
  have L1 := Loc.newAt (w.alloc (.cells #[.slice A0 t.whr.length c0, .slice A0' t.pool.length c0'] 26)) [.slice none 0 0, .slice none 0 0] 26 (b := w.heap.size + 1) (by simp)
  have HR := Lib.hid h
  have hsw : t.whr.length ≤ 1099511627776 := by unfold sizeThin at hs; omega
  cases ht : thinB t
  · have HT := Lib.hid ht
    have hno : thinArgs t a v = false := by simp only [thinArgs, ht]; simp
    obtain ⟨e1, e2⟩ := thinWrite_no hno
    rw [e1, e2]
    clear hno e1 e2
    go_enter Try.func8, Try.ntmps8
    go_wp2_with fail
    refine (specThin_c _ _ t _ (ThinRd.below HR.out (by repeat (first | with_reducible exact Below.refl _ _ | with_reducible refine below_drewN ?_ _ | with_reducible refine Below.drew ?_ | with_reducible refine Below.alloc ?_ ?_ _ | with_reducible refine Below.setCell ?_ ?_ _ | omega | (focus (simp; omega)) | (focus (simp; done))))) hs).mono ?_
    rw [HT.out]
    rintro e w1 ⟨rfl, hb1⟩
    have M0 := Loc.carryB L0 (fun h => by ((repeat (first | with_reducible exact h | with_reducible refine Loc.drew ?_ | with_reducible refine Loc.drewN ?_ _ | with_reducible refine Loc.alloc ?_ _)); done)) hb1
    have M1 := Loc.carryB L1 (fun h => by ((repeat (first | with_reducible exact h | with_reducible refine Loc.drew ?_ | with_reducible refine Loc.drewN ?_ _ | with_reducible refine Loc.alloc ?_ _)); done)) hb1
    obtain ⟨k0, k1, kf⟩ := M0.two
    obtain ⟨m0, m1, mf⟩ := M1.two
    go_wp2_with (go_at_call 29; refine (l1In_any _ _ _ _).mono ?_; rintro e w' ⟨rfl, rfl⟩)
    refine bodyPost_ret (v := .tuple #[.agg #[.slice none 0 0, .slice none 0 0], .bool false]) (by simp [results, Try.results8, go_sem, *]) rfl (madeThin_nil _ _ (by repeat (first | with_reducible exact Below.refl _ _ | with_reducible assumption | with_reducible refine below_drewN ?_ _ | with_reducible refine Below.drew ?_ | with_reducible refine Below.alloc ?_ ?_ _ | with_reducible refine Below.setCell ?_ ?_ _ | (with_reducible refine Below.next ?_ (by assumption)) | omega | (focus (simp; omega)) | (focus (simp; done)))))
  · cases hat : inB a 0 (t.whr.length - 1)
    · have HT := Lib.hid ht
      have hno : thinArgs t a v = false := by simp only [thinArgs, hat]; simp
      obtain ⟨e1, e2⟩ := thinWrite_no hno
      rw [e1, e2]
      clear hno e1 e2
      go_enter Try.func8, Try.ntmps8
      go_wp2_with fail
      refine (specThin_c _ _ t _ (ThinRd.below HR.out (by repeat (first | with_reducible exact Below.refl _ _ | with_reducible refine below_drewN ?_ _ | with_reducible refine Below.drew ?_ | with_reducible refine Below.alloc ?_ ?_ _ | with_reducible refine Below.setCell ?_ ?_ _ | omega | (focus (simp; omega)) | (focus (simp; done))))) hs).mono ?_
      rw [HT.out]
      rintro e w1 ⟨rfl, hb1⟩
      have M0 := Loc.carryB L0 (fun h => by ((repeat (first | with_reducible exact h | with_reducible refine Loc.drew ?_ | with_reducible refine Loc.drewN ?_ _ | with_reducible refine Loc.alloc ?_ _)); done)) hb1
      have M1 := Loc.carryB L1 (fun h => by ((repeat (first | with_reducible exact h | with_reducible refine Loc.drew ?_ | with_reducible refine Loc.drewN ?_ _ | with_reducible refine Loc.alloc ?_ _)); done)) hb1
      obtain ⟨k0, k1, kf⟩ := M0.two
      obtain ⟨m0, m1, mf⟩ := M1.two
      go_wp2_with (go_at_call 29; refine (l1In_any _ _ _ _).mono ?_; rintro e w' ⟨rfl, rfl⟩)
      refine bodyPost_ret (v := .tuple #[.agg #[.slice none 0 0, .slice none 0 0], .bool false]) (by simp [results, Try.results8, go_sem, *]) rfl (madeThin_nil _ _ (by repeat (first | with_reducible exact Below.refl _ _ | with_reducible assumption | with_reducible refine below_drewN ?_ _ | with_reducible refine Below.drew ?_ | with_reducible refine Below.alloc ?_ ?_ _ | with_reducible refine Below.setCell ?_ ?_ _ | (with_reducible refine Below.next ?_ (by assumption)) | omega | (focus (simp; omega)) | (focus (simp; done)))))
    · cases hv : inB v 0 255
      · have HT := Lib.hid ht
        have hno : thinArgs t a v = false := by simp only [thinArgs, hv]; simp
        obtain ⟨e1, e2⟩ := thinWrite_no hno
        rw [e1, e2]
        clear hno e1 e2
        go_enter Try.func8, Try.ntmps8
        go_wp2_with fail
        refine (specThin_c _ _ t _ (ThinRd.below HR.out (by repeat (first | with_reducible exact Below.refl _ _ | with_reducible refine below_drewN ?_ _ | with_reducible refine Below.drew ?_ | with_reducible refine Below.alloc ?_ ?_ _ | with_reducible refine Below.setCell ?_ ?_ _ | omega | (focus (simp; omega)) | (focus (simp; done))))) hs).mono ?_
        rw [HT.out]
        rintro e w1 ⟨rfl, hb1⟩
        have M0 := Loc.carryB L0 (fun h => by ((repeat (first | with_reducible exact h | with_reducible refine Loc.drew ?_ | with_reducible refine Loc.drewN ?_ _ | with_reducible refine Loc.alloc ?_ _)); done)) hb1
        have M1 := Loc.carryB L1 (fun h => by ((repeat (first | with_reducible exact h | with_reducible refine Loc.drew ?_ | with_reducible refine Loc.drewN ?_ _ | with_reducible refine Loc.alloc ?_ _)); done)) hb1
        obtain ⟨k0, k1, kf⟩ := M0.two
        obtain ⟨m0, m1, mf⟩ := M1.two
        go_wp2_with (go_at_call 29; refine (l1In_any _ _ _ _).mono ?_; rintro e w' ⟨rfl, rfl⟩)
        refine bodyPost_ret (v := .tuple #[.agg #[.slice none 0 0, .slice none 0 0], .bool false]) (by simp [results, Try.results8, go_sem, *]) rfl (madeThin_nil _ _ (by repeat (first | with_reducible exact Below.refl _ _ | with_reducible assumption | with_reducible refine below_drewN ?_ _ | with_reducible refine Below.drew ?_ | with_reducible refine Below.alloc ?_ ?_ _ | with_reducible refine Below.setCell ?_ ?_ _ | (with_reducible refine Below.next ?_ (by assumption)) | omega | (focus (simp; omega)) | (focus (simp; done)))))
      · have HT := Lib.hid ht
        have HAR : Hid (thinArgs t a v = true) := by show thinArgs t a v = true; simp only [thinArgs, ht, hat, hv]; rfl
        obtain ⟨hq1, hq2, hq3, _⟩ := thinB_true ht
        obtain ⟨a0, a1⟩ := inB_true.1 hat
        obtain ⟨n, rfl⟩ := Int.eq_ofNat_of_zero_le a0
        have hnl : n < t.whr.length := by omega
        have hrange := allIn_get hq3 hnl
        obtain ⟨hr0, hr1⟩ := hrange
        have hpl : t.pool.length ≤ 64 := hq2.1
        have HAL := Lib.hid hq3
        obtain ⟨v0, v1⟩ := inB_true.1 hv
        clear ht hq2 hq3
        go_enter Try.func8, Try.ntmps8
        go_wp2_with fail
        refine (specThin_c _ _ t _ (ThinRd.below HR.out (by repeat (first | with_reducible exact Below.refl _ _ | with_reducible refine below_drewN ?_ _ | with_reducible refine Below.drew ?_ | with_reducible refine Below.alloc ?_ ?_ _ | with_reducible refine Below.setCell ?_ ?_ _ | omega | (focus (simp; omega)) | (focus (simp; done))))) hs).mono ?_
        rw [HT.out]
        rintro e w1 ⟨rfl, hb1⟩
        have M0 := Loc.carryB L0 (fun h => by ((repeat (first | with_reducible exact h | with_reducible refine Loc.drew ?_ | with_reducible refine Loc.drewN ?_ _ | with_reducible refine Loc.alloc ?_ _)); done)) hb1
        have M1 := Loc.carryB L1 (fun h => by ((repeat (first | with_reducible exact h | with_reducible refine Loc.drew ?_ | with_reducible refine Loc.drewN ?_ _ | with_reducible refine Loc.alloc ?_ _)); done)) hb1
        obtain ⟨m0, m1, mf⟩ := M0.two
        have W1 : Below w.heap.size w w1 := Below.next (by repeat (first | with_reducible exact Below.refl _ _ | with_reducible refine below_drewN ?_ _ | with_reducible refine Below.drew ?_ | with_reducible refine Below.alloc ?_ ?_ _ | with_reducible refine Below.setCell ?_ ?_ _ | omega | (focus (simp; omega)) | (focus (simp; done)))) hb1
        have hz1 := M1.lt
        go_wp2_with (go_at_call 29; refine (l1In_any _ _ _ _).mono ?_; rintro e w' ⟨rfl, rfl⟩)
        refine (copyThin_c _ _ t _ (ThinRd.below HR.out W1) hs).mono ?_
        rintro e w2 ⟨y0, y1, rfl, ⟨u1, u2, he, o1, o2, hap⟩, hb2⟩
        simp only [List.cons.injEq, and_true] at he
        obtain ⟨rfl, rfl⟩ := he
        have hz2 := hb2.size
        obtain ⟨A, c, g, A', c', g', rfl, rfl, row, row', hg1, hg2, hgX, hgX', hgg, _, _⟩ := two_rows o1 o2 hap w2.heap.size (Nat.le_refl _) (by omega)
        clear o1 o2 hap
        have N0 := Loc.carryB M0 (fun h => by ((repeat (first | with_reducible exact h | with_reducible refine Loc.drew ?_ | with_reducible refine Loc.drewN ?_ _ | with_reducible refine Loc.alloc ?_ _)); done)) hb2
        have N1 := Loc.carryB M1 (fun h => by ((repeat (first | with_reducible exact h | with_reducible refine Loc.drew ?_ | with_reducible refine Loc.drewN ?_ _ | with_reducible refine Loc.alloc ?_ _)); done)) hb2
        have W2 : Below w.heap.size w w2 := Below.next W1 hb2
        clear m0 m1 mf hb1 hb2 L0 L1 M0 M1
        obtain ⟨m0, m1, mf⟩ := N0.two
        obtain ⟨q0, q1, qf⟩ := N1.two
        have hz3 := N1.lt
        obtain ⟨rfl, hgl, hfz, hcc⟩ := row.int (by omega)
        have hcn := hcc n hnl
        have H1 := Lib.hid row
        have H2 := Lib.hid row'
        clear row row' hcc
        by_cases hneg : (t.whr[n]'hnl) < 0
        · have HB : Hid (placeB t n = freeB t) := Lib.hid (placeB_neg hnl hneg)
          have HA0 : Hid (Rd eInt w A0 t.whr) := Lib.hid (by
            obtain ⟨u, v, he, ⟨A, c, hv, hr, _⟩, _⟩ := HR.out
            simp only [List.cons.injEq, and_true] at he
            rw [← he.1] at hv
            cases hv
            exact hr)
          have HNB := Lib.hid (not_beyond HAL.out)
          have LX := Loc.newAt w2 [.slice (some ⟨g, 0, none⟩) t.whr.length c, .slice A' t.pool.length c'] 26 (b := w2.heap.size) rfl
          have hm1 : t.whr[n] = -1 := by omega
          have HM1 := Lib.hid hm1
          have HF0 : Hid (ThinRd w [.slice A0 t.whr.length c0, .slice A0' t.pool.length c0'] t) := HR
          obtain ⟨f, hf⟩ : ∃ f, f = freeB t := ⟨_, rfl⟩
          have HFE := Lib.hid hf
          have HS1 := Lib.hid (H1.out.setInt (k := n) hnl f)
          clear hm1 hf
          go_wp2_with fail
          go_region_held3 (fun w' => w'.cell? ⟨w2.heap.size, 0, none⟩ = some (.slice (some ⟨g, 0, none⟩) t.whr.length c) ∧ w'.cell? ⟨w2.heap.size, 1, none⟩ = some (.slice A' t.pool.length c') ∧ w'.cell? ⟨w.heap.size, 0, none⟩ = some (.slice A0 t.whr.length c0) ∧ w'.cell? ⟨w.heap.size, 1, none⟩ = some (.slice A0' t.pool.length c0')) (first | (refine ⟨?_, ?_, ?_, ?_⟩ <;> assumption) | go_keep | (refine ⟨?_, ?_, ?_, ?_⟩ <;> (simp [go_sem, *]; done)))
            ((go_at_call 31; (with_reducible refine (l19Free_c (.slice A0 t.whr.length c0) (.slice A0' t.pool.length c0') t _ (ThinRd.below HR.out (Below.drew (Below.alloc W2 (by omega) _))) hs).mono ?_); rw [← HFE.out]; rintro e w3 ⟨rfl, hb3⟩; have X3 := Loc.carryB LX (fun h => by ((repeat (first | with_reducible exact h | with_reducible refine Loc.drew ?_ | with_reducible refine Loc.drewN ?_ _ | with_reducible refine Loc.alloc ?_ _)); done)) hb3; have P0 := Loc.carryB N0 (fun h => by ((repeat (first | with_reducible exact h | with_reducible refine Loc.drew ?_ | with_reducible refine Loc.drewN ?_ _ | with_reducible refine Loc.alloc ?_ _)); done)) hb3; have P1 := Loc.carryB N1 (fun h => by ((repeat (first | with_reducible exact h | with_reducible refine Loc.drew ?_ | with_reducible refine Loc.drewN ?_ _ | with_reducible refine Loc.alloc ?_ _)); done)) hb3; obtain ⟨p0, p1, pf⟩ := P0.two; obtain ⟨r0, r1, rf⟩ := P1.two; obtain ⟨s0, s1, sf⟩ := X3.two; have z3 := X3.lt; have W3 : Below w.heap.size w w3 := Below.next (W := w) (by repeat (first | with_reducible exact W2 | with_reducible exact Below.refl _ _ | with_reducible refine below_drewN ?_ _ | with_reducible refine Below.drew ?_ | with_reducible refine Below.alloc ?_ ?_ _ | with_reducible refine Below.setCell ?_ ?_ _ | (with_reducible refine Below.next ?_ (by assumption)) | ((with_reducible refine Below.far' (by assumption) ?_ ?_ ?_); (focus (first | omega | (simp; omega) | (simp; done))); (focus (first | omega | (simp; omega) | (simp; done)))) | omega | (focus (simp; omega)) | (focus (simp; done)))) hb3; have R3 : Row eInt w3 g 3 (some ⟨g, 0, none⟩) c t.whr := Row.below (Row.drew (Row.alloc H1.out _)) hb3; have R3' : Row eInt w3 g' 3 A' c' t.pool := Row.below (Row.drew (Row.alloc H2.out _)) hb3; obtain ⟨_, hgl3, hfz3, hcc3⟩ := R3.int (by omega); have hcn3 := hcc3 n hnl; have K3 := Lib.hid R3; have K3' := Lib.hid R3'; clear R3 R3' hcc3; have S3 := Loc.other' (p := ⟨g, n, none⟩) (Ne.symm hgX) X3 (.int .i64 f); have S0 := Loc.other' (p := ⟨g, n, none⟩) (show w.heap.size ≠ g by omega) P0 (.int .i64 f); have S1 := Loc.other' (p := ⟨g, n, none⟩) (show w.heap.size + 1 ≠ g by omega) P1 (.int .i64 f); obtain ⟨t0, t1, tf⟩ := S3.two; obtain ⟨u0, u1, uf⟩ := S0.two; obtain ⟨v0', v1', vf⟩ := S1.two; have z3g := hb3.size; (try simp at z3g)))
          have HSI := Lib.hid (K3.out.setInt (k := n) hnl f)
          have HSP := Lib.hid (K3'.out.other (p := ⟨g, n, none⟩) (Ne.symm hgg) (.int .i64 f))
          have hgn : (w3.setCell ⟨g, n, none⟩ (.int .i64 f)).cell? ⟨g, n, none⟩ = some (.int .i64 f) := Row.icell (e := 3) (A := some ⟨g, 0, none⟩) (c := c) (l := t.whr.set n f) HSI.out (by simpa using hnl) (by simp)
          have WW : Below w.heap.size w (w3.setCell ⟨g, n, none⟩ (.int .i64 f)) := Below.setCell W3 (by show w.heap.size ≤ g; omega) _
          have hfz4 : ∀ o, (w3.setCell ⟨g, n, none⟩ (.int .i64 f)).frozen? ⟨g, o, none⟩ = false := HSI.out.unfrozen (by simp; omega)
          obtain ⟨W, hWe⟩ : ∃ W, W = w3.setCell ⟨g, n, none⟩ (.int .i64 f) := ⟨_, rfl⟩
          have hsz : W.heap.size = w3.heap.size := by rw [hWe]; simp
          have hszl : w3.heap.size ≤ W.heap.size := by omega
          rw [← hWe] at HSI HSP hgn WW hfz4 S3 S0 S1 t0 t1 tf u0 u1 uf v0' v1' vf ⊢
          clear hWe hsz p0 p1 pf r0 r1 rf s0 s1 sf X3 P0 P1 hb3 hgl3 hfz3 hcn3 hcn hfz hgl m0 m1 mf q0 q1 qf
          rcases freeB_spec t with ⟨hfn, _⟩ | ⟨p, hfp, hpl2, _, _⟩
          · obtain ⟨e1, e2⟩ := thinWrite_full HAR.out (by rw [HB.out, hfn]; omega)
            have E1 := Lib.hid e1
            have E2 := Lib.hid e2
            have hfe : f = -1 := by rw [HFE.out, hfn]
            subst hfe
            have hset : t.whr.set n (-1) = t.whr := by rw [← HM1.out]; exact List.set_getElem_self hnl
            have HSET := Lib.hid hset
            clear e1 e2 hset hfn
            go_wp2_with fail
            rw [E1.out, E2.out]
            refine bodyPost_ret (v := .tuple #[.agg #[.slice (some ⟨g, 0, none⟩) t.whr.length c, .slice A' t.pool.length c'], .bool false]) (by simp [results, Try.results8, go_sem, *]) rfl ⟨_, _, rfl, ⟨_, _, rfl, ?_, ?_, ?_⟩, ?_⟩
            · have hh := HSI.out
              rw [HSET.out] at hh
              exact SOwn.of_row (g := g) (by repeat (first | with_reducible exact hh | with_reducible refine Row.drew ?_ | with_reducible refine Row.drewN ?_ _ | with_reducible refine Row.alloc ?_ _ | (with_reducible refine Row.below ?_ (by assumption)) | ((with_reducible refine Row.other ?_ ?_ _); rotate_left; (focus (first | omega | (simp; omega) | (simp; done)))) | ((with_reducible refine Row.far' (by assumption) ?_ ?_); (focus (first | omega | (simp; omega) | (simp; done)))))) (by omega)
            · exact SOwn.of_row (g := g') (by repeat (first | with_reducible exact HSP.out | with_reducible refine Row.drew ?_ | with_reducible refine Row.drewN ?_ _ | with_reducible refine Row.alloc ?_ _ | (with_reducible refine Row.below ?_ (by assumption)) | ((with_reducible refine Row.other ?_ ?_ _); rotate_left; (focus (first | omega | (simp; omega) | (simp; done)))) | ((with_reducible refine Row.far' (by assumption) ?_ ?_); (focus (first | omega | (simp; omega) | (simp; done)))))) (by omega)
            · exact Apart.of_rows HSI.out HSP.out hgg
            · exact (by repeat (first | with_reducible exact WW | with_reducible exact Below.refl _ _ | with_reducible refine below_drewN ?_ _ | with_reducible refine Below.drew ?_ | with_reducible refine Below.alloc ?_ ?_ _ | with_reducible refine Below.setCell ?_ ?_ _ | (with_reducible refine Below.next ?_ (by assumption)) | ((with_reducible refine Below.far' (by assumption) ?_ ?_ ?_); (focus (first | omega | (simp; omega) | (simp; done))); (focus (first | omega | (simp; omega) | (simp; done)))) | omega | (focus (simp; omega)) | (focus (simp; done))))
          · obtain ⟨e1, e2⟩ := thinWrite_to (p := p) HAR.out (by rw [HB.out, hfp])
            have E1 := Lib.hid e1
            have E2 := Lib.hid e2
            have hfe : f = (p : Int) := by rw [HFE.out, hfp]
            subst hfe
            have hr2 := HSP.out
            obtain ⟨rfl, hgl', hfz', hcc'⟩ := hr2.int (by omega)
            have hcp := hcc' p hpl2
            have HS2 := Lib.hid (HSP.out.setInt (k := p) hpl2 v)
            have hnn : ¬ ((p : Int) < 0) := by omega
            have F0 : Loc ((W.drew).setCell ⟨g', p, none⟩ (.int .i64 v)) w2.heap.size [.slice (some ⟨g, 0, none⟩) t.whr.length c, .slice (some ⟨g', 0, none⟩) t.pool.length c'] := Loc.other' (Ne.symm hgX') (Loc.drew S3) _
            obtain ⟨F1, F2, _⟩ := F0.two
            have F3 : ((W.drew).setCell ⟨g', p, none⟩ (.int .i64 v)).cell? ⟨g, n, none⟩ = some (.int .i64 p) := Row.icell (e := 3) (A := some ⟨g, 0, none⟩) (c := c) (l := t.whr.set n (p : Int)) (Row.other (Row.drew HSI.out) hgg _) (by simpa using hnl) (by simp)
            clear e1 e2 hr2 hcc' hfp
            go_wp2_with fail
            go_region_held3 (fun w' => w'.cell? ⟨w2.heap.size, 0, none⟩ = some (.slice (some ⟨g, 0, none⟩) t.whr.length c) ∧ w'.cell? ⟨w2.heap.size, 1, none⟩ = some (.slice (some ⟨g', 0, none⟩) t.pool.length c') ∧ w'.cell? ⟨g, n, none⟩ = some (.int .i64 p)) (first | (refine ⟨?_, ?_, ?_⟩ <;> assumption) | go_keep | (refine ⟨?_, ?_, ?_⟩ <;> (simp [go_sem, *]; done))) (fail)
            go_wp2
            rw [E1.out, E2.out]
            refine bodyPost_ret (v := .tuple #[.agg #[.slice (some ⟨g, 0, none⟩) t.whr.length c, .slice (some ⟨g', 0, none⟩) t.pool.length c'], .bool true]) (by simp [results, Try.results8, go_sem, *]) rfl ⟨_, _, rfl, ⟨_, _, rfl, ?_, ?_, ?_⟩, ?_⟩
            · exact SOwn.of_rown (g := g) (by repeat (first | with_reducible exact HSI.out | with_reducible refine Row.drew ?_ | with_reducible refine Row.drewN ?_ _ | with_reducible refine Row.alloc ?_ _ | (with_reducible refine Row.below ?_ (by assumption)) | ((with_reducible refine Row.other ?_ ?_ _); rotate_left; (focus (first | omega | (simp; omega) | (simp; done)))) | ((with_reducible refine Row.far' (by assumption) ?_ ?_); (focus (first | omega | (simp; omega) | (simp; done)))))) (by simp) (by omega)
            · exact SOwn.of_rown (g := g') (by repeat (first | with_reducible exact HS2.out | with_reducible refine Row.drew ?_ | with_reducible refine Row.drewN ?_ _ | with_reducible refine Row.alloc ?_ _ | (with_reducible refine Row.below ?_ (by assumption)) | ((with_reducible refine Row.other ?_ ?_ _); rotate_left; (focus (first | omega | (simp; omega) | (simp; done)))) | ((with_reducible refine Row.far' (by assumption) ?_ ?_); (focus (first | omega | (simp; omega) | (simp; done)))))) (by simp) (by omega)
            · exact Apart.of_rows HSI.out HSP.out hgg
            · exact (by repeat (first | with_reducible exact WW | with_reducible exact Below.refl _ _ | with_reducible refine below_drewN ?_ _ | with_reducible refine Below.drew ?_ | with_reducible refine Below.alloc ?_ ?_ _ | with_reducible refine Below.setCell ?_ ?_ _ | (with_reducible refine Below.next ?_ (by assumption)) | ((with_reducible refine Below.far' (by assumption) ?_ ?_ ?_); (focus (first | omega | (simp; omega) | (simp; done))); (focus (first | omega | (simp; omega) | (simp; done)))) | omega | (focus (simp; omega)) | (focus (simp; done))))
        · obtain ⟨p, hp⟩ := Int.eq_ofNat_of_zero_le (Int.not_lt.1 hneg)
          have hpl2 : p < t.pool.length := by omega
          obtain ⟨e1, e2⟩ := thinWrite_to (p := p) HAR.out (by rw [placeB_pos hnl hneg, hp])
          have E1 := Lib.hid e1
          have E2 := Lib.hid e2
          have hself : t.whr.set n (p : Int) = t.whr := by rw [← hp]; exact List.set_getElem_self hnl
          have HSF := Lib.hid hself
          have hr2 := H2.out
          obtain ⟨rfl, hgl', hfz', hcc'⟩ := hr2.int (by omega)
          have hcp := hcc' p hpl2
          have HP := Lib.hid hp
          rw [hp] at hcn
          have HS2 := Lib.hid (H2.out.setInt (k := p) hpl2 v)
          have hnn : ¬ ((p : Int) < 0) := by omega
          clear e1 e2 hself hr2 hcc' hp hneg
          have F0 : Loc (((w2.setCell ⟨g', p, none⟩ (.int .i64 v)).alloc (.cells #[.slice (some ⟨g, 0, none⟩) t.whr.length c, .slice (some ⟨g', 0, none⟩) t.pool.length c'] 26)).drew) w2.heap.size [.slice (some ⟨g, 0, none⟩) t.whr.length c, .slice (some ⟨g', 0, none⟩) t.pool.length c'] := (by repeat (first | with_reducible assumption | with_reducible apply Loc.fill3 | with_reducible apply Loc.fill2 | ((with_reducible refine Loc.newAt' ?_ rfl); (focus (first | with_reducible rfl | omega | (simp; omega) | (simp; done)))) | with_reducible refine Loc.drew ?_ | with_reducible refine Loc.drewN ?_ _ | with_reducible refine Loc.alloc ?_ _ | (with_reducible refine Loc.below ?_ (by assumption)) | ((with_reducible refine Loc.other' ?_ ?_ _); (focus (first | omega | (simp; omega) | (simp; done)))) | ((with_reducible refine Loc.far' (by assumption) ?_ ?_); (focus (first | omega | (simp; omega) | (simp; done))))))
          obtain ⟨F1, F2, _⟩ := F0.two
          have F3 : (((w2.setCell ⟨g', p, none⟩ (.int .i64 v)).alloc (.cells #[.slice (some ⟨g, 0, none⟩) t.whr.length c, .slice (some ⟨g', 0, none⟩) t.pool.length c'] 26)).drew).cell? ⟨g, n, none⟩ = some (.int .i64 p) := Row.icell (w := World.drew _) (e := 3) (A := some ⟨g, 0, none⟩) (c := c) (by repeat (first | with_reducible exact H1.out | with_reducible refine Row.drew ?_ | with_reducible refine Row.drewN ?_ _ | with_reducible refine Row.alloc ?_ _ | (with_reducible refine Row.below ?_ (by assumption)) | ((with_reducible refine Row.other ?_ ?_ _); rotate_left; (focus (first | omega | (simp; omega) | (simp; done)))) | ((with_reducible refine Row.far' (by assumption) ?_ ?_); (focus (first | omega | (simp; omega) | (simp; done)))))) hnl HP.out
          go_wp2_with fail
          go_region_held3 (fun w' => w'.cell? ⟨w2.heap.size, 0, none⟩ = some (.slice (some ⟨g, 0, none⟩) t.whr.length c) ∧ w'.cell? ⟨w2.heap.size, 1, none⟩ = some (.slice (some ⟨g', 0, none⟩) t.pool.length c') ∧ w'.cell? ⟨g, n, none⟩ = some (.int .i64 p)) (first | go_keep | (refine ⟨?_, ?_, ?_⟩ <;> (simp [go_sem, *]; done)) | exact ⟨F1, F2, F3⟩) (fail)
          go_wp2
          rw [E1.out, E2.out, HSF.out]
          refine bodyPost_ret (v := .tuple #[.agg #[.slice (some ⟨g, 0, none⟩) t.whr.length c, .slice (some ⟨g', 0, none⟩) t.pool.length c'], .bool true]) (by simp [results, Try.results8, go_sem, *]) rfl ⟨_, _, rfl, ⟨_, _, rfl, ?_, ?_, ?_⟩, ?_⟩
          · exact SOwn.of_row (g := g) (by repeat (first | with_reducible exact H1.out | with_reducible refine Row.drew ?_ | with_reducible refine Row.drewN ?_ _ | with_reducible refine Row.alloc ?_ _ | (with_reducible refine Row.below ?_ (by assumption)) | ((with_reducible refine Row.other ?_ ?_ _); rotate_left; (focus (first | omega | (simp; omega) | (simp; done)))) | ((with_reducible refine Row.far' (by assumption) ?_ ?_); (focus (first | omega | (simp; omega) | (simp; done)))))) (by omega)
          · exact SOwn.of_rown (g := g') (by repeat (first | with_reducible exact HS2.out | with_reducible refine Row.drew ?_ | with_reducible refine Row.drewN ?_ _ | with_reducible refine Row.alloc ?_ _ | (with_reducible refine Row.below ?_ (by assumption)) | ((with_reducible refine Row.other ?_ ?_ _); rotate_left; (focus (first | omega | (simp; omega) | (simp; done)))) | ((with_reducible refine Row.far' (by assumption) ?_ ?_); (focus (first | omega | (simp; omega) | (simp; done)))))) (by simp) (by omega)
          · exact Apart.of_rows H1.out H2.out hgg
          · exact (by repeat (first | with_reducible exact W2 | with_reducible exact Below.refl _ _ | with_reducible refine below_drewN ?_ _ | with_reducible refine Below.drew ?_ | with_reducible refine Below.alloc ?_ ?_ _ | with_reducible refine Below.setCell ?_ ?_ _ | (with_reducible refine Below.next ?_ (by assumption)) | ((with_reducible refine Below.far' (by assumption) ?_ ?_ ?_); (focus (first | omega | (simp; omega) | (simp; done))); (focus (first | omega | (simp; omega) | (simp; done)))) | omega | (focus (simp; omega)) | (focus (simp; done))))
end Go.Proofs.Ytkejdgegkbfofaa
