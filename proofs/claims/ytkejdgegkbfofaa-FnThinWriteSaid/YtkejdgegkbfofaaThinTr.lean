/-
  Thin volumes: trimming, free places, new volumes. Conditions: lengths at most 2^40.
-/
import Derived.Test.YtkejdgegkbfofaaBase
import Derived.Test.YtkejdgegkbfofaaNum
import Derived.Test.YtkejdgegkbfofaaInts
import Derived.Test.YtkejdgegkbfofaaApp
import Derived.Test.YtkejdgegkbfofaaIntsW
import Derived.Test.YtkejdgegkbfofaaLib
import Derived.Test.YtkejdgegkbfofaaSpares
import Derived.Test.YtkejdgegkbfofaaOwn
import Derived.Test.YtkejdgegkbfofaaThin
import Derived.Test.YtkejdgegkbfofaaThinM
import Derived.Test.YtkejdgegkbfofaaThinC
import Derived.Test.YtkejdgegkbfofaaThinW
import Derived.Test.YtkejdgegkbfofaaThinF
import Derived.Test.YtkejdgegkbfofaaThinX
import Derived.Test.YtkejdgegkbfofaaThinP
import Derived.Test.YtkejdgegkbfofaaThinV
namespace Go.Proofs.Ytkejdgegkbfofaa
open Go.RowKit
theorem madeThin_nil0 (w w' : World) (hb : Below w.heap.size w w') : MadeThin ⟨[], []⟩ w (.returned (.agg #[.slice none 0 0, .slice none 0 0])) w' := ⟨_, _, rfl, ⟨_, _, rfl, SOwn.nil0 _ _ _, SOwn.nil0 _ _ _, fun _ _ _ _ _ _ h => by cases h⟩, hb⟩
set_option maxHeartbeats 4000000 in
theorem implTrim_c (x0 x1 : Value) (t : Th) (a : Int) (w : World) (h : ThinRd w [x0, x1] t) (hs : sizeThin t ≤ 1099511627776) :
    Calls Try.prog 21 #[.agg #[x0, x1], .int .i64 a] w (MadeThin (trimT t a) w) := by
  obtain ⟨A0, c0, A0', c0', rfl, rfl⟩ := thinRd_lens h
  have L0 := Loc.new w [.slice A0 t.whr.length c0, .slice A0' t.pool.length c0'] 26
  have L1 := Loc.newAt (w.alloc (.cells #[.slice A0 t.whr.length c0, .slice A0' t.pool.length c0'] 26)) [.slice none 0 0, .slice none 0 0] 26 (b := w.heap.size + 1) (by simp)
  have HR := Lib.hid h
  cases ht : (thinB t && inB a 0 (t.whr.length - 1))
  · have HT := Lib.hid ht
    rw [trim_no (show trimOk t a = false from ht)]
    clear ht
    go_enter Try.func21, Try.ntmps21
    go_wp2_with fail
    refine (isThin_c _ _ t a _ (ThinRd.below HR.out (by repeat (first | with_reducible exact Below.refl _ _ | with_reducible refine below_drewN ?_ _ | with_reducible refine Below.drew ?_ | with_reducible refine Below.alloc ?_ ?_ _ | with_reducible refine Below.setCell ?_ ?_ _ | omega | (focus (simp; omega)) | (focus (simp; done))))) hs).mono ?_
    rw [HT.out]
    rintro e w1 ⟨rfl, hb1⟩
    have M1 := Loc.carryB L1 (fun h => by ((repeat (first | with_reducible exact h | with_reducible refine Loc.drew ?_ | with_reducible refine Loc.drewN ?_ _ | with_reducible refine Loc.alloc ?_ _)); done)) hb1
    obtain ⟨m0, m1, mf⟩ := M1.two
    go_wp2
    refine bodyPost_ret (v := .agg #[.slice none 0 0, .slice none 0 0]) (by simp [results, Try.results21, go_sem, *]; done) rfl (madeThin_nil0 _ _ (by repeat (first | with_reducible exact Below.refl _ _ | with_reducible assumption | with_reducible refine below_drewN ?_ _ | with_reducible refine Below.drew ?_ | with_reducible refine Below.alloc ?_ ?_ _ | with_reducible refine Below.setCell ?_ ?_ _ | (with_reducible refine Below.next ?_ (by assumption)) | omega | (focus (simp; omega)) | (focus (simp; done)))))
  · have HT := Lib.hid ht
    have HOK : Hid (trimOk t a = true) := Lib.hid ht
    simp only [Bool.and_eq_true] at ht
    have HTV := Lib.hid (thin_iff.1 ht.1)
    have hw64 := (thin_iff.1 ht.1).w64
    have hp64 := (thin_iff.1 ht.1).p64
    obtain ⟨a0, a1⟩ := inB_true.1 ht.2
    obtain ⟨n, rfl⟩ := Int.eq_ofNat_of_zero_le a0
    have hnl : n < t.whr.length := by omega
    obtain ⟨hr0, hr1⟩ := HTV.out.rng _ (List.getElem_mem hnl)
    clear ht
    go_enter Try.func21, Try.ntmps21
    go_wp2_with fail
    refine (isThin_c _ _ t n _ (ThinRd.below HR.out (by repeat (first | with_reducible exact Below.refl _ _ | with_reducible refine below_drewN ?_ _ | with_reducible refine Below.drew ?_ | with_reducible refine Below.alloc ?_ ?_ _ | with_reducible refine Below.setCell ?_ ?_ _ | omega | (focus (simp; omega)) | (focus (simp; done))))) hs).mono ?_
    rw [HT.out]
    rintro e w1 ⟨rfl, hb1⟩
    have M0 := Loc.carryB L0 (fun h => by ((repeat (first | with_reducible exact h | with_reducible refine Loc.drew ?_ | with_reducible refine Loc.drewN ?_ _ | with_reducible refine Loc.alloc ?_ _)); done)) hb1
    have M1 := Loc.carryB L1 (fun h => by ((repeat (first | with_reducible exact h | with_reducible refine Loc.drew ?_ | with_reducible refine Loc.drewN ?_ _ | with_reducible refine Loc.alloc ?_ _)); done)) hb1
    obtain ⟨m0, m1, mf⟩ := M0.two
    have W1 : Below w.heap.size w w1 := Below.next (by repeat (first | with_reducible exact Below.refl _ _ | with_reducible refine below_drewN ?_ _ | with_reducible refine Below.drew ?_ | with_reducible refine Below.alloc ?_ ?_ _ | with_reducible refine Below.setCell ?_ ?_ _ | omega | (focus (simp; omega)) | (focus (simp; done)))) hb1
    have hz1 := M1.lt
    go_wp2_with fail
    refine (cloneThin_c _ _ t _ (ThinRd.below HR.out W1) hs).mono ?_
    rintro e w2 ⟨y0, y1, rfl, ⟨u1, u2, he, o1, o2, hap⟩, hb2⟩
    simp only [List.cons.injEq, and_true] at he
    obtain ⟨rfl, rfl⟩ := he
    have hz2 := hb2.size
    obtain ⟨A, c, g, A', c', g', rfl, rfl, row, row', hg1, hg2, hgX, hgX', hgg, _, _⟩ := two_rows o1 o2 hap w2.heap.size (Nat.le_refl _) (by omega)
    clear o1 o2 hap
    have N0 := Loc.carryB M0 (fun h => by ((repeat (first | with_reducible exact h | with_reducible refine Loc.drew ?_ | with_reducible refine Loc.drewN ?_ _ | with_reducible refine Loc.alloc ?_ _)); done)) hb2
    have N1 := Loc.carryB M1 (fun h => by ((repeat (first | with_reducible exact h | with_reducible refine Loc.drew ?_ | with_reducible refine Loc.drewN ?_ _ | with_reducible refine Loc.alloc ?_ _)); done)) hb2
    have W2 : Below w.heap.size w w2 := Below.next W1 hb2
    clear m0 m1 mf hb1 hb2 L0 L1 M0 M1
    obtain ⟨m0, m1, mf⟩ := N0.two
    obtain ⟨q0, q1, qf⟩ := N1.two
    have hz3 := N1.lt
    have hz30 := N0.lt
    obtain ⟨rfl, hgl, hfz, hcc⟩ := row.int (by omega)
    have hcn := hcc n hnl
    have H1 := Lib.hid row
    have H2 := Lib.hid row'
    clear row row' hcc
    obtain ⟨b0, off0, rfl, hbl0, hc0⟩ := (ThinRd.whr (ThinRd.below HR.out W2)).int hnl
    have hb0w : b0 < w.heap.size := (ThinRd.whr HR.out).lt (by omega) rfl
    have hb0g : b0 ≠ g := by omega
    have hb0g' : b0 ≠ g' := by omega
    by_cases hneg : (t.whr[n]'hnl) < 0
    · have HE := Lib.hid (trim_neg HOK.out hnl (by omega))
      clear hcn
      go_wp2
      rw [HE.out]
      refine bodyPost_ret (v := .agg #[.slice (some ⟨g, 0, none⟩) t.whr.length c, .slice A' t.pool.length c']) (by simp [results, Try.results21, go_sem, *]; done) rfl ⟨_, _, rfl, ⟨_, _, rfl, ?_, ?_, ?_⟩, ?_⟩
      · exact SOwn.of_rown (g := g) (by repeat (first | with_reducible exact H1.out | with_reducible refine Row.drew ?_ | with_reducible refine Row.drewN ?_ _ | with_reducible refine Row.alloc ?_ _ | (with_reducible refine Row.below ?_ (by assumption)) | ((with_reducible refine Row.other ?_ ?_ _); rotate_left; (focus (first | omega | (simp; omega) | (simp; done)))) | ((with_reducible refine Row.far' (by assumption) ?_ ?_); (focus (first | omega | (simp; omega) | (simp; done)))))) (by simp) (by omega)
      · exact SOwn.of_rown (g := g') (by repeat (first | with_reducible exact H2.out | with_reducible refine Row.drew ?_ | with_reducible refine Row.drewN ?_ _ | with_reducible refine Row.alloc ?_ _ | (with_reducible refine Row.below ?_ (by assumption)) | ((with_reducible refine Row.other ?_ ?_ _); rotate_left; (focus (first | omega | (simp; omega) | (simp; done)))) | ((with_reducible refine Row.far' (by assumption) ?_ ?_); (focus (first | omega | (simp; omega) | (simp; done)))))) (by simp) (by omega)
      · exact Apart.of_rows H1.out H2.out hgg
      · exact (by repeat (first | with_reducible exact W2 | with_reducible exact Below.refl _ _ | with_reducible refine below_drewN ?_ _ | with_reducible refine Below.drew ?_ | with_reducible refine Below.alloc ?_ ?_ _ | with_reducible refine Below.setCell ?_ ?_ _ | (with_reducible refine Below.next ?_ (by assumption)) | ((with_reducible refine Below.far' (by assumption) ?_ ?_ ?_); (focus (first | omega | (simp; omega) | (simp; done))); (focus (first | omega | (simp; omega) | (simp; done)))) | omega | (focus (simp; omega)) | (focus (simp; done))))
    · obtain ⟨p, hp⟩ := Int.eq_ofNat_of_zero_le (Int.not_lt.1 hneg)
      have hpl2 : p < t.pool.length := by omega
      have HE := Lib.hid (trim_pos HOK.out hnl hp)
      have hr2 := H2.out
      obtain ⟨rfl, hgl', hfz', hcc'⟩ := hr2.int (by omega)
      have hcp := hcc' p hpl2
      rw [hp] at hcn hc0
      have HS2 := Lib.hid (H2.out.setInt (k := p) hpl2 0)
      have HS1 := Lib.hid ((H1.out.other (p := ⟨g', p, none⟩) hgg (.int .i64 0)).setInt (k := n) hnl (-1))
      have hnn : ¬ ((p : Int) < 0) := by omega
      clear hr2 hcc' hp hneg
      go_wp2
      rw [HE.out]
      refine bodyPost_ret (v := .agg #[.slice (some ⟨g, 0, none⟩) t.whr.length c, .slice (some ⟨g', 0, none⟩) t.pool.length c']) (by simp [results, Try.results21, go_sem, *]; done) rfl ⟨_, _, rfl, ⟨_, _, rfl, ?_, ?_, ?_⟩, ?_⟩
      · exact SOwn.of_rown (g := g) (by repeat (first | with_reducible exact HS1.out | with_reducible refine Row.drew ?_ | with_reducible refine Row.drewN ?_ _ | with_reducible refine Row.alloc ?_ _ | (with_reducible refine Row.below ?_ (by assumption)) | ((with_reducible refine Row.other ?_ ?_ _); rotate_left; (focus (first | omega | (simp; omega) | (simp; done)))) | ((with_reducible refine Row.far' (by assumption) ?_ ?_); (focus (first | omega | (simp; omega) | (simp; done)))))) (by simp) (by omega)
      · exact SOwn.of_rown (g := g') (by repeat (first | with_reducible exact HS2.out | with_reducible refine Row.drew ?_ | with_reducible refine Row.drewN ?_ _ | with_reducible refine Row.alloc ?_ _ | (with_reducible refine Row.below ?_ (by assumption)) | ((with_reducible refine Row.other ?_ ?_ _); rotate_left; (focus (first | omega | (simp; omega) | (simp; done)))) | ((with_reducible refine Row.far' (by assumption) ?_ ?_); (focus (first | omega | (simp; omega) | (simp; done)))))) (by simp) (by omega)
      · exact Apart.of_rows H1.out H2.out hgg
      · exact (by repeat (first | with_reducible exact W2 | with_reducible exact Below.refl _ _ | with_reducible refine below_drewN ?_ _ | with_reducible refine Below.drew ?_ | with_reducible refine Below.alloc ?_ ?_ _ | with_reducible refine Below.setCell ?_ ?_ _ | (with_reducible refine Below.next ?_ (by assumption)) | ((with_reducible refine Below.far' (by assumption) ?_ ?_ ?_); (focus (first | omega | (simp; omega) | (simp; done))); (focus (first | omega | (simp; omega) | (simp; done)))) | omega | (focus (simp; omega)) | (focus (simp; done))))
set_option maxHeartbeats 4000000 in
theorem specTrim_c (x0 x1 : Value) (t : Th) (a : Int) (w : World) (h : ThinRd w [x0, x1] t) (hs : sizeThin t ≤ 1099511627776) :
    Calls Try.prog 23 #[.agg #[x0, x1], .int .i64 a] w (MadeThin (trimT t a) w) := by
  obtain ⟨A0, c0, A0', c0', rfl, rfl⟩ := thinRd_lens h
  have L0 := Loc.new w [.slice A0 t.whr.length c0, .slice A0' t.pool.length c0'] 26
  have L1 := Loc.newAt (w.alloc (.cells #[.slice A0 t.whr.length c0, .slice A0' t.pool.length c0'] 26)) [.slice none 0 0, .slice none 0 0] 26 (b := w.heap.size + 1) (by simp)
  have HR := Lib.hid h
  have hsw : t.whr.length ≤ 1099511627776 := by unfold sizeThin at hs; omega
  cases hv : thinB t
  · have HT := Lib.hid hv
    rw [trim_no (show trimOk t a = false by unfold trimOk; rw [hv]; rfl)]
    clear hv
    go_enter Try.func23, Try.ntmps23
    go_wp2_with fail
    refine (specThin_c _ _ t _ (ThinRd.below HR.out (by repeat (first | with_reducible exact Below.refl _ _ | with_reducible refine below_drewN ?_ _ | with_reducible refine Below.drew ?_ | with_reducible refine Below.alloc ?_ ?_ _ | with_reducible refine Below.setCell ?_ ?_ _ | omega | (focus (simp; omega)) | (focus (simp; done))))) hs).mono ?_
    rw [HT.out]
    rintro e w1 ⟨rfl, hb1⟩
    have M0 := Loc.carryB L0 (fun h => by ((repeat (first | with_reducible exact h | with_reducible refine Loc.drew ?_ | with_reducible refine Loc.drewN ?_ _ | with_reducible refine Loc.alloc ?_ _)); done)) hb1
    have M1 := Loc.carryB L1 (fun h => by ((repeat (first | with_reducible exact h | with_reducible refine Loc.drew ?_ | with_reducible refine Loc.drewN ?_ _ | with_reducible refine Loc.alloc ?_ _)); done)) hb1
    obtain ⟨k0, k1, kf⟩ := M0.two
    obtain ⟨m0, m1, mf⟩ := M1.two
    go_wp2
    refine bodyPost_ret (v := .agg #[.slice none 0 0, .slice none 0 0]) (by simp [results, Try.results23, go_sem, *]; done) rfl (madeThin_nil0 _ _ (by repeat (first | with_reducible exact Below.refl _ _ | with_reducible assumption | with_reducible refine below_drewN ?_ _ | with_reducible refine Below.drew ?_ | with_reducible refine Below.alloc ?_ ?_ _ | with_reducible refine Below.setCell ?_ ?_ _ | (with_reducible refine Below.next ?_ (by assumption)) | omega | (focus (simp; omega)) | (focus (simp; done)))))
  · cases hat : inB a 0 (t.whr.length - 1)
    · have HT := Lib.hid hv
      have HAT := Lib.hid hat
      rw [trim_no (show trimOk t a = false by unfold trimOk; rw [hat]; simp)]
      clear hv hat
      go_enter Try.func23, Try.ntmps23
      go_wp2_with fail
      refine (specThin_c _ _ t _ (ThinRd.below HR.out (by repeat (first | with_reducible exact Below.refl _ _ | with_reducible refine below_drewN ?_ _ | with_reducible refine Below.drew ?_ | with_reducible refine Below.alloc ?_ ?_ _ | with_reducible refine Below.setCell ?_ ?_ _ | omega | (focus (simp; omega)) | (focus (simp; done))))) hs).mono ?_
      rw [HT.out]
      rintro e w1 ⟨rfl, hb1⟩
      have M0 := Loc.carryB L0 (fun h => by ((repeat (first | with_reducible exact h | with_reducible refine Loc.drew ?_ | with_reducible refine Loc.drewN ?_ _ | with_reducible refine Loc.alloc ?_ _)); done)) hb1
      have M1 := Loc.carryB L1 (fun h => by ((repeat (first | with_reducible exact h | with_reducible refine Loc.drew ?_ | with_reducible refine Loc.drewN ?_ _ | with_reducible refine Loc.alloc ?_ _)); done)) hb1
      obtain ⟨k0, k1, kf⟩ := M0.two
      obtain ⟨m0, m1, mf⟩ := M1.two
      go_wp2_with (go_at_call 29; refine (l1In_any _ _ _ _).mono ?_; rw [HAT.out]; rintro e w' ⟨rfl, rfl⟩)
      refine bodyPost_ret (v := .agg #[.slice none 0 0, .slice none 0 0]) (by simp [results, Try.results23, go_sem, *]; done) rfl (madeThin_nil0 _ _ (by repeat (first | with_reducible exact Below.refl _ _ | with_reducible assumption | with_reducible refine below_drewN ?_ _ | with_reducible refine Below.drew ?_ | with_reducible refine Below.alloc ?_ ?_ _ | with_reducible refine Below.setCell ?_ ?_ _ | (with_reducible refine Below.next ?_ (by assumption)) | omega | (focus (simp; omega)) | (focus (simp; done)))))
    · have ht : (thinB t && inB a 0 (t.whr.length - 1)) = true := by rw [hv, hat]; rfl
      have HOK : Hid (trimOk t a = true) := Lib.hid ht
      have HT := Lib.hid hv
      have HAT := Lib.hid hat
      clear hv hat
      simp only [Bool.and_eq_true] at ht
      have HTV := Lib.hid (thin_iff.1 ht.1)
      have hw64 := (thin_iff.1 ht.1).w64
      have hp64 := (thin_iff.1 ht.1).p64
      obtain ⟨a0, a1⟩ := inB_true.1 ht.2
      obtain ⟨n, rfl⟩ := Int.eq_ofNat_of_zero_le a0
      have hnl : n < t.whr.length := by omega
      obtain ⟨hr0, hr1⟩ := HTV.out.rng _ (List.getElem_mem hnl)
      clear ht
      go_enter Try.func23, Try.ntmps23
      go_wp2_with fail
      refine (specThin_c _ _ t _ (ThinRd.below HR.out (by repeat (first | with_reducible exact Below.refl _ _ | with_reducible refine below_drewN ?_ _ | with_reducible refine Below.drew ?_ | with_reducible refine Below.alloc ?_ ?_ _ | with_reducible refine Below.setCell ?_ ?_ _ | omega | (focus (simp; omega)) | (focus (simp; done))))) hs).mono ?_
      rw [HT.out]
      rintro e w1 ⟨rfl, hb1⟩
      have M0 := Loc.carryB L0 (fun h => by ((repeat (first | with_reducible exact h | with_reducible refine Loc.drew ?_ | with_reducible refine Loc.drewN ?_ _ | with_reducible refine Loc.alloc ?_ _)); done)) hb1
      have M1 := Loc.carryB L1 (fun h => by ((repeat (first | with_reducible exact h | with_reducible refine Loc.drew ?_ | with_reducible refine Loc.drewN ?_ _ | with_reducible refine Loc.alloc ?_ _)); done)) hb1
      obtain ⟨m0, m1, mf⟩ := M0.two
      have W1 : Below w.heap.size w w1 := Below.next (by repeat (first | with_reducible exact Below.refl _ _ | with_reducible refine below_drewN ?_ _ | with_reducible refine Below.drew ?_ | with_reducible refine Below.alloc ?_ ?_ _ | with_reducible refine Below.setCell ?_ ?_ _ | omega | (focus (simp; omega)) | (focus (simp; done)))) hb1
      have hz1 := M1.lt
      go_wp2_with (go_at_call 29; refine (l1In_any _ _ _ _).mono ?_; rw [HAT.out]; rintro e w' ⟨rfl, rfl⟩)
      refine (copyThin_c _ _ t _ (ThinRd.below HR.out W1) hs).mono ?_
      rintro e w2 ⟨y0, y1, rfl, ⟨u1, u2, he, o1, o2, hap⟩, hb2⟩
      simp only [List.cons.injEq, and_true] at he
      obtain ⟨rfl, rfl⟩ := he
      have hz2 := hb2.size
      obtain ⟨A, c, g, A', c', g', rfl, rfl, row, row', hg1, hg2, hgX, hgX', hgg, _, _⟩ := two_rows o1 o2 hap w2.heap.size (Nat.le_refl _) (by omega)
      clear o1 o2 hap
      have N0 := Loc.carryB M0 (fun h => by ((repeat (first | with_reducible exact h | with_reducible refine Loc.drew ?_ | with_reducible refine Loc.drewN ?_ _ | with_reducible refine Loc.alloc ?_ _)); done)) hb2
      have N1 := Loc.carryB M1 (fun h => by ((repeat (first | with_reducible exact h | with_reducible refine Loc.drew ?_ | with_reducible refine Loc.drewN ?_ _ | with_reducible refine Loc.alloc ?_ _)); done)) hb2
      have W2 : Below w.heap.size w w2 := Below.next W1 hb2
      clear m0 m1 mf hb1 hb2 L0 L1 M0 M1
      obtain ⟨m0, m1, mf⟩ := N0.two
      obtain ⟨q0, q1, qf⟩ := N1.two
      have hz3 := N1.lt
      have hz30 := N0.lt
      obtain ⟨rfl, hgl, hfz, hcc⟩ := row.int (by omega)
      have hcn := hcc n hnl
      have H1 := Lib.hid row
      have H2 := Lib.hid row'
      clear row row' hcc
      by_cases hneg : (t.whr[n]'hnl) < 0
      · have hm1 : (t.whr[n]'hnl) = -1 := by omega
        have HE := Lib.hid (trim_neg HOK.out hnl hm1)
        have hself : t.whr.set n (-1) = t.whr := by rw [← hm1]; exact List.set_getElem_self hnl
        have HS1 := Lib.hid (H1.out.setInt (k := n) hnl (-1))
        have HSF := Lib.hid hself
        rw [hself] at HS1
        rw [hm1] at hcn
        clear hm1 hself hneg
        go_wp2
        rw [HE.out]
        have HH2 := Lib.hid (H2.out.other (p := ⟨g, n, none⟩) (Ne.symm hgg) (.int .i64 (-1)))
        refine bodyPost_ret (v := .agg #[.slice (some ⟨g, 0, none⟩) t.whr.length c, .slice A' t.pool.length c']) (by simp [results, Try.results23, go_sem, *]; done) rfl ⟨_, _, rfl, ⟨_, _, rfl, ?_, ?_, ?_⟩, ?_⟩
        · exact SOwn.of_rown (g := g) (by repeat (first | with_reducible exact HS1.out | with_reducible refine Row.drew ?_ | with_reducible refine Row.drewN ?_ _ | with_reducible refine Row.alloc ?_ _ | (with_reducible refine Row.below ?_ (by assumption)) | ((with_reducible refine Row.other ?_ ?_ _); rotate_left; (focus (first | omega | (simp; omega) | (simp; done)))) | ((with_reducible refine Row.far' (by assumption) ?_ ?_); (focus (first | omega | (simp; omega) | (simp; done)))))) (by simp) (by omega)
        · exact SOwn.of_rown (g := g') (by repeat (first | with_reducible exact HH2.out | with_reducible refine Row.drew ?_ | with_reducible refine Row.drewN ?_ _ | with_reducible refine Row.alloc ?_ _ | (with_reducible refine Row.below ?_ (by assumption)) | ((with_reducible refine Row.other ?_ ?_ _); rotate_left; (focus (first | omega | (simp; omega) | (simp; done)))) | ((with_reducible refine Row.far' (by assumption) ?_ ?_); (focus (first | omega | (simp; omega) | (simp; done)))))) (by simp) (by omega)
        · exact Apart.of_rows H1.out H2.out hgg
        · exact (by repeat (first | with_reducible exact W2 | with_reducible exact Below.refl _ _ | with_reducible refine below_drewN ?_ _ | with_reducible refine Below.drew ?_ | with_reducible refine Below.alloc ?_ ?_ _ | with_reducible refine Below.setCell ?_ ?_ _ | (with_reducible refine Below.next ?_ (by assumption)) | ((with_reducible refine Below.far' (by assumption) ?_ ?_ ?_); (focus (first | omega | (simp; omega) | (simp; done))); (focus (first | omega | (simp; omega) | (simp; done)))) | omega | (focus (simp; omega)) | (focus (simp; done))))
      · obtain ⟨p, hp⟩ := Int.eq_ofNat_of_zero_le (Int.not_lt.1 hneg)
        have hpl2 : p < t.pool.length := by omega
        have HE := Lib.hid (trim_pos HOK.out hnl hp)
        have hr2 := H2.out
        obtain ⟨rfl, hgl', hfz', hcc'⟩ := hr2.int (by omega)
        have hcp := hcc' p hpl2
        have HP := Lib.hid hp
        rw [hp] at hcn
        have HS2 := Lib.hid (H2.out.setInt (k := p) hpl2 0)
        have HS1 := Lib.hid ((H1.out.other (p := ⟨g', p, none⟩) hgg (.int .i64 0)).setInt (k := n) hnl (-1))
        have hnn : ¬ ((p : Int) < 0) := by omega
        clear hr2 hcc' hp hneg
        have F0 : Loc (((w2.setCell ⟨g', p, none⟩ (.int .i64 0)).alloc (.cells #[.slice (some ⟨g, 0, none⟩) t.whr.length c, .slice (some ⟨g', 0, none⟩) t.pool.length c'] 26)).drew) w2.heap.size [.slice (some ⟨g, 0, none⟩) t.whr.length c, .slice (some ⟨g', 0, none⟩) t.pool.length c'] := (by repeat (first | with_reducible assumption | with_reducible apply Loc.fill3 | with_reducible apply Loc.fill2 | ((with_reducible refine Loc.newAt' ?_ rfl); (focus (first | with_reducible rfl | omega | (simp; omega) | (simp; done)))) | with_reducible refine Loc.drew ?_ | with_reducible refine Loc.drewN ?_ _ | with_reducible refine Loc.alloc ?_ _ | (with_reducible refine Loc.below ?_ (by assumption)) | ((with_reducible refine Loc.other' ?_ ?_ _); (focus (first | omega | (simp; omega) | (simp; done)))) | ((with_reducible refine Loc.far' (by assumption) ?_ ?_); (focus (first | omega | (simp; omega) | (simp; done))))))
        obtain ⟨F1, F2, _⟩ := F0.two
        have F3 : (((w2.setCell ⟨g', p, none⟩ (.int .i64 0)).alloc (.cells #[.slice (some ⟨g, 0, none⟩) t.whr.length c, .slice (some ⟨g', 0, none⟩) t.pool.length c'] 26)).drew).cell? ⟨g, n, none⟩ = some (.int .i64 p) := Row.icell (w := World.drew _) (e := 3) (A := some ⟨g, 0, none⟩) (c := c) (by repeat (first | with_reducible exact H1.out | with_reducible refine Row.drew ?_ | with_reducible refine Row.drewN ?_ _ | with_reducible refine Row.alloc ?_ _ | (with_reducible refine Row.below ?_ (by assumption)) | ((with_reducible refine Row.other ?_ ?_ _); rotate_left; (focus (first | omega | (simp; omega) | (simp; done)))) | ((with_reducible refine Row.far' (by assumption) ?_ ?_); (focus (first | omega | (simp; omega) | (simp; done)))))) hnl HP.out
        go_wp2_with fail
        go_region_held3 (fun w' => w'.cell? ⟨w2.heap.size, 0, none⟩ = some (.slice (some ⟨g, 0, none⟩) t.whr.length c) ∧ w'.cell? ⟨w2.heap.size, 1, none⟩ = some (.slice (some ⟨g', 0, none⟩) t.pool.length c') ∧ w'.cell? ⟨g, n, none⟩ = some (.int .i64 p)) (first | go_keep | (refine ⟨?_, ?_, ?_⟩ <;> (simp [go_sem, *]; done)) | exact ⟨F1, F2, F3⟩) (fail)
        go_wp2
        rw [HE.out]
        refine bodyPost_ret (v := .agg #[.slice (some ⟨g, 0, none⟩) t.whr.length c, .slice (some ⟨g', 0, none⟩) t.pool.length c']) (by simp [results, Try.results23, go_sem, *]; done) rfl ⟨_, _, rfl, ⟨_, _, rfl, ?_, ?_, ?_⟩, ?_⟩
        · exact SOwn.of_rown (g := g) (by repeat (first | with_reducible exact HS1.out | with_reducible refine Row.drew ?_ | with_reducible refine Row.drewN ?_ _ | with_reducible refine Row.alloc ?_ _ | (with_reducible refine Row.below ?_ (by assumption)) | ((with_reducible refine Row.other ?_ ?_ _); rotate_left; (focus (first | omega | (simp; omega) | (simp; done)))) | ((with_reducible refine Row.far' (by assumption) ?_ ?_); (focus (first | omega | (simp; omega) | (simp; done)))))) (by simp) (by omega)
        · exact SOwn.of_rown (g := g') (by repeat (first | with_reducible exact HS2.out | with_reducible refine Row.drew ?_ | with_reducible refine Row.drewN ?_ _ | with_reducible refine Row.alloc ?_ _ | (with_reducible refine Row.below ?_ (by assumption)) | ((with_reducible refine Row.other ?_ ?_ _); rotate_left; (focus (first | omega | (simp; omega) | (simp; done)))) | ((with_reducible refine Row.far' (by assumption) ?_ ?_); (focus (first | omega | (simp; omega) | (simp; done)))))) (by simp) (by omega)
        · exact Apart.of_rows H1.out H2.out hgg
        · exact (by repeat (first | with_reducible exact W2 | with_reducible exact Below.refl _ _ | with_reducible refine below_drewN ?_ _ | with_reducible refine Below.drew ?_ | with_reducible refine Below.alloc ?_ ?_ _ | with_reducible refine Below.setCell ?_ ?_ _ | (with_reducible refine Below.next ?_ (by assumption)) | ((with_reducible refine Below.far' (by assumption) ?_ ?_ ?_); (focus (first | omega | (simp; omega) | (simp; done))); (focus (first | omega | (simp; omega) | (simp; done)))) | omega | (focus (simp; omega)) | (focus (simp; done))))
set_option maxHeartbeats 4000000 in
theorem implTFree_c (x0 x1 : Value) (t : Th) (w : World) (h : ThinRd w [x0, x1] t) (hs : sizeThin t ≤ 1099511627776) :
    Calls Try.prog 25 #[.agg #[x0, x1]] w fun e w' => e = .returned (.int .i64 (freeTh t)) ∧ Below w.heap.size w w' := by
  obtain ⟨A, c, A', c', rfl, rfl⟩ := thinRd_lens h
  have HR := Lib.hid h
  have L0 := Loc.new w [.slice A t.whr.length c, .slice A' t.pool.length c'] 26
  cases hv : thinB t
  · have HV := Lib.hid hv
    have HF := Lib.hid (freeTh_no hv)
    clear hv
    go_enter Try.func25, Try.ntmps25
    go_wp2_with fail
    refine (implThin_c _ _ t _ (ThinRd.below HR.out (by repeat (first | with_reducible exact Below.refl _ _ | with_reducible refine below_drewN ?_ _ | with_reducible refine Below.drew ?_ | with_reducible refine Below.alloc ?_ ?_ _ | with_reducible refine Below.setCell ?_ ?_ _ | omega | (focus (simp; omega)) | (focus (simp; done))))) hs).mono ?_
    rw [HV.out]
    rintro e w1 ⟨rfl, hb1⟩
    go_wp2
    go_ret
    exact ⟨ret_int HF.out.symm, (by repeat (first | with_reducible exact Below.refl _ _ | with_reducible assumption | with_reducible refine below_drewN ?_ _ | with_reducible refine Below.drew ?_ | with_reducible refine Below.alloc ?_ ?_ _ | with_reducible refine Below.setCell ?_ ?_ _ | (with_reducible refine Below.next ?_ (by assumption)) | omega | (focus (simp; omega)) | (focus (simp; done))))⟩
  · have HV := Lib.hid hv
    have HF := Lib.hid (freeTh_yes hv)
    have hl64 := (thin_iff.1 hv).w64
    have hp64 := (thin_iff.1 hv).p64
    clear hv
    go_enter Try.func25, Try.ntmps25
    go_wp2_with fail
    refine (implThin_c _ _ t _ (ThinRd.below HR.out (by repeat (first | with_reducible exact Below.refl _ _ | with_reducible refine below_drewN ?_ _ | with_reducible refine Below.drew ?_ | with_reducible refine Below.alloc ?_ ?_ _ | with_reducible refine Below.setCell ?_ ?_ _ | omega | (focus (simp; omega)) | (focus (simp; done))))) hs).mono ?_
    rw [HV.out]
    rintro e w1 ⟨rfl, hb1⟩
    have M0 := Loc.carryB L0 (fun h => by ((repeat (first | with_reducible exact h | with_reducible refine Loc.drew ?_ | with_reducible refine Loc.drewN ?_ _ | with_reducible refine Loc.alloc ?_ _)); done)) hb1
    obtain ⟨k0, k1, kf⟩ := M0.two
    have W1 : Hid (Below w.heap.size w w1) := Lib.hid (Below.next (W := w) (by repeat (first | with_reducible exact Below.refl _ _ | with_reducible refine below_drewN ?_ _ | with_reducible refine Below.drew ?_ | with_reducible refine Below.alloc ?_ ?_ _ | with_reducible refine Below.setCell ?_ ?_ _ | omega | (focus (simp; omega)) | (focus (simp; done)))) hb1)
    clear hb1
    go_wp2
    go_loop [3, 15] (fun n i => ∃ k : Nat, k ≤ t.whr.length ∧ i = .int .i64 k ∧ n = .int .i64 ((t.pool.length : Int) - usedTo t.whr k)) (fun _ i => t.whr.length - (intOf i).toNat)
    case atStart => exact ⟨0, Nat.zero_le _, rfl, by rw [usedTo_zero]; simp⟩
    case round =>
      obtain ⟨k, hk, rfl, rfl⟩ := hrel
      have hul := usedTo_le t.whr k
      by_cases hlt : k < t.whr.length
      · obtain ⟨b, off, rfl, hbl, hcc⟩ := (ThinRd.whr (ThinRd.below HR.out W1.out)).int hlt
        have HS := Lib.hid (usedTo_succ hlt)
        obtain ⟨x, hx⟩ : ∃ x, x = t.whr[k]'hlt := ⟨_, rfl⟩
        obtain ⟨u, hu⟩ : ∃ u, u = usedTo t.whr k := ⟨_, rfl⟩
        rw [← hx] at hcc HS
        rw [← hu] at HS hul ⊢
        clear hx hu
        have hw := IntWalk.i64_in ((t.pool.length : Int) - u - 1) (by omega)
        by_cases hneg : 0 ≤ x
        · go_wp2
          go_round
          case rel => exact ⟨k + 1, by omega, by go_num, by rw [HS.out, if_pos hneg]; congr 1; omega⟩
          case measure => simp [intOf]; omega
        · go_wp2
          go_round
          case rel => exact ⟨k + 1, by omega, by go_num, by rw [HS.out, if_neg hneg]; congr 1⟩
          case measure => simp [intOf]; omega
      · have hke : usedTo t.whr k = usedT t.whr := usedTo_all (by omega)
        rw [hke]
        go_wp2
        go_ret
        exact ⟨ret_int HF.out.symm, W1.out⟩
theorem lit_m1 {w : World} {b : Nat} (h : w.heap.size = b) : Rd eInt (w.alloc (.cells #[.int .i64 (-1)] 3)) (some ⟨b, 0, none⟩) [(-1 : Int)] := Rd.lit h rfl
theorem apart_next {α : Type} {E : Enc α} {w : World} {g c c' n m X : Nat} {e : TypeId} {A : Option Addr} {l : List α} (h : Row E w g e A c l) (hne : g ≠ X) : Apart (.slice A n c) (.slice (some ⟨X, 0, none⟩) m c') := by
  intro a n c a' n' c' h1 h2
  cases h1
  cases h2
  rw [h.addr]
  exact hne
set_option maxHeartbeats 4000000 in
theorem specNewThin_c (m p : Nat) (hm : m ≤ 64) (hp : p ≤ 64) (w : World) :
    Calls Try.prog 50 #[.int .i64 m, .int .i64 p] w (MadeThin ⟨List.replicate m (-1), List.replicate p 0⟩ w) := by
  have L0 := Loc.newAt w [.slice none 0 0, .slice none 0 0] 26 (b := w.heap.size) rfl
  have L1 := Loc.newAt (w.alloc (.cells #[.slice none 0 0, .slice none 0 0] 26)) [.slice none 0 0, .slice none 0 0] 26 (b := w.heap.size + 1) (by simp)
  have h1 := Lib.hid (inB_true.2 (show (0 : Int) ≤ (m : Int) ∧ (m : Int) ≤ 64 by omega))
  have h2 := Lib.hid (inB_true.2 (show (0 : Int) ≤ (p : Int) ∧ (p : Int) ≤ 64 by omega))
  go_enter Try.func50, Try.ntmps50
  go_wp2_with (go_at_call 29; (first | (with_reducible refine (l1In_any m _ _ _).mono ?_; rw [h1.out]) | (with_reducible refine (l1In_any p _ _ _).mono ?_; rw [h2.out])); rintro e w' ⟨rfl, rfl⟩)
  go_loopw [6] (fun i wr => ∃ k : Nat, k ≤ m ∧ i = .int .i64 k ∧ Loc wr w.heap.size [.slice none 0 0, .slice none 0 0] ∧ Below w.heap.size w wr ∧ ∃ A1 c1 g1, ∃ lk : List Int, Loc wr (w.heap.size + 1) [.slice A1 lk.length c1, .slice none 0 0] ∧ Hid (lk = List.replicate k (-1)) ∧ (lk.length ≤ k ∧ k ≤ lk.length) ∧ w.heap.size + 1 < g1 ∧ Row eInt wr g1 3 A1 c1 lk) (fun i _ => m - (intOf i).toNat)
  case atStart => exact ⟨0, Nat.zero_le _, rfl, Loc.alloc L0 _, (by repeat (first | with_reducible exact Below.refl _ _ | with_reducible assumption | with_reducible refine below_drewN ?_ _ | with_reducible refine Below.drew ?_ | with_reducible refine Below.alloc ?_ ?_ _ | with_reducible refine Below.setCell ?_ ?_ _ | (with_reducible refine Below.next ?_ (by assumption)) | omega | (focus (simp; omega)) | (focus (simp; done)))), none, 0, w.heap.size + 2, [], L1, Lib.hid rfl, by simp, by omega, Row.nil _ _ _⟩
  case round =>
    obtain ⟨k, hk, rfl, LW, hbw, A1, c1, g1, lk, LV, HLK, ⟨hlk1, hlk2⟩, hg1, hrow⟩ := hrel
    have hsz := hbw.size
    have hzl := LW.lt
    have hzv := LV.lt
    obtain ⟨q0, q1, qf⟩ := LW.two
    obtain ⟨v0, v1, vf⟩ := LV.two
    have HRW := Lib.hid hrow
    clear hrow
    by_cases hlt : k < m
    · have hlit : Hid (Rd eInt (wr.alloc (.cells #[.int .i64 (-1)] 3)) (some ⟨wr.heap.size, 0, none⟩) [(-1 : Int)]) := Lib.hid (lit_m1 rfl)
      have hrep : Hid (List.replicate (k + 1) (-1 : Int) = List.replicate k (-1) ++ [-1]) := Lib.hid (by rw [List.replicate_succ'])
      go_wp2_with (at_builtin; refine wpList_append_row rfl _ _ rfl el_int rfl (Row.alloc HRW.out _) _ _ [(-1 : Int)] rfl hlit.out (by simp only [maxLen, List.length_cons, List.length_nil]; omega) (by simp only [List.length_cons, List.length_nil]; omega) ?_; intro A2 c2 g2 w3 l2 hl2 hle1 hle2 hrow3 hg3 hgg3; have N0 := Loc.carry LW (fun h => by ((repeat (first | with_reducible exact h | with_reducible refine Loc.drew ?_ | with_reducible refine Loc.drewN ?_ _ | with_reducible refine Loc.alloc ?_ _)); done)) hg3 (by omega); have N1 := Loc.carry LV (fun h => by ((repeat (first | with_reducible exact h | with_reducible refine Loc.drew ?_ | with_reducible refine Loc.drewN ?_ _ | with_reducible refine Loc.alloc ?_ _)); done)) hg3 (by omega); obtain ⟨n0, n1, nf⟩ := N0.two; obtain ⟨p0, p1, pf⟩ := N1.two; have zN := N1.lt)
      have hz3 := hg3.size
      simp at hz3 hgg3 hle1 hle2
      have ROW4 : Hid (Row eInt (w3.setCell ⟨w.heap.size + 1, 0, none⟩ (.slice A2 l2.length c2)) g2 3 A2 c2 l2) := Lib.hid (Row.other hrow3 (by simp; omega) _)
      go_roundw
      case rel =>
        exact ⟨k + 1, by omega, by go_num, Loc.other' (p := ⟨w.heap.size + 1, 0, none⟩) (by simp) N0 _, (by repeat (first | with_reducible exact hbw | with_reducible exact Below.refl _ _ | with_reducible refine below_drewN ?_ _ | with_reducible refine Below.drew ?_ | with_reducible refine Below.alloc ?_ ?_ _ | with_reducible refine Below.setCell ?_ ?_ _ | (with_reducible refine Below.next ?_ (by assumption)) | ((with_reducible refine Below.far' (by assumption) ?_ ?_ ?_); (focus (first | omega | (simp; omega) | (simp; done))); (focus (first | omega | (simp; omega) | (simp; done)))) | omega | (focus (simp; omega)) | (focus (simp; done)))), A2, c2, g2, l2, by simpa using N1.set 0 (.slice A2 l2.length c2), Lib.hid (by rw [hl2.out, HLK.out, hrep.out]), by omega, by omega, ROW4.out⟩
      case measure => simp [intOf]; omega
    · have hkm : k = m := by omega
      have hmk := run_make_el el_int p (by omega) (by omega)
      simp only [show (Value.int .i64 0).cells = #[.int .i64 0] from rfl, show eInt.size = 1 from rfl, Nat.mul_one] at hmk
      have HL2 : Hid (lk = List.replicate m (-1)) := Lib.hid (by rw [HLK.out, hkm])
      obtain ⟨g9, row9, hg9, hg9X⟩ := Row.avoid (X := wr.heap.size) (B := w.heap.size + 2) HRW.out (by rcases HRW.out.made? with h | h; exact .inl h; exact .inr (by omega)) (by omega) (by omega)
      have HR9 := Lib.hid row9
      have HA := Lib.hid (apart_next (n := lk.length) (m := p) (c' := p) (X := wr.heap.size) row9 hg9)
      clear row9
      go_wp2
      refine bodyPost_ret (v := .agg #[.slice A1 lk.length c1, .slice (some ⟨wr.heap.size, 0, none⟩) p p]) (by simp [results, Try.results50, go_sem, *]; done) rfl ⟨_, _, rfl, ?_, ?_⟩
      · rw [← HL2.out]
        exact ⟨_, _, rfl, SOwn.of_rown (g := g9) (l := lk) (by repeat (first | with_reducible exact HR9.out | with_reducible refine Row.drew ?_ | with_reducible refine Row.drewN ?_ _ | with_reducible refine Row.alloc ?_ _ | (with_reducible refine Row.below ?_ (by assumption)) | ((with_reducible refine Row.other ?_ ?_ _); rotate_left; (focus (first | omega | (simp; omega) | (simp; done)))) | ((with_reducible refine Row.far' (by assumption) ?_ ?_); (focus (first | omega | (simp; omega) | (simp; done)))))) rfl (by omega), SOwn.of_rown (g := wr.heap.size) (l := List.replicate p (0 : Int)) (by repeat (first | ((with_reducible refine zeros_row ?_ ?_); (focus (first | with_reducible rfl | omega | (simp; omega) | (simp; done))); (focus omega)) | with_reducible refine Row.drew ?_ | with_reducible refine Row.drewN ?_ _ | with_reducible refine Row.alloc ?_ _ | (with_reducible refine Row.below ?_ (by assumption)) | ((with_reducible refine Row.other ?_ ?_ _); rotate_left; (focus (first | omega | (simp; omega) | (simp; done)))))) (by simp) (by first | omega | (simp; done)), HA.out⟩
      · exact (by repeat (first | with_reducible exact hbw | with_reducible exact Below.refl _ _ | with_reducible refine below_drewN ?_ _ | with_reducible refine Below.drew ?_ | with_reducible refine Below.alloc ?_ ?_ _ | with_reducible refine Below.setCell ?_ ?_ _ | (with_reducible refine Below.next ?_ (by assumption)) | ((with_reducible refine Below.far' (by assumption) ?_ ?_ ?_); (focus (first | omega | (simp; omega) | (simp; done))); (focus (first | omega | (simp; omega) | (simp; done)))) | omega | (focus (simp; omega)) | (focus (simp; done))))
theorem dec_reflT {α : Type} [DecidableEq α] (a : α) : decide (a = a) = true := by simp
set_option maxHeartbeats 1000000 in
/-- the same volume twice -/
theorem sameThin_c (x0 x1 y0 y1 : Value) (t : Th) (w : World) (h : ThinRd w [x0, x1] t) (h' : ThinRd w [y0, y1] t) (hs : sizeThin t ≤ 1099511627776) :
    Calls Try.prog 22 #[.agg #[x0, x1], .agg #[y0, y1]] w fun e w' => e = .returned (.bool true) ∧ Below w.heap.size w w' := by
  obtain ⟨A, c, A', c', rfl, rfl⟩ := thinRd_lens h
  obtain ⟨B, d, B', d', rfl, rfl⟩ := thinRd_lens h'
  have RA := Lib.hid (ThinRd.whr h)
  have RB := Lib.hid (ThinRd.whr h')
  have EA := Lib.hid (ThinRd.pool h)
  have EB := Lib.hid (ThinRd.pool h')
  unfold sizeThin at hs
  have L0 := Loc.new w [.slice A t.whr.length c, .slice A' t.pool.length c'] 26
  have L1 := Loc.newAt (w.alloc (.cells #[.slice A t.whr.length c, .slice A' t.pool.length c'] 26)) [.slice B t.whr.length d, .slice B' t.pool.length d'] 26 (b := w.heap.size + 1) (by simp)
  have L01 := Loc.alloc L0 (.cells #[.slice B t.whr.length d, .slice B' t.pool.length d'] 26)
  obtain ⟨k0, k1, kf⟩ := L01.two
  obtain ⟨j0, j1, jf⟩ := L1.two
  clear h h'
  go_enter Try.func22, Try.ntmps22
  go_wp2_with fail
  refine (sameInts_any A B c d t.whr t.whr _ (Rd.alloc (Rd.alloc RA.out _) _) (Rd.alloc (Rd.alloc RB.out _) _) (by omega) (by omega)).mono ?_
  rw [dec_reflT]
  rintro e w1 ⟨rfl, q1, rfl⟩
  go_wp2_with fail
  refine (sameInts_any A' B' c' d' t.pool t.pool _ (Rd.drewN (Rd.alloc (Rd.alloc EA.out _) _) _) (Rd.drewN (Rd.alloc (Rd.alloc EB.out _) _) _) (by omega) (by omega)).mono ?_
  rw [dec_reflT]
  rintro e w2 ⟨rfl, q2, rfl⟩
  go_wp2
  go_ret
  exact ⟨rfl, (by repeat (first | with_reducible exact Below.refl _ _ | with_reducible assumption | with_reducible refine below_drewN ?_ _ | with_reducible refine Below.drew ?_ | with_reducible refine Below.alloc ?_ ?_ _ | with_reducible refine Below.setCell ?_ ?_ _ | (with_reducible refine Below.next ?_ (by assumption)) | omega | (focus (simp; omega)) | (focus (simp; done))))⟩
end Go.Proofs.Ytkejdgegkbfofaa
