/-
  New flash memories. No condition.
-/
import Derived.Test.YtnnanknljpkdeaaBase
import Derived.Test.YtnnanknljpkdeaaNum
import Derived.Test.YtnnanknljpkdeaaInts
import Derived.Test.YtnnanknljpkdeaaApp
import Derived.Test.YtnnanknljpkdeaaIntsW
import Derived.Test.YtnnanknljpkdeaaLib
import Derived.Test.YtnnanknljpkdeaaSpares
import Derived.Test.YtnnanknljpkdeaaOwn
import Derived.Test.YtnnanknljpkdeaaPage
import Derived.Test.YtnnanknljpkdeaaFlash
import Derived.Test.YtnnanknljpkdeaaFlashM
import Derived.Test.YtnnanknljpkdeaaFlashC
import Derived.Test.YtnnanknljpkdeaaCopyB
import Derived.Test.YtnnanknljpkdeaaRep
namespace Go.Proofs.Ytnnanknljpkdeaa
open Go.RowKit
theorem newF_no {n : Int} (h : inB n 2 6 = false) : newF n = ⟨[], []⟩ := by unfold newF; rw [h]; rfl
theorem newF_yes {n : Int} (h : inB n 2 6 = true) : newF n = ⟨List.replicate (n.toNat * 4) freeP, List.replicate n.toNat 0⟩ := by unfold newF; rw [h]; rfl
theorem flashOwn_nil (B C : Nat) (w : World) : FlashOwn B w C [.slice none 0 0, .slice none 0 0] ⟨[], []⟩ :=
  ⟨_, _, rfl, SOwn.nil0 _ _ _, SOwn.nil0 _ _ _, fun a n c a' n' c' h _ => by cases h⟩
theorem made_intAt {w : World} {b n : Nat} (h : w.heap.size = b) (hn : n ≤ 140737488355328) : Row eInt (w.alloc (.cells (madeCells #[.int .i64 0] n) 3)) b 3 (some ⟨b, 0, none⟩) n (List.replicate n (0 : Int)) := by
  subst h
  have := made_row (E := eInt) (z := .int .i64 0) (e := 3) w 0 rfl n hn
  simpa [show (Value.int .i64 0).cells = #[.int .i64 0] from rfl, show eInt.size = 1 from rfl] using this
theorem lit_free {w : World} {b : Nat} (h : w.heap.size = b) : Rd encPageS (w.alloc (.cells #[.int .i64 (-1), .int .i64 0] 42)) (some ⟨b, 0, none⟩) [freeP] := Rd.lit h rfl
theorem apart_new {α : Type} {E : Enc α} {w : World} {g c c' n m X : Nat} {e : TypeId} {A : Option Addr} {l : List α} (h : Row E w g e A c l) (hne : g ≠ X) : Apart (.slice A n c) (.slice (some ⟨X, 0, none⟩) m c') := by
  intro a n c a' n' c' h1 h2
  cases h1
  cases h2
  rw [h.addr]
  exact hne
set_option maxHeartbeats 4000000 in
theorem implNew_c (n : Int) (w : World) :
    Calls Try.prog 22 #[.int .i64 n] w (MadeFlash (newF n) w) := by
  have L0 := Loc.newAt w [.slice none 0 0, .slice none 0 0] 30 (b := w.heap.size) rfl
  cases h1 : inB n 2 6
  · have H1 := Lib.hid (newF_no h1)
    go_enter Try.func22, Try.ntmps22
    go_wp2_with (go_at_call 52; refine (within_any _ _ _ _).mono ?_; rintro e w' ⟨rfl, rfl⟩)
    refine bodyPost_ret (v := .agg #[.slice none 0 0, .slice none 0 0]) (by first | (simp [results, Try.results22, go_sem, ]; done) | (simp [results, Try.results22, go_sem, ]; rfl)) rfl ⟨_, _, rfl, ?_, (by repeat (first | with_reducible exact Below.refl _ _ | with_reducible assumption | with_reducible refine below_drewN ?_ _ | with_reducible refine Below.drew ?_ | with_reducible refine Below.alloc ?_ ?_ _ | with_reducible refine Below.setCell ?_ ?_ _ | (with_reducible refine Below.next ?_ (by assumption)) | omega | (focus (simp; omega)) | (focus (simp; done))))⟩
    rw [H1.out]; exact flashOwn_nil _ _ _
  · have H1 := Lib.hid (newF_yes h1)
    obtain ⟨n2, n6⟩ := inB_true.1 h1
    obtain ⟨m, rfl⟩ := Int.eq_ofNat_of_zero_le (show 0 ≤ n by omega)
    have hmk := run_make_el el_int m (by omega) (by omega)
    simp only [show (Value.int .i64 0).cells = #[.int .i64 0] from rfl, show eInt.size = 1 from rfl, Nat.mul_one] at hmk
    have H1' : Hid (newF (m : Int) = ⟨List.replicate (m * 4) freeP, List.replicate m 0⟩) := H1
    clear H1
    obtain ⟨M, hM⟩ : ∃ M, M = m * 4 := ⟨_, rfl⟩
    have hm4 : Hid ((m : Int) * 4 = (M : Int)) := Lib.hid (by omega)
    have hM1 : 8 ≤ M := by omega
    have hM2 : M ≤ 24 := by omega
    rw [← hM] at H1'
    clear hM
    go_enter Try.func22, Try.ntmps22
    go_wp2_with (go_at_call 52; refine (within_any _ _ _ _).mono ?_; rintro e w' ⟨rfl, rfl⟩)
    clear h1
    have hm4' := hm4.out
    have hwM := IntWalk.i64_in (M : Int) (by omega)
    go_region_with ((go_at_call 56; (with_reducible refine (repeatPageS_any _ freeP M _ (by repeat (first | ((with_reducible refine lit_free ?_); (focus (first | with_reducible rfl | omega | (simp; omega) | (simp; done)))) | with_reducible refine Rd.drew ?_ | with_reducible refine Rd.drewN ?_ _ | with_reducible refine Rd.alloc ?_ _ | (with_reducible refine Rd.below ?_ (by assumption)))) (by omega) (by omega)).mono ?_); rintro e w1 ⟨A1, c1, g1, rfl, hge1, hlt1, row1, hb1⟩; have M0 := Loc.carryB L0 (fun h => by ((repeat (first | with_reducible exact h | with_reducible refine Loc.drew ?_ | with_reducible refine Loc.drewN ?_ _ | with_reducible refine Loc.alloc ?_ _)); done)) hb1; obtain ⟨k0, k1, kf⟩ := M0.two; have zM := M0.lt; have hz1 := hb1.size; (try simp at hz1); (try simp at hge1)))
    all_goals clear hm4' hwM
    all_goals have R1 := Lib.hid row1
    all_goals clear row1
    all_goals go_wp2
    · have HA := Lib.hid (apart_new (n := M) (m := m) (c' := m) (X := w1.heap.size) R1.out (by omega))
      (refine bodyPost_ret (v := .agg #[.slice A1 M c1, .slice (some ⟨w1.heap.size, 0, none⟩) m m]) (by simp [results, Try.results22, go_sem, *]; done) rfl ⟨_, _, rfl, ?_, ?_⟩; (focus (rw [H1'.out]; exact ⟨_, _, rfl, SOwn.of_rown (g := g1) (l := List.replicate M freeP) (by repeat (first | with_reducible exact R1.out | with_reducible refine Row.drew ?_ | with_reducible refine Row.drewN ?_ _ | with_reducible refine Row.alloc ?_ _ | (with_reducible refine Row.below ?_ (by assumption)) | ((with_reducible refine Row.other ?_ ?_ _); rotate_left; (focus (first | omega | (simp; omega) | (simp; done)))) | ((with_reducible refine Row.far' (by assumption) ?_ ?_); (focus (first | omega | (simp; omega) | (simp; done)))))) (by simp) (by omega), SOwn.of_rown (g := w1.heap.size) (l := List.replicate m (0 : Int)) (by repeat (first | ((with_reducible refine made_intAt ?_ ?_); (focus (first | with_reducible rfl | omega | (simp; omega) | (simp; done))); (focus omega)) | with_reducible refine Row.drew ?_ | with_reducible refine Row.drewN ?_ _ | with_reducible refine Row.alloc ?_ _ | (with_reducible refine Row.below ?_ (by assumption)) | ((with_reducible refine Row.other ?_ ?_ _); rotate_left; (focus (first | omega | (simp; omega) | (simp; done)))))) (by simp) (by first | omega | (simp; done)), HA.out⟩)); (focus (exact (by repeat (first | with_reducible exact Below.refl _ _ | with_reducible assumption | with_reducible refine below_drewN ?_ _ | with_reducible refine Below.drew ?_ | with_reducible refine Below.alloc ?_ ?_ _ | with_reducible refine Below.setCell ?_ ?_ _ | (with_reducible refine Below.next ?_ (by assumption)) | omega | (focus (simp; omega)) | (focus (simp; done)))))))
    · have HA := Lib.hid (apart_new (n := M) (m := m) (c' := m) (X := w.heap.size + 1 + 1) R1.out (by omega))
      (refine bodyPost_ret (v := .agg #[.slice A1 M c1, .slice (some ⟨w.heap.size + 1 + 1, 0, none⟩) m m]) (by simp [results, Try.results22, go_sem, *]; done) rfl ⟨_, _, rfl, ?_, ?_⟩; (focus (rw [H1'.out]; exact ⟨_, _, rfl, SOwn.of_rown (g := g1) (l := List.replicate M freeP) (by repeat (first | with_reducible exact R1.out | with_reducible refine Row.drew ?_ | with_reducible refine Row.drewN ?_ _ | with_reducible refine Row.alloc ?_ _ | (with_reducible refine Row.below ?_ (by assumption)) | ((with_reducible refine Row.other ?_ ?_ _); rotate_left; (focus (first | omega | (simp; omega) | (simp; done)))) | ((with_reducible refine Row.far' (by assumption) ?_ ?_); (focus (first | omega | (simp; omega) | (simp; done)))))) (by simp) (by omega), SOwn.of_rown (g := w.heap.size + 1 + 1) (l := List.replicate m (0 : Int)) (by repeat (first | ((with_reducible refine made_intAt ?_ ?_); (focus (first | with_reducible rfl | omega | (simp; omega) | (simp; done))); (focus omega)) | with_reducible refine Row.drew ?_ | with_reducible refine Row.drewN ?_ _ | with_reducible refine Row.alloc ?_ _ | (with_reducible refine Row.below ?_ (by assumption)) | ((with_reducible refine Row.other ?_ ?_ _); rotate_left; (focus (first | omega | (simp; omega) | (simp; done)))))) (by simp) (by first | omega | (simp; done)), HA.out⟩)); (focus (exact (by repeat (first | with_reducible exact Below.refl _ _ | with_reducible assumption | with_reducible refine below_drewN ?_ _ | with_reducible refine Below.drew ?_ | with_reducible refine Below.alloc ?_ ?_ _ | with_reducible refine Below.setCell ?_ ?_ _ | (with_reducible refine Below.next ?_ (by assumption)) | omega | (focus (simp; omega)) | (focus (simp; done)))))))
    · have HA := Lib.hid (apart_new (n := M) (m := m) (c' := m) (X := w.heap.size + 1) R1.out (by omega))
      (refine bodyPost_ret (v := .agg #[.slice A1 M c1, .slice (some ⟨w.heap.size + 1, 0, none⟩) m m]) (by simp [results, Try.results22, go_sem, *]; done) rfl ⟨_, _, rfl, ?_, ?_⟩; (focus (rw [H1'.out]; exact ⟨_, _, rfl, SOwn.of_rown (g := g1) (l := List.replicate M freeP) (by repeat (first | with_reducible exact R1.out | with_reducible refine Row.drew ?_ | with_reducible refine Row.drewN ?_ _ | with_reducible refine Row.alloc ?_ _ | (with_reducible refine Row.below ?_ (by assumption)) | ((with_reducible refine Row.other ?_ ?_ _); rotate_left; (focus (first | omega | (simp; omega) | (simp; done)))) | ((with_reducible refine Row.far' (by assumption) ?_ ?_); (focus (first | omega | (simp; omega) | (simp; done)))))) (by simp) (by omega), SOwn.of_rown (g := w.heap.size + 1) (l := List.replicate m (0 : Int)) (by repeat (first | ((with_reducible refine made_intAt ?_ ?_); (focus (first | with_reducible rfl | omega | (simp; omega) | (simp; done))); (focus omega)) | with_reducible refine Row.drew ?_ | with_reducible refine Row.drewN ?_ _ | with_reducible refine Row.alloc ?_ _ | (with_reducible refine Row.below ?_ (by assumption)) | ((with_reducible refine Row.other ?_ ?_ _); rotate_left; (focus (first | omega | (simp; omega) | (simp; done)))))) (by simp) (by first | omega | (simp; done)), HA.out⟩)); (focus (exact (by repeat (first | with_reducible exact Below.refl _ _ | with_reducible assumption | with_reducible refine below_drewN ?_ _ | with_reducible refine Below.drew ?_ | with_reducible refine Below.alloc ?_ ?_ _ | with_reducible refine Below.setCell ?_ ?_ _ | (with_reducible refine Below.next ?_ (by assumption)) | omega | (focus (simp; omega)) | (focus (simp; done)))))))
set_option maxHeartbeats 4000000 in
theorem specNew_c (n : Int) (w : World) :
    Calls Try.prog 21 #[.int .i64 n] w (MadeFlash (newF n) w) := by
  have L0 := Loc.newAt w [.slice none 0 0, .slice none 0 0] 30 (b := w.heap.size) rfl
  have L1 := Loc.newAt (w.alloc (.cells #[.slice none 0 0, .slice none 0 0] 30)) [.slice none 0 0, .slice none 0 0] 30 (b := w.heap.size + 1) (by simp)
  cases h1 : inB n 2 6
  · have H1 := Lib.hid (newF_no h1)
    go_enter Try.func21, Try.ntmps21
    go_wp2_with (go_at_call 48; refine (l1In_any _ _ _ _).mono ?_; rintro e w' ⟨rfl, rfl⟩)
    refine bodyPost_ret (v := .agg #[.slice none 0 0, .slice none 0 0]) (by first | (simp [results, Try.results21, go_sem, ]; done) | (simp [results, Try.results21, go_sem, ]; rfl)) rfl ⟨_, _, rfl, ?_, (by repeat (first | with_reducible exact Below.refl _ _ | with_reducible assumption | with_reducible refine below_drewN ?_ _ | with_reducible refine Below.drew ?_ | with_reducible refine Below.alloc ?_ ?_ _ | with_reducible refine Below.setCell ?_ ?_ _ | (with_reducible refine Below.next ?_ (by assumption)) | omega | (focus (simp; omega)) | (focus (simp; done))))⟩
    rw [H1.out]; exact flashOwn_nil _ _ _
  · have H1 := Lib.hid (newF_yes h1)
    obtain ⟨n2, n6⟩ := inB_true.1 h1
    obtain ⟨m, rfl⟩ := Int.eq_ofNat_of_zero_le (show 0 ≤ n by omega)
    have hmk := run_make_el el_int m (by omega) (by omega)
    simp only [show (Value.int .i64 0).cells = #[.int .i64 0] from rfl, show eInt.size = 1 from rfl, Nat.mul_one] at hmk
    have H1' : Hid (newF (m : Int) = ⟨List.replicate (m * 4) freeP, List.replicate m 0⟩) := H1
    clear H1
    go_enter Try.func21, Try.ntmps21
    go_wp2_with (go_at_call 48; refine (l1In_any _ _ _ _).mono ?_; rintro e w' ⟨rfl, rfl⟩)
    clear h1 hmk
    go_loopw [4] (fun i wr => ∃ k : Nat, k ≤ m * 4 ∧ i = .int .i64 k ∧ Loc wr w.heap.size [.slice none 0 0, .slice none 0 0] ∧ Below w.heap.size w wr ∧ ∃ A1 c1 g1, ∃ lk : List Pg, Loc wr (w.heap.size + 1) [.slice A1 lk.length c1, .slice none 0 0] ∧ Hid (lk = List.replicate k freeP) ∧ (lk.length ≤ k ∧ k ≤ lk.length) ∧ w.heap.size + 1 < g1 ∧ Row encPageS wr g1 tyPageS A1 c1 lk) (fun i _ => m * 4 - (intOf i).toNat)
    case atStart => exact ⟨0, Nat.zero_le _, rfl, Loc.alloc L0 _, (by repeat (first | with_reducible exact Below.refl _ _ | with_reducible assumption | with_reducible refine below_drewN ?_ _ | with_reducible refine Below.drew ?_ | with_reducible refine Below.alloc ?_ ?_ _ | with_reducible refine Below.setCell ?_ ?_ _ | (with_reducible refine Below.next ?_ (by assumption)) | omega | (focus (simp; omega)) | (focus (simp; done)))), none, 0, w.heap.size + 2, [], L1, Lib.hid rfl, by simp, by omega, Row.nil _ _ _⟩
    case round =>
      obtain ⟨k, hk, rfl, LW, hbw, A1, c1, g1, lk, LV, HLK, ⟨hlk1, hlk2⟩, hg1, hrow⟩ := hrel
      have hsz := hbw.size
      have hzl := LW.lt
      have hzv := LV.lt
      obtain ⟨q0, q1, qf⟩ := LW.two
      obtain ⟨v0, v1, vf⟩ := LV.two
      have HRW := Lib.hid hrow
      clear hrow
      by_cases hlt : k < m * 4
      · have hlt' : (k : Int) < (m : Int) * 4 := by omega
        have hlit : Hid (Rd encPageS (wr.alloc (.cells #[.int .i64 (-1), .int .i64 0] 42)) (some ⟨wr.heap.size, 0, none⟩) [freeP]) := Lib.hid (lit_free rfl)
        have hrep : Hid (List.replicate (k + 1) freeP = List.replicate k freeP ++ [freeP]) := Lib.hid (by rw [List.replicate_succ'])
        go_wp2_with (at_builtin; refine wpList_append_row rfl _ _ rfl elPageS rfl (Row.alloc HRW.out _) _ _ [freeP] rfl hlit.out (by simp only [maxLen, List.length_cons, List.length_nil]; omega) (by simp only [List.length_cons, List.length_nil]; omega) ?_; intro A2 c2 g2 w3 l2 hl2 hle1 hle2 hrow3 hg3 hgg3; have N0 := Loc.carry LW (fun h => by ((repeat (first | with_reducible exact h | with_reducible refine Loc.drew ?_ | with_reducible refine Loc.drewN ?_ _ | with_reducible refine Loc.alloc ?_ _)); done)) hg3 (by omega); have N1 := Loc.carry LV (fun h => by ((repeat (first | with_reducible exact h | with_reducible refine Loc.drew ?_ | with_reducible refine Loc.drewN ?_ _ | with_reducible refine Loc.alloc ?_ _)); done)) hg3 (by omega); obtain ⟨n0, n1, nf⟩ := N0.two; obtain ⟨p0, p1, pf⟩ := N1.two; have zN := N1.lt)
        have hz3 := hg3.size
        simp at hz3 hgg3 hle1 hle2
        have ROW4 : Hid (Row encPageS (w3.setCell ⟨w.heap.size + 1, 0, none⟩ (.slice A2 l2.length c2)) g2 tyPageS A2 c2 l2) := Lib.hid (Row.other hrow3 (by simp; omega) _)
        go_roundw
        case rel =>
          exact ⟨k + 1, by omega, by go_num, Loc.other' (p := ⟨w.heap.size + 1, 0, none⟩) (by simp) N0 _, (by repeat (first | with_reducible exact hbw | with_reducible exact Below.refl _ _ | with_reducible refine below_drewN ?_ _ | with_reducible refine Below.drew ?_ | with_reducible refine Below.alloc ?_ ?_ _ | with_reducible refine Below.setCell ?_ ?_ _ | (with_reducible refine Below.next ?_ (by assumption)) | ((with_reducible refine Below.far' (by assumption) ?_ ?_ ?_); (focus (first | omega | (simp; omega) | (simp; done))); (focus (first | omega | (simp; omega) | (simp; done)))) | omega | (focus (simp; omega)) | (focus (simp; done)))), A2, c2, g2, l2, by simpa using N1.set 0 (.slice A2 l2.length c2), Lib.hid (by rw [hl2.out, HLK.out, hrep.out]), by omega, by omega, ROW4.out⟩
        case measure => simp [intOf]; omega
      · have hge : ¬ (k : Int) < (m : Int) * 4 := by omega
        have hkm : k = m * 4 := by omega
        have hmk := run_make_el el_int m (by omega) (by omega)
        simp only [show (Value.int .i64 0).cells = #[.int .i64 0] from rfl, show eInt.size = 1 from rfl, Nat.mul_one] at hmk
        have HL2 : Hid (lk = List.replicate (m * 4) freeP) := Lib.hid (by rw [HLK.out, hkm])
        have hne : g1 ≠ wr.heap.size := by
          have := HRW.out.lt (by omega)
          omega
        have HA := Lib.hid (apart_new (n := lk.length) (m := m) (c' := m) (X := wr.heap.size) HRW.out hne)
        go_wp2
        refine bodyPost_ret (v := .agg #[.slice A1 lk.length c1, .slice (some ⟨wr.heap.size, 0, none⟩) m m]) (by simp [results, Try.results21, go_sem, *]; done) rfl ⟨_, _, rfl, ?_, ?_⟩
        · rw [H1'.out, ← HL2.out]
          exact ⟨_, _, rfl, SOwn.of_rown (g := g1) (l := lk) (by repeat (first | with_reducible exact HRW.out | with_reducible refine Row.drew ?_ | with_reducible refine Row.drewN ?_ _ | with_reducible refine Row.alloc ?_ _ | (with_reducible refine Row.below ?_ (by assumption)) | ((with_reducible refine Row.other ?_ ?_ _); rotate_left; (focus (first | omega | (simp; omega) | (simp; done)))) | ((with_reducible refine Row.far' (by assumption) ?_ ?_); (focus (first | omega | (simp; omega) | (simp; done)))))) rfl (by omega), SOwn.of_rown (g := wr.heap.size) (l := List.replicate m (0 : Int)) (by repeat (first | ((with_reducible refine made_intAt ?_ ?_); (focus (first | with_reducible rfl | omega | (simp; omega) | (simp; done))); (focus omega)) | with_reducible refine Row.drew ?_ | with_reducible refine Row.drewN ?_ _ | with_reducible refine Row.alloc ?_ _ | (with_reducible refine Row.below ?_ (by assumption)) | ((with_reducible refine Row.other ?_ ?_ _); rotate_left; (focus (first | omega | (simp; omega) | (simp; done)))))) (by simp) (by first | omega | (simp; done)), HA.out⟩
        · exact (by repeat (first | with_reducible exact hbw | with_reducible exact Below.refl _ _ | with_reducible refine below_drewN ?_ _ | with_reducible refine Below.drew ?_ | with_reducible refine Below.alloc ?_ ?_ _ | with_reducible refine Below.setCell ?_ ?_ _ | (with_reducible refine Below.next ?_ (by assumption)) | ((with_reducible refine Below.far' (by assumption) ?_ ?_ ?_); (focus (first | omega | (simp; omega) | (simp; done))); (focus (first | omega | (simp; omega) | (simp; done)))) | omega | (focus (simp; omega)) | (focus (simp; done))))
end Go.Proofs.Ytnnanknljpkdeaa
