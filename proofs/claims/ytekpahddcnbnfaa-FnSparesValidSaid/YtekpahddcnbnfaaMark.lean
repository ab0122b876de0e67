/-
  MarkBad: the program's and the reference's.
-/
import Derived.Test.YtekpahddcnbnfaaBase
import Derived.Test.YtekpahddcnbnfaaNum
import Derived.Test.YtekpahddcnbnfaaInts
import Derived.Test.YtekpahddcnbnfaaApp
import Derived.Test.YtekpahddcnbnfaaIntsW
import Derived.Test.YtekpahddcnbnfaaLib
import Derived.Test.YtekpahddcnbnfaaSpares
import Derived.Test.YtekpahddcnbnfaaHome
namespace Go.Proofs.Ytekpahddcnbnfaa
open Go.RowKit
def markB (s : Sp) (a : Int) : Sp := if sparesB s && inB a 0 (s.sec - 1) then (if (s.bad.length : Int) = s.cnt then s else ⟨s.sec, s.cnt, s.bad ++ [homeGo s.bad s.sec a]⟩) else ⟨0, 0, []⟩
def markOk (s : Sp) (a : Int) : Bool := sparesB s && inB a 0 (s.sec - 1) && !decide ((s.bad.length : Int) = s.cnt)
/-- A fresh list of spare sectors and a bool come back. -/
def FreshSpB (e : TypeId) (s : Sp) (b : Bool) (w : World) (en : Ending) (w' : World) : Prop :=
  ∃ A c g, en = .returned (.tuple #[.agg #[.int .i64 s.sec, .int .i64 s.cnt, .slice A s.bad.length c], .bool b]) ∧ w.heap.size ≤ g ∧ Row eInt w' g e A c s.bad ∧ Below w.heap.size w w'
def MarkMid (w : World) (e : TypeId) (s : Sp) (A : Option Addr) (c : Nat) (v : Value) (wc : World) : Prop :=
  ∃ X A2 c2 g2, v = .pointer (some ⟨X, 0, none⟩) ∧ w.heap.size + 1 < X ∧ Loc wc X [.int .i64 s.sec, .int .i64 s.cnt, .slice A2 s.bad.length c2] ∧ Loc wc w.heap.size [.int .i64 s.sec, .int .i64 s.cnt, .slice A s.bad.length c] ∧
    Loc wc (w.heap.size + 1) [.int .i64 0, .int .i64 0, .slice none 0 0] ∧ Row eInt wc g2 e A2 c2 s.bad ∧ w.heap.size + 2 ≤ g2 ∧ g2 ≠ X ∧ Rd eInt wc A s.bad ∧ Below w.heap.size w wc
set_option maxHeartbeats 2000000 in
theorem implMark_mid (s : Sp) (A : Option Addr) (c : Nat) (a : Int) (w : World) (ha : Rd eInt w A s.bad) (hlc0 : s.bad.length ≤ c) (hnil : A = none → c = 0) (hs : sparesB s = true) (hi : inB a 0 (s.sec - 1) = true) :
    Calls Try.prog 21 #[.agg #[.int .i64 s.sec, .int .i64 s.cnt, .slice A s.bad.length c], .int .i64 a] w (FreshSpB 3 (markB s a) (markOk s a) w) := by
  obtain ⟨⟨s0, s1⟩, ⟨c0, c1⟩, hlc, _⟩ := spares_parts hs
  obtain ⟨a0, a1⟩ := inB_true.1 hi
  have HS := Lib.hid hs
  have hl := Lib.hid (show s.bad.length ≤ 1099511627776 by omega)
  have L0 := Loc.new w [.int .i64 s.sec, .int .i64 s.cnt, .slice A s.bad.length c] 27
  have L1 := Loc.newAt (w.alloc (.cells #[.int .i64 s.sec, .int .i64 s.cnt, .slice A s.bad.length c] 27)) [.int .i64 0, .int .i64 0, .slice none 0 0] 27 (b := w.heap.size + 1) (by simp)
  go_enter Try.func21, Try.ntmps21
  go_wp2_with fail
  refine (implSpares_any s A c _ (by repeat (first | with_reducible assumption | with_reducible refine Rd.drew ?_ | with_reducible refine Rd.drewN ?_ _ | with_reducible refine Rd.alloc ?_ _ | (with_reducible refine Rd.below ?_ (by assumption)))) hlc0 hl.out).mono ?_
  rw [HS.out]
  rintro e w1 ⟨rfl, hb1⟩
  have M0 := Loc.carryB L0 (fun h => by ((repeat (first | with_reducible exact h | with_reducible refine Loc.drew ?_ | with_reducible refine Loc.drewN ?_ _ | with_reducible refine Loc.alloc ?_ _)); done)) hb1
  have M1 := Loc.carryB L1 (fun h => by ((repeat (first | with_reducible exact h | with_reducible refine Loc.drew ?_ | with_reducible refine Loc.drewN ?_ _ | with_reducible refine Loc.alloc ?_ _)); done)) hb1
  obtain ⟨k0, k1, k2, kf⟩ := M0.three
  obtain ⟨j0, j1, j2, jf⟩ := M1.three
  have hra := Lib.hid (Rd.below (Rd.alloc (Rd.alloc ha _) _) hb1)
  have B1 : Hid (Below w.heap.size w w1) := Lib.hid ((by repeat (first | with_reducible exact Below.refl _ _ | with_reducible assumption | with_reducible refine below_drewN ?_ _ | with_reducible refine Below.drew ?_ | with_reducible refine Below.alloc ?_ ?_ _ | with_reducible refine Below.setCell ?_ ?_ _ | (with_reducible refine Below.next ?_ (by assumption)) | omega | (focus (simp; omega)) | (focus (simp; done)))))
  have hz1 : w.heap.size + 1 < w1.heap.size := M1.lt
  have HA0 := Lib.hid ha
  clear hb1 L0 L1 ha
  go_wp2_with (go_at_call 29; refine (within_any _ _ _ _).mono ?_; rintro e w' ⟨rfl, rfl⟩)
  go_cut [6] (fun v wc => MarkMid w 3 s A c v wc)
  case first =>
    go_region_held3 (fun w' => w'.cell? ⟨w.heap.size, 0, none⟩ = some (.int .i64 s.sec) ∧ w'.cell? ⟨w.heap.size, 1, none⟩ = some (.int .i64 s.cnt) ∧ w'.cell? ⟨w.heap.size, 2, none⟩ = some (.slice A s.bad.length c)) (first | (refine ⟨?_, ?_, ?_⟩ <;> (simp [go_sem, *]; done)) | go_keep)
      (first
        | (go_at_call 38; (with_reducible refine (cloneInts_any A c s.bad _ (by repeat (first | with_reducible exact hra.out | with_reducible refine Rd.drew ?_ | with_reducible refine Rd.drewN ?_ _ | with_reducible refine Rd.alloc ?_ _ | (with_reducible refine Rd.below ?_ (by assumption)))) hl.out hnil).mono ?_); rintro e w2 ⟨A2, c2, g2, rfl, hg2, row2, hb2⟩; obtain ⟨hc2, hf2⟩ := bcell hb2; have q0 := Loc.carryB M0 (fun h => by ((repeat (first | with_reducible exact h | with_reducible refine Loc.drew ?_ | with_reducible refine Loc.drewN ?_ _ | with_reducible refine Loc.alloc ?_ _)); done)) hb2; obtain ⟨m0, m1, m2, mf⟩ := q0.three))
    all_goals
      have hz2 := hb2.size
      simp at hg2 hz2
      go_wp2_with fail
      go_meet
      first
        | (obtain ⟨g3, row3, hgX, hg3⟩ := Row.avoid (X := w2.heap.size) (B := w.heap.size + 2) row2 (row2.made?.imp id (fun h => by omega)) (by omega) (by omega)
           refine ⟨w2.heap.size, A2, c2, g3, rfl, by omega, ?_, ?_, ?_, ?_, by omega, hgX, ?_, ?_⟩)
        | (obtain ⟨g3, row3, hgX, hg3⟩ := Row.avoid (X := w1.heap.size) (B := w.heap.size + 2) row2 (row2.made?.imp id (fun h => by omega)) (by omega) (by omega)
           refine ⟨w1.heap.size, A2, c2, g3, rfl, by omega, ?_, ?_, ?_, ?_, by omega, hgX, ?_, ?_⟩)
      · exact (by repeat (first | with_reducible assumption | with_reducible apply Loc.fill3 | with_reducible apply Loc.fill2 | ((with_reducible refine Loc.newAt' ?_ rfl); (focus (first | with_reducible rfl | omega | (simp; omega) | (simp; done)))) | with_reducible refine Loc.drew ?_ | with_reducible refine Loc.drewN ?_ _ | with_reducible refine Loc.alloc ?_ _ | (with_reducible refine Loc.below ?_ (by assumption)) | ((with_reducible refine Loc.other' ?_ ?_ _); (focus (first | omega | (simp; omega) | (simp; done)))) | ((with_reducible refine Loc.far' (by assumption) ?_ ?_); (focus (first | omega | (simp; omega) | (simp; done))))))
      · exact (by repeat (first | with_reducible assumption | with_reducible apply Loc.fill3 | with_reducible apply Loc.fill2 | ((with_reducible refine Loc.newAt' ?_ rfl); (focus (first | with_reducible rfl | omega | (simp; omega) | (simp; done)))) | with_reducible refine Loc.drew ?_ | with_reducible refine Loc.drewN ?_ _ | with_reducible refine Loc.alloc ?_ _ | (with_reducible refine Loc.below ?_ (by assumption)) | ((with_reducible refine Loc.other' ?_ ?_ _); (focus (first | omega | (simp; omega) | (simp; done)))) | ((with_reducible refine Loc.far' (by assumption) ?_ ?_); (focus (first | omega | (simp; omega) | (simp; done))))))
      · exact (by repeat (first | with_reducible assumption | with_reducible apply Loc.fill3 | with_reducible apply Loc.fill2 | ((with_reducible refine Loc.newAt' ?_ rfl); (focus (first | with_reducible rfl | omega | (simp; omega) | (simp; done)))) | with_reducible refine Loc.drew ?_ | with_reducible refine Loc.drewN ?_ _ | with_reducible refine Loc.alloc ?_ _ | (with_reducible refine Loc.below ?_ (by assumption)) | ((with_reducible refine Loc.other' ?_ ?_ _); (focus (first | omega | (simp; omega) | (simp; done)))) | ((with_reducible refine Loc.far' (by assumption) ?_ ?_); (focus (first | omega | (simp; omega) | (simp; done))))))
      · exact (by repeat (first | with_reducible exact row3 | with_reducible refine Row.drew ?_ | with_reducible refine Row.drewN ?_ _ | with_reducible refine Row.alloc ?_ _ | (with_reducible refine Row.below ?_ (by assumption)) | ((with_reducible refine Row.other ?_ ?_ _); rotate_left; (focus (first | omega | (simp; omega) | (simp; done)))) | ((with_reducible refine Row.far' (by assumption) ?_ ?_); (focus (first | omega | (simp; omega) | (simp; done))))))
      · exact (by repeat (first | with_reducible exact hra.out | with_reducible refine Rd.drew ?_ | with_reducible refine Rd.drewN ?_ _ | with_reducible refine Rd.alloc ?_ _ | (with_reducible refine Rd.below ?_ (by assumption)) | ((with_reducible refine Rd.store HA0.out ?_ ?_ _); (focus (first | omega | (simp; omega) | (simp; done)))) | ((with_reducible refine Rd.far' HA0.out (by assumption) ?_ ?_); (focus (first | omega | (simp; omega) | (simp; done))))))
      · exact (by repeat (first | with_reducible exact B1.out | with_reducible exact Below.refl _ _ | with_reducible refine below_drewN ?_ _ | with_reducible refine Below.drew ?_ | with_reducible refine Below.alloc ?_ ?_ _ | with_reducible refine Below.setCell ?_ ?_ _ | (with_reducible refine Below.next ?_ (by assumption)) | ((with_reducible refine Below.far' (by assumption) ?_ ?_ ?_); (focus (first | omega | (simp; omega) | (simp; done))); (focus (first | omega | (simp; omega) | (simp; done)))) | omega | (focus (simp; omega)) | (focus (simp; done))))
  case rest =>
    obtain ⟨X, A2, c2, g2, rfl, hX, LX, L0, L1, row2, hg2, hgX, hra, hbb⟩ := hcut
    obtain ⟨x0, x1, x2, xf⟩ := LX.three
    obtain ⟨m0, m1, m2, mf⟩ := L0.three
    obtain ⟨n0, n1, n2, nf⟩ := L1.three
    have hxl := LX.lt
    have h1l := L1.lt
    by_cases hfull : (s.bad.length : Int) = s.cnt
    · have hff : ((s.bad.length : Int) == s.cnt) = true := by simpa using hfull
      have e1 : markB s a = s := by simp [markB, hi, HS.out, hfull]
      have e2 : markOk s a = false := by simp [markOk, hi, HS.out, hfull]
      clear hs hfull
      go_wp2_with fail
      rw [e1, e2]
      refine bodyPost_ret (v := .tuple #[.agg #[.int .i64 s.sec, .int .i64 s.cnt, .slice A2 s.bad.length c2], .bool false]) (by simp [results, Try.results21, go_sem, *]) rfl ⟨A2, c2, g2, rfl, by omega, ?_, ?_⟩
      · exact (by repeat (first | with_reducible exact row2 | with_reducible refine Row.drew ?_ | with_reducible refine Row.drewN ?_ _ | with_reducible refine Row.alloc ?_ _ | (with_reducible refine Row.below ?_ (by assumption)) | ((with_reducible refine Row.other ?_ ?_ _); rotate_left; (focus (first | omega | (simp; omega) | (simp; done)))) | ((with_reducible refine Row.far' (by assumption) ?_ ?_); (focus (first | omega | (simp; omega) | (simp; done))))))
      · exact (by repeat (first | with_reducible exact hbb | with_reducible exact Below.refl _ _ | with_reducible refine below_drewN ?_ _ | with_reducible refine Below.drew ?_ | with_reducible refine Below.alloc ?_ ?_ _ | with_reducible refine Below.setCell ?_ ?_ _ | (with_reducible refine Below.next ?_ (by assumption)) | ((with_reducible refine Below.far' (by assumption) ?_ ?_ ?_); (focus (first | omega | (simp; omega) | (simp; done))); (focus (first | omega | (simp; omega) | (simp; done)))) | omega | (focus (simp; omega)) | (focus (simp; done))))
    · have hff : ((s.bad.length : Int) == s.cnt) = false := by simpa using hfull
      have e1 : markB s a = ⟨s.sec, s.cnt, s.bad ++ [homeGo s.bad s.sec a]⟩ := by simp [markB, hi, HS.out, hfull]
      have e2 : markOk s a = true := by simp [markOk, hi, HS.out, hfull]
      have h63 : s.bad.length + [homeGo s.bad s.sec a].length ≤ maxLen := by simp [maxLen]; omega
      have hby : (s.bad.length + [homeGo s.bad s.sec a].length) * 8 ≤ 140737488355328 := by simp; omega
      clear hs hfull
      go_wp2_with fail
      go_region_law ((first
        | (go_simp; go_at_call 33; (with_reducible refine (homeOf_any s A c a _ HS.out (by omega) (by omega) (by repeat (first | with_reducible exact hra | with_reducible refine Rd.drew ?_ | with_reducible refine Rd.drewN ?_ _ | with_reducible refine Rd.alloc ?_ _ | (with_reducible refine Rd.below ?_ (by assumption))))).mono ?_); rintro e w3 ⟨rfl, hb3⟩; obtain ⟨hc3, hf3⟩ := bcell hb3; have hz3 := hb3.size; (try simp at hz3); have LX3 := Loc.carryB LX (fun h => by ((repeat (first | with_reducible exact h | with_reducible refine Loc.drew ?_ | with_reducible refine Loc.drewN ?_ _ | with_reducible refine Loc.alloc ?_ _)); done)) hb3; have L13 := Loc.carryB L1 (fun h => by ((repeat (first | with_reducible exact h | with_reducible refine Loc.drew ?_ | with_reducible refine Loc.drewN ?_ _ | with_reducible refine Loc.alloc ?_ _)); done)) hb3; obtain ⟨p0, p1, p2, pf⟩ := LX3.three; have zX3 := LX3.lt; have z13 := L13.lt; dsimp only)
        | (go_must (refine step_append_row (A := A2) (c := c2) (g := g2) (l := s.bad) rfl (.tmp 35) (.tmp 39) (by rfl) el_int (by rfl) ?_ (some ⟨w3.heap.size, 0, none⟩) 1 [homeGo s.bad s.sec a] (by rfl) ?_ h63 hby ?_; (focus (exact (by repeat (first | with_reducible exact row2 | with_reducible refine Row.drew ?_ | with_reducible refine Row.drewN ?_ _ | with_reducible refine Row.alloc ?_ _ | (with_reducible refine Row.below ?_ (by assumption)) | ((with_reducible refine Row.other ?_ ?_ _); rotate_left; (focus (first | omega | (simp; omega) | (simp; done)))) | ((with_reducible refine Row.far' (by assumption) ?_ ?_); (focus (first | omega | (simp; omega) | (simp; done)))))))); (focus (exact (by repeat (first | ((with_reducible refine Rd.lit ?_ ?_); (focus (first | with_reducible rfl | omega | (simp; omega) | (simp; done))); (focus (first | rfl | (simp; rfl) | (simp; done)))) | with_reducible refine Rd.drew ?_ | with_reducible refine Rd.drewN ?_ _ | with_reducible refine Rd.alloc ?_ _ | (with_reducible refine Rd.below ?_ (by assumption)))))); intro A5 c5 g5 w5 l5 hl5 hle5 hle5' row5 hgr5 hgg5; have K5 := Loc.carry LX3 (fun h => by ((repeat (first | with_reducible exact h | with_reducible refine Loc.drew ?_ | with_reducible refine Loc.drewN ?_ _ | with_reducible refine Loc.alloc ?_ _)); done)) hgr5 (Ne.symm hgX); have J5 := Loc.carry L13 (fun h => by ((repeat (first | with_reducible exact h | with_reducible refine Loc.drew ?_ | with_reducible refine Loc.drewN ?_ _ | with_reducible refine Loc.alloc ?_ _)); done)) hgr5 (by omega); obtain ⟨y0, y1, y2, yf⟩ := K5.three; obtain ⟨z0, z1, z2, zf⟩ := J5.three; have B5 := Below.far (B := w.heap.size) (a := w) (by repeat (first | with_reducible exact hbb | with_reducible exact Below.refl _ _ | with_reducible refine below_drewN ?_ _ | with_reducible refine Below.drew ?_ | with_reducible refine Below.alloc ?_ ?_ _ | with_reducible refine Below.setCell ?_ ?_ _ | (with_reducible refine Below.next ?_ (by assumption)) | ((with_reducible refine Below.far' (by assumption) ?_ ?_ ?_); (focus (first | omega | (simp; omega) | (simp; done))); (focus (first | omega | (simp; omega) | (simp; done)))) | omega | (focus (simp; omega)) | (focus (simp; done)))) hgr5 (by first | omega | (focus (simp; omega)) | (focus (simp; done))) (by omega)))))
      all_goals
        go_wp2_with fail
        rw [e1, e2]
        have e5 := hl5.out
        subst e5
        have hg5 : g5 ≠ X ∧ w.heap.size + 2 ≤ g5 := by
          rcases hgg5 with h | h
          · rw [h]; exact ⟨hgX, hg2⟩
          · simp at h; omega
        obtain ⟨hg5X, hg5b⟩ := hg5
        refine bodyPost_ret (v := .tuple #[.agg #[.int .i64 s.sec, .int .i64 s.cnt, .slice A5 (s.bad ++ [homeGo s.bad s.sec a]).length c5], .bool true]) (by simp [results, Try.results21, go_sem, *]) rfl ⟨A5, c5, g5, rfl, ?_, ?_, ?_⟩
        · omega
        · exact (by repeat (first | with_reducible exact row5 | with_reducible refine Row.drew ?_ | with_reducible refine Row.drewN ?_ _ | with_reducible refine Row.alloc ?_ _ | (with_reducible refine Row.below ?_ (by assumption)) | ((with_reducible refine Row.other ?_ ?_ _); rotate_left; (focus (first | omega | (simp; omega) | (simp; done)))) | ((with_reducible refine Row.far' (by assumption) ?_ ?_); (focus (first | omega | (simp; omega) | (simp; done))))))
        · exact (by repeat (first | with_reducible exact B5 | with_reducible exact Below.refl _ _ | with_reducible refine below_drewN ?_ _ | with_reducible refine Below.drew ?_ | with_reducible refine Below.alloc ?_ ?_ _ | with_reducible refine Below.setCell ?_ ?_ _ | (with_reducible refine Below.next ?_ (by assumption)) | ((with_reducible refine Below.far' (by assumption) ?_ ?_ ?_); (focus (first | omega | (simp; omega) | (simp; done))); (focus (first | omega | (simp; omega) | (simp; done)))) | omega | (focus (simp; omega)) | (focus (simp; done))))
end Go.Proofs.Ytekpahddcnbnfaa
