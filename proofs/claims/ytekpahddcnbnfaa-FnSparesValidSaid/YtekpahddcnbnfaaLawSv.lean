/-
  FnSparesValid: bad sectors are different. No condition.
-/
import Derived.Test.YtekpahddcnbnfaaBase
import Derived.Test.YtekpahddcnbnfaaNum
import Derived.Test.YtekpahddcnbnfaaInts
import Derived.Test.YtekpahddcnbnfaaApp
import Derived.Test.YtekpahddcnbnfaaIntsW
import Derived.Test.YtekpahddcnbnfaaLib
import Derived.Test.YtekpahddcnbnfaaSpares
import Derived.Test.YtekpahddcnbnfaaHome
import Derived.Test.YtekpahddcnbnfaaMark
import Derived.Test.YtekpahddcnbnfaaMarkS
import Derived.Test.YtekpahddcnbnfaaMarkA
import Derived.Test.YtekpahddcnbnfaaOwn
import Derived.Test.YtekpahddcnbnfaaSparesO
import Derived.Test.YtekpahddcnbnfaaDraw
import Derived.Test.YtekpahddcnbnfaaDrawK
import Derived.Test.YtekpahddcnbnfaaDrawSp
import Derived.Test.YtekpahddcnbnfaaSpP
import Derived.Test.YtekpahddcnbnfaaOpen
namespace Go.Proofs.Ytekpahddcnbnfaa
open Go.RowKit Go.ChangeShapes Go.WideShapes Go.ChangeAt Go.Deep Go.Joins
def SvMid (w : World) (s : Sp) (tk : List Int) (x : Int) (X b off c1 : Nat) (v : Value) (wf : World) : Prop :=
  ∃ (K : Nat) (A5 : Option Addr) (c5 : Nat) (l5 : List Int), v = .pointer (some ⟨K, 0, none⟩) ∧ Hid (l5 = s.bad ++ [x]) ∧ l5.length ≤ 1099511627776 ∧ l5.length ≤ c5 ∧ Loc wf K [.int .i64 s.sec, .int .i64 (s.cnt + 1), .slice A5 l5.length c5] ∧ Below w.heap.size w wf ∧ Loc wf X [.int .i64 s.sec, .int .i64 s.cnt, .slice (some ⟨b, off, none⟩) tk.length c1] ∧ Rd eInt wf (some ⟨b, off, none⟩) tk ∧ Rd eInt wf A5 l5
section
variable {w w' : World} {g J : Nat}
theorem Rd.pass {α : Type} {E : Enc α} {l : List α} (hg : w.grownBy w' (some g)) (hne : J ≠ g) (h : Rd E w (some ⟨J, 0, none⟩) l) : Rd E w' (some ⟨J, 0, none⟩) l :=
  h.grown hg fun b off _ he => by injection he with he; injection he with h1 h2; omega
theorem Rd.first {l : List Int} {b off : Nat} {x : Int} (h : Rd eInt w (some ⟨b, off, none⟩) l) (hl : 0 < l.length) (hx : x = l[0]) : w.cell? ⟨b, off, none⟩ = some (.int .i64 x) := by
  obtain ⟨b', off', he, _, hc⟩ := h.int hl
  injection he with he
  injection he with h1 h2
  subst h1 h2 hx
  simpa using hc
theorem Row.ltg {α : Type} {E : Enc α} {e : TypeId} {A : Option Addr} {c : Nat} {l : List α} (h : Row E w g e A c l) (hl : 0 < l.length) : g < w.heap.size := by
  rcases h with ⟨rfl, rfl, rfl⟩ | ⟨cur, rfl, hh, _⟩
  · simp at hl
  · exact (Array.getElem?_eq_some_iff.1 hh).1
theorem nameW {K : Act → World → Prop} {Q : Exit → Act → World → Prop} {a : Act} {W : World} (I : World → Prop) (hI : I W) (h : ∀ wf, I wf → Exit.then K Q Exit.normal a wf) : Exit.then K Q Exit.normal a W := h W hI
theorem have_then {P Q : Prop} (h : P) (k : P → Q) : Q := k h
theorem Loc.pass {cs : List Value} (hg : w.grownBy w' (some g)) (hne : J ≠ g) (h : Loc w J cs) : Loc w' J cs := h.grown hg hne
end
theorem lenB {a : List Int} {n : Nat} {x : Int} (h : a.length ≤ n) (hn : n ≤ 10) : a.length + [x].length ≤ maxLen ∧ (a.length + [x].length) * 8 ≤ 140737488355328 := by
  simp only [List.length_cons, List.length_nil, maxLen]; omega
namespace LwSv
set_option maxHeartbeats 8000000 in
theorem walk (A : Option Addr) (c : Nat) (l : List Int) (w : World) (hl : l.length ≤ c) (hm : c ≤ maxLen) (hr : Rd eByte w A l) (hb : ∀ x ∈ l, 0 ≤ x ∧ x ≤ 255) :
    Calls Try.prog 5 #[.slice A l.length c] w fun e w' => e = .returned (.bool true) ∧ Below w.heap.size w w' := by
  have HB := Lib.hid hb
  clear hb
  by_cases hsz : (1048576 : Int) < l.length
  · unfold maxLen at hm
    go_enter Try.func5, Try.ntmps5
    go_wp2
    go_ret
    exact ⟨rfl, (by repeat (first | with_reducible exact Below.refl _ _ | with_reducible assumption | with_reducible refine below_drewN ?_ _ | with_reducible refine Below.drew ?_ | with_reducible refine Below.alloc ?_ ?_ _ | with_reducible refine Below.setCell ?_ ?_ _ | (with_reducible refine Below.next ?_ (by assumption)) | omega | (focus (simp; omega)) | (focus (simp; done))))⟩
  · go_enter Try.func5, Try.ntmps5
    go_wp2_with fail
    refine (drawSv_any A c l _ hl hm hr HB.out).mono ?_
    rintro e w1 ⟨s, A1, c1, g1, rfl, hg1, row1, s0, s1, s2, s3, s4, hb1⟩
    have hz1 := hb1.size
    have hlc := row1.le
    have hcm : s.bad.length ≤ 100 := by omega
    obtain ⟨y, hy⟩ : ∃ y, y = sparesB s := ⟨_, rfl⟩
    have HY := Lib.hid hy
    have L3 := Loc.newAt w1 [.int .i64 s.sec, .int .i64 s.cnt, .slice A1 s.bad.length c1] 27 (b := w1.heap.size) rfl
    have RA : Hid (Rd eInt (w1.alloc (.cells #[.int .i64 s.sec, .int .i64 s.cnt, .slice A1 s.bad.length c1] 27)) A1 s.bad) := Lib.hid (Rd.alloc row1.rd _)
    have HBW := Lib.hid hb1
    clear hy row1 hb1
    go_wp2_with fail
    refine (implSpares_any s A1 c1 _ RA.out hlc (by omega)).mono ?_
    rw [← HY.out]
    rintro e w2 ⟨rfl, hb2⟩
    replace L3 := Loc.carryB L3 (fun h => by ((repeat (first | with_reducible exact h | with_reducible refine Loc.drew ?_ | with_reducible refine Loc.drewN ?_ _ | with_reducible refine Loc.alloc ?_ _)); done)) hb2
    obtain ⟨x0, x1, x2, xf⟩ := L3.three
    have RA2 := Lib.hid (Rd.below RA.out hb2)
    have HBW2 : Hid (Below w.heap.size w w2) := Lib.hid (Below.next (W := w) (by repeat (first | with_reducible exact HBW.out | with_reducible exact Below.refl _ _ | with_reducible refine below_drewN ?_ _ | with_reducible refine Below.drew ?_ | with_reducible refine Below.alloc ?_ ?_ _ | with_reducible refine Below.setCell ?_ ?_ _ | (with_reducible refine Below.next ?_ (by assumption)) | ((with_reducible refine Below.far' (by assumption) ?_ ?_ ?_); (focus (first | omega | (simp; omega) | (simp; done))); (focus (first | omega | (simp; omega) | (simp; done)))) | omega | (focus (simp; omega)) | (focus (simp; done)))) hb2)
    have hz2 := hb2.size
    simp at hz2
    clear hb2 RA HBW
    go_wp2_with fail
    refine (specSpares_any s A1 c1 _ RA2.out (by omega)).mono ?_
    rw [← HY.out]
    rintro e w3 ⟨rfl, hb3⟩
    clear x0 x1 x2 xf
    replace L3 := Loc.carryB L3 (fun h => by ((repeat (first | with_reducible exact h | with_reducible refine Loc.drew ?_ | with_reducible refine Loc.drewN ?_ _ | with_reducible refine Loc.alloc ?_ _)); done)) hb3
    have zL3 := L3.lt
    have RA3 := Lib.hid (Rd.below RA2.out hb3)
    have HBW3 : Hid (Below w.heap.size w w3) := Lib.hid (Below.next (W := w) HBW2.out hb3)
    have hz3 := hb3.size
    clear hb3 RA2 HBW2
    cases y
    · go_wp2_with (go_at_call 18; refine (alive_any _).mono ?_; rintro e w6 ⟨rfl, hb6⟩)
      go_ret
      exact ⟨rfl, (by repeat (first | with_reducible exact HBW3.out | with_reducible exact Below.refl _ _ | with_reducible refine below_drewN ?_ _ | with_reducible refine Below.drew ?_ | with_reducible refine Below.alloc ?_ ?_ _ | with_reducible refine Below.setCell ?_ ?_ _ | (with_reducible refine Below.next ?_ (by assumption)) | ((with_reducible refine Below.far' (by assumption) ?_ ?_ ?_); (focus (first | omega | (simp; omega) | (simp; done))); (focus (first | omega | (simp; omega) | (simp; done)))) | omega | (focus (simp; omega)) | (focus (simp; done))))⟩
    · by_cases h0 : (s.bad.length : Int) ≤ 0
      · obtain ⟨x0, x1, x2, xf⟩ := L3.three
        have hq : ((s.bad.length : Int) == 0) = true := by rw [beq_iff_eq]; omega
        go_wp2_with (go_at_call 18; refine (alive_any _).mono ?_; rintro e w6 ⟨rfl, hb6⟩)
        go_ret
        exact ⟨rfl, (by repeat (first | with_reducible exact HBW3.out | with_reducible exact Below.refl _ _ | with_reducible refine below_drewN ?_ _ | with_reducible refine Below.drew ?_ | with_reducible refine Below.alloc ?_ ?_ _ | with_reducible refine Below.setCell ?_ ?_ _ | (with_reducible refine Below.next ?_ (by assumption)) | ((with_reducible refine Below.far' (by assumption) ?_ ?_ ?_); (focus (first | omega | (simp; omega) | (simp; done))); (focus (first | omega | (simp; omega) | (simp; done)))) | omega | (focus (simp; omega)) | (focus (simp; done))))⟩
      · have hq : ((s.bad.length : Int) == 0) = false := by rw [beq_eq_false_iff_ne]; omega
        have h1 : 0 < s.bad.length := by omega
        have HP := Lib.hid (spares_pop HY.out.symm)
        have HT := Lib.hid (spares_twice h1)
        obtain ⟨b, off, rfl, hbl, hcc⟩ := RA3.out.int h1
        obtain ⟨x, hx⟩ : ∃ x, x = s.bad[0] := ⟨_, rfl⟩
        have HX := Lib.hid hx
        rw [← hx] at hcc HT
        obtain ⟨tk, htk⟩ : ∃ tk, tk = s.bad.take (s.bad.length - 1) := ⟨_, rfl⟩
        have htl : (tk.length : Int) = (s.bad.length : Int) - 1 := by rw [htk]; simp; omega
        have RT := Lib.hid (RA3.out.take (s.bad.length - 1))
        rw [← htk] at HP RT
        have hw1 : IntKind.i64.wrap ((s.bad.length : Int) - 1) = (tk.length : Int) := by rw [htl]; exact IntWalk.i64_in _ (by omega)
        have htk9 : tk.length ≤ 1099511627776 := by omega
        have hh1 : (tk.length : Int) ≤ (c1 : Int) := by omega
        have hh2 : tk.length ≤ c1 := by omega
        have hw2 : IntKind.i64.wrap (s.cnt + 1) = s.cnt + 1 := IntWalk.i64_in _ (by omega)
        obtain ⟨x0, x1, x2, xf⟩ := L3.three
        clear hx htl htk
        go_wp2
        go_region_held3 (fun w' => w'.cell? ⟨w1.heap.size, 0, none⟩ = some (.int .i64 s.sec) ∧ w'.cell? ⟨w1.heap.size, 1, none⟩ = some (.int .i64 s.cnt) ∧ w'.cell? ⟨w1.heap.size, 2, none⟩ = some (.slice (some ⟨b, off, none⟩) s.bad.length c1)) (first | assumption | (refine ⟨?_, ?_, ?_⟩ <;> assumption) | (refine ⟨?_, ?_, ?_⟩ <;> (simp [go_sem, *]; done)) | go_keep) (fail)
        have HBz : Below w3.heap.size w3 (w3.alloc (.cells #[.int .i64 s.sec, .int .i64 s.cnt, .slice (some ⟨b, off, none⟩) tk.length c1] 27)).drew := (by repeat (first | with_reducible exact Below.refl _ _ | with_reducible refine below_drewN ?_ _ | with_reducible refine Below.drew ?_ | with_reducible refine Below.alloc ?_ ?_ _ | with_reducible refine Below.setCell ?_ ?_ _ | omega | (focus (simp; omega)) | (focus (simp; done))))
        have L5z : Loc (w3.alloc (.cells #[.int .i64 s.sec, .int .i64 s.cnt, .slice (some ⟨b, off, none⟩) tk.length c1] 27)).drew w3.heap.size [.int .i64 s.sec, .int .i64 s.cnt, .slice (some ⟨b, off, none⟩) tk.length c1] := (by repeat (first | with_reducible assumption | with_reducible apply Loc.fill3 | with_reducible apply Loc.fill2 | ((with_reducible refine Loc.newAt' ?_ rfl); (focus (first | with_reducible rfl | omega | (simp; omega) | (simp; done)))) | with_reducible refine Loc.drew ?_ | with_reducible refine Loc.drewN ?_ _ | with_reducible refine Loc.alloc ?_ _ | (with_reducible refine Loc.below ?_ (by assumption)) | ((with_reducible refine Loc.other' ?_ ?_ _); (focus (first | omega | (simp; omega) | (simp; done)))) | ((with_reducible refine Loc.far' (by assumption) ?_ ?_); (focus (first | omega | (simp; omega) | (simp; done))))))
        obtain ⟨wz, hwz⟩ : ∃ wz, wz = (w3.alloc (.cells #[.int .i64 s.sec, .int .i64 s.cnt, .slice (some ⟨b, off, none⟩) tk.length c1] 27)).drew := ⟨_, rfl⟩
        have hzz : wz.heap.size = w3.heap.size + 1 := by rw [hwz]; simp
        rw [← hwz] at HBz L5z
        show Exit.then _ _ Exit.normal _ _
        rw [← hwz]
        have L3z := Loc.carryB L3 (fun h => by ((repeat (first | with_reducible exact h | with_reducible refine Loc.drew ?_ | with_reducible refine Loc.drewN ?_ _ | with_reducible refine Loc.alloc ?_ _)); done)) HBz
        have RAz := Lib.hid (Rd.below RA3.out HBz)
        have RTz := Lib.hid (Rd.below RT.out HBz)
        have HBWz : Hid (Below w.heap.size w wz) := Lib.hid (Below.next (W := w) HBW3.out HBz)
        obtain ⟨b1, off1, hbo, hbl1, hcc1⟩ := RAz.out.int h1
        injection hbo with hbo
        injection hbo with hb1' ho1
        subst hb1' ho1
        have hcx : wz.cell? ⟨b, off, none⟩ = some (.int .i64 x) := by rw [HX.out]; simpa using hcc1
        obtain ⟨v0, v1, v2, vf⟩ := L3z.three
        have h63a : ([] : List Int).length + s.bad.length ≤ maxLen := by simp [maxLen]; omega
        have hbya : (([] : List Int).length + s.bad.length) * 8 ≤ 140737488355328 := by simp; omega
        have hzw : w1.heap.size < wz.heap.size := by omega
        have hzw1 : w1.heap.size < wz.heap.size + 1 := by omega
        have hzw2 : w1.heap.size < wz.heap.size + 2 := by omega
        have hzw3 : w3.heap.size < wz.heap.size := by omega
        have hbw1 : b < wz.heap.size + 1 := by omega
        have hbw2 : b < wz.heap.size + 2 := by omega
        clear hzz hcc hcc1 x0 x1 x2 xf HBz hwz RA3 RT L3 HBW3 hbl
        go_wp2
        go_cut [6] (fun v wc => SvMid w s tk x w3.heap.size b off c1 v wc)
        case first =>
          go_region_held3 (fun w' => w'.cell? ⟨w1.heap.size, 0, none⟩ = some (.int .i64 s.sec) ∧ w'.cell? ⟨w1.heap.size, 1, none⟩ = some (.int .i64 s.cnt) ∧ w'.cell? ⟨w1.heap.size, 2, none⟩ = some (.slice (some ⟨b, off, none⟩) s.bad.length c1) ∧ w'.cell? ⟨b, off, none⟩ = some (.int .i64 x)) (first | assumption | (refine ⟨?_, ?_, ?_, ?_⟩ <;> assumption) | (refine ⟨?_, ?_, ?_, ?_⟩ <;> (simp [go_sem, *]; done)) | go_keep) (first
              | (refine step_append_row (A := ?_) (c := ?_) (g := ?_) (l := ([] : List Int)) rfl (.tmp 44) (.tmp 46) (by rfl) el_int ?_ ?_ (some ⟨b, off, none⟩) c1 s.bad ?_ ?_ h63a hbya ?_; rotate_left 3; (focus (exact rfl)); (focus (exact (by repeat (first | ((with_reducible refine Row.made0 ?_); (focus (first | with_reducible rfl | omega | (simp; omega) | (simp; done)))) | with_reducible refine Row.drew ?_ | with_reducible refine Row.drewN ?_ _ | with_reducible refine Row.alloc ?_ _ | (with_reducible refine Row.below ?_ (by assumption)))))); (focus (exact rfl)); (focus (exact (by repeat (first | with_reducible exact RAz.out | with_reducible refine Rd.drew ?_ | with_reducible refine Rd.drewN ?_ _ | with_reducible refine Rd.alloc ?_ _ | (with_reducible refine Rd.below ?_ (by assumption)))))); intro A4 c4 g4 w4 l4 hl4 hle1 hle2 row4 hg4 hgg4; simp only [List.length_nil, Nat.zero_add] at hle1 hle2; have h63b := lenB hle1 s4 (x := x); obtain ⟨h63b, hbyb⟩ := h63b; have hz4 := hg4.size; (try simp at hz4); (try simp at hgg4); have hg4l := Row.ltg row4 (Nat.lt_of_lt_of_le h1 hle2); have HG4 := Lib.hid hg4; have L34 := Loc.carry L3z (fun h => by ((repeat (first | with_reducible exact h | with_reducible refine Loc.drew ?_ | with_reducible refine Loc.drewN ?_ _ | with_reducible refine Loc.alloc ?_ _)); done)) hg4 (by first | omega | (focus (simp; omega)) | (focus (simp; done))); have RA4 := Lib.hid (Rd.far' RAz.out hg4 (by first | omega | (focus (simp; omega)) | (focus (simp; done))) (by repeat (first | with_reducible exact RAz.out | with_reducible refine Rd.drew ?_ | with_reducible refine Rd.drewN ?_ _ | with_reducible refine Rd.alloc ?_ _ | (with_reducible refine Rd.below ?_ (by assumption))))); have hcx4 := Rd.first RA4.out h1 HX.out; obtain ⟨p0, p1, p2, pf⟩ := L34.three; clear hg4 pf)
              | (refine step_append_row (A := A4) (c := c4) (g := g4) (l := l4) rfl (.tmp 47) (.tmp 52) (by rfl) el_int ?_ ?_ (some ⟨?_, 0, none⟩) 1 [x] ?_ ?_ h63b hbyb ?_; (focus (exact rfl)); (focus (exact (by repeat (first | with_reducible exact row4 | with_reducible refine Row.drew ?_ | with_reducible refine Row.drewN ?_ _ | with_reducible refine Row.alloc ?_ _ | (with_reducible refine Row.below ?_ (by assumption)) | ((with_reducible refine Row.other ?_ ?_ _); rotate_left; (focus (first | omega | (simp; omega) | (simp; done)))) | ((with_reducible refine Row.far' (by assumption) ?_ ?_); (focus (first | omega | (simp; omega) | (simp; done)))))))); rotate_left; (focus (exact rfl)); (focus (exact (by repeat (first | ((with_reducible refine Rd.lit ?_ ?_); (focus (first | with_reducible rfl | omega | (simp; omega) | (simp; done))); (focus (first | rfl | (simp; rfl) | (simp; done)))) | with_reducible refine Rd.drew ?_ | with_reducible refine Rd.alloc ?_ _ | ((with_reducible refine Rd.pass HG4.out ?_ ?_); (focus (first | omega | (simp; omega) | (simp; done)))))))); intro A5 c5 g5 w5 l5 hl5 hle3 hle4 row5 hg5 hgg5; have hz5 := hg5.size; (try simp at hz5); (try simp at hgg5); have HG5 := Lib.hid hg5; have L35 := Loc.carry L34 (fun h => by ((repeat (first | with_reducible exact h | with_reducible refine Loc.drew ?_ | with_reducible refine Loc.drewN ?_ _ | with_reducible refine Loc.alloc ?_ _)); done)) hg5 (by first | omega | (focus (simp; omega)) | (focus (simp; done))); obtain ⟨q0, q1, q2, qf⟩ := L35.three; have RA5 := Lib.hid (Rd.far' RAz.out hg5 (by first | omega | (focus (simp; omega)) | (focus (simp; done))) (by repeat (first | with_reducible exact RA4.out | with_reducible refine Rd.drew ?_ | with_reducible refine Rd.drewN ?_ _ | with_reducible refine Rd.alloc ?_ _ | (with_reducible refine Rd.below ?_ (by assumption))))); have hcx5 := Rd.first RA5.out h1 HX.out; clear hg5 qf; (try (refine have_then (P := Loc w5 (wz.heap.size) [.int .i64 0, .int .i64 0, .slice none 0 0]) ?_ ?_; (focus (repeat (first | ((with_reducible refine Loc.newAt' ?_ rfl); (focus (first | with_reducible rfl | omega | (simp; omega) | (simp; done)))) | with_reducible refine Loc.drew ?_ | with_reducible refine Loc.alloc ?_ _ | ((with_reducible refine Loc.pass HG5.out ?_ ?_); (focus (first | omega | (simp; omega) | (simp; done)))) | ((with_reducible refine Loc.pass HG4.out ?_ ?_); (focus (first | omega | (simp; omega) | (simp; done))))))); intro LB5; obtain ⟨k0, k1, k2, kf⟩ := LB5.three)); (try (refine have_then (P := Loc w5 (wz.heap.size + 1) [.int .i64 0, .int .i64 0, .slice none 0 0]) ?_ ?_; (focus (repeat (first | ((with_reducible refine Loc.newAt' ?_ rfl); (focus (first | with_reducible rfl | omega | (simp; omega) | (simp; done)))) | with_reducible refine Loc.drew ?_ | with_reducible refine Loc.alloc ?_ _ | ((with_reducible refine Loc.pass HG5.out ?_ ?_); (focus (first | omega | (simp; omega) | (simp; done)))) | ((with_reducible refine Loc.pass HG4.out ?_ ?_); (focus (first | omega | (simp; omega) | (simp; done))))))); intro LB5; obtain ⟨k0, k1, k2, kf⟩ := LB5.three)); (try (refine have_then (P := Loc w5 (wz.heap.size + 2) [.int .i64 0, .int .i64 0, .slice none 0 0]) ?_ ?_; (focus (repeat (first | ((with_reducible refine Loc.newAt' ?_ rfl); (focus (first | with_reducible rfl | omega | (simp; omega) | (simp; done)))) | with_reducible refine Loc.drew ?_ | with_reducible refine Loc.alloc ?_ _ | ((with_reducible refine Loc.pass HG5.out ?_ ?_); (focus (first | omega | (simp; omega) | (simp; done)))) | ((with_reducible refine Loc.pass HG4.out ?_ ?_); (focus (first | omega | (simp; omega) | (simp; done))))))); intro LB5; obtain ⟨k0, k1, k2, kf⟩ := LB5.three)); (try (refine have_then (P := Loc w5 (w4.heap.size) [.int .i64 0, .int .i64 0, .slice none 0 0]) ?_ ?_; (focus (repeat (first | ((with_reducible refine Loc.newAt' ?_ rfl); (focus (first | with_reducible rfl | omega | (simp; omega) | (simp; done)))) | with_reducible refine Loc.drew ?_ | with_reducible refine Loc.alloc ?_ _ | ((with_reducible refine Loc.pass HG5.out ?_ ?_); (focus (first | omega | (simp; omega) | (simp; done)))) | ((with_reducible refine Loc.pass HG4.out ?_ ?_); (focus (first | omega | (simp; omega) | (simp; done))))))); intro LB5; obtain ⟨k0, k1, k2, kf⟩ := LB5.three)); (try (refine have_then (P := Loc w5 (w4.heap.size + 1) [.int .i64 0, .int .i64 0, .slice none 0 0]) ?_ ?_; (focus (repeat (first | ((with_reducible refine Loc.newAt' ?_ rfl); (focus (first | with_reducible rfl | omega | (simp; omega) | (simp; done)))) | with_reducible refine Loc.drew ?_ | with_reducible refine Loc.alloc ?_ _ | ((with_reducible refine Loc.pass HG5.out ?_ ?_); (focus (first | omega | (simp; omega) | (simp; done)))) | ((with_reducible refine Loc.pass HG4.out ?_ ?_); (focus (first | omega | (simp; omega) | (simp; done))))))); intro LB5; obtain ⟨k0, k1, k2, kf⟩ := LB5.three))))
          all_goals
            have hg4 := HG4.out
            have hg5 := HG5.out
            have B5 : Hid (Below w.heap.size w w5) := Lib.hid (by repeat (first | with_reducible exact HBWz.out | with_reducible exact Below.refl _ _ | with_reducible refine below_drewN ?_ _ | with_reducible refine Below.drew ?_ | with_reducible refine Below.alloc ?_ ?_ _ | with_reducible refine Below.setCell ?_ ?_ _ | (with_reducible refine Below.next ?_ (by assumption)) | ((with_reducible refine Below.far' (by assumption) ?_ ?_ ?_); (focus (first | omega | (simp; omega) | (simp; done))); (focus (first | omega | (simp; omega) | (simp; done)))) | omega | (focus (simp; omega)) | (focus (simp; done))))
            have L55 : Loc w5 w3.heap.size [.int .i64 s.sec, .int .i64 s.cnt, .slice (some ⟨b, off, none⟩) tk.length c1] := (by repeat (first | with_reducible exact L5z | with_reducible refine Loc.drew ?_ | with_reducible refine Loc.alloc ?_ _ | ((with_reducible refine Loc.pass HG5.out ?_ ?_); (focus (first | omega | (simp; omega) | (simp; done)))) | ((with_reducible refine Loc.pass HG4.out ?_ ?_); (focus (first | omega | (simp; omega) | (simp; done))))))
            have RT5 : Rd eInt w5 (some ⟨b, off, none⟩) tk := (by repeat (first | with_reducible exact RTz.out | with_reducible refine Rd.drew ?_ | with_reducible refine Rd.drewN ?_ _ | with_reducible refine Rd.alloc ?_ _ | (with_reducible refine Rd.below ?_ (by assumption)) | ((with_reducible refine Rd.store RTz.out ?_ ?_ _); (focus (first | omega | (simp; omega) | (simp; done)))) | ((with_reducible refine Rd.far' RTz.out (by assumption) ?_ ?_); (focus (first | omega | (simp; omega) | (simp; done))))))
            have hz35 : w3.heap.size < w5.heap.size := L55.lt
            have hwz5 : wz.heap.size ≤ w5.heap.size := by omega
            have hlc5 := row5.le
            have hl5n : l5.length ≤ 1099511627776 := by simp only [List.length_cons, List.length_nil] at hle3; omega
            have HT5 : Hid (l5 = s.bad ++ [x]) := Lib.hid (by rw [hl5.out, hl4.out]; rfl)
            clear hg4 hg5 L34 L35 RA4 RA5 hcx4 hcx5 p0 p1 p2 q0 q1 q2 hl4 hl5
            go_wp2_with fail
            go_meet
            first
              | (refine ⟨w5.heap.size, A5, c5, l5, rfl, HT5, hl5n, hlc5, ?_, ?_, ?_, ?_, ?_⟩)
              | (refine ⟨wz.heap.size, A5, c5, l5, rfl, HT5, hl5n, hlc5, ?_, ?_, ?_, ?_, ?_⟩)
              | (refine ⟨wz.heap.size + 1, A5, c5, l5, rfl, HT5, hl5n, hlc5, ?_, ?_, ?_, ?_, ?_⟩)
              | (refine ⟨wz.heap.size + 2, A5, c5, l5, rfl, HT5, hl5n, hlc5, ?_, ?_, ?_, ?_, ?_⟩)
              | (refine ⟨w4.heap.size, A5, c5, l5, rfl, HT5, hl5n, hlc5, ?_, ?_, ?_, ?_, ?_⟩)
              | (refine ⟨w4.heap.size + 1, A5, c5, l5, rfl, HT5, hl5n, hlc5, ?_, ?_, ?_, ?_, ?_⟩)
            · exact (by repeat (first | with_reducible assumption | with_reducible apply Loc.fill3 | with_reducible apply Loc.fill2 | ((with_reducible refine Loc.newAt' ?_ rfl); (focus (first | with_reducible rfl | omega | (simp; omega) | (simp; done)))) | with_reducible refine Loc.drew ?_ | with_reducible refine Loc.drewN ?_ _ | with_reducible refine Loc.alloc ?_ _ | (with_reducible refine Loc.below ?_ (by assumption)) | ((with_reducible refine Loc.other' ?_ ?_ _); (focus (first | omega | (simp; omega) | (simp; done)))) | ((with_reducible refine Loc.far' (by assumption) ?_ ?_); (focus (first | omega | (simp; omega) | (simp; done))))))
            · exact (by repeat (first | with_reducible exact B5.out | with_reducible exact Below.refl _ _ | with_reducible refine below_drewN ?_ _ | with_reducible refine Below.drew ?_ | with_reducible refine Below.alloc ?_ ?_ _ | with_reducible refine Below.setCell ?_ ?_ _ | (with_reducible refine Below.next ?_ (by assumption)) | ((with_reducible refine Below.far' (by assumption) ?_ ?_ ?_); (focus (first | omega | (simp; omega) | (simp; done))); (focus (first | omega | (simp; omega) | (simp; done)))) | omega | (focus (simp; omega)) | (focus (simp; done))))
            · exact (by repeat (first | with_reducible exact L55 | with_reducible refine Loc.drew ?_ | with_reducible refine Loc.drewN ?_ _ | with_reducible refine Loc.alloc ?_ _ | (with_reducible refine Loc.below ?_ (by assumption)) | ((with_reducible refine Loc.other' ?_ ?_ _); (focus (first | omega | (simp; omega) | (simp; done)))) | ((with_reducible refine Loc.far' (by assumption) ?_ ?_); (focus (first | omega | (simp; omega) | (simp; done))))))
            · exact (by repeat (first | with_reducible exact RT5 | with_reducible refine Rd.drew ?_ | with_reducible refine Rd.drewN ?_ _ | with_reducible refine Rd.alloc ?_ _ | (with_reducible refine Rd.below ?_ (by assumption)) | ((with_reducible refine Rd.store RTz.out ?_ ?_ _); (focus (first | omega | (simp; omega) | (simp; done)))) | ((with_reducible refine Rd.far' RTz.out (by assumption) ?_ ?_); (focus (first | omega | (simp; omega) | (simp; done))))))
            · refine Row.rd (E := eInt) (g := g5) (c := c5) (e := 3) ?_
              exact (by repeat (first | with_reducible exact row5 | with_reducible refine Row.drew ?_ | with_reducible refine Row.drewN ?_ _ | with_reducible refine Row.alloc ?_ _ | (with_reducible refine Row.below ?_ (by assumption)) | ((with_reducible refine Row.other ?_ ?_ _); rotate_left; (focus (first | omega | (simp; omega) | (simp; done)))) | ((with_reducible refine Row.far' (by assumption) ?_ ?_); (focus (first | omega | (simp; omega) | (simp; done))))))
        case rest =>
          obtain ⟨K, A5, c5, l5, rfl, HL5, hl5n, hlc5, LK, BF, LT, RT, RL⟩ := hcut
          have HT5 : Hid (sparesB ⟨s.sec, s.cnt + 1, l5⟩ = false) := Lib.hid (by rw [HL5.out]; exact HT.out)
          have HRT := Lib.hid RT
          have HRL := Lib.hid RL
          have HBF := Lib.hid BF
          clear RT RL BF HL5
          obtain ⟨x0, x1, x2, xf⟩ := LT.three
          obtain ⟨y0, y1, y2, yf⟩ := LK.three
          go_wp2_with (first
            | (go_at_call 13; (with_reducible refine (implSpares_any ⟨s.sec, s.cnt, tk⟩ (some ⟨b, off, none⟩) c1 _ HRT.out hh2 htk9).mono ?_); rw [HP.out]; rintro e w6 ⟨rfl, hb6⟩; have LK6 := Loc.carryB LK (fun h => by ((repeat (first | with_reducible exact h | with_reducible refine Loc.drew ?_ | with_reducible refine Loc.drewN ?_ _ | with_reducible refine Loc.alloc ?_ _)); done)) hb6; obtain ⟨z0, z1, z2, zf⟩ := LK6.three; have HRL6 := Lib.hid (Rd.below HRL.out hb6); have HB6 : Hid (Below w.heap.size w w6) := Lib.hid (Below.next (W := w) HBF.out hb6); clear hb6)
            | (go_at_call 13; (with_reducible refine (implSpares_any ⟨s.sec, s.cnt + 1, l5⟩ A5 c5 _ HRL6.out hlc5 hl5n).mono ?_); rw [HT5.out]; rintro e w7 ⟨rfl, hb7⟩; have HB7 : Hid (Below w.heap.size w w7) := Lib.hid (Below.next (W := w) HB6.out hb7); clear hb7))
          go_ret
          exact ⟨rfl, HB7.out⟩
set_option maxRecDepth 100000 in
theorem lifted (os : Os) (started : os.Started) (H : Type) (enc : TypeId × Value → H) :
    ReturnsInHanded {} Try.checked os 5 .any (Rows.fnSparesValidSpec.pre6 enc Try.prog Try.f5 Rows.fnSparesValidRow.domain false) (Rows.fnSparesValidSpec.post enc Try.prog Try.f5 false true false false) := by
  refine returnsInHanded_of_change (C := Try.checked) own_knob started (by kernel_rfl) Try.func5
    (ChangeSpec.witness6 (enc := enc) (C := Try.checked) false ⟨#[], #[.slice none 0 0], []⟩ 8 (by kernel_rfl) (by kernel_rfl) (by kernel_rfl) (by kernel_rfl)) ?_
  intro W base args ds gs before hval0 hW hcnd _
  have hval : ∀ (j : Nat) t v, Try.f5.params[j]? = some t → args[j]? = some v → Value.okWide Try.prog W .any base t v := hval0
  have hW' := hW
  obtain ⟨p, q, hA0, hV, rfl, hfz, hnd⟩ := hW
  have hA : DataW.TrodAll enc Try.prog W 0 (fun _ => true) true Try.f5.params.toList args.toList ds p := hA0
  rw [Try.params5] at hA hval
  obtain ⟨v0, vs0, d0, ds0, p0, q0, hargs, rfl, rfl, h0, r0⟩ := trodAll_cons hA
  obtain ⟨rfl, rfl, rfl⟩ := trodAll_nil r0
  obtain rfl : args = #[v0] := by cases args; simp_all
  obtain ⟨rfl, rfl⟩ := trodVars_none hV
  have k0 := h0
  have lt0 : ∀ x ∈ p0, x.block < W.heap.size := by obtain ⟨m, hm⟩ := k0; exact DataW.trod_lt m _ _ _ hm
  obtain ⟨A0, c0, l0, rfl, hl0, hm0, rd0, by0⟩ := open_bytes Try.underlying33 Try.underlying5 (by kernel_rfl) (hval 0 33 v0 rfl rfl) h0
  clear hA0 hval0
  refine (walk A0 c0 l0 W hl0 hm0 rd0 by0).mono fun e W' ⟨he, bel⟩ => ?_
  subst he
  exact ⟨_, rfl, _, _, _, [], _, [], hW', trodAll_mk1 (shut_bool Try.underlying4 _), (trodAll_cons_mk (Below.trod laid_out (by kernel_rfl) (of_decide_eq_true (by kernel_rfl)) k0 bel lt0) trodAll_mk0), rfl, bel.frame _, fun h => by cases h⟩
theorem over : Rows.fnSparesValidRow.holds Try.pinned (OpenSpec.ofChange Rows.fnSparesValidSpec) :=
  OpenClaim.holds_of_wide 5 Try.f5 rfl rfl rfl rfl rfl rfl rfl ⟨rfl, rfl, rfl, rfl, rfl⟩ rfl rfl rfl rfl rfl (by kernel_rfl) Try.func5 (by kernel_rfl)
    (of_decide_eq_true (by kernel_rfl)) (by unfold Func.isWrapper; first | (rw [if_pos (by decide +kernel)]; kernel_rfl) | (rw [if_neg (by decide +kernel)]; exact ⟨rfl, rfl⟩))
    (fun os started H enc _ => lifted os started H enc)
theorem proved : Rows.FnSparesValidSaid := over
end LwSv
end Go.Proofs.Ytekpahddcnbnfaa
