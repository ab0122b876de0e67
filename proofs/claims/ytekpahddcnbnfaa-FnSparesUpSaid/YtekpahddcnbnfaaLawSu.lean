/-
  FnSparesUp: spare sectors are used up. No condition.
-/
import Derived.Test.YtekpahddcnbnfaaBase
import Derived.Test.YtekpahddcnbnfaaNum
import Derived.Test.YtekpahddcnbnfaaInts
import Derived.Test.YtekpahddcnbnfaaApp
import Derived.Test.YtekpahddcnbnfaaIntsW
import Derived.Test.YtekpahddcnbnfaaLib
import Derived.Test.YtekpahddcnbnfaaSpares
import Derived.Test.YtekpahddcnbnfaaHome
import Derived.Test.YtekpahddcnbnfaaMark
import Derived.Test.YtekpahddcnbnfaaMarkS
import Derived.Test.YtekpahddcnbnfaaMarkA
import Derived.Test.YtekpahddcnbnfaaOwn
import Derived.Test.YtekpahddcnbnfaaSparesO
import Derived.Test.YtekpahddcnbnfaaDraw
import Derived.Test.YtekpahddcnbnfaaDrawK
import Derived.Test.YtekpahddcnbnfaaDrawSp
import Derived.Test.YtekpahddcnbnfaaSpP
import Derived.Test.YtekpahddcnbnfaaOpen
import Derived.IntWalk
namespace Go.Proofs.Ytekpahddcnbnfaa
open Go.RowKit Go.ChangeShapes Go.WideShapes Go.ChangeAt Go.Deep Go.Joins
theorem Row.srd {α : Type} {E : Enc α} {w : World} {g : Nat} {e : TypeId} {A : Option Addr} {c : Nat} {l : List α} (h : Row E w g e A c l) : A = none → c = 0 := by
  intro hA
  rcases h with ⟨_, rfl, _⟩ | ⟨cur, hB, _⟩
  · rfl
  · rw [hA] at hB; cases hB
theorem home_in {s : Sp} (h : sparesB s = true) {k : Int} (k0 : 0 ≤ k) (k1 : k < s.sec) : homeB s k = homeGo s.bad s.sec k := by
  have hk : inB k 0 (s.sec - 1) = true := inB_true.2 (by omega)
  simp [homeB, h, hk]
theorem homeB_cases (s : Sp) (a : Int) : homeB s a = -1 ∨ (sparesB s = true ∧ 0 ≤ a ∧ a < s.sec ∧ 0 ≤ homeB s a) := by
  cases hs : sparesB s
  · left; simp [homeB, hs]
  · cases hi : inB a 0 (s.sec - 1)
    · left; simp [homeB, hi]
    · right
      obtain ⟨a0, a1⟩ := inB_true.1 hi
      obtain ⟨_, h2, _⟩ := home_facts hs (a := a) (by omega)
      obtain ⟨⟨s0, _⟩, _⟩ := spares_parts hs
      exact ⟨rfl, a0, by omega, by rw [home_in hs a0 (by omega)]; omega⟩
theorem up_round {s : Sp} {a : Int} (hs : sparesB s = true) (a0 : 0 ≤ a) (a1 : a < s.sec) (hl : (s.bad.length : Int) < s.cnt) :
    ∃ x, markB s a = ⟨s.sec, s.cnt, s.bad ++ [x]⟩ ∧ markOk s a = true ∧ sparesB ⟨s.sec, s.cnt, s.bad ++ [x]⟩ = true ∧ homeB ⟨s.sec, s.cnt, s.bad ++ [x]⟩ a = s.sec + s.bad.length := by
  obtain ⟨e1, e2, e3⟩ := mark_yes (a := a) hs (inB_true.2 (by omega)) hl
  rw [e1] at e3
  refine ⟨_, e1, e2, e3, ?_⟩
  rw [home_in e3 a0 (by simp only; omega)]
  simp only
  rw [home_more (by omega), if_pos rfl]
theorem up_end {s : Sp} {a : Int} (hl : (s.bad.length : Int) = s.cnt) : markOk s a = false := by simp [markOk, hl]
namespace LwSu
set_option maxHeartbeats 8000000 in
theorem walk (A : Option Addr) (c : Nat) (l : List Int) (w : World) (hl : l.length ≤ c) (hm : c ≤ maxLen) (hr : Rd eByte w A l) (hb : ∀ x ∈ l, 0 ≤ x ∧ x ≤ 255) :
    Calls Try.prog 8 #[.slice A l.length c] w fun e w' => e = .returned (.bool true) ∧ Below w.heap.size w w' := by
  have HB := Lib.hid hb
  clear hb
  by_cases hsz : (1048576 : Int) < l.length
  · unfold maxLen at hm
    go_enter Try.func8, Try.ntmps8
    go_wp2
    go_ret
    exact ⟨rfl, (by repeat (first | with_reducible exact Below.refl _ _ | with_reducible assumption | with_reducible refine below_drewN ?_ _ | with_reducible refine Below.drew ?_ | with_reducible refine Below.alloc ?_ ?_ _ | with_reducible refine Below.setCell ?_ ?_ _ | (with_reducible refine Below.next ?_ (by assumption)) | omega | (focus (simp; omega)) | (focus (simp; done))))⟩
  · go_enter Try.func8, Try.ntmps8
    go_wp2_with fail
    refine (drawSm_any A c l _ hl hm hr HB.out).mono ?_
    rintro e w1 ⟨s, A1, c1, g1, n, rfl, hg1, row1, s0, s1, s2, s3, s4, n0, n1, hb1⟩
    have hz1 := hb1.size
    have hlc := row1.le
    have HNIL := Lib.hid row1.srd
    have hcs := homeB_cases s n
    have hmr := row1.made?
    obtain ⟨y, hy⟩ : ∃ y, y = homeB s n := ⟨_, rfl⟩
    have HY := Lib.hid hy
    rw [← hy] at hcs
    have L3 := Loc.newAt w1 [.int .i64 s.sec, .int .i64 s.cnt, .slice A1 s.bad.length c1] 27 (b := w1.heap.size) rfl
    have RA : Hid (Row eInt (w1.alloc (.cells #[.int .i64 s.sec, .int .i64 s.cnt, .slice A1 s.bad.length c1] 27)) g1 3 A1 c1 s.bad) := Lib.hid (Row.alloc row1 _)
    have HBW := Lib.hid hb1
    clear hy row1 hb1
    go_wp2_with fail
    refine (implHome_any s A1 c1 n _ RA.out.rd hlc (by omega)).mono ?_
    rw [← HY.out]
    rintro e w2 ⟨rfl, hb2⟩
    replace L3 := Loc.carryB L3 (fun h => by ((repeat (first | with_reducible exact h | with_reducible refine Loc.drew ?_ | with_reducible refine Loc.drewN ?_ _ | with_reducible refine Loc.alloc ?_ _)); done)) hb2
    obtain ⟨x0, x1, x2, xf⟩ := L3.three
    have RA2 := Lib.hid (Row.below RA.out hb2)
    have HBW2 : Hid (Below w.heap.size w w2) := Lib.hid (Below.next (W := w) (by repeat (first | with_reducible exact HBW.out | with_reducible exact Below.refl _ _ | with_reducible refine below_drewN ?_ _ | with_reducible refine Below.drew ?_ | with_reducible refine Below.alloc ?_ ?_ _ | with_reducible refine Below.setCell ?_ ?_ _ | (with_reducible refine Below.next ?_ (by assumption)) | ((with_reducible refine Below.far' (by assumption) ?_ ?_ ?_); (focus (first | omega | (simp; omega) | (simp; done))); (focus (first | omega | (simp; omega) | (simp; done)))) | omega | (focus (simp; omega)) | (focus (simp; done)))) hb2)
    have hz2 := hb2.size
    simp at hz2
    clear hb2 RA HBW
    go_wp2_with fail
    refine (specHome_any s A1 c1 n _ RA2.out.rd (by omega)).mono ?_
    rw [← HY.out]
    rintro e w3 ⟨rfl, hb3⟩
    clear x0 x1 x2 xf
    replace L3 := Loc.carryB L3 (fun h => by ((repeat (first | with_reducible exact h | with_reducible refine Loc.drew ?_ | with_reducible refine Loc.drewN ?_ _ | with_reducible refine Loc.alloc ?_ _)); done)) hb3
    have zL3 := L3.lt
    obtain ⟨x0, x1, x2, xf⟩ := L3.three
    have RA3 := Lib.hid (Row.below RA2.out hb3)
    have HBW3 : Hid (Below w.heap.size w w3) := Lib.hid (Below.next (W := w) HBW2.out hb3)
    have hz3 := hb3.size
    clear hb3 RA2 HBW2
    rcases hcs with rfl | ⟨hs, a0, a1, hy0⟩
    · go_wp2_with (go_at_call 18; refine (alive_any _).mono ?_; rintro e w6 ⟨rfl, hb6⟩)
      go_ret
      exact ⟨rfl, (by repeat (first | with_reducible exact HBW3.out | with_reducible exact Below.refl _ _ | with_reducible refine below_drewN ?_ _ | with_reducible refine Below.drew ?_ | with_reducible refine Below.alloc ?_ ?_ _ | with_reducible refine Below.setCell ?_ ?_ _ | (with_reducible refine Below.next ?_ (by assumption)) | ((with_reducible refine Below.far' (by assumption) ?_ ?_ ?_); (focus (first | omega | (simp; omega) | (simp; done))); (focus (first | omega | (simp; omega) | (simp; done)))) | omega | (focus (simp; omega)) | (focus (simp; done))))⟩
    · have HS := Lib.hid hs
      obtain ⟨⟨p0, p1⟩, ⟨p2, p3⟩, p4, -⟩ := spares_parts hs
      obtain ⟨g0, row0, hg0, hg0w⟩ := Row.avoid (X := w1.heap.size) (B := w.heap.size) RA3.out (by rcases hmr with h | h; exact .inl h; exact .inr (by omega)) hg1 hz1
      have HR0 := Lib.hid row0
      clear hs row0 RA3
      go_wp2
      clear x0 x1 x2 xf
      go_loopw [6] (fun kk wr => ∃ (b : List Int) (A2 : Option Addr) (c2 g2 : Nat), kk = .int .i64 b.length ∧ (b.length : Int) ≤ s.cnt ∧ Hid (sparesB ⟨s.sec, s.cnt, b⟩ = true) ∧ Below w.heap.size w wr ∧ Loc wr w1.heap.size [.int .i64 s.sec, .int .i64 s.cnt, .slice A2 b.length c2] ∧ (g2 ≠ w1.heap.size ∧ w.heap.size ≤ g2) ∧ Hid (Row eInt wr g2 3 A2 c2 b)) (fun kk _ => (s.cnt - intOf kk).toNat)
      case atStart => exact ⟨s.bad, A1, c1, g0, rfl, p4, HS, HBW3.out, L3, ⟨hg0, hg0w⟩, HR0⟩
      case round =>
        obtain ⟨b, A2, c2, g2, rfl, hbl, HV, hbw, LX, ⟨hg2X, hg2w⟩, HR⟩ := hrel
        have hsz2 := hbw.size
        have zX := LX.lt
        obtain ⟨x0, x1, x2, xf⟩ := LX.three
        have HBR := Lib.hid hbw
        have hlc2 := Lib.hid HR.out.le
        have HN2 := Lib.hid HR.out.srd
        clear hbw
        by_cases hlt : (b.length : Int) < s.cnt
        · obtain ⟨x, e1, e2, e3, e4⟩ := up_round HV.out a0 a1 hlt
          have hl2 : (b ++ [x]).length ≤ b.length + 1 := by simp
          have hl3 : b.length + 1 ≤ (b ++ [x]).length := by simp
          simp only at e1 e3 e4
          obtain ⟨xb, hxb⟩ : ∃ xb, xb = b ++ [x] := ⟨_, rfl⟩
          rw [← hxb] at e1 e3 e4 hl2 hl3
          have E1 := Lib.hid e1
          have E2 := Lib.hid e2
          have E3 := Lib.hid e3
          have E4 := Lib.hid e4
          clear e1 e2 e3 e4 hxb
          go_wp2_with fail
          refine (implMark_any ⟨s.sec, s.cnt, b⟩ A2 c2 n _ HR.out.rd hlc2.out (by simp only; omega) HN2.out).mono ?_
          rw [E1.out, E2.out]
          rintro e w4 ⟨A4, c4, g4, rfl, hg4, row4, hb4⟩
          replace row4 : Row eInt w4 g4 3 A4 c4 xb := row4
          have LX4 := Loc.carryB LX (fun h => by ((repeat (first | with_reducible exact h | with_reducible refine Loc.drew ?_ | with_reducible refine Loc.drewN ?_ _ | with_reducible refine Loc.alloc ?_ _)); done)) hb4
          have zX4 := LX4.lt
          have L7 := Loc.newAt w4 [.int .i64 s.sec, .int .i64 s.cnt, .slice A4 xb.length c4] 27 (b := w4.heap.size) rfl
          have HR4 := Lib.hid row4
          have hlc4 := Lib.hid row4.le
          have HB4 : Hid (Below w.heap.size w w4) := Lib.hid (Below.next (W := w) HBR.out hb4)
          have hz4 := hb4.size
          have hw1 : IntKind.i64.wrap (s.sec + (b.length : Int)) = s.sec + (b.length : Int) := IntWalk.i64_in _ (by omega)
          clear x0 x1 x2 xf hb4 row4
          obtain ⟨y0, y1, y2, yf⟩ := LX4.three
          go_wp2
          go_region_held3 (fun w' => w'.cell? ⟨w1.heap.size, 0, none⟩ = some (.int .i64 s.sec) ∧ w'.cell? ⟨w1.heap.size, 1, none⟩ = some (.int .i64 s.cnt) ∧ w'.cell? ⟨w1.heap.size, 2, none⟩ = some (.slice A2 b.length c2) ∧ w'.cell? ⟨w4.heap.size, 0, none⟩ = some (.int .i64 s.sec) ∧ w'.cell? ⟨w4.heap.size, 1, none⟩ = some (.int .i64 s.cnt) ∧ w'.cell? ⟨w4.heap.size, 2, none⟩ = some (.slice A4 xb.length c4)) (first | assumption | (refine ⟨?_, ?_, ?_, ?_, ?_, ?_⟩ <;> assumption) | (refine ⟨?_, ?_, ?_, ?_, ?_, ?_⟩ <;> (simp [go_sem, *]; done)) | go_keep)
            ((go_at_call 16; (with_reducible refine (implHome_any ⟨s.sec, s.cnt, xb⟩ A4 c4 n _ (by repeat (first | with_reducible exact HR4.out.rd | with_reducible refine Rd.drew ?_ | with_reducible refine Rd.drewN ?_ _ | with_reducible refine Rd.alloc ?_ _ | (with_reducible refine Rd.below ?_ (by assumption)))) hlc4.out (by simp only; omega)).mono ?_); rw [E4.out]; rintro e w5 ⟨rfl, hb5⟩; have LX5 := Loc.carryB LX4 (fun h => by ((repeat (first | with_reducible exact h | with_reducible refine Loc.drew ?_ | with_reducible refine Loc.drewN ?_ _ | with_reducible refine Loc.alloc ?_ _)); done)) hb5; have L75 := Loc.carryB L7 (fun h => by ((repeat (first | with_reducible exact h | with_reducible refine Loc.drew ?_ | with_reducible refine Loc.drewN ?_ _ | with_reducible refine Loc.alloc ?_ _)); done)) hb5; have zX5 := LX5.lt; have z75 := L75.lt; obtain ⟨i0, i1, i2, if0⟩ := LX5.three; obtain ⟨j0, j1, j2, jf⟩ := L75.three; have HB5 : Hid (Below w.heap.size w w5) := Lib.hid (Below.next (W := w) (by repeat (first | with_reducible exact HB4.out | with_reducible exact Below.refl _ _ | with_reducible refine below_drewN ?_ _ | with_reducible refine Below.drew ?_ | with_reducible refine Below.alloc ?_ ?_ _ | with_reducible refine Below.setCell ?_ ?_ _ | (with_reducible refine Below.next ?_ (by assumption)) | ((with_reducible refine Below.far' (by assumption) ?_ ?_ ?_); (focus (first | omega | (simp; omega) | (simp; done))); (focus (first | omega | (simp; omega) | (simp; done)))) | omega | (focus (simp; omega)) | (focus (simp; done)))) hb5); have HR5 : Hid (Row eInt w5 g4 3 A4 c4 xb) := Lib.hid (Row.below (by repeat (first | with_reducible exact HR4.out | with_reducible refine Row.drew ?_ | with_reducible refine Row.drewN ?_ _ | with_reducible refine Row.alloc ?_ _ | (with_reducible refine Row.below ?_ (by assumption)) | ((with_reducible refine Row.other ?_ ?_ _); rotate_left; (focus (first | omega | (simp; omega) | (simp; done)))) | ((with_reducible refine Row.far' (by assumption) ?_ ?_); (focus (first | omega | (simp; omega) | (simp; done)))))) hb5); have hz5 := hb5.size; (try simp at hz5); clear hb5))
          all_goals
            clear hw1
            go_wp2
            go_roundw
            case rel =>
              refine ⟨xb, A4, c4, g4, ?_, by omega, E3, (by repeat (first | with_reducible exact HB5.out | with_reducible exact Below.refl _ _ | with_reducible refine below_drewN ?_ _ | with_reducible refine Below.drew ?_ | with_reducible refine Below.alloc ?_ ?_ _ | with_reducible refine Below.setCell ?_ ?_ _ | (with_reducible refine Below.next ?_ (by assumption)) | ((with_reducible refine Below.far' (by assumption) ?_ ?_ ?_); (focus (first | omega | (simp; omega) | (simp; done))); (focus (first | omega | (simp; omega) | (simp; done)))) | omega | (focus (simp; omega)) | (focus (simp; done)))), ?_, ⟨by omega, by omega⟩, Lib.hid (by repeat (first | with_reducible exact HR5.out | with_reducible refine Row.drew ?_ | with_reducible refine Row.drewN ?_ _ | with_reducible refine Row.alloc ?_ _ | (with_reducible refine Row.below ?_ (by assumption)) | ((with_reducible refine Row.other ?_ ?_ _); rotate_left; (focus (first | omega | (simp; omega) | (simp; done)))) | ((with_reducible refine Row.far' (by assumption) ?_ ?_); (focus (first | omega | (simp; omega) | (simp; done))))))⟩
              · have : (xb.length : Int) = b.length + 1 := by omega
                rw [this]
              · exact (by repeat (first | with_reducible assumption | with_reducible apply Loc.fill3 | with_reducible apply Loc.fill2 | ((with_reducible refine Loc.newAt' ?_ rfl); (focus (first | with_reducible rfl | omega | (simp; omega) | (simp; done)))) | with_reducible refine Loc.drew ?_ | with_reducible refine Loc.drewN ?_ _ | with_reducible refine Loc.alloc ?_ _ | (with_reducible refine Loc.below ?_ (by assumption)) | ((with_reducible refine Loc.other' ?_ ?_ _); (focus (first | omega | (simp; omega) | (simp; done)))) | ((with_reducible refine Loc.far' (by assumption) ?_ ?_); (focus (first | omega | (simp; omega) | (simp; done))))))
            case measure => simp [intOf]; omega
        · have he : (b.length : Int) = s.cnt := by omega
          have E2 := Lib.hid (up_end (s := ⟨s.sec, s.cnt, b⟩) (a := n) he)
          clear he
          go_wp2_with fail
          refine (implMark_any ⟨s.sec, s.cnt, b⟩ A2 c2 n _ HR.out.rd hlc2.out (by simp only; omega) HN2.out).mono ?_
          rw [E2.out]
          rintro e w4 ⟨A4, c4, g4, rfl, hg4, row4, hb4⟩
          have HB4 : Hid (Below w.heap.size w w4) := Lib.hid (Below.next (W := w) HBR.out hb4)
          have hz4 := hb4.size
          go_wp2
          go_ret
          exact ⟨rfl, (by repeat (first | with_reducible exact HB4.out | with_reducible exact Below.refl _ _ | with_reducible refine below_drewN ?_ _ | with_reducible refine Below.drew ?_ | with_reducible refine Below.alloc ?_ ?_ _ | with_reducible refine Below.setCell ?_ ?_ _ | (with_reducible refine Below.next ?_ (by assumption)) | ((with_reducible refine Below.far' (by assumption) ?_ ?_ ?_); (focus (first | omega | (simp; omega) | (simp; done))); (focus (first | omega | (simp; omega) | (simp; done)))) | omega | (focus (simp; omega)) | (focus (simp; done))))⟩
set_option maxRecDepth 100000 in
theorem lifted (os : Os) (started : os.Started) (H : Type) (enc : TypeId × Value → H) :
    ReturnsInHanded {} Try.checked os 8 .any (Rows.fnSparesUpSpec.pre6 enc Try.prog Try.f8 Rows.fnSparesUpRow.domain false) (Rows.fnSparesUpSpec.post enc Try.prog Try.f8 false true false false) := by
  refine returnsInHanded_of_change (C := Try.checked) own_knob started (by kernel_rfl) Try.func8
    (ChangeSpec.witness6 (enc := enc) (C := Try.checked) false ⟨#[], #[.slice none 0 0], []⟩ 8 (by kernel_rfl) (by kernel_rfl) (by kernel_rfl) (by kernel_rfl)) ?_
  intro W base args ds gs before hval0 hW hcnd _
  have hval : ∀ (j : Nat) t v, Try.f8.params[j]? = some t → args[j]? = some v → Value.okWide Try.prog W .any base t v := hval0
  have hW' := hW
  obtain ⟨p, q, hA0, hV, rfl, hfz, hnd⟩ := hW
  have hA : DataW.TrodAll enc Try.prog W 0 (fun _ => true) true Try.f8.params.toList args.toList ds p := hA0
  rw [Try.params8] at hA hval
  obtain ⟨v0, vs0, d0, ds0, p0, q0, hargs, rfl, rfl, h0, r0⟩ := trodAll_cons hA
  obtain ⟨rfl, rfl, rfl⟩ := trodAll_nil r0
  obtain rfl : args = #[v0] := by cases args; simp_all
  obtain ⟨rfl, rfl⟩ := trodVars_none hV
  have k0 := h0
  have lt0 : ∀ x ∈ p0, x.block < W.heap.size := by obtain ⟨m, hm⟩ := k0; exact DataW.trod_lt m _ _ _ hm
  obtain ⟨A0, c0, l0, rfl, hl0, hm0, rd0, by0⟩ := open_bytes Try.underlying33 Try.underlying5 (by kernel_rfl) (hval 0 33 v0 rfl rfl) h0
  clear hA0 hval0
  refine (walk A0 c0 l0 W hl0 hm0 rd0 by0).mono fun e W' ⟨he, bel⟩ => ?_
  subst he
  exact ⟨_, rfl, _, _, _, [], _, [], hW', trodAll_mk1 (shut_bool Try.underlying4 _), (trodAll_cons_mk (Below.trod laid_out (by kernel_rfl) (of_decide_eq_true (by kernel_rfl)) k0 bel lt0) trodAll_mk0), rfl, bel.frame _, fun h => by cases h⟩
theorem over : Rows.fnSparesUpRow.holds Try.pinned (OpenSpec.ofChange Rows.fnSparesUpSpec) :=
  OpenClaim.holds_of_wide 8 Try.f8 rfl rfl rfl rfl rfl rfl rfl ⟨rfl, rfl, rfl, rfl, rfl⟩ rfl rfl rfl rfl rfl (by kernel_rfl) Try.func8 (by kernel_rfl)
    (of_decide_eq_true (by kernel_rfl)) (by unfold Func.isWrapper; first | (rw [if_pos (by decide +kernel)]; kernel_rfl) | (rw [if_neg (by decide +kernel)]; exact ⟨rfl, rfl⟩))
    (fun os started H enc _ => lifted os started H enc)
theorem proved : Rows.FnSparesUpSaid := over
end LwSu
end Go.Proofs.Ytekpahddcnbnfaa
