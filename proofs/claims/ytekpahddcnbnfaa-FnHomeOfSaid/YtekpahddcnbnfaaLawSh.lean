/-
  FnHomeOf: homes are good and different. No condition.
-/
import Derived.Test.YtekpahddcnbnfaaBase
import Derived.Test.YtekpahddcnbnfaaNum
import Derived.Test.YtekpahddcnbnfaaInts
import Derived.Test.YtekpahddcnbnfaaApp
import Derived.Test.YtekpahddcnbnfaaIntsW
import Derived.Test.YtekpahddcnbnfaaLib
import Derived.Test.YtekpahddcnbnfaaSpares
import Derived.Test.YtekpahddcnbnfaaHome
import Derived.Test.YtekpahddcnbnfaaMark
import Derived.Test.YtekpahddcnbnfaaMarkS
import Derived.Test.YtekpahddcnbnfaaMarkA
import Derived.Test.YtekpahddcnbnfaaOwn
import Derived.Test.YtekpahddcnbnfaaSparesO
import Derived.Test.YtekpahddcnbnfaaDraw
import Derived.Test.YtekpahddcnbnfaaDrawK
import Derived.Test.YtekpahddcnbnfaaDrawSp
import Derived.Test.YtekpahddcnbnfaaSpP
import Derived.Test.YtekpahddcnbnfaaOpen
namespace Go.Proofs.Ytekpahddcnbnfaa
open Go.RowKit Go.ChangeShapes Go.WideShapes Go.ChangeAt Go.Deep Go.Joins
theorem homeB_cases (s : Sp) (a : Int) : homeB s a = -1 ∨ (sparesB s = true ∧ inB a 0 (s.sec - 1) = true ∧ homeB s a = homeGo s.bad s.sec a ∧ 0 ≤ homeB s a) := by
  cases hs : sparesB s
  · left; simp [homeB, hs]
  · cases hi : inB a 0 (s.sec - 1)
    · left; simp [homeB, hi]
    · right
      have e : homeB s a = homeGo s.bad s.sec a := by simp [homeB, hs, hi]
      obtain ⟨a0, a1⟩ := inB_true.1 hi
      obtain ⟨_, h2, _⟩ := home_facts hs (a := a) (by omega)
      obtain ⟨⟨s0, _⟩, _⟩ := spares_parts hs
      exact ⟨rfl, rfl, e, by rw [e]; omega⟩
namespace LwSh
set_option maxHeartbeats 8000000 in
theorem walk (A : Option Addr) (c : Nat) (l : List Int) (w : World) (hl : l.length ≤ c) (hm : c ≤ maxLen) (hr : Rd eByte w A l) (hb : ∀ x ∈ l, 0 ≤ x ∧ x ≤ 255) :
    Calls Try.prog 6 #[.slice A l.length c] w fun e w' => e = .returned (.bool true) ∧ Below w.heap.size w w' := by
  have HB := Lib.hid hb
  clear hb
  by_cases hsz : (1048576 : Int) < l.length
  · unfold maxLen at hm
    go_enter Try.func6, Try.ntmps6
    go_wp2
    go_ret
    exact ⟨rfl, (by repeat (first | with_reducible exact Below.refl _ _ | with_reducible assumption | with_reducible refine below_drewN ?_ _ | with_reducible refine Below.drew ?_ | with_reducible refine Below.alloc ?_ ?_ _ | with_reducible refine Below.setCell ?_ ?_ _ | (with_reducible refine Below.next ?_ (by assumption)) | omega | (focus (simp; omega)) | (focus (simp; done))))⟩
  · go_enter Try.func6, Try.ntmps6
    go_wp2_with fail
    refine (drawSh_any A c l _ hl hm hr HB.out).mono ?_
    rintro e w1 ⟨s, A1, c1, g1, n, rfl, hg1, row1, s0, s1, s2, s3, s4, n0, n1, hb1⟩
    have hz1 := hb1.size
    have hlc := row1.le
    have hcs := homeB_cases s n
    have hmr := row1.made?
    obtain ⟨y, hy⟩ : ∃ y, y = homeB s n := ⟨_, rfl⟩
    have HY := Lib.hid hy
    rw [← hy] at hcs
    have L3 := Loc.newAt w1 [.int .i64 s.sec, .int .i64 s.cnt, .slice A1 s.bad.length c1] 27 (b := w1.heap.size) rfl
    have RA : Hid (Rd eInt (w1.alloc (.cells #[.int .i64 s.sec, .int .i64 s.cnt, .slice A1 s.bad.length c1] 27)) A1 s.bad) := Lib.hid (Rd.alloc row1.rd _)
    have HBW := Lib.hid hb1
    clear hy row1 hb1
    go_wp2_with fail
    refine (implHome_any s A1 c1 n _ RA.out hlc (by omega)).mono ?_
    rw [← HY.out]
    rintro e w2 ⟨rfl, hb2⟩
    replace L3 := Loc.carryB L3 (fun h => by ((repeat (first | with_reducible exact h | with_reducible refine Loc.drew ?_ | with_reducible refine Loc.drewN ?_ _ | with_reducible refine Loc.alloc ?_ _)); done)) hb2
    obtain ⟨x0, x1, x2, xf⟩ := L3.three
    have RA2 := Lib.hid (Rd.below RA.out hb2)
    have HBW2 : Hid (Below w.heap.size w w2) := Lib.hid (Below.next (W := w) (by repeat (first | with_reducible exact HBW.out | with_reducible exact Below.refl _ _ | with_reducible refine below_drewN ?_ _ | with_reducible refine Below.drew ?_ | with_reducible refine Below.alloc ?_ ?_ _ | with_reducible refine Below.setCell ?_ ?_ _ | (with_reducible refine Below.next ?_ (by assumption)) | ((with_reducible refine Below.far' (by assumption) ?_ ?_ ?_); (focus (first | omega | (simp; omega) | (simp; done))); (focus (first | omega | (simp; omega) | (simp; done)))) | omega | (focus (simp; omega)) | (focus (simp; done)))) hb2)
    have hz2 := hb2.size
    simp at hz2
    clear hb2 RA HBW
    go_wp2_with fail
    refine (specHome_any s A1 c1 n _ RA2.out (by omega)).mono ?_
    rw [← HY.out]
    rintro e w3 ⟨rfl, hb3⟩
    clear x0 x1 x2 xf
    replace L3 := Loc.carryB L3 (fun h => by ((repeat (first | with_reducible exact h | with_reducible refine Loc.drew ?_ | with_reducible refine Loc.drewN ?_ _ | with_reducible refine Loc.alloc ?_ _)); done)) hb3
    have zL3 := L3.lt
    obtain ⟨x0, x1, x2, xf⟩ := L3.three
    have RA3 := Lib.hid (Rd.below RA2.out hb3)
    have HBW3 : Hid (Below w.heap.size w w3) := Lib.hid (Below.next (W := w) HBW2.out hb3)
    have hz3 := hb3.size
    clear hb3 RA2 HBW2
    rcases hcs with rfl | ⟨hs, hi, hye, hy0⟩
    · go_wp2_with (go_at_call 18; refine (alive_any _).mono ?_; rintro e w6 ⟨rfl, hb6⟩)
      go_ret
      exact ⟨rfl, (by repeat (first | with_reducible exact HBW3.out | with_reducible exact Below.refl _ _ | with_reducible refine below_drewN ?_ _ | with_reducible refine Below.drew ?_ | with_reducible refine Below.alloc ?_ ?_ _ | with_reducible refine Below.setCell ?_ ?_ _ | (with_reducible refine Below.next ?_ (by assumption)) | ((with_reducible refine Below.far' (by assumption) ?_ ?_ ?_); (focus (first | omega | (simp; omega) | (simp; done))); (focus (first | omega | (simp; omega) | (simp; done)))) | omega | (focus (simp; omega)) | (focus (simp; done))))⟩
    · have HS := Lib.hid hs
      obtain ⟨a0, a1⟩ := inB_true.1 hi
      obtain ⟨f1, f2, f3⟩ := home_facts hs (a := n) (by omega)
      rw [← hye] at f1 f2 f3
      obtain ⟨⟨p0, p1⟩, ⟨p2, p3⟩, p4, -⟩ := spares_parts hs
      have HF := Lib.hid f1
      have HYE := Lib.hid hye
      have HDF : Hid (∀ k : Int, 0 ≤ k → k < s.sec → k ≠ n → (homeB s k == y) = false) := Lib.hid fun k k0 k1 kn => by
        rw [beq_eq_false_iff_ne, hye]
        have hk : inB k 0 (s.sec - 1) = true := inB_true.2 (by omega)
        have e : homeB s k = homeGo s.bad s.sec k := by simp [homeB, hs, hk]
        rw [e]
        exact homes_differ hs (by omega) (by omega) kn
      clear hs hi f1 hye
      go_wp2
      go_loop [6] (fun i => ∃ k : Nat, k ≤ s.bad.length ∧ i = .int .i64 k) (fun i => s.bad.length - (intOf i).toNat)
      case atStart => exact ⟨0, Nat.zero_le _, rfl⟩
      case round =>
        obtain ⟨k, hk, rfl⟩ := hrel
        by_cases hlt : k < s.bad.length
        · obtain ⟨b, off, rfl, hbl, hcc⟩ := RA3.out.int hlt
          have hne : (s.bad[k] == y) = false := by rw [beq_eq_false_iff_ne]; exact fun he => HF.out (he ▸ List.getElem_mem hlt)
          obtain ⟨x, hx⟩ : ∃ x, x = s.bad[k] := ⟨_, rfl⟩
          rw [← hx] at hcc hne
          clear hx
          go_wp2
          go_round
          case rel => exact ⟨k + 1, by omega, by go_num⟩
          case measure => simp [intOf]; omega
        · go_wp2
          clear hk hlt x0 x1 x2 xf
          go_loopw [7] (fun i wr => ∃ k : Nat, (k : Int) ≤ s.sec ∧ k ≤ 40 ∧ i = .int .i64 k ∧ Below w3.heap.size w3 wr) (fun i _ => 40 - (intOf i).toNat)
          case atStart => exact ⟨0, by omega, by omega, rfl, Below.refl _ _⟩
          case round =>
            obtain ⟨k, hk, hk40, rfl, hbr⟩ := hrel
            have LR := Loc.below L3 hbr
            have zLR := LR.lt
            obtain ⟨x0, x1, x2, xf⟩ := LR.three
            have RR := Lib.hid (Rd.below RA3.out hbr)
            have HBR : Hid (Below w.heap.size w wr) := Lib.hid (Below.next (W := w) HBW3.out hbr)
            by_cases hlt : (k : Int) < s.sec
            · by_cases hlt2 : k < 40
              · have hlt3 : (k : Int) < 40 := by omega
                have HBX := Lib.hid hbr
                clear hbr
                by_cases hkn : (k : Int) = n
                · have hkn' : ((k : Int) == n) = true := by simpa using hkn
                  have hkn2 : ((k : Int) != n) = false := by simpa using hkn
                  clear hkn
                  go_wp2
                  go_roundw
                  case rel => exact ⟨k + 1, by omega, by omega, by go_num, HBX.out⟩
                  case measure => simp [intOf]; omega
                · have hkn2 : ((k : Int) != n) = true := by simpa using hkn
                  have hdf := HDF.out k (by omega) hlt hkn
                  obtain ⟨z, hz⟩ : ∃ z, z = homeB s k := ⟨_, rfl⟩
                  have HZ := Lib.hid hz
                  rw [← hz] at hdf
                  clear hkn hz
                  go_wp2_with fail
                  refine (implHome_any s A1 c1 (k : Int) _ RR.out hlc (by omega)).mono ?_
                  rw [← HZ.out]
                  rintro e w5 ⟨rfl, hb5⟩
                  go_wp2
                  go_roundw
                  case rel => exact ⟨k + 1, by omega, by omega, by go_num, Below.next HBX.out hb5⟩
                  case measure => simp [intOf]; omega
              · have hlt3 : ¬ (k : Int) < 40 := by omega
                have hsum : decide (y < s.sec + s.cnt) = true := by simp; omega
                rcases f2 with rfl | f2
                · have hyy : (y == y) = true := by simp
                  have hge' : decide (s.sec ≤ y) = false := by simp; omega
                  go_wp2
                  go_ret
                  exact ⟨rfl, HBR.out⟩
                · have hge' : decide (s.sec ≤ y) = true := by simpa using f2
                  go_wp2
                  go_ret
                  exact ⟨rfl, HBR.out⟩
            · have hsum : decide (y < s.sec + s.cnt) = true := by simp; omega
              rcases f2 with rfl | f2
              · have hyy : (y == y) = true := by simp
                have hge' : decide (s.sec ≤ y) = false := by simp; omega
                go_wp2
                go_ret
                exact ⟨rfl, HBR.out⟩
              · have hge' : decide (s.sec ≤ y) = true := by simpa using f2
                go_wp2
                go_ret
                exact ⟨rfl, HBR.out⟩
set_option maxRecDepth 100000 in
theorem lifted (os : Os) (started : os.Started) (H : Type) (enc : TypeId × Value → H) :
    ReturnsInHanded {} Try.checked os 6 .any (Rows.fnHomeOfSpec.pre6 enc Try.prog Try.f6 Rows.fnHomeOfRow.domain false) (Rows.fnHomeOfSpec.post enc Try.prog Try.f6 false true false false) := by
  refine returnsInHanded_of_change (C := Try.checked) own_knob started (by kernel_rfl) Try.func6
    (ChangeSpec.witness6 (enc := enc) (C := Try.checked) false ⟨#[], #[.slice none 0 0], []⟩ 8 (by kernel_rfl) (by kernel_rfl) (by kernel_rfl) (by kernel_rfl)) ?_
  intro W base args ds gs before hval0 hW hcnd _
  have hval : ∀ (j : Nat) t v, Try.f6.params[j]? = some t → args[j]? = some v → Value.okWide Try.prog W .any base t v := hval0
  have hW' := hW
  obtain ⟨p, q, hA0, hV, rfl, hfz, hnd⟩ := hW
  have hA : DataW.TrodAll enc Try.prog W 0 (fun _ => true) true Try.f6.params.toList args.toList ds p := hA0
  rw [Try.params6] at hA hval
  obtain ⟨v0, vs0, d0, ds0, p0, q0, hargs, rfl, rfl, h0, r0⟩ := trodAll_cons hA
  obtain ⟨rfl, rfl, rfl⟩ := trodAll_nil r0
  obtain rfl : args = #[v0] := by cases args; simp_all
  obtain ⟨rfl, rfl⟩ := trodVars_none hV
  have k0 := h0
  have lt0 : ∀ x ∈ p0, x.block < W.heap.size := by obtain ⟨m, hm⟩ := k0; exact DataW.trod_lt m _ _ _ hm
  obtain ⟨A0, c0, l0, rfl, hl0, hm0, rd0, by0⟩ := open_bytes Try.underlying33 Try.underlying5 (by kernel_rfl) (hval 0 33 v0 rfl rfl) h0
  clear hA0 hval0
  refine (walk A0 c0 l0 W hl0 hm0 rd0 by0).mono fun e W' ⟨he, bel⟩ => ?_
  subst he
  exact ⟨_, rfl, _, _, _, [], _, [], hW', trodAll_mk1 (shut_bool Try.underlying4 _), (trodAll_cons_mk (Below.trod laid_out (by kernel_rfl) (of_decide_eq_true (by kernel_rfl)) k0 bel lt0) trodAll_mk0), rfl, bel.frame _, fun h => by cases h⟩
theorem over : Rows.fnHomeOfRow.holds Try.pinned (OpenSpec.ofChange Rows.fnHomeOfSpec) :=
  OpenClaim.holds_of_wide 6 Try.f6 rfl rfl rfl rfl rfl rfl rfl ⟨rfl, rfl, rfl, rfl, rfl⟩ rfl rfl rfl rfl rfl (by kernel_rfl) Try.func6 (by kernel_rfl)
    (of_decide_eq_true (by kernel_rfl)) (by unfold Func.isWrapper; first | (rw [if_pos (by decide +kernel)]; kernel_rfl) | (rw [if_neg (by decide +kernel)]; exact ⟨rfl, rfl⟩))
    (fun os started H enc _ => lifted os started H enc)
theorem proved : Rows.FnHomeOfSaid := over
end LwSh
end Go.Proofs.Ytekpahddcnbnfaa
