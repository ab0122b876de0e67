/-
  FnPathsEven: equal paths get equal loads. No condition.
-/
import Derived.Test.YtplmfcbikcjccaaBase
import Derived.Test.YtplmfcbikcjccaaNum
import Derived.Test.YtplmfcbikcjccaaInts
import Derived.Test.YtplmfcbikcjccaaApp
import Derived.Test.YtplmfcbikcjccaaIntsW
import Derived.Test.YtplmfcbikcjccaaLib
import Derived.Test.YtplmfcbikcjccaaPathM
import Derived.Test.YtplmfcbikcjccaaPathP
import Derived.Test.YtplmfcbikcjccaaPath
import Derived.Test.YtplmfcbikcjccaaPathC
import Derived.Test.YtplmfcbikcjccaaDraw
import Derived.Test.YtplmfcbikcjccaaDrawP
import Derived.Test.YtplmfcbikcjccaaDrawPs
import Derived.Test.YtplmfcbikcjccaaOpen
import Derived.IntWalk
namespace Go.Proofs.Ytplmfcbikcjccaa
open Go.RowKit Go.ChangeShapes Go.WideShapes Go.ChangeAt Go.Deep Go.Joins
theorem emptied_length (l : List Pth) : (emptied l).length = l.length := by simp [emptied]
theorem emptied_take (l : List Pth) (k : Nat) (hk : k < l.length) : (emptied l).take (k + 1) = (emptied l).take k ++ [⟨l[k].up, 0⟩] := by
  rw [List.take_succ_eq_append_getElem (by rw [emptied_length]; exact hk), emptied_get]
theorem even_facts {l : List Pth} (hv : pathsB l = true) (m : Nat) (hm : m ≤ 500) :
    ∃ out lost, sendB (emptied l) (m : Int) = (out, lost) ∧ out.length = l.length ∧ pathsB out = true ∧ even out ∧ (lost = 0 ∨ chooseB (emptied l) = -1) := by
  have he := emptied_ok hv
  refine ⟨_, _, sendB_yes he hm, ?_, sendTo_ok he m, sendTo_even (emptied_even l) m, ?_⟩
  · rw [sendTo_length, emptied_length]
  · rcases sendTo_few hv m hm with h | h
    · exact .inl h
    · right
      unfold chooseB
      rw [he]
      simp only [if_true]
      have := bestTo_bd (emptied l) (emptied l).length
      omega
namespace LwPe
set_option maxHeartbeats 8000000 in
theorem walk (A : Option Addr) (c : Nat) (l : List Int) (w : World) (hl : l.length ≤ c) (hm : c ≤ maxLen) (hr : Rd eByte w A l) (hb : ∀ x ∈ l, 0 ≤ x ∧ x ≤ 255) :
    Calls Try.prog 9 #[.slice A l.length c] w fun e w' => e = .returned (.bool true) ∧ Below w.heap.size w w' := by
  have HB := Lib.hid hb
  clear hb
  by_cases hsz : (1048576 : Int) < l.length
  · unfold maxLen at hm
    go_enter Try.func9, Try.ntmps9
    go_wp2
    go_ret
    exact ⟨rfl, (by repeat (first | with_reducible exact Below.refl _ _ | with_reducible assumption | with_reducible refine below_drewN ?_ _ | with_reducible refine Below.drew ?_ | with_reducible refine Below.alloc ?_ ?_ _ | with_reducible refine Below.setCell ?_ ?_ _ | (with_reducible refine Below.next ?_ (by assumption)) | omega | (focus (simp; omega)) | (focus (simp; done))))⟩
  · go_enter Try.func9, Try.ntmps9
    go_wp2_with fail
    refine (drawPs_any A c l _ hl hm hr HB.out).mono ?_
    rintro e w1 ⟨A1, c1, g1, d, n, rfl, hg1, row1, hd, hn0, hn1, hb1⟩
    have hz1 := hb1.size
    have hd7 : (d.length : Int) ≤ 7 := by omega
    have HROW1 := Lib.hid row1
    have HM1 := Lib.hid row1.made?
    clear row1
    by_cases hok : pathsB d = true ∧ 0 ≤ n ∧ n ≤ 500
    · obtain ⟨hv, n0, n5⟩ := hok
      obtain ⟨m, rfl⟩ := Int.eq_ofNat_of_zero_le n0
      obtain ⟨out, lost, hS, hlen, hok, hev, hlost⟩ := even_facts hv m (by omega)
      have HV := Lib.hid hv
      have HS := Lib.hid hS
      have HOK := Lib.hid hok
      have HEV := Lib.hid hev
      have HLOST := Lib.hid hlost
      have HTK := Lib.hid (emptied_take d)
      have hel := emptied_length d
      have HEL := Lib.hid hel
      have hol7 : (out.length : Int) ≤ 7 := by omega
      clear hv hS hok hev hlost hlen hel
      go_wp2_with (go_at_call 13; refine (specPaths_any A1 c1 d _ HROW1.out.rd (by omega)).mono ?_; rw [HV.out]; rintro e w' ⟨rfl, rfl⟩)
      go_loopw [5, 6] (fun o i wr => ∃ k : Nat, k ≤ d.length ∧ i = .int .i64 k ∧ Below w.heap.size w wr ∧ w1.heap.size ≤ wr.heap.size ∧ Hid (Row ePath wr g1 33 A1 c1 d) ∧ ∃ A2 c2 g2, ∃ lk : List Pth, o = .slice A2 lk.length c2 ∧ Hid (lk = (emptied d).take k) ∧ (lk.length ≤ k ∧ k ≤ lk.length) ∧ w1.heap.size ≤ g2 ∧ Row ePath wr g2 33 A2 c2 lk) (fun _ i _ => d.length - (intOf i).toNat)
      case atStart => exact ⟨0, Nat.zero_le _, rfl, (by repeat (first | with_reducible exact hb1 | with_reducible exact Below.refl _ _ | with_reducible refine below_drewN ?_ _ | with_reducible refine Below.drew ?_ | with_reducible refine Below.alloc ?_ ?_ _ | with_reducible refine Below.setCell ?_ ?_ _ | (with_reducible refine Below.next ?_ (by assumption)) | ((with_reducible refine Below.far' (by assumption) ?_ ?_ ?_); (focus (first | omega | (simp; omega) | (simp; done))); (focus (first | omega | (simp; omega) | (simp; done)))) | omega | (focus (simp; omega)) | (focus (simp; done)))), by simp, Lib.hid (Row.alloc HROW1.out _), _, _, w1.heap.size, [], rfl, Lib.hid (by simp), by simp, Nat.le_refl _, Row.made0 rfl⟩
      case round =>
        obtain ⟨k, hk, rfl, hbw, hzr, HR1, A2, c2, g2, lk, rfl, HLK, ⟨hlk1, hlk2⟩, hg2, row2⟩ := hrel
        have HROW2 := Lib.hid row2
        clear row2
        by_cases hlt : k < d.length
        · obtain ⟨b1, o1, rfl, hbl1, hu, -⟩ := HR1.out.rd.path hlt
          have HTK2 := Lib.hid (HTK.out k hlt)
          obtain ⟨u, hue⟩ : ∃ u, u = d[k].up := ⟨_, rfl⟩
          rw [← hue] at hu HTK2
          clear hue
          have HBW := Lib.hid hbw
          go_wp2_with (at_builtin; refine wpList_append_row (E := ePath) (A := A2) (c := c2) (g := g2) (l := lk) rfl _ _ rfl el_path rfl ?_ _ _ [(⟨u, 0⟩ : Pth)] rfl ?_ (by simp only [maxLen, List.length_cons, List.length_nil]; omega) (by simp only [List.length_cons, List.length_nil]; omega) ?_; (focus (exact (by repeat (first | with_reducible exact HROW2.out | with_reducible refine Row.drew ?_ | with_reducible refine Row.drewN ?_ _ | with_reducible refine Row.alloc ?_ _ | (with_reducible refine Row.below ?_ (by assumption)) | ((with_reducible refine Row.other ?_ ?_ _); rotate_left; (focus (first | omega | (simp; omega) | (simp; done)))) | ((with_reducible refine Row.far' (by assumption) ?_ ?_); (focus (first | omega | (simp; omega) | (simp; done)))))))); (focus (exact (by repeat (first | ((with_reducible refine Rd.lit ?_ ?_); (focus (first | with_reducible rfl | omega | (simp; omega) | (simp; done))); (focus (first | rfl | (simp; rfl) | (simp; done)))) | with_reducible refine Rd.drew ?_ | with_reducible refine Rd.drewN ?_ _ | with_reducible refine Rd.alloc ?_ _ | (with_reducible refine Rd.below ?_ (by assumption)))))); intro A3 c3 g3 w3 l3 hl3 hle1 hle2 hrow3 hg3 hgg3)
          go_roundw
          case rel =>
            simp only [List.length_cons, List.length_nil] at hle1 hle2
            have hz3 := hg3.size
            simp at hz3 hgg3
            exact ⟨k + 1, by omega, by go_num, (by repeat (first | with_reducible exact HBW.out | with_reducible exact Below.refl _ _ | with_reducible refine below_drewN ?_ _ | with_reducible refine Below.drew ?_ | with_reducible refine Below.alloc ?_ ?_ _ | with_reducible refine Below.setCell ?_ ?_ _ | (with_reducible refine Below.next ?_ (by assumption)) | ((with_reducible refine Below.far' (by assumption) ?_ ?_ ?_); (focus (first | omega | (simp; omega) | (simp; done))); (focus (first | omega | (simp; omega) | (simp; done)))) | omega | (focus (simp; omega)) | (focus (simp; done)))), by omega, Lib.hid (Row.far (Row.alloc HR1.out _) hg3 (HM1.out) hg2), A3, c3, g3, l3, rfl, Lib.hid (by rw [hl3.out, HLK.out, HTK2.out]), ⟨by omega, by omega⟩, by omega, hrow3⟩
          case measure => simp [intOf]; omega
        · have HE : Hid (lk = emptied d) := Lib.hid (by rw [HLK.out, List.take_of_length_le (by rw [HEL.out]; omega)])
          have HS2 : Hid (sendB lk (m : Int) = (out, lost)) := Lib.hid (by rw [HE.out]; exact HS.out)
          have HC2 : Hid (lost = 0 ∨ chooseB lk = -1) := Lib.hid (by rw [HE.out]; exact HLOST.out)
          have HN2 := Lib.hid HROW2.out.nilc
          have HBW := Lib.hid hbw
          obtain ⟨wb, hwb⟩ : ∃ x, x = wr := ⟨_, rfl⟩
          subst hwb
          clear HLK hbw HS HLOST HTK HEL HR1 HROW1 HM1 hb1
          go_wp2_with fail
          refine (implSend_any A2 c2 lk (m : Int) _ HROW2.out.rd (by omega) HN2.out).mono ?_
          rw [HS2.out]
          rintro e w2 ⟨A5, c5, g5, rfl, hg5, row5, hb5, -⟩
          replace row5 : Row ePath w2 g5 33 A5 c5 out := row5
          have HROW5 := Lib.hid row5
          have HROW25 := Lib.hid (HROW2.out.below hb5)
          clear row5
          go_wp2_with fail
          refine (specSend_any A2 c2 lk (m : Int) _ HROW25.out.rd (by omega)).mono ?_
          rw [HS2.out]
          rintro e w3 ⟨A6, c6, g6, rfl, hg6, row6, hb6, -⟩
          replace row6 : Row ePath w3 g6 33 A6 c6 out := row6
          have HROW56 := Lib.hid (HROW5.out.below hb6)
          have HROW26 := Lib.hid (HROW25.out.below hb6)
          go_wp2_with fail
          refine (samePaths_any A5 A6 c5 c6 out out _ HROW56.out.rd row6.rd (by omega) (by omega)).mono ?_
          rw [dec_refl]
          rintro e w4 ⟨rfl, hq7⟩
          have hb7 : Below w3.heap.size w3 w4 := by obtain ⟨q, rfl⟩ := hq7; exact below_drewN (Below.refl _ _) q
          have RO := Lib.hid (HROW56.out.below hb7).rd
          have RL := Lib.hid (HROW26.out.below hb7)
          have BB : Hid (Below w.heap.size w w4) := Lib.hid (Below.next (Below.next (Below.next (W := w) HBW.out hb5) hb6) hb7)
          clear hb5 hb6 hb7 hq7 row6 HROW5 HROW56 HROW25 HROW26 HROW2
          go_wp2_with fail
          go_loopw [11] (fun i wr => ∃ k : Nat, k ≤ out.length ∧ i = .int .i64 k ∧ ∃ q, wr = w4.drewN q) (fun i _ => out.length - (intOf i).toNat)
          case atStart => exact ⟨0, Nat.zero_le _, rfl, 0, rfl⟩
          case round =>
            obtain ⟨i, hi, rfl, q, rfl⟩ := hrel
            by_cases hil : i < out.length
            · obtain ⟨b1, o1, rfl, hbl1, hu, hx⟩ := RO.out.path hil
              have HEI := Lib.hid (HEV.out i hil)
              obtain ⟨u, hue⟩ : ∃ u, u = out[i].up := ⟨_, rfl⟩
              obtain ⟨x, hxe⟩ : ∃ x, x = out[i].load := ⟨_, rfl⟩
              have hx0 := (pathsB_get HOK.out hil).1
              rw [← hue] at hu HEI
              rw [← hxe] at hx HEI hx0
              clear hue hxe
              go_wp2
              go_loopw [12] (fun j wr => ∃ k : Nat, k ≤ out.length ∧ j = .int .i64 k ∧ ∃ q, wr = w4.drewN q) (fun j _ => out.length - (intOf j).toNat)
              case atStart => exact ⟨0, Nat.zero_le _, rfl, q, by simp⟩
              case round =>
                obtain ⟨j, hj, rfl, q2, rfl⟩ := hrel
                by_cases hjl : j < out.length
                · obtain ⟨b2, o2, he2, hbl2, hv, hy⟩ := RO.out.path hjl
                  cases he2
                  have HEJ := Lib.hid (HEI.out j hjl)
                  obtain ⟨v, hve⟩ : ∃ v, v = out[j].up := ⟨_, rfl⟩
                  obtain ⟨y, hye⟩ : ∃ y, y = out[j].load := ⟨_, rfl⟩
                  have hy0 := (pathsB_get HOK.out hjl).1
                  rw [← hve] at hv HEJ
                  rw [← hye] at hy HEJ hy0
                  clear hve hye
                  cases u
                  · go_wp2
                    go_quiet (fail)
                    go_wp2
                    go_roundw
                    case rel => exact ⟨j + 1, by omega, by go_num, _, rfl⟩
                    case measure => simp [intOf]; omega
                  · cases v
                    · go_wp2
                      go_quiet (fail)
                      go_wp2
                      go_roundw
                      case rel => exact ⟨j + 1, by omega, by go_num, _, rfl⟩
                      case measure => simp [intOf]; omega
                    · have hle := HEJ.out rfl rfl
                      have hle' : decide (y + 1 < x) = false := by simp; omega
                      have hw1 : IntKind.i64.wrap (y + 1) = y + 1 := IntWalk.i64_in _ (by omega)
                      go_wp2
                      go_quiet (fail)
                      clear hw1
                      go_wp2
                      go_roundw
                      case rel => exact ⟨j + 1, by omega, by go_num, _, rfl⟩
                      case measure => simp [intOf]; omega
                · go_wp2
                  go_roundw
                  case rel => exact ⟨i + 1, by omega, by go_num, _, rfl⟩
                  case measure => simp [intOf]; omega
            · have RLq := Lib.hid (Row.drewN RL.out q)
              have BBq : Hid (Below w.heap.size w (w4.drewN q)) := Lib.hid (below_drewN BB.out q)
              by_cases hl0 : lost = 0
              · have hl0' : (lost == 0) = true := by simpa using hl0
                clear hl0
                go_wp2
                go_ret
                exact ⟨rfl, (by repeat (first | with_reducible exact BBq.out | with_reducible exact Below.refl _ _ | with_reducible refine below_drewN ?_ _ | with_reducible refine Below.drew ?_ | with_reducible refine Below.alloc ?_ ?_ _ | with_reducible refine Below.setCell ?_ ?_ _ | (with_reducible refine Below.next ?_ (by assumption)) | ((with_reducible refine Below.far' (by assumption) ?_ ?_ ?_); (focus (first | omega | (simp; omega) | (simp; done))); (focus (first | omega | (simp; omega) | (simp; done)))) | omega | (focus (simp; omega)) | (focus (simp; done))))⟩
              · have hl0' : (lost == 0) = false := by simpa using hl0
                have HCH := Lib.hid (HC2.out.resolve_left hl0)
                clear hl0
                go_wp2_with fail
                refine (implChoose_any A2 c2 lk _ RLq.out.rd (by omega)).mono ?_
                rw [HCH.out]
                rintro e w8 ⟨rfl, hb8⟩
                go_wp2
                go_ret
                exact ⟨rfl, (by repeat (first | with_reducible exact BBq.out | with_reducible exact Below.refl _ _ | with_reducible refine below_drewN ?_ _ | with_reducible refine Below.drew ?_ | with_reducible refine Below.alloc ?_ ?_ _ | with_reducible refine Below.setCell ?_ ?_ _ | (with_reducible refine Below.next ?_ (by assumption)) | ((with_reducible refine Below.far' (by assumption) ?_ ?_ ?_); (focus (first | omega | (simp; omega) | (simp; done))); (focus (first | omega | (simp; omega) | (simp; done)))) | omega | (focus (simp; omega)) | (focus (simp; done))))⟩
    · have hcase : pathsB d = false ∨ (pathsB d = true ∧ (n < 0 ∨ 500 < n)) := by
        cases h : pathsB d
        · exact .inl rfl
        · right; refine ⟨rfl, ?_⟩
          rw [h] at hok
          by_cases h0 : n < 0
          · exact .inl h0
          · right
            by_cases h5 : n ≤ 500
            · exact absurd ⟨rfl, by omega, h5⟩ hok
            · omega
      clear hok
      have HBW := Lib.hid hb1
      rcases hcase with hv | ⟨hv, hlt | hlt⟩
      all_goals
        have HV := Lib.hid hv
        clear hv
        go_wp2_with (first
          | (go_at_call 13; refine (specPaths_any A1 c1 d _ HROW1.out.rd (by omega)).mono ?_; rw [HV.out]; rintro e w' ⟨rfl, rfl⟩)
          | (go_at_call 20; refine (alive_any _).mono ?_; rintro e w6 ⟨rfl, hb6⟩))
        go_ret
        exact ⟨rfl, (by repeat (first | with_reducible exact HBW.out | with_reducible exact Below.refl _ _ | with_reducible refine below_drewN ?_ _ | with_reducible refine Below.drew ?_ | with_reducible refine Below.alloc ?_ ?_ _ | with_reducible refine Below.setCell ?_ ?_ _ | (with_reducible refine Below.next ?_ (by assumption)) | ((with_reducible refine Below.far' (by assumption) ?_ ?_ ?_); (focus (first | omega | (simp; omega) | (simp; done))); (focus (first | omega | (simp; omega) | (simp; done)))) | omega | (focus (simp; omega)) | (focus (simp; done))))⟩
set_option maxRecDepth 100000 in
theorem lifted (os : Os) (started : os.Started) (H : Type) (enc : TypeId × Value → H) :
    ReturnsInHanded {} Try.checked os 9 .any (Rows.fnPathsEvenSpec.pre6 enc Try.prog Try.f9 Rows.fnPathsEvenRow.domain false) (Rows.fnPathsEvenSpec.post enc Try.prog Try.f9 false true false false) := by
  refine returnsInHanded_of_change (C := Try.checked) own_knob started (by kernel_rfl) Try.func9
    (ChangeSpec.witness6 (enc := enc) (C := Try.checked) false ⟨#[], #[.slice none 0 0], []⟩ 8 (by kernel_rfl) (by kernel_rfl) (by kernel_rfl) (by kernel_rfl)) ?_
  intro W base args ds gs before hval0 hW hcnd _
  have hval : ∀ (j : Nat) t v, Try.f9.params[j]? = some t → args[j]? = some v → Value.okWide Try.prog W .any base t v := hval0
  have hW' := hW
  obtain ⟨p, q, hA0, hV, rfl, hfz, hnd⟩ := hW
  have hA : DataW.TrodAll enc Try.prog W 0 (fun _ => true) true Try.f9.params.toList args.toList ds p := hA0
  rw [Try.params9] at hA hval
  obtain ⟨v0, vs0, d0, ds0, p0, q0, hargs, rfl, rfl, h0, r0⟩ := trodAll_cons hA
  obtain ⟨rfl, rfl, rfl⟩ := trodAll_nil r0
  obtain rfl : args = #[v0] := by cases args; simp_all
  obtain ⟨rfl, rfl⟩ := trodVars_none hV
  have k0 := h0
  have lt0 : ∀ x ∈ p0, x.block < W.heap.size := by obtain ⟨m, hm⟩ := k0; exact DataW.trod_lt m _ _ _ hm
  obtain ⟨A0, c0, l0, rfl, hl0, hm0, rd0, by0⟩ := open_bytes Try.underlying30 Try.underlying5 (by kernel_rfl) (hval 0 30 v0 rfl rfl) h0
  clear hA0 hval0
  refine (walk A0 c0 l0 W hl0 hm0 rd0 by0).mono fun e W' ⟨he, bel⟩ => ?_
  subst he
  exact ⟨_, rfl, _, _, _, [], _, [], hW', trodAll_mk1 (shut_bool Try.underlying4 _), (trodAll_cons_mk (Below.trod laid_out (by kernel_rfl) (of_decide_eq_true (by kernel_rfl)) k0 bel lt0) trodAll_mk0), rfl, bel.frame _, fun h => by cases h⟩
theorem over : Rows.fnPathsEvenRow.holds Try.pinned (OpenSpec.ofChange Rows.fnPathsEvenSpec) :=
  OpenClaim.holds_of_wide 9 Try.f9 rfl rfl rfl rfl rfl rfl rfl ⟨rfl, rfl, rfl, rfl, rfl⟩ rfl rfl rfl rfl rfl (by kernel_rfl) Try.func9 (by kernel_rfl)
    (of_decide_eq_true (by kernel_rfl)) (by unfold Func.isWrapper; first | (rw [if_pos (by decide +kernel)]; kernel_rfl) | (rw [if_neg (by decide +kernel)]; exact ⟨rfl, rfl⟩))
    (fun os started H enc _ => lifted os started H enc)
theorem proved : Rows.FnPathsEvenSaid := over
end LwPe
end Go.Proofs.Ytplmfcbikcjccaa
