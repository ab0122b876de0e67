/-
  FnFlashMany: rewriting wears blocks. No condition.
-/
import Derived.Test.YtnnanknljpkdeaaBase
import Derived.Test.YtnnanknljpkdeaaNum
import Derived.Test.YtnnanknljpkdeaaInts
import Derived.Test.YtnnanknljpkdeaaApp
import Derived.Test.YtnnanknljpkdeaaIntsW
import Derived.Test.YtnnanknljpkdeaaLib
import Derived.Test.YtnnanknljpkdeaaSpares
import Derived.Test.YtnnanknljpkdeaaOwn
import Derived.Test.YtnnanknljpkdeaaPage
import Derived.Test.YtnnanknljpkdeaaFlash
import Derived.Test.YtnnanknljpkdeaaFlashM
import Derived.Test.YtnnanknljpkdeaaFlashC
import Derived.Test.YtnnanknljpkdeaaFlashD
import Derived.Test.YtnnanknljpkdeaaFlashV
import Derived.Test.YtnnanknljpkdeaaThinC
import Derived.Test.YtnnanknljpkdeaaFlashW
import Derived.Test.YtnnanknljpkdeaaFlashN
import Derived.Test.YtnnanknljpkdeaaFlashX
import Derived.Test.YtnnanknljpkdeaaFlashY
import Derived.Test.YtnnanknljpkdeaaFlashZ
import Derived.Test.YtnnanknljpkdeaaFlashCB
import Derived.Test.YtnnanknljpkdeaaFlashWB
import Derived.Test.YtnnanknljpkdeaaFlashP
import Derived.Test.YtnnanknljpkdeaaDraw
import Derived.Test.YtnnanknljpkdeaaDrawK
import Derived.Test.YtnnanknljpkdeaaSameF
import Derived.Test.YtnnanknljpkdeaaNewP
import Derived.Test.YtnnanknljpkdeaaOpen
import Derived.IntWalk
namespace Go.Proofs.Ytnnanknljpkdeaa
open Go.RowKit Go.ChangeShapes Go.WideShapes Go.ChangeAt Go.Deep Go.Joins
theorem free_new (m : Nat) : freeN (List.replicate m freeP) = m := by
  unfold freeN
  have : (List.replicate m freeP).countP (fun p => p.own == -1) = (List.replicate m freeP).length := by
    rw [List.countP_eq_length]
    intro p hp
    rw [List.eq_of_mem_replicate hp]; rfl
  rw [this]; simp
theorem many_new {n : Int} (h2 : 2 ≤ n) (h6 : n ≤ 6) : ∃ f : Fl, newF n = f ∧ Many f.pages.length f.erases.length 0 f ∧ (f.pages.length : Int) = n * 4 ∧ (f.erases.length : Int) = n := by
  obtain ⟨m, rfl⟩ := Int.eq_ofNat_of_zero_le (by omega : 0 ≤ n)
  have hi : inB (m : Int) 2 6 = true := inB_true.2 ⟨h2, h6⟩
  have hok := newF_ok (n := m) (by omega) (by omega)
  have hw : wearN ⟨List.replicate (m * 4) freeP, List.replicate m 0⟩ = 0 := by
    unfold wearN
    have : ∀ k, (List.replicate k (0 : Int)).sum = 0 := fun k => by induction k with
      | zero => rfl
      | succ k ih => rw [List.replicate_succ, List.sum_cons, ih]; rfl
    exact this m
  have hf : freeN (List.replicate (m * 4) freeP) = m * 4 := free_new _
  refine ⟨_, by rw [newF_yes hi, Int.toNat_natCast], ⟨hok, rfl, rfl, by rw [hw]; omega, by rw [hw]; omega, ?_, fun _ => ?_, fun h => by rw [hw] at h; omega, fun h => by omega⟩, by simp, by simp⟩
  · rw [hw]; simp only [hf]; simp
  · simp only [hf]; simp
theorem many_view {P n k : Nat} {f : Fl} (h : Many P n k f) (hk : 0 < k) : viewF f = viewL f.pages ((f.erases.length - 1) * 4) ∧ 2 < (viewF f).length ∧ ∀ hh : 2 < (viewF f).length, (viewF f)[2] = (k : Int) - 1 := by
  have e := viewF_yes (flashB_iff.2 h.ok)
  have h2 := h.ok.n2
  refine ⟨e, by rw [e, viewL_length]; omega, fun hh => ?_⟩
  have : ∀ (l : List Int) (hl : l = viewF f) (h1 : 2 < l.length), l[2] = (k : Int) - 1 := by
    intro l hl h1
    subst hl
    simp only [e] at h1 ⊢
    rw [viewL_get]
    exact h.val hk
  exact this _ rfl hh
theorem take_sum (l : List Int) (i : Nat) (hi : i < l.length) : (l.take (i + 1)).sum = (l.take i).sum + l[i] := by
  rw [List.take_succ_eq_append_getElem hi, List.sum_append]; simp
theorem take_bd {l : List Int} (h : ∀ x ∈ l, 0 ≤ x) (k : Nat) : 0 ≤ (l.take k).sum ∧ (l.take k).sum ≤ l.sum := by
  have h1 := sum_nonneg (fun x hx => h x (List.mem_of_mem_take hx) : ∀ x ∈ l.take k, 0 ≤ x)
  have h2 := sum_nonneg (fun x hx => h x (List.mem_of_mem_drop hx) : ∀ x ∈ l.drop k, 0 ≤ x)
  have h3 : l.sum = (l.take k).sum + (l.drop k).sum := by rw [← List.sum_append, List.take_append_drop]
  omega
namespace LwFm
set_option maxHeartbeats 8000000 in
theorem walk (A : Option Addr) (c : Nat) (l : List Int) (Am : Option Addr) (cm : Nat) (lm : List Int) (w : World) (hl : l.length ≤ c) (hm : c ≤ maxLen) (hr : Rd eByte w A l) (hb : ∀ x ∈ l, 0 ≤ x ∧ x ≤ 255) (hlm : lm.length ≤ cm) (hmm : cm ≤ maxLen) (_ : Rd eByte w Am lm) (_ : ∀ x ∈ lm, 0 ≤ x ∧ x ≤ 255) :
    Calls Try.prog 8 #[.slice A l.length c, .slice Am lm.length cm] w fun e w' => e = .returned (.bool true) ∧ Below w.heap.size w w' := by
  have HB := Lib.hid hb
  clear hb
  replace hlm := hlm
  replace hmm := hmm
  by_cases hsz : (1048576 : Int) < l.length
  · unfold maxLen at hm hmm
    go_enter Try.func8, Try.ntmps8
    go_wp2
    go_ret
    exact ⟨rfl, (by repeat (first | with_reducible exact Below.refl _ _ | with_reducible assumption | with_reducible refine below_drewN ?_ _ | with_reducible refine Below.drew ?_ | with_reducible refine Below.alloc ?_ ?_ _ | with_reducible refine Below.setCell ?_ ?_ _ | (with_reducible refine Below.next ?_ (by assumption)) | omega | (focus (simp; omega)) | (focus (simp; done))))⟩
  · by_cases hszm : (1048576 : Int) < lm.length
    · unfold maxLen at hmm
      go_enter Try.func8, Try.ntmps8
      go_wp2
      go_ret
      exact ⟨rfl, (by repeat (first | with_reducible exact Below.refl _ _ | with_reducible assumption | with_reducible refine below_drewN ?_ _ | with_reducible refine Below.drew ?_ | with_reducible refine Below.alloc ?_ ?_ _ | with_reducible refine Below.setCell ?_ ?_ _ | (with_reducible refine Below.next ?_ (by assumption)) | omega | (focus (simp; omega)) | (focus (simp; done))))⟩
    · go_enter Try.func8, Try.ntmps8
      go_wp2_with fail
      refine (drawNf_any A c l _ hl hm hr HB.out).mono ?_
      rintro e w1 ⟨n, rfl, n0, n1, hb1⟩
      have hz1 := hb1.size
      have HB1 := Lib.hid hb1
      clear hb1
      by_cases hin : 2 ≤ n ∧ n ≤ 6
      · obtain ⟨h2, h6⟩ := hin
        obtain ⟨f, hf, hmany, hp, he⟩ := many_new h2 h6
        have HF := Lib.hid hf
        have HM0 := Lib.hid hmany
        have hsz' : Hid (sizeFlash f ≤ 1099511627776) := Lib.hid (by unfold sizeFlash; omega)
        have hpos : ((f.pages.length : Int) == 0) = false := by rw [beq_eq_false_iff_ne]; omega
        obtain ⟨N, hN⟩ := Int.eq_ofNat_of_zero_le (by omega : 0 ≤ 1 + (lm.length : Int) % 60)
        have hN0 : 0 < N := by omega
        have hN60 : N ≤ 60 := by omega
        have hPb : f.pages.length ≤ 24 ∧ 8 ≤ f.pages.length := by omega
        have hEb : f.erases.length ≤ 6 ∧ 2 ≤ f.erases.length := by omega
        have HN := Lib.hid hN
        clear hf hmany hp he hN
        go_wp2_with fail
        refine (implNew_c n _).mono ?_
        rw [HF.out]
        rintro e w2 ⟨u0, u1, rfl, O2, hb2⟩
        have HR2 := Lib.hid O2.rd
        obtain ⟨A2, c2, A3, c3, rfl, rfl⟩ := flashRd_lens O2.rd
        have L4 := Loc.newAt w2 [.slice A2 f.pages.length c2, .slice A3 f.erases.length c3] 30 (b := w2.heap.size) rfl
        have HB2 : Hid (Below w.heap.size w w2) := Lib.hid (Below.next (W := w) HB1.out hb2)
        have hz2 := hb2.size
        clear hb2 O2
        go_wp2
        go_region_held3 (fun w' => w'.cell? ⟨w2.heap.size, 0, none⟩ = some (.slice A2 f.pages.length c2) ∧ w'.cell? ⟨w2.heap.size, 1, none⟩ = some (.slice A3 f.erases.length c3)) (first | assumption | (refine ⟨?_, ?_⟩ <;> assumption) | (refine ⟨?_, ?_⟩ <;> (simp [go_sem, *]; done)) | go_keep)
          (first
            | (go_at_call 21; (with_reducible refine (specNew_c n _).mono ?_); rw [HF.out]; rintro e w3 ⟨v0, v1, rfl, O3, hb3⟩; have HR3 := Lib.hid O3.rd; have HR23 : Hid (FlashRd w3 [.slice A2 f.pages.length c2, .slice A3 f.erases.length c3] f) := Lib.hid (FlashRd.below HR2.out (Below.next (W := w2) (by repeat (first | with_reducible exact Below.refl _ _ | with_reducible refine below_drewN ?_ _ | with_reducible refine Below.drew ?_ | with_reducible refine Below.alloc ?_ ?_ _ | with_reducible refine Below.setCell ?_ ?_ _ | omega | (focus (simp; omega)) | (focus (simp; done)))) hb3)); have L43 := Loc.carryB L4 (fun h => by ((repeat (first | with_reducible exact h | with_reducible refine Loc.drew ?_ | with_reducible refine Loc.drewN ?_ _ | with_reducible refine Loc.alloc ?_ _)); done)) hb3; obtain ⟨x03, x13, xf3⟩ := L43.two; have HB3 : Hid (Below w.heap.size w w3) := Lib.hid (Below.next (W := w) (by repeat (first | with_reducible exact HB2.out | with_reducible exact Below.refl _ _ | with_reducible refine below_drewN ?_ _ | with_reducible refine Below.drew ?_ | with_reducible refine Below.alloc ?_ ?_ _ | with_reducible refine Below.setCell ?_ ?_ _ | (with_reducible refine Below.next ?_ (by assumption)) | ((with_reducible refine Below.far' (by assumption) ?_ ?_ ?_); (focus (first | omega | (simp; omega) | (simp; done))); (focus (first | omega | (simp; omega) | (simp; done)))) | omega | (focus (simp; omega)) | (focus (simp; done)))) hb3); have hz3 := hb3.size; (try simp at hz3); clear hb3 O3)
            | (go_at_call 35; (with_reducible refine (sameFlash_c _ _ v0 v1 f _ HR23.out HR3.out hsz'.out).mono ?_); rintro e w4 ⟨rfl, hb4⟩; have HR24 : Hid (FlashRd w4 [.slice A2 f.pages.length c2, .slice A3 f.erases.length c3] f) := Lib.hid (FlashRd.below HR23.out hb4); have L44 := Loc.carryB L43 (fun h => by ((repeat (first | with_reducible exact h | with_reducible refine Loc.drew ?_ | with_reducible refine Loc.drewN ?_ _ | with_reducible refine Loc.alloc ?_ _)); done)) hb4; obtain ⟨x04, x14, xf4⟩ := L44.two; have HB4 : Hid (Below w.heap.size w w4) := Lib.hid (Below.next (W := w) HB3.out hb4); have hz4 := hb4.size; (try simp at hz4); clear hb4))
        all_goals skip
        have hNo := HN.out
        obtain ⟨x04', x14', xf4'⟩ := L44.two
        go_wp2
        clear hNo x04' x14' xf4'
        obtain ⟨P, hPe⟩ : ∃ P, P = f.pages.length := ⟨_, rfl⟩
        obtain ⟨E, hEe⟩ : ∃ E, E = f.erases.length := ⟨_, rfl⟩
        rw [← hPe, ← hEe] at HM0 HR24 L44
        rw [← hPe] at hPb hpos
        rw [← hEe] at hEb
        clear x04 x14 xf4 hPe hEe
        go_loopw [8] (fun i wr => ∃ k : Nat, k ≤ N ∧ i = .int .i64 k ∧ Below w.heap.size w wr ∧ ∃ (g : Fl) (A5 : Option Addr) (c5 : Nat) (A6 : Option Addr) (c6 : Nat), Hid (Many P E k g) ∧ Loc wr w2.heap.size [.slice A5 P c5, .slice A6 E c6] ∧ Hid (FlashRd wr [.slice A5 P c5, .slice A6 E c6] g)) (fun i _ => N - (intOf i).toNat)
        case atStart => exact ⟨0, Nat.zero_le _, rfl, HB4.out, f, A2, c2, A3, c3, HM0, L44, HR24⟩
        case round =>
          obtain ⟨k, hk, rfl, hbw, g, A5, c5, A6, c6, HM, LX, HR⟩ := hrel
          have hszg : Hid (sizeFlash g ≤ 1099511627776) := Lib.hid (by unfold sizeFlash; rw [HM.out.pages, HM.out.ers]; omega)
          have zX := LX.lt
          obtain ⟨x0, x1, xf⟩ := LX.two
          have HBW := Lib.hid hbw
          have hzw := hbw.size
          clear hbw
          by_cases hlt : k < N
          · have HM' := Lib.hid (many_next HM.out (by omega)).1
            obtain ⟨g', hg'⟩ : ∃ g', g' = writeB g 2 (k : Int) := ⟨_, rfl⟩
            rw [← hg'] at HM'
            have HG := Lib.hid hg'
            clear hg'
            go_wp2_with fail
            refine (implWrite_c _ _ g 2 (k : Int) _ HR.out hszg.out).mono ?_
            rw [← HG.out]
            rintro e w5 ⟨y0, y1, rfl, O5, hb5⟩
            obtain ⟨A7, c7, A8, c8, e1, e2⟩ := flashRd_lens O5.rd
            rw [HM'.out.pages] at e1
            rw [HM'.out.ers] at e2
            subst e1
            subst e2
            have LX5 := Loc.carryB LX (fun h => by ((repeat (first | with_reducible exact h | with_reducible refine Loc.drew ?_ | with_reducible refine Loc.drewN ?_ _ | with_reducible refine Loc.alloc ?_ _)); done)) hb5
            obtain ⟨y0, y1, yf⟩ := LX5.two
            have zX5 := LX5.lt
            have HB5 : Hid (Below w.heap.size w w5) := Lib.hid (Below.next (W := w) HBW.out hb5)
            have HO5 := Lib.hid O5
            have hz5 := hb5.size
            clear hb5 O5 x0 x1 xf
            go_wp2
            go_roundw
            case rel =>
              refine ⟨k + 1, by omega, by go_num, (by repeat (first | with_reducible exact HB5.out | with_reducible exact Below.refl _ _ | with_reducible refine below_drewN ?_ _ | with_reducible refine Below.drew ?_ | with_reducible refine Below.alloc ?_ ?_ _ | with_reducible refine Below.setCell ?_ ?_ _ | (with_reducible refine Below.next ?_ (by assumption)) | ((with_reducible refine Below.far' (by assumption) ?_ ?_ ?_); (focus (first | omega | (simp; omega) | (simp; done))); (focus (first | omega | (simp; omega) | (simp; done)))) | omega | (focus (simp; omega)) | (focus (simp; done)))), g', A7, c7, A8, c8, HM', ?_, Lib.hid ?_⟩
              · exact (by repeat (first | with_reducible assumption | with_reducible apply Loc.fill3 | with_reducible apply Loc.fill2 | ((with_reducible refine Loc.newAt' ?_ rfl); (focus (first | with_reducible rfl | omega | (simp; omega) | (simp; done)))) | with_reducible refine Loc.drew ?_ | with_reducible refine Loc.drewN ?_ _ | with_reducible refine Loc.alloc ?_ _ | (with_reducible refine Loc.below ?_ (by assumption)) | ((with_reducible refine Loc.other' ?_ ?_ _); (focus (first | omega | (simp; omega) | (simp; done)))) | ((with_reducible refine Loc.far' (by assumption) ?_ ?_); (focus (first | omega | (simp; omega) | (simp; done))))))
              · exact FlashOwn.rd (FlashOwn.other (FlashOwn.other HO5.out (by simp; omega) _) (by simp; omega) _)
            case measure => simp [intOf]; omega
          · have hkN : k = N := by omega
            subst hkN
            clear hlt
            have HEG := Lib.hid (FlashRd.ers (x0 := .slice A5 P c5) (A' := A6) (c' := c6) (t := g) (by rw [HM.out.ers]; exact HR.out))
            have hel := HM.out.ers
            have HTB := Lib.hid (fun k => take_bd (fun x hx => (HM.out.ok.ers x hx).1) k)
            obtain ⟨W, hW⟩ : ∃ W, W = wearN g := ⟨_, rfl⟩
            have HW := Lib.hid hW
            have hw0 := HM.out.wear0
            have hw1 := HM.out.wearK
            have hcnt := HM.out.cnt
            have hfew := HM.out.few
            have hmany := HM.out.many
            rw [← hW] at hw0 hw1 hcnt hfew hmany
            have HTS := Lib.hid (fun i (hi : i < g.erases.length) => take_sum g.erases i hi)
            have HTE : Hid ((g.erases.take E).sum = W) := Lib.hid (by rw [hW, List.take_of_length_le (by omega)]; rfl)
            obtain ⟨hv1, hv2, hv3⟩ := many_view HM.out hN0
            have HV3 := Lib.hid hv3
            have hvl : (viewF g).length ≤ 100 := by rw [hv1, viewL_length]; omega
            have hel1 : E ≤ g.erases.length := by omega
            have HW2 : Hid (g.erases.sum = W) := Lib.hid (by rw [hW]; rfl)
            clear hW hel hv1 hv3
            go_wp2
            go_loop [9, 10] (fun s i => ∃ j : Nat, j ≤ E ∧ i = .int .i64 j ∧ s = .int .i64 ((g.erases.take j).sum)) (fun _ i => E - (intOf i).toNat)
            case atStart => exact ⟨0, Nat.zero_le _, rfl, by simp⟩
            case round =>
              obtain ⟨j, hj, rfl, rfl⟩ := hrel
              by_cases hjl : j < E
              · obtain ⟨b, off, rfl, hbl, hcc⟩ := HEG.out.int (k := j) (by omega)
                have htb := HTB.out j
                have htb2 := HTB.out (j + 1)
                have HTS2 := Lib.hid (HTS.out j (by omega))
                rw [HTS2.out] at htb2
                rw [HW2.out] at htb htb2
                obtain ⟨x, hx⟩ : ∃ x, x = g.erases[j]'(by omega) := ⟨_, rfl⟩
                obtain ⟨S, hS⟩ : ∃ S, S = (g.erases.take j).sum := ⟨_, rfl⟩
                rw [← hx] at hcc htb2 HTS2
                rw [← hS] at htb htb2 HTS2
                rw [← hS]
                clear hx hS
                go_wp2
                go_round
                case rel => exact ⟨j + 1, by omega, by go_num, by rw [HTS2.out]⟩
                case measure => simp [intOf]; omega
              · have hje : j = E := by omega
                subst hje
                rw [HTE.out]
                go_wp2_with fail
                refine (implView_c _ _ g _ HR.out hszg.out).mono ?_
                rintro e w6 ⟨z0, rfl, ⟨A9, c9, g9, rfl, row9, -⟩, hb6⟩
                have LX6 := Loc.carryB LX (fun h => by ((repeat (first | with_reducible exact h | with_reducible refine Loc.drew ?_ | with_reducible refine Loc.drewN ?_ _ | with_reducible refine Loc.alloc ?_ _)); done)) hb6
                obtain ⟨y0, y1, yf⟩ := LX6.two
                obtain ⟨b, off, rfl, hbl, hcc⟩ := row9.rd.int hv2
                rw [HV3.out hv2] at hcc
                have hv2' : (2 : Int) < ((viewF g).length : Int) := by omega
                have HB6 : Hid (Below w.heap.size w w6) := Lib.hid (Below.next (W := w) HBW.out hb6)
                clear hb6 x0 x1 xf row9
                have hge : (k : Int) - (P : Int) ≤ 4 * W := by omega
                have hw60 : W ≤ 60 := by omega
                by_cases hkp : (k : Int) ≤ (P : Int)
                · have hW0 : W = 0 := by
                    by_cases h : 0 < W
                    · have := hmany h; omega
                    · omega
                  clear hfew hmany hcnt HTE HW2 HTB HTS HW
                  subst hW0
                  go_wp2
                  go_ret
                  exact ⟨rfl, (by repeat (first | with_reducible exact HB6.out | with_reducible exact Below.refl _ _ | with_reducible refine below_drewN ?_ _ | with_reducible refine Below.drew ?_ | with_reducible refine Below.alloc ?_ ?_ _ | with_reducible refine Below.setCell ?_ ?_ _ | (with_reducible refine Below.next ?_ (by assumption)) | ((with_reducible refine Below.far' (by assumption) ?_ ?_ ?_); (focus (first | omega | (simp; omega) | (simp; done))); (focus (first | omega | (simp; omega) | (simp; done)))) | omega | (focus (simp; omega)) | (focus (simp; done))))⟩
                · have hW1 : 0 < W := by
                    by_cases h : 0 < W
                    · exact h
                    · have := hfew (by omega); omega
                  clear hfew hmany hcnt HTE HW2 HTB HTS HW
                  have hW2 : (W == 0) = false := by rw [beq_eq_false_iff_ne]; omega
                  go_wp2
                  go_ret
                  exact ⟨rfl, (by repeat (first | with_reducible exact HB6.out | with_reducible exact Below.refl _ _ | with_reducible refine below_drewN ?_ _ | with_reducible refine Below.drew ?_ | with_reducible refine Below.alloc ?_ ?_ _ | with_reducible refine Below.setCell ?_ ?_ _ | (with_reducible refine Below.next ?_ (by assumption)) | ((with_reducible refine Below.far' (by assumption) ?_ ?_ ?_); (focus (first | omega | (simp; omega) | (simp; done))); (focus (first | omega | (simp; omega) | (simp; done)))) | omega | (focus (simp; omega)) | (focus (simp; done))))⟩
      · have hF : newF n = ⟨[], []⟩ := newF_no (by cases h : inB n 2 6; rfl; exact absurd (inB_true.1 h) hin)
        obtain ⟨f, hf⟩ : ∃ f : Fl, f = ⟨[], []⟩ := ⟨_, rfl⟩
        rw [← hf] at hF
        have HF := Lib.hid hF
        have hp : (f.pages.length : Int) = 0 := by rw [hf]; rfl
        have hp0 : (f.pages.length : Int) ≤ 0 := by omega
        have hsz' : Hid (sizeFlash f ≤ 1099511627776) := Lib.hid (by rw [hf]; simp [sizeFlash])
        have hp1 : ((f.pages.length : Int) == 0) = true := by simpa using hp
        have hp2 : (f.pages.length == 0) = true := by rw [beq_iff_eq]; omega
        clear hF hf hin hp hp2
        go_wp2_with fail
        refine (implNew_c n _).mono ?_
        rw [HF.out]
        rintro e w2 ⟨u0, u1, rfl, O2, hb2⟩
        have HR2 := Lib.hid O2.rd
        obtain ⟨A2, c2, A3, c3, rfl, rfl⟩ := flashRd_lens O2.rd
        have L4 := Loc.newAt w2 [.slice A2 f.pages.length c2, .slice A3 f.erases.length c3] 30 (b := w2.heap.size) rfl
        have HB2 : Hid (Below w.heap.size w w2) := Lib.hid (Below.next (W := w) HB1.out hb2)
        have hz2 := hb2.size
        clear hb2 O2
        go_wp2
        go_region_held3 (fun w' => w'.cell? ⟨w2.heap.size, 0, none⟩ = some (.slice A2 f.pages.length c2) ∧ w'.cell? ⟨w2.heap.size, 1, none⟩ = some (.slice A3 f.erases.length c3)) (first | assumption | (refine ⟨?_, ?_⟩ <;> assumption) | (refine ⟨?_, ?_⟩ <;> (simp [go_sem, *]; done)) | go_keep)
          (first
            | (go_at_call 21; (with_reducible refine (specNew_c n _).mono ?_); rw [HF.out]; rintro e w3 ⟨v0, v1, rfl, O3, hb3⟩; have HR3 := Lib.hid O3.rd; have HR23 : Hid (FlashRd w3 [.slice A2 f.pages.length c2, .slice A3 f.erases.length c3] f) := Lib.hid (FlashRd.below HR2.out (Below.next (W := w2) (by repeat (first | with_reducible exact Below.refl _ _ | with_reducible refine below_drewN ?_ _ | with_reducible refine Below.drew ?_ | with_reducible refine Below.alloc ?_ ?_ _ | with_reducible refine Below.setCell ?_ ?_ _ | omega | (focus (simp; omega)) | (focus (simp; done)))) hb3)); have L43 := Loc.carryB L4 (fun h => by ((repeat (first | with_reducible exact h | with_reducible refine Loc.drew ?_ | with_reducible refine Loc.drewN ?_ _ | with_reducible refine Loc.alloc ?_ _)); done)) hb3; obtain ⟨x03, x13, xf3⟩ := L43.two; have HB3 : Hid (Below w.heap.size w w3) := Lib.hid (Below.next (W := w) (by repeat (first | with_reducible exact HB2.out | with_reducible exact Below.refl _ _ | with_reducible refine below_drewN ?_ _ | with_reducible refine Below.drew ?_ | with_reducible refine Below.alloc ?_ ?_ _ | with_reducible refine Below.setCell ?_ ?_ _ | (with_reducible refine Below.next ?_ (by assumption)) | ((with_reducible refine Below.far' (by assumption) ?_ ?_ ?_); (focus (first | omega | (simp; omega) | (simp; done))); (focus (first | omega | (simp; omega) | (simp; done)))) | omega | (focus (simp; omega)) | (focus (simp; done)))) hb3); have hz3 := hb3.size; (try simp at hz3); clear hb3 O3)
            | (go_at_call 35; (with_reducible refine (sameFlash_c _ _ v0 v1 f _ HR23.out HR3.out hsz'.out).mono ?_); rintro e w4 ⟨rfl, hb4⟩; have HR24 : Hid (FlashRd w4 [.slice A2 f.pages.length c2, .slice A3 f.erases.length c3] f) := Lib.hid (FlashRd.below HR23.out hb4); have L44 := Loc.carryB L43 (fun h => by ((repeat (first | with_reducible exact h | with_reducible refine Loc.drew ?_ | with_reducible refine Loc.drewN ?_ _ | with_reducible refine Loc.alloc ?_ _)); done)) hb4; obtain ⟨x04, x14, xf4⟩ := L44.two; have HB4 : Hid (Below w.heap.size w w4) := Lib.hid (Below.next (W := w) HB3.out hb4); have hz4 := hb4.size; (try simp at hz4); clear hb4))
        all_goals skip
        go_wp2_with (go_at_call 28; refine (alive_any _).mono ?_; rintro e w6 ⟨rfl, hb6⟩)
        go_ret
        exact ⟨rfl, (by repeat (first | with_reducible exact HB4.out | with_reducible exact Below.refl _ _ | with_reducible refine below_drewN ?_ _ | with_reducible refine Below.drew ?_ | with_reducible refine Below.alloc ?_ ?_ _ | with_reducible refine Below.setCell ?_ ?_ _ | (with_reducible refine Below.next ?_ (by assumption)) | ((with_reducible refine Below.far' (by assumption) ?_ ?_ ?_); (focus (first | omega | (simp; omega) | (simp; done))); (focus (first | omega | (simp; omega) | (simp; done)))) | omega | (focus (simp; omega)) | (focus (simp; done))))⟩
set_option maxRecDepth 100000 in
theorem lifted (os : Os) (started : os.Started) (H : Type) (enc : TypeId × Value → H) :
    ReturnsInHanded {} Try.checked os 8 .any (Rows.fnFlashManySpec.pre6 enc Try.prog Try.f8 Rows.fnFlashManyRow.domain false) (Rows.fnFlashManySpec.post enc Try.prog Try.f8 false true false false) := by
  refine returnsInHanded_of_change (C := Try.checked) own_knob started (by kernel_rfl) Try.func8
    (ChangeSpec.witness6 (enc := enc) (C := Try.checked) false ⟨#[], #[.slice none 0 0, .slice none 0 0], []⟩ 8 (by kernel_rfl) (by kernel_rfl) (by kernel_rfl) (by kernel_rfl)) ?_
  intro W base args ds gs before hval0 hW hcnd _
  have hval : ∀ (j : Nat) t v, Try.f8.params[j]? = some t → args[j]? = some v → Value.okWide Try.prog W .any base t v := hval0
  have hW' := hW
  obtain ⟨p, q, hA0, hV, rfl, hfz, hnd⟩ := hW
  have hA : DataW.TrodAll enc Try.prog W 0 (fun _ => true) true Try.f8.params.toList args.toList ds p := hA0
  rw [Try.params8] at hA hval
  obtain ⟨v0, vs0, d0, ds0, p0, q0, hargs, rfl, rfl, h0, r0⟩ := trodAll_cons hA
  obtain ⟨v1, vs1, d1, ds1, p1, q1, rfl, rfl, rfl, h1, r1⟩ := trodAll_cons r0
  obtain ⟨rfl, rfl, rfl⟩ := trodAll_nil r1
  obtain rfl : args = #[v0, v1] := by cases args; simp_all
  obtain ⟨rfl, rfl⟩ := trodVars_none hV
  have k0 := h0
  have lt0 : ∀ x ∈ p0, x.block < W.heap.size := by obtain ⟨m, hm⟩ := k0; exact DataW.trod_lt m _ _ _ hm
  obtain ⟨A0, c0, l0, rfl, hl0, hm0, rd0, by0⟩ := open_bytes Try.underlying38 Try.underlying5 (by kernel_rfl) (hval 0 38 v0 rfl rfl) h0
  have k1 := h1
  have lt1 : ∀ x ∈ p1, x.block < W.heap.size := by obtain ⟨m, hm⟩ := k1; exact DataW.trod_lt m _ _ _ hm
  obtain ⟨A1, c1, l1, rfl, hl1, hm1, rd1, by1⟩ := open_bytes Try.underlying38 Try.underlying5 (by kernel_rfl) (hval 1 38 v1 rfl rfl) h1
  clear hA0 hval0
  refine (walk A0 c0 l0 A1 c1 l1 W hl0 hm0 rd0 by0 hl1 hm1 rd1 by1).mono fun e W' ⟨he, bel⟩ => ?_
  subst he
  exact ⟨_, rfl, _, _, _, [], _, [], hW', trodAll_mk1 (shut_bool Try.underlying4 _), (trodAll_cons_mk (Below.trod laid_out (by kernel_rfl) (of_decide_eq_true (by kernel_rfl)) k0 bel lt0) (trodAll_cons_mk (Below.trod laid_out (by kernel_rfl) (of_decide_eq_true (by kernel_rfl)) k1 bel lt1) trodAll_mk0)), rfl, bel.frame _, fun h => by cases h⟩
theorem over : Rows.fnFlashManyRow.holds Try.pinned (OpenSpec.ofChange Rows.fnFlashManySpec) :=
  OpenClaim.holds_of_wide 8 Try.f8 rfl rfl rfl rfl rfl rfl rfl ⟨rfl, rfl, rfl, rfl, rfl⟩ rfl rfl rfl rfl rfl (by kernel_rfl) Try.func8 (by kernel_rfl)
    (of_decide_eq_true (by kernel_rfl)) (by unfold Func.isWrapper; first | (rw [if_pos (by decide +kernel)]; kernel_rfl) | (rw [if_neg (by decide +kernel)]; exact ⟨rfl, rfl⟩))
    (fun os started H enc _ => lifted os started H enc)
theorem proved : Rows.FnFlashManySaid := over
end LwFm
end Go.Proofs.Ytnnanknljpkdeaa
