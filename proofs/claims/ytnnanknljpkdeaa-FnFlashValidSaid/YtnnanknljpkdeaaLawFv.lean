/-
  FnFlashValid: a valid flash memory with a logical page at two places is invalid; without its first page, too. No condition.
-/
import Derived.Test.YtnnanknljpkdeaaBase
import Derived.Test.YtnnanknljpkdeaaNum
import Derived.Test.YtnnanknljpkdeaaInts
import Derived.Test.YtnnanknljpkdeaaApp
import Derived.Test.YtnnanknljpkdeaaIntsW
import Derived.Test.YtnnanknljpkdeaaLib
import Derived.Test.YtnnanknljpkdeaaSpares
import Derived.Test.YtnnanknljpkdeaaOwn
import Derived.Test.YtnnanknljpkdeaaPage
import Derived.Test.YtnnanknljpkdeaaFlash
import Derived.Test.YtnnanknljpkdeaaFlashM
import Derived.Test.YtnnanknljpkdeaaFlashC
import Derived.Test.YtnnanknljpkdeaaFlashD
import Derived.Test.YtnnanknljpkdeaaFlashV
import Derived.Test.YtnnanknljpkdeaaThinC
import Derived.Test.YtnnanknljpkdeaaFlashW
import Derived.Test.YtnnanknljpkdeaaFlashN
import Derived.Test.YtnnanknljpkdeaaFlashX
import Derived.Test.YtnnanknljpkdeaaFlashY
import Derived.Test.YtnnanknljpkdeaaFlashZ
import Derived.Test.YtnnanknljpkdeaaFlashCB
import Derived.Test.YtnnanknljpkdeaaFlashWB
import Derived.Test.YtnnanknljpkdeaaFlashP
import Derived.Test.YtnnanknljpkdeaaFlashQ
import Derived.Test.YtnnanknljpkdeaaDraw
import Derived.Test.YtnnanknljpkdeaaDrawK
import Derived.Test.YtnnanknljpkdeaaDrawD
import Derived.Test.YtnnanknljpkdeaaNewP
import Derived.Test.YtnnanknljpkdeaaKept
import Derived.Test.YtnnanknljpkdeaaDrawFl
import Derived.Test.YtnnanknljpkdeaaDrawFx
import Derived.Test.YtnnanknljpkdeaaSameF
import Derived.Test.YtnnanknljpkdeaaOpen
import Derived.IntWalk
namespace Go.Proofs.Ytnnanknljpkdeaa
open Go.RowKit Go.ChangeShapes Go.WideShapes Go.ChangeAt Go.Deep Go.Joins
theorem FlashRd.pagesTo {w : World} {x y : Value} {f : Fl} (h : FlashRd w [x, y] f) {v : Value} {l : List Pg} (hv : SRd encPageS w v l) : FlashRd w [v, y] ⟨l, f.erases⟩ := by
  obtain ⟨u, v', h1, h2, h3⟩ := h
  simp only [List.cons.injEq, and_true] at h1
  obtain ⟨rfl, rfl⟩ := h1
  exact ⟨_, _, rfl, hv, h3⟩
theorem FlashRd.cap {w : World} {A : Option Addr} {n c : Nat} {y : Value} {f : Fl} (h : FlashRd w [.slice A n c, y] f) : n = f.pages.length ∧ n ≤ c := by
  obtain ⟨u, v', h1, ⟨A', c', rfl, hr, hle, _⟩, h3⟩ := h
  simp only [List.cons.injEq, and_true, Value.slice.injEq] at h1
  obtain ⟨⟨-, rfl, rfl⟩, -⟩ := h1
  exact ⟨rfl, hle⟩
theorem FlashRd.tail {w : World} {b off n c : Nat} {y : Value} {f : Fl} (h : FlashRd w [.slice (some ⟨b, off, none⟩) n c, y] f) (hl : 0 < f.pages.length) : FlashRd w [.slice (some ⟨b, off + 2, none⟩) (n - 1) (c - 1), y] ⟨f.pages.drop 1, f.erases⟩ := by
  obtain ⟨u, v', h1, ⟨A', c', rfl, hr, hle, hml, -⟩, h3⟩ := h
  simp only [List.cons.injEq, and_true, Value.slice.injEq] at h1
  obtain ⟨⟨rfl, rfl, rfl⟩, rfl⟩ := h1
  have hdl : (f.pages.drop 1).length = f.pages.length - 1 := by simp
  have hd := Rd.dropAt hr 1
  refine ⟨_, _, rfl, ⟨some ⟨b, off + 2, none⟩, c - 1, by rw [hdl], ?_, by rw [hdl]; omega, by rw [hdl]; omega, fun h => nomatch h⟩, h3⟩
  simpa [encPageS] using hd
namespace LwFv
set_option maxHeartbeats 8000000 in
theorem walk (A : Option Addr) (c : Nat) (l : List Int) (w : World) (hl : l.length ≤ c) (hm : c ≤ maxLen) (hr : Rd eByte w A l) (hb : ∀ x ∈ l, 0 ≤ x ∧ x ≤ 255) :
    Calls Try.prog 6 #[.slice A l.length c] w fun e w' => e = .returned (.bool true) ∧ Below w.heap.size w w' := by
  have HB := Lib.hid hb
  clear hb
  by_cases hsz : (1048576 : Int) < l.length
  · unfold maxLen at hm
    go_enter Try.func6, Try.ntmps6
    go_wp2
    go_ret
    exact ⟨rfl, (by repeat (first | with_reducible exact Below.refl _ _ | with_reducible assumption | with_reducible refine below_drewN ?_ _ | with_reducible refine Below.drew ?_ | with_reducible refine Below.alloc ?_ ?_ _ | with_reducible refine Below.setCell ?_ ?_ _ | (with_reducible refine Below.next ?_ (by assumption)) | omega | (focus (simp; omega)) | (focus (simp; done))))⟩
  go_enter Try.func6, Try.ntmps6
  go_wp2_with fail
  refine (drawFv_any A c l _ hl hm hr HB.out).mono ?_
  rintro e w1 ⟨y0, y1, f, rfl, hrd1, ⟨hfp, hfe⟩, hsm, hb1⟩
  obtain ⟨A0, c0, A1, c1, rfl, rfl⟩ := flashRd_lens hrd1
  have HSM := Lib.hid hsm
  have hz1 := hb1.size
  have HB1 := Lib.hid hb1
  have HF1 := Lib.hid hrd1
  have hszs : Hid (sizeFlash f ≤ 1099511627776) := Lib.hid (by unfold sizeFlash; omega)
  have LS := Loc.newAt w1 [.slice A0 f.pages.length c0, .slice A1 f.erases.length c1] 30 (b := w1.heap.size) rfl
  clear hb1 hrd1 hsm hsz
  obtain ⟨ok, hok⟩ : ∃ ok, ok = flashB f := ⟨_, rfl⟩
  have HOK := Lib.hid hok
  clear hok
  go_wp2_with fail
  refine (implFlash_c _ _ f _ (FlashRd.below HF1.out (by repeat (first | with_reducible exact Below.refl _ _ | with_reducible refine below_drewN ?_ _ | with_reducible refine Below.drew ?_ | with_reducible refine Below.alloc ?_ ?_ _ | with_reducible refine Below.setCell ?_ ?_ _ | omega | (focus (simp; omega)) | (focus (simp; done))))) hszs.out).mono ?_
  rw [← HOK.out]
  rintro e w2 ⟨rfl, hb2⟩
  replace LS := Loc.carryB LS (fun h => by ((repeat (first | with_reducible exact h | with_reducible refine Loc.drew ?_ | with_reducible refine Loc.drewN ?_ _ | with_reducible refine Loc.alloc ?_ _)); done)) hb2
  (try clear s0 s1 sf)
  obtain ⟨s0, s1, sf⟩ := LS.two
  have zS2 := LS.lt
  have HB2 : Hid (Below w.heap.size w w2) := Lib.hid (Below.next (W := w) (by repeat (first | with_reducible exact HB1.out | with_reducible exact Below.refl _ _ | with_reducible refine below_drewN ?_ _ | with_reducible refine Below.drew ?_ | with_reducible refine Below.alloc ?_ ?_ _ | with_reducible refine Below.setCell ?_ ?_ _ | (with_reducible refine Below.next ?_ (by assumption)) | ((with_reducible refine Below.far' (by assumption) ?_ ?_ ?_); (focus (first | omega | (simp; omega) | (simp; done))); (focus (first | omega | (simp; omega) | (simp; done)))) | omega | (focus (simp; omega)) | (focus (simp; done)))) hb2)
  have HF2 := Lib.hid (FlashRd.below HF1.out (Below.next (by repeat (first | with_reducible exact Below.refl _ _ | with_reducible refine below_drewN ?_ _ | with_reducible refine Below.drew ?_ | with_reducible refine Below.alloc ?_ ?_ _ | with_reducible refine Below.setCell ?_ ?_ _ | omega | (focus (simp; omega)) | (focus (simp; done)))) hb2))
  have hz2 := hb2.size
  (try simp at hz2)
  clear hb2
  go_wp2_with fail
  refine (specFlash_c _ _ f _ (FlashRd.below HF2.out (by repeat (first | with_reducible exact Below.refl _ _ | with_reducible refine below_drewN ?_ _ | with_reducible refine Below.drew ?_ | with_reducible refine Below.alloc ?_ ?_ _ | with_reducible refine Below.setCell ?_ ?_ _ | omega | (focus (simp; omega)) | (focus (simp; done))))) hszs.out).mono ?_
  rw [← HOK.out]
  rintro e w3 ⟨rfl, hb3⟩
  replace LS := Loc.carryB LS (fun h => by ((repeat (first | with_reducible exact h | with_reducible refine Loc.drew ?_ | with_reducible refine Loc.drewN ?_ _ | with_reducible refine Loc.alloc ?_ _)); done)) hb3
  (try clear s0 s1 sf)
  obtain ⟨s0, s1, sf⟩ := LS.two
  have zS3 := LS.lt
  have HB3 : Hid (Below w.heap.size w w3) := Lib.hid (Below.next (W := w) (by repeat (first | with_reducible exact HB2.out | with_reducible exact Below.refl _ _ | with_reducible refine below_drewN ?_ _ | with_reducible refine Below.drew ?_ | with_reducible refine Below.alloc ?_ ?_ _ | with_reducible refine Below.setCell ?_ ?_ _ | (with_reducible refine Below.next ?_ (by assumption)) | ((with_reducible refine Below.far' (by assumption) ?_ ?_ ?_); (focus (first | omega | (simp; omega) | (simp; done))); (focus (first | omega | (simp; omega) | (simp; done)))) | omega | (focus (simp; omega)) | (focus (simp; done)))) hb3)
  have HF3 := Lib.hid (FlashRd.below HF2.out (Below.next (by repeat (first | with_reducible exact Below.refl _ _ | with_reducible refine below_drewN ?_ _ | with_reducible refine Below.drew ?_ | with_reducible refine Below.alloc ?_ ?_ _ | with_reducible refine Below.setCell ?_ ?_ _ | omega | (focus (simp; omega)) | (focus (simp; done)))) hb3))
  have hz3 := hb3.size
  (try simp at hz3)
  clear hb3
  cases ok
  · go_wp2_with (go_at_call 28; refine (alive_any _).mono ?_; rintro e w6 ⟨rfl, hb6⟩)
    go_ret
    exact ⟨rfl, Below.next (W := w) HB3.out hb6⟩
  · have hp8 : 8 ≤ f.pages.length := by
      have h1 := (flashB_iff.1 HOK.out.symm).len
      have h2 := (flashB_iff.1 HOK.out.symm).n2
      omega
    have HTB := Lib.hid (tail_bad (flashB_iff.1 HOK.out.symm))
    have hcap : f.pages.length ≤ c0 := (FlashRd.cap HF3.out).2
    obtain ⟨b, off, rfl, hbl, -, -⟩ := (FlashRd.pgs HF3.out).rPageS (k := 0) (by omega)
    have HA := Lib.hid (FlashRd.pgs HF3.out)
    have HT3 := Lib.hid (FlashRd.tail HF3.out (by omega))
    have hr1 : (1 : Int) ≤ (f.pages.length : Int) := by omega
    have hr2 : (f.pages.length : Int) ≤ (c0 : Int) := by omega
    have hr3 : (1 : Int) ≤ (c0 : Int) := by omega
    have hr4 : ¬ (c0 = 1) := by omega
    have LA := Loc.newAt w3 [.slice (some ⟨b, off, none⟩) f.pages.length c0, .slice A1 f.erases.length c1] 30 (b := w3.heap.size) rfl
    have LSA := Loc.alloc LS (.cells #[.slice (some ⟨b, off, none⟩) f.pages.length c0, .slice A1 f.erases.length c1] 30)
    obtain ⟨i0, i1, if'⟩ := LSA.two
    obtain ⟨a0, a1, af⟩ := LA.two
    have n1 : ([] : List Pg).length + f.pages.length ≤ maxLen := by simp [maxLen]; omega
    have b1 : (([] : List Pg).length + f.pages.length) * 16 ≤ 140737488355328 := by simp; omega
    go_wp2_with (at_builtin; go_must (refine wpList_append_row rfl (.tmp 22) (.tmp 24) rfl elPageS (l := ([] : List Pg)) rfl ((by repeat (first | ((with_reducible refine Row.made0 ?_); (focus (first | with_reducible rfl | omega | (simp; omega) | (simp; done)))) | with_reducible refine Row.drew ?_ | with_reducible refine Row.drewN ?_ _ | with_reducible refine Row.alloc ?_ _ | (with_reducible refine Row.below ?_ (by assumption))))) (some ⟨b, off, none⟩) c0 f.pages rfl (by repeat (first | with_reducible exact HA.out | with_reducible refine Rd.drew ?_ | with_reducible refine Rd.drewN ?_ _ | with_reducible refine Rd.alloc ?_ _ | (with_reducible refine Rd.below ?_ (by assumption)))) n1 b1 ?_; intro A4 c4 g4 w4 l4 hl4 hle1 hle2 hrow4 hg4 hgg4; have LA4 := Loc.carry LA (fun h => (by repeat (first | with_reducible exact h | with_reducible refine Loc.drew ?_ | with_reducible refine Loc.drewN ?_ _ | with_reducible refine Loc.alloc ?_ _ | (with_reducible refine Loc.below ?_ (by assumption)) | ((with_reducible refine Loc.other' ?_ ?_ _); (focus (first | omega | (simp; omega) | (simp; done)))) | ((with_reducible refine Loc.far' (by assumption) ?_ ?_); (focus (first | omega | (simp; omega) | (simp; done))))))) hg4 (by first | omega | (simp; omega) | (simp; done)); have LS4 := Loc.carry LSA (fun h => (by repeat (first | with_reducible exact h | with_reducible refine Loc.drew ?_ | with_reducible refine Loc.drewN ?_ _ | with_reducible refine Loc.alloc ?_ _ | (with_reducible refine Loc.below ?_ (by assumption)) | ((with_reducible refine Loc.other' ?_ ?_ _); (focus (first | omega | (simp; omega) | (simp; done)))) | ((with_reducible refine Loc.far' (by assumption) ?_ ?_); (focus (first | omega | (simp; omega) | (simp; done))))))) hg4 (by first | omega | (simp; omega) | (simp; done)); obtain ⟨p0, p1, pf⟩ := LA4.two; obtain ⟨q0, q1, qf⟩ := LS4.two; have zA4 := LA4.lt; have zS4 := LS4.lt; (try simp at hgg4); have hz4 := hg4.size; (try simp at hz4); have e4 := hl4.out; simp only [List.nil_append] at e4; subst e4; clear hl4 hle1 hle2; have HR4 := Lib.hid hrow4; obtain ⟨hA4, hg4l, hg4f, hg4c⟩ := hrow4.rPageS (by omega); subst hA4; have hd0 := (hg4c 0 (by omega)).1; have hd1 := (hg4c 1 (by omega)).1; rw [Nat.zero_mul] at hd0; rw [Nat.one_mul] at hd1; clear hg4c hrow4; have hgA : g4 ≠ w3.heap.size := (by omega); have hgS : g4 ≠ w1.heap.size := (by omega); obtain ⟨u0, hu0⟩ : ∃ u0, u0 = (f.pages[0]'(by omega)).own := ⟨_, rfl⟩; rw [← hu0] at hd0; obtain ⟨u1, hu1⟩ : ∃ u1, u1 = (f.pages[1]'(by omega)).own := ⟨_, rfl⟩; rw [← hu1] at hd1; clear hu0 hu1))
    obtain ⟨w6, hw6⟩ : ∃ x, x = ((w4.setCell ⟨w3.heap.size, 0, none⟩ (.slice (some ⟨g4, 0, none⟩) f.pages.length c4)).setCell ⟨g4, 0, none⟩ (.int .i64 1)).setCell ⟨g4, 2, none⟩ (.int .i64 1) := ⟨_, rfl⟩
    obtain ⟨l6, hl6⟩ : ∃ x, x = (f.pages.set 0 ⟨1, (f.pages[0]'(by omega)).val⟩).set 1 ⟨1, (f.pages[1]'(by omega)).val⟩ := ⟨_, rfl⟩
    have hl6l : l6.length = f.pages.length := by rw [hl6]; simp
    have HR6 : Hid (Row encPageS w6 g4 42 (some ⟨g4, 0, none⟩) c4 l6) := Lib.hid (by
      have R5 := Row.other HR4.out (p := ⟨w3.heap.size, 0, none⟩) hgA (.slice (some ⟨g4, 0, none⟩) f.pages.length c4)
      have R6 := R5.setAPageS (k := 0) (by omega) 1
      have R7 := R6.setAPageS (k := 1) (by simp; omega) 1
      rw [hw6, hl6]
      simpa using R7)
    have HBD : Hid (flashB ⟨l6, f.erases⟩ = false) := Lib.hid (dup_bad (by omega) (by simp [hl6]) (by simp [hl6]))
    have HB4 : Hid (Below w3.heap.size w3 w4) := Lib.hid (Below.grown1 (by repeat (first | with_reducible exact Below.refl _ _ | with_reducible refine below_drewN ?_ _ | with_reducible refine Below.drew ?_ | with_reducible refine Below.alloc ?_ ?_ _ | with_reducible refine Below.setCell ?_ ?_ _ | omega | (focus (simp; omega)) | (focus (simp; done)))) hg4 (by simp; omega) (by omega))
    have HB6 : Hid (Below w3.heap.size w3 w6) := Lib.hid (by rw [hw6]; exact (by repeat (first | with_reducible exact HB4.out | with_reducible exact Below.refl _ _ | with_reducible refine below_drewN ?_ _ | with_reducible refine Below.drew ?_ | with_reducible refine Below.alloc ?_ ?_ _ | with_reducible refine Below.setCell ?_ ?_ _ | (with_reducible refine Below.next ?_ (by assumption)) | ((with_reducible refine Below.far' (by assumption) ?_ ?_ ?_); (focus (first | omega | (simp; omega) | (simp; done))); (focus (first | omega | (simp; omega) | (simp; done)))) | omega | (focus (simp; omega)) | (focus (simp; done)))))
    have HBW : Hid (Below w.heap.size w w6) := Lib.hid (Below.next (W := w) HB3.out HB6.out)
    have hz6 : w6.heap.size = w4.heap.size := by rw [hw6]; simp
    have LB := Loc.newAt w6 [.slice (some ⟨b, off + 2, none⟩) (f.pages.length - 1) (c0 - 1), .slice A1 f.erases.length c1] 30 (b := w4.heap.size) hz6
    rw [← hw6]
    clear hw6 hl6
    refine (implFlash_c _ _ ⟨l6, f.erases⟩ _ (FlashRd.pagesTo (FlashRd.below HF3.out (by repeat (first | with_reducible exact HB6.out | with_reducible exact Below.refl _ _ | with_reducible refine below_drewN ?_ _ | with_reducible refine Below.drew ?_ | with_reducible refine Below.alloc ?_ ?_ _ | with_reducible refine Below.setCell ?_ ?_ _ | (with_reducible refine Below.next ?_ (by assumption)) | ((with_reducible refine Below.far' (by assumption) ?_ ?_ ?_); (focus (first | omega | (simp; omega) | (simp; done))); (focus (first | omega | (simp; omega) | (simp; done)))) | omega | (focus (simp; omega)) | (focus (simp; done))))) (SOwn.rd (SOwn.of_rown (D := 0) (Row.alloc HR6.out _) hl6l (Nat.zero_le _)))) (by unfold sizeFlash; simp only; omega)).mono ?_
    rw [HBD.out]
    rintro e w7 ⟨rfl, hb7⟩
    replace LB := Loc.carryB LB (fun h => by ((repeat (first | with_reducible exact h | with_reducible refine Loc.drew ?_ | with_reducible refine Loc.drewN ?_ _ | with_reducible refine Loc.alloc ?_ _)); done)) hb7
    obtain ⟨j0, j1, jf⟩ := LB.two
    go_wp2_with fail
    refine (implFlash_c _ _ ⟨f.pages.drop 1, f.erases⟩ _ (FlashRd.below HT3.out (Below.next (by repeat (first | with_reducible exact HB6.out | with_reducible exact Below.refl _ _ | with_reducible refine below_drewN ?_ _ | with_reducible refine Below.drew ?_ | with_reducible refine Below.alloc ?_ ?_ _ | with_reducible refine Below.setCell ?_ ?_ _ | (with_reducible refine Below.next ?_ (by assumption)) | ((with_reducible refine Below.far' (by assumption) ?_ ?_ ?_); (focus (first | omega | (simp; omega) | (simp; done))); (focus (first | omega | (simp; omega) | (simp; done)))) | omega | (focus (simp; omega)) | (focus (simp; done)))) hb7)) (by unfold sizeFlash; simp; omega)).mono ?_
    rw [HTB.out]
    rintro e w8 ⟨rfl, hb8⟩
    go_wp2
    go_ret
    exact ⟨rfl, Below.next (W := w) (Below.next (W := w) (by repeat (first | with_reducible exact HBW.out | with_reducible exact Below.refl _ _ | with_reducible refine below_drewN ?_ _ | with_reducible refine Below.drew ?_ | with_reducible refine Below.alloc ?_ ?_ _ | with_reducible refine Below.setCell ?_ ?_ _ | (with_reducible refine Below.next ?_ (by assumption)) | ((with_reducible refine Below.far' (by assumption) ?_ ?_ ?_); (focus (first | omega | (simp; omega) | (simp; done))); (focus (first | omega | (simp; omega) | (simp; done)))) | omega | (focus (simp; omega)) | (focus (simp; done)))) hb7) hb8⟩
set_option maxRecDepth 100000 in
theorem lifted (os : Os) (started : os.Started) (H : Type) (enc : TypeId × Value → H) :
    ReturnsInHanded {} Try.checked os 6 .any (Rows.fnFlashValidSpec.pre6 enc Try.prog Try.f6 Rows.fnFlashValidRow.domain false) (Rows.fnFlashValidSpec.post enc Try.prog Try.f6 false true false false) := by
  refine returnsInHanded_of_change (C := Try.checked) own_knob started (by kernel_rfl) Try.func6
    (ChangeSpec.witness6 (enc := enc) (C := Try.checked) false ⟨#[], #[.slice none 0 0], []⟩ 8 (by kernel_rfl) (by kernel_rfl) (by kernel_rfl) (by kernel_rfl)) ?_
  intro W base args ds gs before hval0 hW hcnd _
  have hval : ∀ (j : Nat) t v, Try.f6.params[j]? = some t → args[j]? = some v → Value.okWide Try.prog W .any base t v := hval0
  have hW' := hW
  obtain ⟨p, q, hA0, hV, rfl, hfz, hnd⟩ := hW
  have hA : DataW.TrodAll enc Try.prog W 0 (fun _ => true) true Try.f6.params.toList args.toList ds p := hA0
  rw [Try.params6] at hA hval
  obtain ⟨v0, vs0, d0, ds0, p0, q0, hargs, rfl, rfl, h0, r0⟩ := trodAll_cons hA
  obtain ⟨rfl, rfl, rfl⟩ := trodAll_nil r0
  obtain rfl : args = #[v0] := by cases args; simp_all
  obtain ⟨rfl, rfl⟩ := trodVars_none hV
  have k0 := h0
  have lt0 : ∀ x ∈ p0, x.block < W.heap.size := by obtain ⟨m, hm⟩ := k0; exact DataW.trod_lt m _ _ _ hm
  obtain ⟨A0, c0, l0, rfl, hl0, hm0, rd0, by0⟩ := open_bytes Try.underlying38 Try.underlying5 (by kernel_rfl) (hval 0 38 v0 rfl rfl) h0
  clear hA0 hval0
  refine (walk A0 c0 l0 W hl0 hm0 rd0 by0).mono fun e W' ⟨he, bel⟩ => ?_
  subst he
  exact ⟨_, rfl, _, _, _, [], _, [], hW', trodAll_mk1 (shut_bool Try.underlying4 _), (trodAll_cons_mk (Below.trod laid_out (by kernel_rfl) (of_decide_eq_true (by kernel_rfl)) k0 bel lt0) trodAll_mk0), rfl, bel.frame _, fun h => by cases h⟩
theorem over : Rows.fnFlashValidRow.holds Try.pinned (OpenSpec.ofChange Rows.fnFlashValidSpec) :=
  OpenClaim.holds_of_wide 6 Try.f6 rfl rfl rfl rfl rfl rfl rfl ⟨rfl, rfl, rfl, rfl, rfl⟩ rfl rfl rfl rfl rfl (by kernel_rfl) Try.func6 (by kernel_rfl)
    (of_decide_eq_true (by kernel_rfl)) (by unfold Func.isWrapper; first | (rw [if_pos (by decide +kernel)]; kernel_rfl) | (rw [if_neg (by decide +kernel)]; exact ⟨rfl, rfl⟩))
    (fun os started H enc _ => lifted os started H enc)
theorem proved : Rows.FnFlashValidSaid := over
end LwFv
end Go.Proofs.Ytnnanknljpkdeaa
