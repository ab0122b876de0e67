/-
  ShareDisk: the program's and the reference's. Conditions: lengths at most 2^40.
-/
import Derived.Test.YtpekccmhfkeadaaBase
import Derived.Test.YtpekccmhfkeadaaNum
import Derived.Test.YtpekccmhfkeadaaInts
import Derived.Test.YtpekccmhfkeadaaApp
import Derived.Test.YtpekccmhfkeadaaIntsW
import Derived.Test.YtpekccmhfkeadaaLib
import Derived.Test.YtpekccmhfkeadaaSpares
import Derived.Test.YtpekccmhfkeadaaOwn
import Derived.Test.YtpekccmhfkeadaaCopy
import Derived.Test.YtpekccmhfkeadaaShared
import Derived.Test.YtpekccmhfkeadaaSharedM
import Derived.Test.YtpekccmhfkeadaaSharedC
import Derived.Test.YtpekccmhfkeadaaSharedV
import Derived.Test.YtpekccmhfkeadaaSharedU
import Derived.StillTailTactics
namespace Go.Proofs.Ytpekccmhfkeadaa
open Go.RowKit
theorem shareTo_succ (d : List Int) {k : Nat} (hk : k < d.length) : shareTo d (k + 1) = ⟨(shareTo d k).whr ++ [(useN (shareTo d k).cps d[k] : Int)], useL (shareTo d k).cps d[k]⟩ := by
  simp [shareTo, hk]
theorem shareTo_len (d : List Int) (k : Nat) : (shareTo d k).whr.length = k := by
  induction k with
  | zero => rfl
  | succ k ih => simp [shareTo, ih]
theorem useL_len (l : List Cp) (v : Int) : (useL l v).length ≤ l.length + 1 := by unfold useL; split <;> simp
theorem useL_usr {l : List Cp} {v m : Int} (hm : 0 ≤ m) (h : ∀ p ∈ l, 0 ≤ p.usr ∧ p.usr ≤ m) : ∀ p ∈ useL l v, 0 ≤ p.usr ∧ p.usr ≤ m + 1 := by
  intro p hp
  unfold useL at hp
  split at hp
  · rcases List.mem_append.1 hp with hp | hp
    · have := h p hp; omega
    · simp at hp; subst hp; simp only; omega
  · rename_i hi
    obtain ⟨i, he, hil, _⟩ := idx_get (Int.not_lt.1 hi)
    rw [List.length_map] at hil
    rcases List.mem_or_eq_of_mem_set hp with hp | hp
    · have := h p hp; omega
    · subst hp
      rw [he]
      have := h _ (List.getElem_mem hil)
      simp [hil]
      omega
theorem shareTo_cps (d : List Int) (k : Nat) : (shareTo d k).cps.length ≤ k ∧ ∀ p ∈ (shareTo d k).cps, 0 ≤ p.usr ∧ p.usr ≤ (k : Int) := by
  induction k with
  | zero => simp [shareTo]
  | succ k ih =>
    refine ⟨?_, ?_⟩
    · have := useL_len (shareTo d k).cps (d.getD k 0)
      simp only [shareTo]
      omega
    · have := useL_usr (v := d.getD k 0) (by omega) ih.2
      simp only [shareTo]
      intro p hp
      have := this p hp
      omega
theorem shareB_no {d : List Int} (h : diskB d = false) : shareB d = ⟨[], []⟩ := by unfold shareB; rw [h]; rfl
theorem shareB_yes {d : List Int} (h : diskB d = true) : shareB d = shareTo d d.length := by unfold shareB; rw [h]; rfl
theorem shareB_size (d : List Int) : sizeShared (shareB d) ≤ 200 := by
  cases h : diskB d
  · rw [shareB_no h]; simp [sizeShared]
  · rw [shareB_yes h]
    have h1 := (diskB_true.1 h).1
    have h2 := (shareTo_cps d d.length).1
    unfold sizeShared
    rw [shareTo_len]
    omega
theorem sharedOwn_nil (B C : Nat) (w : World) : SharedOwn B w C [.slice none 0 0, .slice none 0 0] ⟨[], []⟩ :=
  ⟨_, _, rfl, SOwn.nil0 _ _ _, SOwn.nil0 _ _ _, fun a n c a' n' c' h _ => by cases h⟩
/-- two rows in different blocks of ours -/
theorem sharedOwn_rows {w : World} {g1 g2 c1 c2 D : Nat} {A1 A2 : Option Addr} {s : Sh} (h1 : Row eInt w g1 3 A1 c1 s.whr) (h2 : Row encCopyS w g2 tyCopyS A2 c2 s.cps) (hne : g1 ≠ g2) (hd1 : D ≤ g1) (hd2 : D ≤ g2) :
    SharedOwn D w w.heap.size [.slice A1 s.whr.length c1, .slice A2 s.cps.length c2] s :=
  ⟨_, _, rfl, SOwn.of_fresh h1 hd1, SOwn.of_fresh h2 hd2, Apart.of_rows h1 h2 hne⟩
set_option maxHeartbeats 8000000 in
theorem implShare_c (A : Option Addr) (c : Nat) (d : List Int) (w : World) (ha : Rd eInt w A d) (hl : d.length ≤ 1099511627776) :
    Calls Try.prog 18 #[.slice A d.length c] w (MadeShared (shareB d) w) := by
  have L0 := Loc.newAt w [.slice none 0 0, .slice none 0 0] 30 (b := w.heap.size) rfl
  have L1 := Loc.newAt (w.alloc (.cells #[.slice none 0 0, .slice none 0 0] 30)) [.slice none 0 0, .slice none 0 0] 30 (b := w.heap.size + 1) (by simp)
  cases hv : diskB d
  · have HV := Lib.hid hv
    have HF := Lib.hid (shareB_no hv)
    clear hv
    go_enter Try.func18, Try.ntmps18
    go_wp2_with (go_at_call 47; refine (diskValid_any A c d _ (ha.alloc _) (by omega)).mono ?_; rw [HV.out]; rintro e w' ⟨rfl, rfl⟩)
    refine bodyPost_ret (v := .agg #[.slice none 0 0, .slice none 0 0]) (by simp [results, Try.results18, go_sem, *]; done) rfl ⟨_, _, rfl, ?_, (by repeat (first | with_reducible exact Below.refl _ _ | with_reducible assumption | with_reducible refine below_drewN ?_ _ | with_reducible refine Below.drew ?_ | with_reducible refine Below.alloc ?_ ?_ _ | with_reducible refine Below.setCell ?_ ?_ _ | (with_reducible refine Below.next ?_ (by assumption)) | omega | (focus (simp; omega)) | (focus (simp; done))))⟩
    rw [HF.out]; exact sharedOwn_nil _ _ _
  · have HV := Lib.hid hv
    have HF := Lib.hid (shareB_yes hv)
    have h64 := (diskB_true.1 hv).1
    clear hv
    go_enter Try.func18, Try.ntmps18
    go_wp2_with (go_at_call 47; refine (diskValid_any A c d _ (ha.alloc _) (by omega)).mono ?_; rw [HV.out]; rintro e w' ⟨rfl, rfl⟩)
    go_loopw [12] (fun i wr => ∃ k : Nat, k ≤ d.length ∧ i = .int .i64 k ∧ Loc wr w.heap.size [.slice none 0 0, .slice none 0 0] ∧ Below w.heap.size w wr ∧ ∃ A1 c1 g1 A2 c2 g2, ∃ s : Sh, Hid (s = shareTo d k) ∧ (s.whr.length ≤ k ∧ k ≤ s.whr.length) ∧ Loc wr (w.heap.size + 1) [.slice A1 s.whr.length c1, .slice A2 s.cps.length c2] ∧ Row eInt wr g1 3 A1 c1 s.whr ∧ Row encCopyS wr g2 tyCopyS A2 c2 s.cps ∧ g1 ≠ g2 ∧ w.heap.size + 1 < g1 ∧ w.heap.size + 1 < g2) (fun i _ => d.length - (intOf i).toNat)
    case atStart => exact ⟨0, Nat.zero_le _, rfl, Loc.alloc L0 _, (by repeat (first | with_reducible exact Below.refl _ _ | with_reducible assumption | with_reducible refine below_drewN ?_ _ | with_reducible refine Below.drew ?_ | with_reducible refine Below.alloc ?_ ?_ _ | with_reducible refine Below.setCell ?_ ?_ _ | (with_reducible refine Below.next ?_ (by assumption)) | omega | (focus (simp; omega)) | (focus (simp; done)))), none, 0, w.heap.size + 2, none, 0, w.heap.size + 3, ⟨[], []⟩, Lib.hid rfl, by simp, L1, Row.nil _ _ _, Row.nil _ _ _, by omega, by omega, by omega⟩
    case round =>
      obtain ⟨k, hk, rfl, LW, hbw, A1, c1, g1, A2, c2, g2, s, HS, ⟨hs1, hs2⟩, LX, row1, row2, hne, hg1, hg2⟩ := hrel
      have hsz := hbw.size
      have zW := LW.lt
      have zX := LX.lt
      obtain ⟨q0, q1, qf⟩ := LW.two
      obtain ⟨x0, x1, xf⟩ := LX.two
      by_cases hlt : k < d.length
      · obtain ⟨b, off, rfl, hbl, hcc⟩ := (Rd.below ha hbw).int hlt
        have hsu := Lib.hid (shareTo_succ d hlt)
        have hcu := shareTo_cps d k
        rw [← HS.out] at hcu hsu
        obtain ⟨hcl, hcu⟩ := hcu
        have HU : Hid (∀ p ∈ s.cps, 0 ≤ p.usr ∧ p.usr ≤ 1000000) := Lib.hid fun p hp => by have := hcu p hp; omega
        obtain ⟨x, hx⟩ : ∃ x, x = d[k]'hlt := ⟨_, rfl⟩
        rw [← hx] at hcc hsu
        clear hx hcu
        have m1 := row1.made?
        have HR1 := Lib.hid row1
        have HR2 := Lib.hid row2
        have hul := useL_len s.cps x
        have hw9 : s.whr.length + 1 ≤ 65 := by omega
        clear row1 row2
        go_wp2
        have h63 : s.whr.length + [(useN s.cps x : Int)].length ≤ maxLen := by simp only [maxLen, List.length_cons, List.length_nil]; omega
        have hby : (s.whr.length + [(useN s.cps x : Int)].length) * 8 ≤ 140737488355328 := by simp only [List.length_cons, List.length_nil]; omega
        have hcl9 : s.cps.length ≤ 1099511627776 := by omega
        have hg2X : g2 ≠ w.heap.size + 1 := by omega
        go_region_law (first
            | (go_simp; go_at_call 48; (with_reducible refine (use_c (w.heap.size + 1) A1 s.whr.length c1 A2 c2 g2 s.cps x _ (Loc.drew LX) (Row.drew HR2.out) hg2X hcl9 HU.out).mono ?_); rintro e w3 ⟨rfl, G3, A3, c3, g3, LX3, row3, hg3⟩; have LW3 := Loc.gtwo (Loc.drew LW) G3 (by omega) (by omega); obtain ⟨y0, y1, yf⟩ := LX3.two; have zW3 := LW3.lt; have zX3 := LX3.lt; have hz3 := G3.size; (try simp at hz3); (try simp at hg3); obtain ⟨g9, row9, hg9, hg9X⟩ := Row.avoid (X := g3) (B := w.heap.size + 2) (Row.gtwo (Row.drew HR1.out) G3 (by omega) hne) (by first | omega | (rcases m1 with m1 | m1; exact .inl m1; exact .inr (by omega))) (by omega) (by omega); have HR9 := Lib.hid row9; have HR3 := Lib.hid row3; have hg3l := row3.lt (Nat.lt_of_le_of_lt (Nat.zero_le _) (useN_lt s.cps x)); have B3 : Hid (Below w.heap.size w w3) := Lib.hid (Below.gtwo (Below.drew hbw) G3 hsz (by omega) (by omega)); clear row9 row3 G3)
            | (refine step_append_row (by rfl) (.tmp 17) (.tmp 20) (by rfl) el_int (by simp [go_sem]; done) (Row.alloc HR9.out _) (some ⟨w3.heap.size, 0, none⟩) 1 [(useN s.cps x : Int)] (by simp [go_sem]; done) (by repeat (first | ((with_reducible refine Rd.lit ?_ ?_); (focus (first | with_reducible rfl | omega | (simp; omega) | (simp; done))); (focus (first | rfl | (simp; rfl) | (simp; done)))) | with_reducible refine Rd.drew ?_ | with_reducible refine Rd.drewN ?_ _ | with_reducible refine Rd.alloc ?_ _ | (with_reducible refine Rd.below ?_ (by assumption)))) h63 hby ?_; intro A5 c5 g5 w5 l5 hl5 hle1 hle2 hrow5 hg5 hgg5; have LX5 := Loc.carry LX3 (fun h => by ((repeat (first | with_reducible exact h | with_reducible refine Loc.drew ?_ | with_reducible refine Loc.drewN ?_ _ | with_reducible refine Loc.alloc ?_ _)); done)) hg5 (by omega); have LW5 := Loc.carry LW3 (fun h => by ((repeat (first | with_reducible exact h | with_reducible refine Loc.drew ?_ | with_reducible refine Loc.drewN ?_ _ | with_reducible refine Loc.alloc ?_ _)); done)) hg5 (by omega); obtain ⟨z0, z1, zf⟩ := LX5.two; have zX5 := LX5.lt; have zW5 := LW5.lt; have hz5 := hg5.size; (try simp at hz5); (try simp at hgg5); (try simp at hle1); (try simp at hle2)))
        all_goals
          go_wp2
          go_roundw
          case rel => exact ⟨k + 1, by omega, by go_num, (by repeat (first | with_reducible exact LW5 | with_reducible refine Loc.drew ?_ | with_reducible refine Loc.drewN ?_ _ | with_reducible refine Loc.alloc ?_ _ | (with_reducible refine Loc.below ?_ (by assumption)) | ((with_reducible refine Loc.other' ?_ ?_ _); (focus (first | omega | (simp; omega) | (simp; done)))) | ((with_reducible refine Loc.far' (by assumption) ?_ ?_); (focus (first | omega | (simp; omega) | (simp; done)))))), (by repeat (first | with_reducible exact B3.out | with_reducible exact Below.refl _ _ | with_reducible refine below_drewN ?_ _ | with_reducible refine Below.drew ?_ | with_reducible refine Below.alloc ?_ ?_ _ | with_reducible refine Below.setCell ?_ ?_ _ | (with_reducible refine Below.next ?_ (by assumption)) | ((with_reducible refine Below.far' (by assumption) ?_ ?_ ?_); (focus (first | omega | (simp; omega) | (simp; done))); (focus (first | omega | (simp; omega) | (simp; done)))) | omega | (focus (simp; omega)) | (focus (simp; done)))), A5, c5, g5, A3, c3, g3, ⟨l5, useL s.cps x⟩, Lib.hid (by rw [hsu.out, hl5.out]), by simp only; omega, by simpa using Loc.set LX5 0 (.slice A5 l5.length c5), (by repeat (first | with_reducible exact hrow5 | with_reducible refine Row.drew ?_ | with_reducible refine Row.drewN ?_ _ | with_reducible refine Row.alloc ?_ _ | (with_reducible refine Row.below ?_ (by assumption)) | ((with_reducible refine Row.other ?_ ?_ _); rotate_left; (focus (first | omega | (simp; omega) | (simp; done)))) | ((with_reducible refine Row.far' (by assumption) ?_ ?_); (focus (first | omega | (simp; omega) | (simp; done)))))), (by repeat (first | with_reducible exact HR3.out | with_reducible refine Row.drew ?_ | with_reducible refine Row.drewN ?_ _ | with_reducible refine Row.alloc ?_ _ | (with_reducible refine Row.below ?_ (by assumption)) | ((with_reducible refine Row.other ?_ ?_ _); rotate_left; (focus (first | omega | (simp; omega) | (simp; done)))) | ((with_reducible refine Row.far' (by assumption) ?_ ?_); (focus (first | omega | (simp; omega) | (simp; done)))))), by omega, by omega, by omega⟩
          case measure => simp [intOf]; omega
      · have hke : Hid (s = shareB d) := Lib.hid (by rw [HS.out, HF.out]; congr 1; omega)
        have HR1 := Lib.hid row1
        have HR2 := Lib.hid row2
        clear row1 row2
        go_wp2
        refine bodyPost_ret (v := .agg #[.slice A1 s.whr.length c1, .slice A2 s.cps.length c2]) (by simp [results, Try.results18, go_sem, *]; done) rfl ⟨_, _, rfl, ?_, (by repeat (first | with_reducible exact hbw | with_reducible exact Below.refl _ _ | with_reducible refine below_drewN ?_ _ | with_reducible refine Below.drew ?_ | with_reducible refine Below.alloc ?_ ?_ _ | with_reducible refine Below.setCell ?_ ?_ _ | (with_reducible refine Below.next ?_ (by assumption)) | ((with_reducible refine Below.far' (by assumption) ?_ ?_ ?_); (focus (first | omega | (simp; omega) | (simp; done))); (focus (first | omega | (simp; omega) | (simp; done)))) | omega | (focus (simp; omega)) | (focus (simp; done))))⟩
        rw [← hke.out]
        exact sharedOwn_rows (g1 := g1) (g2 := g2) (by repeat (first | with_reducible exact HR1.out | with_reducible refine Row.drew ?_ | with_reducible refine Row.drewN ?_ _ | with_reducible refine Row.alloc ?_ _ | (with_reducible refine Row.below ?_ (by assumption)) | ((with_reducible refine Row.other ?_ ?_ _); rotate_left; (focus (first | omega | (simp; omega) | (simp; done)))) | ((with_reducible refine Row.far' (by assumption) ?_ ?_); (focus (first | omega | (simp; omega) | (simp; done)))))) (by repeat (first | with_reducible exact HR2.out | with_reducible refine Row.drew ?_ | with_reducible refine Row.drewN ?_ _ | with_reducible refine Row.alloc ?_ _ | (with_reducible refine Row.below ?_ (by assumption)) | ((with_reducible refine Row.other ?_ ?_ _); rotate_left; (focus (first | omega | (simp; omega) | (simp; done)))) | ((with_reducible refine Row.far' (by assumption) ?_ ?_); (focus (first | omega | (simp; omega) | (simp; done)))))) hne (by omega) (by omega)
set_option maxHeartbeats 1000000 in
theorem l21Find_c (x0 x1 : Value) (s : Sh) (x : Int) (w : World) (h : SharedRd w [x0, x1] s) (hs : sizeShared s ≤ 1099511627776) :
    Calls Try.prog 50 #[.agg #[x0, x1], .int .i64 x] w fun e w' => e = .returned (.int .i64 (idx (s.cps.map Cp.val) x)) ∧ Below w.heap.size w w' := by
  obtain ⟨u, v, h1, ⟨A, c, rfl, ha, hc0, hm0, hn0⟩, ⟨A', c', rfl, hp, hc1, hm1, hn1⟩⟩ := h
  simp only [List.cons.injEq, and_true] at h1
  obtain ⟨rfl, rfl⟩ := h1
  unfold sizeShared at hs
  go_enter Try.func50, Try.ntmps50
  go_wp2
  go_loop [5] (fun i => ∃ k : Nat, k ≤ s.cps.length ∧ i = .int .i64 k ∧ ∀ j (h : j < (s.cps.map Cp.val).length), j < k → (s.cps.map Cp.val)[j] ≠ x) (fun i => s.cps.length - (intOf i).toNat)
  case atStart => exact ⟨0, Nat.zero_le _, rfl, fun j _ h => absurd h (by omega)⟩
  case round =>
    obtain ⟨k, hk, rfl, ht⟩ := hrel
    have HT := Lib.hid ht
    clear ht
    by_cases hlt : k < s.cps.length
    · obtain ⟨b', off, rfl, hbl, hc, _⟩ := hp.rCopyS hlt
      have hmk : (s.cps.map Cp.val)[k]'(by simpa using hlt) = (s.cps[k]'hlt).val := by simp
      have HMK := Lib.hid hmk
      clear hmk
      cases hee : ((s.cps[k]'hlt).val == x)
      · have HE := Lib.hid hee
        go_wp2
        go_round
        case rel =>
          refine ⟨k + 1, by omega, by go_num, fun j h hj => ?_⟩
          by_cases hjk : j = k
          · subst hjk
            rw [HMK.out]
            simpa using HE.out
          · exact HT.out j h (by omega)
        case measure => simp [intOf]; omega
      · have HE := Lib.hid hee
        go_wp2
        go_ret
        refine ⟨ret_int ?_, (by repeat (first | with_reducible exact Below.refl _ _ | with_reducible assumption | with_reducible refine below_drewN ?_ _ | with_reducible refine Below.drew ?_ | with_reducible refine Below.alloc ?_ ?_ _ | with_reducible refine Below.setCell ?_ ?_ _ | (with_reducible refine Below.next ?_ (by assumption)) | omega | (focus (simp; omega)) | (focus (simp; done))))⟩
        have hkm : k < (s.cps.map Cp.val).length := by simpa using hlt
        exact (idx_at hkm (by rw [HMK.out]; simpa using HE.out) fun j hj => HT.out j (by omega) hj).symm
    · go_wp2
      go_ret
      exact ⟨ret_int (idx_no fun j h => HT.out j h (by simp at h; omega)).symm, (by repeat (first | with_reducible exact Below.refl _ _ | with_reducible assumption | with_reducible refine below_drewN ?_ _ | with_reducible refine Below.drew ?_ | with_reducible refine Below.alloc ?_ ?_ _ | with_reducible refine Below.setCell ?_ ?_ _ | (with_reducible refine Below.next ?_ (by assumption)) | omega | (focus (simp; omega)) | (focus (simp; done))))⟩
theorem Row.nilz {α : Type} {E : Enc α} {w : World} {g : Nat} {e : TypeId} {A : Option Addr} {c : Nat} {l : List α} (h : Row E w g e A c l) : A = none → c = 0 := by
  rcases h with ⟨_, rfl, _⟩ | ⟨cur, hA, _⟩
  · exact fun _ => rfl
  · intro h; rw [h] at hA; cases hA
set_option maxHeartbeats 8000000 in
theorem specShare_c (A : Option Addr) (c : Nat) (d : List Int) (w : World) (ha : Rd eInt w A d) (hl : d.length ≤ 1099511627776) :
    Calls Try.prog 20 #[.slice A d.length c] w (MadeShared (shareB d) w) := by
  have L0 := Loc.newAt w [.slice none 0 0, .slice none 0 0] 30 (b := w.heap.size) rfl
  have L1 := Loc.newAt (w.alloc (.cells #[.slice none 0 0, .slice none 0 0] 30)) [.slice none 0 0, .slice none 0 0] 30 (b := w.heap.size + 1) (by simp)
  go_enter Try.func20, Try.ntmps20
  go_wp2
  go_loopw [4, 5] (fun i _ wr => ∃ k : Nat, k ≤ d.length ∧ i = .int .i64 k ∧ Hid (k = 0 ∨ diskB d = true) ∧ Loc wr w.heap.size [.slice none 0 0, .slice none 0 0] ∧ Below w.heap.size w wr ∧ ∃ A1 c1 g1 A2 c2 g2, ∃ s : Sh, Hid (s = shareTo d k) ∧ (s.whr.length ≤ k ∧ k ≤ s.whr.length) ∧ Loc wr (w.heap.size + 1) [.slice A1 s.whr.length c1, .slice A2 s.cps.length c2] ∧ Row eInt wr g1 3 A1 c1 s.whr ∧ Row encCopyS wr g2 tyCopyS A2 c2 s.cps ∧ g1 ≠ g2 ∧ w.heap.size + 1 < g1 ∧ w.heap.size + 1 < g2) (fun i _ _ => d.length - (intOf i).toNat)
  case atStart => exact ⟨0, Nat.zero_le _, rfl, Lib.hid (.inl rfl), Loc.alloc L0 _, (by repeat (first | with_reducible exact Below.refl _ _ | with_reducible assumption | with_reducible refine below_drewN ?_ _ | with_reducible refine Below.drew ?_ | with_reducible refine Below.alloc ?_ ?_ _ | with_reducible refine Below.setCell ?_ ?_ _ | (with_reducible refine Below.next ?_ (by assumption)) | omega | (focus (simp; omega)) | (focus (simp; done)))), none, 0, w.heap.size + 2, none, 0, w.heap.size + 3, ⟨[], []⟩, Lib.hid rfl, by simp, L1, Row.nil _ _ _, Row.nil _ _ _, by omega, by omega, by omega⟩
  case round =>
    obtain ⟨k, hk, rfl, HK0, LW, hbw, A1, c1, g1, A2, c2, g2, s, HS, ⟨hs1, hs2⟩, LX, row1, row2, hne, hg1, hg2⟩ := hrel
    have hsz := hbw.size
    have zW := LW.lt
    have zX := LX.lt
    obtain ⟨q0, q1, qf⟩ := LW.two
    obtain ⟨x0, x1, xf⟩ := LX.two
    have m1 := row1.made?
    have HR1 := Lib.hid row1
    have HR2 := Lib.hid row2
    clear row1 row2
    by_cases hlt : k < d.length
    · cases hv : diskB d
      · have hk0 : Hid (k = 0) := Lib.hid (HK0.out.resolve_right (by rw [hv]; simp))
        have HV := Lib.hid hv
        have hke : Hid (s = shareB d) := Lib.hid (by rw [HS.out, shareB_no hv, hk0.out]; rfl)
        clear hv
        go_wp2_with fail
        refine (specDisk_any A c d _ (Rd.below ha hbw) (by omega)).mono ?_
        rw [HV.out]
        rintro e w' ⟨rfl, rfl⟩
        go_wp2
        refine bodyPost_ret (v := .agg #[.slice A1 s.whr.length c1, .slice A2 s.cps.length c2]) (by simp [results, Try.results20, go_sem, *]; done) rfl ⟨_, _, rfl, ?_, (by repeat (first | with_reducible exact hbw | with_reducible exact Below.refl _ _ | with_reducible refine below_drewN ?_ _ | with_reducible refine Below.drew ?_ | with_reducible refine Below.alloc ?_ ?_ _ | with_reducible refine Below.setCell ?_ ?_ _ | (with_reducible refine Below.next ?_ (by assumption)) | ((with_reducible refine Below.far' (by assumption) ?_ ?_ ?_); (focus (first | omega | (simp; omega) | (simp; done))); (focus (first | omega | (simp; omega) | (simp; done)))) | omega | (focus (simp; omega)) | (focus (simp; done))))⟩
        rw [← hke.out]
        exact sharedOwn_rows (g1 := g1) (g2 := g2) (by repeat (first | with_reducible exact HR1.out | with_reducible refine Row.drew ?_ | with_reducible refine Row.drewN ?_ _ | with_reducible refine Row.alloc ?_ _ | (with_reducible refine Row.below ?_ (by assumption)) | ((with_reducible refine Row.other ?_ ?_ _); rotate_left; (focus (first | omega | (simp; omega) | (simp; done)))) | ((with_reducible refine Row.far' (by assumption) ?_ ?_); (focus (first | omega | (simp; omega) | (simp; done)))))) (by repeat (first | with_reducible exact HR2.out | with_reducible refine Row.drew ?_ | with_reducible refine Row.drewN ?_ _ | with_reducible refine Row.alloc ?_ _ | (with_reducible refine Row.below ?_ (by assumption)) | ((with_reducible refine Row.other ?_ ?_ _); rotate_left; (focus (first | omega | (simp; omega) | (simp; done)))) | ((with_reducible refine Row.far' (by assumption) ?_ ?_); (focus (first | omega | (simp; omega) | (simp; done)))))) hne (by omega) (by omega)
      · have HV := Lib.hid hv
        have h64 := (diskB_true.1 hv).1
        clear hv
        obtain ⟨b, off, rfl, hbl, hcc⟩ := (Rd.below ha hbw).int hlt
        have hbw2 : b < w.heap.size := ha.lt (by omega) rfl
        have hsu := Lib.hid (shareTo_succ d hlt)
        have hcu := shareTo_cps d k
        rw [← HS.out] at hcu hsu
        obtain ⟨hcl, hcu⟩ := hcu
        have HU : Hid (∀ p ∈ s.cps, 0 ≤ p.usr ∧ p.usr ≤ 1000000) := Lib.hid fun p hp => by have := hcu p hp; omega
        obtain ⟨x, hx⟩ : ∃ x, x = d[k]'hlt := ⟨_, rfl⟩
        rw [← hx] at hcc hsu
        clear hx hcu
        have hszs : Hid (sizeShared s ≤ 1099511627776) := Lib.hid (by unfold sizeShared; omega)
        have hrd : Hid (SharedRd wr [.slice A1 s.whr.length c1, .slice A2 s.cps.length c2] s) := Lib.hid ⟨_, _, rfl, SRd.of HR1.out.rd HR1.out.le (by simp only [maxLen]; omega) (Row.nilz HR1.out), SRd.of HR2.out.rd HR2.out.le (by simp only [maxLen]; omega) (Row.nilz HR2.out)⟩
        have hixl := idx_le (s.cps.map Cp.val) x
        rw [List.length_map] at hixl
        have hix0 : Hid (∀ h : idx (s.cps.map Cp.val) x < 0, useN s.cps x = s.cps.length ∧ useL s.cps x = s.cps ++ [⟨x, 1⟩]) := Lib.hid fun h => useN_new h
        obtain ⟨ix, hixe⟩ : ∃ ix, ix = idx (s.cps.map Cp.val) x := ⟨_, rfl⟩
        have HIX := Lib.hid hixe
        rw [← hixe] at hixl hix0
        clear hixe
        go_wp2_with fail
        refine (specDisk_any _ c d _ (Rd.below ha hbw) (by omega)).mono ?_
        rw [HV.out]
        rintro e w' ⟨rfl, rfl⟩
        go_wp2
        go_region_held3 (fun w' => w'.cell? ⟨w.heap.size + 1, 0, none⟩ = some (.slice A1 s.whr.length c1) ∧ w'.cell? ⟨w.heap.size + 1, 1, none⟩ = some (.slice A2 s.cps.length c2) ∧ w'.cell? ⟨b, off + k, none⟩ = some (.int .i64 x)) (first | (refine ⟨?_, ?_, ?_⟩ <;> assumption) | (refine ⟨?_, ?_, ?_⟩ <;> (simp [go_sem, *]; done)) | go_keep)
          ((go_at_call 50; (with_reducible refine (l21Find_c _ _ s x _ (SharedRd.below hrd.out (by repeat (first | with_reducible exact Below.refl _ _ | with_reducible refine below_drewN ?_ _ | with_reducible refine Below.drew ?_ | with_reducible refine Below.alloc ?_ ?_ _ | with_reducible refine Below.setCell ?_ ?_ _ | omega | (focus (simp; omega)) | (focus (simp; done))))) hszs.out).mono ?_); rw [← HIX.out]; rintro e wq ⟨rfl, hbq⟩; have LW3 := Loc.carryB LW (fun h => by ((repeat (first | with_reducible exact h | with_reducible refine Loc.drew ?_ | with_reducible refine Loc.drewN ?_ _ | with_reducible refine Loc.alloc ?_ _)); done)) hbq; have LX3 := Loc.carryB LX (fun h => by ((repeat (first | with_reducible exact h | with_reducible refine Loc.drew ?_ | with_reducible refine Loc.drewN ?_ _ | with_reducible refine Loc.alloc ?_ _)); done)) hbq; obtain ⟨y0, y1, yf⟩ := LX3.two; obtain ⟨hc3, -⟩ := bcell (Below.next (W := wr) (by repeat (first | with_reducible exact Below.refl _ _ | with_reducible refine below_drewN ?_ _ | with_reducible refine Below.drew ?_ | with_reducible refine Below.alloc ?_ ?_ _ | with_reducible refine Below.setCell ?_ ?_ _ | omega | (focus (simp; omega)) | (focus (simp; done)))) hbq); have hcd := (hc3 b (off + k) hbl).trans hcc; clear hc3; have HR1q := Lib.hid (Row.below HR1.out (Below.next (W := wr) (by repeat (first | with_reducible exact Below.refl _ _ | with_reducible refine below_drewN ?_ _ | with_reducible refine Below.drew ?_ | with_reducible refine Below.alloc ?_ ?_ _ | with_reducible refine Below.setCell ?_ ?_ _ | omega | (focus (simp; omega)) | (focus (simp; done)))) hbq)); have HR2q := Lib.hid (Row.below HR2.out (Below.next (W := wr) (by repeat (first | with_reducible exact Below.refl _ _ | with_reducible refine below_drewN ?_ _ | with_reducible refine Below.drew ?_ | with_reducible refine Below.alloc ?_ ?_ _ | with_reducible refine Below.setCell ?_ ?_ _ | omega | (focus (simp; omega)) | (focus (simp; done)))) hbq)); have B3 : Hid (Below w.heap.size w wq) := Lib.hid (Below.next (W := w) (by repeat (first | with_reducible exact hbw | with_reducible exact Below.refl _ _ | with_reducible refine below_drewN ?_ _ | with_reducible refine Below.drew ?_ | with_reducible refine Below.alloc ?_ ?_ _ | with_reducible refine Below.setCell ?_ ?_ _ | (with_reducible refine Below.next ?_ (by assumption)) | ((with_reducible refine Below.far' (by assumption) ?_ ?_ ?_); (focus (first | omega | (simp; omega) | (simp; done))); (focus (first | omega | (simp; omega) | (simp; done)))) | omega | (focus (simp; omega)) | (focus (simp; done)))) hbq); have hzq := hbq.size; (try simp at hzq); have zX3 := LX3.lt; have zW3 := LW3.lt))
        by_cases hlt0 : ix < 0
        · have hN := Lib.hid (hix0.out hlt0)
          have hl3 : (s.cps ++ [(⟨x, 0⟩ : Cp)]).length ≤ 65 := by simp; omega
          clear hix0
          have h63 : s.cps.length + [(⟨x, 0⟩ : Cp)].length ≤ maxLen := by simp only [maxLen, List.length_cons, List.length_nil]; omega
          have hby : (s.cps.length + [(⟨x, 0⟩ : Cp)].length) * 16 ≤ 140737488355328 := by simp only [List.length_cons, List.length_nil]; omega
          go_wp2
          go_region_law (refine step_append_row (by rfl) (.tmp 29) (.tmp 35) (by rfl) elCopyS (by simp [go_sem]; done) (Row.alloc (Row.drew HR2q.out) _) (some ⟨wq.heap.size, 0, none⟩) 1 [(⟨x, 0⟩ : Cp)] (by simp [go_sem]; done) (by repeat (first | ((with_reducible refine Rd.lit ?_ ?_); (focus (first | with_reducible rfl | omega | (simp; omega) | (simp; done))); (focus (first | rfl | (simp; rfl) | (simp; done)))) | with_reducible refine Rd.drew ?_ | with_reducible refine Rd.drewN ?_ _ | with_reducible refine Rd.alloc ?_ _ | (with_reducible refine Rd.below ?_ (by assumption)))) h63 hby ?_; intro A3 c3 g3 w5 l3 hl3e hle1 hle2 hrow5 hg5 hgg5; have LX5 := Loc.carry LX3 (fun h => by ((repeat (first | with_reducible exact h | with_reducible refine Loc.drew ?_ | with_reducible refine Loc.drewN ?_ _ | with_reducible refine Loc.alloc ?_ _)); done)) hg5 (by omega); have LW5 := Loc.carry LW3 (fun h => by ((repeat (first | with_reducible exact h | with_reducible refine Loc.drew ?_ | with_reducible refine Loc.drewN ?_ _ | with_reducible refine Loc.alloc ?_ _)); done)) hg5 (by omega); obtain ⟨z0, z1, zf⟩ := LX5.two; have zX5 := LX5.lt; have zW5 := LW5.lt; have hz5 := hg5.size; (try simp at hz5); (try simp at hgg5); (try simp at hle1); (try simp at hle2))
          all_goals
            obtain ⟨wz, hwz⟩ : ∃ wz, wz = w5.setCell ⟨w.heap.size + 1, 1, none⟩ (.slice A3 l3.length c3) := ⟨_, rfl⟩
            rw [← hwz]
            have LXz : Loc wz (w.heap.size + 1) [.slice A1 s.whr.length c1, .slice A3 l3.length c3] := by rw [hwz]; simpa using Loc.set LX5 1 (.slice A3 l3.length c3)
            have LWz : Loc wz w.heap.size [.slice none 0 0, .slice none 0 0] := by rw [hwz]; exact Loc.other' (p := ⟨w.heap.size + 1, 1, none⟩) (by simp) LW5 _
            have hg3l := hrow5.lt (by omega)
            have HR3 : Hid (Row encCopyS wz g3 tyCopyS A3 c3 l3) := Lib.hid (by rw [hwz]; exact Row.other hrow5 (by simp; omega) _)
            obtain ⟨g9, row9, hg9, hg9X⟩ := Row.avoid (X := g3) (B := w.heap.size + 2) (Row.grown (Row.drew (Row.alloc HR1q.out (.cells #[.int .i64 x, .int .i64 0] 47))) hg5 hne) (by first | omega | (rcases m1 with m1 | m1; exact .inl m1; exact .inr (by omega))) (by omega) (by omega)
            have HR1z : Hid (Row eInt wz g9 3 A1 c1 s.whr) := Lib.hid (by rw [hwz]; exact Row.other row9 (by simp; omega) _)
            have Bz : Hid (Below w.heap.size w wz) := Lib.hid (by rw [hwz]; exact (by repeat (first | with_reducible exact B3.out | with_reducible exact Below.refl _ _ | with_reducible refine below_drewN ?_ _ | with_reducible refine Below.drew ?_ | with_reducible refine Below.alloc ?_ ?_ _ | with_reducible refine Below.setCell ?_ ?_ _ | (with_reducible refine Below.next ?_ (by assumption)) | ((with_reducible refine Below.far' (by assumption) ?_ ?_ ?_); (focus (first | omega | (simp; omega) | (simp; done))); (focus (first | omega | (simp; omega) | (simp; done)))) | omega | (focus (simp; omega)) | (focus (simp; done)))))
            have hzz : w5.heap.size ≤ wz.heap.size := by rw [hwz]; simp
            have hg1g : g9 ≠ g3 := hg9
            obtain ⟨i, hi⟩ : ∃ i, i = s.cps.length := ⟨_, rfl⟩
            have hil3 : i < l3.length := by omega
            have HUS : Hid ((l3[i]'hil3).usr = 0) := Lib.hid (by simp only [hl3e.out, hi]; simp)
            have HUN : Hid (useN s.cps x = i) := Lib.hid (by rw [hi]; exact hN.out.1)
            obtain ⟨us, hus⟩ : ∃ us : Int, us = 0 := ⟨_, rfl⟩
            have HUL : Hid (l3.set i ⟨(l3[i]'hil3).val, us + 1⟩ = useL s.cps x) := Lib.hid (by rw [hN.out.2]; simp only [hl3e.out, hi, hus]; simp)
            have hus0 : 0 ≤ us := by omega
            have hus1 : us ≤ 1000000 := by omega
            rw [← hus] at HUS
            rw [← hi]
            clear hwz hi hus hN row9 hrow5 hg5 LX5 LW5 z0 z1 zf y0 y1 yf
            obtain ⟨rfl, hgl3, hfz3, hcc3⟩ := HR3.out.rCopyS (by omega)
            have hcu3 := (hcc3 i hil3).2
            rw [HUS.out] at hcu3
            have HS9 := HR3.out.setBCopyS (k := i) hil3 (us + 1)
            rw [HUL.out] at HS9
            have HR9 := Lib.hid HS9
            have hfzi := hfz3 (i * 2 + 1)
            have hll : Hid ((useL s.cps x).length = l3.length) := Lib.hid (by rw [← HUL.out]; simp)
            clear hcc3 HS9 hfz3
            obtain ⟨y0, y1, yf⟩ := LXz.two
            have zXz := LXz.lt
            have zWz := LWz.lt
            have hXg : w.heap.size + 1 ≠ g3 := by omega
            have HR1y := Lib.hid (Row.other HR1z.out (p := ⟨g3, i * 2 + 1, none⟩) hg1g (.int .i64 (us + 1)))
            have LXy := Loc.other' (p := ⟨g3, i * 2 + 1, none⟩) hXg LXz (.int .i64 (us + 1))
            have LWy := Loc.other' (p := ⟨g3, i * 2 + 1, none⟩) (by simp; omega) LWz (.int .i64 (us + 1))
            have By : Hid (Below w.heap.size w (wz.setCell ⟨g3, i * 2 + 1, none⟩ (.int .i64 (us + 1)))) := Lib.hid (Below.setCell Bz.out (by simp; omega) _)
            obtain ⟨u0, u1, uf⟩ := LXy.two
            go_wp2
            go_still_tail 12, (by kernel_rfl)
            change wpList _ _ _ _ _ wz.drew
            go_wp2_with (at_builtin; refine wpList_append_row rfl _ _ rfl el_int rfl (Row.drew (Row.alloc HR1y.out _)) _ _ [(i : Int)] rfl (Rd.drew (Rd.lit (E := eInt) (l := [(i : Int)]) (by simp) rfl)) (by simp only [maxLen, List.length_cons, List.length_nil]; omega) (by simp only [List.length_cons, List.length_nil]; omega) ?_; intro A5 c5 g5 w6 l5 hl5 hle1 hle2 hrow6 hg6 hgg6; have LX6 := Loc.carry LXy (fun h => by ((repeat (first | with_reducible exact h | with_reducible refine Loc.drew ?_ | with_reducible refine Loc.drewN ?_ _ | with_reducible refine Loc.alloc ?_ _)); done)) hg6 (by omega); have LW6 := Loc.carry LWy (fun h => by ((repeat (first | with_reducible exact h | with_reducible refine Loc.drew ?_ | with_reducible refine Loc.drewN ?_ _ | with_reducible refine Loc.alloc ?_ _)); done)) hg6 (by omega); obtain ⟨v0, v1, vf⟩ := LX6.two; have zX6 := LX6.lt; have zW6 := LW6.lt)
            have hz6 := hg6.size
            simp at hz6 hgg6 hle1 hle2
            go_roundw
            case rel => exact ⟨k + 1, by omega, by go_num, (by first | exact Lib.hid (.inr HV.out) | exact Lib.hid (.inr trivial) | exact Lib.hid trivial), (by repeat (first | with_reducible exact LW6 | with_reducible refine Loc.drew ?_ | with_reducible refine Loc.drewN ?_ _ | with_reducible refine Loc.alloc ?_ _ | (with_reducible refine Loc.below ?_ (by assumption)) | ((with_reducible refine Loc.other' ?_ ?_ _); (focus (first | omega | (simp; omega) | (simp; done)))) | ((with_reducible refine Loc.far' (by assumption) ?_ ?_); (focus (first | omega | (simp; omega) | (simp; done)))))), (by repeat (first | with_reducible exact By.out | with_reducible exact Below.refl _ _ | with_reducible refine below_drewN ?_ _ | with_reducible refine Below.drew ?_ | with_reducible refine Below.alloc ?_ ?_ _ | with_reducible refine Below.setCell ?_ ?_ _ | (with_reducible refine Below.next ?_ (by assumption)) | ((with_reducible refine Below.far' (by assumption) ?_ ?_ ?_); (focus (first | omega | (simp; omega) | (simp; done))); (focus (first | omega | (simp; omega) | (simp; done)))) | omega | (focus (simp; omega)) | (focus (simp; done)))), A5, c5, g5, some ⟨g3, 0, none⟩, c3, g3, ⟨l5, useL s.cps x⟩, Lib.hid (by rw [hsu.out, HUN.out, hl5.out]), by simp only; omega, by simpa [hll.out] using Loc.set LX6 0 (.slice A5 l5.length c5), (by repeat (first | with_reducible exact hrow6 | with_reducible refine Row.drew ?_ | with_reducible refine Row.drewN ?_ _ | with_reducible refine Row.alloc ?_ _ | (with_reducible refine Row.below ?_ (by assumption)) | ((with_reducible refine Row.other ?_ ?_ _); rotate_left; (focus (first | omega | (simp; omega) | (simp; done)))) | ((with_reducible refine Row.far' (by assumption) ?_ ?_); (focus (first | omega | (simp; omega) | (simp; done)))))), (by repeat (first | with_reducible exact HR9.out | with_reducible refine Row.drew ?_ | with_reducible refine Row.drewN ?_ _ | with_reducible refine Row.alloc ?_ _ | (with_reducible refine Row.below ?_ (by assumption)) | ((with_reducible refine Row.other ?_ ?_ _); rotate_left; (focus (first | omega | (simp; omega) | (simp; done)))) | ((with_reducible refine Row.far' (by assumption) ?_ ?_); (focus (first | omega | (simp; omega) | (simp; done)))))), by omega, by omega, by omega⟩
            case measure => simp [intOf]; omega
        · obtain ⟨i, rfl⟩ := Int.eq_ofNat_of_zero_le (Int.not_lt.1 hlt0)
          have hil3 : i < s.cps.length := by omega
          have hN := Lib.hid (useN_old HIX.out.symm hil3)
          have hub := HU.out _ (List.getElem_mem hil3)
          obtain ⟨us, hus⟩ : ∃ us, us = (s.cps[i]'hil3).usr := ⟨_, rfl⟩
          have HUS : Hid ((s.cps[i]'hil3).usr = us) := Lib.hid hus.symm
          have hval : Hid ((s.cps[i]'hil3).val = x) := Lib.hid (by
            obtain ⟨i', hi', hil', hio', -⟩ := idx_get (l := s.cps.map Cp.val) (x := x) (by rw [← HIX.out]; omega)
            rw [← HIX.out] at hi'
            have : i = i' := by omega
            subst this
            simpa using hio')
          have HUN : Hid (useN s.cps x = i) := Lib.hid hN.out.1
          have HUL : Hid (s.cps.set i ⟨(s.cps[i]'hil3).val, us + 1⟩ = useL s.cps x) := Lib.hid (by rw [hN.out.2, hval.out, HUS.out])
          rw [← hus] at hub
          obtain ⟨hus0, hus1⟩ := hub
          clear hus hix0
          obtain ⟨g9, row9, hg9, hg9X⟩ := Row.avoid (X := g2) (B := w.heap.size + 2) HR1q.out (.inr hne) (by omega) (by omega)
          have HR1z := Lib.hid row9
          have LXz := LX3
          have LWz := LW3
          have Bz := B3
          have HR3 := HR2q
          clear LX3 LW3 B3 HR2q row9 y0 y1 yf
          obtain ⟨g3, hg3e⟩ : ∃ g3, g3 = g2 := ⟨_, rfl⟩
          subst hg3e
          obtain ⟨A3, hA3e⟩ : ∃ A3, A3 = A2 := ⟨_, rfl⟩
          subst hA3e
          obtain ⟨c3, hc3e⟩ : ∃ c3, c3 = c2 := ⟨_, rfl⟩
          subst hc3e
          obtain ⟨wz, hwz⟩ : ∃ wz, wz = wq := ⟨_, rfl⟩
          subst hwz
          have hg1g : g9 ≠ g3 := hg9
          obtain ⟨rfl, hgl3, hfz3, hcc3⟩ := HR3.out.rCopyS (by omega)
          have hcu3 := (hcc3 i hil3).2
          rw [HUS.out] at hcu3
          have HS9 := HR3.out.setBCopyS (k := i) hil3 (us + 1)
          rw [HUL.out] at HS9
          have HR9 := Lib.hid HS9
          have hfzi := hfz3 (i * 2 + 1)
          have hll : Hid ((useL s.cps x).length = s.cps.length) := Lib.hid (by rw [← HUL.out]; simp)
          clear hcc3 HS9 hfz3
          obtain ⟨y0, y1, yf⟩ := LXz.two
          have zXz := LXz.lt
          have zWz := LWz.lt
          have hXg : w.heap.size + 1 ≠ g3 := by omega
          have HR1y := Lib.hid (Row.other HR1z.out (p := ⟨g3, i * 2 + 1, none⟩) hg1g (.int .i64 (us + 1)))
          have LXy := Loc.other' (p := ⟨g3, i * 2 + 1, none⟩) hXg LXz (.int .i64 (us + 1))
          have LWy := Loc.other' (p := ⟨g3, i * 2 + 1, none⟩) (by simp; omega) LWz (.int .i64 (us + 1))
          have By : Hid (Below w.heap.size w (wz.setCell ⟨g3, i * 2 + 1, none⟩ (.int .i64 (us + 1)))) := Lib.hid (Below.setCell Bz.out (by simp; omega) _)
          obtain ⟨u0, u1, uf⟩ := LXy.two
          go_wp2
          go_still_tail 12, (by kernel_rfl)
          change wpList _ _ _ _ _ wz.drew
          go_wp2_with (at_builtin; refine wpList_append_row rfl _ _ rfl el_int rfl (Row.drew (Row.alloc HR1y.out _)) _ _ [(i : Int)] rfl (Rd.drew (Rd.lit (E := eInt) (l := [(i : Int)]) (by simp) rfl)) (by simp only [maxLen, List.length_cons, List.length_nil]; omega) (by simp only [List.length_cons, List.length_nil]; omega) ?_; intro A5 c5 g5 w6 l5 hl5 hle1 hle2 hrow6 hg6 hgg6; have LX6 := Loc.carry LXy (fun h => by ((repeat (first | with_reducible exact h | with_reducible refine Loc.drew ?_ | with_reducible refine Loc.drewN ?_ _ | with_reducible refine Loc.alloc ?_ _)); done)) hg6 (by omega); have LW6 := Loc.carry LWy (fun h => by ((repeat (first | with_reducible exact h | with_reducible refine Loc.drew ?_ | with_reducible refine Loc.drewN ?_ _ | with_reducible refine Loc.alloc ?_ _)); done)) hg6 (by omega); obtain ⟨v0, v1, vf⟩ := LX6.two; have zX6 := LX6.lt; have zW6 := LW6.lt)
          have hz6 := hg6.size
          simp at hz6 hgg6 hle1 hle2
          go_roundw
          case rel => exact ⟨k + 1, by omega, by go_num, (by first | exact Lib.hid (.inr HV.out) | exact Lib.hid (.inr trivial) | exact Lib.hid trivial), (by repeat (first | with_reducible exact LW6 | with_reducible refine Loc.drew ?_ | with_reducible refine Loc.drewN ?_ _ | with_reducible refine Loc.alloc ?_ _ | (with_reducible refine Loc.below ?_ (by assumption)) | ((with_reducible refine Loc.other' ?_ ?_ _); (focus (first | omega | (simp; omega) | (simp; done)))) | ((with_reducible refine Loc.far' (by assumption) ?_ ?_); (focus (first | omega | (simp; omega) | (simp; done)))))), (by repeat (first | with_reducible exact By.out | with_reducible exact Below.refl _ _ | with_reducible refine below_drewN ?_ _ | with_reducible refine Below.drew ?_ | with_reducible refine Below.alloc ?_ ?_ _ | with_reducible refine Below.setCell ?_ ?_ _ | (with_reducible refine Below.next ?_ (by assumption)) | ((with_reducible refine Below.far' (by assumption) ?_ ?_ ?_); (focus (first | omega | (simp; omega) | (simp; done))); (focus (first | omega | (simp; omega) | (simp; done)))) | omega | (focus (simp; omega)) | (focus (simp; done)))), A5, c5, g5, some ⟨g3, 0, none⟩, c3, g3, ⟨l5, useL s.cps x⟩, Lib.hid (by rw [hsu.out, HUN.out, hl5.out]), by simp only; omega, by simpa [hll.out] using Loc.set LX6 0 (.slice A5 l5.length c5), (by repeat (first | with_reducible exact hrow6 | with_reducible refine Row.drew ?_ | with_reducible refine Row.drewN ?_ _ | with_reducible refine Row.alloc ?_ _ | (with_reducible refine Row.below ?_ (by assumption)) | ((with_reducible refine Row.other ?_ ?_ _); rotate_left; (focus (first | omega | (simp; omega) | (simp; done)))) | ((with_reducible refine Row.far' (by assumption) ?_ ?_); (focus (first | omega | (simp; omega) | (simp; done)))))), (by repeat (first | with_reducible exact HR9.out | with_reducible refine Row.drew ?_ | with_reducible refine Row.drewN ?_ _ | with_reducible refine Row.alloc ?_ _ | (with_reducible refine Row.below ?_ (by assumption)) | ((with_reducible refine Row.other ?_ ?_ _); rotate_left; (focus (first | omega | (simp; omega) | (simp; done)))) | ((with_reducible refine Row.far' (by assumption) ?_ ?_); (focus (first | omega | (simp; omega) | (simp; done)))))), by omega, by omega, by omega⟩
          case measure => simp [intOf]; omega
    · have hke : Hid (s = shareB d) := Lib.hid (by
        rw [HS.out]
        cases hv : diskB d
        · have h0 := HK0.out.resolve_right (by rw [hv]; simp)
          rw [shareB_no hv, h0]; rfl
        · rw [shareB_yes hv]; congr 1; omega)
      go_wp2
      refine bodyPost_ret (v := .agg #[.slice A1 s.whr.length c1, .slice A2 s.cps.length c2]) (by simp [results, Try.results20, go_sem, *]; done) rfl ⟨_, _, rfl, ?_, (by repeat (first | with_reducible exact hbw | with_reducible exact Below.refl _ _ | with_reducible refine below_drewN ?_ _ | with_reducible refine Below.drew ?_ | with_reducible refine Below.alloc ?_ ?_ _ | with_reducible refine Below.setCell ?_ ?_ _ | (with_reducible refine Below.next ?_ (by assumption)) | ((with_reducible refine Below.far' (by assumption) ?_ ?_ ?_); (focus (first | omega | (simp; omega) | (simp; done))); (focus (first | omega | (simp; omega) | (simp; done)))) | omega | (focus (simp; omega)) | (focus (simp; done))))⟩
      rw [← hke.out]
      exact sharedOwn_rows (g1 := g1) (g2 := g2) (by repeat (first | with_reducible exact HR1.out | with_reducible refine Row.drew ?_ | with_reducible refine Row.drewN ?_ _ | with_reducible refine Row.alloc ?_ _ | (with_reducible refine Row.below ?_ (by assumption)) | ((with_reducible refine Row.other ?_ ?_ _); rotate_left; (focus (first | omega | (simp; omega) | (simp; done)))) | ((with_reducible refine Row.far' (by assumption) ?_ ?_); (focus (first | omega | (simp; omega) | (simp; done)))))) (by repeat (first | with_reducible exact HR2.out | with_reducible refine Row.drew ?_ | with_reducible refine Row.drewN ?_ _ | with_reducible refine Row.alloc ?_ _ | (with_reducible refine Row.below ?_ (by assumption)) | ((with_reducible refine Row.other ?_ ?_ _); rotate_left; (focus (first | omega | (simp; omega) | (simp; done)))) | ((with_reducible refine Row.far' (by assumption) ?_ ?_); (focus (first | omega | (simp; omega) | (simp; done)))))) hne (by omega) (by omega)
end Go.Proofs.Ytpekccmhfkeadaa
