/-
  Flash memories: views. Conditions: lengths at most 2^40.
-/
import Derived.Test.YtnnanknljpkdeaaBase
import Derived.Test.YtnnanknljpkdeaaNum
import Derived.Test.YtnnanknljpkdeaaInts
import Derived.Test.YtnnanknljpkdeaaApp
import Derived.Test.YtnnanknljpkdeaaIntsW
import Derived.Test.YtnnanknljpkdeaaLib
import Derived.Test.YtnnanknljpkdeaaSpares
import Derived.Test.YtnnanknljpkdeaaOwn
import Derived.Test.YtnnanknljpkdeaaPage
import Derived.Test.YtnnanknljpkdeaaFlash
import Derived.Test.YtnnanknljpkdeaaFlashM
import Derived.Test.YtnnanknljpkdeaaFlashC
import Derived.Test.YtnnanknljpkdeaaFlashD
namespace Go.Proofs.Ytnnanknljpkdeaa
open Go.RowKit
def viewTo (l : List Pg) (m k : Nat) : List Int := (l.take k).foldl (fun v p => if 0 ≤ p.own then v.set p.own.toNat p.val else v) (List.replicate m 0)
theorem viewTo_zero (l : List Pg) (m : Nat) : viewTo l m 0 = List.replicate m 0 := rfl
theorem viewTo_succ {l : List Pg} {m k : Nat} (hk : k < l.length) : viewTo l m (k + 1) = if 0 ≤ l[k].own then (viewTo l m k).set l[k].own.toNat l[k].val else viewTo l m k := by
  unfold viewTo
  rw [List.take_succ_eq_append_getElem hk, List.foldl_append]
  rfl
theorem viewTo_length (l : List Pg) (m : Nat) : ∀ k, k ≤ l.length → (viewTo l m k).length = m := by
  intro k
  induction k with
  | zero => intro _; simp [viewTo]
  | succ k ih =>
    intro hk
    rw [viewTo_succ (by omega)]
    split
    · simpa using ih (by omega)
    · exact ih (by omega)
theorem valOf_append (a b : List Pg) (k : Int) : valOf (a ++ b) k = if (∃ p ∈ a, p.own = k) then valOf a k else valOf b k := by
  unfold valOf
  rw [List.find?_append]
  cases h : a.find? (fun p => p.own == k) with
  | some p =>
    rw [if_pos ⟨p, List.mem_of_find?_eq_some h, by simpa using List.find?_some h⟩]
    rfl
  | none =>
    rw [if_neg]
    · rfl
    · rintro ⟨p, hp, ho⟩
      rw [List.find?_eq_none] at h
      exact h p hp (by simpa using ho)
theorem viewTo_val {l : List Pg} (h : LiveOk l) (m : Nat) : ∀ k, k ≤ l.length → ∀ t (ht : t < (viewTo l m k).length), (viewTo l m k)[t] = valOf (l.take k) t := by
  intro k
  induction k with
  | zero => intro _ t ht; simp [viewTo, valOf]
  | succ k ih =>
    intro hk t ht
    have hl1 := viewTo_length l m k (by omega)
    have hl2 := viewTo_length l m (k + 1) hk
    have i := ih (by omega) t (by omega)
    have e : l.take (k + 1) = l.take k ++ [l[k]] := List.take_succ_eq_append_getElem (by omega)
    rw [e]
    have hz : ¬ l[k].own = (t : Int) → valOf (l.take k ++ [l[k]]) t = valOf (l.take k) t := by
      intro hkt
      rw [valOf_append]
      split
      · rfl
      · rename_i hne
        have h1 : valOf [l[k]] t = 0 := by simp [valOf, hkt]
        have h2 : valOf (l.take k) t = 0 := by
          unfold valOf
          rw [List.find?_eq_none.2 (fun p hp ho => hne ⟨p, hp, by simpa using ho⟩)]
        rw [h1, h2]
    by_cases h0 : 0 ≤ l[k].own
    · have hn := of_liveOk h (show k < l.length by omega) h0
      have e2 : viewTo l m (k + 1) = (viewTo l m k).set l[k].own.toNat l[k].val := by rw [viewTo_succ (by omega), if_pos h0]
      by_cases hkt : l[k].own = (t : Int)
      · have hv : valOf (l.take k ++ [l[k]]) t = l[k].val := by
          rw [valOf_append, if_neg (by rintro ⟨p, hp, ho⟩; exact hn (List.mem_map.2 ⟨p, hp, by rw [ho, hkt]⟩))]
          simp [valOf, hkt]
        have : l[k].own.toNat = t := by omega
        rw [hv]
        simp [e2, this]
      · rw [hz hkt, ← i]
        simp only [e2]
        rw [List.getElem_set_ne (by omega)]
    · have e2 : viewTo l m (k + 1) = viewTo l m k := by rw [viewTo_succ (by omega), if_neg h0]
      rw [hz (by omega), ← i]
      simp only [e2]
theorem viewTo_all {l : List Pg} (h : LiveOk l) (m k : Nat) (hk : k = l.length) : viewTo l m k = viewL l m := by
  subst hk
  apply List.ext_getElem
  · rw [viewTo_length l m _ (Nat.le_refl _), viewL_length]
  · intro t h1 h2
    rw [viewTo_val h m _ (Nat.le_refl _), List.take_length, viewL_get]
theorem idx_own {l : List Pg} {x : Int} : valOf l x = if 0 ≤ idx (l.map Pg.own) x then (l.getD (idx (l.map Pg.own) x).toNat default).val else 0 := by
  unfold valOf
  by_cases h : 0 ≤ idx (l.map Pg.own) x
  · obtain ⟨k, he, hk, hx, hall⟩ := idx_get h
    have hk' : k < l.length := by simpa using hk
    have : l.find? (fun p => p.own == x) = some l[k] := by
      rw [List.find?_eq_some_iff_getElem]
      refine ⟨by simpa using hx, k, hk', rfl, fun j hj => ?_⟩
      have := hall j hj
      simpa using this
    rw [if_pos h, this, he]
    simp [hk']
  · rw [if_neg h]
    have hn := idx_neg.1 (Int.not_le.1 h)
    rw [List.find?_eq_none.2]
    intro p hp ho
    exact hn (List.mem_map.2 ⟨p, hp, by simpa using ho⟩)
theorem viewL_succ (l : List Pg) (k : Nat) : viewL l (k + 1) = viewL l k ++ [valOf l k] := by simp [viewL, List.range_succ]
theorem FlashOk.pages_bd {f : Fl} (h : FlashOk f) {k : Nat} (hk : k < f.pages.length) : f.pages[k].own < ((f.erases.length - 1) * 4 : Nat) := by
  have := h.own _ (List.getElem_mem hk)
  have := h.n2
  omega
set_option maxHeartbeats 1000000 in
theorem l20Find_c (x0 x1 : Value) (f : Fl) (x : Int) (w : World) (h : FlashRd w [x0, x1] f) (hs : sizeFlash f ≤ 1099511627776) :
    Calls Try.prog 64 #[.agg #[x0, x1], .int .i64 x] w fun e w' => e = .returned (.int .i64 (idx (f.pages.map Pg.own) x)) ∧ Below w.heap.size w w' := by
  obtain ⟨u, v, h1, ⟨A, c, rfl, ha, hc0, hm0, hn0⟩, ⟨A', c', rfl, hp, hc1, hm1, hn1⟩⟩ := h
  simp only [List.cons.injEq, and_true] at h1
  obtain ⟨rfl, rfl⟩ := h1
  unfold sizeFlash at hs
  go_enter Try.func64, Try.ntmps64
  go_wp2
  go_loop [5] (fun i => ∃ k : Nat, k ≤ f.pages.length ∧ i = .int .i64 k ∧ ∀ j (h : j < (f.pages.map Pg.own).length), j < k → (f.pages.map Pg.own)[j] ≠ x) (fun i => f.pages.length - (intOf i).toNat)
  case atStart => exact ⟨0, Nat.zero_le _, rfl, fun j _ h => absurd h (by omega)⟩
  case round =>
    obtain ⟨k, hk, rfl, ht⟩ := hrel
    have HT := Lib.hid ht
    clear ht
    by_cases hlt : k < f.pages.length
    · obtain ⟨b', off, rfl, hbl, hc, _⟩ := ha.rPageS hlt
      have hmk : (f.pages.map Pg.own)[k]'(by simpa using hlt) = (f.pages[k]'hlt).own := by simp
      have HMK := Lib.hid hmk
      clear hmk
      cases hee : ((f.pages[k]'hlt).own == x)
      · have HE := Lib.hid hee
        go_wp2
        go_round
        case rel =>
          refine ⟨k + 1, by omega, by go_num, fun j h hj => ?_⟩
          by_cases hjk : j = k
          · subst hjk
            rw [HMK.out]
            simpa using HE.out
          · exact HT.out j h (by omega)
        case measure => simp [intOf]; omega
      · have HE := Lib.hid hee
        go_wp2
        go_ret
        refine ⟨ret_int ?_, (by repeat (first | with_reducible exact Below.refl _ _ | with_reducible assumption | with_reducible refine below_drewN ?_ _ | with_reducible refine Below.drew ?_ | with_reducible refine Below.alloc ?_ ?_ _ | with_reducible refine Below.setCell ?_ ?_ _ | (with_reducible refine Below.next ?_ (by assumption)) | omega | (focus (simp; omega)) | (focus (simp; done))))⟩
        have hkm : k < (f.pages.map Pg.own).length := by simpa using hlt
        exact (idx_at hkm (by rw [HMK.out]; simpa using HE.out) fun j hj => HT.out j (by omega) hj).symm
    · go_wp2
      go_ret
      exact ⟨ret_int (idx_no fun j h => HT.out j h (by simp at h; omega)).symm, (by repeat (first | with_reducible exact Below.refl _ _ | with_reducible assumption | with_reducible refine below_drewN ?_ _ | with_reducible refine Below.drew ?_ | with_reducible refine Below.alloc ?_ ?_ _ | with_reducible refine Below.setCell ?_ ?_ _ | (with_reducible refine Below.next ?_ (by assumption)) | omega | (focus (simp; omega)) | (focus (simp; done))))⟩
theorem viewF_no {f : Fl} (h : flashB f = false) : viewF f = [] := by unfold viewF; rw [h]; rfl
theorem viewF_yes {f : Fl} (h : flashB f = true) : viewF f = viewL f.pages ((f.erases.length - 1) * 4) := by unfold viewF; rw [h]; rfl
set_option maxHeartbeats 4000000 in
theorem implView_c (x0 x1 : Value) (f : Fl) (w : World) (h : FlashRd w [x0, x1] f) (hs : sizeFlash f ≤ 1099511627776) :
    Calls Try.prog 30 #[.agg #[x0, x1]] w (MadeS encIntS tyIntS (viewF f) w) := by
  obtain ⟨A, c, A', c', rfl, rfl⟩ := flashRd_lens h
  have HR := Lib.hid h
  have L0 := Loc.new w [.slice A f.pages.length c, .slice A' f.erases.length c'] 30
  cases hv : flashB f
  · have HV := Lib.hid hv
    have HF := Lib.hid (viewF_no hv)
    clear hv
    go_enter Try.func30, Try.ntmps30
    go_wp2_with fail
    refine (implFlash_c _ _ f _ (FlashRd.below HR.out (by repeat (first | with_reducible exact Below.refl _ _ | with_reducible refine below_drewN ?_ _ | with_reducible refine Below.drew ?_ | with_reducible refine Below.alloc ?_ ?_ _ | with_reducible refine Below.setCell ?_ ?_ _ | omega | (focus (simp; omega)) | (focus (simp; done))))) hs).mono ?_
    rw [HV.out]
    rintro e w1 ⟨rfl, hb1⟩
    go_wp2
    go_ret
    refine ⟨.slice none 0 0, rfl, ?_, (by repeat (first | with_reducible exact Below.refl _ _ | with_reducible assumption | with_reducible refine below_drewN ?_ _ | with_reducible refine Below.drew ?_ | with_reducible refine Below.alloc ?_ ?_ _ | with_reducible refine Below.setCell ?_ ?_ _ | (with_reducible refine Below.next ?_ (by assumption)) | omega | (focus (simp; omega)) | (focus (simp; done))))⟩
    rw [HF.out]; exact SOwn.nil0 _ _ _
  · have HV := Lib.hid hv
    have HF := Lib.hid (viewF_yes hv)
    have ok := flashB_iff.1 hv
    clear hv
    have hn2 := ok.n2
    have hn6 := ok.n6
    have hlen := ok.len
    have hp24 : f.pages.length ≤ 24 := by omega
    have HO := Lib.hid ok
    obtain ⟨m, hm⟩ : ∃ m, m = (f.erases.length - 1) * 4 := ⟨_, rfl⟩
    have hm20 : m ≤ 20 := by omega
    have hmi : Hid (((f.erases.length : Int) - 1) * 4 = (m : Int)) := Lib.hid (by omega)
    have HM := Lib.hid hm
    rw [← hm] at HF
    clear hlen ok hm
    have hmk := run_make_el el_int m (by omega) (by omega)
    simp only [show (Value.int .i64 0).cells = #[.int .i64 0] from rfl, show eInt.size = 1 from rfl, Nat.mul_one] at hmk
    go_enter Try.func30, Try.ntmps30
    go_wp2_with fail
    refine (implFlash_c _ _ f _ (FlashRd.below HR.out (by repeat (first | with_reducible exact Below.refl _ _ | with_reducible refine below_drewN ?_ _ | with_reducible refine Below.drew ?_ | with_reducible refine Below.alloc ?_ ?_ _ | with_reducible refine Below.setCell ?_ ?_ _ | omega | (focus (simp; omega)) | (focus (simp; done))))) hs).mono ?_
    rw [HV.out]
    rintro e w1 ⟨rfl, hb1⟩
    have M0 := Loc.carryB L0 (fun h => by ((repeat (first | with_reducible exact h | with_reducible refine Loc.drew ?_ | with_reducible refine Loc.drewN ?_ _ | with_reducible refine Loc.alloc ?_ _)); done)) hb1
    obtain ⟨k0, k1, kf⟩ := M0.two
    have zM := M0.lt
    have hrow := Lib.hid (made_row (E := eInt) (z := .int .i64 0) (e := 3) w1 0 rfl m (by omega))
    simp only [show (Value.int .i64 0).cells = #[.int .i64 0] from rfl, show eInt.size = 1 from rfl, Nat.mul_one] at hrow
    have hmi' := hmi.out
    have W1 : Hid (Below w.heap.size w w1) := Lib.hid (Below.next (W := w) (by repeat (first | with_reducible exact Below.refl _ _ | with_reducible refine below_drewN ?_ _ | with_reducible refine Below.drew ?_ | with_reducible refine Below.alloc ?_ ?_ _ | with_reducible refine Below.setCell ?_ ?_ _ | omega | (focus (simp; omega)) | (focus (simp; done)))) hb1)
    have hz1 := hb1.size
    simp at hz1
    clear hb1
    go_wp2
    clear hmk hmi'
    go_loopw [18] (fun i wr => ∃ k : Nat, k ≤ f.pages.length ∧ i = .int .i64 k ∧ Loc wr w.heap.size [.slice A f.pages.length c, .slice A' f.erases.length c'] ∧ Below w.heap.size w wr ∧ ∃ lk : List Int, Hid (lk = viewTo f.pages m k) ∧ (lk.length ≤ m ∧ m ≤ lk.length) ∧ Row eInt wr w1.heap.size 3 (some ⟨w1.heap.size, 0, none⟩) m lk) (fun i _ => f.pages.length - (intOf i).toNat)
    case atStart => exact ⟨0, Nat.zero_le _, rfl, Loc.alloc M0 _, (by repeat (first | with_reducible exact W1.out | with_reducible exact Below.refl _ _ | with_reducible refine below_drewN ?_ _ | with_reducible refine Below.drew ?_ | with_reducible refine Below.alloc ?_ ?_ _ | with_reducible refine Below.setCell ?_ ?_ _ | (with_reducible refine Below.next ?_ (by assumption)) | ((with_reducible refine Below.far' (by assumption) ?_ ?_ ?_); (focus (first | omega | (simp; omega) | (simp; done))); (focus (first | omega | (simp; omega) | (simp; done)))) | omega | (focus (simp; omega)) | (focus (simp; done)))), _, Lib.hid rfl, by simp [viewTo], hrow.out⟩
    case round =>
      obtain ⟨k, hk, rfl, LW, hbw, lk, HLK, ⟨hlk1, hlk2⟩, hrow⟩ := hrel
      have hsz := hbw.size
      have hzl := LW.lt
      obtain ⟨k0, k1, kf⟩ := LW.two
      have hra := Rd.below (FlashRd.pgs HR.out) hbw
      by_cases hlt : k < f.pages.length
      · obtain ⟨b, off, rfl, hbl, hcc, hcc2⟩ := hra.rPageS hlt
        have hbne : b ≠ w1.heap.size := by
          have := (FlashRd.pgs HR.out).lt (by omega) rfl
          omega
        have hob := HO.out.pages_bd hlt
        rw [← HM.out] at hob
        have HS := Lib.hid (viewTo_succ (m := m) hlt)
        rw [← HLK.out] at HS
        obtain ⟨p, hp0⟩ : ∃ p, p = f.pages[k]'hlt := ⟨_, rfl⟩
        rw [← hp0] at hcc hcc2 HS hob
        clear hp0
        obtain ⟨o, v⟩ := p
        simp only at hcc hcc2 HS hob
        by_cases hneg : 0 ≤ o
        · have hn' : decide (0 ≤ o) = true := by simpa using hneg
          obtain ⟨o', rfl⟩ := Int.eq_ofNat_of_zero_le hneg
          have hom : o' < lk.length := by omega
          have hgw := hrow.lt (by omega)
          have hrow2 := Row.alloc hrow (.cells #[.int .i64 (o' : Int), .int .i64 v] 42)
          obtain ⟨_, hg, hfz, hc2⟩ := hrow2.int (by omega)
          have hc3 := hc2 o' hom
          have HSET := Lib.hid (hrow.setInt (k := o') hom v)
          clear hc2
          go_wp2
          go_roundw
          case rel => exact ⟨k + 1, by omega, by go_num, (by repeat (first | with_reducible exact LW | with_reducible refine Loc.drew ?_ | with_reducible refine Loc.drewN ?_ _ | with_reducible refine Loc.alloc ?_ _ | (with_reducible refine Loc.below ?_ (by assumption)) | ((with_reducible refine Loc.other' ?_ ?_ _); (focus (first | omega | (simp; omega) | (simp; done)))) | ((with_reducible refine Loc.far' (by assumption) ?_ ?_); (focus (first | omega | (simp; omega) | (simp; done)))))), (by repeat (first | with_reducible exact hbw | with_reducible exact Below.refl _ _ | with_reducible refine below_drewN ?_ _ | with_reducible refine Below.drew ?_ | with_reducible refine Below.alloc ?_ ?_ _ | with_reducible refine Below.setCell ?_ ?_ _ | (with_reducible refine Below.next ?_ (by assumption)) | ((with_reducible refine Below.far' (by assumption) ?_ ?_ ?_); (focus (first | omega | (simp; omega) | (simp; done))); (focus (first | omega | (simp; omega) | (simp; done)))) | omega | (focus (simp; omega)) | (focus (simp; done)))), _, Lib.hid (by rw [HS.out, if_pos hneg]; rfl), ⟨by simp; omega, by simp; omega⟩, Row.alloc HSET.out _⟩
          case measure => simp [intOf]; omega
        · have hn' : decide (0 ≤ o) = false := by simpa using hneg
          go_wp2
          go_roundw
          case rel => exact ⟨k + 1, by omega, by go_num, Loc.alloc LW _, hbw.alloc hsz _, lk, Lib.hid (by rw [HS.out, if_neg hneg]), ⟨hlk1, hlk2⟩, Row.alloc hrow _⟩
          case measure => simp [intOf]; omega
      · have HA := Lib.hid (viewTo_all HO.out.one m k (by omega))
        go_wp2
        go_ret
        have e1 : lk = viewF f := by rw [HLK.out, HF.out]; exact HA.out
        refine ⟨_, rfl, ?_, hbw⟩
        rw [← e1]
        exact SOwn.of_rown hrow (by omega) (by omega)
set_option maxHeartbeats 4000000 in
theorem specView_c (x0 x1 : Value) (f : Fl) (w : World) (h : FlashRd w [x0, x1] f) (hs : sizeFlash f ≤ 1099511627776) :
    Calls Try.prog 29 #[.agg #[x0, x1]] w (MadeS encIntS tyIntS (viewF f) w) := by
  obtain ⟨A, c, A', c', rfl, rfl⟩ := flashRd_lens h
  have HR := Lib.hid h
  have L0 := Loc.new w [.slice A f.pages.length c, .slice A' f.erases.length c'] 30
  have L1 := Loc.alloc L0 (.cells #[] 3)
  obtain ⟨k0, k1, kf⟩ := L1.two
  cases hv : flashB f
  · have HV := Lib.hid hv
    have HF := Lib.hid (viewF_no hv)
    clear hv
    go_enter Try.func29, Try.ntmps29
    go_wp2
    refine wp_loop_rounds 1 ?_
    rw [rounds_succ]
    go_wp2_with fail
    refine (specFlash_c _ _ f _ (FlashRd.below HR.out (by repeat (first | with_reducible exact Below.refl _ _ | with_reducible refine below_drewN ?_ _ | with_reducible refine Below.drew ?_ | with_reducible refine Below.alloc ?_ ?_ _ | with_reducible refine Below.setCell ?_ ?_ _ | omega | (focus (simp; omega)) | (focus (simp; done))))) hs).mono ?_
    rw [HV.out]
    rintro e w1 ⟨rfl, hb1⟩
    have M0 := Loc.carryB L0 (fun h => by ((repeat (first | with_reducible exact h | with_reducible refine Loc.drew ?_ | with_reducible refine Loc.drewN ?_ _ | with_reducible refine Loc.alloc ?_ _)); done)) hb1
    obtain ⟨m0, m1, mf⟩ := M0.two
    have hr0 : Row eInt w1 (w.heap.size + 1) 3 (some ⟨w.heap.size + 1, 0, none⟩) 0 ([] : List Int) := Row.below (by repeat (first | ((with_reducible refine Row.made0 ?_); (focus (first | with_reducible rfl | omega | (simp; omega) | (simp; done)))) | with_reducible refine Row.drew ?_ | with_reducible refine Row.drewN ?_ _ | with_reducible refine Row.alloc ?_ _ | (with_reducible refine Row.below ?_ (by assumption)))) hb1
    go_wp2
    go_ret
    refine ⟨_, rfl, ?_, (by repeat (first | with_reducible exact Below.refl _ _ | with_reducible assumption | with_reducible refine below_drewN ?_ _ | with_reducible refine Below.drew ?_ | with_reducible refine Below.alloc ?_ ?_ _ | with_reducible refine Below.setCell ?_ ?_ _ | (with_reducible refine Below.next ?_ (by assumption)) | omega | (focus (simp; omega)) | (focus (simp; done))))⟩
    rw [HF.out]
    exact SOwn.of_rown hr0 rfl (by omega)
  · have HV := Lib.hid hv
    have HF := Lib.hid (viewF_yes hv)
    have ok := flashB_iff.1 hv
    clear hv
    have hn2 := ok.n2
    have hn6 := ok.n6
    have hlen := ok.len
    have hp24 : f.pages.length ≤ 24 := by omega
    have HO := Lib.hid ok
    obtain ⟨m, hm⟩ : ∃ m, m = (f.erases.length - 1) * 4 := ⟨_, rfl⟩
    have hm20 : m ≤ 20 := by omega
    have hmi : Hid (((f.erases.length : Int) - 1) * 4 = (m : Int)) := Lib.hid (by omega)
    rw [← hm] at HF
    clear hlen ok hm
    go_enter Try.func29, Try.ntmps29
    go_wp2
    go_loopw [3, 4, 5, 6] (fun out i _ _ wr => ∃ k : Nat, k ≤ m ∧ i = .int .i64 k ∧ Loc wr w.heap.size [.slice A f.pages.length c, .slice A' f.erases.length c'] ∧ Below w.heap.size w wr ∧ ∃ A1 c1 g1, ∃ lk : List Int, out = .slice A1 lk.length c1 ∧ Hid (lk = viewL f.pages k) ∧ (lk.length ≤ k ∧ k ≤ lk.length) ∧ w.heap.size < g1 ∧ Row eInt wr g1 3 A1 c1 lk) (fun _ i _ _ _ => m - (intOf i).toNat)
    case atStart => exact ⟨0, Nat.zero_le _, rfl, (by repeat (first | with_reducible assumption | with_reducible apply Loc.fill3 | with_reducible apply Loc.fill2 | ((with_reducible refine Loc.newAt' ?_ rfl); (focus (first | with_reducible rfl | omega | (simp; omega) | (simp; done)))) | with_reducible refine Loc.drew ?_ | with_reducible refine Loc.drewN ?_ _ | with_reducible refine Loc.alloc ?_ _ | (with_reducible refine Loc.below ?_ (by assumption)) | ((with_reducible refine Loc.other' ?_ ?_ _); (focus (first | omega | (simp; omega) | (simp; done)))) | ((with_reducible refine Loc.far' (by assumption) ?_ ?_); (focus (first | omega | (simp; omega) | (simp; done)))))), (by repeat (first | with_reducible exact Below.refl _ _ | with_reducible assumption | with_reducible refine below_drewN ?_ _ | with_reducible refine Below.drew ?_ | with_reducible refine Below.alloc ?_ ?_ _ | with_reducible refine Below.setCell ?_ ?_ _ | (with_reducible refine Below.next ?_ (by assumption)) | omega | (focus (simp; omega)) | (focus (simp; done)))), _, _, w.heap.size + 1, [], rfl, Lib.hid rfl, by simp, by omega, (by repeat (first | ((with_reducible refine Row.made0 ?_); (focus (first | with_reducible rfl | omega | (simp; omega) | (simp; done)))) | with_reducible refine Row.drew ?_ | with_reducible refine Row.drewN ?_ _ | with_reducible refine Row.alloc ?_ _ | (with_reducible refine Row.below ?_ (by assumption))))⟩
    case round =>
      obtain ⟨k, hk, rfl, LW, hbw, A1, c1, g1, lk, rfl, HLK, ⟨hlk1, hlk2⟩, hg1, hrow⟩ := hrel
      have hsz := hbw.size
      have hzl := LW.lt
      obtain ⟨q0, q1, qf⟩ := LW.two
      go_wp2_with fail
      refine (specFlash_c _ _ f _ (FlashRd.below HR.out hbw) hs).mono ?_
      rw [HV.out]
      rintro e w1 ⟨rfl, hb1⟩
      have M0 := Loc.carryB LW (fun h => by ((repeat (first | with_reducible exact h | with_reducible refine Loc.drew ?_ | with_reducible refine Loc.drewN ?_ _ | with_reducible refine Loc.alloc ?_ _)); done)) hb1
      obtain ⟨m0, m1, mf⟩ := M0.two
      have hrow1 := hrow.below hb1
      have W1 : Hid (Below w.heap.size w w1) := Lib.hid (Below.next (W := w) hbw hb1)
      clear hb1
      by_cases hlt : k < m
      · go_wp2_with fail
        refine (l20Logical_any _ _ (by omega) (by omega)).mono ?_
        rw [hmi.out]
        rintro e w2 ⟨rfl, rfl⟩
        go_wp2_with fail
        refine (l20Find_c _ _ f k _ (FlashRd.below HR.out W1.out) hs).mono ?_
        rintro e w2 ⟨rfl, hb2⟩
        have N0 := Loc.carryB M0 (fun h => by ((repeat (first | with_reducible exact h | with_reducible refine Loc.drew ?_ | with_reducible refine Loc.drewN ?_ _ | with_reducible refine Loc.alloc ?_ _)); done)) hb2
        obtain ⟨n0, n1, nf⟩ := N0.two
        have hrow2 := Lib.hid (hrow1.below hb2)
        have W2 : Hid (Below w.heap.size w w2) := Lib.hid (Below.next (W := w) W1.out hb2)
        have hpg := FlashRd.pgs (FlashRd.below HR.out W2.out)
        have hie := Lib.hid (idx_own (l := f.pages) (x := (k : Int)))
        have hix := idx_le (f.pages.map Pg.own) (k : Int)
        obtain ⟨ix, hixe⟩ : ∃ ix, ix = idx (f.pages.map Pg.own) (k : Int) := ⟨_, rfl⟩
        rw [← hixe] at hie hix
        rw [← hixe]
        simp only [List.length_map] at hix
        clear hixe hb2
        have hvs := Lib.hid (viewL_succ f.pages k)
        have hz2 := W2.out.size
        have hzN := N0.lt
        by_cases h0 : 0 ≤ ix
        · have h0' : decide (0 ≤ ix) = true := by simpa using h0
          obtain ⟨i, rfl⟩ := Int.eq_ofNat_of_zero_le h0
          have hil : i < f.pages.length := by omega
          obtain ⟨b, off, rfl, hbl, hcc, hcc2⟩ := hpg.rPageS hil
          have hve : Hid (valOf f.pages k = (f.pages[i]'hil).val) := Lib.hid (by rw [hie.out, if_pos h0]; simp [hil])
          obtain ⟨v, hv⟩ : ∃ v, v = (f.pages[i]'hil).val := ⟨_, rfl⟩
          rw [← hv] at hve hcc2
          clear hv hcc
          have hlit : Hid (Rd eInt (w2.alloc (.cells #[.int .i64 v] 3)) (some ⟨w2.heap.size, 0, none⟩) [v]) := Lib.hid (Rd.lit rfl rfl)
          go_wp2_with (at_builtin; refine wpList_append_row rfl _ _ rfl el_int rfl (Row.alloc hrow2.out _) _ _ [v] rfl hlit.out (by simp only [maxLen, List.length_cons, List.length_nil]; omega) (by simp only [List.length_cons, List.length_nil]; omega) ?_; intro A2 c2 g2 w3 l2 hl2 hle1 hle2 hrow3 hg3 hgg3)
          go_roundw
          case rel =>
            have hz3 := hg3.size
            simp at hz3 hgg3 hle1 hle2
            exact ⟨k + 1, by omega, by go_num, (by repeat (first | with_reducible exact N0 | with_reducible refine Loc.drew ?_ | with_reducible refine Loc.drewN ?_ _ | with_reducible refine Loc.alloc ?_ _ | (with_reducible refine Loc.below ?_ (by assumption)) | ((with_reducible refine Loc.other' ?_ ?_ _); (focus (first | omega | (simp; omega) | (simp; done)))) | ((with_reducible refine Loc.far' (by assumption) ?_ ?_); (focus (first | omega | (simp; omega) | (simp; done)))))), (by repeat (first | with_reducible exact W2.out | with_reducible exact Below.refl _ _ | with_reducible refine below_drewN ?_ _ | with_reducible refine Below.drew ?_ | with_reducible refine Below.alloc ?_ ?_ _ | with_reducible refine Below.setCell ?_ ?_ _ | (with_reducible refine Below.next ?_ (by assumption)) | ((with_reducible refine Below.far' (by assumption) ?_ ?_ ?_); (focus (first | omega | (simp; omega) | (simp; done))); (focus (first | omega | (simp; omega) | (simp; done)))) | omega | (focus (simp; omega)) | (focus (simp; done)))), A2, c2, g2, l2, rfl, Lib.hid (by rw [hl2.out, HLK.out, hvs.out, hve.out]), by omega, by omega, hrow3⟩
          case measure => simp [intOf]; omega
        · have h0' : decide (0 ≤ ix) = false := by simpa using h0
          have hve : Hid (valOf f.pages k = 0) := Lib.hid (by rw [hie.out, if_neg h0])
          have hlit : Hid (Rd eInt (w2.alloc (.cells #[.int .i64 0] 3)) (some ⟨w2.heap.size, 0, none⟩) [0]) := Lib.hid (Rd.lit rfl rfl)
          go_wp2_with (at_builtin; refine wpList_append_row rfl _ _ rfl el_int rfl (Row.alloc hrow2.out _) _ _ [0] rfl hlit.out (by simp only [maxLen, List.length_cons, List.length_nil]; omega) (by simp only [List.length_cons, List.length_nil]; omega) ?_; intro A2 c2 g2 w3 l2 hl2 hle1 hle2 hrow3 hg3 hgg3)
          go_roundw
          case rel =>
            have hz3 := hg3.size
            simp at hz3 hgg3 hle1 hle2
            exact ⟨k + 1, by omega, by go_num, (by repeat (first | with_reducible exact N0 | with_reducible refine Loc.drew ?_ | with_reducible refine Loc.drewN ?_ _ | with_reducible refine Loc.alloc ?_ _ | (with_reducible refine Loc.below ?_ (by assumption)) | ((with_reducible refine Loc.other' ?_ ?_ _); (focus (first | omega | (simp; omega) | (simp; done)))) | ((with_reducible refine Loc.far' (by assumption) ?_ ?_); (focus (first | omega | (simp; omega) | (simp; done)))))), (by repeat (first | with_reducible exact W2.out | with_reducible exact Below.refl _ _ | with_reducible refine below_drewN ?_ _ | with_reducible refine Below.drew ?_ | with_reducible refine Below.alloc ?_ ?_ _ | with_reducible refine Below.setCell ?_ ?_ _ | (with_reducible refine Below.next ?_ (by assumption)) | ((with_reducible refine Below.far' (by assumption) ?_ ?_ ?_); (focus (first | omega | (simp; omega) | (simp; done))); (focus (first | omega | (simp; omega) | (simp; done)))) | omega | (focus (simp; omega)) | (focus (simp; done)))), A2, c2, g2, l2, rfl, Lib.hid (by rw [hl2.out, HLK.out, hvs.out, hve.out]), by omega, by omega, hrow3⟩
          case measure => simp [intOf]; omega
      · go_wp2_with fail
        refine (l20Logical_any _ _ (by omega) (by omega)).mono ?_
        rw [hmi.out]
        rintro e w2 ⟨rfl, rfl⟩
        have hkm : k = m := by omega
        have HE : Hid (lk = viewF f) := Lib.hid (by rw [HLK.out, HF.out, hkm])
        go_wp2
        go_ret
        refine ⟨_, rfl, ?_, W1.out⟩
        rw [← HE.out]
        exact SOwn.of_rown hrow1 rfl (by omega)
end Go.Proofs.Ytnnanknljpkdeaa
