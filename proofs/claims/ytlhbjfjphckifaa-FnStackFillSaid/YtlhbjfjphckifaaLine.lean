/-
  Slices of lines of a cache. Conditions: lengths at most 2^40.
-/
import Derived.Test.YtlhbjfjphckifaaBase
import Derived.Test.YtlhbjfjphckifaaNum
import Derived.Test.YtlhbjfjphckifaaInts
import Derived.Test.YtlhbjfjphckifaaApp
import Derived.Test.YtlhbjfjphckifaaIntsW
import Derived.Test.YtlhbjfjphckifaaLib
import Derived.Test.YtlhbjfjphckifaaOwn
import Derived.Laws.StructEq
namespace Go.Proofs.Ytlhbjfjphckifaa
open Go.RowKit
structure Ln where
  at_ : Int
  val : Int
  drt : Bool
deriving DecidableEq, Inhabited
def encLineS : Enc Ln := ⟨fun p => [.int .i64 p.at_, .int .i64 p.val, .bool p.drt], 3, by omega, fun _ => rfl, by intro x u h; simp at h; rcases h with rfl | rfl | rfl <;> rfl⟩
abbrev elemLineS : Type := Ln
abbrev tyLineS : TypeId := 95
theorem elLineS : ElemOk Try.prog 31 95 encLineS (.agg #[.int .i64 0, .int .i64 0, .bool false]) 24 := elem_ok Try.underlying31 (by kernel_rfl) rfl
theorem Rd.rLineS {w : World} {A : Option Addr} {l : List Ln} (h : Rd encLineS w A l) {k : Nat} (hk : k < l.length) : ∃ b off, A = some ⟨b, off, none⟩ ∧ b < w.heap.size ∧ w.cell? ⟨b, off + k * 3, none⟩ = some (.int .i64 (l[k]'hk).at_) ∧ w.cell? ⟨b, off + k * 3 + 1, none⟩ = some (.int .i64 (l[k]'hk).val) ∧ w.cell? ⟨b, off + k * 3 + 2, none⟩ = some (.bool (l[k]'hk).drt) := by
  obtain ⟨b, off, rfl, hc⟩ := h (by omega)
  refine ⟨b, off, rfl, h.lt (by omega) rfl, ?_, ?_, ?_⟩
  · have := hc k hk 0 (by simp [encLineS]); simpa [encLineS] using this
  · have := hc k hk 1 (by simp [encLineS]); simpa [encLineS] using this
  · have := hc k hk 2 (by simp [encLineS]); simpa [encLineS] using this
theorem Row.rLineS {w : World} {A : Option Addr} {g c : Nat} {e : TypeId} {l : List Ln} (h : Row encLineS w g e A c l) (hl : 0 < l.length) : A = some ⟨g, 0, none⟩ ∧ g < w.heap.size ∧ (∀ o, w.frozen? ⟨g, o, none⟩ = false) ∧ ∀ k (hk : k < l.length), w.cell? ⟨g, k * 3, none⟩ = some (.int .i64 (l[k]'hk).at_) ∧ w.cell? ⟨g, k * 3 + 1, none⟩ = some (.int .i64 (l[k]'hk).val) ∧ w.cell? ⟨g, k * 3 + 2, none⟩ = some (.bool (l[k]'hk).drt) := by
  obtain ⟨rfl, cur, hh, _, _, hc⟩ := h.cur hl
  refine ⟨rfl, h.lt hl, h.unfrozen hl, fun k hk => ⟨?_, ?_, ?_⟩⟩
  · rw [cell_of_row w g _ cur e (0, 0) hh]; simpa [encLineS] using hc k hk 0 (by simp [encLineS])
  · rw [cell_of_row w g _ cur e (0, 0) hh]; simpa [encLineS] using hc k hk 1 (by simp [encLineS])
  · rw [cell_of_row w g _ cur e (0, 0) hh]; simpa [encLineS] using hc k hk 2 (by simp [encLineS])
theorem Row.setALineS {w : World} {A : Option Addr} {g c : Nat} {e : TypeId} {l : List Ln} (h : Row encLineS w g e A c l) {k : Nat} (hk : k < l.length) (x : Int) : Row encLineS (w.setCell ⟨g, k * 3, none⟩ (.int .i64 x)) g e A c (l.set k ⟨x, l[k].val, l[k].drt⟩) := by
  have := h.setCell (j := 0) hk (by simp [encLineS]) (.int .i64 x) ⟨x, l[k].val, l[k].drt⟩ (by simp [encLineS])
  simpa [encLineS] using this
theorem Row.setBLineS {w : World} {A : Option Addr} {g c : Nat} {e : TypeId} {l : List Ln} (h : Row encLineS w g e A c l) {k : Nat} (hk : k < l.length) (x : Int) : Row encLineS (w.setCell ⟨g, k * 3 + 1, none⟩ (.int .i64 x)) g e A c (l.set k ⟨l[k].at_, x, l[k].drt⟩) := by
  have := h.setCell (j := 1) hk (by simp [encLineS]) (.int .i64 x) ⟨l[k].at_, x, l[k].drt⟩ (by simp [encLineS])
  simpa [encLineS] using this
theorem Row.setCLineS {w : World} {A : Option Addr} {g c : Nat} {e : TypeId} {l : List Ln} (h : Row encLineS w g e A c l) {k : Nat} (hk : k < l.length) (x : Bool) : Row encLineS (w.setCell ⟨g, k * 3 + 2, none⟩ (.bool x)) g e A c (l.set k ⟨l[k].at_, l[k].val, x⟩) := by
  have := h.setCell (j := 2) hk (by simp [encLineS]) (.bool x) ⟨l[k].at_, l[k].val, x⟩ (by simp [encLineS])
  simpa [encLineS] using this
theorem Row.setRLineS {w : World} {A : Option Addr} {g c : Nat} {e : TypeId} {l : List Ln} (h : Row encLineS w g e A c l) {k : Nat} (hk : k < l.length) (p : Ln) : Row encLineS (((w.setCell ⟨g, k * 3, none⟩ (.int .i64 p.at_)).setCell ⟨g, k * 3 + 1, none⟩ (.int .i64 p.val)).setCell ⟨g, k * 3 + 2, none⟩ (.bool p.drt)) g e A c (l.set k p) := by
  have h1 := h.setALineS hk p.at_
  have h2 := h1.setBLineS (k := k) (by simpa using hk) p.val
  have h3 := h2.setCLineS (k := k) (by simpa using hk) p.drt
  simpa using h3
set_option maxHeartbeats 400000 in
theorem toLine_any (p : Ln) (w : World) :
    Calls Try.prog 108 #[.agg #[.int .i64 p.at_, .int .i64 p.val, .bool p.drt]] w fun e w' => e = .returned (.agg #[.int .i64 p.at_, .int .i64 p.val, .bool p.drt]) ∧ Below w.heap.size w w' := by
  go_enter Try.func108, Try.ntmps108
  go_wp2
  exact bodyPost_ret (v := .agg #[.int .i64 p.at_, .int .i64 p.val, .bool p.drt]) (by simp [results, Try.results108, go_sem]) rfl ⟨rfl, (by repeat (first | with_reducible exact Below.refl _ _ | with_reducible assumption | with_reducible refine below_drewN ?_ _ | with_reducible refine Below.drew ?_ | with_reducible refine Below.alloc ?_ ?_ _ | with_reducible refine Below.setCell ?_ ?_ _ | (with_reducible refine Below.next ?_ (by assumption)) | omega | (focus (simp; omega)) | (focus (simp; done))))⟩
set_option maxHeartbeats 400000 in
theorem eqLine_any (p q : Ln) (w : World) :
    Calls Try.prog 109 #[.agg #[.int .i64 p.at_, .int .i64 p.val, .bool p.drt], .agg #[.int .i64 q.at_, .int .i64 q.val, .bool q.drt]] w fun e w' => e = .returned (.bool (decide (p = q))) ∧ Below w.heap.size w w' := by
  obtain ⟨u, l, d⟩ := p
  obtain ⟨u', l', d'⟩ := q
  go_enter Try.func109, Try.ntmps109
  go_wp2
  all_goals go_ret
  all_goals (refine ⟨?_, (by repeat (first | with_reducible exact Below.refl _ _ | with_reducible assumption | with_reducible refine below_drewN ?_ _ | with_reducible refine Below.drew ?_ | with_reducible refine Below.alloc ?_ ?_ _ | with_reducible refine Below.setCell ?_ ?_ _ | (with_reducible refine Below.next ?_ (by assumption)) | omega | (focus (simp; omega)) | (focus (simp; done))))⟩; simp_all)
set_option maxHeartbeats 1000000 in
theorem szLineS_big (A : Option Addr) (n c : Nat) (k : Int) (w : World) (hn : n ≤ 9223372036854775807) (hk0 : 0 ≤ k) (hk : k ≤ 1048576) (h : k < n) :
    Calls Try.prog 90 #[.slice A n c, .int .i64 k] w fun e w' => e = .returned (.int .i64 (-1)) ∧ w = w' := by
  go_enter Try.func90, Try.ntmps90
  go_wp2
  go_ret
  exact ⟨rfl, rfl⟩
set_option maxHeartbeats 1000000 in
theorem szLineS_ok (A : Option Addr) (n c : Nat) (k : Int) (w : World) (hk0 : 0 ≤ k) (hk : k ≤ 1048576) (h : (n : Int) ≤ k) :
    Calls Try.prog 90 #[.slice A n c, .int .i64 k] w fun e w' => e = .returned (.int .i64 (k - n)) ∧ w = w' := by
  go_enter Try.func90, Try.ntmps90
  go_wp2
  go_ret
  exact ⟨rfl, rfl⟩
set_option maxHeartbeats 1000000 in
theorem toLineS_any (A : Option Addr) (c : Nat) (l : List Ln) (w : World) (ha : Rd encLineS w A l) (hl : l.length ≤ 1099511627776) :
    Calls Try.prog 92 #[.slice A l.length c] w (FreshS encLineS 95 l w) := by
  have hmk := run_make_el elLineS l.length (by omega) (by omega)
  have hrow := made_row (E := encLineS) (z := .agg #[.int .i64 0, .int .i64 0, .bool false]) (e := 95) w ⟨0, 0, false⟩ rfl l.length (by omega)
  simp only [show (Value.agg #[.int .i64 0, .int .i64 0, .bool false]).cells = #[.int .i64 0, .int .i64 0, .bool false] from rfl, show encLineS.size = 3 from rfl] at hmk hrow
  have HR := Lib.hid hrow
  clear hrow
  go_enter Try.func92, Try.ntmps92
  go_wp2
  go_loopw [4] (fun i wr => ∃ k : Nat, k ≤ l.length ∧ i = .int .i64 k ∧ Below w.heap.size w wr ∧ ∃ lk : List Ln, (lk.length ≤ l.length ∧ l.length ≤ lk.length) ∧ (∀ t (h1 : t < lk.length) (h2 : t < l.length), t < k → lk[t] = l[t]) ∧ Row encLineS wr w.heap.size 95 (some ⟨w.heap.size, 0, none⟩) l.length lk) (fun i _ => l.length - (intOf i).toNat)
  case atStart => exact ⟨0, Nat.zero_le _, rfl, (by repeat (first | with_reducible exact Below.refl _ _ | with_reducible assumption | with_reducible refine below_drewN ?_ _ | with_reducible refine Below.drew ?_ | with_reducible refine Below.alloc ?_ ?_ _ | with_reducible refine Below.setCell ?_ ?_ _ | (with_reducible refine Below.next ?_ (by assumption)) | omega | (focus (simp; omega)) | (focus (simp; done)))), List.replicate l.length ⟨0, 0, false⟩, ⟨by simp, by simp⟩, fun t _ _ h => absurd h (by omega), HR.out⟩
  case round =>
    obtain ⟨k, hk, rfl, hb, lk, ⟨hlk1, hlk2⟩, hlt, hrow⟩ := hrel
    by_cases hkl : k < l.length
    · obtain ⟨b, off, rfl, hbl, hc, hc', hcd⟩ := (ha.below hb).rLineS hkl
      have hbg : b ≠ w.heap.size := by
        have := ha.lt (by omega) rfl
        omega
      have HL := Lib.hid hlt
      clear hlt
      have HB := Lib.hid hb
      have hgl := hrow.lt (by omega)
      go_wp2_with fail
      refine (toLine_any (l[k]'hkl) _).mono ?_
      rintro e w1 ⟨rfl, hb1⟩
      have hrow1 := hrow.below hb1
      obtain ⟨_, hg, hfz, hc2⟩ := hrow1.rLineS (by omega)
      obtain ⟨hc3, hc4, hc5⟩ := hc2 k (by omega)
      have HS := Lib.hid (hrow1.setRLineS (k := k) (by omega) (l[k]'hkl))
      clear hc2
      go_wp2
      go_roundw
      case rel =>
        refine ⟨k + 1, by omega, by go_num, ?_, _, ⟨by simpa using hlk1, by simpa using hlk2⟩, ?_, HS.out⟩
        · exact Below.setCell (Below.setCell (Below.setCell (HB.out.trans (hb1.mono (by omega))) (Nat.le_refl _) _) (Nat.le_refl _) _) (Nat.le_refl _) _
        intro t h1 h2 ht
        by_cases htk : t = k
        · subst htk; simp
        · rw [List.getElem_set_ne (by omega)]
          exact HL.out t (by simpa using h1) h2 (by omega)
      case measure => simp [intOf]; omega
    · have hll : lk = l := eq_of_upto (Nat.le_antisymm hlk1 hlk2) fun t h1 h2 => hlt t h1 h2 (by omega)
      subst hll
      go_wp2
      go_ret
      exact ⟨_, _, _, rfl, Nat.le_refl _, hrow.some_lt, hrow, hb⟩
set_option maxHeartbeats 1000000 in
theorem eqLineS_any (A B : Option Addr) (c d : Nat) (l m : List Ln) (w : World) (ha : Rd encLineS w A l) (hb : Rd encLineS w B m) (hl : l.length ≤ 1099511627776) (_hm : m.length ≤ 1099511627776) :
    Calls Try.prog 95 #[.slice A l.length c, .slice B m.length d] w fun e w' => e = .returned (.bool (decide (l = m))) ∧ Below w.heap.size w w' := by
  by_cases hlen : l.length = m.length
  · have HL := Lib.hid hlen
    clear hlen
    have hle : l.length ≤ m.length := by have := HL.out; omega
    have hle2 : m.length ≤ l.length := by have := HL.out; omega
    have hne0 : ((l.length : Int) != (m.length : Int)) = false := by simp; have := HL.out; omega
    go_enter Try.func95, Try.ntmps95
    go_wp2
    go_loopw [5] (fun i wr => ∃ k : Nat, k ≤ l.length ∧ i = .int .i64 k ∧ eqUpTo l m k ∧ Below w.heap.size w wr) (fun i _ => l.length - (intOf i).toNat)
    case atStart => exact ⟨0, Nat.zero_le _, rfl, rfl, (by repeat (first | with_reducible exact Below.refl _ _ | with_reducible assumption | with_reducible refine below_drewN ?_ _ | with_reducible refine Below.drew ?_ | with_reducible refine Below.alloc ?_ ?_ _ | with_reducible refine Below.setCell ?_ ?_ _ | (with_reducible refine Below.next ?_ (by assumption)) | omega | (focus (simp; omega)) | (focus (simp; done))))⟩
    case round =>
      obtain ⟨k, hk, rfl, ht, hbw⟩ := hrel
      have HT := Lib.hid ht
      clear ht
      by_cases hlt : k < l.length
      · have hlt' : k < m.length := by omega
        have hbl0 := fun b off h => ha.lt (b := b) (off := off) (by omega) h
        have hbl1 := fun b off h => hb.lt (b := b) (off := off) (by omega) h
        obtain ⟨b, off, rfl, hbl, hc, hc2, hc3⟩ := (ha.below hbw).rLineS hlt
        obtain ⟨b', off', rfl, hbl', hc', hc2', hc3'⟩ := (hb.below hbw).rLineS hlt'
        clear hbl0 hbl1
        have HBW := Lib.hid hbw
        cases hee : decide ((l[k]'hlt) = (m[k]'hlt'))
        · have HE := Lib.hid hee
          go_wp2
          go_region_held3 (fun w' => w'.cell? ⟨b, off + k * 3, none⟩ = some (.int .i64 (l[k]'hlt).at_) ∧ w'.cell? ⟨b, off + k * 3 + 1, none⟩ = some (.int .i64 (l[k]'hlt).val) ∧ w'.cell? ⟨b, off + k * 3 + 2, none⟩ = some (.bool (l[k]'hlt).drt) ∧ w'.cell? ⟨b', off' + k * 3, none⟩ = some (.int .i64 (m[k]'hlt').at_) ∧ w'.cell? ⟨b', off' + k * 3 + 1, none⟩ = some (.int .i64 (m[k]'hlt').val) ∧ w'.cell? ⟨b', off' + k * 3 + 2, none⟩ = some (.bool (m[k]'hlt').drt)) (first | go_keep | (refine ⟨?_, ?_, ?_, ?_, ?_, ?_⟩ <;> assumption))
            ((go_at_call 109; (with_reducible refine (eqLine_any (l[k]'hlt) (m[k]'hlt') _).mono ?_); rw [HE.out]; rintro e w1 ⟨rfl, hb1⟩; obtain ⟨hc1, hf1⟩ := bcell hb1; have q1 := (hc1 b (off + k * 3) (by simp; omega)).trans hc; have q2 := (hc1 b (off + k * 3 + 1) (by simp; omega)).trans hc2; have q3 := (hc1 b' (off' + k * 3) (by simp; omega)).trans hc'; have q4 := (hc1 b' (off' + k * 3 + 1) (by simp; omega)).trans hc2'; have q5 := (hc1 b (off + k * 3 + 2) (by simp; omega)).trans hc3; have q6 := (hc1 b' (off' + k * 3 + 2) (by simp; omega)).trans hc3'))
          go_wp2
          go_ret
          refine ⟨ret_bool ?_, (by repeat (first | with_reducible exact Below.refl _ _ | with_reducible assumption | with_reducible refine below_drewN ?_ _ | with_reducible refine Below.drew ?_ | with_reducible refine Below.alloc ?_ ?_ _ | with_reducible refine Below.setCell ?_ ?_ _ | (with_reducible refine Below.next ?_ (by assumption)) | omega | (focus (simp; omega)) | (focus (simp; done))))⟩
          have := ne_of_get hlt hlt' (by simpa using HE.out)
          simp [this]
        · have HE := Lib.hid hee
          go_wp2
          go_region_held3 (fun w' => w'.cell? ⟨b, off + k * 3, none⟩ = some (.int .i64 (l[k]'hlt).at_) ∧ w'.cell? ⟨b, off + k * 3 + 1, none⟩ = some (.int .i64 (l[k]'hlt).val) ∧ w'.cell? ⟨b, off + k * 3 + 2, none⟩ = some (.bool (l[k]'hlt).drt) ∧ w'.cell? ⟨b', off' + k * 3, none⟩ = some (.int .i64 (m[k]'hlt').at_) ∧ w'.cell? ⟨b', off' + k * 3 + 1, none⟩ = some (.int .i64 (m[k]'hlt').val) ∧ w'.cell? ⟨b', off' + k * 3 + 2, none⟩ = some (.bool (m[k]'hlt').drt)) (first | go_keep | (refine ⟨?_, ?_, ?_, ?_, ?_, ?_⟩ <;> assumption))
            ((go_at_call 109; (with_reducible refine (eqLine_any (l[k]'hlt) (m[k]'hlt') _).mono ?_); rw [HE.out]; rintro e w1 ⟨rfl, hb1⟩; obtain ⟨hc1, hf1⟩ := bcell hb1; have q1 := (hc1 b (off + k * 3) (by simp; omega)).trans hc; have q2 := (hc1 b (off + k * 3 + 1) (by simp; omega)).trans hc2; have q3 := (hc1 b' (off' + k * 3) (by simp; omega)).trans hc'; have q4 := (hc1 b' (off' + k * 3 + 1) (by simp; omega)).trans hc2'; have q5 := (hc1 b (off + k * 3 + 2) (by simp; omega)).trans hc3; have q6 := (hc1 b' (off' + k * 3 + 2) (by simp; omega)).trans hc3'))
          go_wp2
          go_roundw
          case rel => exact ⟨k + 1, by omega, by go_num, eqUpTo_succ HT.out hlt hlt' (by simpa using HE.out), (by repeat (first | with_reducible exact Below.refl _ _ | with_reducible assumption | with_reducible refine below_drewN ?_ _ | with_reducible refine Below.drew ?_ | with_reducible refine Below.alloc ?_ ?_ _ | with_reducible refine Below.setCell ?_ ?_ _ | (with_reducible refine Below.next ?_ (by assumption)) | omega | (focus (simp; omega)) | (focus (simp; done))))⟩
          case measure => simp [intOf]; omega
      · go_wp2
        go_ret
        refine ⟨ret_bool ?_, hbw⟩
        have := eqUpTo_all HT.out (by omega) (by omega)
        simp [this]
  · have hne0 : ((l.length : Int) != (m.length : Int)) = true := by simp; omega
    have HL := Lib.hid hlen
    clear hlen
    go_enter Try.func95, Try.ntmps95
    go_wp2
    go_ret
    refine ⟨ret_bool ?_, (by repeat (first | with_reducible exact Below.refl _ _ | with_reducible assumption | with_reducible refine below_drewN ?_ _ | with_reducible refine Below.drew ?_ | with_reducible refine Below.alloc ?_ ?_ _ | with_reducible refine Below.setCell ?_ ?_ _ | (with_reducible refine Below.next ?_ (by assumption)) | omega | (focus (simp; omega)) | (focus (simp; done))))⟩
    have : l ≠ m := fun e => HL.out (by rw [e])
    simp [this]
def markLn (k : Int) (i : Nat) : Ln := ⟨k + 3 * (i : Int), k + 3 * i + 1, ((k + 3 * i + 1 + 1) % 3 == 0)⟩
def marksLineS (n : Nat) (k : Int) : List Ln := (List.range n).map fun i => markLn k i
theorem marksLineS_length (n : Nat) (k : Int) : (marksLineS n k).length = n := by simp [marksLineS]
theorem marksLineS_get (n : Nat) (k : Int) (i : Nat) (h : i < (marksLineS n k).length) : (marksLineS n k)[i]'h = markLn k i := by simp [marksLineS]
set_option maxHeartbeats 1000000 in
theorem markLineS_any (A : Option Addr) (c g : Nat) (l : List Ln) (k : Int) (w : World) (hr : Row encLineS w g 95 A c l) (hl : l.length ≤ 1099511627776) (hk0 : 0 ≤ k) (hk : k ≤ 1099511627776) :
    Calls Try.prog 96 #[.slice A l.length c, .int .i64 k] w fun e w' => e = .returned (.int .i64 (k + 3 * l.length)) ∧ Row encLineS w' g 95 A c (marksLineS l.length k) ∧ w.grownBy w' (some g) := by
  have HR := Lib.hid hr
  clear hr
  go_enter Try.func96, Try.ntmps96
  go_wp2
  go_loopw [1, 5] (fun kk i wr => ∃ j : Nat, j ≤ l.length ∧ i = .int .i64 j ∧ kk = .int .i64 (k + 3 * j) ∧ w.grownBy wr (some g) ∧ ∃ lj : List Ln, (lj.length ≤ l.length ∧ l.length ≤ lj.length) ∧ (∀ t (h1 : t < lj.length), t < j → lj[t] = markLn k t) ∧ Row encLineS wr g 95 A c lj) (fun _ i _ => l.length - (intOf i).toNat)
  case atStart => exact ⟨0, Nat.zero_le _, rfl, by simp, grownBy_refl _ _, l, ⟨Nat.le_refl _, Nat.le_refl _⟩, fun t _ h => absurd h (by omega), HR.out⟩
  case round =>
    obtain ⟨j, hj, rfl, rfl, hg, lj, ⟨hlj1, hlj2⟩, hlt, hrow⟩ := hrel
    by_cases hjl : j < l.length
    · obtain ⟨rfl, hgl, hfz, hc2⟩ := hrow.rLineS (by omega)
      obtain ⟨hc3, hc4, hc5⟩ := hc2 j (by omega)
      have HS := Lib.hid (hrow.setRLineS (k := j) (by omega) (markLn k j))
      have HL := Lib.hid hlt
      obtain ⟨K, hK⟩ : ∃ K, K = k + 3 * (j : Int) := ⟨_, rfl⟩
      have HK := Lib.hid hK
      have K0 : 0 ≤ K := by omega
      have K1 : K ≤ 5497558138880 := by omega
      rw [← hK]
      have HM : Hid (markLn k j = ⟨K, K + 1, ((K + 1 + 1) % 3 == 0)⟩) := Lib.hid (by rw [hK]; rfl)
      clear hlt hc2 hK
      go_wp2
      go_roundw
      case rel =>
        have hs := HS.out
        rw [HM.out] at hs
        refine ⟨j + 1, by omega, by go_num, by rw [HK.out]; go_num, ?_, _, ⟨by simpa using hlj1, by simpa using hlj2⟩, ?_, hs⟩
        · exact grownBy_trans (grownBy_trans (grownBy_trans hg (grownBy_setCell _ _ _ _)) (grownBy_setCell _ _ _ _)) (grownBy_setCell _ _ _ _)
        intro t h1 ht
        by_cases htk : t = j
        · subst htk; simp [HM.out]
        · rw [List.getElem_set_ne (by omega)]
          exact HL.out t (by simpa using h1) (by omega)
      case measure => simp [intOf]; omega
    · have hll : lj = marksLineS l.length k := eq_of_upto (by rw [marksLineS_length]; omega) fun t h1 h2 => by rw [marksLineS_get]; exact hlt t h1 (by omega)
      subst hll
      have hje : j = l.length := by omega
      subst hje
      go_wp2
      go_ret
      exact ⟨rfl, hrow, hg⟩
set_option maxHeartbeats 1000000 in
theorem heldLineS_any (A : Option Addr) (c n : Nat) (k : Int) (w : World) (hr : Rd encLineS w A (marksLineS n k)) (hl : n ≤ 1099511627776) (hk0 : 0 ≤ k) (hk : k ≤ 1099511627776) :
    Calls Try.prog 97 #[.slice A n c, .int .i64 k] w fun e w' => e = .returned (.int .i64 (k + 3 * n)) ∧ w = w' := by
  go_enter Try.func97, Try.ntmps97
  go_wp2
  go_loop [1, 5] (fun kk i => ∃ j : Nat, j ≤ n ∧ i = .int .i64 j ∧ kk = .int .i64 (k + 3 * j)) (fun _ i => n - (intOf i).toNat)
  case atStart => exact ⟨0, Nat.zero_le _, rfl, by simp⟩
  case round =>
    obtain ⟨j, hj, rfl, rfl⟩ := hrel
    by_cases hjl : j < n
    · obtain ⟨b, off, rfl, hbl, hc, hc2, hc3⟩ := hr.rLineS (k := j) (by rw [marksLineS_length]; exact hjl)
      rw [marksLineS_get] at hc hc2 hc3
      simp only [markLn] at hc hc2 hc3
      obtain ⟨K, hK⟩ : ∃ K, K = k + 3 * (j : Int) := ⟨_, rfl⟩
      have HK := Lib.hid hK
      have K0 : 0 ≤ K := by omega
      have K1 : K ≤ 5497558138880 := by omega
      rw [← hK] at hc hc2 hc3 ⊢
      clear hK
      have hdd : (!(((K + 1 + 1) % 3 == 0) == ((K + 1 + 1) % 3 == 0))) = false := by simp
      go_wp2
      go_round
      case rel => exact ⟨j + 1, by omega, by go_num, by rw [HK.out]; go_num⟩
      case measure => simp [intOf]; omega
    · have hje : j = n := by omega
      subst hje
      go_wp2
      go_ret
      exact ⟨rfl, rfl⟩
theorem toLineS_w (v : Value) (l : List Ln) (w : World) (h : SRd encLineS w v l) (hl : l.length ≤ 1099511627776) : Calls Try.prog 92 #[v] w (MadeS encLineS tyLineS l w) := by
  obtain ⟨A, c, rfl, hr, _⟩ := h
  exact (toLineS_any A c l w hr hl).mono fun en w' h => MadeS.of_fresh en w' (FreshS.weak en w' h)
theorem eqLineS_w (v u : Value) (l m : List Ln) (w : World) (h : SRd encLineS w v l) (k : SRd encLineS w u m) (hl : l.length ≤ 1099511627776) (hm : m.length ≤ 1099511627776) : Calls Try.prog 95 #[v, u] w fun e w' => e = .returned (.bool (decide (l = m))) ∧ Below w.heap.size w w' := by
  obtain ⟨A, c, rfl, hr, _⟩ := h
  obtain ⟨A', c', rfl, hr', _⟩ := k
  exact eqLineS_any A A' c c' l m w hr hr' hl hm
theorem szLineS_bigw (v : Value) (l : List Ln) (k : Int) (w : World) (h : SRd encLineS w v l) (hk0 : 0 ≤ k) (hk : k ≤ 1048576) (hs : k < l.length) : Calls Try.prog 90 #[v, .int .i64 k] w fun e w' => e = .returned (.int .i64 (-1)) ∧ Below w.heap.size w w' := by
  obtain ⟨A, c, rfl, _, _, hm, _⟩ := h
  unfold maxLen at hm
  exact (szLineS_big A l.length c k w (by omega) hk0 hk hs).mono fun _ _ ⟨h1, h2⟩ => ⟨h1, h2 ▸ Below.refl _ _⟩
theorem szLineS_okw (v : Value) (l : List Ln) (k : Int) (w : World) (h : SRd encLineS w v l) (hk0 : 0 ≤ k) (hk : k ≤ 1048576) (hs : (l.length : Int) ≤ k) : Calls Try.prog 90 #[v, .int .i64 k] w fun e w' => e = .returned (.int .i64 (k - l.length)) ∧ Below w.heap.size w w' := by
  obtain ⟨A, c, rfl, _, _, hm, _⟩ := h
  exact (szLineS_ok A l.length c k w hk0 hk hs).mono fun _ _ ⟨h1, h2⟩ => ⟨h1, h2 ▸ Below.refl _ _⟩
set_option maxHeartbeats 1000000 in
theorem markLineS_nil (k : Int) (w : World) : Calls Try.prog 96 #[.slice none 0 0, .int .i64 k] w fun e w' => e = .returned (.int .i64 k) ∧ w = w' := by
  go_enter Try.func96, Try.ntmps96
  go_wp2
  refine wp_loop_rounds 1 ?_
  rw [rounds_succ]
  go_wp2
  go_ret
  exact ⟨rfl, rfl⟩
theorem markLineS_w (v : Value) (l : List Ln) (k : Int) (B C : Nat) (w : World) (h : SOwn encLineS tyLineS B w C v l) (hl : l.length ≤ 1099511627776) (hk0 : 0 ≤ k) (hk : k ≤ 1099511627776) :
    Calls Try.prog 96 #[v, .int .i64 k] w (MarkedS encLineS tyLineS B C v (marksLineS l.length k) (k + 3 * l.length) w) := by
  obtain ⟨A, c, g, rfl, hr, hw⟩ := h
  by_cases hA : A = none
  · subst hA
    rcases hr with ⟨_, rfl, rfl⟩ | ⟨cur, h, _⟩
    · refine (markLineS_nil k w).mono ?_
      rintro en w' ⟨rfl, rfl⟩
      exact ⟨by simp, SOwn.nil0 _ _ _, GIn.refl _ _ _, fun _ _ _ _ _ _ h => h⟩
    · cases h
  · refine (markLineS_any A c g l k w hr hl hk0 hk).mono ?_
    rintro en w' ⟨rfl, hrow, hg⟩
    exact markedS_of (marksLineS_length _ _) hw hrow hg (fun h => absurd h hA)
theorem heldLineS_w (v : Value) (n : Nat) (k : Int) (w : World) (h : SRd encLineS w v (marksLineS n k)) (hl : n ≤ 1099511627776) (hk0 : 0 ≤ k) (hk : k ≤ 1099511627776) :
    Calls Try.prog 97 #[v, .int .i64 k] w fun e w' => e = .returned (.int .i64 (k + 3 * n)) ∧ Below w.heap.size w w' := by
  obtain ⟨A, c, rfl, hr, _⟩ := h
  rw [marksLineS_length]
  exact (heldLineS_any A c n k w hr hl hk0 hk).mono fun _ _ ⟨h1, h2⟩ => ⟨h1, h2 ▸ Below.refl _ _⟩
set_option maxHeartbeats 1000000 in
theorem cloneLineS_any (A : Option Addr) (c : Nat) (l : List Ln) (w : World) (ha : Rd encLineS w A l) (hl : l.length ≤ 1099511627776) (hnil : A = none → c = 0) :
    Calls Try.prog 93 #[.slice A l.length c] w (Fresh encLineS 95 l w) := by
  by_cases hA : A = none
  · subst hA
    have hl0 : l = [] := by
      rcases Nat.eq_zero_or_pos l.length with h0 | h0
      · exact List.eq_nil_of_length_eq_zero h0
      · obtain ⟨_, _, h, _⟩ := ha h0
        cases h
    subst hl0
    have hc0 := hnil rfl
    subst hc0
    have heq := fun (w : World) => nil_eq w elLineS.1 none 0 0
    go_enter Try.func93, Try.ntmps93
    go_wp2
    go_ret
    exact ⟨none, 0, w.heap.size, rfl, Nat.le_refl _, Row.nil _ _ _, Below.refl _ _⟩
  · obtain ⟨ad, rfl⟩ := Option.ne_none_iff_exists'.1 hA
    have hrow := Row.made (E := encLineS) w 95 #[] [] 0 rfl (Nat.le_refl _) (by decide) rfl
    have hra := Rd.alloc ha (.cells #[] 95)
    have HR := Lib.hid hrow
    have HA := Lib.hid hra
    clear hrow hra
    have heq := fun (w : World) => nil_eq w elLineS.1 (some ad) l.length c
    go_enter Try.func93, Try.ntmps93
    go_wp2_with (at_builtin; refine wpList_append_row rfl _ _ rfl elLineS rfl HR.out _ _ l rfl HA.out (by simp only [maxLen, List.length_nil]; omega) (by simp only [List.length_nil]; omega) ?_; intro A' c' g' w' l' hl' hle1 hle2 hrow' hg' hgg')
    have e1 := hl'.out
    simp only [List.nil_append] at e1
    subst e1
    go_ret
    refine ⟨A', c', g', rfl, ?_, hrow', ?_⟩
    · simp at hgg'; omega
    · exact Below.grown1 ((by repeat (first | with_reducible exact Below.refl _ _ | with_reducible assumption | with_reducible refine below_drewN ?_ _ | with_reducible refine Below.drew ?_ | with_reducible refine Below.alloc ?_ ?_ _ | with_reducible refine Below.setCell ?_ ?_ _ | (with_reducible refine Below.next ?_ (by assumption)) | omega | (focus (simp; omega)) | (focus (simp; done))))) hg' (by simp) (by simp)
theorem cloneLineS_w (v : Value) (l : List Ln) (w : World) (h : SRd encLineS w v l) (hl : l.length ≤ 1099511627776) : Calls Try.prog 93 #[v] w (MadeS encLineS tyLineS l w) := by
  obtain ⟨A, c, rfl, hr, _, _, hn⟩ := h
  exact (cloneLineS_any A c l w hr hl hn).mono MadeS.of_fresh
set_option maxHeartbeats 1000000 in
theorem lineAt_1 (p : Ln) (x : Int) (b : Nat) (w : World) (hc : w.cell? ⟨b, 0, none⟩ = some (.int .i64 x)) (hb : b < w.heap.size) :
    Calls Try.prog 111 #[.agg #[.int .i64 p.at_, .int .i64 p.val, .bool p.drt], .pointer (some ⟨b, 0, none⟩)] w fun e w' => e = .returned (.bool (p.at_ == x)) ∧ Below w.heap.size w w' := by
  obtain ⟨u, v, d⟩ := p
  have hne : b ≠ w.heap.size := by omega
  go_enter Try.func111, Try.ntmps111
  go_wp2
  go_ret
  exact ⟨rfl, (by repeat (first | with_reducible exact Below.refl _ _ | with_reducible assumption | with_reducible refine below_drewN ?_ _ | with_reducible refine Below.drew ?_ | with_reducible refine Below.alloc ?_ ?_ _ | with_reducible refine Below.setCell ?_ ?_ _ | (with_reducible refine Below.next ?_ (by assumption)) | omega | (focus (simp; omega)) | (focus (simp; done))))⟩
set_option maxHeartbeats 1000000 in
theorem lineAt_index (A : Option Addr) (n c : Nat) (l : List Ln) (x : Int) (b : Nat) (w : World) (hn : l.length = n) (ha : Rd encLineS w A l) (hb : Loc w b [.int .i64 x]) (hl : n ≤ 1099511627776) :
    Calls Try.prog 110 #[.slice A n c, .func (.func 111) #[] #[.pointer (some ⟨b, 0, none⟩)]] w fun e w' => e = .returned (.int .i64 (idx (l.map Ln.at_) x)) ∧ Below w.heap.size w w' := by
  subst hn
  have HB := Lib.hid hb
  clear hb
  go_enter Try.func110, Try.ntmps110
  go_wp2
  go_loopw [8] (fun i wr => ∃ k : Nat, k ≤ l.length ∧ i = .int .i64 k ∧ (∀ j (h : j < (l.map Ln.at_).length), j < k → (l.map Ln.at_)[j] ≠ x) ∧ Below w.heap.size w wr) (fun i _ => l.length - (intOf i).toNat)
  case atStart => exact ⟨0, Nat.zero_le _, rfl, fun j _ h => absurd h (by omega), (by repeat (first | with_reducible exact Below.refl _ _ | with_reducible assumption | with_reducible refine below_drewN ?_ _ | with_reducible refine Below.drew ?_ | with_reducible refine Below.alloc ?_ ?_ _ | with_reducible refine Below.setCell ?_ ?_ _ | (with_reducible refine Below.next ?_ (by assumption)) | omega | (focus (simp; omega)) | (focus (simp; done))))⟩
  case round =>
    obtain ⟨k, hk, rfl, ht, hbw⟩ := hrel
    have HT := Lib.hid ht
    clear ht
    have LB := Loc.below HB.out hbw
    by_cases hlt : k < l.length
    · obtain ⟨b', off, rfl, hbl, hc, hc2, hc3⟩ := (ha.below hbw).rLineS hlt
      have hmk : (l.map Ln.at_)[k]'(by simpa using hlt) = (l[k]'hlt).at_ := by simp
      have HMK := Lib.hid hmk
      clear hmk
      cases hee : ((l[k]'hlt).at_ == x)
      · have HE := Lib.hid hee
        go_wp2_with fail
        refine (lineAt_1 (l[k]'hlt) x b _ (Loc.cell LB rfl) LB.lt).mono ?_
        rw [HE.out]
        rintro e w1 ⟨rfl, hb1⟩
        go_wp2
        go_roundw
        case rel =>
          refine ⟨k + 1, by omega, by go_num, fun j h hj => ?_, Below.next hbw hb1⟩
          by_cases hjk : j = k
          · subst hjk
            rw [HMK.out]
            simpa using HE.out
          · exact HT.out j h (by omega)
        case measure => simp [intOf]; omega
      · have HE := Lib.hid hee
        go_wp2_with fail
        refine (lineAt_1 (l[k]'hlt) x b _ (Loc.cell LB rfl) LB.lt).mono ?_
        rw [HE.out]
        rintro e w1 ⟨rfl, hb1⟩
        go_wp2
        go_ret
        refine ⟨ret_int ?_, Below.next hbw hb1⟩
        have hkm : k < (l.map Ln.at_).length := by simpa using hlt
        exact (idx_at hkm (by rw [HMK.out]; simpa using HE.out) fun j hj => HT.out j (by omega) hj).symm
    · go_wp2
      go_ret
      exact ⟨ret_int (idx_no fun j h => HT.out j h (by simp at h; omega)).symm, hbw⟩
set_option maxHeartbeats 1000000 in
theorem lineAt_any (A : Option Addr) (n c : Nat) (l : List Ln) (x : Int) (w : World) (hn : l.length = n) (ha : Rd encLineS w A l) (hl : n ≤ 1099511627776) :
    Calls Try.prog 104 #[.slice A n c, .int .i64 x] w fun e w' => e = .returned (.int .i64 (idx (l.map Ln.at_) x)) ∧ Below w.heap.size w w' := by
  have L0 := Loc.new w [.int .i64 x] 3
  go_enter Try.func104, Try.ntmps104
  go_wp2_with fail
  refine (lineAt_index A n c l x _ _ hn (ha.alloc _) L0 hl).mono ?_
  rintro e w1 ⟨rfl, hb1⟩
  go_wp2
  go_ret
  exact ⟨rfl, (by repeat (first | with_reducible exact Below.refl _ _ | with_reducible assumption | with_reducible refine below_drewN ?_ _ | with_reducible refine Below.drew ?_ | with_reducible refine Below.alloc ?_ ?_ _ | with_reducible refine Below.setCell ?_ ?_ _ | (with_reducible refine Below.next ?_ (by assumption)) | omega | (focus (simp; omega)) | (focus (simp; done))))⟩
end Go.Proofs.Ytlhbjfjphckifaa
