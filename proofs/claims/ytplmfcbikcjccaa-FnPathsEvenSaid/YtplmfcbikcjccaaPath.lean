/-
  Contracts of the functions on slices of paths. Conditions: lengths at most 2^40.
-/
import Derived.Test.YtplmfcbikcjccaaBase
import Derived.Test.YtplmfcbikcjccaaNum
import Derived.Test.YtplmfcbikcjccaaInts
import Derived.Test.YtplmfcbikcjccaaApp
import Derived.Test.YtplmfcbikcjccaaIntsW
import Derived.Test.YtplmfcbikcjccaaLib
import Derived.Test.YtplmfcbikcjccaaPathM
import Derived.StillTailTactics
import Derived.Laws.StructEq
namespace Go.Proofs.Ytplmfcbikcjccaa
open Go.RowKit
theorem el_path : ElemOk Try.prog 25 33 ePath (.agg #[.bool false, .int .i64 0]) 16 := elem_ok Try.underlying25 (by kernel_rfl) rfl
theorem Rd.path {w : World} {A : Option Addr} {l : List Pth} (h : Rd ePath w A l) {k : Nat} (hk : k < l.length) : ∃ b off, A = some ⟨b, off, none⟩ ∧ b < w.heap.size ∧ w.cell? ⟨b, off + k * 2, none⟩ = some (.bool (l[k]'hk).up) ∧ w.cell? ⟨b, off + k * 2 + 1, none⟩ = some (.int .i64 (l[k]'hk).load) := by
  obtain ⟨b, off, rfl, hc⟩ := h (by omega)
  refine ⟨b, off, rfl, h.lt (by omega) rfl, ?_, ?_⟩
  · have := hc k hk 0 (by simp [ePath]); simpa [ePath] using this
  · have := hc k hk 1 (by simp [ePath]); simpa [ePath] using this
theorem Row.path {w : World} {A : Option Addr} {g c : Nat} {e : TypeId} {l : List Pth} (h : Row ePath w g e A c l) (hl : 0 < l.length) : A = some ⟨g, 0, none⟩ ∧ g < w.heap.size ∧ (∀ o, w.frozen? ⟨g, o, none⟩ = false) ∧ ∀ k (hk : k < l.length), w.cell? ⟨g, k * 2, none⟩ = some (.bool (l[k]'hk).up) ∧ w.cell? ⟨g, k * 2 + 1, none⟩ = some (.int .i64 (l[k]'hk).load) := by
  obtain ⟨rfl, cur, hh, _, _, hc⟩ := h.cur hl
  refine ⟨rfl, h.lt hl, h.unfrozen hl, fun k hk => ⟨?_, ?_⟩⟩
  · rw [cell_of_row w g _ cur e (0, 0) hh]; simpa [ePath] using hc k hk 0 (by simp [ePath])
  · rw [cell_of_row w g _ cur e (0, 0) hh]; simpa [ePath] using hc k hk 1 (by simp [ePath])
theorem Row.setUp {w : World} {A : Option Addr} {g c : Nat} {e : TypeId} {l : List Pth} (h : Row ePath w g e A c l) {k : Nat} (hk : k < l.length) (x : Bool) : Row ePath (w.setCell ⟨g, k * 2, none⟩ (.bool x)) g e A c (l.set k ⟨x, l[k].load⟩) := by
  have := h.setCell (j := 0) hk (by simp [ePath]) (.bool x) ⟨x, l[k].load⟩ (by simp [ePath])
  simpa [ePath] using this
theorem Row.setLoad {w : World} {A : Option Addr} {g c : Nat} {e : TypeId} {l : List Pth} (h : Row ePath w g e A c l) {k : Nat} (hk : k < l.length) (x : Int) : Row ePath (w.setCell ⟨g, k * 2 + 1, none⟩ (.int .i64 x)) g e A c (l.set k ⟨l[k].up, x⟩) := by
  have := h.setCell (j := 1) hk (by simp [ePath]) (.int .i64 x) ⟨l[k].up, x⟩ (by simp [ePath])
  simpa [ePath] using this
theorem Row.setPath {w : World} {A : Option Addr} {g c : Nat} {e : TypeId} {l : List Pth} (h : Row ePath w g e A c l) {k : Nat} (hk : k < l.length) (p : Pth) : Row ePath ((w.setCell ⟨g, k * 2, none⟩ (.bool p.up)).setCell ⟨g, k * 2 + 1, none⟩ (.int .i64 p.load)) g e A c (l.set k p) := by
  have h1 := h.setUp hk p.up
  have h2 := h1.setLoad (k := k) (by simpa using hk) p.load
  simpa using h2
set_option maxHeartbeats 400000 in
theorem toPath_any (p : Pth) (w : World) :
    Calls Try.prog 32 #[.agg #[.bool p.up, .int .i64 p.load]] w fun e w' => e = .returned (.agg #[.bool p.up, .int .i64 p.load]) ∧ Below w.heap.size w w' := by
  go_enter Try.func32, Try.ntmps32
  go_wp2
  exact bodyPost_ret (v := .agg #[.bool p.up, .int .i64 p.load]) (by simp [results, Try.results32, go_sem]) rfl ⟨rfl, (by repeat (first | with_reducible exact Below.refl _ _ | with_reducible assumption | with_reducible refine below_drewN ?_ _ | with_reducible refine Below.drew ?_ | with_reducible refine Below.alloc ?_ ?_ _ | with_reducible refine Below.setCell ?_ ?_ _ | (with_reducible refine Below.next ?_ (by assumption)) | omega | (focus (simp; omega)) | (focus (simp; done))))⟩
set_option maxHeartbeats 400000 in
theorem eqPath_any (p q : Pth) (w : World) :
    Calls Try.prog 36 #[.agg #[.bool p.up, .int .i64 p.load], .agg #[.bool q.up, .int .i64 q.load]] w fun e w' => e = .returned (.bool (decide (p = q))) ∧ Below w.heap.size w w' := by
  obtain ⟨u, l⟩ := p
  obtain ⟨u', l'⟩ := q
  go_enter Try.func36, Try.ntmps36
  go_wp2
  all_goals go_ret
  all_goals (refine ⟨?_, (by repeat (first | with_reducible exact Below.refl _ _ | with_reducible assumption | with_reducible refine below_drewN ?_ _ | with_reducible refine Below.drew ?_ | with_reducible refine Below.alloc ?_ ?_ _ | with_reducible refine Below.setCell ?_ ?_ _ | (with_reducible refine Below.next ?_ (by assumption)) | omega | (focus (simp; omega)) | (focus (simp; done))))⟩; simp_all)
set_option maxHeartbeats 1000000 in
theorem szPathS_big (A : Option Addr) (n c : Nat) (k : Int) (w : World) (hn : n ≤ 9223372036854775807) (hk0 : 0 ≤ k) (hk : k ≤ 1048576) (h : k < n) :
    Calls Try.prog 12 #[.slice A n c, .int .i64 k] w fun e w' => e = .returned (.int .i64 (-1)) ∧ w = w' := by
  go_enter Try.func12, Try.ntmps12
  go_wp2
  go_ret
  exact ⟨rfl, rfl⟩
set_option maxHeartbeats 1000000 in
theorem szPathS_ok (A : Option Addr) (n c : Nat) (k : Int) (w : World) (hk0 : 0 ≤ k) (hk : k ≤ 1048576) (h : (n : Int) ≤ k) :
    Calls Try.prog 12 #[.slice A n c, .int .i64 k] w fun e w' => e = .returned (.int .i64 (k - n)) ∧ w = w' := by
  go_enter Try.func12, Try.ntmps12
  go_wp2
  go_ret
  exact ⟨rfl, rfl⟩
set_option maxHeartbeats 1000000 in
theorem toPathS_any (A : Option Addr) (c : Nat) (l : List Pth) (w : World) (ha : Rd ePath w A l) (hl : l.length ≤ 1099511627776) :
    Calls Try.prog 14 #[.slice A l.length c] w (FreshS ePath 33 l w) := by
  have hmk := run_make_el el_path l.length (by omega) (by omega)
  have hrow := made_row (E := ePath) (z := .agg #[.bool false, .int .i64 0]) (e := 33) w ⟨false, 0⟩ rfl l.length (by omega)
  simp only [show (Value.agg #[.bool false, .int .i64 0]).cells = #[.bool false, .int .i64 0] from rfl, show ePath.size = 2 from rfl] at hmk hrow
  have HR := Lib.hid hrow
  clear hrow
  go_enter Try.func14, Try.ntmps14
  go_wp2
  go_loopw [4] (fun i wr => ∃ k : Nat, k ≤ l.length ∧ i = .int .i64 k ∧ Below w.heap.size w wr ∧ ∃ lk : List Pth, (lk.length ≤ l.length ∧ l.length ≤ lk.length) ∧ (∀ t (h1 : t < lk.length) (h2 : t < l.length), t < k → lk[t] = l[t]) ∧ Row ePath wr w.heap.size 33 (some ⟨w.heap.size, 0, none⟩) l.length lk) (fun i _ => l.length - (intOf i).toNat)
  case atStart => exact ⟨0, Nat.zero_le _, rfl, (by repeat (first | with_reducible exact Below.refl _ _ | with_reducible assumption | with_reducible refine below_drewN ?_ _ | with_reducible refine Below.drew ?_ | with_reducible refine Below.alloc ?_ ?_ _ | with_reducible refine Below.setCell ?_ ?_ _ | (with_reducible refine Below.next ?_ (by assumption)) | omega | (focus (simp; omega)) | (focus (simp; done)))), List.replicate l.length ⟨false, 0⟩, ⟨by simp, by simp⟩, fun t _ _ h => absurd h (by omega), HR.out⟩
  case round =>
    obtain ⟨k, hk, rfl, hb, lk, ⟨hlk1, hlk2⟩, hlt, hrow⟩ := hrel
    by_cases hkl : k < l.length
    · obtain ⟨b, off, rfl, hbl, hc, hc'⟩ := (ha.below hb).path hkl
      have hbg : b ≠ w.heap.size := by
        have := ha.lt (by omega) rfl
        omega
      have HL := Lib.hid hlt
      clear hlt
      have HB := Lib.hid hb
      have hgl := hrow.lt (by omega)
      go_wp2_with fail
      refine (toPath_any (l[k]'hkl) _).mono ?_
      rintro e w1 ⟨rfl, hb1⟩
      have hrow1 := hrow.below hb1
      obtain ⟨_, hg, hfz, hc2⟩ := hrow1.path (by omega)
      obtain ⟨hc3, hc4⟩ := hc2 k (by omega)
      have HS := Lib.hid (hrow1.setPath (k := k) (by omega) (l[k]'hkl))
      clear hc2
      go_wp2
      go_roundw
      case rel =>
        refine ⟨k + 1, by omega, by go_num, ?_, _, ⟨by simpa using hlk1, by simpa using hlk2⟩, ?_, HS.out⟩
        · exact Below.setCell (Below.setCell (HB.out.trans (hb1.mono (by omega))) (Nat.le_refl _) _) (Nat.le_refl _) _
        intro t h1 h2 ht
        by_cases htk : t = k
        · subst htk; simp
        · rw [List.getElem_set_ne (by omega)]
          exact HL.out t (by simpa using h1) h2 (by omega)
      case measure => simp [intOf]; omega
    · have hll : lk = l := eq_of_upto (Nat.le_antisymm hlk1 hlk2) fun t h1 h2 => hlt t h1 h2 (by omega)
      subst hll
      go_wp2
      go_ret
      exact ⟨_, _, _, rfl, Nat.le_refl _, hrow.some_lt, hrow, hb⟩
set_option maxHeartbeats 1000000 in
theorem eqPathS_any (A B : Option Addr) (c d : Nat) (l m : List Pth) (w : World) (ha : Rd ePath w A l) (hb : Rd ePath w B m) (hl : l.length ≤ 1099511627776) (_hm : m.length ≤ 1099511627776) :
    Calls Try.prog 16 #[.slice A l.length c, .slice B m.length d] w fun e w' => e = .returned (.bool (decide (l = m))) ∧ Below w.heap.size w w' := by
  by_cases hlen : l.length = m.length
  · have HL := Lib.hid hlen
    clear hlen
    have hle : l.length ≤ m.length := by have := HL.out; omega
    have hle2 : m.length ≤ l.length := by have := HL.out; omega
    have hne0 : ((l.length : Int) != (m.length : Int)) = false := by simp; have := HL.out; omega
    go_enter Try.func16, Try.ntmps16
    go_wp2
    go_loopw [5] (fun i wr => ∃ k : Nat, k ≤ l.length ∧ i = .int .i64 k ∧ eqUpTo l m k ∧ Below w.heap.size w wr) (fun i _ => l.length - (intOf i).toNat)
    case atStart => exact ⟨0, Nat.zero_le _, rfl, rfl, (by repeat (first | with_reducible exact Below.refl _ _ | with_reducible assumption | with_reducible refine below_drewN ?_ _ | with_reducible refine Below.drew ?_ | with_reducible refine Below.alloc ?_ ?_ _ | with_reducible refine Below.setCell ?_ ?_ _ | (with_reducible refine Below.next ?_ (by assumption)) | omega | (focus (simp; omega)) | (focus (simp; done))))⟩
    case round =>
      obtain ⟨k, hk, rfl, ht, hbw⟩ := hrel
      have HT := Lib.hid ht
      clear ht
      by_cases hlt : k < l.length
      · have hlt' : k < m.length := by omega
        have hbl0 := fun b off h => ha.lt (b := b) (off := off) (by omega) h
        have hbl1 := fun b off h => hb.lt (b := b) (off := off) (by omega) h
        obtain ⟨b, off, rfl, hbl, hc, hc2⟩ := (ha.below hbw).path hlt
        obtain ⟨b', off', rfl, hbl', hc', hc2'⟩ := (hb.below hbw).path hlt'
        clear hbl0 hbl1
        have HBW := Lib.hid hbw
        cases hee : decide ((l[k]'hlt) = (m[k]'hlt'))
        · have HE := Lib.hid hee
          go_wp2
          go_region_held3 (fun w' => w'.cell? ⟨b, off + k * 2, none⟩ = some (.bool (l[k]'hlt).up) ∧ w'.cell? ⟨b, off + k * 2 + 1, none⟩ = some (.int .i64 (l[k]'hlt).load) ∧ w'.cell? ⟨b', off' + k * 2, none⟩ = some (.bool (m[k]'hlt').up) ∧ w'.cell? ⟨b', off' + k * 2 + 1, none⟩ = some (.int .i64 (m[k]'hlt').load)) (first | go_keep | (refine ⟨?_, ?_, ?_, ?_⟩ <;> assumption))
            ((go_at_call 36; (with_reducible refine (eqPath_any (l[k]'hlt) (m[k]'hlt') _).mono ?_); rw [HE.out]; rintro e w1 ⟨rfl, hb1⟩; obtain ⟨hc1, hf1⟩ := bcell hb1; have q1 := (hc1 b (off + k * 2) (by simp; omega)).trans hc; have q2 := (hc1 b (off + k * 2 + 1) (by simp; omega)).trans hc2; have q3 := (hc1 b' (off' + k * 2) (by simp; omega)).trans hc'; have q4 := (hc1 b' (off' + k * 2 + 1) (by simp; omega)).trans hc2'))
          go_wp2
          go_ret
          refine ⟨ret_bool ?_, (by repeat (first | with_reducible exact Below.refl _ _ | with_reducible assumption | with_reducible refine below_drewN ?_ _ | with_reducible refine Below.drew ?_ | with_reducible refine Below.alloc ?_ ?_ _ | with_reducible refine Below.setCell ?_ ?_ _ | (with_reducible refine Below.next ?_ (by assumption)) | omega | (focus (simp; omega)) | (focus (simp; done))))⟩
          have := ne_of_get hlt hlt' (by simpa using HE.out)
          simp [this]
        · have HE := Lib.hid hee
          go_wp2
          go_region_held3 (fun w' => w'.cell? ⟨b, off + k * 2, none⟩ = some (.bool (l[k]'hlt).up) ∧ w'.cell? ⟨b, off + k * 2 + 1, none⟩ = some (.int .i64 (l[k]'hlt).load) ∧ w'.cell? ⟨b', off' + k * 2, none⟩ = some (.bool (m[k]'hlt').up) ∧ w'.cell? ⟨b', off' + k * 2 + 1, none⟩ = some (.int .i64 (m[k]'hlt').load)) (first | go_keep | (refine ⟨?_, ?_, ?_, ?_⟩ <;> assumption))
            ((go_at_call 36; (with_reducible refine (eqPath_any (l[k]'hlt) (m[k]'hlt') _).mono ?_); rw [HE.out]; rintro e w1 ⟨rfl, hb1⟩; obtain ⟨hc1, hf1⟩ := bcell hb1; have q1 := (hc1 b (off + k * 2) (by simp; omega)).trans hc; have q2 := (hc1 b (off + k * 2 + 1) (by simp; omega)).trans hc2; have q3 := (hc1 b' (off' + k * 2) (by simp; omega)).trans hc'; have q4 := (hc1 b' (off' + k * 2 + 1) (by simp; omega)).trans hc2'))
          go_wp2
          go_roundw
          case rel => exact ⟨k + 1, by omega, by go_num, eqUpTo_succ HT.out hlt hlt' (by simpa using HE.out), (by repeat (first | with_reducible exact Below.refl _ _ | with_reducible assumption | with_reducible refine below_drewN ?_ _ | with_reducible refine Below.drew ?_ | with_reducible refine Below.alloc ?_ ?_ _ | with_reducible refine Below.setCell ?_ ?_ _ | (with_reducible refine Below.next ?_ (by assumption)) | omega | (focus (simp; omega)) | (focus (simp; done))))⟩
          case measure => simp [intOf]; omega
      · go_wp2
        go_ret
        refine ⟨ret_bool ?_, hbw⟩
        have := eqUpTo_all HT.out (by omega) (by omega)
        simp [this]
  · have hne0 : ((l.length : Int) != (m.length : Int)) = true := by simp; omega
    have HL := Lib.hid hlen
    clear hlen
    go_enter Try.func16, Try.ntmps16
    go_wp2
    go_ret
    refine ⟨ret_bool ?_, (by repeat (first | with_reducible exact Below.refl _ _ | with_reducible assumption | with_reducible refine below_drewN ?_ _ | with_reducible refine Below.drew ?_ | with_reducible refine Below.alloc ?_ ?_ _ | with_reducible refine Below.setCell ?_ ?_ _ | (with_reducible refine Below.next ?_ (by assumption)) | omega | (focus (simp; omega)) | (focus (simp; done))))⟩
    have : l ≠ m := fun e => HL.out (by rw [e])
    simp [this]
theorem path_guard : Try.prog.eqGuardType Try.prog.depth 33 = false := by kernel_rfl
theorem path_held : Try.prog.stoodInHeld 33 = false := by kernel_rfl
theorem path_neq (p q : Pth) (w : World) : (binOp .neq 33 (.agg #[.bool p.up, .int .i64 p.load]) (.agg #[.bool q.up, .int .i64 q.load])).run Try.prog w = .ok (.bool (decide (p ≠ q))) w := by
  have h1 := path_held
  have h2 : (!((p.up == q.up) && (p.load == q.load))) = decide (p ≠ q) := by
    obtain ⟨a, b⟩ := p
    obtain ⟨c, d⟩ := q
    rw [Bool.eq_iff_iff]; simp
  rw [← h2]
  simp [go_sem, h1]
  cases h3 : (p.up == q.up) <;> cases h4 : (p.load == q.load) <;> simp_all [go_sem]
set_option maxHeartbeats 1000000 in
theorem samePaths_any (A B : Option Addr) (c d : Nat) (l m : List Pth) (w : World) (ha : Rd ePath w A l) (hb : Rd ePath w B m) (hl : l.length ≤ 1099511627776) (_hm : m.length ≤ 1099511627776) :
    Calls Try.prog 29 #[.slice A l.length c, .slice B m.length d] w fun e w' => e = .returned (.bool (decide (l = m))) ∧ ∃ q, w' = w.drewN q := by
  by_cases hlen : l.length = m.length
  · have HL := Lib.hid hlen
    clear hlen
    have hle : l.length ≤ m.length := by have := HL.out; omega
    have hle2 : m.length ≤ l.length := by have := HL.out; omega
    have hne0 : ((l.length : Int) != (m.length : Int)) = false := by simp; have := HL.out; omega
    go_enter Try.func29, Try.ntmps29
    go_wp2
    go_loopw [5] (fun i wr => ∃ k : Nat, k ≤ l.length ∧ i = .int .i64 k ∧ eqUpTo l m k ∧ ∃ q, wr = w.drewN q) (fun i _ => l.length - (intOf i).toNat)
    case atStart => exact ⟨0, Nat.zero_le _, rfl, rfl, 0, rfl⟩
    case round =>
      obtain ⟨k, hk, rfl, ht, q, rfl⟩ := hrel
      have HT := Lib.hid ht
      clear ht
      by_cases hlt : k < l.length
      · have hlt' : k < m.length := by omega
        obtain ⟨b, off, rfl, hbl, hc, hc2⟩ := ha.path hlt
        obtain ⟨b', off', rfl, hbl', hc', hc2'⟩ := hb.path hlt'
        by_cases hee : (l[k]'hlt) = (m[k]'hlt')
        · have HE := Lib.hid hee
          have hn : ∀ w, (binOp .neq 33 (.agg #[.bool (l[k]'hlt).up, .int .i64 (l[k]'hlt).load]) (.agg #[.bool (m[k]'hlt').up, .int .i64 (m[k]'hlt').load])).run Try.prog w = .ok (.bool false) w := fun w => by rw [path_neq]; simp [hee]
          have hgd := path_guard
          clear hee
          go_wp2
          go_quiet (fail)
          go_wp2
          go_roundw
          case rel => exact ⟨k + 1, by omega, by go_num, eqUpTo_succ HT.out hlt hlt' HE.out, q + _, rfl⟩
          case measure => simp [intOf]; omega
        · have HE := Lib.hid hee
          have hn : ∀ w, (binOp .neq 33 (.agg #[.bool (l[k]'hlt).up, .int .i64 (l[k]'hlt).load]) (.agg #[.bool (m[k]'hlt').up, .int .i64 (m[k]'hlt').load])).run Try.prog w = .ok (.bool true) w := fun w => by rw [path_neq]; simp [hee]
          have hgd := path_guard
          clear hee
          go_wp2
          go_quiet (fail)
          go_wp2
          go_ret
          refine ⟨ret_bool ?_, _, (World.drewN_drewN ..)⟩
          have := ne_of_get hlt hlt' HE.out
          simp [this]
      · go_wp2
        go_ret
        refine ⟨ret_bool ?_, q, rfl⟩
        have := eqUpTo_all HT.out (by omega) (by omega)
        simp [this]
  · have hne0 : ((l.length : Int) != (m.length : Int)) = true := by simp; omega
    have HL := Lib.hid hlen
    clear hlen
    go_enter Try.func29, Try.ntmps29
    go_wp2
    go_ret
    refine ⟨ret_bool ?_, 0, rfl⟩
    have : l ≠ m := fun e => HL.out (by rw [e])
    simp [this]
def markP (k : Int) (i : Nat) : Pth := ⟨decide ((k + 2 * (i : Int)) % 3 = 0), k + 2 * i + 1⟩
def marksP (n : Nat) (k : Int) : List Pth := (List.range n).map fun i => markP k i
theorem marksP_length (n : Nat) (k : Int) : (marksP n k).length = n := by simp [marksP]
theorem marksP_get (n : Nat) (k : Int) (i : Nat) (h : i < (marksP n k).length) : (marksP n k)[i]'h = markP k i := by simp [marksP]
set_option maxHeartbeats 1000000 in
theorem markPathS_any (A : Option Addr) (c g : Nat) (l : List Pth) (k : Int) (w : World) (hr : Row ePath w g 33 A c l) (hl : l.length ≤ 1099511627776) (hk0 : 0 ≤ k) (hk : k ≤ 1099511627776) :
    Calls Try.prog 24 #[.slice A l.length c, .int .i64 k] w fun e w' => e = .returned (.int .i64 (k + 2 * l.length)) ∧ Row ePath w' g 33 A c (marksP l.length k) ∧ w.grownBy w' (some g) := by
  have HR := Lib.hid hr
  clear hr
  go_enter Try.func24, Try.ntmps24
  go_wp2
  go_loopw [1, 5] (fun kk i wr => ∃ j : Nat, j ≤ l.length ∧ i = .int .i64 j ∧ kk = .int .i64 (k + 2 * j) ∧ w.grownBy wr (some g) ∧ ∃ lj : List Pth, (lj.length ≤ l.length ∧ l.length ≤ lj.length) ∧ (∀ t (h1 : t < lj.length), t < j → lj[t] = markP k t) ∧ Row ePath wr g 33 A c lj) (fun _ i _ => l.length - (intOf i).toNat)
  case atStart => exact ⟨0, Nat.zero_le _, rfl, by simp, grownBy_refl _ _, l, ⟨Nat.le_refl _, Nat.le_refl _⟩, fun t _ h => absurd h (by omega), HR.out⟩
  case round =>
    obtain ⟨j, hj, rfl, rfl, hg, lj, ⟨hlj1, hlj2⟩, hlt, hrow⟩ := hrel
    by_cases hjl : j < l.length
    · obtain ⟨rfl, hgl, hfz, hc2⟩ := hrow.path (by omega)
      obtain ⟨hc3, hc4⟩ := hc2 j (by omega)
      have HS := Lib.hid (hrow.setPath (k := j) (by omega) (markP k j))
      have HL := Lib.hid hlt
      obtain ⟨K, hK⟩ : ∃ K, K = k + 2 * (j : Int) := ⟨_, rfl⟩
      have HK := Lib.hid hK
      have K0 : 0 ≤ K := by omega
      have K1 : K ≤ 4398046511104 := by omega
      rw [← hK]
      have HM : Hid (markP k j = ⟨decide (K % 3 = 0), K + 1⟩) := Lib.hid (by rw [hK]; rfl)
      clear hlt hc2 hK
      go_wp2
      go_roundw
      case rel =>
        have hs := HS.out
        rw [HM.out] at hs
        refine ⟨j + 1, by omega, by go_num, by rw [HK.out]; go_num, ?_, _, ⟨by simpa using hlj1, by simpa using hlj2⟩, ?_, hs⟩
        · exact grownBy_trans (grownBy_trans hg (grownBy_setCell _ _ _ _)) (grownBy_setCell _ _ _ _)
        intro t h1 ht
        by_cases htk : t = j
        · subst htk; simp [HM.out]
        · rw [List.getElem_set_ne (by omega)]
          exact HL.out t (by simpa using h1) (by omega)
      case measure => simp [intOf]; omega
    · have hll : lj = marksP l.length k := eq_of_upto (by rw [marksP_length]; omega) fun t h1 h2 => by rw [marksP_get]; exact hlt t h1 (by omega)
      subst hll
      have hje : j = l.length := by omega
      subst hje
      go_wp2
      go_ret
      exact ⟨rfl, hrow, hg⟩
set_option maxHeartbeats 1000000 in
theorem heldPathS_any (A : Option Addr) (c n : Nat) (k : Int) (w : World) (hr : Rd ePath w A (marksP n k)) (hl : n ≤ 1099511627776) (hk0 : 0 ≤ k) (hk : k ≤ 1099511627776) :
    Calls Try.prog 25 #[.slice A n c, .int .i64 k] w fun e w' => e = .returned (.int .i64 (k + 2 * n)) ∧ w = w' := by
  go_enter Try.func25, Try.ntmps25
  go_wp2
  go_loop [1, 5] (fun kk i => ∃ j : Nat, j ≤ n ∧ i = .int .i64 j ∧ kk = .int .i64 (k + 2 * j)) (fun _ i => n - (intOf i).toNat)
  case atStart => exact ⟨0, Nat.zero_le _, rfl, by simp⟩
  case round =>
    obtain ⟨j, hj, rfl, rfl⟩ := hrel
    by_cases hjl : j < n
    · obtain ⟨b, off, rfl, hbl, hc, hc2⟩ := hr.path (k := j) (by rw [marksP_length]; exact hjl)
      rw [marksP_get] at hc hc2
      simp only [markP] at hc hc2
      obtain ⟨K, hK⟩ : ∃ K, K = k + 2 * (j : Int) := ⟨_, rfl⟩
      have HK := Lib.hid hK
      have K0 : 0 ≤ K := by omega
      have K1 : K ≤ 4398046511104 := by omega
      have e1 : (!decide (K % 3 = 0) == (K % 3 == 0)) = false := by
        by_cases h : K % 3 = 0
        · simp [h]
        · simp [h]
      rw [← hK] at hc hc2 ⊢
      clear hK
      go_wp2
      go_round
      case rel => exact ⟨j + 1, by omega, by go_num, by rw [HK.out]; go_num⟩
      case measure => simp [intOf]; omega
    · have hje : j = n := by omega
      subst hje
      go_wp2
      go_ret
      exact ⟨rfl, rfl⟩
set_option maxHeartbeats 1000000 in
theorem clonePath_any (A : Option Addr) (c : Nat) (l : List Pth) (w : World) (ha : Rd ePath w A l) (hl : l.length ≤ 1099511627776) (hnil : A = none → c = 0) :
    Calls Try.prog 42 #[.slice A l.length c] w (Fresh ePath 33 l w) := by
  by_cases hA : A = none
  · subst hA
    have hl0 : l = [] := by
      rcases Nat.eq_zero_or_pos l.length with h0 | h0
      · exact List.eq_nil_of_length_eq_zero h0
      · obtain ⟨_, _, h, _⟩ := ha h0
        cases h
    subst hl0
    have hc0 := hnil rfl
    subst hc0
    have heq := fun (w : World) => nil_eq w el_path.1 none 0 0
    go_enter Try.func42, Try.ntmps42
    go_wp2
    go_ret
    exact ⟨none, 0, w.heap.size, rfl, Nat.le_refl _, Row.nil _ _ _, Below.refl _ _⟩
  · obtain ⟨ad, rfl⟩ := Option.ne_none_iff_exists'.1 hA
    have hrow := Row.made (E := ePath) w 33 #[] [] 0 rfl (Nat.le_refl _) (by decide) rfl
    have hra := Rd.alloc ha (.cells #[] 33)
    have HR := Lib.hid hrow
    have HA := Lib.hid hra
    clear hrow hra
    have heq := fun (w : World) => nil_eq w el_path.1 (some ad) l.length c
    go_enter Try.func42, Try.ntmps42
    go_wp2_with (at_builtin; refine wpList_append_row rfl _ _ rfl el_path rfl HR.out _ _ l rfl HA.out (by simp only [maxLen, List.length_nil]; omega) (by simp only [List.length_nil]; omega) ?_; intro A' c' g' w' l' hl' hle1 hle2 hrow' hg' hgg')
    have e1 := hl'.out
    simp only [List.nil_append] at e1
    subst e1
    go_ret
    refine ⟨A', c', g', rfl, ?_, hrow', ?_⟩
    · simp at hgg'; omega
    · exact Below.grown1 ((by repeat (first | with_reducible exact Below.refl _ _ | with_reducible assumption | with_reducible refine below_drewN ?_ _ | with_reducible refine Below.drew ?_ | with_reducible refine Below.alloc ?_ ?_ _ | with_reducible refine Below.setCell ?_ ?_ _ | (with_reducible refine Below.next ?_ (by assumption)) | omega | (focus (simp; omega)) | (focus (simp; done))))) hg' (by simp) (by simp)
set_option maxHeartbeats 1000000 in
theorem pathOk_any (p : Pth) (w : World) :
    Calls Try.prog 34 #[.agg #[.bool p.up, .int .i64 p.load]] w fun e w' => e = .returned (.bool (!pathOk p)) ∧ Below w.heap.size w w' := by
  obtain ⟨u, l⟩ := p
  cases h1 : inB l 0 1000
  · go_enter Try.func34, Try.ntmps34
    go_wp2_with (go_at_call 35; refine (within_any _ _ _ _).mono ?_; rintro e w' ⟨rfl, rfl⟩)
    go_ret
    exact ⟨ret_bool (by simp [pathOk, h1]), (by repeat (first | with_reducible exact Below.refl _ _ | with_reducible assumption | with_reducible refine below_drewN ?_ _ | with_reducible refine Below.drew ?_ | with_reducible refine Below.alloc ?_ ?_ _ | with_reducible refine Below.setCell ?_ ?_ _ | (with_reducible refine Below.next ?_ (by assumption)) | omega | (focus (simp; omega)) | (focus (simp; done))))⟩
  · cases u
    · cases h2 : (l == 0)
      · go_enter Try.func34, Try.ntmps34
        go_wp2_with (go_at_call 35; refine (within_any _ _ _ _).mono ?_; rintro e w' ⟨rfl, rfl⟩)
        go_ret
        exact ⟨ret_bool (by simp [pathOk, h1, bne]), (by repeat (first | with_reducible exact Below.refl _ _ | with_reducible assumption | with_reducible refine below_drewN ?_ _ | with_reducible refine Below.drew ?_ | with_reducible refine Below.alloc ?_ ?_ _ | with_reducible refine Below.setCell ?_ ?_ _ | (with_reducible refine Below.next ?_ (by assumption)) | omega | (focus (simp; omega)) | (focus (simp; done))))⟩
      · go_enter Try.func34, Try.ntmps34
        go_wp2_with (go_at_call 35; refine (within_any _ _ _ _).mono ?_; rintro e w' ⟨rfl, rfl⟩)
        go_ret
        exact ⟨ret_bool (by simp [pathOk, h1, bne]), (by repeat (first | with_reducible exact Below.refl _ _ | with_reducible assumption | with_reducible refine below_drewN ?_ _ | with_reducible refine Below.drew ?_ | with_reducible refine Below.alloc ?_ ?_ _ | with_reducible refine Below.setCell ?_ ?_ _ | (with_reducible refine Below.next ?_ (by assumption)) | omega | (focus (simp; omega)) | (focus (simp; done))))⟩
    · go_enter Try.func34, Try.ntmps34
      go_wp2_with (go_at_call 35; refine (within_any _ _ _ _).mono ?_; rintro e w' ⟨rfl, rfl⟩)
      go_ret
      exact ⟨ret_bool (by simp [pathOk, h1]), (by repeat (first | with_reducible exact Below.refl _ _ | with_reducible assumption | with_reducible refine below_drewN ?_ _ | with_reducible refine Below.drew ?_ | with_reducible refine Below.alloc ?_ ?_ _ | with_reducible refine Below.setCell ?_ ?_ _ | (with_reducible refine Below.next ?_ (by assumption)) | omega | (focus (simp; omega)) | (focus (simp; done))))⟩
/-- The first place of a path that is not valid, or -1. -/
def badPath (l : List Pth) : Int := match l.findIdx? (fun p => !pathOk p) with | some k => (k : Int) | none => -1
theorem badPath_no {l : List Pth} (h : ∀ k (hk : k < l.length), pathOk l[k] = true) : badPath l = -1 := by
  have : l.findIdx? (fun p => !pathOk p) = none := by
    rw [List.findIdx?_eq_none_iff]
    intro y hy
    obtain ⟨k, hk, rfl⟩ := List.getElem_of_mem hy
    simpa using h k hk
  simp [badPath, this]
theorem badPath_at {l : List Pth} {k : Nat} (hk : k < l.length) (he : pathOk l[k] = false) (h : ∀ j (hj : j < k), pathOk l[j] = true) : badPath l = (k : Int) := by
  have : l.findIdx? (fun p => !pathOk p) = some k := by
    rw [List.findIdx?_eq_some_iff_getElem]
    exact ⟨hk, by simpa using he, fun j hj => by simpa using h j hj⟩
  simp [badPath, this]
theorem badPath_neg {l : List Pth} : 0 ≤ badPath l ↔ l.all pathOk = false := by
  unfold badPath
  split
  · rename_i k hk
    rw [List.findIdx?_eq_some_iff_getElem] at hk
    obtain ⟨hk, he, _⟩ := hk
    refine ⟨fun _ => ?_, fun _ => by omega⟩
    rw [List.all_eq_false]
    exact ⟨_, List.getElem_mem hk, by simpa using he⟩
  · rename_i hn
    rw [List.findIdx?_eq_none_iff] at hn
    refine ⟨fun h => by omega, fun h => ?_⟩
    rw [List.all_eq_false] at h
    obtain ⟨x, hx, hy⟩ := h
    have := hn x hx
    simp at this
    exact absurd this hy
set_option maxHeartbeats 1000000 in
theorem indexBad_any (A : Option Addr) (c : Nat) (l : List Pth) (w : World) (ha : Rd ePath w A l) (hl : l.length ≤ 1099511627776) :
    Calls Try.prog 44 #[.slice A l.length c, .func (.func 34) #[] #[]] w fun e w' => e = .returned (.int .i64 (badPath l)) ∧ Below w.heap.size w w' := by
  go_enter Try.func44, Try.ntmps44
  go_wp2
  go_loopw [8] (fun i wr => ∃ k : Nat, k ≤ l.length ∧ i = .int .i64 k ∧ (∀ j (h : j < l.length), j < k → pathOk l[j] = true) ∧ Below w.heap.size w wr) (fun i _ => l.length - (intOf i).toNat)
  case atStart => exact ⟨0, Nat.zero_le _, rfl, fun j _ h => absurd h (by omega), (by repeat (first | with_reducible exact Below.refl _ _ | with_reducible assumption | with_reducible refine below_drewN ?_ _ | with_reducible refine Below.drew ?_ | with_reducible refine Below.alloc ?_ ?_ _ | with_reducible refine Below.setCell ?_ ?_ _ | (with_reducible refine Below.next ?_ (by assumption)) | omega | (focus (simp; omega)) | (focus (simp; done))))⟩
  case round =>
    obtain ⟨k, hk, rfl, ht, hbw⟩ := hrel
    have HT := Lib.hid ht
    clear ht
    by_cases hlt : k < l.length
    · obtain ⟨b, off, rfl, hbl, hc, hc2⟩ := (ha.below hbw).path hlt
      cases hee : pathOk (l[k]'hlt)
      · have HE := Lib.hid hee
        go_wp2_with fail
        refine (pathOk_any (l[k]'hlt) _).mono ?_
        rw [HE.out]
        rintro e w1 ⟨rfl, hb1⟩
        go_wp2
        go_ret
        exact ⟨ret_int (badPath_at hlt HE.out fun j hj => HT.out j (by omega) hj).symm, (by repeat (first | with_reducible exact Below.refl _ _ | with_reducible assumption | with_reducible refine below_drewN ?_ _ | with_reducible refine Below.drew ?_ | with_reducible refine Below.alloc ?_ ?_ _ | with_reducible refine Below.setCell ?_ ?_ _ | (with_reducible refine Below.next ?_ (by assumption)) | omega | (focus (simp; omega)) | (focus (simp; done))))⟩
      · have HE := Lib.hid hee
        go_wp2_with fail
        refine (pathOk_any (l[k]'hlt) _).mono ?_
        rw [HE.out]
        rintro e w1 ⟨rfl, hb1⟩
        go_wp2
        go_roundw
        case rel =>
          refine ⟨k + 1, by omega, by go_num, fun j h hj => ?_, (by repeat (first | with_reducible exact Below.refl _ _ | with_reducible assumption | with_reducible refine below_drewN ?_ _ | with_reducible refine Below.drew ?_ | with_reducible refine Below.alloc ?_ ?_ _ | with_reducible refine Below.setCell ?_ ?_ _ | (with_reducible refine Below.next ?_ (by assumption)) | omega | (focus (simp; omega)) | (focus (simp; done))))⟩
          by_cases hjk : j = k
          · subst hjk; exact HE.out
          · exact HT.out j h (by omega)
        case measure => simp [intOf]; omega
    · go_wp2
      go_ret
      exact ⟨ret_int (badPath_no fun j h => HT.out j h (by omega)).symm, hbw⟩
set_option maxHeartbeats 1000000 in
theorem containsBad_any (A : Option Addr) (c : Nat) (l : List Pth) (w : World) (ha : Rd ePath w A l) (hl : l.length ≤ 1099511627776) :
    Calls Try.prog 33 #[.slice A l.length c, .func (.func 34) #[] #[]] w fun e w' => e = .returned (.bool (!l.all pathOk)) ∧ Below w.heap.size w w' := by
  have hb := @badPath_neg l
  obtain ⟨x, hx⟩ : ∃ x, x = badPath l := ⟨_, rfl⟩
  have HX := Lib.hid hx
  rw [← hx] at hb
  have HB := Lib.hid hb
  clear hx hb
  go_enter Try.func33, Try.ntmps33
  go_wp2_with fail
  refine (indexBad_any A c l _ ha hl).mono ?_
  rw [← HX.out]
  rintro e w1 ⟨rfl, hb1⟩
  go_wp2
  go_ret
  refine ⟨ret_bool ?_, (by repeat (first | with_reducible exact Below.refl _ _ | with_reducible assumption | with_reducible refine below_drewN ?_ _ | with_reducible refine Below.drew ?_ | with_reducible refine Below.alloc ?_ ?_ _ | with_reducible refine Below.setCell ?_ ?_ _ | (with_reducible refine Below.next ?_ (by assumption)) | omega | (focus (simp; omega)) | (focus (simp; done))))⟩
  rw [Bool.eq_iff_iff]
  simp only [decide_eq_true_eq, Bool.not_eq_true']
  exact HB.out
set_option maxHeartbeats 1000000 in
theorem implPaths_any (A : Option Addr) (c : Nat) (l : List Pth) (w : World) (ha : Rd ePath w A l) (hl : l.length ≤ 1099511627776) :
    Calls Try.prog 15 #[.slice A l.length c] w fun e w' => e = .returned (.bool (pathsB l)) ∧ Below w.heap.size w w' := by
  by_cases h : l.length ≤ 6
  · have h6 : decide ((l.length : Int) ≤ 6) = true := by simp; omega
    go_enter Try.func15, Try.ntmps15
    go_wp2_with fail
    refine (containsBad_any A c l _ ha hl).mono ?_
    rintro e w1 ⟨rfl, hb1⟩
    go_wp2
    go_ret
    refine ⟨ret_bool ?_, (by repeat (first | with_reducible exact Below.refl _ _ | with_reducible assumption | with_reducible refine below_drewN ?_ _ | with_reducible refine Below.drew ?_ | with_reducible refine Below.alloc ?_ ?_ _ | with_reducible refine Below.setCell ?_ ?_ _ | (with_reducible refine Below.next ?_ (by assumption)) | omega | (focus (simp; omega)) | (focus (simp; done))))⟩
    simp [pathsB, h]
  · have h6 : decide ((l.length : Int) ≤ 6) = false := by simp; omega
    go_enter Try.func15, Try.ntmps15
    go_wp2
    go_ret
    refine ⟨ret_bool ?_, (by repeat (first | with_reducible exact Below.refl _ _ | with_reducible assumption | with_reducible refine below_drewN ?_ _ | with_reducible refine Below.drew ?_ | with_reducible refine Below.alloc ?_ ?_ _ | with_reducible refine Below.setCell ?_ ?_ _ | (with_reducible refine Below.next ?_ (by assumption)) | omega | (focus (simp; omega)) | (focus (simp; done))))⟩
    simp [pathsB, h]
set_option maxHeartbeats 1000000 in
theorem specPaths_any (A : Option Addr) (c : Nat) (l : List Pth) (w : World) (ha : Rd ePath w A l) (hl : l.length ≤ 1099511627776) :
    Calls Try.prog 13 #[.slice A l.length c] w fun e w' => e = .returned (.bool (pathsB l)) ∧ w = w' := by
  go_enter Try.func13, Try.ntmps13
  go_wp2
  go_loop [3] (fun i => ∃ k : Nat, k ≤ l.length ∧ i = .int .i64 k ∧ (∀ j (h : j < l.length), j < k → pathOk l[j] = true)) (fun i => l.length - (intOf i).toNat)
  case atStart => exact ⟨0, Nat.zero_le _, rfl, fun j _ h => absurd h (by omega)⟩
  case round =>
    obtain ⟨k, hk, rfl, ht⟩ := hrel
    have HT := Lib.hid ht
    clear ht
    by_cases hlt : k < l.length
    · obtain ⟨b, off, rfl, hbl, hc, hc2⟩ := ha.path hlt
      have hno : Hid (pathOk (l[k]'hlt) = false → pathsB l = false) := by
        intro h
        rw [pathsB, Bool.and_eq_false_iff]
        right
        rw [List.all_eq_false]
        exact ⟨_, List.getElem_mem hlt, by simpa using h⟩
      have hyes : Hid (pathOk (l[k]'hlt) = true → ∀ j (h : j < l.length), j < k + 1 → pathOk l[j] = true) := by
        intro hp j h hj
        by_cases hjk : j = k
        · subst hjk; exact hp
        · exact HT.out j h (by omega)
      obtain ⟨p, hp⟩ : ∃ p, p = l[k]'hlt := ⟨_, rfl⟩
      rw [← hp] at hc hc2 hno hyes
      clear hp
      obtain ⟨u, v⟩ := p
      simp only at hc hc2
      cases h1 : inB v 0 1000
      · go_wp2_with (go_at_call 31; refine (l1In_any _ _ _ _).mono ?_; rintro e w' ⟨rfl, rfl⟩)
        go_ret
        exact ⟨ret_bool (hno.out (by simp [pathOk, h1])).symm, rfl⟩
      · cases u
        · cases h2 : (v == 0)
          · go_wp2_with (go_at_call 31; refine (l1In_any _ _ _ _).mono ?_; rintro e w' ⟨rfl, rfl⟩)
            go_ret
            exact ⟨ret_bool (hno.out (by simp [pathOk, h2])).symm, rfl⟩
          · have HY := Lib.hid (hyes.out (by simp [pathOk, h1, h2]))
            go_wp2_with (go_at_call 31; refine (l1In_any _ _ _ _).mono ?_; rintro e w' ⟨rfl, rfl⟩)
            go_round
            case rel => exact ⟨k + 1, by omega, by go_num, HY.out⟩
            case measure => simp [intOf]; omega
        · have HY := Lib.hid (hyes.out (by simp [pathOk, h1]))
          go_wp2_with (go_at_call 31; refine (l1In_any _ _ _ _).mono ?_; rintro e w' ⟨rfl, rfl⟩)
          go_round
          case rel => exact ⟨k + 1, by omega, by go_num, HY.out⟩
          case measure => simp [intOf]; omega
    · have hall : Hid (l.all pathOk = true) := by
        show l.all pathOk = true
        rw [List.all_eq_true]
        intro x hx
        obtain ⟨j, hj, rfl⟩ := List.getElem_of_mem hx
        exact HT.out j hj (by omega)
      go_wp2
      go_ret
      refine ⟨ret_bool ?_, rfl⟩
      simp [pathsB, hall.out]
      try omega
end Go.Proofs.Ytplmfcbikcjccaa
