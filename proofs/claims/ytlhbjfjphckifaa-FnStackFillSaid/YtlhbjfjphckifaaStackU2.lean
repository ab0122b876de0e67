/-
  The reference: a line of a cache becomes the first one. Conditions: lengths at most 2^40.
-/
import Derived.Test.YtlhbjfjphckifaaBase
import Derived.Test.YtlhbjfjphckifaaNum
import Derived.Test.YtlhbjfjphckifaaInts
import Derived.Test.YtlhbjfjphckifaaApp
import Derived.Test.YtlhbjfjphckifaaIntsW
import Derived.Test.YtlhbjfjphckifaaLib
import Derived.Test.YtlhbjfjphckifaaSpares
import Derived.Test.YtlhbjfjphckifaaOwn
import Derived.Test.YtlhbjfjphckifaaPart
import Derived.Test.YtlhbjfjphckifaaLine
import Derived.Test.YtlhbjfjphckifaaStack
import Derived.Test.YtlhbjfjphckifaaStackM
import Derived.Test.YtlhbjfjphckifaaStackC
import Derived.Test.YtlhbjfjphckifaaStackF
import Derived.Test.YtlhbjfjphckifaaStackU
import Derived.IntWalk
namespace Go.Proofs.Ytlhbjfjphckifaa
open Go.RowKit
theorem wpList_append_rown {α : Type} {P : Program} {E : Enc α} {t e : TypeId} {z : Value} {bytes : Nat} {ops : Array Oper} {rest : List Oper} {o : Oper} {a : Act} {w : World} {Q : Exit → Act → World → Prop} (hgd : o.guard = none) (s x : Operand)
    (ho : o.op = .call { callee := .builtin .append, args := #[s, x], argTypes := #[t, t] }) (he : ElemOk P t e E z bytes)
    {A : Option Addr} {c g n : Nat} {l : List α} (hs : a.eval s = .slice A l.length c) (hown : Row E w g e A c l)
    (B : Option Addr) (d : Nat) (m : List α) (hn : m.length = n) (hx : a.eval x = .slice B n d) (hr : Rd E w B m) (h63 : l.length + m.length ≤ maxLen) (hbytes : (l.length + m.length) * bytes ≤ 140737488355328)
    (h : ∀ (A' : Option Addr) (c' g' : Nat) (w' : World) (l' : List α), Hid (l' = l ++ m) → l'.length ≤ l.length + m.length → l.length + m.length ≤ l'.length → Row E w' g' e A' c' l' → w.grownBy w' (some g) → (g' = g ∨ w.heap.size ≤ g') →
      wpList P ops Q rest (a.put o.dst (.slice A' l'.length c')) w') : wpList P ops Q (o :: rest) a w := by
  subst hn
  exact wpList_append_row hgd s x ho he hs hown B d m hx hr h63 hbytes h
set_option maxHeartbeats 8000000 in
theorem specUse_c (y u : Value) (l : List Ln) (m : Int) (d : List Int) (x : Ln) (w : World) (hy : SRd encLineS w y l) (hu : SRd eInt w u d) (hv : CV l m d.length) (hx : 0 ≤ x.at_ ∧ x.at_ < d.length) :
    Calls Try.prog 99 #[.agg #[y, .int .i64 m], u, .agg #[.int .i64 x.at_, .int .i64 x.val, .bool x.drt]] w (MadeCD (cutL (lruL l x) m) m (cutD d (lruL l x) m) w) := by
  obtain ⟨A0, c0, rfl, ra, -⟩ := id hy
  obtain ⟨B0, d0, rfl, rb, -⟩ := id hu
  obtain ⟨M, rfl⟩ := Int.eq_ofNat_of_zero_le (show 0 ≤ m by have := hv.m0; omega)
  have hM8 : M ≤ 8 := by have := hv.m1; omega
  have hM1 : 1 ≤ M := by have := hv.m0; omega
  have hll : l.length ≤ M := by have := hv.len; omega
  have hdl : d.length ≤ 64 := by have := hv.n1; omega
  obtain ⟨xa, xv, xd⟩ := x
  simp only at hx ⊢
  obtain ⟨x0, x1⟩ := hx
  have L0 := Loc.new w [.slice A0 l.length c0, .int .i64 M] 33
  have L5 := Loc.newAt (w.alloc (.cells #[.slice A0 l.length c0, .int .i64 M] 33)) [.int .i64 xa, .int .i64 xv, .bool xd] 95 (b := w.heap.size + 1) (by simp)
  have L6 := Loc.newAt ((w.alloc (.cells #[.slice A0 l.length c0, .int .i64 M] 33)).alloc (.cells #[.int .i64 xa, .int .i64 xv, .bool xd] 95)) [.slice none 0 0, .int .i64 0] 33 (b := w.heap.size + 1 + 1) (by simp)
  have hR2 := line_row (w := ((w.alloc (.cells #[.slice A0 l.length c0, .int .i64 M] 33)).alloc (.cells #[.int .i64 xa, .int .i64 xv, .bool xd] 95)).alloc (.cells #[.slice none 0 0, .int .i64 0] 33)) (b := w.heap.size + 1 + 1 + 1) (x := ⟨xa, xv, xd⟩) (by simp)
  have LX := Loc.newAt ((((w.alloc (.cells #[.slice A0 l.length c0, .int .i64 M] 33)).alloc (.cells #[.int .i64 xa, .int .i64 xv, .bool xd] 95)).alloc (.cells #[.slice none 0 0, .int .i64 0] 33)).alloc (.cells #[.int .i64 xa, .int .i64 xv, .bool xd] tyLineS)) [.slice (some ⟨w.heap.size + 1 + 1 + 1, 0, none⟩) 1 1, .int .i64 M] 33 (b := w.heap.size + 1 + 1 + 1 + 1) (by simp)
  have HR2 := Lib.hid hR2
  have n1 : ([] : List Int).length + d.length ≤ maxLen := by simp [maxLen]; omega
  have b1 : (([] : List Int).length + d.length) * 8 ≤ 140737488355328 := by simp; omega
  clear hR2
  go_enter Try.func99, Try.ntmps99
  go_wp2_with (at_builtin; go_must (refine wpList_append_row rfl _ _ rfl el_int rfl (Row.made0 (by simp)) _ _ d rfl (Rd.alloc (Rd.alloc (Rd.alloc (Rd.alloc (Rd.alloc (Rd.alloc rb _) _) _) _) _) _) n1 b1 ?_; intro A1 c1 g1 w2 D0 hD0 hle1 hle2 row1 hg1 hgg1; have P0 := Loc.carry L0 (fun h => by ((repeat (first | with_reducible exact h | with_reducible refine Loc.drew ?_ | with_reducible refine Loc.drewN ?_ _ | with_reducible refine Loc.alloc ?_ _)); done)) hg1 (by first | omega | (simp; omega) | (simp; done)); have P5 := Loc.carry L5 (fun h => by ((repeat (first | with_reducible exact h | with_reducible refine Loc.drew ?_ | with_reducible refine Loc.drewN ?_ _ | with_reducible refine Loc.alloc ?_ _)); done)) hg1 (by first | omega | (simp; omega) | (simp; done)); have P6 := Loc.carry L6 (fun h => by ((repeat (first | with_reducible exact h | with_reducible refine Loc.drew ?_ | with_reducible refine Loc.drewN ?_ _ | with_reducible refine Loc.alloc ?_ _)); done)) hg1 (by first | omega | (simp; omega) | (simp; done)); have PX := Loc.carry LX (fun h => by ((repeat (first | with_reducible exact h | with_reducible refine Loc.drew ?_ | with_reducible refine Loc.drewN ?_ _ | with_reducible refine Loc.alloc ?_ _)); done)) hg1 (by first | omega | (simp; omega) | (simp; done))))
  have e1 := hD0.out
  simp only [List.nil_append] at e1
  subst e1
  have hz2 := hg1.size
  simp at hz2 hgg1
  have W2 : Hid (Below w.heap.size w w2) := Lib.hid (Below.gin (D := w.heap.size) (a := w) (by repeat (first | with_reducible exact Below.refl _ _ | with_reducible refine below_drewN ?_ _ | with_reducible refine Below.drew ?_ | with_reducible refine Below.alloc ?_ ?_ _ | with_reducible refine Below.setCell ?_ ?_ _ | omega | (focus (simp; omega)) | (focus (simp; done)))) (GIn.of_grown hg1 (Nat.le_refl _) (Nat.lt_succ_self _)) (by first | omega | (simp; omega) | (simp; done)) (by first | omega | (simp; omega) | (simp; done)))
  have hG1 : w.heap.size + 1 + 1 + 1 + 1 + 1 ≤ g1 := by omega
  have RW : Hid (Row encLineS w2 (w.heap.size + 1 + 1 + 1) tyLineS (some ⟨w.heap.size + 1 + 1 + 1, 0, none⟩) 1 [⟨xa, xv, xd⟩]) := Lib.hid (Row.grown (Row.alloc (Row.alloc HR2.out _) _) hg1 (by omega))
  clear hD0 hle1 hle2 hgg1 hg1 L0 L5 L6 LX
  go_loopw [10] (fun i wr => ∃ k : Nat, k ≤ l.length ∧ i = .int .i64 k ∧ Loc wr w.heap.size [.slice A0 l.length c0, .int .i64 M] ∧ Loc wr (w.heap.size + 1) [.int .i64 xa, .int .i64 xv, .bool xd] ∧ Loc wr (w.heap.size + 1 + 1) [.slice none 0 0, .int .i64 0] ∧ Below w.heap.size w wr ∧ ∃ (L : List Ln) (Q : Option Addr) (c2 g2 : Nat), Loc wr (w.heap.size + 1 + 1 + 1 + 1) [.slice Q L.length c2, .int .i64 M] ∧ Hid (L = lruTo l ⟨xa, xv, xd⟩ k) ∧ (1 ≤ L.length ∧ L.length ≤ k + 1) ∧ Row eInt wr g1 3 A1 c1 D0 ∧ Row encLineS wr g2 tyLineS Q c2 L ∧ (g1 ≠ g2 ∧ w.heap.size + 1 + 1 + 1 ≤ g2 ∧ g2 ≠ w.heap.size + 1 + 1 + 1 + 1)) (fun i _ => l.length - (intOf i).toNat)
  case atStart => exact ⟨0, Nat.zero_le _, rfl, P0, P5, P6, W2.out, [⟨xa, xv, xd⟩], _, 1, w.heap.size + 1 + 1 + 1, PX, Lib.hid (lruTo_zero _ _).symm, ⟨Nat.le_refl _, Nat.le_refl _⟩, row1, RW.out, by omega, by omega, by omega⟩
  case round =>
    clear P0 P5 P6 PX W2 RW
    obtain ⟨k, hk, rfl, P0, P5, P6, hbw, L, Q, c2, g2, PX, HL, ⟨hL1, hL2⟩, r1, r2, hne, hG3, hG4⟩ := hrel
    have HBW := Lib.hid hbw
    have hzw := hbw.size
    obtain ⟨k0, k1, kf⟩ := P0.two
    obtain ⟨l0, l1, l2, lf⟩ := P5.three
    obtain ⟨m0, m1, mf⟩ := PX.two
    have zP0 := P0.lt
    have zP5 := P5.lt
    have zP6 := P6.lt
    have zPX := PX.lt
    have hG1' : w.heap.size + 1 + 1 + 1 ≤ g1 := by omega
    obtain ⟨hQ, hg2l, hfz2, -⟩ := r2.rLineS (by omega)
    subst hQ
    have hlc2 := Lib.hid r2.le
    have R1 := Lib.hid r1
    have R2 := Lib.hid r2
    clear hbw r1
    by_cases hlt : k < l.length
    · have hd0 : 0 < D0.length := by omega
      obtain ⟨b, off, rfl, hbl, hc, hc2, hc3⟩ := (ra.below HBW.out).rLineS hlt
      have hbw0 : b < w.heap.size := ra.lt (by omega) rfl
      have hmo := fun h => lruTo_more (x := ⟨xa, xv, xd⟩) hlt h
      have hsa := fun h => lruTo_same (x := ⟨xa, xv, xd⟩) hlt h
      obtain ⟨p, hp⟩ : ∃ p, p = l[k]'hlt := ⟨_, rfl⟩
      rw [← hp] at hc hc2 hc3 hmo hsa
      have HMO := Lib.hid hmo
      have HSA := Lib.hid hsa
      clear hp hmo hsa r2
      obtain ⟨pa, pv, pd⟩ := p
      simp only at hc hc2 hc3 HMO HSA
      have hg1w := R1.out.lt hd0
      cases hee : (pa != xa)
      · have HE : Hid ((pa == xa) = true) := Lib.hid (by simpa using hee)
        go_wp2
        go_quiet (fail)
        go_wp2
        go_roundw
        case rel =>
          exact ⟨k + 1, by omega, by go_num, Loc.drewN P0 _, Loc.drewN P5 _, Loc.drewN P6 _, below_drewN HBW.out _, L, _, c2, g2, Loc.drewN PX _, Lib.hid (by rw [HSA.out HE.out, ← HL.out]), ⟨hL1, by omega⟩, Row.drewN R1.out _, Row.drewN R2.out _, hne, hG3, hG4⟩
        case measure => simp [intOf]; omega
      · have HE : Hid ((pa == xa) = false) := Lib.hid (by simpa using hee)
        have h63 : L.length + [(⟨pa, pv, pd⟩ : Ln)].length ≤ maxLen := by simp [maxLen]; omega
        have hby : (L.length + [(⟨pa, pv, pd⟩ : Ln)].length) * 24 ≤ 140737488355328 := by simp; omega
        go_wp2
        go_quiet (fail)
        obtain ⟨wq, hwq⟩ : ∃ wq, wq = wr.drewN nq := ⟨_, rfl⟩
        rw [← hwq]
        have hcq : wq.cell? ⟨b, off + k * 3, none⟩ = some (.int .i64 pa) := by rw [hwq]; exact hc
        have hcq2 : wq.cell? ⟨b, off + k * 3 + 1, none⟩ = some (.int .i64 pv) := by rw [hwq]; exact hc2
        have hcq3 : wq.cell? ⟨b, off + k * 3 + 2, none⟩ = some (.bool pd) := by rw [hwq]; exact hc3
        have P0q : Loc wq w.heap.size [.slice (some ⟨b, off, none⟩) l.length c0, .int .i64 M] := by rw [hwq]; exact Loc.drewN P0 _
        have P5q : Loc wq (w.heap.size + 1) [.int .i64 xa, .int .i64 xv, .bool xd] := by rw [hwq]; exact Loc.drewN P5 _
        have P6q : Loc wq (w.heap.size + 1 + 1) [.slice none 0 0, .int .i64 0] := by rw [hwq]; exact Loc.drewN P6 _
        have PXq : Loc wq (w.heap.size + 1 + 1 + 1 + 1) [.slice (some ⟨g2, 0, none⟩) L.length c2, .int .i64 M] := by rw [hwq]; exact Loc.drewN PX _
        have R2q : Hid (Row encLineS wq g2 tyLineS (some ⟨g2, 0, none⟩) c2 L) := Lib.hid (by rw [hwq]; exact Row.drewN R2.out _)
        have R1q : Hid (Row eInt wq g1 3 A1 c1 D0) := Lib.hid (by rw [hwq]; exact Row.drewN R1.out _)
        have BWq : Hid (Below w.heap.size w wq) := Lib.hid (by rw [hwq]; exact below_drewN HBW.out _)
        have hsq : wq.heap.size = wr.heap.size := by rw [hwq]; rfl
        have hblq : b < wq.heap.size := by omega
        clear hwq hc hc2 hc3 P0 P5 P6 PX k0 k1 kf l0 l1 l2 lf m0 m1 mf HBW R1 R2
        obtain ⟨k0, k1, kf⟩ := P0q.two
        obtain ⟨m0, m1, mf⟩ := PXq.two
        go_wp2
        go_region_law (refine step_append_row (by rfl) (.tmp 37) (.tmp 43) (by rfl) elLineS (by simp [go_sem]; done) (Row.alloc (Row.drew R2q.out) _) (some ⟨wq.heap.size, 0, none⟩) 1 [(⟨pa, pv, pd⟩ : Ln)] (by simp [go_sem]; done) (by repeat (first | ((with_reducible refine Rd.lit ?_ ?_); (focus (first | with_reducible rfl | omega | (simp; omega) | (simp; done))); (focus (first | rfl | (simp; rfl) | (simp; done)))) | with_reducible refine Rd.drew ?_ | with_reducible refine Rd.drewN ?_ _ | with_reducible refine Rd.alloc ?_ _ | (with_reducible refine Rd.below ?_ (by assumption)))) h63 hby ?_; intro Q3 c3 g3 w3 L3 hL3 hle3 hle4 row3 hg3 hgg3; have S0 := Loc.carry P0q (fun h => by ((repeat (first | with_reducible exact h | with_reducible refine Loc.drew ?_ | with_reducible refine Loc.drewN ?_ _ | with_reducible refine Loc.alloc ?_ _)); done)) hg3 (by first | omega | (simp; omega) | (simp; done)); have S5 := Loc.carry P5q (fun h => by ((repeat (first | with_reducible exact h | with_reducible refine Loc.drew ?_ | with_reducible refine Loc.drewN ?_ _ | with_reducible refine Loc.alloc ?_ _)); done)) hg3 (by first | omega | (simp; omega) | (simp; done)); have S6 := Loc.carry P6q (fun h => by ((repeat (first | with_reducible exact h | with_reducible refine Loc.drew ?_ | with_reducible refine Loc.drewN ?_ _ | with_reducible refine Loc.alloc ?_ _)); done)) hg3 (by first | omega | (simp; omega) | (simp; done)); have SX := Loc.carry PXq (fun h => by ((repeat (first | with_reducible exact h | with_reducible refine Loc.drew ?_ | with_reducible refine Loc.drewN ?_ _ | with_reducible refine Loc.alloc ?_ _)); done)) hg3 (by first | omega | (simp; omega) | (simp; done)); obtain ⟨s0, s1, sf⟩ := SX.two; have zSX := SX.lt)
        all_goals
          have hz3 := hg3.size
          simp at hz3 hgg3
          have e1 : [(⟨pa, pv, pd⟩ : Ln)].length = 1 := rfl
          have Z1 : Hid (Row eInt (w3.setCell ⟨w.heap.size + 1 + 1 + 1 + 1, 0, none⟩ (.slice Q3 L3.length c3)) g1 3 A1 c1 D0) := Lib.hid (Row.other (Row.grown (Row.alloc (Row.drew R1q.out) _) hg3 hne) (by simp only; omega) _)
          have Z2 : Hid (Row encLineS (w3.setCell ⟨w.heap.size + 1 + 1 + 1 + 1, 0, none⟩ (.slice Q3 L3.length c3)) g3 tyLineS Q3 c3 L3) := Lib.hid (Row.other row3 (by simp only; omega) _)
          have Z3 : Hid (Below w.heap.size w (w3.setCell ⟨w.heap.size + 1 + 1 + 1 + 1, 0, none⟩ (.slice Q3 L3.length c3))) := Lib.hid (Below.setCell (Below.grown1 (by repeat (first | with_reducible exact BWq.out | with_reducible exact Below.refl _ _ | with_reducible refine below_drewN ?_ _ | with_reducible refine Below.drew ?_ | with_reducible refine Below.alloc ?_ ?_ _ | with_reducible refine Below.setCell ?_ ?_ _ | (with_reducible refine Below.next ?_ (by assumption)) | ((with_reducible refine Below.far' (by assumption) ?_ ?_ ?_); (focus (first | omega | (simp; omega) | (simp; done))); (focus (first | omega | (simp; omega) | (simp; done)))) | omega | (focus (simp; omega)) | (focus (simp; done)))) hg3 (by simp; omega) (by omega)) (by simp only; omega) _)
          go_wp2
          go_roundw
          case rel =>
            exact ⟨k + 1, by omega, by go_num, Loc.other' (p := ⟨w.heap.size + 1 + 1 + 1 + 1, 0, none⟩) (by simp only; omega) S0 _, Loc.other' (p := ⟨w.heap.size + 1 + 1 + 1 + 1, 0, none⟩) (by simp only; omega) S5 _, Loc.other' (p := ⟨w.heap.size + 1 + 1 + 1 + 1, 0, none⟩) (by simp only; omega) S6 _, Z3.out, L3, Q3, c3, g3, by simpa using SX.set 0 (.slice Q3 L3.length c3), Lib.hid (by rw [hL3.out, HMO.out HE.out, ← HL.out]), ⟨by omega, by omega⟩, Z1.out, Z2.out, by omega, by omega, by omega⟩
          case measure => simp [intOf]; omega
    · have HLE : Hid (L = lruL l ⟨xa, xv, xd⟩) := Lib.hid (by rw [HL.out, lruTo_all _ (by omega)])
      have R3 := Lib.hid r2
      obtain ⟨s0, s1, sf⟩ := P6.two
      clear HL r2
      by_cases hcut : (M : Int) < L.length
      · have hML : M < L.length := by omega
        obtain ⟨-, -, -, hcL⟩ := R3.out.rLineS (by omega)
        obtain ⟨hc, hc2, hc3⟩ := hcL M hML
        have hmem : L[M]'hML ∈ lruL l ⟨xa, xv, xd⟩ := by rw [← HLE.out]; exact List.getElem_mem hML
        have hzr : 0 ≤ (L[M]'hML).at_ ∧ (L[M]'hML).at_ < D0.length := by
          unfold lruL at hmem
          rcases List.mem_cons.1 hmem with h1 | h1
          · rw [h1]; exact ⟨x0, x1⟩
          · have := hv.rng _ (List.mem_filter.1 h1).1; exact ⟨this.1, this.2.1⟩
        have hLt := Lib.hid (show cutL (lruL l ⟨xa, xv, xd⟩) M = L.take M by rw [← HLE.out, cutL_yes hML])
        have hDt := Lib.hid (show cutD D0 (lruL l ⟨xa, xv, xd⟩) M = if (L[M]'hML).drt then D0.set (L[M]'hML).at_.toNat (L[M]'hML).val else D0 by rw [← HLE.out, cutD_yes D0 hML])
        obtain ⟨z, hz⟩ : ∃ z, z = L[M]'hML := ⟨_, rfl⟩
        rw [← hz] at hc hc2 hc3 hzr hDt
        clear hmem hz hcL
        obtain ⟨za, zv, zd⟩ := z
        simp only at hc hc2 hc3 hzr hDt
        obtain ⟨z0, z1⟩ := hzr
        obtain ⟨j, rfl⟩ := Int.eq_ofNat_of_zero_le z0
        have hjd : j < D0.length := by omega
        obtain ⟨hA1, hg1l, hfz1, hcD⟩ := R1.out.int (by omega)
        subst hA1
        have hcj := hcD j hjd
        have hmi0 : (0 : Int) ≤ (M : Int) := by omega
        have hmi1 : (M : Int) ≤ (c2 : Int) := by have := hlc2.out; omega
        have hne1 : g1 ≠ wr.heap.size := by omega
        have hne2 : g2 ≠ wr.heap.size := by omega
        have htk : (L.take M).length = M := by rw [List.length_take]; omega
        have n2 : ([] : List Ln).length + (L.take M).length ≤ maxLen := by rw [htk]; simp [maxLen]; omega
        have b2 : (([] : List Ln).length + (L.take M).length) * 24 ≤ 140737488355328 := by rw [htk]; simp; omega
        clear hcD
        have zq1 : w.heap.size + 1 + 1 + 1 + 1 < wr.heap.size + 1 := by omega
        have zq2 : w.heap.size + 1 + 1 + 1 + 1 ≠ wr.heap.size := by omega
        have zq3 : w.heap.size + 1 + 1 + 1 + 1 ≠ wr.heap.size + 1 := by omega
        have zq4 : w.heap.size + 1 + 1 + 1 + 1 ≠ g1 := by omega
        have zq5 : w.heap.size < wr.heap.size + 1 := by omega
        have zq6 : w.heap.size ≠ wr.heap.size := by omega
        have zq7 : w.heap.size ≠ wr.heap.size + 1 := by omega
        have zq8 : w.heap.size ≠ g1 := by omega
        have zq9 : w.heap.size + 1 + 1 ≠ g1 := by omega
        cases zd
        · have DT : Hid (cutD D0 (lruL l ⟨xa, xv, xd⟩) M = D0) := hDt
          have R2T := Lib.hid (Row.take R3.out M (by omega))
          have DR : Hid (Row eInt (wr.alloc (.cells #[.int .i64 j, .int .i64 zv, .bool false] 95)) g1 3 (some ⟨g1, 0, none⟩) c1 D0) := Lib.hid (Row.alloc R1.out _)
          go_wp2_with (at_builtin; go_must (refine wpList_append_rown rfl _ _ rfl elLineS rfl (Row.made0 (by simp)) _ _ (L.take M) htk rfl (Rd.alloc (Rd.alloc R2T.out.rd _) _) n2 b2 ?_; intro Q3 c3 g3 w3 L3 hL3 hle3 hle4 row3 hg3 hgg3; have S0 := Loc.carry P0 (fun h => by ((repeat (first | with_reducible exact h | with_reducible refine Loc.drew ?_ | with_reducible refine Loc.drewN ?_ _ | with_reducible refine Loc.alloc ?_ _)); done)) hg3 (by first | omega | (simp; omega) | (simp; done)); have S5 := Loc.carry P5 (fun h => by ((repeat (first | with_reducible exact h | with_reducible refine Loc.drew ?_ | with_reducible refine Loc.drewN ?_ _ | with_reducible refine Loc.alloc ?_ _)); done)) hg3 (by first | omega | (simp; omega) | (simp; done)); have S6 := Loc.carry P6 (fun h => by ((repeat (first | with_reducible exact h | with_reducible refine Loc.drew ?_ | with_reducible refine Loc.drewN ?_ _ | with_reducible refine Loc.alloc ?_ _)); done)) hg3 (by first | omega | (simp; omega) | (simp; done)); have SX := Loc.carry PX (fun h => by ((repeat (first | with_reducible exact h | with_reducible refine Loc.drew ?_ | with_reducible refine Loc.drewN ?_ _ | with_reducible refine Loc.alloc ?_ _)); done)) hg3 (by first | omega | (simp; omega) | (simp; done)); obtain ⟨s0, s1, sf⟩ := SX.two; have zSX := SX.lt; obtain ⟨t0', t1', tf'⟩ := S6.two; have zS6 := S6.lt))
          have e3 := hL3.out
          simp only [List.nil_append] at e3
          have hz3 := hg3.size
          simp at hz3 hgg3
          have Z1 := Lib.hid (Row.other (Row.grown (Row.alloc DR.out _) hg3 (by omega)) (by simp only; omega) (p := ⟨w.heap.size + 1 + 1 + 1 + 1, 0, none⟩) (.slice Q3 L3.length c3))
          have Z2 := Lib.hid (Row.other row3 (by simp only; omega) (p := ⟨w.heap.size + 1 + 1 + 1 + 1, 0, none⟩) (.slice Q3 L3.length c3))
          have Z3 : Hid (Below w.heap.size w (w3.setCell ⟨w.heap.size + 1 + 1 + 1 + 1, 0, none⟩ (.slice Q3 L3.length c3))) := Lib.hid (Below.setCell (Below.grown1 (by repeat (first | with_reducible exact HBW.out | with_reducible exact Below.refl _ _ | with_reducible refine below_drewN ?_ _ | with_reducible refine Below.drew ?_ | with_reducible refine Below.alloc ?_ ?_ _ | with_reducible refine Below.setCell ?_ ?_ _ | (with_reducible refine Below.next ?_ (by assumption)) | ((with_reducible refine Below.far' (by assumption) ?_ ?_ ?_); (focus (first | omega | (simp; omega) | (simp; done))); (focus (first | omega | (simp; omega) | (simp; done)))) | omega | (focus (simp; omega)) | (focus (simp; done)))) hg3 (by simp; omega) (by omega)) (by simp only; omega) _)
          have hg3G : w.heap.size + 1 + 1 + 1 ≤ g3 := by omega
          have hg13 : g3 ≠ g1 := by omega
          refine bodyPost_ret (v := .tuple #[.agg #[.slice Q3 L3.length c3, .int .i64 M], .slice (some ⟨g1, 0, none⟩) D0.length c1]) (by simp [results, Try.results99, go_sem, t0', t1']; done) rfl ⟨_, _, rfl, ?_, ?_, ?_, (by repeat (first | with_reducible exact Z3.out | with_reducible exact Below.refl _ _ | with_reducible refine below_drewN ?_ _ | with_reducible refine Below.drew ?_ | with_reducible refine Below.alloc ?_ ?_ _ | with_reducible refine Below.setCell ?_ ?_ _ | (with_reducible refine Below.next ?_ (by assumption)) | ((with_reducible refine Below.far' (by assumption) ?_ ?_ ?_); (focus (first | omega | (simp; omega) | (simp; done))); (focus (first | omega | (simp; omega) | (simp; done)))) | omega | (focus (simp; omega)) | (focus (simp; done))))⟩
          · rw [hLt.out, ← e3]
            exact SOwn.mono (SOwn.of_fresh (D := w.heap.size + 1 + 1 + 1) (by repeat (first | with_reducible exact Z2.out | with_reducible refine Row.drew ?_ | with_reducible refine Row.drewN ?_ _ | with_reducible refine Row.alloc ?_ _ | (with_reducible refine Row.below ?_ (by assumption)) | ((with_reducible refine Row.other ?_ ?_ _); rotate_left; (focus (first | omega | (simp; omega) | (simp; done)))) | ((with_reducible refine Row.far' (by assumption) ?_ ?_); (focus (first | omega | (simp; omega) | (simp; done)))))) hg3G) (by omega) (by first | omega | (focus (simp; omega)) | (focus (simp; done)))
          · rw [DT.out]
            exact SOwn.mono (sown_n rfl (SOwn.of_fresh (D := w.heap.size + 1 + 1 + 1) (by repeat (first | with_reducible exact Z1.out | with_reducible refine Row.drew ?_ | with_reducible refine Row.drewN ?_ _ | with_reducible refine Row.alloc ?_ _ | (with_reducible refine Row.below ?_ (by assumption)) | ((with_reducible refine Row.other ?_ ?_ _); rotate_left; (focus (first | omega | (simp; omega) | (simp; done)))) | ((with_reducible refine Row.far' (by assumption) ?_ ?_); (focus (first | omega | (simp; omega) | (simp; done)))))) hG1')) (by omega) (by first | omega | (focus (simp; omega)) | (focus (simp; done)))
          · intro a n c a' n' c' h1 h2
            cases h1
            cases h2
            rw [Z2.out.addr]
            exact hg13
        · have DT : Hid (cutD D0 (lruL l ⟨xa, xv, xd⟩) M = D0.set j zv) := Lib.hid (by rw [hDt.out]; simp)
          have R2T := Lib.hid (Row.take R3.out M (by omega))
          have hDl : Hid ((D0.set j zv).length = D0.length) := Lib.hid List.length_set
          have DR : Hid (Row eInt ((wr.setCell ⟨g1, j, none⟩ (.int .i64 zv)).alloc (.cells #[.int .i64 j, .int .i64 zv, .bool true] 95)) g1 3 (some ⟨g1, 0, none⟩) c1 (D0.set j zv)) := Lib.hid (Row.alloc (R1.out.setInt hjd zv) _)
          go_wp2_with (at_builtin; go_must (refine wpList_append_rown rfl _ _ rfl elLineS rfl (Row.made0 (by simp)) _ _ (L.take M) htk rfl (Rd.alloc (Rd.alloc (Row.rd (Row.other R2T.out (by simp only; omega) _)) _) _) n2 b2 ?_; intro Q3 c3 g3 w3 L3 hL3 hle3 hle4 row3 hg3 hgg3; have S0 := Loc.carry P0 (fun h => (by repeat (first | with_reducible exact h | with_reducible refine Loc.drew ?_ | with_reducible refine Loc.drewN ?_ _ | with_reducible refine Loc.alloc ?_ _ | (with_reducible refine Loc.below ?_ (by assumption)) | ((with_reducible refine Loc.other' ?_ ?_ _); (focus (first | omega | (simp; omega) | (simp; done)))) | ((with_reducible refine Loc.far' (by assumption) ?_ ?_); (focus (first | omega | (simp; omega) | (simp; done))))))) hg3 (by first | omega | (simp; omega) | (simp; done)); have S5 := Loc.carry P5 (fun h => (by repeat (first | with_reducible exact h | with_reducible refine Loc.drew ?_ | with_reducible refine Loc.drewN ?_ _ | with_reducible refine Loc.alloc ?_ _ | (with_reducible refine Loc.below ?_ (by assumption)) | ((with_reducible refine Loc.other' ?_ ?_ _); (focus (first | omega | (simp; omega) | (simp; done)))) | ((with_reducible refine Loc.far' (by assumption) ?_ ?_); (focus (first | omega | (simp; omega) | (simp; done))))))) hg3 (by first | omega | (simp; omega) | (simp; done)); have S6 := Loc.carry P6 (fun h => (by repeat (first | with_reducible exact h | with_reducible refine Loc.drew ?_ | with_reducible refine Loc.drewN ?_ _ | with_reducible refine Loc.alloc ?_ _ | (with_reducible refine Loc.below ?_ (by assumption)) | ((with_reducible refine Loc.other' ?_ ?_ _); (focus (first | omega | (simp; omega) | (simp; done)))) | ((with_reducible refine Loc.far' (by assumption) ?_ ?_); (focus (first | omega | (simp; omega) | (simp; done))))))) hg3 (by first | omega | (simp; omega) | (simp; done)); have SX := Loc.carry PX (fun h => (by repeat (first | with_reducible exact h | with_reducible refine Loc.drew ?_ | with_reducible refine Loc.drewN ?_ _ | with_reducible refine Loc.alloc ?_ _ | (with_reducible refine Loc.below ?_ (by assumption)) | ((with_reducible refine Loc.other' ?_ ?_ _); (focus (first | omega | (simp; omega) | (simp; done)))) | ((with_reducible refine Loc.far' (by assumption) ?_ ?_); (focus (first | omega | (simp; omega) | (simp; done))))))) hg3 (by first | omega | (simp; omega) | (simp; done)); obtain ⟨s0, s1, sf⟩ := SX.two; have zSX := SX.lt; obtain ⟨t0', t1', tf'⟩ := S6.two; have zS6 := S6.lt))
          have e3 := hL3.out
          simp only [List.nil_append] at e3
          have hz3 := hg3.size
          simp at hz3 hgg3
          have Z1 := Lib.hid (Row.other (Row.grown (Row.alloc DR.out _) hg3 (by omega)) (by simp only; omega) (p := ⟨w.heap.size + 1 + 1 + 1 + 1, 0, none⟩) (.slice Q3 L3.length c3))
          have Z2 := Lib.hid (Row.other row3 (by simp only; omega) (p := ⟨w.heap.size + 1 + 1 + 1 + 1, 0, none⟩) (.slice Q3 L3.length c3))
          have Z3 : Hid (Below w.heap.size w (w3.setCell ⟨w.heap.size + 1 + 1 + 1 + 1, 0, none⟩ (.slice Q3 L3.length c3))) := Lib.hid (Below.setCell (Below.grown1 (by repeat (first | with_reducible exact HBW.out | with_reducible exact Below.refl _ _ | with_reducible refine below_drewN ?_ _ | with_reducible refine Below.drew ?_ | with_reducible refine Below.alloc ?_ ?_ _ | with_reducible refine Below.setCell ?_ ?_ _ | (with_reducible refine Below.next ?_ (by assumption)) | ((with_reducible refine Below.far' (by assumption) ?_ ?_ ?_); (focus (first | omega | (simp; omega) | (simp; done))); (focus (first | omega | (simp; omega) | (simp; done)))) | omega | (focus (simp; omega)) | (focus (simp; done)))) hg3 (by simp; omega) (by omega)) (by simp only; omega) _)
          have hg3G : w.heap.size + 1 + 1 + 1 ≤ g3 := by omega
          have hg13 : g3 ≠ g1 := by omega
          refine bodyPost_ret (v := .tuple #[.agg #[.slice Q3 L3.length c3, .int .i64 M], .slice (some ⟨g1, 0, none⟩) D0.length c1]) (by simp [results, Try.results99, go_sem, t0', t1']; done) rfl ⟨_, _, rfl, ?_, ?_, ?_, (by repeat (first | with_reducible exact Z3.out | with_reducible exact Below.refl _ _ | with_reducible refine below_drewN ?_ _ | with_reducible refine Below.drew ?_ | with_reducible refine Below.alloc ?_ ?_ _ | with_reducible refine Below.setCell ?_ ?_ _ | (with_reducible refine Below.next ?_ (by assumption)) | ((with_reducible refine Below.far' (by assumption) ?_ ?_ ?_); (focus (first | omega | (simp; omega) | (simp; done))); (focus (first | omega | (simp; omega) | (simp; done)))) | omega | (focus (simp; omega)) | (focus (simp; done))))⟩
          · rw [hLt.out, ← e3]
            exact SOwn.mono (SOwn.of_fresh (D := w.heap.size + 1 + 1 + 1) (by repeat (first | with_reducible exact Z2.out | with_reducible refine Row.drew ?_ | with_reducible refine Row.drewN ?_ _ | with_reducible refine Row.alloc ?_ _ | (with_reducible refine Row.below ?_ (by assumption)) | ((with_reducible refine Row.other ?_ ?_ _); rotate_left; (focus (first | omega | (simp; omega) | (simp; done)))) | ((with_reducible refine Row.far' (by assumption) ?_ ?_); (focus (first | omega | (simp; omega) | (simp; done)))))) hg3G) (by omega) (by first | omega | (focus (simp; omega)) | (focus (simp; done)))
          · rw [DT.out]
            exact SOwn.mono (sown_n hDl.out (SOwn.of_fresh (D := w.heap.size + 1 + 1 + 1) (by repeat (first | with_reducible exact Z1.out | with_reducible refine Row.drew ?_ | with_reducible refine Row.drewN ?_ _ | with_reducible refine Row.alloc ?_ _ | (with_reducible refine Row.below ?_ (by assumption)) | ((with_reducible refine Row.other ?_ ?_ _); rotate_left; (focus (first | omega | (simp; omega) | (simp; done)))) | ((with_reducible refine Row.far' (by assumption) ?_ ?_); (focus (first | omega | (simp; omega) | (simp; done)))))) hG1')) (by omega) (by first | omega | (focus (simp; omega)) | (focus (simp; done)))
          · intro a n c a' n' c' h1 h2
            cases h1
            cases h2
            rw [Z2.out.addr]
            exact hg13
      · have hLt := Lib.hid (show cutL (lruL l ⟨xa, xv, xd⟩) M = L by rw [← HLE.out, cutL_no hcut])
        have hDt := Lib.hid (show cutD D0 (lruL l ⟨xa, xv, xd⟩) M = D0 by rw [← HLE.out, cutD_no D0 hcut])
        go_wp2
        refine bodyPost_ret (v := .tuple #[.agg #[.slice (some ⟨g2, 0, none⟩) L.length c2, .int .i64 M], .slice A1 D0.length c1]) (by simp [results, Try.results99, go_sem, s0, s1]; done) rfl ⟨_, _, rfl, ?_, ?_, ?_, (by repeat (first | with_reducible exact HBW.out | with_reducible exact Below.refl _ _ | with_reducible refine below_drewN ?_ _ | with_reducible refine Below.drew ?_ | with_reducible refine Below.alloc ?_ ?_ _ | with_reducible refine Below.setCell ?_ ?_ _ | (with_reducible refine Below.next ?_ (by assumption)) | ((with_reducible refine Below.far' (by assumption) ?_ ?_ ?_); (focus (first | omega | (simp; omega) | (simp; done))); (focus (first | omega | (simp; omega) | (simp; done)))) | omega | (focus (simp; omega)) | (focus (simp; done))))⟩
        · rw [hLt.out]
          exact SOwn.mono (SOwn.of_fresh (D := w.heap.size + 1 + 1 + 1) (by repeat (first | with_reducible exact R3.out | with_reducible refine Row.drew ?_ | with_reducible refine Row.drewN ?_ _ | with_reducible refine Row.alloc ?_ _ | (with_reducible refine Row.below ?_ (by assumption)) | ((with_reducible refine Row.other ?_ ?_ _); rotate_left; (focus (first | omega | (simp; omega) | (simp; done)))) | ((with_reducible refine Row.far' (by assumption) ?_ ?_); (focus (first | omega | (simp; omega) | (simp; done)))))) hG3) (by omega) (by first | omega | (focus (simp; omega)) | (focus (simp; done)))
        · rw [hDt.out]
          exact SOwn.mono (SOwn.of_fresh (D := w.heap.size + 1 + 1 + 1) (by repeat (first | with_reducible exact R1.out | with_reducible refine Row.drew ?_ | with_reducible refine Row.drewN ?_ _ | with_reducible refine Row.alloc ?_ _ | (with_reducible refine Row.below ?_ (by assumption)) | ((with_reducible refine Row.other ?_ ?_ _); rotate_left; (focus (first | omega | (simp; omega) | (simp; done)))) | ((with_reducible refine Row.far' (by assumption) ?_ ?_); (focus (first | omega | (simp; omega) | (simp; done)))))) hG1') (by omega) (by first | omega | (focus (simp; omega)) | (focus (simp; done)))
        · intro a n c a' n' c' h1 h2
          cases h1
          cases h2
          rw [R1.out.addr]
          exact fun h => hne h.symm
end Go.Proofs.Ytlhbjfjphckifaa
