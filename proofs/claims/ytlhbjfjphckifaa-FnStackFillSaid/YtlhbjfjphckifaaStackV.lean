/-
  Viewing a partition of a stack. Conditions: lengths at most 2^40.
-/
import Derived.Test.YtlhbjfjphckifaaBase
import Derived.Test.YtlhbjfjphckifaaNum
import Derived.Test.YtlhbjfjphckifaaInts
import Derived.Test.YtlhbjfjphckifaaApp
import Derived.Test.YtlhbjfjphckifaaIntsW
import Derived.Test.YtlhbjfjphckifaaLib
import Derived.Test.YtlhbjfjphckifaaSpares
import Derived.Test.YtlhbjfjphckifaaOwn
import Derived.Test.YtlhbjfjphckifaaPart
import Derived.Test.YtlhbjfjphckifaaLine
import Derived.Test.YtlhbjfjphckifaaStack
import Derived.Test.YtlhbjfjphckifaaStackM
import Derived.Test.YtlhbjfjphckifaaStackC
import Derived.Test.YtlhbjfjphckifaaStackF
import Derived.Test.YtlhbjfjphckifaaStackS
import Derived.Test.YtlhbjfjphckifaaStackU
import Derived.Test.YtlhbjfjphckifaaStackU2
import Derived.Test.YtlhbjfjphckifaaStackR
import Derived.Test.YtlhbjfjphckifaaStackD
import Derived.Test.YtlhbjfjphckifaaStackW
import Derived.Test.YtlhbjfjphckifaaWriteS
import Derived.Test.YtlhbjfjphckifaaCopyB
import Derived.IntWalk
namespace Go.Proofs.Ytlhbjfjphckifaa
open Go.RowKit
theorem cutRd {w : World} {l : List Int} {b : Nat} (h : Rd eInt w (some ⟨b, 0, none⟩) l) (f c : Nat) (hfc : f + c ≤ l.length) : Rd eInt w (some ⟨b, f, none⟩) ((l.drop f).take c) := by
  intro h0
  have hc0 : ((l.drop f).take c).length = c := by simp; omega
  obtain ⟨b', off, he, hc⟩ := h (by omega)
  cases he
  refine ⟨b, f, rfl, fun k hk j hj => ?_⟩
  have hj0 : j = 0 := by simp [eInt] at hj; exact hj
  subst hj0
  have := hc (f + k) (by omega) 0 (by simp [eInt])
  simpa [eInt] using this
theorem cloneInts_n (A : Option Addr) (c n : Nat) (l : List Int) (w : World) (hn : l.length = n) (ha : Rd eInt w A l) (hl : n ≤ 1099511627776) (hs : A = none → c = 0) : Calls Try.prog 82 #[.slice A n c] w (MadeS eInt 3 l w) := by
  subst hn
  exact (cloneInts_any A c l w ha hl hs).mono MadeS.of_fresh
theorem partV_no1 {t : Stk} (p : Int) (h : stackB t = false) : partV t p = [] := by simp [partV, h]
theorem partV_no2 {t : Stk} {p : Int} (h : inB p 0 (t.prt.length - 1) = false) : partV t p = [] := by simp [partV, h]
theorem partV_yes {t : Stk} {k : Nat} (h : stackB t = true) (hk : k < t.prt.length) : partV t k = ((seeD t.dsk t.lns).drop t.prt[k].fst.toNat).take t.prt[k].cnt.toNat := by
  have : inB (k : Int) 0 (t.prt.length - 1) = true := inB_true.2 (by omega)
  simp [partV, h, this, hk]
set_option maxHeartbeats 4000000 in
theorem implPV_c (x0 x1 x2 x3 : Value) (t : Stk) (p : Int) (w : World) (h : StackRd w [x0, x1, x2, x3] t) (hs : sizeStack t ≤ 1099511627776) :
    Calls Try.prog 37 #[.agg #[x0, x1, x2, x3], .int .i64 p] w (MadeS eInt 3 (partV t p) w) := by
  obtain ⟨A0, c0, A1, c1, A2, c2, e0, e1, e2, e3⟩ := id h.mst
  subst e0 e1 e2 e3
  have HR := Lib.hid h
  have L0 := Loc.new w [.slice A0 t.dsk.length c0, .slice A1 t.prt.length c1, .slice A2 t.lns.length c2, .int .i64 t.mst] 35
  cases hv : stackB t
  · have HV := Lib.hid hv
    have HN := Lib.hid (partV_no1 p hv)
    clear hv
    go_enter Try.func37, Try.ntmps37
    go_wp2_with fail
    refine (implStack_c _ _ _ _ t _ (StackRd.below HR.out (by repeat (first | with_reducible exact Below.refl _ _ | with_reducible refine below_drewN ?_ _ | with_reducible refine Below.drew ?_ | with_reducible refine Below.alloc ?_ ?_ _ | with_reducible refine Below.setCell ?_ ?_ _ | omega | (focus (simp; omega)) | (focus (simp; done))))) hs).mono ?_
    rw [HV.out]
    rintro e w1 ⟨rfl, hb1⟩
    have Wz : Hid (Below w.heap.size w w1) := Lib.hid (Below.next (W := w) (by repeat (first | with_reducible exact Below.refl _ _ | with_reducible refine below_drewN ?_ _ | with_reducible refine Below.drew ?_ | with_reducible refine Below.alloc ?_ ?_ _ | with_reducible refine Below.setCell ?_ ?_ _ | omega | (focus (simp; omega)) | (focus (simp; done)))) hb1)
    have hzz : w.heap.size ≤ w1.heap.size := Wz.out.size
    go_wp2
    go_ret
    refine ⟨.slice none 0 0, rfl, ?_, (by repeat (first | with_reducible exact Wz.out | with_reducible exact Below.refl _ _ | with_reducible refine below_drewN ?_ _ | with_reducible refine Below.drew ?_ | with_reducible refine Below.alloc ?_ ?_ _ | with_reducible refine Below.setCell ?_ ?_ _ | (with_reducible refine Below.next ?_ (by assumption)) | ((with_reducible refine Below.far' (by assumption) ?_ ?_ ?_); (focus (first | omega | (simp; omega) | (simp; done))); (focus (first | omega | (simp; omega) | (simp; done)))) | omega | (focus (simp; omega)) | (focus (simp; done))))⟩
    rw [HN.out]; exact SOwn.nil0 _ _ _
  have HV := Lib.hid hv
  obtain ⟨hdb, hpb, hcb⟩ := stack_true.1 hv
  have HDB := Lib.hid hdb
  have HCB := Lib.hid hcb
  have hs' := hs
  unfold sizeStack at hs'
  have hd64 := (diskB_true.1 hdb).1
  obtain ⟨hp8, -, hpg⟩ := parts_true.1 hpb
  have hw0 := IntWalk.i64_in ((t.prt.length : Int) - 1) (by omega)
  clear hdb hpb hcb
  cases hq : inB p 0 ((t.prt.length : Int) - 1)
  · have HQ := Lib.hid hq
    have HN := Lib.hid (partV_no2 hq)
    clear hv hq
    go_enter Try.func37, Try.ntmps37
    go_wp2_with fail
    refine (implStack_c _ _ _ _ t _ (StackRd.below HR.out (by repeat (first | with_reducible exact Below.refl _ _ | with_reducible refine below_drewN ?_ _ | with_reducible refine Below.drew ?_ | with_reducible refine Below.alloc ?_ ?_ _ | with_reducible refine Below.setCell ?_ ?_ _ | omega | (focus (simp; omega)) | (focus (simp; done))))) hs).mono ?_
    rw [HV.out]
    rintro e w1 ⟨rfl, hb1⟩
    have M0 := Loc.carryB L0 (fun h => by ((repeat (first | with_reducible exact h | with_reducible refine Loc.drew ?_ | with_reducible refine Loc.drewN ?_ _ | with_reducible refine Loc.alloc ?_ _)); done)) hb1
    obtain ⟨k0, k1, k2, k3, kf⟩ := M0.four
    have Wz : Hid (Below w.heap.size w w1) := Lib.hid (Below.next (W := w) (by repeat (first | with_reducible exact Below.refl _ _ | with_reducible refine below_drewN ?_ _ | with_reducible refine Below.drew ?_ | with_reducible refine Below.alloc ?_ ?_ _ | with_reducible refine Below.setCell ?_ ?_ _ | omega | (focus (simp; omega)) | (focus (simp; done)))) hb1)
    have hzz : w.heap.size ≤ w1.heap.size := Wz.out.size
    go_wp2_with (go_at_call 69; refine (within_any _ _ _ _).mono ?_; rw [HQ.out]; rintro e w' ⟨rfl, rfl⟩)
    go_ret
    refine ⟨.slice none 0 0, rfl, ?_, (by repeat (first | with_reducible exact Wz.out | with_reducible exact Below.refl _ _ | with_reducible refine below_drewN ?_ _ | with_reducible refine Below.drew ?_ | with_reducible refine Below.alloc ?_ ?_ _ | with_reducible refine Below.setCell ?_ ?_ _ | (with_reducible refine Below.next ?_ (by assumption)) | ((with_reducible refine Below.far' (by assumption) ?_ ?_ ?_); (focus (first | omega | (simp; omega) | (simp; done))); (focus (first | omega | (simp; omega) | (simp; done)))) | omega | (focus (simp; omega)) | (focus (simp; done))))⟩
    rw [HN.out]; exact SOwn.nil0 _ _ _
  obtain ⟨q0, q1⟩ := inB_true.1 hq
  obtain ⟨k, rfl⟩ := Int.eq_ofNat_of_zero_le q0
  have hk : k < t.prt.length := by omega
  have HQ := Lib.hid hq
  have hn := partV_yes hv hk
  have hg := partsGo_get (Int.le_refl 0) hpg k hk
  obtain ⟨y, hy⟩ : ∃ y, y = t.prt[k]'hk := ⟨_, rfl⟩
  rw [← hy] at hn hg
  have HYP := Lib.hid hy
  obtain ⟨yf, yc⟩ := y
  simp only at hn hg
  obtain ⟨g1, -, g2, g3⟩ := hg
  obtain ⟨f, rfl⟩ := Int.eq_ofNat_of_zero_le g1
  obtain ⟨c, rfl⟩ := Int.eq_ofNat_of_zero_le (show 0 ≤ yc by omega)
  simp only [Int.toNat_natCast] at hn
  obtain ⟨D, hD⟩ : ∃ D, D = seeD t.dsk t.lns := ⟨_, rfl⟩
  rw [← hD] at hn
  have HN := Lib.hid hn
  have hDl : D.length = t.dsk.length := by rw [hD, seeD_len]
  have HD := Lib.hid hD
  have hDl2 := Lib.hid hDl
  have hDle : D.length ≤ 64 := by omega
  have hfD : f + c ≤ D.length := by omega
  have hw1 := IntWalk.i64_in ((f : Int) + (c : Int)) (by omega)
  have hwc := IntWalk.i64_in ((f + c : Nat) : Int) (by omega)
  clear hv hq hn hy hpg hD hDl
  go_enter Try.func37, Try.ntmps37
  go_wp2_with fail
  refine (implStack_c _ _ _ _ t _ (StackRd.below HR.out (by repeat (first | with_reducible exact Below.refl _ _ | with_reducible refine below_drewN ?_ _ | with_reducible refine Below.drew ?_ | with_reducible refine Below.alloc ?_ ?_ _ | with_reducible refine Below.setCell ?_ ?_ _ | omega | (focus (simp; omega)) | (focus (simp; done))))) hs).mono ?_
  rw [HV.out]
  rintro e w1 ⟨rfl, hb1⟩
  have M0 := Loc.carryB L0 (fun h => by ((repeat (first | with_reducible exact h | with_reducible refine Loc.drew ?_ | with_reducible refine Loc.drewN ?_ _ | with_reducible refine Loc.alloc ?_ _)); done)) hb1
  obtain ⟨k0, k1, k2, k3, kf⟩ := M0.four
  have W1 : Hid (Below w.heap.size w w1) := Lib.hid (Below.next (W := w) (by repeat (first | with_reducible exact Below.refl _ _ | with_reducible refine below_drewN ?_ _ | with_reducible refine Below.drew ?_ | with_reducible refine Below.alloc ?_ ?_ _ | with_reducible refine Below.setCell ?_ ?_ _ | omega | (focus (simp; omega)) | (focus (simp; done)))) hb1)
  have HR1 := Lib.hid (StackRd.below HR.out W1.out)
  have zM0 := M0.lt
  have hz1 := hb1.size
  (try simp at hz1)
  clear hb1
  have hcell : ∃ b off, A1 = some ⟨b, off, none⟩ ∧ b < w.heap.size ∧ b < w1.heap.size ∧ w1.cell? ⟨b, off + k * 2, none⟩ = some (.int .i64 f) ∧ w1.cell? ⟨b, off + k * 2 + 1, none⟩ = some (.int .i64 c) := by
    obtain ⟨A', c', he, hr, _⟩ := HR.out.parts.2.1
    injection he with q1 q2 q3
    subst q1
    obtain ⟨b, off, rfl, hbl, h1, h2⟩ := (hr.below W1.out).rPartS hk
    rw [← HYP.out] at h1 h2
    have := W1.out.size
    exact ⟨b, off, rfl, hr.lt (by omega) rfl, hbl, h1, h2⟩
  obtain ⟨b, off, rfl, hbw, hbw1, hc1, hc2⟩ := hcell
  go_wp2_with (go_at_call 69; refine (within_any _ _ _ _).mono ?_; rw [HQ.out]; rintro e w' ⟨rfl, rfl⟩)
  have L5 := Loc.newAt w1 [.int .i64 f, .int .i64 c] 55 (b := w1.heap.size) rfl
  obtain ⟨l0, l1, lf⟩ := L5.two
  have HFC : Hid (((f : Int) + (c : Int)).toNat - f = c) := Lib.hid (by omega)
  have HTL : Hid (((D.drop f).take c).length = c) := Lib.hid (by simp; omega)
  have hh1 : 0 ≤ (f : Int) := by omega
  have hh2 : (f : Int) ≤ (f : Int) + c := by omega
  go_region_held3 (fun w' => w'.cell? ⟨w.heap.size, 0, none⟩ = some (.slice A0 t.dsk.length c0) ∧ w'.cell? ⟨w.heap.size, 2, none⟩ = some (.slice A2 t.lns.length c2) ∧ w'.cell? ⟨w.heap.size, 3, none⟩ = some (.int .i64 t.mst) ∧ w'.cell? ⟨w1.heap.size, 0, none⟩ = some (.int .i64 f) ∧ w'.cell? ⟨w1.heap.size, 1, none⟩ = some (.int .i64 c)) (first | (refine ⟨?_, ?_, ?_, ?_, ?_⟩ <;> with_reducible assumption) | go_keep | (refine ⟨?_, ?_, ?_, ?_, ?_⟩ <;> (simp [go_sem, *]; done))) (first
    | (go_at_call 84; go_must ((with_reducible refine (implCView_c _ _ t.lns t.mst t.dsk _ (SRd.below HR1.out.parts.2.2 (by repeat (first | with_reducible exact Below.refl _ _ | with_reducible refine below_drewN ?_ _ | with_reducible refine Below.drew ?_ | with_reducible refine Below.alloc ?_ ?_ _ | with_reducible refine Below.setCell ?_ ?_ _ | omega | (focus (simp; omega)) | (focus (simp; done))))) (SRd.below HR1.out.parts.1 (by repeat (first | with_reducible exact Below.refl _ _ | with_reducible refine below_drewN ?_ _ | with_reducible refine Below.drew ?_ | with_reducible refine Below.alloc ?_ ?_ _ | with_reducible refine Below.setCell ?_ ?_ _ | omega | (focus (simp; omega)) | (focus (simp; done))))) HDB.out HCB.out).mono ?_); rw [← HD.out]; rintro e w3 ⟨u3, rfl, o3, hb3⟩; obtain ⟨A3, c3, g3, rfl, row3, hg3⟩ := id o3; have N0 := Loc.carryB M0 (fun h => by ((repeat (first | with_reducible exact h | with_reducible refine Loc.drew ?_ | with_reducible refine Loc.drewN ?_ _ | with_reducible refine Loc.alloc ?_ _)); done)) hb3; have N5 := Loc.carryB L5 (fun h => by ((repeat (first | with_reducible exact h | with_reducible refine Loc.drew ?_ | with_reducible refine Loc.drewN ?_ _ | with_reducible refine Loc.alloc ?_ _)); done)) hb3; obtain ⟨n0, n1, n2, n3, nf⟩ := N0.four; obtain ⟨m0, m1, mf⟩ := N5.two; have W3 : Hid (Below w.heap.size w w3) := Lib.hid (Below.next (W := w) (by repeat (first | with_reducible exact W1.out | with_reducible exact Below.refl _ _ | with_reducible refine below_drewN ?_ _ | with_reducible refine Below.drew ?_ | with_reducible refine Below.alloc ?_ ?_ _ | with_reducible refine Below.setCell ?_ ?_ _ | (with_reducible refine Below.next ?_ (by assumption)) | ((with_reducible refine Below.far' (by assumption) ?_ ?_ ?_); (focus (first | omega | (simp; omega) | (simp; done))); (focus (first | omega | (simp; omega) | (simp; done)))) | omega | (focus (simp; omega)) | (focus (simp; done)))) hb3); have hz3 := hb3.size; (try simp at hz3); obtain ⟨rfl, hgl3, hfz3, -⟩ := row3.int (by omega); have hle3 := row3.le; have hcm3 := row3.capLe; have hk1 : (f : Int) + c ≤ (c3 : Int) := (by omega); have hk2 : f ≤ c3 := (by omega); have hk3 : c3 - f ≠ 0 := (by omega); have hk4 : ¬ (f = c3) := (by omega); have R3 := Lib.hid (cutRd row3.rd f c (by omega)); have HK5 : Hid (¬ (c3 = f)) := Lib.hid (by omega); clear hb3 o3 row3))
    | (go_at_call 82; go_must (rw [if_neg HK5.out, HFC.out]; (with_reducible refine (cloneInts_n (some ⟨g3, f, none⟩) (c3 - f) c ((D.drop f).take c) _ HTL.out (Rd.below R3.out (by repeat (first | with_reducible exact Below.refl _ _ | with_reducible refine below_drewN ?_ _ | with_reducible refine Below.drew ?_ | with_reducible refine Below.alloc ?_ ?_ _ | with_reducible refine Below.setCell ?_ ?_ _ | omega | (focus (simp; omega)) | (focus (simp; done))))) (by omega) (fun h => nomatch h)).mono ?_); rw [← HN.out]; rintro e w4 ⟨u4, rfl, o4, hb4⟩; have W4 : Hid (Below w.heap.size w w4) := Lib.hid (Below.next (W := w) (by repeat (first | with_reducible exact W3.out | with_reducible exact Below.refl _ _ | with_reducible refine below_drewN ?_ _ | with_reducible refine Below.drew ?_ | with_reducible refine Below.alloc ?_ ?_ _ | with_reducible refine Below.setCell ?_ ?_ _ | (with_reducible refine Below.next ?_ (by assumption)) | ((with_reducible refine Below.far' (by assumption) ?_ ?_ ?_); (focus (first | omega | (simp; omega) | (simp; done))); (focus (first | omega | (simp; omega) | (simp; done)))) | omega | (focus (simp; omega)) | (focus (simp; done)))) hb4); have O4 := Lib.hid o4; have Q0 := Loc.carryB N0 (fun h => by ((repeat (first | with_reducible exact h | with_reducible refine Loc.drew ?_ | with_reducible refine Loc.drewN ?_ _ | with_reducible refine Loc.alloc ?_ _)); done)) hb4; have Q5 := Loc.carryB N5 (fun h => by ((repeat (first | with_reducible exact h | with_reducible refine Loc.drew ?_ | with_reducible refine Loc.drewN ?_ _ | with_reducible refine Loc.alloc ?_ _)); done)) hb4; obtain ⟨v0, v1, v2, v3, vf⟩ := Q0.four; obtain ⟨q0', q1', qf'⟩ := Q5.two; have hz4 := hb4.size; clear hb4 o4)))
  go_wp2
  go_ret
  refine ⟨_, rfl, SOwn.mono O4.out (by omega) (Nat.le_refl _), W4.out⟩

theorem step_append_rown {α : Type} {P : Program} {E : Enc α} {t e : TypeId} {z : Value} {bytes : Nat} {ops : Array Oper} {o : Oper} {a : Act} {w : World} {K : Act → World → Prop} {Q : Exit → Act → World → Prop} {F : Prop} (hgd : o.guard = none) (s x : Operand)
    (ho : o.op = .call { callee := .builtin .append, args := #[s, x], argTypes := #[t, t] }) (he : ElemOk P t e E z bytes)
    {A : Option Addr} {c g n0 n : Nat} {l : List α} (hl0 : l.length = n0) (hs : a.eval s = .slice A n0 c) (hown : Row E w g e A c l)
    (B : Option Addr) (d : Nat) (m : List α) (hn : m.length = n) (hx : a.eval x = .slice B n d) (hr : Rd E w B m) (h63 : l.length + m.length ≤ maxLen) (hbytes : (l.length + m.length) * bytes ≤ 140737488355328)
    (h : ∀ (A' : Option Addr) (c' g' : Nat) (w' : World) (l' : List α), Hid (l' = l ++ m) → l'.length ≤ l.length + m.length → l.length + m.length ≤ l'.length → Row E w' g' e A' c' l' → w.grownBy w' (some g) → (g' = g ∨ w.heap.size ≤ g') →
      K (a.put o.dst (.slice A' l'.length c')) w') : if Region.wanted o (yielded ops a.tmps) = true then Oper.wp P o a w K Q else F := by
  subst hn hl0
  exact step_append_row hgd s x ho he hs hown B d m hx hr h63 hbytes h
set_option maxHeartbeats 4000000 in
theorem specPV_c (x0 x1 x2 x3 : Value) (t : Stk) (p : Int) (w : World) (h : StackRd w [x0, x1, x2, x3] t) (hs : sizeStack t ≤ 1099511627776) :
    Calls Try.prog 40 #[.agg #[x0, x1, x2, x3], .int .i64 p] w (MadeS eInt 3 (partV t p) w) := by
  obtain ⟨A0, c0, A1, c1, A2, c2, e0, e1, e2, e3⟩ := id h.mst
  subst e0 e1 e2 e3
  have HR := Lib.hid h
  have L0 := Loc.new w [.slice A0 t.dsk.length c0, .slice A1 t.prt.length c1, .slice A2 t.lns.length c2, .int .i64 t.mst] 35
  cases hv : stackB t
  · have HV := Lib.hid hv
    have HN := Lib.hid (partV_no1 p hv)
    clear hv
    go_enter Try.func40, Try.ntmps40
    go_wp2_with fail
    refine (specStack_c _ _ _ _ t _ (StackRd.below HR.out (by repeat (first | with_reducible exact Below.refl _ _ | with_reducible refine below_drewN ?_ _ | with_reducible refine Below.drew ?_ | with_reducible refine Below.alloc ?_ ?_ _ | with_reducible refine Below.setCell ?_ ?_ _ | omega | (focus (simp; omega)) | (focus (simp; done))))) hs).mono ?_
    rw [HV.out]
    rintro e w1 ⟨rfl, hb1⟩
    have Wz : Hid (Below w.heap.size w w1) := Lib.hid (Below.next (W := w) (by repeat (first | with_reducible exact Below.refl _ _ | with_reducible refine below_drewN ?_ _ | with_reducible refine Below.drew ?_ | with_reducible refine Below.alloc ?_ ?_ _ | with_reducible refine Below.setCell ?_ ?_ _ | omega | (focus (simp; omega)) | (focus (simp; done)))) hb1)
    have hzz : w.heap.size ≤ w1.heap.size := Wz.out.size
    go_wp2
    go_ret
    refine ⟨.slice (some ⟨w1.heap.size, 0, none⟩) 0 0, rfl, ?_, (by repeat (first | with_reducible exact Wz.out | with_reducible exact Below.refl _ _ | with_reducible refine below_drewN ?_ _ | with_reducible refine Below.drew ?_ | with_reducible refine Below.alloc ?_ ?_ _ | with_reducible refine Below.setCell ?_ ?_ _ | (with_reducible refine Below.next ?_ (by assumption)) | ((with_reducible refine Below.far' (by assumption) ?_ ?_ ?_); (focus (first | omega | (simp; omega) | (simp; done))); (focus (first | omega | (simp; omega) | (simp; done)))) | omega | (focus (simp; omega)) | (focus (simp; done))))⟩
    rw [HN.out]; exact ⟨_, _, w1.heap.size, rfl, Row.made0 (by simp), .inr ⟨by have := hb1.size; simp at this; omega, by simp⟩⟩
  have HV := Lib.hid hv
  obtain ⟨hdb, hpb, hcb⟩ := stack_true.1 hv
  have HDB := Lib.hid hdb
  have HCB := Lib.hid hcb
  have hs' := hs
  unfold sizeStack at hs'
  have hd64 := (diskB_true.1 hdb).1
  obtain ⟨hp8, -, hpg⟩ := parts_true.1 hpb
  have hw0 := IntWalk.i64_in ((t.prt.length : Int) - 1) (by omega)
  clear hdb hpb hcb
  cases hq : inB p 0 ((t.prt.length : Int) - 1)
  · have HQ := Lib.hid hq
    have HN := Lib.hid (partV_no2 hq)
    clear hv hq
    go_enter Try.func40, Try.ntmps40
    go_wp2_with fail
    refine (specStack_c _ _ _ _ t _ (StackRd.below HR.out (by repeat (first | with_reducible exact Below.refl _ _ | with_reducible refine below_drewN ?_ _ | with_reducible refine Below.drew ?_ | with_reducible refine Below.alloc ?_ ?_ _ | with_reducible refine Below.setCell ?_ ?_ _ | omega | (focus (simp; omega)) | (focus (simp; done))))) hs).mono ?_
    rw [HV.out]
    rintro e w1 ⟨rfl, hb1⟩
    have M0 := Loc.carryB L0 (fun h => by ((repeat (first | with_reducible exact h | with_reducible refine Loc.drew ?_ | with_reducible refine Loc.drewN ?_ _ | with_reducible refine Loc.alloc ?_ _)); done)) hb1
    obtain ⟨k0, k1, k2, k3, kf⟩ := M0.four
    have Wz : Hid (Below w.heap.size w w1) := Lib.hid (Below.next (W := w) (by repeat (first | with_reducible exact Below.refl _ _ | with_reducible refine below_drewN ?_ _ | with_reducible refine Below.drew ?_ | with_reducible refine Below.alloc ?_ ?_ _ | with_reducible refine Below.setCell ?_ ?_ _ | omega | (focus (simp; omega)) | (focus (simp; done)))) hb1)
    have hzz : w.heap.size ≤ w1.heap.size := Wz.out.size
    go_wp2_with (go_at_call 65; refine (l1In_any _ _ _ _).mono ?_; rw [HQ.out]; rintro e w' ⟨rfl, rfl⟩)
    go_ret
    refine ⟨.slice (some ⟨w1.heap.size, 0, none⟩) 0 0, rfl, ?_, (by repeat (first | with_reducible exact Wz.out | with_reducible exact Below.refl _ _ | with_reducible refine below_drewN ?_ _ | with_reducible refine Below.drew ?_ | with_reducible refine Below.alloc ?_ ?_ _ | with_reducible refine Below.setCell ?_ ?_ _ | (with_reducible refine Below.next ?_ (by assumption)) | ((with_reducible refine Below.far' (by assumption) ?_ ?_ ?_); (focus (first | omega | (simp; omega) | (simp; done))); (focus (first | omega | (simp; omega) | (simp; done)))) | omega | (focus (simp; omega)) | (focus (simp; done))))⟩
    rw [HN.out]; exact ⟨_, _, w1.heap.size, rfl, Row.made0 (by simp), .inr ⟨by have := hb1.size; simp at this; omega, by simp⟩⟩
  obtain ⟨q0, q1⟩ := inB_true.1 hq
  obtain ⟨k, rfl⟩ := Int.eq_ofNat_of_zero_le q0
  have hk : k < t.prt.length := by omega
  have HQ := Lib.hid hq
  have hn := partV_yes hv hk
  have hg := partsGo_get (Int.le_refl 0) hpg k hk
  obtain ⟨y, hy⟩ : ∃ y, y = t.prt[k]'hk := ⟨_, rfl⟩
  rw [← hy] at hn hg
  have HYP := Lib.hid hy
  obtain ⟨yf, yc⟩ := y
  simp only at hn hg
  obtain ⟨g1, -, g2, g3⟩ := hg
  obtain ⟨f, rfl⟩ := Int.eq_ofNat_of_zero_le g1
  obtain ⟨c, rfl⟩ := Int.eq_ofNat_of_zero_le (show 0 ≤ yc by omega)
  simp only [Int.toNat_natCast] at hn
  obtain ⟨D, hD⟩ : ∃ D, D = seeD t.dsk t.lns := ⟨_, rfl⟩
  rw [← hD] at hn
  have HN := Lib.hid hn
  have hDl : D.length = t.dsk.length := by rw [hD, seeD_len]
  have HD := Lib.hid hD
  have hDl2 := Lib.hid hDl
  have hDle : D.length ≤ 64 := by omega
  have hfD : f + c ≤ D.length := by omega
  have hw1 := IntWalk.i64_in ((f : Int) + (c : Int)) (by omega)
  have hwc := IntWalk.i64_in ((f + c : Nat) : Int) (by omega)
  clear hv hq hn hy hpg hD hDl
  go_enter Try.func40, Try.ntmps40
  go_wp2_with fail
  refine (specStack_c _ _ _ _ t _ (StackRd.below HR.out (by repeat (first | with_reducible exact Below.refl _ _ | with_reducible refine below_drewN ?_ _ | with_reducible refine Below.drew ?_ | with_reducible refine Below.alloc ?_ ?_ _ | with_reducible refine Below.setCell ?_ ?_ _ | omega | (focus (simp; omega)) | (focus (simp; done))))) hs).mono ?_
  rw [HV.out]
  rintro e w1 ⟨rfl, hb1⟩
  have M0 := Loc.carryB L0 (fun h => by ((repeat (first | with_reducible exact h | with_reducible refine Loc.drew ?_ | with_reducible refine Loc.drewN ?_ _ | with_reducible refine Loc.alloc ?_ _)); done)) hb1
  obtain ⟨k0, k1, k2, k3, kf⟩ := M0.four
  have W1 : Hid (Below w.heap.size w w1) := Lib.hid (Below.next (W := w) (by repeat (first | with_reducible exact Below.refl _ _ | with_reducible refine below_drewN ?_ _ | with_reducible refine Below.drew ?_ | with_reducible refine Below.alloc ?_ ?_ _ | with_reducible refine Below.setCell ?_ ?_ _ | omega | (focus (simp; omega)) | (focus (simp; done)))) hb1)
  have HR1 := Lib.hid (StackRd.below HR.out W1.out)
  have zM0 := M0.lt
  have hz1 := hb1.size
  (try simp at hz1)
  clear hb1
  have hcell : ∃ b off, A1 = some ⟨b, off, none⟩ ∧ b < w.heap.size ∧ b < w1.heap.size ∧ w1.cell? ⟨b, off + k * 2, none⟩ = some (.int .i64 f) ∧ w1.cell? ⟨b, off + k * 2 + 1, none⟩ = some (.int .i64 c) := by
    obtain ⟨A', c', he, hr, _⟩ := HR.out.parts.2.1
    injection he with q1 q2 q3
    subst q1
    obtain ⟨b, off, rfl, hbl, h1, h2⟩ := (hr.below W1.out).rPartS hk
    rw [← HYP.out] at h1 h2
    have := W1.out.size
    exact ⟨b, off, rfl, hr.lt (by omega) rfl, hbl, h1, h2⟩
  obtain ⟨b, off, rfl, hbw, hbw1, hc1, hc2⟩ := hcell
  go_wp2_with (go_at_call 65; refine (l1In_any _ _ _ _).mono ?_; rw [HQ.out]; rintro e w' ⟨rfl, rfl⟩)
  refine (specCView_c _ _ t.lns t.mst t.dsk _ (SRd.below HR1.out.parts.2.2 (by repeat (first | with_reducible exact Below.refl _ _ | with_reducible refine below_drewN ?_ _ | with_reducible refine Below.drew ?_ | with_reducible refine Below.alloc ?_ ?_ _ | with_reducible refine Below.setCell ?_ ?_ _ | omega | (focus (simp; omega)) | (focus (simp; done))))) (SRd.below HR1.out.parts.1 (by repeat (first | with_reducible exact Below.refl _ _ | with_reducible refine below_drewN ?_ _ | with_reducible refine Below.drew ?_ | with_reducible refine Below.alloc ?_ ?_ _ | with_reducible refine Below.setCell ?_ ?_ _ | omega | (focus (simp; omega)) | (focus (simp; done))))) HDB.out HCB.out).mono ?_
  rw [← HD.out]
  rintro e w3 ⟨u3, rfl, o3, hb3⟩
  obtain ⟨A3, c3, g3, rfl, row3, hg3⟩ := id o3
  have N0 := Loc.carryB M0 (fun h => by ((repeat (first | with_reducible exact h | with_reducible refine Loc.drew ?_ | with_reducible refine Loc.drewN ?_ _ | with_reducible refine Loc.alloc ?_ _)); done)) hb3
  obtain ⟨hc3, -⟩ := bcell hb3
  have hcd1 := (hc3 b (off + k * 2) hbw1).trans hc1
  have hcd2 := (hc3 b (off + k * 2 + 1) hbw1).trans hc2
  clear k0 k1 k2 k3 kf hc3
  obtain ⟨n0, n1, n2, n3, nf⟩ := N0.four
  have W3 : Hid (Below w.heap.size w w3) := Lib.hid (Below.next (W := w) (by repeat (first | with_reducible exact W1.out | with_reducible exact Below.refl _ _ | with_reducible refine below_drewN ?_ _ | with_reducible refine Below.drew ?_ | with_reducible refine Below.alloc ?_ ?_ _ | with_reducible refine Below.setCell ?_ ?_ _ | (with_reducible refine Below.next ?_ (by assumption)) | ((with_reducible refine Below.far' (by assumption) ?_ ?_ ?_); (focus (first | omega | (simp; omega) | (simp; done))); (focus (first | omega | (simp; omega) | (simp; done)))) | omega | (focus (simp; omega)) | (focus (simp; done)))) hb3)
  have hz3 := hb3.size
  (try simp at hz3)
  obtain ⟨rfl, hgl3, hfz3, -⟩ := row3.int (by omega)
  have hle3 := row3.le
  have hcm3 := row3.capLe
  have hk1 : (f : Int) + c ≤ (c3 : Int) := (by omega)
  have hk2 : f ≤ c3 := (by omega)
  have R3 := Lib.hid (cutRd row3.rd f c (by omega))
  have HK5 : Hid (¬ (c3 = f)) := Lib.hid (by omega)
  have HFC : Hid (((f : Int) + (c : Int)).toNat - f = c) := Lib.hid (by omega)
  have HTL : Hid (((D.drop f).take c).length = c) := Lib.hid (by simp; omega)
  have hh1 : 0 ≤ (f : Int) := by omega
  have hh2 : (f : Int) ≤ (f : Int) + c := by omega
  have h63 : ([] : List Int).length + ((D.drop f).take c).length ≤ maxLen := by rw [HTL.out]; simp [maxLen]; omega
  have hby : (([] : List Int).length + ((D.drop f).take c).length) * 8 ≤ 140737488355328 := by rw [HTL.out]; simp; omega
  have hb3z : b < w3.heap.size := by omega
  have hnb : b ≠ w3.heap.size := by omega
  have zN0 := N0.lt
  clear hb3 o3 row3 hc1 hc2
  go_wp2
  go_region_held3 (fun w' => w'.cell? ⟨w.heap.size, 1, none⟩ = some (.slice (some ⟨b, off, none⟩) t.prt.length c1) ∧ w'.cell? ⟨b, off + k * 2, none⟩ = some (.int .i64 f) ∧ w'.cell? ⟨b, off + k * 2 + 1, none⟩ = some (.int .i64 c)) (first | (refine ⟨?_, ?_, ?_⟩ <;> with_reducible assumption) | go_keep | (refine ⟨?_, ?_, ?_⟩ <;> (simp [go_sem, *]; done)))
    ((refine step_append_rown (by rfl) (.tmp 24) (.tmp 45) (by rfl) el_int (A := some ⟨w3.heap.size, 0, none⟩) (c := 0) (g := w3.heap.size) (n0 := 0) (l := ([] : List Int)) rfl (by simp [go_sem]; done) (Row.made0 (by simp)) (some ⟨g3, f, none⟩) (c3 - f) ((D.drop f).take c) HTL.out (by simp [go_sem, HK5.out, HFC.out]; done) (Rd.alloc (Rd.drew R3.out) _) h63 hby ?_; intro A4 c4 g4 w4 l4 hl4 hle1 hle2 hrow4 hg4 hgg4; have P0 := Loc.carry N0 (fun h => by ((repeat (first | with_reducible exact h | with_reducible refine Loc.drew ?_ | with_reducible refine Loc.drewN ?_ _ | with_reducible refine Loc.alloc ?_ _)); done)) hg4 (by first | omega | (simp; omega) | (simp; done)); obtain ⟨p0, p1, p2, p3, pf⟩ := P0.four; have hce1 : w4.cell? ⟨b, off + k * 2, none⟩ = some (.int .i64 f) := ((gcell hg4).1 b (off + k * 2) (by simp; omega) (by omega)).trans (((bcell ((Below.refl w3.heap.size w3).alloc (Nat.le_refl _) (.cells #[] 3))).1 b _ hb3z).trans hcd1); have hce2 : w4.cell? ⟨b, off + k * 2 + 1, none⟩ = some (.int .i64 c) := ((gcell hg4).1 b (off + k * 2 + 1) (by simp; omega) (by omega)).trans (((bcell ((Below.refl w3.heap.size w3).alloc (Nat.le_refl _) (.cells #[] 3))).1 b _ hb3z).trans hcd2); have hz4 := hg4.size; (try simp at hz4); (try simp at hgg4); have W4 : Hid (Below w.heap.size w w4) := Lib.hid (Below.gin (D := w.heap.size) (a := w) (by repeat (first | with_reducible exact W3.out | with_reducible exact Below.refl _ _ | with_reducible refine below_drewN ?_ _ | with_reducible refine Below.drew ?_ | with_reducible refine Below.alloc ?_ ?_ _ | with_reducible refine Below.setCell ?_ ?_ _ | (with_reducible refine Below.next ?_ (by assumption)) | ((with_reducible refine Below.far' (by assumption) ?_ ?_ ?_); (focus (first | omega | (simp; omega) | (simp; done))); (focus (first | omega | (simp; omega) | (simp; done)))) | omega | (focus (simp; omega)) | (focus (simp; done)))) (GIn.of_grown hg4 (Nat.le_refl _) (Nat.lt_succ_self _)) (by first | omega | (simp; omega) | (simp; done)) (by first | omega | (simp; omega) | (simp; done))); have HL4 := Lib.hid hl4; have H4 := Lib.hid hrow4; clear hrow4 hl4))
  go_wp2
  go_ret
  refine ⟨_, rfl, ?_, W4.out⟩
  have e4 := HL4.out
  simp only [List.nil_append] at e4
  rw [HN.out, ← e4]
  exact SOwn.mono (SOwn.of_fresh (D := w3.heap.size) H4.out (by omega)) (by omega) (Nat.le_refl _)
end Go.Proofs.Ytlhbjfjphckifaa
