/-
  SharedWrite: the reference's. Conditions: lengths at most 2^40.
-/
import Derived.Test.YtpekccmhfkeadaaBase
import Derived.Test.YtpekccmhfkeadaaNum
import Derived.Test.YtpekccmhfkeadaaInts
import Derived.Test.YtpekccmhfkeadaaApp
import Derived.Test.YtpekccmhfkeadaaIntsW
import Derived.Test.YtpekccmhfkeadaaLib
import Derived.Test.YtpekccmhfkeadaaSpares
import Derived.Test.YtpekccmhfkeadaaOwn
import Derived.Test.YtpekccmhfkeadaaCopy
import Derived.Test.YtpekccmhfkeadaaShared
import Derived.Test.YtpekccmhfkeadaaSharedM
import Derived.Test.YtpekccmhfkeadaaSharedC
import Derived.Test.YtpekccmhfkeadaaSharedV
import Derived.Test.YtpekccmhfkeadaaSharedU
import Derived.Test.YtpekccmhfkeadaaSharedD
import Derived.Test.YtpekccmhfkeadaaSharedWM
import Derived.Test.YtpekccmhfkeadaaDel
import Derived.Test.YtpekccmhfkeadaaThinC
import Derived.Test.YtpekccmhfkeadaaSharedP
import Derived.Test.YtpekccmhfkeadaaFlashX
import Derived.StillTailTactics
namespace Go.Proofs.Ytpekccmhfkeadaa
open Go.RowKit
theorem putMid_rows {w wc : World} {s : Sh} {X g1 g2 c1 c2 : Nat} {A1 A2 : Option Addr} (r1 : Row eInt wc g1 3 A1 c1 s.whr) (r2 : Row encCopyS wc g2 tyCopyS A2 c2 s.cps) (LX : Loc wc X [.slice A1 s.whr.length c1, .slice A2 s.cps.length c2]) (L1 : Loc wc (w.heap.size + 1) [.slice none 0 0, .slice none 0 0]) (hb : Below w.heap.size w wc)
    (m1 : A1 = none ∨ (g1 ≠ X ∧ w.heap.size + 2 ≤ g1)) (m2 : A2 = none ∨ (g2 ≠ X ∧ w.heap.size + 2 ≤ g2)) (m3 : A1 = none ∨ A2 = none ∨ g1 ≠ g2) (hX2 : w.heap.size + 2 ≤ X) : PutMid w s (.pointer (some ⟨X, 0, none⟩)) wc := by
  have nn1 : ∀ {g c : Nat} {l : List Int}, Row eInt wc g 3 none c l → ∀ g', Row eInt wc g' 3 none c l := by
    intro g c l h g'
    rcases h with h | ⟨_, h, _⟩
    · exact .inl h
    · cases h
  have nn2 : ∀ {g c : Nat} {l : List Cp}, Row encCopyS wc g tyCopyS none c l → ∀ g', Row encCopyS wc g' tyCopyS none c l := by
    intro g c l h g'
    rcases h with h | ⟨_, h, _⟩
    · exact .inl h
    · cases h
  rcases m1 with rfl | m1
  · rcases m2 with rfl | m2
    · exact ⟨X, _, c1, w.heap.size + X + 3, _, c2, w.heap.size + X + 4, rfl, hX2, LX, L1, nn1 r1 _, nn2 r2 _, by omega, by omega, by omega, by omega, by omega, hb⟩
    · exact ⟨X, _, c1, w.heap.size + X + g2 + 3, _, c2, g2, rfl, hX2, LX, L1, nn1 r1 _, r2, by omega, by omega, by omega, by omega, by omega, hb⟩
  · rcases m2 with rfl | m2
    · exact ⟨X, _, c1, g1, _, c2, w.heap.size + X + g1 + 4, rfl, hX2, LX, L1, r1, nn2 r2 _, by omega, by omega, by omega, by omega, by omega, hb⟩
    · rcases m3 with rfl | rfl | m3
      · exact ⟨X, _, c1, w.heap.size + X + g2 + 3, _, c2, g2, rfl, hX2, LX, L1, nn1 r1 _, r2, by omega, by omega, by omega, by omega, by omega, hb⟩
      · exact ⟨X, _, c1, g1, _, c2, w.heap.size + X + g1 + 4, rfl, hX2, LX, L1, r1, nn2 r2 _, by omega, by omega, by omega, by omega, by omega, hb⟩
      · exact ⟨X, _, c1, g1, _, c2, g2, rfl, hX2, LX, L1, r1, r2, by omega, by omega, by omega, by omega, by omega, hb⟩
theorem keepA {w : World} (o : Obj) (X : Nat) : ∀ k, k < w.heap.size → k ≠ X → (w.alloc o).heap[k]? = w.heap[k]? := fun k hk _ => ((Below.refl w.heap.size w).alloc (Nat.le_refl _) o).block k hk
theorem keepS {w : World} (X : Nat) (u v : Value) : ∀ k, k < w.heap.size → k ≠ X → ((w.setCell ⟨X, 0, none⟩ u).setCell ⟨X, 1, none⟩ v).heap[k]? = w.heap[k]? := fun k _ hne =>
  (Below.heap_setCell _ ⟨X, 1, none⟩ v k hne).trans (Below.heap_setCell _ ⟨X, 0, none⟩ u k hne)
theorem putMid_fin {w w3 wc : World} {s : Sh} {X g1 g2 c1 c2 : Nat} {A1 A2 : Option Addr} (r1 : Row eInt w3 g1 3 A1 c1 s.whr) (r2 : Row encCopyS w3 g2 tyCopyS A2 c2 s.cps) (hk : ∀ k, k < w3.heap.size → k ≠ X → wc.heap[k]? = w3.heap[k]?)
    (m1 : A1 = none ∨ (g1 ≠ X ∧ w.heap.size + 2 ≤ g1)) (m2 : A2 = none ∨ (g2 ≠ X ∧ w.heap.size + 2 ≤ g2)) (m3 : A1 = none ∨ A2 = none ∨ g1 ≠ g2) (hX2 : w.heap.size + 2 ≤ X)
    (LX : Loc wc X [.slice A1 s.whr.length c1, .slice A2 s.cps.length c2]) (L1 : Loc wc (w.heap.size + 1) [.slice none 0 0, .slice none 0 0]) (hb : Below w.heap.size w wc) : PutMid w s (.pointer (some ⟨X, 0, none⟩)) wc := by
  refine putMid_rows (g1 := g1) (g2 := g2) ?_ ?_ LX L1 hb m1 m2 m3 hX2
  · rcases m1 with rfl | ⟨h, _⟩
    · rcases r1 with h | ⟨_, h, _⟩
      · exact .inl h
      · cases h
    · exact r1.keep fun hl => hk _ hl h
  · rcases m2 with rfl | ⟨h, _⟩
    · rcases r2 with h | ⟨_, h, _⟩
      · exact .inl h
      · cases h
    · exact r2.keep fun hl => hk _ hl h
/-- the value is stored -/
def UseMid (w : World) (X g1 c1 : Nat) (s : Sh) (v0 : Int) (v : Value) (wc : World) : Prop := ∃ n A3 c3 g3, ∃ L : List Cp, ∃ u0 : Int, v = .int .i64 (n : Nat) ∧ Loc wc X [.slice (some ⟨g1, 0, none⟩) s.whr.length c1, .slice A3 L.length c3] ∧ Loc wc (w.heap.size + 1) [.slice none 0 0, .slice none 0 0] ∧ Row eInt wc g1 3 (some ⟨g1, 0, none⟩) c1 s.whr ∧ Row encCopyS wc g3 tyCopyS A3 c3 L ∧ g3 ≠ X ∧ g3 ≠ g1 ∧ w.heap.size + 2 ≤ g3 ∧ Below w.heap.size w wc ∧ 0 ≤ u0 ∧ u0 ≤ 1000000 ∧ Hid (useN s.cps v0 = n) ∧ ∃ hnl : n < L.length, Hid (L[n].usr = u0) ∧ Hid (L.set n ⟨L[n].val, u0 + 1⟩ = useL s.cps v0)
/-- the value is gone -/
def DelMid (w : World) (X g1 c1 n1 m : Nat) (L1 : List Int) (L2 : List Cp) (wc : World) : Prop := ∃ A6 c6 g6, Loc wc X [.slice (some ⟨g1, 0, none⟩) n1 c1, .slice A6 m c6] ∧ Loc wc (w.heap.size + 1) [.slice none 0 0, .slice none 0 0] ∧ Row eInt wc g1 3 (some ⟨g1, 0, none⟩) c1 L1 ∧ Row encCopyS wc g6 tyCopyS A6 c6 L2 ∧ g6 ≠ X ∧ g6 ≠ g1 ∧ w.heap.size + 2 ≤ g6 ∧ Below w.heap.size w wc
theorem step_append_n {α : Type} {P : Program} {E : Enc α} {t e : TypeId} {z : Value} {bytes : Nat} {ops : Array Oper} {o : Oper} {a : Act} {w : World} {K : Act → World → Prop} {Q : Exit → Act → World → Prop} {F : Prop} (hgd : o.guard = none) (s x : Operand)
    (ho : o.op = .call { callee := .builtin .append, args := #[s, x], argTypes := #[t, t] }) (he : ElemOk P t e E z bytes)
    {A : Option Addr} {c g : Nat} (l : List α) (k : Nat) (hk : l.length = k) (hs : a.eval s = .slice A k c) (hown : Row E w g e A c l)
    (B : Option Addr) (d n : Nat) (m : List α) (hn : m.length = n) (hx : a.eval x = .slice B n d) (hr : Rd E w B m) (h63 : k + n ≤ maxLen) (hbytes : (k + n) * bytes ≤ 140737488355328) (r : Nat) (hr : k + n = r)
    (h : ∀ (A' : Option Addr) (c' g' : Nat) (w' : World), Hid (Row E w' g' e A' c' (l ++ m)) → w.grownBy w' (some g) → (g' = g ∨ w.heap.size ≤ g') →
      K (a.put o.dst (.slice A' r c')) w') : if Region.wanted o (yielded ops a.tmps) = true then Oper.wp P o a w K Q else F := by
  subst hn; subst hk; subst hr
  refine step_append_row hgd s x ho he hs hown B d m hx (by assumption) h63 hbytes ?_
  intro A' c' g' w' l' hl' h1 h2 hrow hg hgg
  have e := hl'.out
  subst e
  have := h A' c' g' w' hrow hg hgg
  rwa [List.length_append]
set_option maxRecDepth 20000 in
set_option maxHeartbeats 8000000 in
theorem specPut_c (x0 x1 : Value) (s : Sh) (a v : Int) (w : World) (h : SharedRd w [x0, x1] s) (hs : sizeShared s ≤ 1099511627776) :
    Calls Try.prog 35 #[.agg #[x0, x1], .int .i64 a, .int .i64 v] w (MadeShared (putS s a v) w) := by
  obtain ⟨A0, c0, A0', c0', rfl, rfl⟩ := sharedRd_lens h
  have L0 := Loc.new w [.slice A0 s.whr.length c0, .slice A0' s.cps.length c0'] 30
  have L1 := Loc.newAt (w.alloc (.cells #[.slice A0 s.whr.length c0, .slice A0' s.cps.length c0'] 30)) [.slice none 0 0, .slice none 0 0] 30 (b := w.heap.size + 1) (by simp)
  have HR := Lib.hid h
  have hsw : s.whr.length ≤ 1099511627776 := by unfold sizeShared at hs; omega
  have hsc : s.cps.length ≤ 1099511627776 := by unfold sizeShared at hs; omega
  cases hv : sharedB s
  · have HV := Lib.hid hv
    have HN := Lib.hid (putS_no (a := a) (v := v) (putOk_1 hv))
    clear hv
    go_enter Try.func35, Try.ntmps35
    go_wp2_with fail
    refine (specShared_c _ _ s _ (SharedRd.below HR.out (by repeat (first | with_reducible exact Below.refl _ _ | with_reducible refine below_drewN ?_ _ | with_reducible refine Below.drew ?_ | with_reducible refine Below.alloc ?_ ?_ _ | with_reducible refine Below.setCell ?_ ?_ _ | omega | (focus (simp; omega)) | (focus (simp; done))))) hs).mono ?_
    rw [HV.out]
    rintro e w1 ⟨rfl, hb1⟩
    have M1 := Loc.carryB L1 (fun h => by ((repeat (first | with_reducible exact h | with_reducible refine Loc.drew ?_ | with_reducible refine Loc.drewN ?_ _ | with_reducible refine Loc.alloc ?_ _)); done)) hb1
    obtain ⟨m0, m1, mf⟩ := M1.two
    go_wp2
    refine bodyPost_ret (v := .agg #[.slice none 0 0, .slice none 0 0]) (by simp [results, Try.results35, go_sem, *]; done) rfl ⟨_, _, rfl, ?_, ?_⟩
    · rw [HN.out]; exact sharedOwn_nil _ _ _
    · exact (by repeat (first | with_reducible exact Below.refl _ _ | with_reducible assumption | with_reducible refine below_drewN ?_ _ | with_reducible refine Below.drew ?_ | with_reducible refine Below.alloc ?_ ?_ _ | with_reducible refine Below.setCell ?_ ?_ _ | (with_reducible refine Below.next ?_ (by assumption)) | omega | (focus (simp; omega)) | (focus (simp; done))))
  · have HV := Lib.hid hv
    go_enter Try.func35, Try.ntmps35
    go_wp2_with fail
    refine (specShared_c _ _ s _ (SharedRd.below HR.out (by repeat (first | with_reducible exact Below.refl _ _ | with_reducible refine below_drewN ?_ _ | with_reducible refine Below.drew ?_ | with_reducible refine Below.alloc ?_ ?_ _ | with_reducible refine Below.setCell ?_ ?_ _ | omega | (focus (simp; omega)) | (focus (simp; done))))) hs).mono ?_
    rw [HV.out]
    clear hv
    rintro e w1 ⟨rfl, hb1⟩
    have M0 := Loc.carryB L0 (fun h => by ((repeat (first | with_reducible exact h | with_reducible refine Loc.drew ?_ | with_reducible refine Loc.drewN ?_ _ | with_reducible refine Loc.alloc ?_ _)); done)) hb1
    have M1 := Loc.carryB L1 (fun h => by ((repeat (first | with_reducible exact h | with_reducible refine Loc.drew ?_ | with_reducible refine Loc.drewN ?_ _ | with_reducible refine Loc.alloc ?_ _)); done)) hb1
    obtain ⟨k0, k1, kf⟩ := M0.two
    obtain ⟨m0, m1, mf⟩ := M1.two
    have W1 : Hid (Below w.heap.size w w1) := Lib.hid (Below.next (W := w) (by repeat (first | with_reducible exact Below.refl _ _ | with_reducible refine below_drewN ?_ _ | with_reducible refine Below.drew ?_ | with_reducible refine Below.alloc ?_ ?_ _ | with_reducible refine Below.setCell ?_ ?_ _ | omega | (focus (simp; omega)) | (focus (simp; done)))) hb1)
    have zM0 := M0.lt
    have zM1 := M1.lt
    have hz1 := hb1.size
    (try simp at hz1)
    clear hb1
    cases hat : inB a 0 (s.whr.length - 1)
    · have HN := Lib.hid (putS_no (v := v) (putOk_2 hat))
      go_wp2_with (go_at_call 39; refine (l1In_any _ _ _ _).mono ?_; rintro e w' ⟨rfl, rfl⟩)
      refine bodyPost_ret (v := .agg #[.slice none 0 0, .slice none 0 0]) (by simp [results, Try.results35, go_sem, *]; done) rfl ⟨_, _, rfl, ?_, ?_⟩
      · rw [HN.out]; exact sharedOwn_nil _ _ _
      · exact (by repeat (first | with_reducible exact W1.out | with_reducible exact Below.refl _ _ | with_reducible refine below_drewN ?_ _ | with_reducible refine Below.drew ?_ | with_reducible refine Below.alloc ?_ ?_ _ | with_reducible refine Below.setCell ?_ ?_ _ | (with_reducible refine Below.next ?_ (by assumption)) | ((with_reducible refine Below.far' (by assumption) ?_ ?_ ?_); (focus (first | omega | (simp; omega) | (simp; done))); (focus (first | omega | (simp; omega) | (simp; done)))) | omega | (focus (simp; omega)) | (focus (simp; done))))
    · cases hvv : inB v 0 255
      · have HN := Lib.hid (putS_no (s := s) (a := a) (putOk_3 hvv))
        go_wp2_with (go_at_call 39; refine (l1In_any _ _ _ _).mono ?_; rintro e w' ⟨rfl, rfl⟩)
        refine bodyPost_ret (v := .agg #[.slice none 0 0, .slice none 0 0]) (by simp [results, Try.results35, go_sem, *]; done) rfl ⟨_, _, rfl, ?_, ?_⟩
        · rw [HN.out]; exact sharedOwn_nil _ _ _
        · exact (by repeat (first | with_reducible exact W1.out | with_reducible exact Below.refl _ _ | with_reducible refine below_drewN ?_ _ | with_reducible refine Below.drew ?_ | with_reducible refine Below.alloc ?_ ?_ _ | with_reducible refine Below.setCell ?_ ?_ _ | (with_reducible refine Below.next ?_ (by assumption)) | ((with_reducible refine Below.far' (by assumption) ?_ ?_ ?_); (focus (first | omega | (simp; omega) | (simp; done))); (focus (first | omega | (simp; omega) | (simp; done)))) | omega | (focus (simp; omega)) | (focus (simp; done))))
      · have HY := Lib.hid (putS_yes (putOk_yes HV.out hat hvv))
        obtain ⟨a0, a1⟩ := inB_true.1 hat
        obtain ⟨k, rfl⟩ := Int.eq_ofNat_of_zero_le a0
        have hkl : k < s.whr.length := by omega
        obtain ⟨r0, r1⟩ := allIn_get (sharedB_parts HV.out).2 hkl
        obtain ⟨o, ho⟩ := Int.eq_ofNat_of_zero_le r0
        obtain ⟨hw64, hc64, hu64, hol, hl65, huo⟩ := put_facts HV.out hkl ho (inB_true.1 hvv)
        obtain ⟨hu1, hu2⟩ := huo hol
        have HU := Lib.hid hu64
        have HO := Lib.hid ho
        have hoc : o < s.cps.length := by omega
        have HRA : Hid (Rd eInt w1 A0 s.whr) := Lib.hid (Rd.below (SharedRd.whr HR.out) W1.out)
        have HRB : Hid (Rd encCopyS w1 A0' s.cps) := Lib.hid (Rd.below (SharedRd.cps HR.out) W1.out)
        have n1 : ([] : List Int).length + s.whr.length ≤ maxLen := by simp [maxLen]; omega
        have n2 : ([] : List Cp).length + s.cps.length ≤ maxLen := by simp [maxLen]; omega
        have b1 : (([] : List Int).length + s.whr.length) * 8 ≤ 140737488355328 := by simp; omega
        have b2 : (([] : List Cp).length + s.cps.length) * 16 ≤ 140737488355328 := by simp; omega
        clear huo hu64 r0 r1 ho
        go_wp2_with (go_at_call 39; refine (l1In_any _ _ _ _).mono ?_; rintro e w' ⟨rfl, rfl⟩)
        have hn0 : w.heap.size ≠ w1.heap.size := by omega
        have hn1 : w.heap.size ≠ w1.heap.size + 1 := by omega
        have hn2 : w.heap.size ≠ w1.heap.size + 1 + 1 := by omega
        clear hat
        go_cut [7] (fun v wc => PutMid w s v wc)
        case first =>
          go_region_held3 (fun w' => w'.cell? ⟨w.heap.size, 0, none⟩ = some (.slice A0 s.whr.length c0) ∧ w'.cell? ⟨w.heap.size, 1, none⟩ = some (.slice A0' s.cps.length c0')) (first | (refine ⟨?_, ?_⟩ <;> assumption) | (refine ⟨Loc.cell (cs := [.slice A0 s.whr.length c0, .slice A0' s.cps.length c0']) (j := 0) ?_ rfl, Loc.cell (cs := [.slice A0 s.whr.length c0, .slice A0' s.cps.length c0']) (j := 1) ?_ rfl⟩ <;> (repeat (first | with_reducible exact P0 | with_reducible exact N0 | with_reducible exact M0 | with_reducible refine Loc.drew ?_ | with_reducible refine Loc.drewN ?_ _ | with_reducible refine Loc.alloc ?_ _)) <;> done) | go_keep | (refine ⟨?_, ?_⟩ <;> (simp [go_sem, *]; done)))
            (first
              | (refine step_append_at (by rfl) (.tmp 29) (.tmp 31) (by rfl) el_int ([] : List Int) (by rfl) (by repeat (first | ((with_reducible refine Row.made0 ?_); (focus (first | with_reducible rfl | omega | (simp; omega) | (simp; done)))) | with_reducible refine Row.drew ?_ | with_reducible refine Row.drewN ?_ _ | with_reducible refine Row.alloc ?_ _ | ((with_reducible refine Row.far' (by assumption) ?_ ?_); (focus (first | omega | (simp; omega) | (simp; done)))))) A0 c0 s.whr (by rfl) ?_ n1 b1 ?_; (focus (exact (by repeat (first | with_reducible exact HRA.out | with_reducible refine Rd.drew ?_ | with_reducible refine Rd.drewN ?_ _ | with_reducible refine Rd.alloc ?_ _ | (with_reducible refine Rd.below ?_ (by assumption)) | ((with_reducible refine Rd.store HRA.out ?_ ?_ _); (focus (first | omega | (simp; omega) | (simp; done)))) | ((with_reducible refine Rd.far' HRA.out (by assumption) ?_ ?_); (focus (first | omega | (simp; omega) | (simp; done)))))))); intro A1 c1 g1 w2 l1 hl1 _ _ row1 gr1 gg1; have e1 := hl1.out; simp only [List.nil_append] at e1; subst e1; have N0 := Loc.carry M0 (fun h => by ((repeat (first | with_reducible exact h | with_reducible refine Loc.drew ?_ | with_reducible refine Loc.drewN ?_ _ | with_reducible refine Loc.alloc ?_ _)); done)) gr1 (by first | omega | (simp; omega) | (simp; done)); obtain ⟨n0', n1', nf'⟩ := N0.two; have N1 := Loc.carry M1 (fun h => by ((repeat (first | with_reducible exact h | with_reducible refine Loc.drew ?_ | with_reducible refine Loc.drewN ?_ _ | with_reducible refine Loc.alloc ?_ _)); done)) gr1 (by first | omega | (simp; omega) | (simp; done)); obtain ⟨p0, p1, pf⟩ := N1.two; have W2 := Lib.hid (Below.gin (D := w.heap.size) (a := w) (by repeat (first | with_reducible exact W1.out | with_reducible exact Below.refl _ _ | with_reducible refine below_drewN ?_ _ | with_reducible refine Below.drew ?_ | with_reducible refine Below.alloc ?_ ?_ _ | with_reducible refine Below.setCell ?_ ?_ _ | (with_reducible refine Below.next ?_ (by assumption)) | ((with_reducible refine Below.far' (by assumption) ?_ ?_ ?_); (focus (first | omega | (simp; omega) | (simp; done))); (focus (first | omega | (simp; omega) | (simp; done)))) | omega | (focus (simp; omega)) | (focus (simp; done)))) (GIn.of_grown gr1 (Nat.le_refl _) (Nat.lt_succ_self _)) (by first | omega | (simp; omega) | (simp; done)) (by first | omega | (simp; omega) | (simp; done))); have zN0 := N0.lt; have zN1 := N1.lt; have hz2 := gr1.size; have lt1 := row1.made?; (try simp at hz2); (try simp at gg1); (try (have LXa_a : Loc w2 (w1.heap.size) [.slice none 0 0, .slice none 0 0] := (by (repeat (first | with_reducible assumption | with_reducible apply Loc.fill3 | with_reducible apply Loc.fill2 | ((with_reducible refine Loc.newAt' ?_ rfl); (focus (first | with_reducible rfl | omega | (simp; omega) | (simp; done)))) | with_reducible refine Loc.drew ?_ | with_reducible refine Loc.drewN ?_ _ | with_reducible refine Loc.alloc ?_ _ | (with_reducible refine Loc.below ?_ (by assumption)) | ((with_reducible refine Loc.other' ?_ ?_ _); (focus (first | omega | (simp; omega) | (simp; done)))) | ((with_reducible refine Loc.far' (by assumption) ?_ ?_); (focus (first | omega | (simp; omega) | (simp; done)))))); (first | done | fail)); obtain ⟨xa0_a, xa1_a, xaf_a⟩ := LXa_a.two)); (try (have LXa_b : Loc w2 (w1.heap.size + 1) [.slice none 0 0, .slice none 0 0] := (by (repeat (first | with_reducible assumption | with_reducible apply Loc.fill3 | with_reducible apply Loc.fill2 | ((with_reducible refine Loc.newAt' ?_ rfl); (focus (first | with_reducible rfl | omega | (simp; omega) | (simp; done)))) | with_reducible refine Loc.drew ?_ | with_reducible refine Loc.drewN ?_ _ | with_reducible refine Loc.alloc ?_ _ | (with_reducible refine Loc.below ?_ (by assumption)) | ((with_reducible refine Loc.other' ?_ ?_ _); (focus (first | omega | (simp; omega) | (simp; done)))) | ((with_reducible refine Loc.far' (by assumption) ?_ ?_); (focus (first | omega | (simp; omega) | (simp; done)))))); (first | done | fail)); obtain ⟨xa0_b, xa1_b, xaf_b⟩ := LXa_b.two)); (try (have LXa_c : Loc w2 (w1.heap.size + 1 + 1) [.slice none 0 0, .slice none 0 0] := (by (repeat (first | with_reducible assumption | with_reducible apply Loc.fill3 | with_reducible apply Loc.fill2 | ((with_reducible refine Loc.newAt' ?_ rfl); (focus (first | with_reducible rfl | omega | (simp; omega) | (simp; done)))) | with_reducible refine Loc.drew ?_ | with_reducible refine Loc.drewN ?_ _ | with_reducible refine Loc.alloc ?_ _ | (with_reducible refine Loc.below ?_ (by assumption)) | ((with_reducible refine Loc.other' ?_ ?_ _); (focus (first | omega | (simp; omega) | (simp; done)))) | ((with_reducible refine Loc.far' (by assumption) ?_ ?_); (focus (first | omega | (simp; omega) | (simp; done)))))); (first | done | fail)); obtain ⟨xa0_c, xa1_c, xaf_c⟩ := LXa_c.two)); obtain ⟨hc2, hf2⟩ := gcell gr1; (try have z2_0 : w1.heap.size < w2.heap.size := by omega); (try have ne2_0 : w1.heap.size ≠ w2.heap.size := by omega); (try have ne2r_0 : w2.heap.size ≠ w1.heap.size := by omega); (try have ne2s_0 : w2.heap.size + 1 ≠ w1.heap.size := by omega); (try have z2_1 : w1.heap.size + 1 < w2.heap.size := by omega); (try have ne2_1 : w1.heap.size + 1 ≠ w2.heap.size := by omega); (try have ne2r_1 : w2.heap.size ≠ w1.heap.size + 1 := by omega); (try have ne2s_1 : w2.heap.size + 1 ≠ w1.heap.size + 1 := by omega); (try have z2_2 : w1.heap.size + 1 + 1 < w2.heap.size := by omega); (try have ne2_2 : w1.heap.size + 1 + 1 ≠ w2.heap.size := by omega); (try have ne2r_2 : w2.heap.size ≠ w1.heap.size + 1 + 1 := by omega); (try have ne2s_2 : w2.heap.size + 1 ≠ w1.heap.size + 1 + 1 := by omega))
              | (refine step_append_at (by rfl) (.tmp 33) (.tmp 35) (by rfl) elCopyS ([] : List Cp) (by rfl) (by repeat (first | ((with_reducible refine Row.made0 ?_); (focus (first | with_reducible rfl | omega | (simp; omega) | (simp; done)))) | with_reducible refine Row.drew ?_ | with_reducible refine Row.drewN ?_ _ | with_reducible refine Row.alloc ?_ _ | ((with_reducible refine Row.far' (by assumption) ?_ ?_); (focus (first | omega | (simp; omega) | (simp; done)))))) A0' c0' s.cps (by rfl) ?_ n2 b2 ?_; (focus (exact (by repeat (first | with_reducible exact HRB.out | with_reducible refine Rd.drew ?_ | with_reducible refine Rd.drewN ?_ _ | with_reducible refine Rd.alloc ?_ _ | (with_reducible refine Rd.below ?_ (by assumption)) | ((with_reducible refine Rd.store HRB.out ?_ ?_ _); (focus (first | omega | (simp; omega) | (simp; done)))) | ((with_reducible refine Rd.far' HRB.out (by assumption) ?_ ?_); (focus (first | omega | (simp; omega) | (simp; done)))))))); intro A2 c2 g2 w3 l2 hl2 _ _ row2 gr2 gg2; have e2 := hl2.out; simp only [List.nil_append] at e2; subst e2; have P0 := Loc.carry N0 (fun h => by ((repeat (first | with_reducible exact h | with_reducible refine Loc.drew ?_ | with_reducible refine Loc.drewN ?_ _ | with_reducible refine Loc.alloc ?_ _)); done)) gr2 (by first | omega | (simp; omega) | (simp; done)); obtain ⟨qq0, qq1, qqf⟩ := P0.two; have P1 := Loc.carry N1 (fun h => by ((repeat (first | with_reducible exact h | with_reducible refine Loc.drew ?_ | with_reducible refine Loc.drewN ?_ _ | with_reducible refine Loc.alloc ?_ _)); done)) gr2 (by first | omega | (simp; omega) | (simp; done)); obtain ⟨q0, q1, qf⟩ := P1.two; have W3 := Lib.hid (Below.gin (D := w.heap.size) (a := w) (by repeat (first | with_reducible exact W2.out | with_reducible exact Below.refl _ _ | with_reducible refine below_drewN ?_ _ | with_reducible refine Below.drew ?_ | with_reducible refine Below.alloc ?_ ?_ _ | with_reducible refine Below.setCell ?_ ?_ _ | (with_reducible refine Below.next ?_ (by assumption)) | ((with_reducible refine Below.far' (by assumption) ?_ ?_ ?_); (focus (first | omega | (simp; omega) | (simp; done))); (focus (first | omega | (simp; omega) | (simp; done)))) | omega | (focus (simp; omega)) | (focus (simp; done)))) (GIn.of_grown gr2 (Nat.le_refl _) (Nat.lt_succ_self _)) (by first | omega | (simp; omega) | (simp; done)) (by first | omega | (simp; omega) | (simp; done))); have zP1 := P1.lt; have hz3 := gr2.size; have lt2 := row2.made?; have hrow1 : Row eInt w3 g1 3 A1 c1 s.whr := (by first | exact Row.far (by repeat (first | with_reducible exact row1 | with_reducible refine Row.drew ?_ | with_reducible refine Row.drewN ?_ _ | with_reducible refine Row.alloc ?_ _ | (with_reducible refine Row.below ?_ (by assumption)) | ((with_reducible refine Row.other ?_ ?_ _); rotate_left; (focus (first | omega | (simp; omega) | (simp; done)))) | ((with_reducible refine Row.far' (by assumption) ?_ ?_); (focus (first | omega | (simp; omega) | (simp; done)))))) gr2 lt1 (by first | omega | (simp; omega) | (simp; done)) | exact Row.far' gr2 (by first | omega | (simp; omega) | (simp; done)) (by repeat (first | with_reducible exact row1 | with_reducible refine Row.drew ?_ | with_reducible refine Row.drewN ?_ _ | with_reducible refine Row.alloc ?_ _ | (with_reducible refine Row.below ?_ (by assumption)) | ((with_reducible refine Row.other ?_ ?_ _); rotate_left; (focus (first | omega | (simp; omega) | (simp; done)))) | ((with_reducible refine Row.far' (by assumption) ?_ ?_); (focus (first | omega | (simp; omega) | (simp; done))))))); (try simp at hz3); (try simp at gg2); (try (have LXb_a : Loc w3 (w1.heap.size) [.slice none 0 0, .slice none 0 0] := (by (repeat (first | with_reducible assumption | with_reducible apply Loc.fill3 | with_reducible apply Loc.fill2 | ((with_reducible refine Loc.newAt' ?_ rfl); (focus (first | with_reducible rfl | omega | (simp; omega) | (simp; done)))) | with_reducible refine Loc.drew ?_ | with_reducible refine Loc.drewN ?_ _ | with_reducible refine Loc.alloc ?_ _ | (with_reducible refine Loc.below ?_ (by assumption)) | ((with_reducible refine Loc.other' ?_ ?_ _); (focus (first | omega | (simp; omega) | (simp; done)))) | ((with_reducible refine Loc.far' (by assumption) ?_ ?_); (focus (first | omega | (simp; omega) | (simp; done)))))); (first | done | fail)); obtain ⟨xb0_a, xb1_a, xbf_a⟩ := LXb_a.two)); (try (have LXb_b : Loc w3 (w1.heap.size + 1) [.slice none 0 0, .slice none 0 0] := (by (repeat (first | with_reducible assumption | with_reducible apply Loc.fill3 | with_reducible apply Loc.fill2 | ((with_reducible refine Loc.newAt' ?_ rfl); (focus (first | with_reducible rfl | omega | (simp; omega) | (simp; done)))) | with_reducible refine Loc.drew ?_ | with_reducible refine Loc.drewN ?_ _ | with_reducible refine Loc.alloc ?_ _ | (with_reducible refine Loc.below ?_ (by assumption)) | ((with_reducible refine Loc.other' ?_ ?_ _); (focus (first | omega | (simp; omega) | (simp; done)))) | ((with_reducible refine Loc.far' (by assumption) ?_ ?_); (focus (first | omega | (simp; omega) | (simp; done)))))); (first | done | fail)); obtain ⟨xb0_b, xb1_b, xbf_b⟩ := LXb_b.two)); (try (have LXb_c : Loc w3 (w1.heap.size + 1 + 1) [.slice none 0 0, .slice none 0 0] := (by (repeat (first | with_reducible assumption | with_reducible apply Loc.fill3 | with_reducible apply Loc.fill2 | ((with_reducible refine Loc.newAt' ?_ rfl); (focus (first | with_reducible rfl | omega | (simp; omega) | (simp; done)))) | with_reducible refine Loc.drew ?_ | with_reducible refine Loc.drewN ?_ _ | with_reducible refine Loc.alloc ?_ _ | (with_reducible refine Loc.below ?_ (by assumption)) | ((with_reducible refine Loc.other' ?_ ?_ _); (focus (first | omega | (simp; omega) | (simp; done)))) | ((with_reducible refine Loc.far' (by assumption) ?_ ?_); (focus (first | omega | (simp; omega) | (simp; done)))))); (first | done | fail)); obtain ⟨xb0_c, xb1_c, xbf_c⟩ := LXb_c.two)); (try (have LXb_d : Loc w3 (w2.heap.size) [.slice none 0 0, .slice none 0 0] := (by (repeat (first | with_reducible assumption | with_reducible apply Loc.fill3 | with_reducible apply Loc.fill2 | ((with_reducible refine Loc.newAt' ?_ rfl); (focus (first | with_reducible rfl | omega | (simp; omega) | (simp; done)))) | with_reducible refine Loc.drew ?_ | with_reducible refine Loc.drewN ?_ _ | with_reducible refine Loc.alloc ?_ _ | (with_reducible refine Loc.below ?_ (by assumption)) | ((with_reducible refine Loc.other' ?_ ?_ _); (focus (first | omega | (simp; omega) | (simp; done)))) | ((with_reducible refine Loc.far' (by assumption) ?_ ?_); (focus (first | omega | (simp; omega) | (simp; done)))))); (first | done | fail)); obtain ⟨xb0_d, xb1_d, xbf_d⟩ := LXb_d.two)); (try (have LXb_e : Loc w3 (w2.heap.size + 1) [.slice none 0 0, .slice none 0 0] := (by (repeat (first | with_reducible assumption | with_reducible apply Loc.fill3 | with_reducible apply Loc.fill2 | ((with_reducible refine Loc.newAt' ?_ rfl); (focus (first | with_reducible rfl | omega | (simp; omega) | (simp; done)))) | with_reducible refine Loc.drew ?_ | with_reducible refine Loc.drewN ?_ _ | with_reducible refine Loc.alloc ?_ _ | (with_reducible refine Loc.below ?_ (by assumption)) | ((with_reducible refine Loc.other' ?_ ?_ _); (focus (first | omega | (simp; omega) | (simp; done)))) | ((with_reducible refine Loc.far' (by assumption) ?_ ?_); (focus (first | omega | (simp; omega) | (simp; done)))))); (first | done | fail)); obtain ⟨xb0_e, xb1_e, xbf_e⟩ := LXb_e.two)); obtain ⟨hc3, hf3⟩ := gcell gr2; (try have z3_0 : w1.heap.size < w3.heap.size := by omega); (try have z32_0 : w2.heap.size < w3.heap.size := by omega); (try have z3_1 : w1.heap.size + 1 < w3.heap.size := by omega); (try have z32_1 : w2.heap.size + 1 < w3.heap.size := by omega); (try have z3_2 : w1.heap.size + 1 + 1 < w3.heap.size := by omega); (try have z32_2 : w2.heap.size + 2 < w3.heap.size := by omega)))
          all_goals
            go_wp2_with fail
            go_meet
            try simp at hz2
            try simp at hz3
            refine putMid_fin (w3 := w3) (g1 := g1) (g2 := g2) hrow1 row2 ?_ ?_ ?_ ?_ ?_ (by repeat (first | with_reducible assumption | with_reducible apply Loc.fill3 | with_reducible apply Loc.fill2 | ((with_reducible refine Loc.newAt' ?_ rfl); (focus (first | with_reducible rfl | omega | (simp; omega) | (simp; done)))) | with_reducible refine Loc.drew ?_ | with_reducible refine Loc.drewN ?_ _ | with_reducible refine Loc.alloc ?_ _ | (with_reducible refine Loc.below ?_ (by assumption)) | ((with_reducible refine Loc.other' ?_ ?_ _); (focus (first | omega | (simp; omega) | (simp; done)))) | ((with_reducible refine Loc.far' (by assumption) ?_ ?_); (focus (first | omega | (simp; omega) | (simp; done)))))) (by repeat (first | with_reducible assumption | with_reducible apply Loc.fill3 | with_reducible apply Loc.fill2 | ((with_reducible refine Loc.newAt' ?_ rfl); (focus (first | with_reducible rfl | omega | (simp; omega) | (simp; done)))) | with_reducible refine Loc.drew ?_ | with_reducible refine Loc.drewN ?_ _ | with_reducible refine Loc.alloc ?_ _ | (with_reducible refine Loc.below ?_ (by assumption)) | ((with_reducible refine Loc.other' ?_ ?_ _); (focus (first | omega | (simp; omega) | (simp; done)))) | ((with_reducible refine Loc.far' (by assumption) ?_ ?_); (focus (first | omega | (simp; omega) | (simp; done)))))) (by repeat (first | with_reducible exact W3.out | with_reducible exact Below.refl _ _ | with_reducible refine below_drewN ?_ _ | with_reducible refine Below.drew ?_ | with_reducible refine Below.alloc ?_ ?_ _ | with_reducible refine Below.setCell ?_ ?_ _ | (with_reducible refine Below.next ?_ (by assumption)) | ((with_reducible refine Below.far' (by assumption) ?_ ?_ ?_); (focus (first | omega | (simp; omega) | (simp; done))); (focus (first | omega | (simp; omega) | (simp; done)))) | omega | (focus (simp; omega)) | (focus (simp; done))))
            · first | exact keepA _ _ | exact keepS _ _ _
            · rcases lt1 with h | h
              · exact .inl h
              · exact .inr (by omega)
            · rcases lt2 with h | h
              · exact .inl h
              · exact .inr (by omega)
            · rcases lt1 with h | h
              · exact .inl h
              · rcases lt2 with h' | h'
                · exact .inr (.inl h')
                · exact .inr (.inr (by omega))
            · omega
        case rest =>
          obtain ⟨X, A1, c1, g1, A2, c2, g2, rfl, hX, LX, LR, row1, row2, hg12, hg1X, hg2X, hg1, hg2, hbb⟩ := hcut
          obtain ⟨x0, x1, xf⟩ := LX.two
          have zX := LX.lt
          have zR := LR.lt
          have WC := Lib.hid hbb
          have hzc := hbb.size
          obtain ⟨rfl, hgl, -, -⟩ := row1.int (by omega)
          have H1 := Lib.hid row1
          have H2 := Lib.hid row2
          have hszs : Hid (sizeShared s ≤ 1099511627776) := Lib.hid hs
          have HRG := Lib.hid (put_range (k := k) HV.out (inB_true.1 hvv) hl65)
          have HK := Lib.hid (@putSh_keep s k o v hkl HO.out hol)
          have HDR := Lib.hid (@putSh_drop s k o v hkl HO.out hol)
          have HLE := Lib.hid (lessAt_eq hol)
          have hL1 : Hid ((s.whr.set k (useN s.cps v : Nat)).length = s.whr.length) := Lib.hid (by simp)
          have hrd : Hid (SharedRd wc [.slice (some ⟨g1, 0, none⟩) s.whr.length c1, .slice A2 s.cps.length c2] s) := Lib.hid ⟨_, _, rfl, SRd.of row1.rd row1.le (by simp only [maxLen]; omega) (Row.nilz row1), SRd.of row2.rd row2.le (by simp only [maxLen]; omega) (Row.nilz row2)⟩
          have hixl := idx_le (s.cps.map Cp.val) v
          rw [List.length_map] at hixl
          clear hbb row1 row2 M0 M1 k0 k1 kf m0 m1 mf zM0 zM1 hz1 W1 hn0 hn1 hn2 n1 n2 b1 b2 HRA HRB
          have hNN : Hid (∀ h : idx (s.cps.map Cp.val) v < 0, useN s.cps v = s.cps.length ∧ useL s.cps v = s.cps ++ [⟨v, 1⟩]) := Lib.hid fun h => useN_new h
          obtain ⟨ix, hixe⟩ : ∃ ix, ix = idx (s.cps.map Cp.val) v := ⟨_, rfl⟩
          have HIX := Lib.hid hixe
          rw [← hixe] at hixl
          clear hixe
          have h63 : s.cps.length + [(⟨v, 0⟩ : Cp)].length ≤ maxLen := by simp only [maxLen, List.length_cons, List.length_nil]; omega
          have hby : (s.cps.length + [(⟨v, 0⟩ : Cp)].length) * 16 ≤ 140737488355328 := by simp only [List.length_cons, List.length_nil]; omega
          go_wp2_with fail
          refine (l21Find_c _ _ s v _ hrd.out hszs.out).mono ?_
          rw [← HIX.out]
          rintro e w4 ⟨rfl, hb4⟩
          have LX4 := Loc.carryB LX (fun h => by ((repeat (first | with_reducible exact h | with_reducible refine Loc.drew ?_ | with_reducible refine Loc.drewN ?_ _ | with_reducible refine Loc.alloc ?_ _)); done)) hb4
          have LR4 := Loc.carryB LR (fun h => by ((repeat (first | with_reducible exact h | with_reducible refine Loc.drew ?_ | with_reducible refine Loc.drewN ?_ _ | with_reducible refine Loc.alloc ?_ _)); done)) hb4
          obtain ⟨y0, y1, yf⟩ := LX4.two
          have zX4 := LX4.lt
          have zR4 := LR4.lt
          have H14 := Lib.hid (Row.below H1.out hb4)
          have H24 := Lib.hid (Row.below H2.out hb4)
          have W4 : Hid (Below w.heap.size w w4) := Lib.hid (Below.next (W := w) WC.out hb4)
          have hz4 := hb4.size
          clear hb4 x0 x1 xf hrd H1 H2 WC LX LR
          go_upto_if 42 with (fail)
          go_cut [8] (fun v8 wc => UseMid w X g1 c1 s v v8 wc)
          case first =>
            by_cases hlt0 : ix < 0
            · have HN := Lib.hid (hNN.out (by rw [← HIX.out]; exact hlt0))
              go_wp2_with (at_builtin; refine wpList_append_row rfl _ _ rfl elCopyS rfl (Row.alloc H24.out _) _ _ [(⟨v, 0⟩ : Cp)] rfl (Rd.lit rfl rfl) h63 hby ?_; intro A3 c3 g3 w5 l3 hl3 hle1 hle2 hrow5 hg5 hgg5; have LX5 := Loc.carry LX4 (fun h => by ((repeat (first | with_reducible exact h | with_reducible refine Loc.drew ?_ | with_reducible refine Loc.drewN ?_ _ | with_reducible refine Loc.alloc ?_ _)); done)) hg5 (Ne.symm hg2X); have LR5 := Loc.carry LR4 (fun h => by ((repeat (first | with_reducible exact h | with_reducible refine Loc.drew ?_ | with_reducible refine Loc.drewN ?_ _ | with_reducible refine Loc.alloc ?_ _)); done)) hg5 (by omega); obtain ⟨s0, s1, sf⟩ := LX5.two; have zX5 := LX5.lt; simp only [List.length_cons, List.length_nil] at hle1 hle2; have hz5 := hg5.size; (try simp at hz5); (try simp at hgg5))
              go_meet
              have B5 : Hid (Below w.heap.size w w5) := Lib.hid (Below.grown1 (Below.alloc W4.out (by omega) _) hg5 (by simp; omega) (by omega))
              have H15 := Lib.hid (Row.grown (Row.alloc H14.out (.cells #[.int .i64 v, .int .i64 0] 47)) hg5 hg12)
              have hnl : s.cps.length < l3.length := by omega
              refine ⟨s.cps.length, A3, c3, g3, l3, 0, rfl, by simpa using Loc.set LX5 1 (.slice A3 l3.length c3), Loc.other' (p := ⟨X, 1, none⟩) (by simp; omega) LR5 _, Row.other H15.out (by simp; omega) _, Row.other hrow5 (by simp; omega) _, by omega, by omega, by omega, Below.setCell B5.out (by simp; omega) _, by omega, by omega, Lib.hid HN.out.1, hnl, Lib.hid ?_, Lib.hid ?_⟩
              · simp only [hl3.out]; simp
              · rw [HN.out.2]; simp only [hl3.out]; simp
            · obtain ⟨n, rfl⟩ := Int.eq_ofNat_of_zero_le (Int.not_lt.1 hlt0)
              have hnl : n < s.cps.length := by omega
              have hN := Lib.hid (useN_old HIX.out.symm hnl)
              have hub := HU.out _ (List.getElem_mem hnl)
              have hval : Hid ((s.cps[n]'hnl).val = v) := Lib.hid (by
                obtain ⟨i', hi', hil', hio', -⟩ := idx_get (l := s.cps.map Cp.val) (x := v) (by rw [← HIX.out]; omega)
                rw [← HIX.out] at hi'
                have : n = i' := by omega
                subst this
                simpa using hio')
              go_wp2
              go_meet
              exact ⟨n, A2, c2, g2, s.cps, (s.cps[n]'hnl).usr, rfl, LX4, LR4, H14.out, H24.out, hg2X, Ne.symm hg12, hg2, W4.out, hub.1, hub.2, Lib.hid hN.out.1, hnl, Lib.hid rfl, Lib.hid (by rw [hN.out.2, hval.out])⟩
          case rest =>
            clear y0 y1 yf hNN HIX hixl h63 hby LX4 LR4 H14 H24 W4 zX4 zR4
            obtain ⟨n, A3, c3, g3, L, u0, rfl, LXz, LRz, row1, row3, hg3X, hg31, hg3b, hbz, hu00, hu01, HUN, hnl, HUS, HUL⟩ := hcut
            obtain ⟨W, rfl⟩ : ∃ W, W = wc := ⟨_, rfl⟩
            obtain ⟨y0, y1, yf⟩ := LXz.two
            have zXz := LXz.lt
            have zRz := LRz.lt
            obtain ⟨-, hgl, hfz5, hcc5⟩ := row1.int (by omega)
            have hck5 := hcc5 k hkl
            rw [HO.out] at hck5
            have H1z := Lib.hid row1
            have HR3 := Lib.hid row3
            have Bz := Lib.hid hbz
            have hzz := hbz.size
            clear row1 row3 hbz hcc5 hfz5
            go_wp2
            clear hck5 y0 y1 yf zXz zRz
            obtain ⟨rfl, hgl3, hfz3, hcc3⟩ := HR3.out.rCopyS (by omega)
            have hcu := (hcc3 n hnl).2
            rw [HUS.out] at hcu
            have HS9 := HR3.out.setBCopyS (k := n) hnl (u0 + 1)
            rw [HUL.out] at HS9
            have HR9 := Lib.hid HS9
            have hfzn := hfz3 (n * 2 + 1)
            have hll : Hid ((useL s.cps v).length = L.length) := Lib.hid (by rw [← HUL.out]; simp)
            clear hcc3 HS9 hfz3
            obtain ⟨y0, y1, yf⟩ := LXz.two
            have zXz := LXz.lt
            have zRz := LRz.lt
            have H1y := Lib.hid (Row.other H1z.out (p := ⟨g3, n * 2 + 1, none⟩) (Ne.symm hg31) (.int .i64 (u0 + 1)))
            have LXy := Loc.other' (p := ⟨g3, n * 2 + 1, none⟩) (Ne.symm hg3X) LXz (.int .i64 (u0 + 1))
            have LRy := Loc.other' (p := ⟨g3, n * 2 + 1, none⟩) (by simp; omega) LRz (.int .i64 (u0 + 1))
            have By : Hid (Below w.heap.size w (W.setCell ⟨g3, n * 2 + 1, none⟩ (.int .i64 (u0 + 1)))) := Lib.hid (Below.setCell Bz.out (by simp; omega) _)
            go_still_tail 12, (by kernel_rfl)
            change wpList _ _ _ _ _ W.drew
            go_wp2
            obtain ⟨V, hV⟩ : ∃ V, V = (W.setCell ⟨g3, n * 2 + 1, none⟩ (.int .i64 (u0 + 1))).drew := ⟨_, rfl⟩
            rw [← hV]
            have LXv : Loc V X [.slice (some ⟨g1, 0, none⟩) s.whr.length c1, .slice (some ⟨g3, 0, none⟩) L.length c3] := by rw [hV]; exact LXy
            have LRv : Loc V (w.heap.size + 1) [.slice none 0 0, .slice none 0 0] := by rw [hV]; exact LRy
            have H1v : Hid (Row eInt V g1 3 (some ⟨g1, 0, none⟩) c1 s.whr) := Lib.hid (by rw [hV]; exact H1y.out)
            have row3v : Row encCopyS V g3 tyCopyS (some ⟨g3, 0, none⟩) c3 (useL s.cps v) := by rw [hV]; exact HR9.out
            have Bv : Hid (Below w.heap.size w V) := Lib.hid (by rw [hV]; exact Below.drew By.out)
            have hzv : W.heap.size ≤ V.heap.size := by rw [hV]; simp
            rw [← hll.out] at LXv ⊢
            obtain ⟨us, huse⟩ : ∃ us, us = (useL s.cps v)[o].usr := ⟨_, rfl⟩
            obtain ⟨-, hgl4, hfz4, hcc4⟩ := row3v.rCopyS (by omega)
            have hcu4 := (hcc4 o hol).2
            have HS0 := row3v.setBCopyS (k := o) hol (us - 1)
            have hrest : ∀ u : Int, u = us → (useL s.cps v).set o ⟨(useL s.cps v)[o].val, u - 1⟩ = lessAt (useL s.cps v) o := fun u hu => by rw [HLE.out, hu, huse]
            rw [hrest us rfl] at HS0
            have HS := Lib.hid HS0
            rw [← huse] at hcu4 hu1 hu2 HK HDR
            have hfzo := hfz4 (o * 2 + 1)
            have hcap3 := row3v.le
            have HR3v := Lib.hid row3v
            have hol' := hol
            clear hrest HS0 hcc4 row3v huse hfz4 hV LXy LRy H1y HR9 By LXz LRz H1z HR3 Bz y0 y1 yf hcu hfzn HUL HUS
            obtain ⟨y0, y1, yf⟩ := LXv.two
            have zXv := LXv.lt
            have zRv := LRv.lt
            obtain ⟨-, -, hfz1, hcc1⟩ := H1v.out.int (by omega)
            have hck1 := hcc1 k hkl
            rw [HO.out] at hck1
            have hfz1k := hfz1 k
            have hg13 : g1 ≠ g3 := Ne.symm hg31
            clear hcc1 hfz1
            obtain ⟨q0, q1, qf⟩ := LRv.two
            go_still_tail 12, (by kernel_rfl)
            change wpList _ _ _ _ _ V.drew
            by_cases hus : us = 1
            · subst hus
              have HDD := Lib.hid (HDR.out rfl)
              obtain ⟨m, hm⟩ : ∃ m, (useL s.cps v).length - 1 = m := ⟨_, rfl⟩
              have hLn : Hid ((lessAt (useL s.cps v) o).length = (useL s.cps v).length) := Lib.hid (lessAt_len _ _)
              have hLm : Hid (((lessAt (useL s.cps v) o).eraseIdx o).length = m) := Lib.hid (by rw [List.length_eraseIdx, hLn.out, if_pos hol, hm])
              have HM := Lib.hid hm
              have hmo : m + 1 ≤ (useL s.cps v).length := by omega
              have hmo2 : (useL s.cps v).length ≤ m + 1 := by omega
              have hoc3 : o ≤ c3 := by omega
              have ho1 : o + 1 ≤ (useL s.cps v).length := by omega
              clear hm
              go_wp2
              obtain ⟨U, hU⟩ : ∃ U, U = ((V.setCell ⟨g3, o * 2 + 1, none⟩ (.int .i64 0)).setCell ⟨g1, k, none⟩ (.int .i64 (n : Int))).drew := ⟨_, rfl⟩
              rw [← hU]
              have LXu : Loc U X [.slice (some ⟨g1, 0, none⟩) s.whr.length c1, .slice (some ⟨g3, 0, none⟩) (useL s.cps v).length c3] := by rw [hU]; exact (by repeat (first | with_reducible exact LXv | with_reducible refine Loc.drew ?_ | with_reducible refine Loc.drewN ?_ _ | with_reducible refine Loc.alloc ?_ _ | (with_reducible refine Loc.below ?_ (by assumption)) | ((with_reducible refine Loc.other' ?_ ?_ _); (focus (first | omega | (simp; omega) | (simp; done)))) | ((with_reducible refine Loc.far' (by assumption) ?_ ?_); (focus (first | omega | (simp; omega) | (simp; done))))))
              have LRu : Loc U (w.heap.size + 1) [.slice none 0 0, .slice none 0 0] := by rw [hU]; exact (by repeat (first | with_reducible exact LRv | with_reducible refine Loc.drew ?_ | with_reducible refine Loc.drewN ?_ _ | with_reducible refine Loc.alloc ?_ _ | (with_reducible refine Loc.below ?_ (by assumption)) | ((with_reducible refine Loc.other' ?_ ?_ _); (focus (first | omega | (simp; omega) | (simp; done)))) | ((with_reducible refine Loc.far' (by assumption) ?_ ?_); (focus (first | omega | (simp; omega) | (simp; done))))))
              have H1u : Hid (Row eInt U g1 3 (some ⟨g1, 0, none⟩) c1 (s.whr.set k (useN s.cps v : Nat))) := Lib.hid (by rw [hU, HUN.out]; exact (Row.other H1v.out (p := ⟨g3, o * 2 + 1, none⟩) hg13 (.int .i64 0)).setInt hkl (n : Int))
              have H3u : Hid (Row encCopyS U g3 tyCopyS (some ⟨g3, 0, none⟩) c3 (lessAt (useL s.cps v) o)) := Lib.hid (by rw [hU]; exact Row.drew (Row.other HS.out (p := ⟨g1, k, none⟩) hg31 (.int .i64 (n : Int))))
              have Bu : Hid (Below w.heap.size w U) := Lib.hid (by rw [hU]; exact (by repeat (first | with_reducible exact Bv.out | with_reducible exact Below.refl _ _ | with_reducible refine below_drewN ?_ _ | with_reducible refine Below.drew ?_ | with_reducible refine Below.alloc ?_ ?_ _ | with_reducible refine Below.setCell ?_ ?_ _ | (with_reducible refine Below.next ?_ (by assumption)) | ((with_reducible refine Below.far' (by assumption) ?_ ?_ ?_); (focus (first | omega | (simp; omega) | (simp; done))); (focus (first | omega | (simp; omega) | (simp; done)))) | omega | (focus (simp; omega)) | (focus (simp; done)))))
              have hzu : V.heap.size ≤ U.heap.size := by rw [hU]; simp
              have hg3u : g3 < U.heap.size := by omega
              have hg1u : g1 < U.heap.size := (H1u.out).lt (by rw [hL1.out]; omega)
              clear hU LXv LRv H1v HS Bv HR3v hcu4 hfzo y0 y1 yf hck1 hfz1k q0 q1 qf HK HDR HLE
              obtain ⟨y0, y1, yf⟩ := LXu.two
              obtain ⟨q0, q1, qf⟩ := LRu.two
              have zXu := LXu.lt
              have zRu := LRu.lt
              obtain ⟨j, hj⟩ : ∃ j, j = o + 1 := ⟨_, rfl⟩
              have HE : Hid (([] : List Cp) ++ (lessAt (useL s.cps v) o).take o ++ (lessAt (useL s.cps v) o).drop j = (lessAt (useL s.cps v) o).eraseIdx o) := Lib.hid (by rw [hj, List.nil_append, List.eraseIdx_eq_take_drop_succ])
              have hTk : Hid (((lessAt (useL s.cps v) o).take o).length = o) := Lib.hid (by simp [hLn.out]; omega)
              have hDr : Hid (((lessAt (useL s.cps v) o).drop j).length = (useL s.cps v).length - j) := Lib.hid (by simp [hLn.out])
              have HT : Hid (Rd encCopyS U (some ⟨g3, 0, none⟩) ((lessAt (useL s.cps v) o).take o)) := Lib.hid (H3u.out.rd.take o)
              have nA : 0 + o ≤ maxLen := by simp only [maxLen]; omega
              have bA : (0 + o) * 16 ≤ 140737488355328 := by omega
              have nB : o + ((useL s.cps v).length - j) ≤ maxLen := by simp only [maxLen]; omega
              have bB : (o + ((useL s.cps v).length - j)) * 16 ≤ 140737488355328 := by omega
              have hoo : 0 + o = o := Nat.zero_add o
              have HOO := Lib.hid hoo
              have HMM : Hid (o + ((useL s.cps v).length - j) = m) := Lib.hid (by omega)
              have hwj : IntKind.i64.wrap ((o : Int) + 1) = (j : Int) := by rw [IntWalk.i64_in ((o : Int) + 1) (by omega)]; omega
              have hjn : j ≤ (useL s.cps v).length := by omega
              have hjc : j ≤ c3 := by omega
              clear hoo hj
              go_cut [106] (fun _ wc => DelMid w X g1 c1 s.whr.length m (s.whr.set k (useN s.cps v : Nat)) ((lessAt (useL s.cps v) o).eraseIdx o) wc)
              case first =>
                by_cases hcj : c3 = j
                · have HDR2 : Hid (Rd encCopyS U (some ⟨g3, 0, none⟩) ((lessAt (useL s.cps v) o).drop j)) := Lib.hid (by
                    have : (lessAt (useL s.cps v) o).drop j = [] := List.eq_nil_of_length_eq_zero (by rw [hDr.out]; omega)
                    rw [this]; exact Rd.nil _ _)
                  have HDN : Hid (((lessAt (useL s.cps v) o).drop j).length = 0) := Lib.hid (by rw [hDr.out]; omega)
                  have nB : o + 0 ≤ maxLen := by rw [Nat.add_zero]; rw [Nat.zero_add] at nA; exact nA
                  have bB : (o + 0) * 16 ≤ 140737488355328 := by omega
                  have HMM : Hid (o + 0 = m) := Lib.hid (by have := HMM.out; omega)
                  obtain rfl : j = c3 := hcj.symm
                  go_region_law (first
                    | (refine step_append_n (A := some ⟨U.heap.size, 0, none⟩) (c := 0) (g := U.heap.size) (by rfl) (.tmp 95) (.tmp 99) (by rfl) elCopyS ([] : List Cp) 0 (by rfl) (by simp [go_sem]; done) (by repeat (first | ((with_reducible refine Row.made0 ?_); (focus (first | with_reducible rfl | omega | (simp; omega) | (simp; done)))) | with_reducible refine Row.drew ?_ | with_reducible refine Row.drewN ?_ _ | with_reducible refine Row.alloc ?_ _ | ((with_reducible refine Row.far' (by assumption) ?_ ?_); (focus (first | omega | (simp; omega) | (simp; done)))))) (some ⟨g3, 0, none⟩) j o ((lessAt (useL s.cps v) o).take o) hTk.out (by simp [go_sem]; done) (by repeat (first | with_reducible exact HT.out | with_reducible refine Rd.drew ?_ | with_reducible refine Rd.drewN ?_ _ | with_reducible refine Rd.alloc ?_ _ | (with_reducible refine Rd.below ?_ (by assumption)) | ((with_reducible refine Rd.store HT.out ?_ ?_ _); (focus (first | omega | (simp; omega) | (simp; done)))) | ((with_reducible refine Rd.far' HT.out (by assumption) ?_ ?_); (focus (first | omega | (simp; omega) | (simp; done)))))) nA bA o HOO.out ?_; intro A5 c5 g5 w5 row5 gr5 gg5; have LX5 := Loc.carry LXu (fun h => by ((repeat (first | with_reducible exact h | with_reducible refine Loc.drew ?_ | with_reducible refine Loc.drewN ?_ _ | with_reducible refine Loc.alloc ?_ _)); done)) gr5 (by first | omega | (simp; omega) | (simp; done)); have LR5 := Loc.carry LRu (fun h => by ((repeat (first | with_reducible exact h | with_reducible refine Loc.drew ?_ | with_reducible refine Loc.drewN ?_ _ | with_reducible refine Loc.alloc ?_ _)); done)) gr5 (by first | omega | (simp; omega) | (simp; done)); obtain ⟨z0, z1, zf⟩ := LX5.two; have zX5 := LX5.lt; have zR5 := LR5.lt; have hz5 := gr5.size; (try simp at hz5); (try simp at gg5))
                    | (refine step_append_n (A := A5) (c := c5) (g := g5) (by rfl) (.tmp 100) (.tmp 105) (by rfl) elCopyS (([] : List Cp) ++ (lessAt (useL s.cps v) o).take o) o (by simp [hTk.out]) (by simp [go_sem]; done) (by repeat (first | with_reducible exact row5.out | with_reducible refine Row.drew ?_ | with_reducible refine Row.drewN ?_ _ | with_reducible refine Row.alloc ?_ _ | (with_reducible refine Row.below ?_ (by assumption)) | ((with_reducible refine Row.other ?_ ?_ _); rotate_left; (focus (first | omega | (simp; omega) | (simp; done)))) | ((with_reducible refine Row.far' (by assumption) ?_ ?_); (focus (first | omega | (simp; omega) | (simp; done)))))) (some ⟨g3, 0, none⟩) (j - j) _ ((lessAt (useL s.cps v) o).drop j) HDN.out (by simp [go_sem]; done) (by repeat (first | with_reducible exact HDR2.out | with_reducible refine Rd.drew ?_ | with_reducible refine Rd.drewN ?_ _ | with_reducible refine Rd.alloc ?_ _ | (with_reducible refine Rd.below ?_ (by assumption)) | ((with_reducible refine Rd.store HDR2.out ?_ ?_ _); (focus (first | omega | (simp; omega) | (simp; done)))) | ((with_reducible refine Rd.far' HDR2.out (by assumption) ?_ ?_); (focus (first | omega | (simp; omega) | (simp; done)))))) nB bB m HMM.out ?_; intro A6 c6 g6 w6 row6 gr6 gg6; have LX6 := Loc.carry LX5 (fun h => by ((repeat (first | with_reducible exact h | with_reducible refine Loc.drew ?_ | with_reducible refine Loc.drewN ?_ _ | with_reducible refine Loc.alloc ?_ _)); done)) gr6 (by first | omega | (simp; omega) | (simp; done)); have LR6 := Loc.carry LR5 (fun h => by ((repeat (first | with_reducible exact h | with_reducible refine Loc.drew ?_ | with_reducible refine Loc.drewN ?_ _ | with_reducible refine Loc.alloc ?_ _)); done)) gr6 (by first | omega | (simp; omega) | (simp; done)); obtain ⟨zz0, zz1, zzf⟩ := LX6.two; have zX6 := LX6.lt; have zR6 := LR6.lt; have hz6 := gr6.size; (try simp at hz6); (try simp at gg6)))
                  all_goals
                    go_wp2_with fail
                    go_meet
                    refine ⟨A6, c6, g6, by simpa using Loc.set LX6 1 (.slice A6 m c6), (by repeat (first | with_reducible exact LR6 | with_reducible refine Loc.drew ?_ | with_reducible refine Loc.drewN ?_ _ | with_reducible refine Loc.alloc ?_ _ | (with_reducible refine Loc.below ?_ (by assumption)) | ((with_reducible refine Loc.other' ?_ ?_ _); (focus (first | omega | (simp; omega) | (simp; done)))) | ((with_reducible refine Loc.far' (by assumption) ?_ ?_); (focus (first | omega | (simp; omega) | (simp; done)))))), (by repeat (first | with_reducible exact H1u.out | with_reducible refine Row.drew ?_ | with_reducible refine Row.drewN ?_ _ | with_reducible refine Row.alloc ?_ _ | (with_reducible refine Row.below ?_ (by assumption)) | ((with_reducible refine Row.other ?_ ?_ _); rotate_left; (focus (first | omega | (simp; omega) | (simp; done)))) | ((with_reducible refine Row.far' (by assumption) ?_ ?_); (focus (first | omega | (simp; omega) | (simp; done)))))), ?_, by omega, by omega, by omega, (by repeat (first | with_reducible exact Bu.out | with_reducible exact Below.refl _ _ | with_reducible refine below_drewN ?_ _ | with_reducible refine Below.drew ?_ | with_reducible refine Below.alloc ?_ ?_ _ | with_reducible refine Below.setCell ?_ ?_ _ | (with_reducible refine Below.next ?_ (by assumption)) | ((with_reducible refine Below.far' (by assumption) ?_ ?_ ?_); (focus (first | omega | (simp; omega) | (simp; done))); (focus (first | omega | (simp; omega) | (simp; done)))) | omega | (focus (simp; omega)) | (focus (simp; done))))⟩
                    rw [← HE.out]
                    exact Row.other row6.out (p := ⟨X, 1, none⟩) (by simp; omega) _
                · have HDR2 : Hid (Rd encCopyS U (some ⟨g3, j * 2, none⟩) ((lessAt (useL s.cps v) o).drop j)) := Lib.hid (by have := H3u.out.rd.dropO j; rw [Nat.zero_add] at this; exact this)
                  have HDN := hDr
                  go_region_law (first
                    | (refine step_append_n (A := some ⟨U.heap.size, 0, none⟩) (c := 0) (g := U.heap.size) (by rfl) (.tmp 95) (.tmp 99) (by rfl) elCopyS ([] : List Cp) 0 (by rfl) (by simp [go_sem]; done) (by repeat (first | ((with_reducible refine Row.made0 ?_); (focus (first | with_reducible rfl | omega | (simp; omega) | (simp; done)))) | with_reducible refine Row.drew ?_ | with_reducible refine Row.drewN ?_ _ | with_reducible refine Row.alloc ?_ _ | ((with_reducible refine Row.far' (by assumption) ?_ ?_); (focus (first | omega | (simp; omega) | (simp; done)))))) (some ⟨g3, 0, none⟩) c3 o ((lessAt (useL s.cps v) o).take o) hTk.out (by simp [go_sem]; done) (by repeat (first | with_reducible exact HT.out | with_reducible refine Rd.drew ?_ | with_reducible refine Rd.drewN ?_ _ | with_reducible refine Rd.alloc ?_ _ | (with_reducible refine Rd.below ?_ (by assumption)) | ((with_reducible refine Rd.store HT.out ?_ ?_ _); (focus (first | omega | (simp; omega) | (simp; done)))) | ((with_reducible refine Rd.far' HT.out (by assumption) ?_ ?_); (focus (first | omega | (simp; omega) | (simp; done)))))) nA bA o HOO.out ?_; intro A5 c5 g5 w5 row5 gr5 gg5; have LX5 := Loc.carry LXu (fun h => by ((repeat (first | with_reducible exact h | with_reducible refine Loc.drew ?_ | with_reducible refine Loc.drewN ?_ _ | with_reducible refine Loc.alloc ?_ _)); done)) gr5 (by first | omega | (simp; omega) | (simp; done)); have LR5 := Loc.carry LRu (fun h => by ((repeat (first | with_reducible exact h | with_reducible refine Loc.drew ?_ | with_reducible refine Loc.drewN ?_ _ | with_reducible refine Loc.alloc ?_ _)); done)) gr5 (by first | omega | (simp; omega) | (simp; done)); obtain ⟨z0, z1, zf⟩ := LX5.two; have zX5 := LX5.lt; have zR5 := LR5.lt; have hz5 := gr5.size; (try simp at hz5); (try simp at gg5))
                    | (refine step_append_n (A := A5) (c := c5) (g := g5) (by rfl) (.tmp 100) (.tmp 105) (by rfl) elCopyS (([] : List Cp) ++ (lessAt (useL s.cps v) o).take o) o (by simp [hTk.out]) (by simp [go_sem]; done) (by repeat (first | with_reducible exact row5.out | with_reducible refine Row.drew ?_ | with_reducible refine Row.drewN ?_ _ | with_reducible refine Row.alloc ?_ _ | (with_reducible refine Row.below ?_ (by assumption)) | ((with_reducible refine Row.other ?_ ?_ _); rotate_left; (focus (first | omega | (simp; omega) | (simp; done)))) | ((with_reducible refine Row.far' (by assumption) ?_ ?_); (focus (first | omega | (simp; omega) | (simp; done)))))) (some ⟨g3, j * 2, none⟩) (c3 - j) _ ((lessAt (useL s.cps v) o).drop j) HDN.out (by simp [go_sem]; done) (by repeat (first | with_reducible exact HDR2.out | with_reducible refine Rd.drew ?_ | with_reducible refine Rd.drewN ?_ _ | with_reducible refine Rd.alloc ?_ _ | (with_reducible refine Rd.below ?_ (by assumption)) | ((with_reducible refine Rd.store HDR2.out ?_ ?_ _); (focus (first | omega | (simp; omega) | (simp; done)))) | ((with_reducible refine Rd.far' HDR2.out (by assumption) ?_ ?_); (focus (first | omega | (simp; omega) | (simp; done)))))) nB bB m HMM.out ?_; intro A6 c6 g6 w6 row6 gr6 gg6; have LX6 := Loc.carry LX5 (fun h => by ((repeat (first | with_reducible exact h | with_reducible refine Loc.drew ?_ | with_reducible refine Loc.drewN ?_ _ | with_reducible refine Loc.alloc ?_ _)); done)) gr6 (by first | omega | (simp; omega) | (simp; done)); have LR6 := Loc.carry LR5 (fun h => by ((repeat (first | with_reducible exact h | with_reducible refine Loc.drew ?_ | with_reducible refine Loc.drewN ?_ _ | with_reducible refine Loc.alloc ?_ _)); done)) gr6 (by first | omega | (simp; omega) | (simp; done)); obtain ⟨zz0, zz1, zzf⟩ := LX6.two; have zX6 := LX6.lt; have zR6 := LR6.lt; have hz6 := gr6.size; (try simp at hz6); (try simp at gg6)))
                  all_goals
                    go_wp2_with fail
                    go_meet
                    refine ⟨A6, c6, g6, by simpa using Loc.set LX6 1 (.slice A6 m c6), (by repeat (first | with_reducible exact LR6 | with_reducible refine Loc.drew ?_ | with_reducible refine Loc.drewN ?_ _ | with_reducible refine Loc.alloc ?_ _ | (with_reducible refine Loc.below ?_ (by assumption)) | ((with_reducible refine Loc.other' ?_ ?_ _); (focus (first | omega | (simp; omega) | (simp; done)))) | ((with_reducible refine Loc.far' (by assumption) ?_ ?_); (focus (first | omega | (simp; omega) | (simp; done)))))), (by repeat (first | with_reducible exact H1u.out | with_reducible refine Row.drew ?_ | with_reducible refine Row.drewN ?_ _ | with_reducible refine Row.alloc ?_ _ | (with_reducible refine Row.below ?_ (by assumption)) | ((with_reducible refine Row.other ?_ ?_ _); rotate_left; (focus (first | omega | (simp; omega) | (simp; done)))) | ((with_reducible refine Row.far' (by assumption) ?_ ?_); (focus (first | omega | (simp; omega) | (simp; done)))))), ?_, by omega, by omega, by omega, (by repeat (first | with_reducible exact Bu.out | with_reducible exact Below.refl _ _ | with_reducible refine below_drewN ?_ _ | with_reducible refine Below.drew ?_ | with_reducible refine Below.alloc ?_ ?_ _ | with_reducible refine Below.setCell ?_ ?_ _ | (with_reducible refine Below.next ?_ (by assumption)) | ((with_reducible refine Below.far' (by assumption) ?_ ?_ ?_); (focus (first | omega | (simp; omega) | (simp; done))); (focus (first | omega | (simp; omega) | (simp; done)))) | omega | (focus (simp; omega)) | (focus (simp; done))))⟩
                    rw [← HE.out]
                    exact Row.other row6.out (p := ⟨X, 1, none⟩) (by simp; omega) _
              case rest =>
                obtain ⟨A6, c6, g6, LX6, LR6, row16, row36, hg6X, hg61, hg6, B6⟩ := hcut
                obtain ⟨x0', x1', xf'⟩ := LX6.two
                obtain ⟨q0', q1', qf'⟩ := LR6.two
                have zX6 := LX6.lt
                have zR6 := LR6.lt
                clear y0 y1 yf q0 q1 qf LXu LRu H1u H3u Bu HT HE zXu zRu
                have H16 := Lib.hid row16
                have H36 := Lib.hid row36
                have BB6 := Lib.hid B6
                clear row16 row36 B6
                go_wp2_with fail
                go_loopw [10] (fun i wr => ∃ j : Nat, j ≤ s.whr.length ∧ i = .int .i64 j ∧ Loc wr X [.slice (some ⟨g1, 0, none⟩) s.whr.length c1, .slice A6 m c6] ∧ Loc wr (w.heap.size + 1) [.slice none 0 0, .slice none 0 0] ∧ Below w.heap.size w wr ∧ ∃ lk : List Int, Hid (lk = decTo (s.whr.set k (useN s.cps v : Nat)) o j) ∧ (lk.length ≤ s.whr.length ∧ s.whr.length ≤ lk.length) ∧ Row eInt wr g1 3 (some ⟨g1, 0, none⟩) c1 lk ∧ Row encCopyS wr g6 tyCopyS A6 c6 ((lessAt (useL s.cps v) o).eraseIdx o)) (fun i _ => s.whr.length - (intOf i).toNat)
                case atStart => exact ⟨0, Nat.zero_le _, rfl, LX6, LR6, BB6.out, _, Lib.hid (decTo_zero _ _).symm, by simp, H16.out, H36.out⟩
                case round =>
                  obtain ⟨j, hj, rfl, LXr, LRr, hbr, lk, HLK, ⟨hlk1, hlk2⟩, row1r, row3r⟩ := hrel
                  obtain ⟨x0, x1, xf⟩ := LXr.two
                  obtain ⟨q0, q1, qf⟩ := LRr.two
                  have zXr := LXr.lt
                  have zRr := LRr.lt
                  by_cases hlt : j < s.whr.length
                  · obtain ⟨-, hgl, hfz, hcc⟩ := row1r.int (by omega)
                    have hjk : j < lk.length := by omega
                    have hjl : j < (s.whr.set k (useN s.cps v : Nat)).length := by rw [hL1.out]; exact hlt
                    have hcj := hcc j hjk
                    have hlkj : Hid (lk[j]'hjk = (s.whr.set k (useN s.cps v : Nat))[j]'hjl) := Lib.hid (by simp only [HLK.out, decTo_get _ o j hjl])
                    have hrg := HRG.out _ (List.getElem_mem hjl)
                    have HLESS := Lib.hid (decTo_less (s.whr.set k (useN s.cps v : Nat)) o j hjl)
                    have HSAME := Lib.hid (decTo_same (s.whr.set k (useN s.cps v : Nat)) o j hjl)
                    rw [hlkj.out] at hcj
                    have HSET := fun x : Int => Lib.hid (row1r.setInt (k := j) hjk x)
                    obtain ⟨y, hy⟩ : ∃ y, y = (s.whr.set k (useN s.cps v : Nat))[j]'hjl := ⟨_, rfl⟩
                    rw [← hy] at hcj hrg HLESS HSAME
                    obtain ⟨hrg1, hrg2⟩ := hrg
                    have HS1 := HSET (y - 1)
                    have H3r := Lib.hid row3r
                    have H1r := Lib.hid row1r
                    have hfzj := hfz j
                    clear hcc hlkj hy HSET row3r row1r hfz
                    by_cases hgt : (o : Int) < y
                    · have HQ := Lib.hid (HLESS.out hgt)
                      go_wp2
                      go_still_tail 10, (by kernel_rfl)
                      change wpList _ _ _ _ _ wr.drew
                      go_wp2
                      go_roundw
                      case rel => exact ⟨j + 1, by omega, by go_num, (by repeat (first | with_reducible exact LXr | with_reducible refine Loc.drew ?_ | with_reducible refine Loc.drewN ?_ _ | with_reducible refine Loc.alloc ?_ _ | (with_reducible refine Loc.below ?_ (by assumption)) | ((with_reducible refine Loc.other' ?_ ?_ _); (focus (first | omega | (simp; omega) | (simp; done)))) | ((with_reducible refine Loc.far' (by assumption) ?_ ?_); (focus (first | omega | (simp; omega) | (simp; done)))))), (by repeat (first | with_reducible exact LRr | with_reducible refine Loc.drew ?_ | with_reducible refine Loc.drewN ?_ _ | with_reducible refine Loc.alloc ?_ _ | (with_reducible refine Loc.below ?_ (by assumption)) | ((with_reducible refine Loc.other' ?_ ?_ _); (focus (first | omega | (simp; omega) | (simp; done)))) | ((with_reducible refine Loc.far' (by assumption) ?_ ?_); (focus (first | omega | (simp; omega) | (simp; done)))))), (by repeat (first | with_reducible exact hbr | with_reducible exact Below.refl _ _ | with_reducible refine below_drewN ?_ _ | with_reducible refine Below.drew ?_ | with_reducible refine Below.alloc ?_ ?_ _ | with_reducible refine Below.setCell ?_ ?_ _ | (with_reducible refine Below.next ?_ (by assumption)) | ((with_reducible refine Below.far' (by assumption) ?_ ?_ ?_); (focus (first | omega | (simp; omega) | (simp; done))); (focus (first | omega | (simp; omega) | (simp; done)))) | omega | (focus (simp; omega)) | (focus (simp; done)))), lk.set j (y - 1), Lib.hid (by rw [HQ.out, HLK.out]), ⟨by simp; omega, by simp; omega⟩, (by repeat (first | with_reducible exact HS1.out | with_reducible refine Row.drew ?_ | with_reducible refine Row.drewN ?_ _ | with_reducible refine Row.alloc ?_ _ | (with_reducible refine Row.below ?_ (by assumption)) | ((with_reducible refine Row.other ?_ ?_ _); rotate_left; (focus (first | omega | (simp; omega) | (simp; done)))) | ((with_reducible refine Row.far' (by assumption) ?_ ?_); (focus (first | omega | (simp; omega) | (simp; done)))))), (by repeat (first | with_reducible exact H3r.out | with_reducible refine Row.drew ?_ | with_reducible refine Row.drewN ?_ _ | with_reducible refine Row.alloc ?_ _ | (with_reducible refine Row.below ?_ (by assumption)) | ((with_reducible refine Row.other ?_ ?_ _); rotate_left; (focus (first | omega | (simp; omega) | (simp; done)))) | ((with_reducible refine Row.far' (by assumption) ?_ ?_); (focus (first | omega | (simp; omega) | (simp; done))))))⟩
                      case measure => simp [intOf]; omega
                    · have HQ := Lib.hid (HSAME.out hgt)
                      go_wp2
                      go_roundw
                      case rel => exact ⟨j + 1, by omega, by go_num, LXr, LRr, hbr, lk, Lib.hid (by rw [HQ.out, HLK.out]), ⟨by omega, by omega⟩, H1r.out, H3r.out⟩
                      case measure => simp [intOf]; omega
                  · have hje : j = s.whr.length := by omega
                    have HE : Hid (putSh s k v = ⟨lk, (lessAt (useL s.cps v) o).eraseIdx o⟩) := Lib.hid (by rw [HDD.out, HLK.out, hje])
                    have H3r := Lib.hid row3r
                    have H1r := Lib.hid row1r
                    clear row3r row1r hje
                    go_wp2
                    refine bodyPost_ret (v := .agg #[.slice (some ⟨g1, 0, none⟩) s.whr.length c1, .slice A6 m c6]) (by simp [results, Try.results35, go_sem, *]; done) rfl ⟨_, _, rfl, ?_, ?_⟩
                    · rw [HY.out, Int.toNat_natCast, HE.out]
                      exact sharedOwn_rown (g1 := g1) (g2 := g6) (by repeat (first | with_reducible exact H1r.out | with_reducible refine Row.drew ?_ | with_reducible refine Row.drewN ?_ _ | with_reducible refine Row.alloc ?_ _ | (with_reducible refine Row.below ?_ (by assumption)) | ((with_reducible refine Row.other ?_ ?_ _); rotate_left; (focus (first | omega | (simp; omega) | (simp; done)))) | ((with_reducible refine Row.far' (by assumption) ?_ ?_); (focus (first | omega | (simp; omega) | (simp; done)))))) (by repeat (first | with_reducible exact H3r.out | with_reducible refine Row.drew ?_ | with_reducible refine Row.drewN ?_ _ | with_reducible refine Row.alloc ?_ _ | (with_reducible refine Row.below ?_ (by assumption)) | ((with_reducible refine Row.other ?_ ?_ _); rotate_left; (focus (first | omega | (simp; omega) | (simp; done)))) | ((with_reducible refine Row.far' (by assumption) ?_ ?_); (focus (first | omega | (simp; omega) | (simp; done)))))) (by omega) hLm.out (Ne.symm hg61) (by omega) (by omega)
                    · exact (by repeat (first | with_reducible exact hbr | with_reducible exact Below.refl _ _ | with_reducible refine below_drewN ?_ _ | with_reducible refine Below.drew ?_ | with_reducible refine Below.alloc ?_ ?_ _ | with_reducible refine Below.setCell ?_ ?_ _ | (with_reducible refine Below.next ?_ (by assumption)) | ((with_reducible refine Below.far' (by assumption) ?_ ?_ ?_); (focus (first | omega | (simp; omega) | (simp; done))); (focus (first | omega | (simp; omega) | (simp; done)))) | omega | (focus (simp; omega)) | (focus (simp; done))))
            · have hus0 : decide ((0 : Int) < us - 1) = true := by simp; omega
              have hus1 : ¬ us ≤ 1 := by omega
              have HPK := Lib.hid (HK.out (by omega))
              clear hus
              go_wp2
              refine bodyPost_ret (v := .agg #[.slice (some ⟨g1, 0, none⟩) s.whr.length c1, .slice (some ⟨g3, 0, none⟩) (useL s.cps v).length c3]) (by simp [results, Try.results35, go_sem, *]; done) rfl ⟨_, _, rfl, ?_, ?_⟩
              · rw [HY.out, Int.toNat_natCast, HPK.out]
                have HF1 : Hid (Row eInt ((V.setCell ⟨g3, o * 2 + 1, none⟩ (.int .i64 (us - 1))).setCell ⟨g1, k, none⟩ (.int .i64 (n : Int))) g1 3 (some ⟨g1, 0, none⟩) c1 (s.whr.set k (useN s.cps v : Nat))) := Lib.hid (by rw [HUN.out]; exact (Row.other H1v.out (p := ⟨g3, o * 2 + 1, none⟩) hg13 (.int .i64 (us - 1))).setInt hkl (n : Int))
                have HF2 := Lib.hid (Row.other HS.out (p := ⟨g1, k, none⟩) hg31 (.int .i64 (n : Int)))
                exact sharedOwn_rown (g1 := g1) (g2 := g3) (by repeat (first | with_reducible exact HF1.out | with_reducible refine Row.drew ?_ | with_reducible refine Row.drewN ?_ _ | with_reducible refine Row.alloc ?_ _ | (with_reducible refine Row.below ?_ (by assumption)) | ((with_reducible refine Row.other ?_ ?_ _); rotate_left; (focus (first | omega | (simp; omega) | (simp; done)))) | ((with_reducible refine Row.far' (by assumption) ?_ ?_); (focus (first | omega | (simp; omega) | (simp; done)))))) (by repeat (first | with_reducible exact HF2.out | with_reducible refine Row.drew ?_ | with_reducible refine Row.drewN ?_ _ | with_reducible refine Row.alloc ?_ _ | (with_reducible refine Row.below ?_ (by assumption)) | ((with_reducible refine Row.other ?_ ?_ _); rotate_left; (focus (first | omega | (simp; omega) | (simp; done)))) | ((with_reducible refine Row.far' (by assumption) ?_ ?_); (focus (first | omega | (simp; omega) | (simp; done)))))) hL1.out (lessAt_len _ _) (Ne.symm hg31) (by omega) (by omega)
              · exact (by repeat (first | with_reducible exact Bv.out | with_reducible exact Below.refl _ _ | with_reducible refine below_drewN ?_ _ | with_reducible refine Below.drew ?_ | with_reducible refine Below.alloc ?_ ?_ _ | with_reducible refine Below.setCell ?_ ?_ _ | (with_reducible refine Below.next ?_ (by assumption)) | ((with_reducible refine Below.far' (by assumption) ?_ ?_ ?_); (focus (first | omega | (simp; omega) | (simp; done))); (focus (first | omega | (simp; omega) | (simp; done)))) | omega | (focus (simp; omega)) | (focus (simp; done))))
end Go.Proofs.Ytpekccmhfkeadaa
