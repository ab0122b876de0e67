/-
  FnSharedWrite: the view after writing is the one before with the value at the sector; the volume stays valid; it has as many values as there are different ones. No condition.
-/
import Derived.Test.YtpekccmhfkeadaaBase
import Derived.Test.YtpekccmhfkeadaaNum
import Derived.Test.YtpekccmhfkeadaaInts
import Derived.Test.YtpekccmhfkeadaaApp
import Derived.Test.YtpekccmhfkeadaaIntsW
import Derived.Test.YtpekccmhfkeadaaLib
import Derived.Test.YtpekccmhfkeadaaSpares
import Derived.Test.YtpekccmhfkeadaaOwn
import Derived.Test.YtpekccmhfkeadaaCopy
import Derived.Test.YtpekccmhfkeadaaShared
import Derived.Test.YtpekccmhfkeadaaSharedM
import Derived.Test.YtpekccmhfkeadaaSharedC
import Derived.Test.YtpekccmhfkeadaaSharedV
import Derived.Test.YtpekccmhfkeadaaSharedU
import Derived.Test.YtpekccmhfkeadaaSharedD
import Derived.Test.YtpekccmhfkeadaaSharedWM
import Derived.Test.YtpekccmhfkeadaaDel
import Derived.Test.YtpekccmhfkeadaaThinC
import Derived.Test.YtpekccmhfkeadaaSharedP
import Derived.Test.YtpekccmhfkeadaaFlashX
import Derived.Test.YtpekccmhfkeadaaSharedPs
import Derived.Test.YtpekccmhfkeadaaSameSh
import Derived.Test.YtpekccmhfkeadaaDraw
import Derived.Test.YtpekccmhfkeadaaDrawK
import Derived.Test.YtpekccmhfkeadaaDrawD
import Derived.Test.YtpekccmhfkeadaaDrawShd
import Derived.Test.YtpekccmhfkeadaaDrawShw
import Derived.Test.YtpekccmhfkeadaaCopyB
import Derived.Test.YtpekccmhfkeadaaWriteS
import Derived.Test.YtpekccmhfkeadaaOpen
import Derived.Laws.StructEq
import Derived.IntWalk
import Derived.StillTailTactics
namespace Go.Proofs.Ytpekccmhfkeadaa
open Go.RowKit Go.ChangeShapes Go.WideShapes Go.ChangeAt Go.Deep Go.Joins
namespace LwSy
theorem put_where {s : Sh} {a v : Int} (h : 0 < (putS s a v).whr.length) : sharedB s = true ∧ ∃ k : Nat, a = k ∧ k < s.whr.length ∧ (0 ≤ v ∧ v ≤ 255) ∧ putS s a v = putSh s k v := by
  cases hp : putOk s a v
  · rw [putS_no hp] at h; simp at h
  · have hp' := hp
    unfold putOk at hp'
    simp only [Bool.and_eq_true, inB_true] at hp'
    obtain ⟨⟨h1, h2, h3⟩, h4⟩ := hp'
    obtain ⟨k, rfl⟩ := Int.eq_ofNat_of_zero_le h2
    refine ⟨h1, k, rfl, by omega, h4, ?_⟩
    rw [putS_yes hp, Int.toNat_natCast]
theorem sh_field (Aa Ab : Option Addr) (n m ca cb : Nat) (w : World) : (Instr.field 30 (.agg #[.slice Aa n ca, .slice Ab m cb]) 1).run Try.prog w = .ok (.slice Ab m cb) w := by kernel_rfl
theorem write1_srd {A : Option Addr} {c : Nat} {d v : List Int} (k : Nat) (y : Int) {B : Option Addr} {cv : Nat} {w : World} (hvw : v = d.set k y) (ha : SRd eInt w (.slice A d.length c) d) (hb : Rd eInt w B [y]) (hd : diskB d = true) (hk : k < d.length) (hv : 0 ≤ y ∧ y ≤ 255) :
    Calls Try.prog 36 #[.slice A d.length c, .int .i64 k, .slice B 1 cv] w (Fresh eInt 3 v w) := by
  obtain ⟨A', c', he, hr, _, _, hn⟩ := ha
  injection he with h1 h2 h3
  subst h1 h3
  rw [hvw]
  exact implWrite1_c A c d k y B cv w hr hn hb hd hk hv
theorem share_srd {A : Option Addr} {c : Nat} {v : List Int} {w : World} (ha : SRd eInt w (.slice A v.length c) v) (hl : v.length ≤ 1099511627776) :
    Calls Try.prog 18 #[.slice A v.length c] w (MadeShared (shareB v) w) := by
  obtain ⟨A', c', he, hr, _⟩ := ha
  injection he with h1 h2 h3
  subst h1 h3
  exact implShare_c A c v w hr hl
set_option maxHeartbeats 8000000 in
theorem walk (A : Option Addr) (c : Nat) (l : List Int) (w : World) (hl : l.length ≤ c) (hm : c ≤ maxLen) (hr : Rd eByte w A l) (hb : ∀ x ∈ l, 0 ≤ x ∧ x ≤ 255) :
    Calls Try.prog 11 #[.slice A l.length c] w fun e w' => e = .returned (.bool true) ∧ Below w.heap.size w w' := by
  have HB := Lib.hid hb
  clear hb
  by_cases hsz : (1048576 : Int) < l.length
  · unfold maxLen at hm
    go_enter Try.func11, Try.ntmps11
    go_wp2
    go_ret
    exact ⟨rfl, (by repeat (first | with_reducible exact Below.refl _ _ | with_reducible assumption | with_reducible refine below_drewN ?_ _ | with_reducible refine Below.drew ?_ | with_reducible refine Below.alloc ?_ ?_ _ | with_reducible refine Below.setCell ?_ ?_ _ | (with_reducible refine Below.next ?_ (by assumption)) | omega | (focus (simp; omega)) | (focus (simp; done))))⟩
  · go_enter Try.func11, Try.ntmps11
    go_wp2_with fail
    refine (drawShW_any A c l _ hl hm hr HB.out).mono ?_
    rintro e w1 ⟨y0, y1, s, x, y, rfl, hown, hs4, hb1⟩
    obtain ⟨Ay, cy, Ay', cy', rfl, rfl⟩ := sharedRd_lens (SharedOwn.rd hown)
    have hz1 := hb1.size
    have HB1 := Lib.hid hb1
    have HO1 := Lib.hid (SharedOwn.rd hown)
    clear hb1 hown
    have hszs : Hid (sizeShared s ≤ 1099511627776) := Lib.hid (by omega)
    have hwl : s.whr.length ≤ 400 := by unfold sizeShared at hs4; omega
    have LS := Loc.newAt w1 [.slice Ay s.whr.length cy, .slice Ay' s.cps.length cy'] 30 (b := w1.heap.size) rfl
    obtain ⟨p, hp⟩ : ∃ p, p = putS s x y := ⟨_, rfl⟩
    have HP := Lib.hid hp
    have hps : sizeShared p ≤ 401 := by have := putS_size s x y; rw [← hp] at this; omega
    have hpsz : Hid (sizeShared p ≤ 1099511627776) := Lib.hid (by omega)
    have hpw := @put_where s x y
    rw [← hp] at hpw
    have HPW := Lib.hid hpw
    clear hp hpw
    go_wp2_with fail
    refine (implPut_c _ _ s x y _ (SharedRd.below HO1.out (by repeat (first | with_reducible exact Below.refl _ _ | with_reducible refine below_drewN ?_ _ | with_reducible refine Below.drew ?_ | with_reducible refine Below.alloc ?_ ?_ _ | with_reducible refine Below.setCell ?_ ?_ _ | omega | (focus (simp; omega)) | (focus (simp; done))))) hszs.out).mono ?_
    rw [← HP.out]
    rintro e w2 ⟨q0, q1, rfl, O2, hb2⟩
    obtain ⟨Ap, cp, Ap', cp', rfl, rfl⟩ := sharedRd_lens (SharedOwn.rd O2)
    replace LS := Loc.carryB LS (fun h => by ((repeat (first | with_reducible exact h | with_reducible refine Loc.drew ?_ | with_reducible refine Loc.drewN ?_ _ | with_reducible refine Loc.alloc ?_ _)); done)) hb2
    obtain ⟨s0, s1, sf⟩ := LS.two
    have zS := LS.lt
    have HB2 : Hid (Below w.heap.size w w2) := Lib.hid (Below.next (W := w) (by repeat (first | with_reducible exact HB1.out | with_reducible exact Below.refl _ _ | with_reducible refine below_drewN ?_ _ | with_reducible refine Below.drew ?_ | with_reducible refine Below.alloc ?_ ?_ _ | with_reducible refine Below.setCell ?_ ?_ _ | (with_reducible refine Below.next ?_ (by assumption)) | ((with_reducible refine Below.far' (by assumption) ?_ ?_ ?_); (focus (first | omega | (simp; omega) | (simp; done))); (focus (first | omega | (simp; omega) | (simp; done)))) | omega | (focus (simp; omega)) | (focus (simp; done)))) hb2)
    have HO2 := Lib.hid (SharedRd.below HO1.out (Below.next (by repeat (first | with_reducible exact Below.refl _ _ | with_reducible refine below_drewN ?_ _ | with_reducible refine Below.drew ?_ | with_reducible refine Below.alloc ?_ ?_ _ | with_reducible refine Below.setCell ?_ ?_ _ | omega | (focus (simp; omega)) | (focus (simp; done)))) hb2))
    have HP2 := Lib.hid (SharedOwn.rd O2)
    have LX := Loc.newAt w2 [.slice Ap p.whr.length cp, .slice Ap' p.cps.length cp'] 30 (b := w2.heap.size) rfl
    have LSX := Loc.alloc LS (.cells #[.slice Ap p.whr.length cp, .slice Ap' p.cps.length cp'] 30)
    have j0 := (Loc.two LX).1
    have j1 := (Loc.two LX).2.1
    have i0 := (Loc.two LSX).1
    have i1 := (Loc.two LSX).2.1
    have hz2 := hb2.size
    (try simp at hz2)
    clear hb2 O2
    go_wp2_with fail
    go_region_held3 (fun w' => w'.cell? ⟨w1.heap.size, 0, none⟩ = some (.slice Ay s.whr.length cy) ∧ w'.cell? ⟨w1.heap.size, 1, none⟩ = some (.slice Ay' s.cps.length cy') ∧ w'.cell? ⟨w2.heap.size, 0, none⟩ = some (.slice Ap p.whr.length cp) ∧ w'.cell? ⟨w2.heap.size, 1, none⟩ = some (.slice Ap' p.cps.length cp')) (first | (with_reducible assumption) | (refine ⟨?_, ?_, ?_, ?_⟩ <;> with_reducible assumption) | go_keep | (refine ⟨?_, ?_, ?_, ?_⟩ <;> (simp [go_sem, *]; done))) (first
      | (go_at_call 35; go_must ((with_reducible refine (specPut_c _ _ s x y _ (SharedRd.below HO2.out (by repeat (first | with_reducible exact Below.refl _ _ | with_reducible refine below_drewN ?_ _ | with_reducible refine Below.drew ?_ | with_reducible refine Below.alloc ?_ ?_ _ | with_reducible refine Below.setCell ?_ ?_ _ | omega | (focus (simp; omega)) | (focus (simp; done))))) hszs.out).mono ?_); rw [← HP.out]; rintro e w3 ⟨z0, z1, rfl, O3, hb3⟩; have LX3 := Loc.carryB LX (fun h => by ((repeat (first | with_reducible exact h | with_reducible refine Loc.drew ?_ | with_reducible refine Loc.drewN ?_ _ | with_reducible refine Loc.alloc ?_ _)); done)) hb3; obtain ⟨x0, x1, xf⟩ := LX3.two; have zX := LX3.lt; have LS3 := Loc.carryB LS (fun h => by ((repeat (first | with_reducible exact h | with_reducible refine Loc.drew ?_ | with_reducible refine Loc.drewN ?_ _ | with_reducible refine Loc.alloc ?_ _)); done)) hb3; obtain ⟨t0, t1, tf⟩ := LS3.two; have zS3 := LS3.lt; have H3 := Lib.hid (SharedOwn.rd O3); have HB3 : Hid (Below w.heap.size w w3) := Lib.hid (Below.next (W := w) (by repeat (first | with_reducible exact HB2.out | with_reducible exact Below.refl _ _ | with_reducible refine below_drewN ?_ _ | with_reducible refine Below.drew ?_ | with_reducible refine Below.alloc ?_ ?_ _ | with_reducible refine Below.setCell ?_ ?_ _ | (with_reducible refine Below.next ?_ (by assumption)) | ((with_reducible refine Below.far' (by assumption) ?_ ?_ ?_); (focus (first | omega | (simp; omega) | (simp; done))); (focus (first | omega | (simp; omega) | (simp; done)))) | omega | (focus (simp; omega)) | (focus (simp; done)))) hb3); have HO3 := Lib.hid (SharedRd.below HO2.out (Below.next (by repeat (first | with_reducible exact Below.refl _ _ | with_reducible refine below_drewN ?_ _ | with_reducible refine Below.drew ?_ | with_reducible refine Below.alloc ?_ ?_ _ | with_reducible refine Below.setCell ?_ ?_ _ | omega | (focus (simp; omega)) | (focus (simp; done)))) hb3)); have HP3 := Lib.hid (SharedRd.below HP2.out (Below.next (by repeat (first | with_reducible exact Below.refl _ _ | with_reducible refine below_drewN ?_ _ | with_reducible refine Below.drew ?_ | with_reducible refine Below.alloc ?_ ?_ _ | with_reducible refine Below.setCell ?_ ?_ _ | omega | (focus (simp; omega)) | (focus (simp; done)))) hb3)); have hz3 := hb3.size; (try simp at hz3); clear O3 hb3))
      | (go_at_call 19; go_must ((with_reducible refine (sameShared_c _ _ _ _ p _ (SharedRd.below HP3.out (by repeat (first | with_reducible exact Below.refl _ _ | with_reducible refine below_drewN ?_ _ | with_reducible refine Below.drew ?_ | with_reducible refine Below.alloc ?_ ?_ _ | with_reducible refine Below.setCell ?_ ?_ _ | omega | (focus (simp; omega)) | (focus (simp; done))))) (SharedRd.below H3.out (by repeat (first | with_reducible exact Below.refl _ _ | with_reducible refine below_drewN ?_ _ | with_reducible refine Below.drew ?_ | with_reducible refine Below.alloc ?_ ?_ _ | with_reducible refine Below.setCell ?_ ?_ _ | omega | (focus (simp; omega)) | (focus (simp; done))))) hpsz.out).mono ?_); rintro e w4 ⟨rfl, hb4⟩; have LX4 := Loc.carryB LX3 (fun h => by ((repeat (first | with_reducible exact h | with_reducible refine Loc.drew ?_ | with_reducible refine Loc.drewN ?_ _ | with_reducible refine Loc.alloc ?_ _)); done)) hb4; obtain ⟨u0, u1, uf⟩ := LX4.two; have zX4 := LX4.lt; have LS4 := Loc.carryB LS3 (fun h => by ((repeat (first | with_reducible exact h | with_reducible refine Loc.drew ?_ | with_reducible refine Loc.drewN ?_ _ | with_reducible refine Loc.alloc ?_ _)); done)) hb4; obtain ⟨v0, v1, vf⟩ := LS4.two; have zS4 := LS4.lt; have HB4 : Hid (Below w.heap.size w w4) := Lib.hid (Below.next (W := w) (by repeat (first | with_reducible exact HB3.out | with_reducible exact Below.refl _ _ | with_reducible refine below_drewN ?_ _ | with_reducible refine Below.drew ?_ | with_reducible refine Below.alloc ?_ ?_ _ | with_reducible refine Below.setCell ?_ ?_ _ | (with_reducible refine Below.next ?_ (by assumption)) | ((with_reducible refine Below.far' (by assumption) ?_ ?_ ?_); (focus (first | omega | (simp; omega) | (simp; done))); (focus (first | omega | (simp; omega) | (simp; done)))) | omega | (focus (simp; omega)) | (focus (simp; done)))) hb4); have HO4 := Lib.hid (SharedRd.below HO3.out (Below.next (by repeat (first | with_reducible exact Below.refl _ _ | with_reducible refine below_drewN ?_ _ | with_reducible refine Below.drew ?_ | with_reducible refine Below.alloc ?_ ?_ _ | with_reducible refine Below.setCell ?_ ?_ _ | omega | (focus (simp; omega)) | (focus (simp; done)))) hb4)); have HP4 := Lib.hid (SharedRd.below HP3.out (Below.next (by repeat (first | with_reducible exact Below.refl _ _ | with_reducible refine below_drewN ?_ _ | with_reducible refine Below.drew ?_ | with_reducible refine Below.alloc ?_ ?_ _ | with_reducible refine Below.setCell ?_ ?_ _ | omega | (focus (simp; omega)) | (focus (simp; done)))) hb4)); have hz4 := hb4.size; (try simp at hz4); clear hb4)))
    clear s0 s1 sf j0 j1 i0 i1 x0 x1 xf t0 t1 tf LS LX LSX LX3 LS3 H3 HO1 HO2 HO3 HP2 HP3 HB1 HB2 HB3
    by_cases h0 : p.whr.length = 0
    · have h0' : ((p.whr.length : Int) == 0) = true := by simp [h0]
      clear h0
      go_wp2_with (go_at_call 21; refine (alive_any _).mono ?_; rintro e w6 ⟨rfl, hb6⟩)
      go_ret
      exact ⟨rfl, Below.next (W := w) HB4.out hb6⟩
    · have h0' : ((p.whr.length : Int) == 0) = false := by rw [beq_eq_false_iff_ne]; omega
      obtain ⟨hsv, k, rfl, hk, hy, hpe⟩ := HPW.out (by omega)
      obtain ⟨hpv, hvw⟩ := putSh_ok hsv hk hy
      have hcnt := putSh_count hsv hk hy
      rw [← hpe] at hpv hvw hcnt
      have HPV := Lib.hid hpv
      have HSV := Lib.hid hsv
      obtain ⟨v, hv⟩ : ∃ v, v = shView p := ⟨_, rfl⟩
      obtain ⟨d, hd⟩ : ∃ d, d = shView s := ⟨_, rfl⟩
      have hvp : viewS p = v := by rw [viewS_yes hpv, hv]
      have hvs : viewS s = d := by rw [viewS_yes hsv, hd]
      have hvl : v.length = p.whr.length := by rw [hv, shView_length]
      have hdl : d.length = s.whr.length := by rw [hd, shView_length]
      have hdd : diskB d = true := by rw [hd]; exact shView_disk hsv
      rw [← hv, ← hd] at hvw
      rw [← hv] at hcnt
      have HVP := Lib.hid hvp
      have HVS := Lib.hid hvs
      have HVW := Lib.hid hvw
      have HCNT := Lib.hid hcnt
      have HDD := Lib.hid hdd
      have hkd : k < d.length := by omega
      have hvl4 : v.length ≤ 401 := by unfold sizeShared at hps; omega
      have hdl4 : d.length ≤ 401 := by omega
      clear hpv hvw hcnt hsv hv hd hvp hvs hdd h0 hpe hvl hdl
      go_wp2_with fail
      refine (implSView_c _ _ p _ (SharedRd.below HP4.out (by repeat (first | with_reducible exact Below.refl _ _ | with_reducible refine below_drewN ?_ _ | with_reducible refine Below.drew ?_ | with_reducible refine Below.alloc ?_ ?_ _ | with_reducible refine Below.setCell ?_ ?_ _ | omega | (focus (simp; omega)) | (focus (simp; done))))) hpsz.out).mono ?_
      rw [HVP.out]
      rintro e w5 ⟨u5, rfl, O5, hb5⟩
      obtain ⟨A5, c5, g5, rfl, -, -⟩ := id O5
      have LX5 := Loc.carryB LX4 (fun h => by ((repeat (first | with_reducible exact h | with_reducible refine Loc.drew ?_ | with_reducible refine Loc.drewN ?_ _ | with_reducible refine Loc.alloc ?_ _)); done)) hb5
      have LS5 := Loc.carryB LS4 (fun h => by ((repeat (first | with_reducible exact h | with_reducible refine Loc.drew ?_ | with_reducible refine Loc.drewN ?_ _ | with_reducible refine Loc.alloc ?_ _)); done)) hb5
      have HB5 : Hid (Below w.heap.size w w5) := Lib.hid (Below.next (W := w) (by repeat (first | with_reducible exact HB4.out | with_reducible exact Below.refl _ _ | with_reducible refine below_drewN ?_ _ | with_reducible refine Below.drew ?_ | with_reducible refine Below.alloc ?_ ?_ _ | with_reducible refine Below.setCell ?_ ?_ _ | (with_reducible refine Below.next ?_ (by assumption)) | ((with_reducible refine Below.far' (by assumption) ?_ ?_ ?_); (focus (first | omega | (simp; omega) | (simp; done))); (focus (first | omega | (simp; omega) | (simp; done)))) | omega | (focus (simp; omega)) | (focus (simp; done)))) hb5)
      have HO5 := Lib.hid (SharedRd.below HO4.out (Below.next (by repeat (first | with_reducible exact Below.refl _ _ | with_reducible refine below_drewN ?_ _ | with_reducible refine Below.drew ?_ | with_reducible refine Below.alloc ?_ ?_ _ | with_reducible refine Below.setCell ?_ ?_ _ | omega | (focus (simp; omega)) | (focus (simp; done)))) hb5))
      have HP5 := Lib.hid (SharedRd.below HP4.out (Below.next (by repeat (first | with_reducible exact Below.refl _ _ | with_reducible refine below_drewN ?_ _ | with_reducible refine Below.drew ?_ | with_reducible refine Below.alloc ?_ ?_ _ | with_reducible refine Below.setCell ?_ ?_ _ | omega | (focus (simp; omega)) | (focus (simp; done)))) hb5))
      have hz5 := hb5.size
      (try simp at hz5)
      have zX5 := LX5.lt
      have zS5 := LS5.lt
      have H5 := Lib.hid O5
      clear hb5 O5 u0 u1 uf v0 v1 vf LX4 LS4 HB4 HO4 HP4
      obtain ⟨x0, x1, xf⟩ := LX5.two
      obtain ⟨s0, s1, sf⟩ := LS5.two
      obtain ⟨sv, hsv⟩ : ∃ sv, sv = shareB v := ⟨_, rfl⟩
      have HSH := Lib.hid hsv
      have hcq : ((sv.cps.length : Int) == (p.cps.length : Int)) = true := by
        have := HCNT.out
        rw [← hsv] at this
        simp [this]
      have HS5 := Lib.hid (SOwn.rd H5.out)
      have hfd := sh_field
      clear hsv
      go_wp2_with fail
      go_region_held3 (fun w' => w'.cell? ⟨w1.heap.size, 0, none⟩ = some (.slice Ay s.whr.length cy) ∧ w'.cell? ⟨w1.heap.size, 1, none⟩ = some (.slice Ay' s.cps.length cy') ∧ w'.cell? ⟨w2.heap.size, 0, none⟩ = some (.slice Ap p.whr.length cp) ∧ w'.cell? ⟨w2.heap.size, 1, none⟩ = some (.slice Ap' p.cps.length cp')) (first | (with_reducible assumption) | (refine ⟨?_, ?_, ?_, ?_⟩ <;> with_reducible assumption) | go_keep | (refine ⟨?_, ?_, ?_, ?_⟩ <;> (simp [go_sem, *]; done))) (first
        | (go_at_call 15; go_must ((with_reducible refine (implShared_c _ _ p _ (SharedRd.below HP5.out (by repeat (first | with_reducible exact Below.refl _ _ | with_reducible refine below_drewN ?_ _ | with_reducible refine Below.drew ?_ | with_reducible refine Below.alloc ?_ ?_ _ | with_reducible refine Below.setCell ?_ ?_ _ | omega | (focus (simp; omega)) | (focus (simp; done))))) hpsz.out).mono ?_); rw [HPV.out]; rintro e w6 ⟨rfl, hb6⟩; have LX6 := Loc.carryB LX5 (fun h => by ((repeat (first | with_reducible exact h | with_reducible refine Loc.drew ?_ | with_reducible refine Loc.drewN ?_ _ | with_reducible refine Loc.alloc ?_ _)); done)) hb6; obtain ⟨a0, a1, af⟩ := LX6.two; have zX6 := LX6.lt; have LS6 := Loc.carryB LS5 (fun h => by ((repeat (first | with_reducible exact h | with_reducible refine Loc.drew ?_ | with_reducible refine Loc.drewN ?_ _ | with_reducible refine Loc.alloc ?_ _)); done)) hb6; obtain ⟨b0, b1, bf⟩ := LS6.two; have zS6 := LS6.lt; have HB6 : Hid (Below w.heap.size w w6) := Lib.hid (Below.next (W := w) (by repeat (first | with_reducible exact HB5.out | with_reducible exact Below.refl _ _ | with_reducible refine below_drewN ?_ _ | with_reducible refine Below.drew ?_ | with_reducible refine Below.alloc ?_ ?_ _ | with_reducible refine Below.setCell ?_ ?_ _ | (with_reducible refine Below.next ?_ (by assumption)) | ((with_reducible refine Below.far' (by assumption) ?_ ?_ ?_); (focus (first | omega | (simp; omega) | (simp; done))); (focus (first | omega | (simp; omega) | (simp; done)))) | omega | (focus (simp; omega)) | (focus (simp; done)))) hb6); have HO6 := Lib.hid (SharedRd.below HO5.out (Below.next (by repeat (first | with_reducible exact Below.refl _ _ | with_reducible refine below_drewN ?_ _ | with_reducible refine Below.drew ?_ | with_reducible refine Below.alloc ?_ ?_ _ | with_reducible refine Below.setCell ?_ ?_ _ | omega | (focus (simp; omega)) | (focus (simp; done)))) hb6)); have HS6 := Lib.hid (SRd.below HS5.out (Below.next (by repeat (first | with_reducible exact Below.refl _ _ | with_reducible refine below_drewN ?_ _ | with_reducible refine Below.drew ?_ | with_reducible refine Below.alloc ?_ ?_ _ | with_reducible refine Below.setCell ?_ ?_ _ | omega | (focus (simp; omega)) | (focus (simp; done)))) hb6)); have hz6 := hb6.size; (try simp at hz6); clear hb6))
        | (go_at_call 23; go_must ((with_reducible refine (implSView_c _ _ s _ (SharedRd.below HO6.out (by repeat (first | with_reducible exact Below.refl _ _ | with_reducible refine below_drewN ?_ _ | with_reducible refine Below.drew ?_ | with_reducible refine Below.alloc ?_ ?_ _ | with_reducible refine Below.setCell ?_ ?_ _ | omega | (focus (simp; omega)) | (focus (simp; done))))) hszs.out).mono ?_); rw [HVS.out]; rintro e w7 ⟨u7, rfl, O7, hb7⟩; obtain ⟨A7, c7, g7, rfl, -, -⟩ := id O7; have LX7 := Loc.carryB LX6 (fun h => by ((repeat (first | with_reducible exact h | with_reducible refine Loc.drew ?_ | with_reducible refine Loc.drewN ?_ _ | with_reducible refine Loc.alloc ?_ _)); done)) hb7; obtain ⟨c0, c1, cf⟩ := LX7.two; have zX7 := LX7.lt; have LS7 := Loc.carryB LS6 (fun h => by ((repeat (first | with_reducible exact h | with_reducible refine Loc.drew ?_ | with_reducible refine Loc.drewN ?_ _ | with_reducible refine Loc.alloc ?_ _)); done)) hb7; obtain ⟨d0, d1, df⟩ := LS7.two; have zS7 := LS7.lt; have HB7 : Hid (Below w.heap.size w w7) := Lib.hid (Below.next (W := w) (by repeat (first | with_reducible exact HB6.out | with_reducible exact Below.refl _ _ | with_reducible refine below_drewN ?_ _ | with_reducible refine Below.drew ?_ | with_reducible refine Below.alloc ?_ ?_ _ | with_reducible refine Below.setCell ?_ ?_ _ | (with_reducible refine Below.next ?_ (by assumption)) | ((with_reducible refine Below.far' (by assumption) ?_ ?_ ?_); (focus (first | omega | (simp; omega) | (simp; done))); (focus (first | omega | (simp; omega) | (simp; done)))) | omega | (focus (simp; omega)) | (focus (simp; done)))) hb7); have HS7 := Lib.hid (SRd.below HS6.out (Below.next (by repeat (first | with_reducible exact Below.refl _ _ | with_reducible refine below_drewN ?_ _ | with_reducible refine Below.drew ?_ | with_reducible refine Below.alloc ?_ ?_ _ | with_reducible refine Below.setCell ?_ ?_ _ | omega | (focus (simp; omega)) | (focus (simp; done)))) hb7)); have hz7 := hb7.size; (try simp at hz7); have HD7 := Lib.hid (SOwn.rd O7); clear O7))
        | (go_at_call 36; go_must ((with_reducible refine (write1_srd k y HVW.out (SRd.below HD7.out (by repeat (first | with_reducible exact Below.refl _ _ | with_reducible refine below_drewN ?_ _ | with_reducible refine Below.drew ?_ | with_reducible refine Below.alloc ?_ ?_ _ | with_reducible refine Below.setCell ?_ ?_ _ | omega | (focus (simp; omega)) | (focus (simp; done))))) ?_ HDD.out hkd hy).mono ?_); (focus (exact (by repeat (first | ((with_reducible refine Rd.lit ?_ ?_); (focus (first | with_reducible rfl | omega | (simp; omega) | (simp; done))); (focus (first | rfl | (simp; rfl) | (simp; done)))) | with_reducible refine Rd.drew ?_ | with_reducible refine Rd.drewN ?_ _ | with_reducible refine Rd.alloc ?_ _ | (with_reducible refine Rd.below ?_ (by assumption)))))); rintro e w8 ⟨A8, c8, g8, rfl, hg8, row8, hb8⟩; have LX8 := Loc.carryB LX7 (fun h => by ((repeat (first | with_reducible exact h | with_reducible refine Loc.drew ?_ | with_reducible refine Loc.drewN ?_ _ | with_reducible refine Loc.alloc ?_ _)); done)) hb8; obtain ⟨e0, e1, ef⟩ := LX8.two; have zX8 := LX8.lt; have LS8 := Loc.carryB LS7 (fun h => by ((repeat (first | with_reducible exact h | with_reducible refine Loc.drew ?_ | with_reducible refine Loc.drewN ?_ _ | with_reducible refine Loc.alloc ?_ _)); done)) hb8; obtain ⟨f0, f1, ff⟩ := LS8.two; have zS8 := LS8.lt; have HB8 : Hid (Below w.heap.size w w8) := Lib.hid (Below.next (W := w) (by repeat (first | with_reducible exact HB7.out | with_reducible exact Below.refl _ _ | with_reducible refine below_drewN ?_ _ | with_reducible refine Below.drew ?_ | with_reducible refine Below.alloc ?_ ?_ _ | with_reducible refine Below.setCell ?_ ?_ _ | (with_reducible refine Below.next ?_ (by assumption)) | ((with_reducible refine Below.far' (by assumption) ?_ ?_ ?_); (focus (first | omega | (simp; omega) | (simp; done))); (focus (first | omega | (simp; omega) | (simp; done)))) | omega | (focus (simp; omega)) | (focus (simp; done)))) hb8); have HS8 := Lib.hid (SRd.below HS7.out (Below.next (by repeat (first | with_reducible exact Below.refl _ _ | with_reducible refine below_drewN ?_ _ | with_reducible refine Below.drew ?_ | with_reducible refine Below.alloc ?_ ?_ _ | with_reducible refine Below.setCell ?_ ?_ _ | omega | (focus (simp; omega)) | (focus (simp; done)))) hb8)); have hz8 := hb8.size; (try simp at hz8); have HD8 : Hid (SRd eInt w8 (.slice A8 v.length c8) v) := Lib.hid (SOwn.rd (SOwn.of_fresh row8 (Nat.le_refl g8))); clear hb8 row8))
        | (go_at_call 22; go_must ((with_reducible refine (sameInts_v (.slice A5 v.length c5) (.slice A8 v.length c8) v v _ (SRd.below HS8.out (by repeat (first | with_reducible exact Below.refl _ _ | with_reducible refine below_drewN ?_ _ | with_reducible refine Below.drew ?_ | with_reducible refine Below.alloc ?_ ?_ _ | with_reducible refine Below.setCell ?_ ?_ _ | omega | (focus (simp; omega)) | (focus (simp; done))))) (SRd.below HD8.out (by repeat (first | with_reducible exact Below.refl _ _ | with_reducible refine below_drewN ?_ _ | with_reducible refine Below.drew ?_ | with_reducible refine Below.alloc ?_ ?_ _ | with_reducible refine Below.setCell ?_ ?_ _ | omega | (focus (simp; omega)) | (focus (simp; done))))) (by omega) (by omega)).mono ?_); rw [dec_reflS]; rintro e w9 ⟨rfl, q9, rfl⟩))
        | (go_at_call 18; go_must ((with_reducible refine (share_srd (v := v) (SRd.below HS8.out (by repeat (first | with_reducible exact Below.refl _ _ | with_reducible refine below_drewN ?_ _ | with_reducible refine Below.drew ?_ | with_reducible refine Below.alloc ?_ ?_ _ | with_reducible refine Below.setCell ?_ ?_ _ | omega | (focus (simp; omega)) | (focus (simp; done))))) (by omega)).mono ?_); rw [← HSH.out]; rintro e w10 ⟨z0, z1, rfl, O10, hb10⟩; obtain ⟨Aa, ca, Ab, cb, rfl, rfl⟩ := sharedRd_lens (SharedOwn.rd O10); have LX10 := Loc.carryB LX8 (fun h => by ((repeat (first | with_reducible exact h | with_reducible refine Loc.drew ?_ | with_reducible refine Loc.drewN ?_ _ | with_reducible refine Loc.alloc ?_ _)); done)) hb10; obtain ⟨g0, g1, gf⟩ := LX10.two; have zX10 := LX10.lt; have LS10 := Loc.carryB LS8 (fun h => by ((repeat (first | with_reducible exact h | with_reducible refine Loc.drew ?_ | with_reducible refine Loc.drewN ?_ _ | with_reducible refine Loc.alloc ?_ _)); done)) hb10; obtain ⟨i0, i1, if0⟩ := LS10.two; have HB10 : Hid (Below w.heap.size w w10) := Lib.hid (Below.next (W := w) (by repeat (first | with_reducible exact HB8.out | with_reducible exact Below.refl _ _ | with_reducible refine below_drewN ?_ _ | with_reducible refine Below.drew ?_ | with_reducible refine Below.alloc ?_ ?_ _ | with_reducible refine Below.setCell ?_ ?_ _ | (with_reducible refine Below.next ?_ (by assumption)) | ((with_reducible refine Below.far' (by assumption) ?_ ?_ ?_); (focus (first | omega | (simp; omega) | (simp; done))); (focus (first | omega | (simp; omega) | (simp; done)))) | omega | (focus (simp; omega)) | (focus (simp; done)))) hb10); clear hb10 O10)))
      all_goals
        go_wp2
        go_ret
        exact ⟨rfl, HB10.out⟩
set_option maxRecDepth 100000 in
theorem lifted (os : Os) (started : os.Started) (H : Type) (enc : TypeId × Value → H) :
    ReturnsInHanded {} Try.checked os 11 .any (Rows.fnSharedWriteSpec.pre6 enc Try.prog Try.f11 Rows.fnSharedWriteRow.domain false) (Rows.fnSharedWriteSpec.post enc Try.prog Try.f11 false true false false) := by
  refine returnsInHanded_of_change (C := Try.checked) own_knob started (by kernel_rfl) Try.func11
    (ChangeSpec.witness6 (enc := enc) (C := Try.checked) false ⟨#[], #[.slice none 0 0], []⟩ 8 (by kernel_rfl) (by kernel_rfl) (by kernel_rfl) (by kernel_rfl)) ?_
  intro W base args ds gs before hval0 hW hcnd _
  have hval : ∀ (j : Nat) t v, Try.f11.params[j]? = some t → args[j]? = some v → Value.okWide Try.prog W .any base t v := hval0
  have hW' := hW
  obtain ⟨p, q, hA0, hV, rfl, hfz, hnd⟩ := hW
  have hA : DataW.TrodAll enc Try.prog W 0 (fun _ => true) true Try.f11.params.toList args.toList ds p := hA0
  rw [Try.params11] at hA hval
  obtain ⟨v0, vs0, d0, ds0, p0, q0, hargs, rfl, rfl, h0, r0⟩ := trodAll_cons hA
  obtain ⟨rfl, rfl, rfl⟩ := trodAll_nil r0
  obtain rfl : args = #[v0] := by cases args; simp_all
  obtain ⟨rfl, rfl⟩ := trodVars_none hV
  have k0 := h0
  have lt0 : ∀ x ∈ p0, x.block < W.heap.size := by obtain ⟨m, hm⟩ := k0; exact DataW.trod_lt m _ _ _ hm
  obtain ⟨A0, c0, l0, rfl, hl0, hm0, rd0, by0⟩ := open_bytes Try.underlying34 Try.underlying5 (by kernel_rfl) (hval 0 34 v0 rfl rfl) h0
  clear hA0 hval0
  refine (walk A0 c0 l0 W hl0 hm0 rd0 by0).mono fun e W' ⟨he, bel⟩ => ?_
  subst he
  exact ⟨_, rfl, _, _, _, [], _, [], hW', trodAll_mk1 (shut_bool Try.underlying4 _), (trodAll_cons_mk (Below.trod laid_out (by kernel_rfl) (of_decide_eq_true (by kernel_rfl)) k0 bel lt0) trodAll_mk0), rfl, bel.frame _, fun h => by cases h⟩
theorem over : Rows.fnSharedWriteRow.holds Try.pinned (OpenSpec.ofChange Rows.fnSharedWriteSpec) :=
  OpenClaim.holds_of_wide 11 Try.f11 rfl rfl rfl rfl rfl rfl rfl ⟨rfl, rfl, rfl, rfl, rfl⟩ rfl rfl rfl rfl rfl (by kernel_rfl) Try.func11 (by kernel_rfl)
    (of_decide_eq_true (by kernel_rfl)) (by unfold Func.isWrapper; first | (rw [if_pos (by decide +kernel)]; kernel_rfl) | (rw [if_neg (by decide +kernel)]; exact ⟨rfl, rfl⟩))
    (fun os started H enc _ => lifted os started H enc)
theorem proved : Rows.FnSharedWriteSaid := over
end LwSy
end Go.Proofs.Ytpekccmhfkeadaa
