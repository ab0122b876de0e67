/-
  Slices as values: what reads as a list, and what lies in new blocks of its own. No condition: plain lemmas, and the int slices' contracts in these words.
-/
import Derived.Test.YtnnanknljpkdeaaBase
import Derived.Test.YtnnanknljpkdeaaNum
import Derived.Test.YtnnanknljpkdeaaInts
import Derived.Test.YtnnanknljpkdeaaApp
import Derived.Test.YtnnanknljpkdeaaIntsW
namespace Go.Proofs.Ytnnanknljpkdeaa
open Go.RowKit
/-- w' is w with new blocks, and with writes to blocks from B to C alone. -/
structure GIn (B C : Nat) (w w' : World) : Prop where
  os : w'.os = w.os
  tape : w'.tape = w.tape
  output : w'.output = w.output
  size : w.heap.size ≤ w'.heap.size
  block : ∀ k, k < w.heap.size → ¬ (B ≤ k ∧ k < C) → w'.heap[k]? = w.heap[k]?
theorem GIn.refl (B C : Nat) (w : World) : GIn B C w w := ⟨rfl, rfl, rfl, Nat.le_refl _, fun _ _ _ => rfl⟩
theorem GIn.trans {B C : Nat} {a b c : World} (h : GIn B C a b) (k : GIn B C b c) : GIn B C a c :=
  ⟨k.os.trans h.os, k.tape.trans h.tape, k.output.trans h.output, Nat.le_trans h.size k.size, fun i hi hn => (k.block i (Nat.lt_of_lt_of_le hi h.size) hn).trans (h.block i hi hn)⟩
theorem GIn.of_below {B C : Nat} {a b : World} (h : Below a.heap.size a b) : GIn B C a b := ⟨h.os, h.tape, h.output, h.size, fun i hi _ => h.block i hi⟩
theorem GIn.of_grown {B C g : Nat} {a b : World} (h : a.grownBy b (some g)) (h1 : B ≤ g) (h2 : g < C) : GIn B C a b :=
  ⟨h.os, h.tape, h.output, h.size, fun i hi hn => h.block i hi (fun e => by injection e with e; subst e; exact hn ⟨h1, h2⟩)⟩
theorem GIn.mono {B C B' C' : Nat} {a b : World} (h : GIn B C a b) (h1 : B' ≤ B) (h2 : C ≤ C') : GIn B' C' a b :=
  ⟨h.os, h.tape, h.output, h.size, fun i hi hn => h.block i hi (fun hh => hn ⟨by omega, by omega⟩)⟩
theorem Below.gin {D B C : Nat} {a w w' : World} (h : Below D a w) (hg : GIn B C w w') (hD : D ≤ w.heap.size) (hB : D ≤ B) : Below D a w' :=
  ⟨hg.os.trans h.os, hg.tape.trans h.tape, hg.output.trans h.output, Nat.le_trans h.size hg.size, fun i hi => (hg.block i (by omega) (by omega)).trans (h.block i hi)⟩
theorem Loc.gin {B C b : Nat} {w w' : World} {cs : List Value} (h : Loc w b cs) (hg : GIn B C w w') (hne : b < B ∨ C ≤ b) : Loc w' b cs := h.keep (hg.block b h.lt (by omega))
theorem Loc.carryG {w0 w w' : World} {b B C : Nat} {cs : List Value} (h : Loc w0 b cs) (up : Loc w0 b cs → Loc w b cs) (hg : GIn B C w w') (hne : b < B ∨ C ≤ b) : Loc w' b cs := (up h).gin hg hne
/-- The slice v reads in w as the list l. -/
def SRd {α : Type} (E : Enc α) (w : World) (v : Value) (l : List α) : Prop := ∃ A c, v = .slice A l.length c ∧ Rd E w A l ∧ l.length ≤ c ∧ l.length ≤ maxLen ∧ (A = none → c = 0)
/-- The slice v, whose block lies from B on and below C, is ours to write, and reads as l. -/
def SOwn {α : Type} (E : Enc α) (e : TypeId) (B : Nat) (w : World) (C : Nat) (v : Value) (l : List α) : Prop := ∃ A c g, v = .slice A l.length c ∧ Row E w g e A c l ∧ (A = none ∨ (B ≤ g ∧ g < C))
/-- Two slices that lie in different blocks. -/
def Apart (v v' : Value) : Prop := ∀ a n c a' n' c', v = .slice (some a) n c → v' = .slice (some a') n' c' → a.block ≠ a'.block
theorem Apart.symm {v v' : Value} (h : Apart v v') : Apart v' v := fun a n c a' n' c' h1 h2 => (h a' n' c' a n c h2 h1).symm
theorem Row.addr {α : Type} {E : Enc α} {w : World} {g : Nat} {e : TypeId} {a : Addr} {c : Nat} {l : List α} (h : Row E w g e (some a) c l) : a = ⟨g, 0, none⟩ := by
  rcases h with ⟨h, _⟩ | ⟨cur, h, _⟩
  · cases h
  · cases h; rfl
section
variable {α : Type} {E : Enc α} {w w' : World} {v : Value} {l : List α} {e : TypeId} {B C : Nat}
theorem SOwn.rd (h : SOwn E e B w C v l) : SRd E w v l := by
  obtain ⟨A, c, g, rfl, hr, _⟩ := h
  exact ⟨A, c, rfl, hr.rd, hr.le, by
    rcases hr with ⟨_, rfl, rfl⟩ | ⟨cur, _, _, h1, h2, _⟩
    · simp [maxLen]
    · omega, by
    intro hA
    rcases hr with ⟨_, rfl, _⟩ | ⟨cur, hB, _⟩
    · rfl
    · rw [hA] at hB; cases hB⟩
theorem SRd.below (h : SRd E w v l) (hb : Below w.heap.size w w') : SRd E w' v l := by
  obtain ⟨A, c, rfl, hr, h1, h2⟩ := h
  exact ⟨A, c, rfl, hr.below hb, h1, h2⟩
theorem SRd.alloc (h : SRd E w v l) (o : Obj) : SRd E (w.alloc o) v l := h.below ((Below.refl _ _).alloc (Nat.le_refl _) o)
theorem SRd.drew (h : SRd E w v l) : SRd E w.drew v l := h
theorem SRd.drewN (h : SRd E w v l) (n : Nat) : SRd E (w.drewN n) v l := h
theorem SRd.gin {w0 : World} (h : SRd E w v l) (h0 : SRd E w0 v l) (hg : GIn B C w w') (hB : w0.heap.size ≤ B) : SRd E w' v l := by
  obtain ⟨A, c, rfl, hr, h1, h2⟩ := h
  obtain ⟨A', c', hv, hr0, _⟩ := h0
  cases hv
  refine ⟨A, c, rfl, hr.keep fun b off hl hA o => ?_, h1, h2⟩
  have hb0 := hr0.lt hl hA
  exact World.cell?_of_block (hg.block b (hr.lt hl hA) (by omega))
theorem SRd.of {A : Option Addr} {c : Nat} (h : Rd E w A l) (h1 : l.length ≤ c) (h3 : l.length ≤ maxLen) (h2 : A = none → c = 0) : SRd E w (.slice A l.length c) l := ⟨A, c, rfl, h, h1, h3, h2⟩
theorem SOwn.below (h : SOwn E e B w C v l) (hb : Below w.heap.size w w') : SOwn E e B w' C v l := by
  obtain ⟨A, c, g, rfl, hr, h1⟩ := h
  exact ⟨A, c, g, rfl, hr.below hb, h1⟩
theorem SOwn.alloc (h : SOwn E e B w C v l) (o : Obj) : SOwn E e B (w.alloc o) C v l := h.below ((Below.refl _ _).alloc (Nat.le_refl _) o)
theorem SOwn.drew (h : SOwn E e B w C v l) : SOwn E e B w.drew C v l := h
theorem SOwn.drewN (h : SOwn E e B w C v l) (n : Nat) : SOwn E e B (w.drewN n) C v l := h
theorem SOwn.gin {B' C' : Nat} (h : SOwn E e B w C v l) (hg : GIn B' C' w w') (hd : C ≤ B' ∨ C' ≤ B) : SOwn E e B w' C v l := by
  obtain ⟨A, c, g, rfl, hr, h1⟩ := h
  refine ⟨A, c, g, rfl, ?_, h1⟩
  rcases h1 with h1 | h1
  · rcases hr with hr | ⟨cur, hA, _⟩
    · exact .inl hr
    · rw [h1] at hA; cases hA
  · exact hr.keep fun hl => hg.block g hl (by omega)
theorem SOwn.mono {B' C' : Nat} (h : SOwn E e B w C v l) (h1 : B' ≤ B) (h2 : C ≤ C') : SOwn E e B' w C' v l := by
  obtain ⟨A, c, g, rfl, hr, h3⟩ := h
  exact ⟨A, c, g, rfl, hr, h3.imp id (fun h => ⟨by omega, by omega⟩)⟩
theorem SOwn.other {p : Addr} (h : SOwn E e B w C v l) (hp : p.block < B ∨ C ≤ p.block) (u : Value) : SOwn E e B (w.setCell p u) C v l := by
  obtain ⟨b, o, s⟩ := p
  refine h.gin (B' := b) (C' := b + 1) ⟨rfl, rfl, rfl, by simp [World.setCell], fun k _ hk => Below.heap_setCell w _ u k (fun e => hk ⟨by rw [e]; exact Nat.le_refl _, by rw [e]; exact Nat.lt_succ_self _⟩)⟩ ?_
  simp at hp; omega
/-- what lies in other blocks stays -/
theorem SOwn.apart {g : Nat} (h : SOwn E e B w C v l) (hg : w.grownBy w' (some g)) (hne : ∀ a n c, v = .slice (some a) n c → a.block ≠ g) : SOwn E e B w' C v l := by
  obtain ⟨A, c, g', rfl, hr, h1⟩ := h
  refine ⟨A, c, g', rfl, ?_, h1⟩
  rcases hr with hr | ⟨cur, rfl, r⟩
  · exact .inl hr
  · exact Row.grown (.inr ⟨cur, rfl, r⟩) hg (hne _ _ _ rfl)
theorem SOwn.nil0 (w : World) (B C : Nat) : SOwn E e B w C (.slice none 0 0) ([] : List α) := ⟨_, _, 0, rfl, Row.nil _ _ _, .inl rfl⟩
theorem SOwn.of_fresh {A : Option Addr} {c g D : Nat} (hr : Row E w g e A c l) (hg : D ≤ g) : SOwn E e D w w.heap.size (.slice A l.length c) l :=
  ⟨A, c, g, rfl, hr, by rcases hr.made? with h | h; exact .inl h; exact .inr ⟨hg, h⟩⟩
end
/-- A fresh slice comes back. -/
def MadeS {α : Type} (E : Enc α) (e : TypeId) (l : List α) (w : World) (en : Ending) (w' : World) : Prop := ∃ u, en = .returned u ∧ SOwn E e w.heap.size w' w'.heap.size u l ∧ Below w.heap.size w w'
theorem MadeS.of_fresh {α : Type} {E : Enc α} {e : TypeId} {l : List α} {w : World} (en : Ending) (w' : World) (h : Fresh E e l w en w') : MadeS E e l w en w' := by
  obtain ⟨A, c, g, rfl, hg, hr, hb⟩ := h
  exact ⟨_, rfl, SOwn.of_fresh hr hg, hb⟩
/-- The marked slice: nothing else of ours has changed. -/
def MarkedS {α : Type} (E : Enc α) (e : TypeId) (B C : Nat) (v : Value) (l' : List α) (r : Int) (w : World) (en : Ending) (w' : World) : Prop :=
  en = .returned (.int .i64 r) ∧ SOwn E e B w' C v l' ∧ GIn B C w w' ∧ ∀ (α' : Type) (E' : Enc α') (e' : TypeId) (v' : Value) (l'' : List α'), Apart v v' → SOwn E' e' B w C v' l'' → SOwn E' e' B w' C v' l''
theorem markedS_of {α : Type} {E : Enc α} {e : TypeId} {B C : Nat} {A : Option Addr} {c g : Nat} {l l' : List α} {r : Int} {w w' : World} (hl : l'.length = l.length) (hw : A = none ∨ (B ≤ g ∧ g < C)) (h : Row E w' g e A c l') (hg : w.grownBy w' (some g)) (hn : A = none → w' = w) :
    MarkedS E e B C (.slice A l.length c) l' r w (.returned (.int .i64 r)) w' := by
  refine ⟨rfl, ⟨A, c, g, by rw [hl], h, hw⟩, ?_, ?_⟩
  · rcases hw with hA | hw
    · rw [hn hA]; exact GIn.refl _ _ _
    · exact GIn.of_grown hg hw.1 hw.2
  · intro α' E' e' v' l'' hap h'
    cases A with
    | none => rw [hn rfl]; exact h'
    | some a =>
      refine h'.apart hg ?_
      intro a' n' c' hv
      have := hap a _ _ a' n' c' rfl hv
      rw [h.addr] at this
      exact this.symm
set_option maxHeartbeats 1000000 in
theorem toIntS_v (v : Value) (l : List Int) (w : World) (h : SRd eInt w v l) (hl : l.length ≤ 1099511627776) : Calls Try.prog 51 #[v] w (MadeS eInt 3 l w) := by
  obtain ⟨A, c, rfl, hr, _⟩ := h
  exact (toIntS_any A c l w hr hl).mono MadeS.of_fresh
set_option maxHeartbeats 1000000 in
theorem eqIntS_v (v u : Value) (l m : List Int) (w : World) (h : SRd eInt w v l) (k : SRd eInt w u m) (hl : l.length ≤ 1099511627776) (hm : m.length ≤ 1099511627776) : Calls Try.prog 31 #[v, u] w fun e w' => e = .returned (.bool (decide (l = m))) ∧ Below w.heap.size w w' := by
  obtain ⟨A, c, rfl, hr, _⟩ := h
  obtain ⟨A', c', rfl, hr', _⟩ := k
  exact (eqIntS_any A A' c c' l m w hr hr' (by omega) (by omega)).mono fun _ _ ⟨h1, q, h2⟩ => ⟨h1, by rw [h2]; exact below_drewN (Below.refl _ _) q⟩
set_option maxHeartbeats 1000000 in
theorem sameInts_v (v u : Value) (l m : List Int) (w : World) (h : SRd eInt w v l) (k : SRd eInt w u m) (hl : l.length ≤ 1099511627776) (hm : m.length ≤ 1099511627776) : Calls Try.prog 38 #[v, u] w fun e w' => e = .returned (.bool (decide (l = m))) ∧ ∃ q, w' = w.drewN q := by
  obtain ⟨A, c, rfl, hr, _⟩ := h
  obtain ⟨A', c', rfl, hr', _⟩ := k
  exact sameInts_any A A' c c' l m w hr hr' (by omega) (by omega)
set_option maxHeartbeats 1000000 in
theorem markIntS_nil (k : Int) (w : World) : Calls Try.prog 32 #[.slice none 0 0, .int .i64 k] w fun e w' => e = .returned (.int .i64 k) ∧ w = w' := by
  go_enter Try.func32, Try.ntmps32
  go_wp2
  refine wp_loop_rounds 1 ?_
  rw [rounds_succ]
  go_wp2
  go_ret
  exact ⟨rfl, rfl⟩
set_option maxHeartbeats 1000000 in
theorem markIntS_v (v : Value) (l : List Int) (k : Int) (B C : Nat) (w : World) (h : SOwn eInt 3 B w C v l) (hl : l.length ≤ 1099511627776) (hk0 : 0 ≤ k) (hk : k ≤ 1099511627776) :
    Calls Try.prog 32 #[v, .int .i64 k] w (MarkedS eInt 3 B C v (marks l.length k) (k + l.length) w) := by
  obtain ⟨A, c, g, rfl, hr, hw⟩ := h
  by_cases hA : A = none
  · subst hA
    rcases hr with ⟨_, rfl, rfl⟩ | ⟨cur, h, _⟩
    · refine (markIntS_nil k w).mono ?_
      rintro en w' ⟨rfl, rfl⟩
      exact ⟨by simp, SOwn.nil0 _ _ _, GIn.refl _ _ _, fun _ _ _ _ _ _ h => h⟩
    · cases h
  · refine (markIntS_any A c g l k w hr hl hk0 hk).mono ?_
    rintro en w' ⟨rfl, hrow, hg⟩
    exact markedS_of (marks_length _ _) hw hrow hg (fun h => absurd h hA)
set_option maxHeartbeats 1000000 in
theorem heldIntS_v (v : Value) (n : Nat) (k : Int) (w : World) (h : SRd eInt w v (marks n k)) (hl : n ≤ 1099511627776) (hk0 : 0 ≤ k) (hk : k ≤ 1099511627776) :
    Calls Try.prog 33 #[v, .int .i64 k] w fun e w' => e = .returned (.int .i64 (k + n)) ∧ w = w' := by
  obtain ⟨A, c, rfl, hr, _⟩ := h
  rw [marks_length]
  exact heldIntS_any A c n k w hr hl hk0 hk
theorem store_one {v : Value} (hv : v.oneCell' = true) (w : World) (a : Addr) (m : Mode) : (store a v m).run Try.prog w = stored Try.prog w a v m := run_store Try.prog w a v m hv
abbrev elemIntS : Type := Int
abbrev encIntS : Enc Int := eInt
abbrev tyIntS : TypeId := 3
abbrev marksIntS (n : Nat) (k : Int) : List Int := marks n k
theorem marksIntS_length (n : Nat) (k : Int) : (marksIntS n k).length = n := marks_length n k
theorem toIntS_w (v : Value) (l : List Int) (w : World) (h : SRd encIntS w v l) (hl : l.length ≤ 1099511627776) : Calls Try.prog 51 #[v] w (MadeS encIntS tyIntS l w) := toIntS_v v l w h hl
theorem eqIntS_w (v u : Value) (l m : List Int) (w : World) (h : SRd encIntS w v l) (k : SRd encIntS w u m) (hl : l.length ≤ 1099511627776) (hm : m.length ≤ 1099511627776) : Calls Try.prog 31 #[v, u] w fun e w' => e = .returned (.bool (decide (l = m))) ∧ Below w.heap.size w w' := eqIntS_v v u l m w h k hl hm
theorem szIntS_bigw (v : Value) (l : List Int) (k : Int) (w : World) (h : SRd encIntS w v l) (hk0 : 0 ≤ k) (hk : k ≤ 1048576) (hs : k < l.length) : Calls Try.prog 47 #[v, .int .i64 k] w fun e w' => e = .returned (.int .i64 (-1)) ∧ Below w.heap.size w w' := by
  obtain ⟨A, c, rfl, _, _, hm, _⟩ := h
  unfold maxLen at hm
  exact (szIntS_big A l.length c k w (by omega) hk0 hk hs).mono fun _ _ ⟨h1, h2⟩ => ⟨h1, h2 ▸ Below.refl _ _⟩
theorem szIntS_okw (v : Value) (l : List Int) (k : Int) (w : World) (h : SRd encIntS w v l) (hk0 : 0 ≤ k) (hk : k ≤ 1048576) (hs : (l.length : Int) ≤ k) : Calls Try.prog 47 #[v, .int .i64 k] w fun e w' => e = .returned (.int .i64 (k - l.length)) ∧ Below w.heap.size w w' := by
  obtain ⟨A, c, rfl, _, _, hm, _⟩ := h
  exact (szIntS_ok A l.length c k w hk0 hk hs).mono fun _ _ ⟨h1, h2⟩ => ⟨h1, h2 ▸ Below.refl _ _⟩
theorem markIntS_w (v : Value) (l : List Int) (k : Int) (B C : Nat) (w : World) (h : SOwn encIntS tyIntS B w C v l) (hl : l.length ≤ 1099511627776) (hk0 : 0 ≤ k) (hk : k ≤ 1099511627776) :
    Calls Try.prog 32 #[v, .int .i64 k] w (MarkedS encIntS tyIntS B C v (marksIntS l.length k) (k + 1 * l.length) w) := by
  rw [Int.one_mul]
  exact markIntS_v v l k B C w h hl hk0 hk
theorem heldIntS_w (v : Value) (n : Nat) (k : Int) (w : World) (h : SRd encIntS w v (marksIntS n k)) (hl : n ≤ 1099511627776) (hk0 : 0 ≤ k) (hk : k ≤ 1099511627776) :
    Calls Try.prog 33 #[v, .int .i64 k] w fun e w' => e = .returned (.int .i64 (k + 1 * n)) ∧ Below w.heap.size w w' := by
  rw [Int.one_mul]
  exact (heldIntS_v v n k w h hl hk0 hk).mono fun _ _ ⟨h1, h2⟩ => ⟨h1, h2 ▸ Below.refl _ _⟩
theorem SOwn.row {α : Type} {E : Enc α} {e : TypeId} {B C : Nat} {w : World} {v : Value} {l : List α} (h : SOwn E e B w C v l) (Y : Nat) : ∃ A c g, v = .slice A l.length c ∧ Row E w g e A c l ∧ ((A = none ∧ g = Y) ∨ (∃ a, A = some a ∧ a = ⟨g, 0, none⟩ ∧ B ≤ g ∧ g < C)) ∧ (A = none → c = 0) := by
  obtain ⟨A, c, g, rfl, hr, hg⟩ := h
  rcases hr with ⟨rfl, rfl, rfl⟩ | ⟨cur, rfl, r⟩
  · exact ⟨none, 0, Y, rfl, Row.nil _ _ _, .inl ⟨rfl, rfl⟩, fun _ => rfl⟩
  · rcases hg with hg | hg
    · cases hg
    · exact ⟨_, c, g, rfl, .inr ⟨cur, rfl, r⟩, .inr ⟨_, rfl, rfl, hg⟩, fun h => by cases h⟩
/-- two slices of ours, in two blocks that are not X -/
theorem two_rows {α β : Type} {E : Enc α} {E' : Enc β} {e e' : TypeId} {B C : Nat} {w : World} {u v : Value} {l : List α} {m : List β} (h : SOwn E e B w C u l) (k : SOwn E' e' B w C v m) (hap : Apart u v) (X : Nat) (hX : C ≤ X) (hB : B ≤ X) :
    ∃ A c g A' c' g', u = .slice A l.length c ∧ v = .slice A' m.length c' ∧ Row E w g e A c l ∧ Row E' w g' e' A' c' m ∧ B ≤ g ∧ B ≤ g' ∧ g ≠ X ∧ g' ≠ X ∧ g ≠ g' ∧ (A = none → c = 0) ∧ (A' = none → c' = 0) := by
  obtain ⟨A, c, g, rfl, hr, hg, hc⟩ := h.row (X + 1)
  obtain ⟨A', c', g', rfl, hr', hg', hc'⟩ := k.row (X + 2)
  refine ⟨A, c, g, A', c', g', rfl, rfl, hr, hr', ?_, ?_, ?_, ?_, ?_, hc, hc'⟩
  · rcases hg with ⟨_, h⟩ | ⟨_, _, _, h, _⟩ <;> omega
  · rcases hg' with ⟨_, h⟩ | ⟨_, _, _, h, _⟩ <;> omega
  · rcases hg with ⟨_, h⟩ | ⟨_, _, _, _, h⟩ <;> omega
  · rcases hg' with ⟨_, h⟩ | ⟨_, _, _, _, h⟩ <;> omega
  · rcases hg with ⟨_, h⟩ | ⟨a, rfl, ha, h1, h2⟩
    · rcases hg' with ⟨_, h'⟩ | ⟨_, _, _, _, h'⟩ <;> omega
    · rcases hg' with ⟨_, h'⟩ | ⟨a', rfl, ha', h1', h2'⟩
      · omega
      · have := hap a _ _ a' _ _ rfl rfl
        rw [ha, ha'] at this
        exact this
theorem SOwn.of_row {α : Type} {E : Enc α} {e : TypeId} {D : Nat} {w : World} {A : Option Addr} {c g : Nat} {l : List α} (hr : Row E w g e A c l) (hg : D ≤ g) : SOwn E e D w w.heap.size (.slice A l.length c) l := SOwn.of_fresh hr hg
theorem Apart.of_rows {α β : Type} {E : Enc α} {E' : Enc β} {e e' : TypeId} {w w' : World} {A A' : Option Addr} {c c' g g' n n' : Nat} {l : List α} {m : List β} (h : Row E w g e A c l) (k : Row E' w' g' e' A' c' m) (hne : g ≠ g') : Apart (.slice A n c) (.slice A' n' c') := by
  intro a n c a' n' c' h1 h2
  cases h1
  cases h2
  rw [h.addr, k.addr]
  exact hne
theorem Row.icell {w : World} {g : Nat} {e : TypeId} {A : Option Addr} {c : Nat} {l : List Int} (h : Row eInt w g e A c l) {k : Nat} (hk : k < l.length) {x : Int} (hx : l[k] = x) : w.cell? ⟨g, k, none⟩ = some (.int .i64 x) := by
  obtain ⟨_, _, _, hc⟩ := h.int (by omega)
  rw [hc k hk, hx]
theorem SOwn.of_rown {α : Type} {E : Enc α} {e : TypeId} {D n : Nat} {w : World} {A : Option Addr} {c g : Nat} {l : List α} (hr : Row E w g e A c l) (hn : l.length = n) (hg : D ≤ g) : SOwn E e D w w.heap.size (.slice A n c) l := by
  subst hn
  exact SOwn.of_fresh hr hg
end Go.Proofs.Ytnnanknljpkdeaa
