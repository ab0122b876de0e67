/-
  Flash memories: the plain mathematics. No condition.
-/
import Derived.Test.YtnnanknljpkdeaaBase
import Derived.Test.YtnnanknljpkdeaaNum
import Derived.Test.YtnnanknljpkdeaaInts
import Derived.Test.YtnnanknljpkdeaaApp
import Derived.Test.YtnnanknljpkdeaaIntsW
import Derived.Test.YtnnanknljpkdeaaLib
import Derived.Test.YtnnanknljpkdeaaSpares
import Derived.Test.YtnnanknljpkdeaaOwn
import Derived.Test.YtnnanknljpkdeaaPage
import Derived.Test.YtnnanknljpkdeaaFlash
namespace Go.Proofs.Ytnnanknljpkdeaa
open Go.RowKit
/-- how many pages meet a test, how many are free, stale; those that belong to logical pages -/
def freeN (l : List Pg) : Nat := l.countP fun p => p.own == -1
def staleN (l : List Pg) : Nat := l.countP fun p => p.own == -2
def live (l : List Pg) : List Pg := l.filter fun p => decide (0 ≤ p.own)
def blockOf (l : List Pg) (b : Nat) : List Pg := (l.drop (4 * b)).take 4
def staleAt (l : List Pg) (b : Nat) : Nat := staleN (blockOf l b)
/-- of the first k blocks the first one with the most stale pages -/
def bestK (l : List Pg) : Nat → Nat
  | 0 => 0
  | k + 1 => if staleAt l (bestK l k) < staleAt l k then k else bestK l k
def freeP : Pg := ⟨-1, 0⟩
def erased (l : List Pg) (b : Nat) : List Pg := l.take (4 * b) ++ (List.replicate 4 freeP ++ l.drop (4 * b + 4))
def freeIx (l : List Pg) : Int := idx (l.map Pg.own) (-1)
/-- a page goes to the first free one -/
def put1 (l : List Pg) (p : Pg) : List Pg := l.set (freeIx l).toNat p
def collectP (l : List Pg) (b : Nat) : List Pg := (live (blockOf l b)).foldl put1 (erased l b)
def bestB (f : Fl) : Nat := bestK f.pages f.erases.length
def collectOk (f : Fl) : Bool := decide (staleAt f.pages (bestB f) ≠ 0)
def collectF (f : Fl) : Fl := if collectOk f then ⟨collectP f.pages (bestB f), f.erases.set (bestB f) (f.erases.getD (bestB f) 0 + 1)⟩ else f
def collectB (f : Fl) : Fl := if flashB f then collectF f else ⟨[], []⟩
def collectBOk (f : Fl) : Bool := flashB f && collectOk f
/-- the page that has a logical page becomes stale -/
def dropL (l : List Pg) (x : Int) : List Pg := if idx (l.map Pg.own) x < 0 then l else l.set (idx (l.map Pg.own) x).toNat ⟨-2, (l.getD (idx (l.map Pg.own) x).toNat default).val⟩
def roomF (f : Fl) : Fl := if freeIx f.pages < 0 then collectF f else f
def writeF (f : Fl) (x v : Int) : Fl := ⟨put1 (dropL (roomF f).pages x) ⟨x, v⟩, (roomF f).erases⟩
def writeArgs (f : Fl) (x v : Int) : Bool := flashB f && inB x 0 (((f.erases.length : Int) - 1) * 4 - 1) && inB v 0 255
def writeB (f : Fl) (x v : Int) : Fl := if writeArgs f x v then writeF f x v else ⟨[], []⟩
def valOf (l : List Pg) (k : Int) : Int := match l.find? (fun p => p.own == k) with | some p => p.val | none => 0
def viewL (l : List Pg) (m : Nat) : List Int := (List.range m).map fun k : Nat => valOf l (k : Int)
def viewF (f : Fl) : List Int := if flashB f then viewL f.pages ((f.erases.length - 1) * 4) else []
def newF (n : Int) : Fl := if inB n 2 6 then ⟨List.replicate (n.toNat * 4) freeP, List.replicate n.toNat 0⟩ else ⟨[], []⟩

theorem live_append (l m : List Pg) : live (l ++ m) = live l ++ live m := by simp [live]
theorem freeN_append (l m : List Pg) : freeN (l ++ m) = freeN l + freeN m := by simp [freeN]
theorem staleN_append (l m : List Pg) : staleN (l ++ m) = staleN l + staleN m := by simp [staleN]
theorem live_perm {l m : List Pg} (h : l.Perm m) : (live l).Perm (live m) := h.filter _
theorem freeN_perm {l m : List Pg} (h : l.Perm m) : freeN l = freeN m := h.countP_eq _
theorem staleN_perm {l m : List Pg} (h : l.Perm m) : staleN l = staleN m := h.countP_eq _
theorem set_perm {l : List Pg} {i : Nat} (hi : i < l.length) (p : Pg) : (l.set i p).Perm (p :: (l.take i ++ l.drop (i + 1))) := by
  rw [List.set_eq_take_append_cons_drop, if_pos hi]
  exact List.perm_middle
theorem get_perm {l : List Pg} {i : Nat} (hi : i < l.length) : l.Perm (l[i] :: (l.take i ++ l.drop (i + 1))) := by
  have : l = l.take i ++ l[i] :: l.drop (i + 1) := by
    rw [List.getElem_cons_drop, List.take_append_drop]
  conv => lhs; rw [this]
  exact List.perm_middle
theorem freeIx_ok {l : List Pg} (h : 0 < freeN l) : ∃ k : Nat, freeIx l = k ∧ ∃ hk : k < l.length, l[k].own = -1 := by
  unfold freeN at h
  rw [List.countP_pos_iff] at h
  obtain ⟨p, hp, ho⟩ := h
  have hm : (-1 : Int) ∈ l.map Pg.own := List.mem_map.2 ⟨p, hp, by simpa using ho⟩
  have h0 : 0 ≤ idx (l.map Pg.own) (-1) := Int.not_lt.1 fun hh => (idx_neg.1 hh) hm
  obtain ⟨k, he, hk, hx, _⟩ := idx_get h0
  have hk' : k < l.length := by simpa using hk
  exact ⟨k, he, hk', by simpa using hx⟩
theorem freeIx_none {l : List Pg} (h : freeIx l < 0) : freeN l = 0 := by
  rcases Nat.eq_zero_or_pos (freeN l) with h0 | h0
  · exact h0
  · obtain ⟨k, he, _⟩ := freeIx_ok h0
    omega
theorem freeIx_some {l : List Pg} (h : ¬ freeIx l < 0) : 0 < freeN l := by
  rcases Nat.eq_zero_or_pos (freeN l) with h0 | h0
  · exfalso
    apply h
    unfold freeIx
    rw [idx_neg]
    intro hm
    obtain ⟨p, hp, ho⟩ := List.mem_map.1 hm
    have : 0 < freeN l := List.countP_pos_iff.2 ⟨p, hp, by simpa using ho⟩
    omega
  · exact h0
theorem put1_length (l : List Pg) (p : Pg) : (put1 l p).length = l.length := by simp [put1]
theorem put1_spec {l : List Pg} {p : Pg} (h : 0 < freeN l) (hp : 0 ≤ p.own) : (live (put1 l p)).Perm (p :: live l) ∧ freeN (put1 l p) + 1 = freeN l ∧ staleN (put1 l p) = staleN l := by
  obtain ⟨k, he, hk, ho⟩ := freeIx_ok h
  have e1 := set_perm hk p
  have e2 := get_perm hk
  have hset : put1 l p = l.set k p := by unfold put1; rw [he]; rfl
  rw [hset]
  refine ⟨?_, ?_, ?_⟩
  · refine (live_perm e1).trans ?_
    refine List.Perm.trans ?_ (List.Perm.cons p (live_perm e2).symm)
    simp only [live, List.filter_cons, hp, decide_true, if_true, ho]
    exact List.Perm.refl _
  · rw [freeN_perm e1, freeN_perm e2]
    have : ¬ p.own = -1 := by omega
    simp only [freeN, List.countP_cons, ho, beq_iff_eq, this, if_true, if_false]
    first | done | simp
  · rw [staleN_perm e1, staleN_perm e2]
    have : ¬ p.own = -2 := by omega
    simp only [staleN, List.countP_cons, ho, beq_iff_eq, this, if_false]
    simp
theorem foldl_put1_length (ks : List Pg) : ∀ l, (ks.foldl put1 l).length = l.length := by
  induction ks with
  | nil => intro l; rfl
  | cons p r ih => intro l; simp only [List.foldl_cons]; rw [ih, put1_length]
theorem foldl_put1 (ks : List Pg) : ∀ l, ks.length ≤ freeN l → (∀ p ∈ ks, 0 ≤ p.own) → (live (ks.foldl put1 l)).Perm (ks ++ live l) ∧ freeN (ks.foldl put1 l) + ks.length = freeN l ∧ staleN (ks.foldl put1 l) = staleN l := by
  induction ks with
  | nil => intro l _ _; exact ⟨List.Perm.refl _, rfl, rfl⟩
  | cons p r ih =>
    intro l hl hp
    simp only [List.length_cons] at hl
    obtain ⟨h1, h2, h3⟩ := put1_spec (l := l) (p := p) (by omega) (hp p (by simp))
    obtain ⟨i1, i2, i3⟩ := ih (put1 l p) (by omega) (fun q hq => hp q (by simp [hq]))
    simp only [List.foldl_cons, List.length_cons]
    refine ⟨?_, by omega, by omega⟩
    refine i1.trans ?_
    refine (List.Perm.append_left r h1).trans ?_
    exact List.perm_middle
theorem block_split (l : List Pg) (b : Nat) : l = l.take (4 * b) ++ (blockOf l b ++ l.drop (4 * b + 4)) := by
  unfold blockOf
  have h2 : (l.drop (4 * b)).take 4 ++ l.drop (4 * b + 4) = l.drop (4 * b) := by
    have := List.take_append_drop 4 (l.drop (4 * b))
    rwa [List.drop_drop] at this
  rw [h2, List.take_append_drop]
theorem block_length {l : List Pg} {b : Nat} (h : 4 * b + 4 ≤ l.length) : (blockOf l b).length = 4 := by simp [blockOf]; omega
theorem erased_length {l : List Pg} {b : Nat} (h : 4 * b + 4 ≤ l.length) : (erased l b).length = l.length := by simp [erased]; omega
theorem erased_get {l : List Pg} {b : Nat} (h : 4 * b + 4 ≤ l.length) {t : Nat} (ht : t < (erased l b).length) (ht' : t < l.length) : (erased l b)[t] = if 4 * b ≤ t ∧ t < 4 * b + 4 then freeP else l[t] := by
  unfold erased at ht ⊢
  by_cases h1 : t < 4 * b
  · rw [if_neg (by omega), List.getElem_append_left (by simp; omega)]
    simp
  · rw [List.getElem_append_right (by simp; omega)]
    by_cases h2 : t < 4 * b + 4
    · rw [if_pos (by omega), List.getElem_append_left (by simp; omega), List.getElem_replicate]
    · rw [if_neg (by omega), List.getElem_append_right (by simp; omega)]
      simp only [List.getElem_drop]
      congr 1
      simp
      omega
theorem ownParts (l : List Pg) (h : ∀ p ∈ l, -2 ≤ p.own) : freeN l + staleN l + (live l).length = l.length := by
  induction l with
  | nil => rfl
  | cons p r ih =>
    have i := ih (fun q hq => h q (by simp [hq]))
    have hp := h p (by simp)
    unfold freeN staleN live at i ⊢
    simp only [List.countP_cons, List.filter_cons, List.length_cons, beq_iff_eq, decide_eq_true_eq]
    by_cases h1 : p.own = -1
    · have h2 : ¬ p.own = -2 := by omega
      have h3 : ¬ 0 ≤ p.own := by omega
      rw [if_pos h1, if_neg h2, if_neg h3]
      omega
    · by_cases h2 : p.own = -2
      · have h3 : ¬ 0 ≤ p.own := by omega
        rw [if_neg h1, if_pos h2, if_neg h3]
        omega
      · have h3 : 0 ≤ p.own := by omega
        rw [if_neg h1, if_neg h2, if_pos h3, List.length_cons]
        omega
/-- what collecting a block does -/
theorem collectP_spec {l : List Pg} {b : Nat} (hb : 4 * b + 4 ≤ l.length) (ho : ∀ p ∈ l, -2 ≤ p.own) :
    (live (collectP l b)).Perm (live l) ∧ freeN (collectP l b) = freeN l + staleAt l b ∧ staleN (collectP l b) + staleAt l b = staleN l ∧ (collectP l b).length = l.length := by
  have hbl := block_length hb
  have hobl : ∀ p ∈ blockOf l b, -2 ≤ p.own := fun p hp => ho p (List.mem_of_mem_drop (List.mem_of_mem_take hp))
  have hpt := ownParts _ hobl
  have hlb : (live (blockOf l b)).length ≤ 4 := by omega
  have he1 : freeN (erased l b) = freeN (l.take (4 * b)) + (4 + freeN (l.drop (4 * b + 4))) := by
    simp only [erased, freeN_append]
    rfl
  have he2 : staleN (erased l b) = staleN (l.take (4 * b)) + staleN (l.drop (4 * b + 4)) := by
    simp only [erased, staleN_append]
    have : staleN (List.replicate 4 freeP) = 0 := rfl
    omega
  have he3 : live (erased l b) = live (l.take (4 * b)) ++ live (l.drop (4 * b + 4)) := by
    simp only [erased, live_append]
    rfl
  have h0 : freeN l = freeN (l.take (4 * b)) + (freeN (blockOf l b) + freeN (l.drop (4 * b + 4))) := by
    conv => lhs; rw [block_split l b]
    simp only [freeN_append]
  have h1 : staleN l = staleN (l.take (4 * b)) + (staleN (blockOf l b) + staleN (l.drop (4 * b + 4))) := by
    conv => lhs; rw [block_split l b]
    simp only [staleN_append]
  have h2 : live l = live (l.take (4 * b)) ++ (live (blockOf l b) ++ live (l.drop (4 * b + 4))) := by
    conv => lhs; rw [block_split l b]
    simp only [live_append]
  obtain ⟨i1, i2, i3⟩ := foldl_put1 (live (blockOf l b)) (erased l b) (by omega) (fun p hp => by simpa using (List.mem_filter.1 hp).2)
  unfold collectP
  refine ⟨?_, ?_, ?_, ?_⟩
  · refine i1.trans ?_
    rw [he3, h2, ← List.append_assoc, ← List.append_assoc]
    exact List.Perm.append_right _ List.perm_append_comm
  · unfold staleAt; omega
  · unfold staleAt; omega
  · rw [foldl_put1_length, erased_length hb]
/-- the logical pages' owners are different -/
def LiveOk (l : List Pg) : Prop := ((live l).map Pg.own).Nodup
theorem LiveOk.perm {l m : List Pg} (h : LiveOk l) (hp : (live l).Perm (live m)) : LiveOk m := (List.Perm.nodup_iff (hp.map Pg.own)).1 h
theorem flashOk_iff {f : Fl} {k : Nat} (hk : k < f.pages.length) : flashOkAt f k = true ↔ ((-2 ≤ f.pages[k].own ∧ f.pages[k].own ≤ ((f.erases.length : Int) - 1) * 4 - 1) ∧ (0 ≤ f.pages[k].val ∧ f.pages[k].val ≤ 255)) ∧ (0 ≤ f.pages[k].own → f.pages[k].own ∉ (f.pages.take k).map Pg.own) := by
  rw [flashOkAt_get hk rfl]
  simp only [Bool.and_eq_true, inB_true, Bool.not_eq_true', Bool.and_eq_false_iff, decide_eq_false_iff_not]
  constructor
  · rintro ⟨h1, h2⟩
    exact ⟨h1, fun h0 => h2.resolve_left (fun h => h h0)⟩
  · rintro ⟨h1, h2⟩
    refine ⟨h1, ?_⟩
    by_cases h0 : 0 ≤ f.pages[k].own
    · exact .inr (h2 h0)
    · exact .inl h0
theorem liveOk_of (l : List Pg) (h : ∀ k (hk : k < l.length), 0 ≤ l[k].own → l[k].own ∉ (l.take k).map Pg.own) : ∀ n, n ≤ l.length → LiveOk (l.take n) := by
  intro n
  induction n with
  | zero => intro _; simp [LiveOk, live]
  | succ n ih =>
    intro hn
    have i := ih (by omega)
    unfold LiveOk at i ⊢
    rw [List.take_succ_eq_append_getElem (by omega), live_append, List.map_append]
    by_cases h0 : 0 ≤ l[n].own
    · have e : live [l[n]] = [l[n]] := by simp [live, h0]
      rw [e, List.nodup_append]
      refine ⟨i, by simp, ?_⟩
      intro a ha b hb
      simp only [List.map_cons, List.map_nil, List.mem_singleton] at hb
      subst hb
      intro hab
      subst hab
      obtain ⟨p, hp, hpo⟩ := List.mem_map.1 ha
      exact h n (by omega) h0 (List.mem_map.2 ⟨p, (List.mem_filter.1 hp).1, hpo⟩)
    · have e : live [l[n]] = [] := by simp [live, h0]
      rw [e]
      simpa using i
theorem of_liveOk {l : List Pg} (h : LiveOk l) {k : Nat} (hk : k < l.length) (h0 : 0 ≤ l[k].own) : l[k].own ∉ (l.take k).map Pg.own := by
  intro hm
  obtain ⟨p, hp, hpo⟩ := List.mem_map.1 hm
  have e : l = l.take k ++ l[k] :: l.drop (k + 1) := by
    rw [List.getElem_cons_drop, List.take_append_drop]
  have e2 : live l = live (l.take k) ++ (l[k] :: live (l.drop (k + 1))) := by
    conv => lhs; rw [e]
    rw [live_append]
    congr 1
    unfold live
    rw [List.filter_cons_of_pos (by simpa using h0)]
  unfold LiveOk at h
  rw [e2, List.map_append, List.nodup_append] at h
  have h3 := h.2.2 p.own (List.mem_map.2 ⟨p, List.mem_filter.2 ⟨hp, by rw [hpo]; simpa using h0⟩, rfl⟩) l[k].own (by simp)
  exact h3 hpo
/-- what 'valid' says -/
structure FlashOk (f : Fl) : Prop where
  n2 : 2 ≤ f.erases.length
  n6 : f.erases.length ≤ 6
  len : f.pages.length = f.erases.length * 4
  ers : ∀ x ∈ f.erases, 0 ≤ x ∧ x ≤ 1000000
  own : ∀ p ∈ f.pages, -2 ≤ p.own ∧ p.own ≤ ((f.erases.length : Int) - 1) * 4 - 1
  val : ∀ p ∈ f.pages, 0 ≤ p.val ∧ p.val ≤ 255
  one : LiveOk f.pages
theorem flashB_iff {f : Fl} : flashB f = true ↔ FlashOk f := by
  constructor
  · intro h
    simp only [flashB, Bool.and_eq_true, decide_eq_true_eq, inB_true, allK_iff] at h
    obtain ⟨⟨⟨⟨h1, h2⟩, h3⟩, h4⟩, h5⟩ := h
    have hk : ∀ k (hk : k < f.pages.length), _ := fun k hk => (flashOk_iff hk).1 (h5 k hk)
    refine ⟨by omega, by omega, h3, fun x hx => allIn_mem h4 hx, ?_, ?_, ?_⟩
    · intro p hp
      obtain ⟨k, hk', rfl⟩ := List.getElem_of_mem hp
      exact (hk k hk').1.1
    · intro p hp
      obtain ⟨k, hk', rfl⟩ := List.getElem_of_mem hp
      exact (hk k hk').1.2
    · have := liveOk_of f.pages (fun k hk' => (hk k hk').2) f.pages.length (Nat.le_refl _)
      rwa [List.take_length] at this
  · intro h
    refine flash_yes (inB_true.2 ⟨by have := h.n2; omega, by have := h.n6; omega⟩) (by simpa using h.len) ?_ ?_
    · rw [allIn, List.all_eq_true]
      intro x hx
      exact inB_true.2 (h.ers x hx)
    · rw [allK_iff]
      intro k hk
      exact (flashOk_iff hk).2 ⟨⟨h.own _ (List.getElem_mem hk), h.val _ (List.getElem_mem hk)⟩, fun h0 => of_liveOk h.one hk h0⟩
theorem bestK_lt (l : List Pg) (n : Nat) (hn : 0 < n) : bestK l n < n := by
  induction n with
  | zero => omega
  | succ k ih =>
    unfold bestK
    split
    · omega
    · rcases Nat.eq_zero_or_pos k with h | h
      · subst h; simp [bestK]
      · have := ih h; omega
theorem bestK_max (l : List Pg) (n : Nat) : ∀ k, k < n → staleAt l k ≤ staleAt l (bestK l n) := by
  induction n with
  | zero => intro k hk; omega
  | succ n ih =>
    intro k hk
    unfold bestK
    by_cases hkn : k = n
    · subst hkn
      split <;> omega
    · have := ih k (by omega)
      split <;> omega
theorem FlashOk.best {f : Fl} (h : FlashOk f) : 4 * bestB f + 4 ≤ f.pages.length := by
  have := bestK_lt f.pages f.erases.length (by have := h.n2; omega)
  have h2 := h.len
  unfold bestB
  omega
theorem mem_put1 {l : List Pg} {p q : Pg} (h : q ∈ put1 l p) : q = p ∨ q ∈ l := by
  unfold put1 at h
  rcases List.mem_or_eq_of_mem_set h with h | h
  · exact .inr h
  · exact .inl h
theorem mem_foldl_put1 (ks : List Pg) : ∀ (l : List Pg) (q : Pg), q ∈ ks.foldl put1 l → q ∈ ks ∨ q ∈ l := by
  induction ks with
  | nil => intro l q h; exact .inr h
  | cons p r ih =>
    intro l q h
    rcases ih _ _ h with h | h
    · exact .inl (List.mem_cons_of_mem _ h)
    · rcases mem_put1 h with h | h
      · exact .inl (by simp [h])
      · exact .inr h
theorem mem_collectP {l : List Pg} {b : Nat} {q : Pg} (h : q ∈ collectP l b) : q ∈ l ∨ q = freeP := by
  unfold collectP at h
  rcases mem_foldl_put1 _ _ _ h with h | h
  · exact .inl (List.mem_of_mem_drop (List.mem_of_mem_take (List.mem_filter.1 h).1))
  · unfold erased at h
    simp only [List.mem_append] at h
    rcases h with h | h | h
    · exact .inl (List.mem_of_mem_take h)
    · exact .inr (List.eq_of_mem_replicate h)
    · exact .inl (List.mem_of_mem_drop h)
theorem collectF_ers (f : Fl) : (collectF f).erases.length = f.erases.length := by unfold collectF; split <;> simp
theorem FlashOk.collect_ok {f : Fl} (h : FlashOk f) (he : ∀ x ∈ f.erases, x ≤ 999999) : FlashOk (collectF f) := by
  have hn := collectF_ers f
  have hn2 := h.n2
  have hn6 := h.n6
  have hb := h.best
  have hsp := collectP_spec hb (fun p hp => (h.own p hp).1)
  by_cases hok : collectOk f = true
  · have e : collectF f = ⟨collectP f.pages (bestB f), f.erases.set (bestB f) (f.erases.getD (bestB f) 0 + 1)⟩ := by unfold collectF; rw [if_pos hok]
    refine ⟨by omega, by omega, ?_, ?_, ?_, ?_, ?_⟩
    · rw [hn, e]; simp only; rw [hsp.2.2.2]; exact h.len
    · rw [e]
      intro x hx
      simp only at hx
      rcases List.mem_or_eq_of_mem_set hx with hx | hx
      · exact h.ers x hx
      · have hbl : bestB f < f.erases.length := by have := h.len; omega
        have hm : f.erases.getD (bestB f) 0 ∈ f.erases := by
          rw [List.getD_eq_getElem?_getD, List.getElem?_eq_getElem hbl]; exact List.getElem_mem hbl
        have h1 := h.ers _ hm
        have h2 := he _ hm
        omega
    · rw [hn, e]
      intro p hp
      rcases mem_collectP hp with hp | hp
      · exact h.own p hp
      · subst hp; simp only [freeP]; omega
    · rw [e]
      intro p hp
      rcases mem_collectP hp with hp | hp
      · exact h.val p hp
      · subst hp; simp only [freeP]; omega
    · rw [e]
      exact h.one.perm hsp.1.symm
  · have e : collectF f = f := by unfold collectF; rw [if_neg hok]
    rw [e]; exact h
/-- values of logical pages -/
theorem find_iff {l : List Pg} (h : (l.map Pg.own).Nodup) {k : Int} {p : Pg} : l.find? (fun q => q.own == k) = some p ↔ p ∈ l ∧ p.own = k := by
  constructor
  · intro hf
    exact ⟨List.mem_of_find?_eq_some hf, by simpa using List.find?_some hf⟩
  · rintro ⟨hm, ho⟩
    induction l with
    | nil => cases hm
    | cons a r ih =>
      simp only [List.map_cons, List.nodup_cons] at h
      rw [List.find?_cons]
      by_cases ha : a.own = k
      · have : (a.own == k) = true := by simpa using ha
        rw [this]
        rcases List.mem_cons.1 hm with hm | hm
        · rw [hm]
        · exfalso
          exact h.1 (by rw [ha, ← ho]; exact List.mem_map.2 ⟨p, hm, rfl⟩)
      · have : (a.own == k) = false := by simpa using ha
        rw [this]
        rcases List.mem_cons.1 hm with hm | hm
        · rw [hm] at ho; exact absurd ho ha
        · exact ih h.2 hm
theorem find_live (l : List Pg) {k : Int} (hk : 0 ≤ k) : (live l).find? (fun q => q.own == k) = l.find? (fun q => q.own == k) := by
  unfold live
  rw [List.find?_filter]
  congr 1
  funext q
  by_cases h : q.own = k
  · simp [h, hk]
  · simp [h]
theorem valOf_iff {l : List Pg} (h : LiveOk l) {k v : Int} (hk : 0 ≤ k) : valOf l k = v ↔ (∃ p ∈ l, p.own = k ∧ p.val = v) ∨ (v = 0 ∧ ∀ p ∈ l, p.own ≠ k) := by
  unfold valOf
  have hf := fun p => @find_iff (live l) h k p
  rw [find_live l hk] at hf
  cases hx : l.find? (fun q => q.own == k) with
  | some p =>
    simp only
    obtain ⟨hm, ho⟩ := (hf p).1 hx
    have hm' := (List.mem_filter.1 hm).1
    constructor
    · intro hv; exact .inl ⟨p, hm', ho, hv⟩
    · rintro (⟨q, hq, hqo, hqv⟩ | ⟨_, hn⟩)
      · have hq' : q ∈ live l := List.mem_filter.2 ⟨hq, by rw [hqo]; simpa using hk⟩
        have := (hf q).2 ⟨hq', hqo⟩
        rw [hx] at this
        cases this
        exact hqv
      · exact absurd ho (hn p hm')
  | none =>
    simp only
    rw [List.find?_eq_none] at hx
    constructor
    · intro hv; exact .inr ⟨hv.symm, fun p hp ho => hx p hp (by simpa using ho)⟩
    · rintro (⟨q, hq, hqo, hqv⟩ | ⟨hv, _⟩)
      · exact absurd (by simpa using hqo) (hx q hq)
      · exact hv.symm
theorem valOf_perm {l m : List Pg} (h : LiveOk l) (hp : (live l).Perm (live m)) {k : Int} (hk : 0 ≤ k) : valOf l k = valOf m k := by
  have hm := h.perm hp
  rw [valOf_iff h hk]
  rcases (valOf_iff hm hk).1 (rfl : valOf m k = _) with ⟨p, hp1, ho, hv⟩ | ⟨h0, hn⟩
  · have : p ∈ live l := hp.mem_iff.2 (List.mem_filter.2 ⟨hp1, by rw [ho]; simpa using hk⟩)
    exact .inl ⟨p, (List.mem_filter.1 this).1, ho, hv⟩
  · refine .inr ⟨h0, fun p hp1 ho => ?_⟩
    have : p ∈ live m := hp.mem_iff.1 (List.mem_filter.2 ⟨hp1, by rw [ho]; simpa using hk⟩)
    exact hn p (List.mem_filter.1 this).1 ho
theorem viewL_perm {l m : List Pg} (h : LiveOk l) (hp : (live l).Perm (live m)) (n : Nat) : viewL l n = viewL m n := by
  unfold viewL
  apply List.map_congr_left
  intro k _
  exact valOf_perm h hp (by omega)
theorem nodup_len (m : Nat) : ∀ (l : List Int), l.Nodup → (∀ x ∈ l, 0 ≤ x ∧ x < m) → l.length ≤ m := by
  induction m with
  | zero =>
    intro l _ h
    cases l with
    | nil => simp
    | cons x r => have := h x (by simp); omega
  | succ m ih =>
    intro l hn h
    have h1 := ih (l.filter (fun x => decide (x ≠ (m : Int)))) (List.Nodup.sublist List.filter_sublist hn) (fun x hx => by
      obtain ⟨hx1, hx2⟩ := List.mem_filter.1 hx
      have := h x hx1
      simp at hx2
      omega)
    have h2 : l.count (m : Int) ≤ 1 := by rw [List.nodup_iff_count] at hn; exact hn _
    have h3 : l.length = (l.filter (fun x => decide (x ≠ (m : Int)))).length + l.count (m : Int) := by
      clear ih h h1 h2 hn
      induction l with
      | nil => rfl
      | cons a r ih =>
        simp only [List.filter_cons, List.count_cons, List.length_cons]
        by_cases ha : a = (m : Int)
        · simp [ha]; simp at ih; omega
        · simp [ha]; simp at ih; omega
    omega
theorem FlashOk.live_len {f : Fl} (h : FlashOk f) : (live f.pages).length ≤ (f.erases.length - 1) * 4 := by
  have := nodup_len ((f.erases.length - 1) * 4) ((live f.pages).map Pg.own) h.one (by
    intro x hx
    obtain ⟨p, hp, rfl⟩ := List.mem_map.1 hx
    obtain ⟨hp1, hp2⟩ := List.mem_filter.1 hp
    have h1 := h.own p hp1
    have h2 := h.n2
    simp at hp2
    omega)
  simpa using this
theorem stale_none {l : List Pg} {n : Nat} (h : ∀ k, k < n → staleAt l k = 0) : ∀ k, k ≤ n → staleN (l.take (4 * k)) = 0 := by
  intro k
  induction k with
  | zero => intro _; rfl
  | succ k ih =>
    intro hk
    have i := ih (by omega)
    have e : l.take (4 * (k + 1)) = l.take (4 * k) ++ blockOf l k := by
      unfold blockOf
      rw [show 4 * (k + 1) = 4 * k + 4 by omega, List.take_add]
    rw [e, staleN_append, i]
    have := h k (by omega)
    unfold staleAt at this
    omega
theorem collectOk_no {f : Fl} (h : FlashOk f) (hc : collectOk f = false) : staleN f.pages = 0 := by
  have h0 : staleAt f.pages (bestB f) = 0 := by unfold collectOk at hc; simpa using hc
  have := stale_none (l := f.pages) (n := f.erases.length) (fun k hk => by
    have := bestK_max f.pages f.erases.length k hk
    unfold bestB at h0
    omega) f.erases.length (Nat.le_refl _)
  rwa [List.take_of_length_le (by have := h.len; omega)] at this
theorem collectOk_iff {f : Fl} (h : FlashOk f) : collectOk f = decide (0 < staleN f.pages) := by
  cases hc : collectOk f
  · have := collectOk_no h hc
    simp [this]
  · have h1 := (collectP_spec h.best (fun p hp => (h.own p hp).1)).2.2.1
    unfold collectOk at hc
    have h2 : staleAt f.pages (bestB f) ≠ 0 := by simpa using hc
    symm
    simp only [decide_eq_true_eq]
    omega
theorem FlashOk.room {f : Fl} (h : FlashOk f) : 0 < freeN (roomF f).pages := by
  unfold roomF
  by_cases hf : freeIx f.pages < 0
  · rw [if_pos hf]
    have h0 := freeIx_none hf
    have hp := ownParts f.pages (fun p hp => (h.own p hp).1)
    have hl := h.live_len
    have h2 := h.n2
    have h3 := h.len
    have hok : collectOk f = true := by
      rw [collectOk_iff h]
      simp only [decide_eq_true_eq]
      omega
    have hsp := (collectP_spec h.best (fun p hp => (h.own p hp).1)).2.1
    have hs : staleAt f.pages (bestB f) ≠ 0 := by unfold collectOk at hok; simpa using hok
    unfold collectF
    rw [if_pos hok]
    simp only
    omega
  · rw [if_neg hf]
    exact freeIx_some hf
theorem roomF_live {f : Fl} (h : FlashOk f) : (live (roomF f).pages).Perm (live f.pages) ∧ (roomF f).pages.length = f.pages.length ∧ (roomF f).erases.length = f.erases.length := by
  unfold roomF collectF
  have hsp := collectP_spec h.best (fun p hp => (h.own p hp).1)
  split
  · split
    · exact ⟨hsp.1, hsp.2.2.2, by simp⟩
    · exact ⟨List.Perm.refl _, rfl, rfl⟩
  · exact ⟨List.Perm.refl _, rfl, rfl⟩
theorem FlashOk.room_ok {f : Fl} (h : FlashOk f) (he : ∀ x ∈ f.erases, x ≤ 999999) : FlashOk (roomF f) := by
  unfold roomF
  split
  · exact h.collect_ok he
  · exact h
theorem dropL_spec (l : List Pg) (x : Int) (hx : 0 ≤ x) (h : LiveOk l) : (live (dropL l x)).Perm ((live l).filter fun p => !(p.own == x)) ∧ freeN (dropL l x) = freeN l ∧ (dropL l x).length = l.length ∧ ∀ p ∈ dropL l x, (p.own = -2 ∧ ∃ q ∈ l, q.val = p.val) ∨ p ∈ l := by
  unfold dropL
  by_cases hi : idx (l.map Pg.own) x < 0
  · rw [if_pos hi]
    have hn := idx_neg.1 hi
    refine ⟨?_, rfl, rfl, fun p hp => .inr hp⟩
    rw [List.filter_eq_self.2]
    intro p hp
    have : p.own ≠ x := fun ho => hn (List.mem_map.2 ⟨p, (List.mem_filter.1 hp).1, ho⟩)
    simpa using this
  · rw [if_neg hi]
    obtain ⟨k, he, hk, hko, _⟩ := idx_get (Int.not_lt.1 hi)
    rw [he]
    simp only [Int.toNat_natCast]
    have hk' : k < l.length := by simpa using hk
    have hko' : l[k].own = x := by simpa using hko
    have e1 := set_perm hk' (⟨-2, (l.getD k default).val⟩ : Pg)
    have e2 := get_perm hk'
    have hval : (l.getD k default).val = l[k].val := by simp [hk']
    refine ⟨?_, ?_, by simp, ?_⟩
    · refine (live_perm e1).trans ?_
      refine List.Perm.trans ?_ ((live_perm e2).filter _).symm
      have e3 : live (l[k] :: (l.take k ++ l.drop (k + 1))) = l[k] :: live (l.take k ++ l.drop (k + 1)) := by
        unfold live; rw [List.filter_cons_of_pos (by rw [hko']; simpa using hx)]
      have e4 : live ((⟨-2, (l.getD k default).val⟩ : Pg) :: (l.take k ++ l.drop (k + 1))) = live (l.take k ++ l.drop (k + 1)) := by
        unfold live; rw [List.filter_cons_of_neg (by simp)]
      rw [e3, e4, List.filter_cons_of_neg (by simp [hko'])]
      have hnd : LiveOk (l[k] :: (l.take k ++ l.drop (k + 1))) := h.perm (live_perm e2)
      unfold LiveOk at hnd
      rw [e3, List.map_cons, List.nodup_cons] at hnd
      rw [List.filter_eq_self.2]
      intro p hp
      have : p.own ≠ x := fun ho => hnd.1 (List.mem_map.2 ⟨p, hp, by rw [ho, hko']⟩)
      simpa using this
    · rw [freeN_perm e1, freeN_perm e2]
      have : ¬ l[k].own = -1 := by omega
      simp [freeN, this]
    · intro p hp
      rcases List.mem_or_eq_of_mem_set hp with hp | hp
      · exact .inr hp
      · exact .inl ⟨by rw [hp], l[k], List.getElem_mem hk', by rw [hp]; exact hval.symm⟩
theorem writeF_spec {f : Fl} (h : FlashOk f) (x v : Int) (hx : 0 ≤ x) : (live (writeF f x v).pages).Perm (⟨x, v⟩ :: (live f.pages).filter fun p => !(p.own == x)) ∧ (writeF f x v).pages.length = f.pages.length ∧ (writeF f x v).erases.length = f.erases.length := by
  obtain ⟨r1, r2, r3⟩ := roomF_live h
  have hr := h.room
  obtain ⟨d1, d2, d3, _⟩ := dropL_spec (roomF f).pages x hx (h.one.perm r1.symm)
  obtain ⟨p1, _, _⟩ := put1_spec (l := dropL (roomF f).pages x) (p := ⟨x, v⟩) (by omega) hx
  refine ⟨?_, ?_, ?_⟩
  · refine p1.trans (List.Perm.cons _ ?_)
    exact d1.trans (r1.filter _)
  · simp only [writeF, put1_length]; omega
  · exact r3
theorem liveOk_cons {l : List Pg} {x v : Int} (h : ((live l).map Pg.own).Nodup) : ((⟨x, v⟩ :: (live l).filter fun p => !(p.own == x)).map Pg.own).Nodup := by
  rw [List.map_cons, List.nodup_cons]
  refine ⟨?_, ?_⟩
  · intro hm
    obtain ⟨p, hp, ho⟩ := List.mem_map.1 hm
    have := (List.mem_filter.1 hp).2
    simp at this ho
    exact this ho
  · exact List.Nodup.sublist (List.Sublist.map _ List.filter_sublist) h
theorem writeF_liveOk {f : Fl} (h : FlashOk f) (x v : Int) (hx : 0 ≤ x) : LiveOk (writeF f x v).pages := by
  have := writeF_spec h x v hx
  unfold LiveOk
  rw [List.Perm.nodup_iff (this.1.map Pg.own)]
  exact liveOk_cons h.one
theorem FlashOk.write_ok {f : Fl} (h : FlashOk f) (he : ∀ x ∈ f.erases, x ≤ 999999) {x v : Int} (hx : inB x 0 (((f.erases.length : Int) - 1) * 4 - 1) = true) (hv : inB v 0 255 = true) : FlashOk (writeF f x v) := by
  have hx' := inB_true.1 hx
  have hv' := inB_true.1 hv
  have hr := h.room_ok he
  obtain ⟨s1, s2, s3⟩ := writeF_spec h x v hx'.1
  obtain ⟨_, _, _, d4⟩ := dropL_spec (roomF f).pages x hx'.1 hr.one
  have hre := (roomF_live h).2.2
  refine ⟨by have := h.n2; omega, by have := h.n6; omega, by rw [s2, s3]; exact h.len, hr.ers, ?_, ?_, writeF_liveOk h x v hx'.1⟩
  · intro p hp
    rw [s3]
    rcases mem_put1 hp with hp | hp
    · subst hp; simp only; omega
    · rcases d4 p hp with ⟨hp, _⟩ | hp
      · have := h.n2; rw [hp]; omega
      · have := hr.own p hp; rw [hre] at this; exact this
  · intro p hp
    rcases mem_put1 hp with hp | hp
    · subst hp; exact hv'
    · rcases d4 p hp with ⟨_, q, hq, he⟩ | hp
      · rw [← he]; exact hr.val q hq
      · exact hr.val p hp
theorem writeF_val {f : Fl} (h : FlashOk f) (x v : Int) (hx : 0 ≤ x) {k : Int} (hk : 0 ≤ k) : valOf (writeF f x v).pages k = if k = x then v else valOf f.pages k := by
  have hs := (writeF_spec h x v hx).1
  have hl := writeF_liveOk h x v hx
  have hmem : ∀ p, 0 ≤ p.own → (p ∈ (writeF f x v).pages ↔ p = ⟨x, v⟩ ∨ (p ∈ f.pages ∧ p.own ≠ x)) := by
    intro p hp
    have e : p ∈ live (writeF f x v).pages ↔ p ∈ (writeF f x v).pages := by simp [live, hp]
    rw [← e, hs.mem_iff]
    simp [live, hp]
  by_cases hkx : k = x
  · rw [if_pos hkx, valOf_iff hl hk]
    exact .inl ⟨⟨x, v⟩, (hmem _ hx).2 (.inl rfl), hkx.symm, rfl⟩
  · rw [if_neg hkx, valOf_iff hl hk]
    rcases (valOf_iff h.one hk).1 (rfl : valOf f.pages k = _) with ⟨p, hp1, ho, hv⟩ | ⟨h0, hn⟩
    · exact .inl ⟨p, (hmem p (by rw [ho]; exact hk)).2 (.inr ⟨hp1, by rw [ho]; exact hkx⟩), ho, hv⟩
    · refine .inr ⟨h0, fun p hp ho => ?_⟩
      rcases (hmem p (by rw [ho]; exact hk)).1 hp with hp | ⟨hp, _⟩
      · rw [hp] at ho; exact hkx ho.symm
      · exact hn p hp ho
theorem viewL_length (l : List Pg) (n : Nat) : (viewL l n).length = n := by simp [viewL]
theorem viewL_get (l : List Pg) (n k : Nat) (hk : k < (viewL l n).length) : (viewL l n)[k] = valOf l k := by simp [viewL]
theorem writeF_view {f : Fl} (h : FlashOk f) (x v : Int) (hx : 0 ≤ x) (n : Nat) : viewL (writeF f x v).pages n = (viewL f.pages n).set x.toNat v := by
  apply List.ext_getElem
  · simp [viewL]
  · intro k h1 h2
    rw [viewL_get, writeF_val h x v hx (by omega)]
    by_cases hkx : (k : Int) = x
    · have : x.toNat = k := by omega
      rw [if_pos hkx]
      simp [this]
    · rw [if_neg hkx, List.getElem_set_ne (by omega), viewL_get]
theorem valOf_range {f : Fl} (h : FlashOk f) {k : Int} (hk : 0 ≤ k) : 0 ≤ valOf f.pages k ∧ valOf f.pages k ≤ 255 := by
  rcases (valOf_iff h.one hk).1 (rfl : valOf f.pages k = _) with ⟨p, hp1, ho, hv⟩ | ⟨h0, hn⟩
  · rw [← hv]; exact h.val p hp1
  · omega
end Go.Proofs.Ytnnanknljpkdeaa
