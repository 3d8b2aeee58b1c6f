/- Lemmas and walks that this claim needs, in one text out of several; each states its own conditions. -/
import Derived.Test.YtgjahnomafpnfaaGreatDoorMB2
import Derived.Deep.Cut
import Derived.Test.YtgjahnomafpnfaaGreatDoorMB3
import Derived.Test.YtgjahnomafpnfaaGreatDoorMPostOrder1
import Derived.Test.YtgjahnomafpnfaaGreatDoorMB8
set_option linter.unusedVariables false
set_option linter.unusedSimpArgs false
/- Merging in place: swaps, rotations and halves of a row; no program in sight. -/
namespace Go.Proofs.YtgjahnomafpnfaaGreatDoor
open Go.RowKit
/-- zs' is zs with the places turned by s. -/
structure Re (s : Nat → Nat) (zs zs' : List Rec) : Prop where
  perm : zs'.Perm zs
  at_ : ∀ k, zs'[k]? = zs[s k]?
theorem Re.refl (zs : List Rec) : Re (fun k => k) zs zs := ⟨.refl _, fun _ => rfl⟩
theorem Re.len {s : Nat → Nat} {zs zs' : List Rec} (h : Re s zs zs') : zs'.length = zs.length := h.perm.length_eq
theorem Re.of {s s' : Nat → Nat} {zs zs' : List Rec} (h : Re s zs zs') (hs : ∀ k, s k = s' k) : Re s' zs zs' := ⟨h.perm, fun k => by rw [h.at_, hs]⟩
theorem swap_get {zs : List Rec} {i j : Nat} {x y : Rec} (hi : zs[i]? = some x) (hj : zs[j]? = some y) (k : Nat) : ((zs.set i y).set j x)[k]? = zs[if k = j then i else if k = i then j else k]? := by
  have li := (List.getElem?_eq_some_iff.1 hi).1
  have lj := (List.getElem?_eq_some_iff.1 hj).1
  simp only [List.getElem?_set, List.length_set]
  by_cases e : k = j
  · rw [if_pos e.symm, if_pos lj, if_pos e, hi]
  · rw [if_neg (Ne.symm e), if_neg e]
    by_cases e' : k = i
    · rw [if_pos e'.symm, if_pos li, if_pos e', hj]
    · rw [if_neg (Ne.symm e'), if_neg e']
theorem swap_perm {zs : List Rec} {i j : Nat} {x y : Rec} (hi : zs[i]? = some x) (hj : zs[j]? = some y) : ((zs.set i y).set j x).Perm zs := by
  obtain ⟨hl1, rfl⟩ := List.getElem?_eq_some_iff.1 hi
  obtain ⟨hl0, rfl⟩ := List.getElem?_eq_some_iff.1 hj
  exact List.set_set_perm hl1 hl0
theorem Re.swap {s : Nat → Nat} {zs ys : List Rec} (h : Re s zs ys) {i j : Nat} {x y : Rec} (hi : ys[i]? = some x) (hj : ys[j]? = some y) : Re (fun k => s (if k = j then i else if k = i then j else k)) zs ((ys.set i y).set j x) :=
  ⟨(swap_perm hi hj).trans h.perm, fun k => by rw [swap_get hi hj, h.at_]⟩
/-- k places from a on against k places from b on. -/
def sigR (a b k t : Nat) : Nat := if a ≤ t ∧ t < a + k then t - a + b else if b ≤ t ∧ t < b + k then t - b + a else t
theorem Re.range {a b k : Nat} {zs ys : List Rec} (hab : a + (k + 1) ≤ b) (h : Re (sigR a b k) zs ys) {x y : Rec} (hi : ys[a + k]? = some x) (hj : ys[b + k]? = some y) : Re (sigR a b (k + 1)) zs ((ys.set (a + k) y).set (b + k) x) := by
  refine (h.swap hi hj).of fun t => ?_
  unfold sigR
  repeat' split
  all_goals omega
/-- [a, m) and [m, b) change places. -/
def rot (a m b t : Nat) : Nat := if a ≤ t ∧ t < a + (b - m) then t - a + m else if a + (b - m) ≤ t ∧ t < b then t - (b - m) else t
/-- Where a rotation stands. -/
structure RotSt (a m b : Nat) (zs ys : List Rec) (i j : Nat) : Prop where
  perm : ys.Perm zs
  at_ : ∀ k, zs[rot a m b k]? = ys[rot (m - i) m (m + j) k]?
  i1 : 1 ≤ i
  j1 : 1 ≤ j
  im : a + i ≤ m
  jb : m + j ≤ b
theorem RotSt.start {a m b : Nat} {zs : List Rec} (h1 : a < m) (h2 : m < b) : RotSt a m b zs zs (m - a) (b - m) :=
  ⟨.refl _, fun k => by rw [show m - (m - a) = a from by omega, show m + (b - m) = b from by omega], by omega, by omega, by omega, by omega⟩
theorem RotSt.big {a m b : Nat} {zs ys ys' : List Rec} {i j : Nat} (h : RotSt a m b zs ys i j) (hij : j < i) (k : Re (sigR (m - i) m j) ys ys') : RotSt a m b zs ys' (i - j) j := by
  have := h.im
  refine ⟨k.perm.trans h.perm, fun t => ?_, by omega, h.j1, by omega, h.jb⟩
  rw [h.at_, k.at_]
  congr 1
  unfold rot sigR
  repeat' split
  all_goals omega
theorem RotSt.small {a m b : Nat} {zs ys ys' : List Rec} {i j : Nat} (h : RotSt a m b zs ys i j) (hij : i < j) (k : Re (sigR (m - i) (m + j - i) i) ys ys') : RotSt a m b zs ys' i (j - i) := by
  have := h.im
  have := h.jb
  refine ⟨k.perm.trans h.perm, fun t => ?_, h.i1, by omega, h.im, by omega⟩
  rw [h.at_, k.at_]
  congr 1
  unfold rot sigR
  repeat' split
  all_goals omega
theorem RotSt.done {a m b : Nat} {zs ys ys' : List Rec} {i : Nat} (h : RotSt a m b zs ys i i) (k : Re (sigR (m - i) m i) ys ys') : Re (rot a m b) zs ys' := by
  have := h.im
  refine ⟨k.perm.trans h.perm, fun t => ?_⟩
  rw [h.at_, k.at_]
  congr 1
  unfold rot sigR
  repeat' split
  all_goals omega
theorem Re.moved {s : Nat → Nat} {a b : Nat} {zs ys : List Rec} (h : Re s zs ys) (h1 : ∀ k, k < a → s k = k) (h2 : ∀ k, b ≤ k → s k = k) : Moved a b zs ys :=
  ⟨h.perm, fun k hk => by rw [h.at_, h1 k hk], fun k hk => by rw [h.at_, h2 k hk]⟩
/-- What lies between a and b lay there before. -/
theorem Moved.mem {a b : Nat} {zs ys : List Rec} (h : Moved a b zs ys) (hab : a ≤ b) (hb : b ≤ zs.length) {k : Nat} {x : Rec} (ha : a ≤ k) (hk : k < b) (hx : ys[k]? = some x) : ∃ j, a ≤ j ∧ j < b ∧ zs[j]? = some x := by
  have hl := h.perm.length_eq
  have split : ∀ l : List Rec, l = l.take a ++ ((l.drop a).take (b - a) ++ l.drop b) := fun l => by
    have e : l.drop b = (l.drop a).drop (b - a) := by rw [List.drop_drop, show a + (b - a) = b from by omega]
    rw [e, List.take_append_drop, List.take_append_drop]
  have e1 : ys.take a = zs.take a := by
    apply List.ext_getElem?
    intro i
    rw [List.getElem?_take, List.getElem?_take]
    split
    · exact h.pre i (by omega)
    · rfl
  have e2 : ys.drop b = zs.drop b := by
    apply List.ext_getElem?
    intro i
    rw [List.getElem?_drop, List.getElem?_drop]
    exact h.post _ (by omega)
  have hp := h.perm
  rw [split ys, split zs, e1, e2] at hp
  have hp2 := (List.perm_append_right_iff _).1 ((List.perm_append_left_iff _).1 hp)
  have hm : x ∈ (ys.drop a).take (b - a) := by
    refine List.mem_of_getElem? (i := k - a) ?_
    rw [List.getElem?_take, if_pos (by omega), List.getElem?_drop, show a + (k - a) = k from by omega]
    exact hx
  obtain ⟨j, hj⟩ := List.getElem?_of_mem (hp2.mem_iff.1 hm)
  rw [List.getElem?_take] at hj
  split at hj
  · rw [List.getElem?_drop] at hj
    exact ⟨a + j, by omega, by omega, hj⟩
  · cases hj
/-- Two sorted parts, the first below the second. -/
theorem SortedOn.join {a m b : Nat} {zs : List Rec} (h1 : SortedOn a m zs) (h2 : SortedOn m b zs) (h : ∀ (p q : Nat) x y, a ≤ p → p < m → m ≤ q → q < b → zs[p]? = some x → zs[q]? = some y → leR x y) : SortedOn a b zs := by
  intro p q x y ha hpq hq hx hy
  rcases Nat.lt_or_ge q m with g | g
  · exact h1 p q x y ha hpq g hx hy
  · rcases Nat.lt_or_ge p m with g' | g'
    · exact h p q x y ha g' g hq hx hy
    · exact h2 p q x y g' hpq hq hx hy
theorem SortedOn.sub {a b a' b' : Nat} {zs : List Rec} (h : SortedOn a b zs) (ha : a ≤ a') (hb : b' ≤ b) : SortedOn a' b' zs := fun p q x y h1 h2 h3 => h p q x y (by omega) h2 (by omega)
theorem SortedOn.same {a b : Nat} {zs ys : List Rec} (h : SortedOn a b zs) (he : ∀ k, a ≤ k → k < b → ys[k]? = zs[k]?) : SortedOn a b ys := fun p q x y h1 h2 h3 h4 h5 => h p q x y h1 h2 h3 (by rw [← he p h1 (by omega)]; exact h4) (by rw [← he q (by omega) h3]; exact h5)
/-! ### One record against a row -/
/-- Where a search in [lo, hi) for the place of x stands: what is below i is not behind x, what is from j on is not before it. -/
structure Srch (zs : List Rec) (x : Rec) (lo hi i j : Nat) : Prop where
  le1 : lo ≤ i
  le2 : i ≤ j
  le3 : j ≤ hi
  lows : ∀ h y, lo ≤ h → h < i → zs[h]? = some y → leR y x
  highs : ∀ h y, j ≤ h → h < hi → zs[h]? = some y → leR x y
theorem Srch.start {zs : List Rec} {x : Rec} {lo hi : Nat} (h : lo ≤ hi) : Srch zs x lo hi lo hi := ⟨Nat.le_refl _, h, Nat.le_refl _, fun h y h1 h2 => by omega, fun h y h1 h2 => by omega⟩
theorem Srch.up {zs : List Rec} {x : Rec} {lo hi i j : Nat} (s : Srch zs x lo hi i j) (hs : SortedOn lo hi zs) {h : Nat} {y : Rec} (h1 : i ≤ h) (h2 : h < j) (hy : zs[h]? = some y) (hle : leR y x) : Srch zs x lo hi (h + 1) j := by
  have := s.le1
  have := s.le3
  refine ⟨by omega, by omega, s.le3, fun k z k1 k2 hz => ?_, s.highs⟩
  rcases Nat.lt_or_ge k h with g | g
  · exact leR_trans (hs k h z y k1 g (by omega) hz hy) hle
  · obtain rfl : k = h := by omega
    rw [hy] at hz; cases hz; exact hle
theorem Srch.down {zs : List Rec} {x : Rec} {lo hi i j : Nat} (s : Srch zs x lo hi i j) (hs : SortedOn lo hi zs) {h : Nat} {y : Rec} (h1 : i ≤ h) (h2 : h < j) (hy : zs[h]? = some y) (hle : leR x y) : Srch zs x lo hi i h := by
  have := s.le1
  have := s.le3
  refine ⟨s.le1, h1, by omega, s.lows, fun k z k1 k2 hz => ?_⟩
  rcases Nat.lt_or_ge h k with g | g
  · exact leR_trans hle (hs h k y z (by omega) g k2 hy hz)
  · obtain rfl : k = h := by omega
    rw [hy] at hz; cases hz; exact hle
/-- The record at a goes up to k. -/
def sigUp (a k t : Nat) : Nat := if a ≤ t ∧ t < k then t + 1 else if t = k then a else t
theorem Re.up {a k : Nat} {zs ys : List Rec} (h : Re (sigUp a k) zs ys) (hk : a ≤ k) {x y : Rec} (hi : ys[k]? = some x) (hj : ys[k + 1]? = some y) : Re (sigUp a (k + 1)) zs ((ys.set k y).set (k + 1) x) := by
  refine (h.swap hi hj).of fun t => ?_
  unfold sigUp
  repeat' split
  all_goals omega
theorem Re.up0 (a : Nat) (zs : List Rec) : Re (sigUp a a) zs zs := (Re.refl zs).of fun t => by unfold sigUp; (repeat' split) <;> omega
/-- The record at m goes down to k. -/
def sigDn (m k t : Nat) : Nat := if k < t ∧ t ≤ m then t - 1 else if t = k then m else t
theorem Re.dn {m k : Nat} {zs ys : List Rec} (h : Re (sigDn m (k + 1)) zs ys) (hk : k + 1 ≤ m) {x y : Rec} (hi : ys[k + 1]? = some x) (hj : ys[k]? = some y) : Re (sigDn m k) zs ((ys.set (k + 1) y).set k x) := by
  refine (h.swap hi hj).of fun t => ?_
  unfold sigDn
  repeat' split
  all_goals omega
theorem Re.dn0 (m : Nat) (zs : List Rec) : Re (sigDn m m) zs zs := (Re.refl zs).of fun t => by unfold sigDn; (repeat' split) <;> omega
theorem up_sorted {a b i : Nat} {zs ys : List Rec} {x : Rec} (hx : zs[a]? = some x) (hs : SortedOn (a + 1) b zs) (s : Srch zs x (a + 1) b i i) (h : Re (sigUp a (i - 1)) zs ys) : Moved a b zs ys ∧ SortedOn a b ys := by
  have l1 := s.le1
  have l3 := s.le3
  refine ⟨h.moved (fun k hk => ?_) (fun k hk => ?_), fun p q u v hp hpq hq hu hv => ?_⟩
  · unfold sigUp; repeat' split
    all_goals omega
  · unfold sigUp; repeat' split
    all_goals omega
  · rw [h.at_] at hu hv
    unfold sigUp at hu hv
    by_cases h1 : p < i - 1
    · rw [if_pos ⟨hp, h1⟩] at hu
      by_cases h2 : q < i - 1
      · rw [if_pos ⟨by omega, h2⟩] at hv
        exact hs (p + 1) (q + 1) u v (by omega) (by omega) (by omega) hu hv
      · rw [if_neg (by omega)] at hv
        by_cases h3 : q = i - 1
        · rw [if_pos h3, hx] at hv; cases hv
          exact s.lows (p + 1) u (by omega) (by omega) hu
        · rw [if_neg h3] at hv
          exact hs (p + 1) q u v (by omega) (by omega) hq hu hv
    · rw [if_neg (by omega)] at hu
      rw [if_neg (by omega)] at hv
      by_cases h3 : p = i - 1
      · rw [if_pos h3, hx] at hu; cases hu
        rw [if_neg (by omega)] at hv
        exact s.highs q v (by omega) hq hv
      · rw [if_neg h3] at hu
        rw [if_neg (by omega)] at hv
        exact hs p q u v (by omega) hpq hq hu hv
theorem dn_sorted {a m i : Nat} {zs ys : List Rec} {x : Rec} (hx : zs[m]? = some x) (hs : SortedOn a m zs) (s : Srch zs x a m i i) (h : Re (sigDn m i) zs ys) : Moved a (m + 1) zs ys ∧ SortedOn a (m + 1) ys := by
  have l1 := s.le1
  have l3 := s.le3
  refine ⟨h.moved (fun k hk => ?_) (fun k hk => ?_), fun p q u v hp hpq hq hu hv => ?_⟩
  · unfold sigDn; repeat' split
    all_goals omega
  · unfold sigDn; repeat' split
    all_goals omega
  · rw [h.at_] at hu hv
    unfold sigDn at hu hv
    by_cases h1 : i < p
    · rw [if_pos ⟨h1, by omega⟩] at hu
      rw [if_pos ⟨by omega, by omega⟩] at hv
      exact hs (p - 1) (q - 1) u v (by omega) (by omega) (by omega) hu hv
    · rw [if_neg (by omega)] at hu
      by_cases h2 : p = i
      · rw [if_pos h2, hx] at hu; cases hu
        rw [if_pos ⟨by omega, by omega⟩] at hv
        exact s.highs (q - 1) v (by omega) (by omega) hv
      · rw [if_neg h2] at hu
        by_cases h3 : i < q
        · rw [if_pos ⟨h3, by omega⟩] at hv
          exact hs p (q - 1) u v hp (by omega) (by omega) hu hv
        · rw [if_neg (by omega)] at hv
          by_cases h4 : q = i
          · rw [if_pos h4, hx] at hv; cases hv
            exact s.lows p u hp (by omega) hu
          · rw [if_neg h4] at hv
            exact hs p q u v hp hpq (by omega) hu hv
/-! ### Two rows -/
def symLo (a m b : Nat) : Nat := if (a + b) / 2 < m then (a + b) / 2 + m - b else a
def symHi (a m b : Nat) : Nat := if (a + b) / 2 < m then (a + b) / 2 else m
/-- Where the search of symMerge stands. -/
structure Sym (zs : List Rec) (a m b st r : Nat) : Prop where
  le1 : symLo a m b ≤ st
  le2 : st ≤ r
  le3 : r ≤ symHi a m b
  lows : st = symLo a m b ∨ ∃ x y, zs[st - 1]? = some x ∧ zs[(a + b) / 2 + m - st]? = some y ∧ leR x y
  highs : r = symHi a m b ∨ ∃ x y, zs[(a + b) / 2 + m - 1 - r]? = some x ∧ zs[r]? = some y ∧ leR x y
theorem sym_bounds {a m b : Nat} (h1 : a < m) (h2 : m < b) : a ≤ symLo a m b ∧ symLo a m b ≤ symHi a m b ∧ symHi a m b ≤ m ∧ symHi a m b ≤ (a + b) / 2 ∧ (a + b) / 2 + m - symLo a m b ≤ b ∧ m ≤ (a + b) / 2 + m - symHi a m b ∧ a < (a + b) / 2 ∨ (b = a + 1) := by
  unfold symLo symHi
  split <;> omega
theorem Sym.start {zs : List Rec} {a m b : Nat} (h1 : a < m) (h2 : m < b) : Sym zs a m b (symLo a m b) (symHi a m b) := by
  refine ⟨Nat.le_refl _, ?_, Nat.le_refl _, .inl rfl, .inl rfl⟩
  unfold symLo symHi
  split <;> omega
theorem Sym.up {zs : List Rec} {a m b st r c : Nat} (s : Sym zs a m b st r) (h1 : st ≤ c) (h2 : c < r) {x y : Rec} (hx : zs[c]? = some x) (hy : zs[(a + b) / 2 + m - 1 - c]? = some y) (hle : leR x y) : Sym zs a m b (c + 1) r := by
  have := s.le1
  refine ⟨by omega, by omega, s.le3, .inr ⟨x, y, by simpa using hx, ?_, hle⟩, s.highs⟩
  rw [show (a + b) / 2 + m - (c + 1) = (a + b) / 2 + m - 1 - c from by omega]
  exact hy
theorem Sym.down {zs : List Rec} {a m b st r c : Nat} (s : Sym zs a m b st r) (h1 : st ≤ c) (h2 : c < r) {x y : Rec} (hx : zs[c]? = some x) (hy : zs[(a + b) / 2 + m - 1 - c]? = some y) (hle : leR y x) : Sym zs a m b st c := by
  have := s.le3
  exact ⟨s.le1, h1, by omega, s.lows, .inr ⟨y, x, hy, hx, hle⟩⟩
/-- Behind the rotation: what is to be merged still, and that all on the left is not behind what is on the right. -/
theorem sym_split {zs ys : List Rec} {a m b st : Nat} (h1 : a < m) (h2 : m < b) (hb : b ≤ zs.length) (hs1 : SortedOn a m zs) (hs2 : SortedOn m b zs) (s : Sym zs a m b st st) (h : Re (rot st m ((a + b) / 2 + m - st)) zs ys) :
    Moved a b zs ys ∧ SortedOn a st ys ∧ SortedOn st ((a + b) / 2) ys ∧ SortedOn ((a + b) / 2) ((a + b) / 2 + m - st) ys ∧ SortedOn ((a + b) / 2 + m - st) b ys ∧
      ∀ (p q : Nat) x y, a ≤ p → p < (a + b) / 2 → (a + b) / 2 ≤ q → q < b → ys[p]? = some x → ys[q]? = some y → leR x y := by
  have b1 : a ≤ st ∧ st ≤ m ∧ st ≤ (a + b) / 2 ∧ (a + b) / 2 + m - st ≤ b ∧ m ≤ (a + b) / 2 + m - st := by
    have l1 := s.le1
    have l3 := s.le3
    unfold symLo at l1
    unfold symHi at l3
    by_cases hh : (a + b) / 2 < m
    · rw [if_pos hh] at l1 l3; omega
    · rw [if_neg hh] at l1 l3; omega
  have L1R2 : ∀ (p q : Nat) x y, a ≤ p → p < st → (a + b) / 2 + m - st ≤ q → q < b → zs[p]? = some x → zs[q]? = some y → leR x y := by
    intro p q x y p1 p2 q1 q2 hx hy
    rcases s.lows with e | ⟨u, v, hu, hv, hle⟩
    · unfold symLo at e
      split at e <;> omega
    · have e1 : leR x u := by
        rcases Nat.lt_or_ge p (st - 1) with g | g
        · exact hs1 p (st - 1) x u p1 g (by omega) hx hu
        · obtain rfl : p = st - 1 := by omega
          rw [hx] at hu; cases hu; exact (by rw [leR, ordC_nonneg]; omega)
      have e2 : leR v y := by
        rcases Nat.lt_or_ge ((a + b) / 2 + m - st) q with g | g
        · exact hs2 _ q v y (by omega) g q2 hv hy
        · obtain rfl : q = (a + b) / 2 + m - st := by omega
          rw [hy] at hv; cases hv; exact (by rw [leR, ordC_nonneg]; omega)
      exact leR_trans (leR_trans e1 hle) e2
  have R1L2 : ∀ (p q : Nat) x y, m ≤ p → p < (a + b) / 2 + m - st → st ≤ q → q < m → zs[p]? = some x → zs[q]? = some y → leR x y := by
    intro p q x y p1 p2 q1 q2 hx hy
    rcases s.highs with e | ⟨u, v, hu, hv, hle⟩
    · unfold symHi at e
      split at e <;> omega
    · have e1 : leR x u := by
        rcases Nat.lt_or_ge p ((a + b) / 2 + m - 1 - st) with g | g
        · exact hs2 p _ x u p1 g (by omega) hx hu
        · obtain rfl : p = (a + b) / 2 + m - 1 - st := by omega
          rw [hx] at hu; cases hu; exact (by rw [leR, ordC_nonneg]; omega)
      have e2 : leR v y := by
        rcases Nat.lt_or_ge st q with g | g
        · exact hs1 st q v y (by omega) g q2 hv hy
        · obtain rfl : q = st := by omega
          rw [hy] at hv; cases hv; exact (by rw [leR, ordC_nonneg]; omega)
      exact leR_trans (leR_trans e1 hle) e2
  generalize (a + b) / 2 = mid at b1 h L1R2 R1L2 ⊢
  have e1 : ∀ k, k < st → ys[k]? = zs[k]? := fun k hk => by
    rw [h.at_]; congr 1; unfold rot; (repeat' split) <;> omega
  have e2 : ∀ k, st ≤ k → k < mid → ys[k]? = zs[k - st + m]? := fun k g hk => by
    rw [h.at_]; congr 1; unfold rot; (repeat' split) <;> omega
  have e3 : ∀ k, mid ≤ k → k < mid + m - st → ys[k]? = zs[k + st - mid]? := fun k g hk => by
    rw [h.at_]; congr 1; unfold rot; (repeat' split) <;> omega
  have e4 : ∀ k, mid + m - st ≤ k → ys[k]? = zs[k]? := fun k g => by
    rw [h.at_]; congr 1; unfold rot; (repeat' split) <;> omega
  refine ⟨⟨h.perm, fun k hk => e1 k (by omega), fun k hk => e4 k (by omega)⟩, hs1.sub (Nat.le_refl _) b1.2.1 |>.same (fun k _ hk => e1 k hk), fun p q x y p1 pq q1 hx hy => ?_, fun p q x y p1 pq q1 hx hy => ?_, (hs2.sub b1.2.2.2.2 (Nat.le_refl _)).same (fun k hk _ => e4 k hk), fun p q x y p1 p2 q1 q2 hx hy => ?_⟩
  · rw [e2 p p1 (by omega)] at hx
    rw [e2 q (by omega) q1] at hy
    exact hs2 _ _ x y (by omega) (by omega) (by omega) hx hy
  · rw [e3 p p1 (by omega)] at hx
    rw [e3 q (by omega) q1] at hy
    exact hs1 _ _ x y (by omega) (by omega) (by omega) hx hy
  · rcases Nat.lt_or_ge p st with g | g
    · rw [e1 p g] at hx
      rcases Nat.lt_or_ge q (mid + m - st) with k | k
      · rw [e3 q q1 k] at hy
        exact hs1 _ _ x y p1 (by omega) (by omega) hx hy
      · rw [e4 q k] at hy
        exact L1R2 p q x y p1 g k q2 hx hy
    · rw [e2 p g p2] at hx
      rcases Nat.lt_or_ge q (mid + m - st) with k | k
      · rw [e3 q q1 k] at hy
        exact R1L2 _ _ x y (by omega) (by omega) (by omega) (by omega) hx hy
      · rw [e4 q k] at hy
        exact hs2 _ _ x y (by omega) (by omega) q2 hx hy
/-- Both halves sorted. -/
theorem sym_join {zs ys us vs : List Rec} {a mid b : Nat} (h1 : a ≤ mid) (h2 : mid ≤ b) (hb : b ≤ ys.length) (hc : ∀ (p q : Nat) x y, a ≤ p → p < mid → mid ≤ q → q < b → ys[p]? = some x → ys[q]? = some y → leR x y)
    (m0 : Moved a b zs ys) (m1 : Moved a mid ys us) (s1 : SortedOn a mid us) (m2 : Moved mid b us vs) (s2 : SortedOn mid b vs) : Moved a b zs vs ∧ SortedOn a b vs := by
  refine ⟨(m0.trans (m1.mono (Nat.le_refl _) h2)).trans (m2.mono h1 (Nat.le_refl _)), SortedOn.join (s1.same fun k _ hk => m2.pre k hk) s2 fun p q x y p1 p2 q1 q2 hx hy => ?_⟩
  rw [m2.pre p p2] at hx
  obtain ⟨i, i1, i2, hi⟩ := m1.mem h1 (by omega) p1 p2 hx
  obtain ⟨j, j1, j2, hj⟩ := m2.mem h2 (by rw [m1.perm.length_eq]; exact hb) q1 q2 hy
  rw [m1.post j j1] at hj
  exact hc i j x y i1 i2 j1 j2 hi hj
end Go.Proofs.YtgjahnomafpnfaaGreatDoor

/- slices.swapRangeCmpFunc, rotateCmpFunc at records. -/
namespace Go.Proofs.YtgjahnomafpnfaaGreatDoor
open Go.RowKit
set_option maxHeartbeats 800000 in
set_option maxRecDepth 100000 in
theorem swapRange_any (B : Nat) (w0 : World) (g cap a b n : Nat) (zs : List Rec) (w : World) (hR : RowW B w0 w g zs) (hab : a + n ≤ b) (hb : b + n ≤ zs.length) (hn : zs.length ≤ 1000000) :
    Calls Tryz.prog 220 #[.slice (some ⟨g, 0, none⟩) zs.length cap, .int .i64 a, .int .i64 b, .int .i64 n, .func (.func 79) #[] #[]] w fun e w' => e = .returned (.tuple #[]) ∧ ∃ zs', RowW B w0 w' g zs' ∧ Re (sigR a b n) zs zs' := by
  have HR := Lib.hid hR
  clear hR
  go_enter Tryz.func220, Tryz.ntmps220
  go_wp2
  go_loopw [10] (fun vi wr => ∃ (k : Nat) (ys : List Rec), vi = .int .i64 k ∧ k ≤ n ∧ RowW B w0 wr g ys ∧ Re (sigR a b k) zs ys) (fun vi _ => n - (intOf vi).toNat)
  case atStart => exact ⟨0, zs, rfl, by omega, HR.out, (Re.refl zs).of fun t => by unfold sigR; (repeat' split) <;> omega⟩
  case round =>
    obtain ⟨k, ys, rfl, hk, hR, hS⟩ := hrel
    have HR := Lib.hid hR
    have HS := Lib.hid hS
    have hlen : ys.length = zs.length := hS.len
    clear hR hS
    by_cases hlt : k < n
    · have hltz : (k : Int) < (n : Int) := by omega
      obtain ⟨x, hx⟩ : ∃ x, ys[a + k]? = some x := ⟨_, List.getElem?_eq_getElem (by omega)⟩
      obtain ⟨y, hy⟩ : ∃ y, ys[b + k]? = some y := ⟨_, List.getElem?_eq_getElem (by omega)⟩
      obtain ⟨c0, c1, c2, c3⟩ := HR.out.cells hx
      obtain ⟨d0, d1, d2, d3⟩ := HR.out.cells hy
      obtain ⟨f0, f1, f2, f3⟩ := HR.out.marks (j := a + k) (by omega)
      obtain ⟨m0, m1, m2, m3⟩ := HR.out.marks (j := b + k) (by omega)
      have hw1 : IntKind.i64.wrap ((a : Int) + k) = ((a + k : Nat) : Int) := by rw [IntWalk.i64_in _ (by omega)]; omega
      have hw2 : IntKind.i64.wrap ((b : Int) + k) = ((b + k : Nat) : Int) := by rw [IntWalk.i64_in _ (by omega)]; omega
      have ha1 : ((a + k : Nat) : Int) < zs.length := by omega
      have hb1 : ((b + k : Nat) : Int) < zs.length := by omega
      have hHX := Lib.hid (And.intro hx hy)
      clear hx hy
      generalize hA : a + k = A at *
      generalize hB : b + k = Bb at *
      go_wp2_with fail
      go_big_region
      all_goals go_wp2
      go_roundw
      case rel =>
        subst hA hB
        exact ⟨k + 1, _, by go_num, by omega, ((HR.out.set (a + k) y (by omega)).set (b + k) x (by rw [List.length_set]; omega)).ext (Ext.drew _), HS.out.range (by omega) hHX.out.1 hHX.out.2⟩
      case measure => simp [intOf]; omega
    · obtain rfl : k = n := by omega
      go_wp2
      refine bodyPost_end (results_none rfl _ _ _) rfl ⟨rfl, ys, HR.out, HS.out⟩
set_option maxHeartbeats 800000 in
set_option maxRecDepth 100000 in
theorem rotate_any (B : Nat) (w0 : World) (g cap a m b : Nat) (zs : List Rec) (w : World) (hR : RowW B w0 w g zs) (ham : a < m) (hmb : m < b) (hb : b ≤ zs.length) (hn : zs.length ≤ 1000000) :
    Calls Tryz.prog 209 #[.slice (some ⟨g, 0, none⟩) zs.length cap, .int .i64 a, .int .i64 m, .int .i64 b, .func (.func 79) #[] #[]] w fun e w' => e = .returned (.tuple #[]) ∧ ∃ zs', RowW B w0 w' g zs' ∧ Re (rot a m b) zs zs' := by
  have HR := Lib.hid hR
  clear hR
  have hw1 : IntKind.i64.wrap ((m : Int) - a) = ((m - a : Nat) : Int) := by rw [IntWalk.i64_in _ (by omega)]; omega
  have hw2 : IntKind.i64.wrap ((b : Int) - m) = ((b - m : Nat) : Int) := by rw [IntWalk.i64_in _ (by omega)]; omega
  go_enter Tryz.func209, Tryz.ntmps209
  go_wp2
  go_loopw [10, 11] (fun vi vj wr => ∃ (i j : Nat) (ys : List Rec), vi = .int .i64 i ∧ vj = .int .i64 j ∧ RowW B w0 wr g ys ∧ RotSt a m b zs ys i j) (fun vi vj _ => (intOf vi).toNat + (intOf vj).toNat)
  case atStart => exact ⟨m - a, b - m, zs, rfl, rfl, HR.out, RotSt.start ham hmb⟩
  case round =>
    obtain ⟨i, j, ys, rfl, rfl, hR, hS⟩ := hrel
    have hlen : ys.length = zs.length := hS.perm.length_eq
    have hi1 := hS.i1
    have hj1 := hS.j1
    have him := hS.im
    have hjb := hS.jb
    have HS := Lib.hid hS
    have hwa : IntKind.i64.wrap ((m : Int) - i) = ((m - i : Nat) : Int) := by rw [IntWalk.i64_in _ (by omega)]; omega
    by_cases hij : i = j
    · subst hij
      have hne : ((i : Int) != (i : Int)) = false := by simp
      have HC := Lib.hid (swapRange_any B w0 g cap (m - i) m i ys wr hR (by omega) (by omega) (by omega))
      rw [hlen] at HC
      clear hS hR
      go_wp2_with fail
      refine HC.out.mono ?_
      rintro e w1 ⟨rfl, zs', h1, h2⟩
      have H := Lib.hid (And.intro h1 (HS.out.done h2))
      clear h1 h2
      go_wp2
      refine bodyPost_end (results_none rfl _ _ _) rfl ⟨rfl, zs', H.out⟩
    · have hne : ((i : Int) != (j : Int)) = true := by simp; omega
      by_cases hlt : j < i
      · have hltz : (j : Int) < i := by omega
        have hwb : IntKind.i64.wrap ((i : Int) - j) = ((i - j : Nat) : Int) := by rw [IntWalk.i64_in _ (by omega)]; omega
        have HC := Lib.hid (swapRange_any B w0 g cap (m - i) m j ys wr hR (by omega) (by omega) (by omega))
        rw [hlen] at HC
        clear hS hR
        go_wp2_with fail
        refine HC.out.mono ?_
        rintro e w1 ⟨rfl, zs', h1, h2⟩
        have H := Lib.hid (And.intro h1 (HS.out.big hlt h2))
        clear h1 h2
        go_wp2
        go_roundw
        case rel => exact ⟨i - j, j, zs', rfl, rfl, H.out⟩
        case measure => simp [intOf]; omega
      · have hltz : ¬ ((j : Int) < i) := by omega
        have hwb : IntKind.i64.wrap ((j : Int) - i) = ((j - i : Nat) : Int) := by rw [IntWalk.i64_in _ (by omega)]; omega
        have hwc : IntKind.i64.wrap ((m : Int) + j) = ((m + j : Nat) : Int) := by rw [IntWalk.i64_in _ (by omega)]; omega
        have hwd : IntKind.i64.wrap (((m + j : Nat) : Int) - i) = ((m + j - i : Nat) : Int) := by rw [IntWalk.i64_in _ (by omega)]; omega
        have HC := Lib.hid (swapRange_any B w0 g cap (m - i) (m + j - i) i ys wr hR (by omega) (by omega) (by omega))
        rw [hlen] at HC
        clear hS hR
        go_wp2_with fail
        rw [show ((m : Int) + j - i) = ((m + j - i : Nat) : Int) from by omega]
        refine HC.out.mono ?_
        rintro e w1 ⟨rfl, zs', h1, h2⟩
        have H := Lib.hid (And.intro h1 (HS.out.small (by omega) h2))
        clear h1 h2
        go_wp2
        go_roundw
        case rel => exact ⟨i, j - i, zs', rfl, rfl, H.out⟩
        case measure => simp [intOf]; omega
end Go.Proofs.YtgjahnomafpnfaaGreatDoor

/- slices.symMergeCmpFunc at records: one record against a row. -/
namespace Go.Proofs.YtgjahnomafpnfaaGreatDoor
open Go.RowKit
/-- What symMerge comes to. -/
def SymPost (B : Nat) (w0 : World) (g a b : Nat) (zs : List Rec) (e : Ending) (w' : World) : Prop :=
  e = .returned (.tuple #[]) ∧ ∃ zs', RowW B w0 w' g zs' ∧ Moved a b zs zs' ∧ SortedOn a b zs'
set_option maxHeartbeats 1600000 in
set_option maxRecDepth 100000 in
theorem sym_up (B : Nat) (w0 : World) (g cap a m b : Nat) (zs : List Rec) (w : World) (hR : RowW B w0 w g zs) (hm : m = a + 1) (hmb : m < b) (hb : b ≤ zs.length) (hn : zs.length ≤ 1000000) (hs : SortedOn m b zs) :
    Calls Tryz.prog 193 #[.slice (some ⟨g, 0, none⟩) zs.length cap, .int .i64 a, .int .i64 m, .int .i64 b, .func (.func 79) #[] #[]] w (SymPost B w0 g a b zs) := by
  have HR := Lib.hid hR
  have HS := Lib.hid hs
  clear hR hs
  have hw1 : IntKind.i64.wrap ((m : Int) - a) = 1 := by rw [IntWalk.i64_in _ (by omega)]; omega
  obtain ⟨x, hx⟩ : ∃ x, zs[a]? = some x := ⟨_, List.getElem?_eq_getElem (by omega)⟩
  have HX := Lib.hid hx
  have HM := Lib.hid hm
  have hma : a < m := by omega
  clear hx hm
  go_enter Tryz.func193, Tryz.ntmps193
  go_wp2
  go_loopw [10, 11] (fun vi vj wr => ∃ (i j : Nat), vi = .int .i64 i ∧ vj = .int .i64 j ∧ RowW B w0 wr g zs ∧ Srch zs x m b i j) (fun vi vj _ => (intOf vj).toNat - (intOf vi).toNat)
  case atStart => exact ⟨m, b, rfl, rfl, HR.out, Srch.start (by omega)⟩
  case round =>
    obtain ⟨i, j, rfl, rfl, hR, hS⟩ := hrel
    have hl1 := hS.le1
    have hl2 := hS.le2
    have hl3 := hS.le3
    have HR2 := Lib.hid hR
    have HS2 := Lib.hid hS
    clear hR hS
    by_cases hlt : i < j
    · have hltz : (i : Int) < (j : Int) := by omega
      have hw2 : IntKind.i64.wrap ((i : Int) + j) = ((i + j : Nat) : Int) := by rw [IntWalk.i64_in _ (by omega)]; omega
      have hw3 : IntKind.u64.wrap ((i + j : Nat) : Int) = ((i + j : Nat) : Int) := by simp only [IntKind.wrap, IntKind.bits, IntKind.signed]; simp; omega
      go_wp2_with fail
      obtain ⟨c, hcc, hci, hcj⟩ : ∃ c : Nat, ((i : Int) + j) / 2 = (c : Int) ∧ i ≤ c ∧ c < j := ⟨(i + j) / 2, by omega, by omega, by omega⟩
      simp only [hcc]
      clear hcc
      obtain ⟨y, hy⟩ : ∃ y, zs[c]? = some y := ⟨_, List.getElem?_eq_getElem (by omega)⟩
      obtain ⟨c0, c1, c2, c3⟩ := HR2.out.cells hy
      obtain ⟨d0, d1, d2, d3⟩ := HR2.out.cells HX.out
      have ha1 : (a : Int) < zs.length := by omega
      have hb1 : (c : Int) < zs.length := by omega
      clear hw2 hw3
      refine wp_drawn 11 (by kernel_rfl) (by kernel_rfl) (fun i => match i with
        | 9 => some fun v _ => v = .int .i64 (ordC y x)
        | 10 => some fun v _ => v = .bool (decide (ordC y x < 0))
        | _ => none) ?_ ?_
      · intro j φ hφ v w1 w2 h1 h2
        split at hφ <;> cases hφ
        all_goals exact h1
      intro ν
      simp only [List.take_succ_cons, List.take_zero]
      iterate 9 (refine Seq.pure ?_ rfl (fun w' hw hf => ?_) ?_; rotate_left; (· (have k0 := hw.keep (w := World.drew _) c0; have k1 := hw.keep (w := World.drew _) c1; have k2 := hw.keep (w := World.drew _) c2; have k3 := hw.keep (w := World.drew _) c3; have l0 := hw.keep (w := World.drew _) d0; have l1 := hw.keep (w := World.drew _) d1; have l2 := hw.keep (w := World.drew _) d2; have l3 := hw.keep (w := World.drew _) d3; unfold pureG; go_simp; with_reducible rfl)); simp only [Act.put, List.setIfInBounds_toArray, List.set_cons_zero, List.set_cons_succ, Nat.reduceAdd, Nat.zero_add])
      refine Seq.eff _ rfl (fun w' hw hf => giveG_of rfl (by simp) fun K hK => ?_) ?_
      · go_simp
        refine (ord_any y x _).mono ?_
        rintro e w2 ⟨rfl, hb⟩
        exact hK _ _ ⟨rfl, hb⟩
      simp only [Act.put, List.setIfInBounds_toArray, List.set_cons_zero, List.set_cons_succ, Nat.reduceAdd, Nat.zero_add]
      refine Seq.eff _ rfl (fun w' hw hf => giveG_of rfl (by simp) fun K hK => ?_) ?_
      · have h14 := hf 9 _ rfl (by kernel_rfl)
        simp only [h14] at hK ⊢
        go_simp
        exact hK _ _ ⟨rfl, Ext.refl _⟩
      simp only [Act.put, List.setIfInBounds_toArray, List.set_cons_zero, List.set_cons_succ, Nat.reduceAdd, Nat.zero_add]
      refine Seq.nil fun w' hw hf => tail_none (by kernel_rfl) ?_
      have h16 := hf 10 _ (by omega) rfl
      rw [h16]
      have HR3 := Lib.hid (HR2.out.ext ((Ext.drew wr).trans hw))
      clear c0 c1 c2 c3 d0 d1 d2 d3 h16 hf hw HR2
      generalize ν 9 = v9
      by_cases hq : ordC y x < 0
      · have hcd : decide (ordC y x < 0) = true := by simpa using hq
        have hS3 := HS2.out.up HS.out hci hcj hy (leR_of_lt hq)
        have hwc : IntKind.i64.wrap ((c : Int) + 1) = ((c + 1 : Nat) : Int) := by rw [IntWalk.i64_in _ (by omega)]; omega
        go_wp2
        go_roundw
        case rel => exact ⟨c + 1, j, by go_num, rfl, HR3.out, hS3⟩
        case measure => simp [intOf]; omega
      · have hcd : decide (ordC y x < 0) = false := by simpa using hq
        have hS3 := HS2.out.down HS.out hci hcj hy (by unfold leR; omega)
        go_wp2
        go_roundw
        case rel => exact ⟨i, c, rfl, rfl, HR3.out, hS3⟩
        case measure => simp [intOf]; omega
    · obtain rfl : i = j := by omega
      have hwi : IntKind.i64.wrap ((i : Int) - 1) = ((i - 1 : Nat) : Int) := by rw [IntWalk.i64_in _ (by omega)]; omega
      go_wp2_with fail
      go_loopw [13] (fun vk wr2 => ∃ (k : Nat) (ys : List Rec), vk = .int .i64 k ∧ a ≤ k ∧ k ≤ i - 1 ∧ RowW B w0 wr2 g ys ∧ Re (sigUp a k) zs ys) (fun vk _ => i - (intOf vk).toNat)
      case atStart => exact ⟨a, zs, rfl, Nat.le_refl _, by omega, HR2.out, Re.up0 a zs⟩
      case round =>
        obtain ⟨k, ys, rfl, hak, hki, hR, hS⟩ := hrel
        have HR4 := Lib.hid hR
        have HS4 := Lib.hid hS
        have hlen : ys.length = zs.length := hS.len
        clear hR hS
        by_cases hlt2 : k < i - 1
        · have hltz2 : (k : Int) < (i : Int) - 1 := by omega
          obtain ⟨u, hu⟩ : ∃ u, ys[k]? = some u := ⟨_, List.getElem?_eq_getElem (by omega)⟩
          obtain ⟨v, hv⟩ : ∃ v, ys[k + 1]? = some v := ⟨_, List.getElem?_eq_getElem (by omega)⟩
          obtain ⟨c0, c1, c2, c3⟩ := HR4.out.cells hu
          obtain ⟨d0, d1, d2, d3⟩ := HR4.out.cells hv
          obtain ⟨f0, f1, f2, f3⟩ := HR4.out.marks (j := k) (by omega)
          obtain ⟨m0, m1, m2, m3⟩ := HR4.out.marks (j := k + 1) (by omega)
          have hwk : IntKind.i64.wrap ((k : Int) + 1) = ((k + 1 : Nat) : Int) := by rw [IntWalk.i64_in _ (by omega)]; omega
          have hk1 : (k : Int) < zs.length := by omega
          have hk2 : ((k + 1 : Nat) : Int) < zs.length := by omega
          have hHX := Lib.hid (And.intro hu hv)
          clear hu hv
          generalize hA : k + 1 = A at *
          go_wp2_with fail
          go_big_region
          all_goals go_wp2
          go_roundw
          case rel =>
            subst hA
            exact ⟨k + 1, _, by go_num, by omega, by omega, ((HR4.out.set k v (by omega)).set (k + 1) u (by rw [List.length_set]; omega)).ext (Ext.drew _), HS4.out.up hak hHX.out.1 hHX.out.2⟩
          case measure => simp [intOf]; omega
        · obtain rfl : k = i - 1 := by omega
          have hltz2 : ¬ (((i - 1 : Nat) : Int) < (i : Int) - 1) := by omega
          have hfin := up_sorted HX.out (HM.out ▸ HS.out) (HM.out ▸ HS2.out) HS4.out
          go_wp2
          refine bodyPost_end (results_none rfl _ _ _) rfl ⟨rfl, ys, HR4.out, hfin⟩
end Go.Proofs.YtgjahnomafpnfaaGreatDoor

/- slices.symMergeCmpFunc at records: a row against one record. -/
namespace Go.Proofs.YtgjahnomafpnfaaGreatDoor
open Go.RowKit
set_option maxHeartbeats 1600000 in
set_option maxRecDepth 100000 in
theorem sym_dn (B : Nat) (w0 : World) (g cap a m b : Nat) (zs : List Rec) (w : World) (hR : RowW B w0 w g zs) (ham : a + 1 < m) (hm : b = m + 1) (hb : b ≤ zs.length) (hn : zs.length ≤ 1000000) (hs : SortedOn a m zs) :
    Calls Tryz.prog 193 #[.slice (some ⟨g, 0, none⟩) zs.length cap, .int .i64 a, .int .i64 m, .int .i64 b, .func (.func 79) #[] #[]] w (SymPost B w0 g a b zs) := by
  have HR := Lib.hid hR
  have HS := Lib.hid hs
  clear hR hs
  have hw1 : IntKind.i64.wrap ((b : Int) - m) = 1 := by rw [IntWalk.i64_in _ (by omega)]; omega
  have hw0 : IntKind.i64.wrap ((m : Int) - a) = ((m - a : Nat) : Int) := by rw [IntWalk.i64_in _ (by omega)]; omega
  have hb0 : (((m - a : Nat) : Int) == 1) = false := by rw [beq_eq_false_iff_ne]; omega
  obtain ⟨x, hx⟩ : ∃ x, zs[m]? = some x := ⟨_, List.getElem?_eq_getElem (by omega)⟩
  have HX := Lib.hid hx
  have HM := Lib.hid hm
  have hmb : m < b := by omega
  clear hx hm
  generalize hD : m - a = D at *
  have HDD := Lib.hid hD
  clear hD
  go_enter Tryz.func193, Tryz.ntmps193
  go_wp2
  go_loopw [14, 15] (fun vi vj wr => ∃ (i j : Nat), vi = .int .i64 i ∧ vj = .int .i64 j ∧ RowW B w0 wr g zs ∧ Srch zs x a m i j) (fun vi vj _ => (intOf vj).toNat - (intOf vi).toNat)
  case atStart => exact ⟨a, m, rfl, rfl, HR.out, Srch.start (by omega)⟩
  case round =>
    obtain ⟨i, j, rfl, rfl, hR, hS⟩ := hrel
    have hl1 := hS.le1
    have hl2 := hS.le2
    have hl3 := hS.le3
    have HR2 := Lib.hid hR
    have HS2 := Lib.hid hS
    clear hR hS
    by_cases hlt : i < j
    · have hltz : (i : Int) < (j : Int) := by omega
      have hw2 : IntKind.i64.wrap ((i : Int) + j) = ((i + j : Nat) : Int) := by rw [IntWalk.i64_in _ (by omega)]; omega
      have hw3 : IntKind.u64.wrap ((i + j : Nat) : Int) = ((i + j : Nat) : Int) := by simp only [IntKind.wrap, IntKind.bits, IntKind.signed]; simp; omega
      go_wp2_with fail
      obtain ⟨c, hcc, hci, hcj⟩ : ∃ c : Nat, ((i : Int) + j) / 2 = (c : Int) ∧ i ≤ c ∧ c < j := ⟨(i + j) / 2, by omega, by omega, by omega⟩
      simp only [hcc]
      clear hcc
      obtain ⟨y, hy⟩ : ∃ y, zs[c]? = some y := ⟨_, List.getElem?_eq_getElem (by omega)⟩
      obtain ⟨c0, c1, c2, c3⟩ := HR2.out.cells hy
      obtain ⟨d0, d1, d2, d3⟩ := HR2.out.cells HX.out
      have ha1 : (m : Int) < zs.length := by omega
      have hb1 : (c : Int) < zs.length := by omega
      clear hw2 hw3
      refine wp_drawn 12 (by kernel_rfl) (by kernel_rfl) (fun i => match i with
        | 9 => some fun v _ => v = .int .i64 (ordC x y)
        | 10 => some fun v _ => v = .bool (decide (ordC x y < 0))
        | 11 => some fun v _ => v = .bool (!decide (ordC x y < 0))
        | _ => none) ?_ ?_
      · intro j φ hφ v w1 w2 h1 h2
        split at hφ <;> cases hφ
        all_goals exact h1
      intro ν
      simp only [List.take_succ_cons, List.take_zero]
      iterate 9 (refine Seq.pure ?_ rfl (fun w' hw hf => ?_) ?_; rotate_left; (· (have k0 := hw.keep (w := World.drew _) c0; have k1 := hw.keep (w := World.drew _) c1; have k2 := hw.keep (w := World.drew _) c2; have k3 := hw.keep (w := World.drew _) c3; have l0 := hw.keep (w := World.drew _) d0; have l1 := hw.keep (w := World.drew _) d1; have l2 := hw.keep (w := World.drew _) d2; have l3 := hw.keep (w := World.drew _) d3; unfold pureG; go_simp; with_reducible rfl)); simp only [Act.put, List.setIfInBounds_toArray, List.set_cons_zero, List.set_cons_succ, Nat.reduceAdd, Nat.zero_add])
      refine Seq.eff _ rfl (fun w' hw hf => giveG_of rfl (by simp) fun K hK => ?_) ?_
      · go_simp
        refine (ord_any x y _).mono ?_
        rintro e w2 ⟨rfl, hb⟩
        exact hK _ _ ⟨rfl, hb⟩
      simp only [Act.put, List.setIfInBounds_toArray, List.set_cons_zero, List.set_cons_succ, Nat.reduceAdd, Nat.zero_add]
      refine Seq.eff _ rfl (fun w' hw hf => giveG_of rfl (by simp) fun K hK => ?_) ?_
      · have h14 := hf 9 _ rfl (by kernel_rfl)
        simp only [h14] at hK ⊢
        go_simp
        exact hK _ _ ⟨rfl, Ext.refl _⟩
      simp only [Act.put, List.setIfInBounds_toArray, List.set_cons_zero, List.set_cons_succ, Nat.reduceAdd, Nat.zero_add]
      refine Seq.eff _ rfl (fun w' hw hf => giveG_of rfl (by simp) fun K hK => ?_) ?_
      · have h15 := hf 10 _ rfl (by kernel_rfl)
        simp only [h15] at hK ⊢
        go_simp
        exact hK _ _ ⟨rfl, Ext.refl _⟩
      simp only [Act.put, List.setIfInBounds_toArray, List.set_cons_zero, List.set_cons_succ, Nat.reduceAdd, Nat.zero_add]
      refine Seq.nil fun w' hw hf => tail_none (by kernel_rfl) ?_
      have h16 := hf 11 _ (by omega) rfl
      rw [h16]
      have HR3 := Lib.hid (HR2.out.ext ((Ext.drew wr).trans hw))
      clear c0 c1 c2 c3 d0 d1 d2 d3 h16 hf hw HR2
      generalize ν 9 = v9
      generalize ν 10 = v10
      cases hcd : (!decide (ordC x y < 0)) with
      | false =>
        have hq : ordC x y < 0 := by simpa using hcd
        have hS3 := HS2.out.down HS.out hci hcj hy (leR_of_lt hq)
        go_wp2
        go_roundw
        case rel => exact ⟨i, c, rfl, rfl, HR3.out, hS3⟩
        case measure => simp [intOf]; omega
      | true =>
        have hq : ¬ ordC x y < 0 := by simpa using hcd
        have hS3 := HS2.out.up HS.out hci hcj hy (by unfold leR; omega)
        have hwc : IntKind.i64.wrap ((c : Int) + 1) = ((c + 1 : Nat) : Int) := by rw [IntWalk.i64_in _ (by omega)]; omega
        go_wp2
        go_roundw
        case rel => exact ⟨c + 1, j, by go_num, rfl, HR3.out, hS3⟩
        case measure => simp [intOf]; omega
    · obtain rfl : i = j := by omega
      go_wp2_with fail
      go_loopw [17] (fun vk wr2 => ∃ (k : Nat) (ys : List Rec), vk = .int .i64 k ∧ i ≤ k ∧ k ≤ m ∧ RowW B w0 wr2 g ys ∧ Re (sigDn m k) zs ys) (fun vk _ => (intOf vk).toNat)
      case atStart => exact ⟨m, zs, rfl, by omega, Nat.le_refl _, HR2.out, Re.dn0 m zs⟩
      case round =>
        obtain ⟨k, ys, rfl, hak, hki, hR, hS⟩ := hrel
        have HR4 := Lib.hid hR
        have HS4 := Lib.hid hS
        have hlen : ys.length = zs.length := hS.len
        clear hR hS
        by_cases hlt2 : i < k
        · have hltz2 : (i : Int) < (k : Int) := by omega
          obtain ⟨q, rfl⟩ : ∃ q, k = q + 1 := ⟨k - 1, by omega⟩
          obtain ⟨u, hu⟩ : ∃ u, ys[q + 1]? = some u := ⟨_, List.getElem?_eq_getElem (by omega)⟩
          obtain ⟨v, hv⟩ : ∃ v, ys[q]? = some v := ⟨_, List.getElem?_eq_getElem (by omega)⟩
          obtain ⟨c0, c1, c2, c3⟩ := HR4.out.cells hu
          obtain ⟨d0, d1, d2, d3⟩ := HR4.out.cells hv
          obtain ⟨f0, f1, f2, f3⟩ := HR4.out.marks (j := q + 1) (by omega)
          obtain ⟨m0, m1, m2, m3⟩ := HR4.out.marks (j := q) (by omega)
          have hwk : IntKind.i64.wrap (((q + 1 : Nat) : Int) - 1) = (q : Int) := by rw [IntWalk.i64_in _ (by omega)]; omega
          have hk1 : (q : Int) < zs.length := by omega
          have hk2 : ((q + 1 : Nat) : Int) < zs.length := by omega
          have hHX := Lib.hid (And.intro hu hv)
          clear hu hv
          generalize hA : q + 1 = A at *
          go_wp2_with fail
          go_big_region
          all_goals go_wp2
          go_roundw
          case rel =>
            subst hA
            exact ⟨q, _, by go_num, by omega, by omega, ((HR4.out.set (q + 1) v (by omega)).set q u (by rw [List.length_set]; omega)).ext (Ext.drew _), HS4.out.dn hki hHX.out.1 hHX.out.2⟩
          case measure => subst hA; simp [intOf]
        · obtain rfl : k = i := by omega
          have hfin := dn_sorted HX.out HS.out HS2.out HS4.out
          go_wp2
          refine bodyPost_end (results_none rfl _ _ _) rfl ⟨rfl, ys, HR4.out, HM.out ▸ hfin⟩
end Go.Proofs.YtgjahnomafpnfaaGreatDoor

/- slices.symMergeCmpFunc at records. -/
namespace Go.Proofs.YtgjahnomafpnfaaGreatDoor
open Go.RowKit
theorem rot_id {a m b : Nat} (h : a = m ∨ m = b) (h1 : a ≤ m) (h2 : m ≤ b) (zs : List Rec) : Re (rot a m b) zs zs := (Re.refl zs).of fun t => by unfold rot; (repeat' split) <;> omega
/-- Where symMerge stands behind its rotation. -/
structure SymSt (B : Nat) (w0 w : World) (g a m b mid st : Nat) (zs ys : List Rec) : Prop where
  row : RowW B w0 w g ys
  m0 : Moved a b zs ys
  s1 : SortedOn a st ys
  s2 : SortedOn st mid ys
  s3 : SortedOn mid (mid + m - st) ys
  s4 : SortedOn (mid + m - st) b ys
  cr : ∀ (p q : Nat) x y, a ≤ p → p < mid → mid ≤ q → q < b → ys[p]? = some x → ys[q]? = some y → leR x y
/-- Behind the first half. -/
structure SymHf (B : Nat) (w0 w : World) (g a m b mid st : Nat) (zs ys us : List Rec) : Prop where
  row : RowW B w0 w g us
  m0 : Moved a b zs ys
  m1 : Moved a mid ys us
  s1 : SortedOn a mid us
  s3 : SortedOn mid (mid + m - st) us
  s4 : SortedOn (mid + m - st) b us
  cr : ∀ (p q : Nat) x y, a ≤ p → p < mid → mid ≤ q → q < b → ys[p]? = some x → ys[q]? = some y → leR x y
def SymEx (B : Nat) (w0 w : World) (g a m b mid st : Nat) (zs : List Rec) : Prop := ∃ ys, SymSt B w0 w g a m b mid st zs ys
def SymEx2 (B : Nat) (w0 w : World) (g a m b mid st : Nat) (zs ys : List Rec) : Prop := ∃ us, SymHf B w0 w g a m b mid st zs ys us
set_option maxHeartbeats 1600000 in
set_option maxRecDepth 100000 in
theorem sym_main (B : Nat) (w0 : World) (g cap a m b : Nat) (zs : List Rec) (w : World) (hR : RowW B w0 w g zs) (ham : a + 1 < m) (hmb : m + 1 < b) (hb : b ≤ zs.length) (hn : zs.length ≤ 1000000) (hs1 : SortedOn a m zs) (hs2 : SortedOn m b zs)
    (hI : ∀ (a' m' b' : Nat) (zs' : List Rec) (w' : World), b' - a' < b - a → zs'.length = zs.length → RowW B w0 w' g zs' → a' < m' → m' < b' → b' ≤ zs.length → SortedOn a' m' zs' → SortedOn m' b' zs' →
      Calls Tryz.prog 193 #[.slice (some ⟨g, 0, none⟩) zs.length cap, .int .i64 a', .int .i64 m', .int .i64 b', .func (.func 79) #[] #[]] w' (SymPost B w0 g a' b' zs')) :
    Calls Tryz.prog 193 #[.slice (some ⟨g, 0, none⟩) zs.length cap, .int .i64 a, .int .i64 m, .int .i64 b, .func (.func 79) #[] #[]] w (SymPost B w0 g a b zs) := by
  have HR := Lib.hid hR
  have HS := Lib.hid (And.intro hs1 hs2)
  have HI := Lib.hid hI
  clear hR hs1 hs2 hI
  have hw1 : IntKind.i64.wrap ((b : Int) - m) = ((b - m : Nat) : Int) := by rw [IntWalk.i64_in _ (by omega)]; omega
  have hw0 : IntKind.i64.wrap ((m : Int) - a) = ((m - a : Nat) : Int) := by rw [IntWalk.i64_in _ (by omega)]; omega
  have hb0 : (((m - a : Nat) : Int) == 1) = false := by rw [beq_eq_false_iff_ne]; omega
  have hb1 : (((b - m : Nat) : Int) == 1) = false := by rw [beq_eq_false_iff_ne]; omega
  generalize hD : m - a = D at *
  generalize hE : b - m = E at *
  have HDD := Lib.hid (And.intro hD hE)
  clear hD hE
  have hw2 : IntKind.i64.wrap ((a : Int) + b) = ((a + b : Nat) : Int) := by rw [IntWalk.i64_in _ (by omega)]; omega
  have hw3 : IntKind.u64.wrap ((a + b : Nat) : Int) = ((a + b : Nat) : Int) := by simp only [IntKind.wrap, IntKind.bits, IntKind.signed]; simp; omega
  obtain ⟨mid, hmid⟩ : ∃ mid : Nat, mid = (a + b) / 2 := ⟨_, rfl⟩
  have hcc : ((a : Int) + b) / 2 = (mid : Int) := by omega
  have hmb1 : a < mid ∧ mid < b := by omega
  have HMid := Lib.hid hmid
  clear hmid
  have hmlo := hmb1.1
  have hmhi := hmb1.2
  have hmt : mid ≤ 1000000 := by omega
  clear hmb1
  obtain ⟨lo, hlo⟩ : ∃ lo, lo = symLo a m b := ⟨_, rfl⟩
  obtain ⟨hi, hhi⟩ : ∃ hi, hi = symHi a m b := ⟨_, rfl⟩
  have HL0 := Lib.hid (And.intro hlo hhi)
  have hlh : a ≤ lo ∧ lo ≤ hi ∧ hi ≤ m ∧ hi ≤ mid ∧ mid + m - lo ≤ b ∧ m ≤ mid + m - hi := by
    have := HMid.out
    rw [hlo, hhi]
    unfold symLo symHi
    by_cases hh : (a + b) / 2 < m
    · rw [if_pos hh, if_pos hh]; omega
    · rw [if_neg hh, if_neg hh]; omega
  have hloe : (mid < m → lo = mid + m - b ∧ hi = mid) ∧ (¬ mid < m → lo = a ∧ hi = m) := by
    have := HMid.out
    rw [hlo, hhi]
    unfold symLo symHi
    refine ⟨fun q => ?_, fun q => ?_⟩
    · rw [if_pos (by omega), if_pos (by omega)]; omega
    · rw [if_neg (by omega), if_neg (by omega)]; omega
  have HLE := Lib.hid hloe
  have HLH := Lib.hid hlh
  clear hlo hhi hloe hlh
  go_enter Tryz.func193, Tryz.ntmps193
  go_upto_if 140 with (fail)
  go_cut [20, 21] from 138 (fun s r wc => wc = w ∧ s = .int .i64 lo ∧ r = .int .i64 hi)
  case first =>
    by_cases hmm : mid < m
    · have hmz : (mid : Int) < m := by omega
      have hb2 : b ≤ mid + m := by omega
      go_wp2_with fail
      go_meet
      have := HLE.out.1 hmm
      exact ⟨rfl, by congr 1; omega, by congr 1; omega⟩
    · have hmz : ¬ ((mid : Int) < m) := by omega
      go_wp2_with fail
      go_meet
      have := HLE.out.2 hmm
      exact ⟨rfl, by congr 1; omega, by congr 1; omega⟩
  case rest =>
    obtain ⟨rfl, rfl, rfl⟩ := hcut
    go_wp2_with fail
    go_loopw [20, 21] (fun vs vr wr => ∃ (st r : Nat), vs = .int .i64 st ∧ vr = .int .i64 r ∧ RowW B w0 wr g zs ∧ Sym zs a m b st r) (fun vs vr _ => (intOf vr).toNat - (intOf vs).toNat)
    case atStart => exact ⟨lo, hi, rfl, rfl, HR.out, HL0.out.1 ▸ HL0.out.2 ▸ Sym.start (by omega) (by omega)⟩
    case round =>
      obtain ⟨st, r, rfl, rfl, hR, hS⟩ := hrel
      have hl1 := hS.le1
      have hl2 := hS.le2
      have hl3 := hS.le3
      rw [← HL0.out.1] at hl1
      rw [← HL0.out.2] at hl3
      have hbd := HLH.out
      have HR2 := Lib.hid hR
      have HS2 := Lib.hid hS
      clear hR hS
      by_cases hlt : st < r
      · have hltz : (st : Int) < (r : Int) := by omega
        have hw2 : IntKind.i64.wrap ((st : Int) + r) = ((st + r : Nat) : Int) := by rw [IntWalk.i64_in _ (by omega)]; omega
        have hw3 : IntKind.u64.wrap ((st + r : Nat) : Int) = ((st + r : Nat) : Int) := by simp only [IntKind.wrap, IntKind.bits, IntKind.signed]; simp; omega
        go_wp2_with fail
        obtain ⟨c, hcc, hci, hcj⟩ : ∃ c : Nat, ((st : Int) + r) / 2 = (c : Int) ∧ st ≤ c ∧ c < r := ⟨(st + r) / 2, by omega, by omega, by omega⟩
        simp only [hcc]
        clear hcc
        obtain ⟨P, hP, hPc⟩ : ∃ P : Nat, ((mid : Int) + m - 1 - c) = (P : Int) ∧ P = mid + m - 1 - c := ⟨mid + m - 1 - c, by omega, rfl⟩
        have hPb : P < b := by omega
        have hwP : IntKind.i64.wrap ((mid : Int) + m - 1 - c) = (P : Int) := by rw [IntWalk.i64_in _ (by omega), hP]
        have HP := Lib.hid hPc
        obtain ⟨x, hx⟩ : ∃ x, zs[c]? = some x := ⟨_, List.getElem?_eq_getElem (by omega)⟩
        obtain ⟨y, hy⟩ : ∃ y, zs[P]? = some y := ⟨_, List.getElem?_eq_getElem (by omega)⟩
        obtain ⟨c0, c1, c2, c3⟩ := HR2.out.cells hy
        obtain ⟨d0, d1, d2, d3⟩ := HR2.out.cells hx
        have HXY := Lib.hid (And.intro hx hy)
        have ha1 : (P : Int) < zs.length := by omega
        have hb1 : (c : Int) < zs.length := by omega
        clear hw2 hw3 hP hPc hx hy hbd
        refine wp_drawn 14 (by kernel_rfl) (by kernel_rfl) (fun i => match i with
          | 11 => some fun v _ => v = .int .i64 (ordC y x)
          | 12 => some fun v _ => v = .bool (decide (ordC y x < 0))
          | 13 => some fun v _ => v = .bool (!decide (ordC y x < 0))
          | _ => none) ?_ ?_
        · intro j φ hφ v w1 w2 h1 h2
          split at hφ <;> cases hφ
          all_goals exact h1
        intro ν
        simp only [List.take_succ_cons, List.take_zero]
        iterate 11 (refine Seq.pure ?_ rfl (fun w' hw hf => ?_) ?_; rotate_left; (· (have k0 := hw.keep (w := World.drew _) c0; have k1 := hw.keep (w := World.drew _) c1; have k2 := hw.keep (w := World.drew _) c2; have k3 := hw.keep (w := World.drew _) c3; have l0 := hw.keep (w := World.drew _) d0; have l1 := hw.keep (w := World.drew _) d1; have l2 := hw.keep (w := World.drew _) d2; have l3 := hw.keep (w := World.drew _) d3; unfold pureG; go_simp; with_reducible rfl)); simp only [Act.put, List.setIfInBounds_toArray, List.set_cons_zero, List.set_cons_succ, Nat.reduceAdd, Nat.zero_add])
        refine Seq.eff _ rfl (fun w' hw hf => giveG_of rfl (by simp) fun K hK => ?_) ?_
        · go_simp
          refine (ord_any y x _).mono ?_
          rintro e w2 ⟨rfl, hb⟩
          exact hK _ _ ⟨rfl, hb⟩
        simp only [Act.put, List.setIfInBounds_toArray, List.set_cons_zero, List.set_cons_succ, Nat.reduceAdd, Nat.zero_add]
        refine Seq.eff _ rfl (fun w' hw hf => giveG_of rfl (by simp) fun K hK => ?_) ?_
        · have h14 := hf 11 _ rfl (by kernel_rfl)
          simp only [h14] at hK ⊢
          go_simp
          exact hK _ _ ⟨rfl, Ext.refl _⟩
        simp only [Act.put, List.setIfInBounds_toArray, List.set_cons_zero, List.set_cons_succ, Nat.reduceAdd, Nat.zero_add]
        refine Seq.eff _ rfl (fun w' hw hf => giveG_of rfl (by simp) fun K hK => ?_) ?_
        · have h15 := hf 12 _ rfl (by kernel_rfl)
          simp only [h15] at hK ⊢
          go_simp
          exact hK _ _ ⟨rfl, Ext.refl _⟩
        simp only [Act.put, List.setIfInBounds_toArray, List.set_cons_zero, List.set_cons_succ, Nat.reduceAdd, Nat.zero_add]
        refine Seq.nil fun w' hw hf => tail_none (by kernel_rfl) ?_
        have h16 := hf 13 _ (by omega) rfl
        rw [h16]
        have HR3 := Lib.hid (HR2.out.ext ((Ext.drew wr).trans hw))
        clear c0 c1 c2 c3 d0 d1 d2 d3 h16 hf hw HR2 hwP
        generalize ν 11 = v9
        generalize ν 12 = v10
        have hPe := HP.out
        have hPm : (a + b) / 2 + m - 1 - c = P := by rw [← HMid.out]; exact hPe.symm
        cases hcd : (!decide (ordC y x < 0)) with
        | false =>
          have hq : ordC y x < 0 := by simpa using hcd
          have hS3 := HS2.out.down hci hcj HXY.out.1 (by rw [hPm]; exact HXY.out.2) (leR_of_lt hq)
          have HS3 := Lib.hid hS3
          clear hPe hPm hS3
          go_wp2
          go_roundw
          case rel => exact ⟨st, c, rfl, rfl, HR3.out, HS3.out⟩
          case measure => simp [intOf]; omega
        | true =>
          have hq : ¬ ordC y x < 0 := by simpa using hcd
          have hS3 := HS2.out.up hci hcj HXY.out.1 (by rw [hPm]; exact HXY.out.2) (by unfold leR; omega)
          have HS3 := Lib.hid hS3
          clear hPe hPm hS3
          go_wp2
          go_roundw
          case rel => exact ⟨c + 1, r, by go_num, rfl, HR3.out, HS3.out⟩
          case measure => simp [intOf]; omega
      · obtain rfl : st = r := by omega
        have hen0 : m ≤ mid + m - st ∧ mid + m - st ≤ b ∧ mid ≤ mid + m - st := by omega
        have hst1 : a ≤ st ∧ st ≤ m ∧ st ≤ mid := by omega
        obtain ⟨en, hen⟩ : ∃ en : Nat, en = mid + m - st := ⟨_, rfl⟩
        have hene : ((mid : Int) + m - st) = (en : Int) := by omega
        have HEn := Lib.hid hen
        have hsz : m ≤ en ∧ en ≤ b ∧ mid ≤ en := by omega
        clear hen hen0 hbd
        go_upto_region 39 with (fail)
        go_cut [185] from 178 (fun s wc => wr = wc ∧ s = .bool (decide (st < m) && decide (m < en)))
        case first =>
          by_cases h1 : st < m
          · have h1z : (st : Int) < m := by omega
            by_cases h2 : m < en
            · have h2z : (m : Int) < en := by omega
              go_wp2_with fail
              go_meet
              exact ⟨rfl, by simp [h1, h2]⟩
            · have h2z : ¬ ((m : Int) < en) := by omega
              go_wp2_with fail
              go_meet
              exact ⟨rfl, by simp [h1, h2]⟩
          · have h1z : ¬ ((st : Int) < m) := by omega
            go_wp2_with fail
            go_meet
            exact ⟨rfl, by simp [h1]⟩
        case rest =>
        obtain ⟨rfl, rfl⟩ := hcut
        go_upto_if 185 with (fail)
        go_cut [] from 178 (fun wc => SymEx B w0 wc g a m b mid st zs)
        case first =>
          cases hd : (decide (st < m) && decide (m < en)) with
          | true =>
            have hd2 : st < m ∧ m < en := by simpa using hd
            have HC := Lib.hid (rotate_any B w0 g cap st m en zs wr HR2.out hd2.1 hd2.2 (by omega) hn)
            go_wp2_with fail
            refine HC.out.mono ?_
            rintro e W1 ⟨rfl, ys, k1, k2⟩
            rw [HEn.out, HMid.out] at k2
            have hsp := sym_split (by omega) (by omega) hb HS.out.1 HS.out.2 HS2.out k2
            rw [← HMid.out] at hsp
            have H : RowKit.Hid (SymEx B w0 W1 g a m b mid st zs) := Lib.hid ⟨ys, k1, hsp.1, hsp.2.1, hsp.2.2.1, hsp.2.2.2.1, hsp.2.2.2.2.1, hsp.2.2.2.2.2⟩
            clear k1 k2 hsp
            go_wp2_with fail
            go_meet
            exact H.out
          | false =>
            have hd2 : ¬ (st < m ∧ m < en) := by
              intro q
              simp [q.1, q.2] at hd
            have hsp := sym_split (by omega) (by omega) hb HS.out.1 HS.out.2 HS2.out (rot_id (by have := HEn.out; have := HMid.out; omega) (by omega) (by have := HMid.out; omega) zs)
            rw [← HMid.out] at hsp
            have H : RowKit.Hid (SymEx B w0 wr g a m b mid st zs) := Lib.hid ⟨zs, HR2.out, hsp.1, hsp.2.1, hsp.2.2.1, hsp.2.2.2.1, hsp.2.2.2.2.1, hsp.2.2.2.2.2⟩
            clear hsp
            go_wp2_with fail
            go_meet
            exact H.out
        case rest =>
          obtain ⟨ys, hst⟩ := hcut
          have hysl := hst.m0.perm.length_eq
          have HSt := Lib.hid hst
          clear hst
          go_upto_region 41 with (fail)
          go_cut [199] from 192 (fun s wd => wc = wd ∧ s = .bool (decide (a < st) && decide (st < mid)))
          case first =>
            by_cases h1 : a < st
            · have h1z : (a : Int) < st := by omega
              by_cases h2 : st < mid
              · have h2z : (st : Int) < mid := by omega
                go_wp2_with fail
                go_meet
                exact ⟨rfl, by simp [h1, h2]⟩
              · have h2z : ¬ ((st : Int) < mid) := by omega
                go_wp2_with fail
                go_meet
                exact ⟨rfl, by simp [h1, h2]⟩
            · have h1z : ¬ ((a : Int) < st) := by omega
              go_wp2_with fail
              go_meet
              exact ⟨rfl, by simp [h1]⟩
          case rest =>
          obtain ⟨rfl, rfl⟩ := hcut
          go_upto_if 199 with (fail)
          go_cut [] from 192 (fun wd => SymEx2 B w0 wd g a m b mid st zs ys)
          case first =>
            cases hd : (decide (a < st) && decide (st < mid)) with
            | true =>
              have hd2 : a < st ∧ st < mid := by simpa using hd
              have HC := Lib.hid (HI.out a st mid ys wc (by omega) hysl HSt.out.row hd2.1 hd2.2 (by omega) HSt.out.s1 HSt.out.s2)
              go_wp2_with fail
              refine HC.out.mono ?_
              rintro e W1 ⟨rfl, us, k1, k2, k3⟩
              have H : RowKit.Hid (SymEx2 B w0 W1 g a m b mid st zs ys) := Lib.hid ⟨us, k1, HSt.out.m0, k2, k3, HSt.out.s3.same (fun k hk _ => k2.post k hk), HSt.out.s4.same (fun k hk _ => k2.post k (by omega)), HSt.out.cr⟩
              clear k1 k2 k3
              go_wp2_with fail
              go_meet
              exact H.out
            | false =>
              have hd2 : ¬ (a < st ∧ st < mid) := by
                intro q
                simp [q.1, q.2] at hd
              have H : RowKit.Hid (SymEx2 B w0 wc g a m b mid st zs ys) := Lib.hid ⟨ys, HSt.out.row, HSt.out.m0, Moved.refl _ _ _, by
                rcases (by omega : st = a ∨ st = mid) with q | q
                · have := HSt.out.s2; rwa [q] at this
                · have := HSt.out.s1; rwa [q] at this, HSt.out.s3, HSt.out.s4, HSt.out.cr⟩
              go_wp2_with fail
              go_meet
              exact H.out
          case rest =>
            obtain ⟨us, hst⟩ := hcut
            have husl := hst.m1.perm.length_eq
            have HSt2 := Lib.hid hst
            clear hst
            by_cases h1 : mid < en
            · have h1z : (mid : Int) < en := by omega
              by_cases h2 : en < b
              · have h2z : (en : Int) < b := by omega
                have HC := Lib.hid (HI.out mid en b us _ (by omega) (husl.trans hysl) HSt2.out.row h1 h2 (by omega) (by have := HSt2.out.s3; rw [← HEn.out] at this; exact this) (by have := HSt2.out.s4; rw [← HEn.out] at this; exact this))
                go_wp2_with fail
                refine HC.out.mono ?_
                rintro e W1 ⟨rfl, vs, k1, k2, k3⟩
                have hj := sym_join (by omega) (by omega) (by omega) HSt2.out.cr HSt2.out.m0 HSt2.out.m1 HSt2.out.s1 k2 k3
                have H := Lib.hid (And.intro k1 hj)
                clear k1 k2 k3 hj
                go_wp2_with fail
                refine bodyPost_end (results_none rfl _ _ _) rfl ⟨rfl, vs, H.out⟩
              · have h2z : ¬ ((en : Int) < b) := by omega
                have hj := sym_join (by omega) (by omega) (by omega) HSt2.out.cr HSt2.out.m0 HSt2.out.m1 HSt2.out.s1 (Moved.refl mid b us) (by have := HSt2.out.s3; rw [← HEn.out] at this; exact (show en = b by omega) ▸ this)
                have H := Lib.hid hj
                clear hj
                go_wp2_with fail
                refine bodyPost_end (results_none rfl _ _ _) rfl ⟨rfl, us, HSt2.out.row, H.out⟩
            · have h1z : ¬ ((mid : Int) < en) := by omega
              have hj := sym_join (by omega) (by omega) (by omega) HSt2.out.cr HSt2.out.m0 HSt2.out.m1 HSt2.out.s1 (Moved.refl mid b us) (by have := HSt2.out.s4; rw [← HEn.out] at this; exact (show en = mid by omega) ▸ this)
              have H := Lib.hid hj
              clear hj
              go_wp2_with fail
              refine bodyPost_end (results_none rfl _ _ _) rfl ⟨rfl, us, HSt2.out.row, H.out⟩
end Go.Proofs.YtgjahnomafpnfaaGreatDoor

/- slices.symMergeCmpFunc, stableCmpFunc, SortStableFunc at records, of any number. -/
namespace Go.Proofs.YtgjahnomafpnfaaGreatDoor
open Go.RowKit
theorem symMerge_any (B : Nat) (w0 : World) (g cap : Nat) : ∀ (d a m b : Nat) (zs : List Rec) (w : World), b - a ≤ d → RowW B w0 w g zs → a < m → m < b → b ≤ zs.length → zs.length ≤ 1000000 → SortedOn a m zs → SortedOn m b zs →
    Calls Tryz.prog 193 #[.slice (some ⟨g, 0, none⟩) zs.length cap, .int .i64 a, .int .i64 m, .int .i64 b, .func (.func 79) #[] #[]] w (SymPost B w0 g a b zs)
  | 0, a, m, b, zs, w, hd, _, h1, h2, _, _, _, _ => by omega
  | d + 1, a, m, b, zs, w, hd, hR, h1, h2, hb, hn, s1, s2 => by
    by_cases e1 : m = a + 1
    · exact sym_up B w0 g cap a m b zs w hR e1 h2 hb hn s2
    · by_cases e2 : b = m + 1
      · exact sym_dn B w0 g cap a m b zs w hR (by omega) e2 hb hn s1
      · refine sym_main B w0 g cap a m b zs w hR (by omega) (by omega) hb hn s1 s2 (fun a' m' b' zs' w' hlt hl hR' q1 q2 q3 t1 t2 => ?_)
        have := symMerge_any B w0 g cap d a' m' b' zs' w' (by omega) hR' q1 q2 (by omega) (by omega) t1 t2
        rwa [hl] at this
/-- Blocks of bs records are in order. -/
def Bks (bs n : Nat) (zs : List Rec) : Prop := ∀ c, bs ∣ c → SortedOn c (min (c + bs) n) zs
/-- Blocks of bs records from a on; ahead of it blocks of cs. -/
structure Mix (cs bs n a : Nat) (zs : List Rec) : Prop where
  dv : cs ∣ a
  lo : ∀ c, c < a → cs ∣ c → SortedOn c (c + cs) zs
  hi : ∀ c, a ≤ c → bs ∣ c → SortedOn c (min (c + bs) n) zs
theorem dvd_gap {cs a c : Nat} (h1 : cs ∣ a) (h2 : cs ∣ c) (h : c < a) : c + cs ≤ a := by
  have h3 : cs ∣ a - c := Nat.dvd_sub h1 h2
  have := Nat.le_of_dvd (by omega) h3
  omega
theorem Mix.step {cs bs n a : Nat} {zs ys : List Rec} (h : Mix cs bs n a zs) (hbc : bs ∣ cs) (hc0 : 0 < cs) (hM : Moved a (a + cs) zs ys) (hS : SortedOn a (a + cs) ys) : Mix cs bs n (a + cs) ys := by
  refine ⟨Nat.dvd_add h.dv (Nat.dvd_refl _), fun c hc hd => ?_, fun c hc hd => ?_⟩
  · rcases Nat.lt_or_ge c a with q | q
    · have := dvd_gap h.dv hd q
      exact (h.lo c q hd).same (fun k _ hk => hM.pre k (by omega))
    · have : c = a := by
        rcases Nat.lt_or_ge a c with g | g
        · have := dvd_gap hd h.dv g; omega
        · omega
      rw [this]; exact hS
  · exact (h.hi c (by omega) hd).same (fun k hk _ => hM.post k (by omega))
theorem Mix.last {cs bs n a : Nat} {zs ys : List Rec} (h : Mix cs bs n a zs) (hbc : bs ∣ cs) (hc0 : 0 < cs) (han : n < a + cs) (hM : Moved a n zs ys) (hS : SortedOn a n ys) (hln : n = zs.length) : Bks cs n ys := by
  intro c hd
  rcases Nat.lt_or_ge c a with q | q
  · have := dvd_gap h.dv hd q
    exact ((h.lo c q hd).sub (Nat.le_refl _) (Nat.min_le_left _ _)).same (fun k _ hk => hM.pre k (by omega))
  · rcases Nat.lt_or_ge a c with g | g
    · have := dvd_gap hd h.dv g
      intro p q' x y h1 h2 h3; omega
    · obtain rfl : c = a := by omega
      exact hS.sub (Nat.le_refl _) (by omega)
theorem Bks.mix {bs n : Nat} {zs : List Rec} (h : Bks bs n zs) (cs : Nat) : Mix cs bs n 0 zs := ⟨Nat.dvd_zero _, fun c hc => by omega, fun c _ hd => h c hd⟩
set_option maxHeartbeats 1600000 in
set_option maxRecDepth 100000 in
theorem stable_all (B : Nat) (w0 : World) (g cap : Nat) (zs : List Rec) (w : World) (hR : RowW B w0 w g zs) (hn : zs.length ≤ 1000000) :
    Calls Tryz.prog 174 #[.slice (some ⟨g, 0, none⟩) zs.length cap, .int .i64 zs.length, .func (.func 79) #[] #[]] w fun e w' => e = .returned (.tuple #[]) ∧ ∃ zs', RowW B w0 w' g zs' ∧ zs'.Perm zs ∧ SortedOn 0 zs.length zs' := by
  have HR := Lib.hid hR
  clear hR
  generalize hN : zs.length = N at *
  have HN := Lib.hid hN
  clear hN
  go_enter Tryz.func174, Tryz.ntmps174
  go_wp2
  go_loopw [7, 8] (fun x y wr => ∃ (a : Nat) (ys : List Rec), x = .int .i64 a ∧ y = .int .i64 (a + 20 : Nat) ∧ a ≤ N ∧ RowW B w0 wr g ys ∧ ys.Perm zs ∧ 20 ∣ a ∧ ∀ c, c < a → 20 ∣ c → SortedOn c (c + 20) ys) (fun x _ _ => N - (intOf x).toNat)
  case atStart => exact ⟨0, zs, rfl, rfl, by omega, HR.out, .refl _, Nat.dvd_zero _, fun c hc => by omega⟩
  case round =>
    obtain ⟨a, ys, rfl, rfl, ha, hR, hP, hD, hB⟩ := hrel
    have hyl : ys.length = N := hP.length_eq.trans HN.out
    have HY := Lib.hid hyl
    have H := Lib.hid (And.intro hR (And.intro hP (And.intro hD hB)))
    clear hR hP hD hB
    by_cases hlt : a + 20 ≤ N
    · have hltz : ((a + 20 : Nat) : Int) ≤ N := by omega
      have HC := Lib.hid (insertion_any B w0 g cap a (a + 20) ys wr H.out.1 (by omega) (by omega) (by omega))
      rw [hyl] at HC
      have hwb : IntKind.i64.wrap (((a + 20 : Nat) : Int) + 20) = ((a + 20 + 20 : Nat) : Int) := by rw [IntWalk.i64_in _ (by omega)]; omega
      clear hyl
      generalize hA : a + 20 = A at *
      have HA := Lib.hid hA
      clear hA
      go_wp2_with fail
      refine HC.out.mono ?_
      rintro e w1 ⟨rfl, us, h1, h2, h3⟩
      have H2 := Lib.hid (And.intro h1 (And.intro h2 h3))
      clear h1 h2 h3
      go_wp2_with fail
      go_roundw
      case rel =>
        refine ⟨A, us, rfl, by simp, by omega, H2.out.1, H2.out.2.1.perm.trans H.out.2.1, ?_, fun c hc hd => ?_⟩
        · rw [← HA.out]; exact Nat.dvd_add H.out.2.2.1 (Nat.dvd_refl _)
        · have hAo := HA.out
          rcases Nat.lt_or_ge c a with q | q
          · have := dvd_gap H.out.2.2.1 hd q
            exact (H.out.2.2.2 c q hd).same (fun k _ hk => H2.out.2.1.pre k (by omega))
          · have : c = a := by
              rcases Nat.lt_or_ge a c with k | k
              · have := dvd_gap hd H.out.2.2.1 k; omega
              · omega
            rw [this, hAo]; exact H2.out.2.2
      case measure => have := HA.out; simp [intOf]; omega
    · have hltz : ¬ (((a + 20 : Nat) : Int) ≤ N) := by omega
      have HC := Lib.hid (insertion_any B w0 g cap a N ys wr H.out.1 (by omega) (by omega) (by omega))
      rw [hyl] at HC
      clear hyl
      go_wp2_with fail
      refine HC.out.mono ?_
      rintro e w1 ⟨rfl, us, h1, h2, h3⟩
      have hbk : Bks 20 N us := by
        intro c hd
        rcases Nat.lt_or_ge c a with q | q
        · have := dvd_gap H.out.2.2.1 hd q
          exact ((H.out.2.2.2 c q hd).sub (Nat.le_refl _) (Nat.min_le_left _ _)).same (fun k _ hk => h2.pre k (by omega))
        · rcases Nat.lt_or_ge a c with k | k
          · have := dvd_gap hd H.out.2.2.1 k
            intro p q' x y p1 p2 p3
            have : min (c + 20) N ≤ N := Nat.min_le_right _ _
            omega
          · obtain rfl : c = a := by omega
            exact h3.sub (Nat.le_refl _) (Nat.min_le_right _ _)
      have H2 := Lib.hid (And.intro h1 (And.intro (h2.perm.trans H.out.2.1) hbk))
      clear h1 h2 h3 hbk
      go_wp2_with fail
      go_loopw [6] (fun x wr2 => ∃ (bs : Nat) (ys : List Rec), x = .int .i64 bs ∧ 20 ≤ bs ∧ bs ≤ 2 * N + 20 ∧ RowW B w0 wr2 g ys ∧ ys.Perm zs ∧ Bks bs N ys) (fun x _ => 2 * N + 20 - (intOf x).toNat)
      case atStart => exact ⟨20, us, rfl, by omega, by omega, H2.out.1, H2.out.2.1, H2.out.2.2⟩
      case round =>
        obtain ⟨bs, ys, rfl, hb20, hbN, hR, hP, hB⟩ := hrel
        have H3 := Lib.hid (And.intro hR (And.intro hP hB))
        have hyl := Lib.hid (hP.length_eq.trans HN.out)
        clear hR hP hB
        have hw2 : IntKind.i64.wrap (2 * (bs : Int)) = ((2 * bs : Nat) : Int) := by rw [IntWalk.i64_in _ (by omega)]; omega
        have hw3 : IntKind.i64.wrap ((bs : Int) * 2) = ((2 * bs : Nat) : Int) := by rw [IntWalk.i64_in _ (by omega)]; omega
        by_cases hlb : bs < N
        · have hlbz : (bs : Int) < N := by omega
          generalize hcs : 2 * bs = cs at *
          have HCS := Lib.hid hcs
          clear hcs
          go_wp2_with fail
          go_loopw [7, 8] (fun x y wr3 => ∃ (a : Nat) (ys : List Rec), x = .int .i64 a ∧ y = .int .i64 (a + cs : Nat) ∧ a ≤ N ∧ RowW B w0 wr3 g ys ∧ ys.Perm zs ∧ Mix cs bs N a ys) (fun x _ _ => N - (intOf x).toNat)
          case atStart => exact ⟨0, ys, rfl, by simp, by omega, H3.out.1, H3.out.2.1, H3.out.2.2.mix cs⟩
          case round =>
            obtain ⟨a, ts, rfl, rfl, ha, hR, hP, hM⟩ := hrel
            have htl := hP.length_eq.trans HN.out
            have H4 := Lib.hid (And.intro hR (And.intro hP hM))
            clear hR hP hM
            have hcsb : cs = 2 * bs := HCS.out.symm
            have hw4 : IntKind.i64.wrap ((a : Int) + bs) = ((a + bs : Nat) : Int) := by rw [IntWalk.i64_in _ (by omega)]; omega
            have hs1 : SortedOn a (min (a + bs) N) ts := H4.out.2.2.hi a (Nat.le_refl _) (Nat.dvd_trans ⟨2, by omega⟩ H4.out.2.2.dv)
            have hs2 : SortedOn (a + bs) (min (a + bs + bs) N) ts := H4.out.2.2.hi (a + bs) (by omega) (Nat.dvd_add (Nat.dvd_trans ⟨2, by omega⟩ H4.out.2.2.dv) (Nat.dvd_refl _))
            have hdv : bs ∣ cs := ⟨2, by omega⟩
            have HDV := Lib.hid hdv
            have hpos : 0 < bs := by omega
            have hcsi : (cs : Int) = 2 * bs := by omega
            have HCSI := Lib.hid hcsi
            have hw5 : IntKind.i64.wrap (((a + cs : Nat) : Int) + cs) = ((a + cs + cs : Nat) : Int) := by rw [IntWalk.i64_in _ (by omega)]; omega
            by_cases hlt : a + cs ≤ N
            · have hltz : ((a + cs : Nat) : Int) ≤ N := by omega
              have HC := Lib.hid (symMerge_any B w0 g cap (a + cs - a) a (a + bs) (a + cs) ts _ (Nat.le_refl _) H4.out.1 (by omega) (by omega) (by omega) (by omega) (hs1.sub (Nat.le_refl _) (by omega)) (hs2.sub (Nat.le_refl _) (by omega)))
              rw [htl] at HC
              clear htl hcsb hs1 hs2 hdv hcsi
              generalize hA : a + cs = A at *
              have HA := Lib.hid hA
              generalize hM : a + bs = M at *
              have HM := Lib.hid hM
              clear hA hM
              go_wp2_with fail
              refine HC.out.mono ?_
              rintro e w2 ⟨rfl, vs, h1, h2, h3⟩
              have H5 : RowKit.Hid (RowW B w0 w2 g vs ∧ vs.Perm zs ∧ Mix cs bs N A vs) := Lib.hid ⟨h1, h2.perm.trans H4.out.2.1, by
                rw [← HA.out]
                exact H4.out.2.2.step HDV.out (by have := HCSI.out; omega) (by rw [HA.out]; exact h2) (by rw [HA.out]; exact h3)⟩
              clear h1 h2 h3
              go_wp2_with fail
              go_roundw
              case rel => exact ⟨A, vs, rfl, by simp, by omega, H5.out⟩
              case measure => have := HA.out; have := HCSI.out; simp [intOf]; omega
            · have hltz : ¬ (((a + cs : Nat) : Int) ≤ N) := by omega
              by_cases hm : a + bs < N
              · have hmz : ((a + bs : Nat) : Int) < N := by omega
                have HC := Lib.hid (symMerge_any B w0 g cap (N - a) a (a + bs) N ts _ (Nat.le_refl _) H4.out.1 (by omega) (by omega) (by omega) (by omega) (hs1.sub (Nat.le_refl _) (by omega)) (hs2.sub (Nat.le_refl _) (by omega)))
                rw [htl] at HC
                have HTL := Lib.hid htl
                clear htl hcsb hs1 hs2 hdv hcsi
                generalize hA : a + cs = A at *
                have HA := Lib.hid hA
                generalize hM : a + bs = M at *
                have HM := Lib.hid hM
                clear hA hM
                go_wp2_with fail
                refine HC.out.mono ?_
                rintro e w2 ⟨rfl, vs, h1, h2, h3⟩
                have H5 : RowKit.Hid (RowW B w0 w2 g vs ∧ vs.Perm zs ∧ Bks cs N vs) := Lib.hid ⟨h1, h2.perm.trans H4.out.2.1, H4.out.2.2.last HDV.out (by have := HCSI.out; omega) (by have := HA.out; omega) h2 h3 HTL.out.symm⟩
                clear h1 h2 h3
                go_wp2_with fail
                go_roundw
                case rel => exact ⟨cs, vs, rfl, by have := HCSI.out; omega, by have := HCSI.out; omega, H5.out⟩
                case measure => have := HCSI.out; simp [intOf]; omega
              · have hmz : ¬ (((a + bs : Nat) : Int) < N) := by omega
                have H5 : RowKit.Hid (Bks cs N ts) := Lib.hid (H4.out.2.2.last hdv (by omega) (by omega) (Moved.refl a N ts) (hs1.sub (Nat.le_refl _) (by omega)) htl.symm)
                clear htl hcsb hs1 hs2 hdv hcsi
                generalize hA : a + cs = A at *
                generalize hM : a + bs = M at *
                clear hA hM
                go_wp2_with fail
                go_roundw
                case rel => exact ⟨cs, ts, rfl, by have := HCSI.out; omega, by have := HCSI.out; omega, H4.out.1, H4.out.2.1, H5.out⟩
                case measure => have := HCSI.out; simp [intOf]; omega
        · have hlbz : ¬ ((bs : Int) < N) := by omega
          have hfin : SortedOn 0 N ys := by
            have := H3.out.2.2 0 (Nat.dvd_zero _)
            rwa [Nat.zero_add, Nat.min_eq_right (by omega)] at this
          have HF := Lib.hid hfin
          clear hfin
          go_wp2_with fail
          refine bodyPost_end (results_none rfl _ _ _) rfl ⟨rfl, ys, H3.out.1, H3.out.2.1, HF.out⟩
set_option maxHeartbeats 400000 in
set_option maxRecDepth 100000 in
theorem sortStable_all (B : Nat) (w0 : World) (g cap : Nat) (zs : List Rec) (w : World) (hR : RowW B w0 w g zs) (hn : zs.length ≤ 1000000) :
    Calls Tryz.prog 144 #[.slice (some ⟨g, 0, none⟩) zs.length cap, .func (.func 79) #[] #[]] w fun e w' => e = .returned (.tuple #[]) ∧ ∃ zs', RowW B w0 w' g zs' ∧ zs'.Perm zs ∧ SortedOn 0 zs.length zs' := by
  have HR := Lib.hid (stable_all B w0 g cap zs w hR hn)
  clear hR
  go_enter Tryz.func144, Tryz.ntmps144
  go_wp2_with fail
  refine HR.out.mono ?_
  rintro e w1 ⟨rfl, h⟩
  have H := Lib.hid h
  clear h
  go_wp2
  refine bodyPost_end (results_none rfl _ _ _) rfl ⟨rfl, H.out⟩
set_option maxHeartbeats 400000 in
set_option maxRecDepth 100000 in
theorem ordered_all (v : Value) (xs : List Rec) (w : World) (h : SlR w v xs) (hn : xs.length ≤ 1000000) :
    Calls Tryz.prog 78 #[v, .func (.func 79) #[] #[]] w fun e w' => ∃ v' ys, e = .returned v' ∧ InOrder xs ys ∧ SlW w' w.heap.size v' ys ∧ Below w.heap.size w w' := by
  obtain ⟨a, m, c, rfl⟩ : ∃ a m c, v = .slice a m c := by
    obtain ⟨a, c, e⟩ := h.shape
    exact ⟨a, _, c, e⟩
  have HC := Lib.hid (Clone_any _ xs w h (by omega))
  clear h
  go_enter Tryz.func78, Tryz.ntmps78
  go_wp2_with fail
  refine HC.out.mono ?_
  rintro e w1 ⟨v1, rfl, ho, hb⟩
  rcases ho.2 with ⟨rfl, h0⟩ | ⟨g, cap, cur, rfl, h2, h3, h4, h5, h6, h7⟩
  · obtain rfl := List.eq_nil_of_length_eq_zero h0
    go_wp2_with fail
    refine (sortStable_nil w1).mono ?_
    rintro e w2 ⟨rfl, rfl⟩
    go_wp2
    go_ret
    exact ⟨_, [], rfl, ⟨.refl _, fun p q _ _ _ _ h3 => by simp at h3⟩, .inl ⟨rfl, rfl⟩, hb⟩
  · have HR := Lib.hid (sortStable_all w.heap.size w g cap xs w1 (OwnR.rowW ho hb) hn)
    clear ho h7 h6 h3
    go_wp2_with fail
    refine HR.out.mono ?_
    rintro e w2 ⟨rfl, ys, k1, k2, k3⟩
    have H := Lib.hid (And.intro k1 (And.intro k2 k3))
    clear k1 k2 k3
    go_wp2
    go_ret
    have hl := H.out.2.1.length_eq
    exact ⟨_, ys, rfl, ⟨H.out.2.1, H.out.2.2⟩, by rw [← hl]; exact H.out.1.slW (by omega) h5, H.out.1.below⟩
/-- What Order comes to. -/
def OrderPost (n : Int) (xs : List Rec) (w : World) (e : Ending) (w' : World) : Prop :=
  Below w.heap.size w w' ∧ (((sortedP n xs).2.2 ≠ 0 ∧ e = .returned (.tuple #[.slice none 0 0, .int .i64 (sortedP n xs).2.2])) ∨
      ((sortedP n xs).2.2 = 0 ∧ ∃ v' ys, e = .returned (.tuple #[v', .int .i64 0]) ∧ InOrder xs ys ∧ SlW w' w.heap.size v' ys))
set_option maxHeartbeats 400000 in
set_option maxRecDepth 100000 in
theorem Order_all (n : Int) (v : Value) (xs : List Rec) (w : World) (h : SlR w v xs) (hn : xs.length ≤ 100000) :
    Calls Tryz.prog 25 #[.int .i64 n, v] w (OrderPost n xs w) := by
  obtain ⟨a, m, c, rfl⟩ : ∃ a m c, v = .slice a m c := by
    obtain ⟨a, c, e⟩ := h.shape
    exact ⟨a, _, c, e⟩
  have HC := Lib.hid (CheckRecords_any n _ xs w h (by omega))
  go_enter Tryz.func25, Tryz.ntmps25
  go_wp2_with fail
  refine HC.out.mono ?_
  rintro e w1 ⟨rfl, hb⟩
  have HO := Lib.hid (ordered_all _ xs w1 (h.ext hb) (by omega))
  have hz := hb.size
  have HB := Lib.hid hb
  clear h hb
  by_cases he : (sortedP n xs).2.2 = 0
  · rw [he]
    go_wp2_with fail
    refine HO.out.mono ?_
    rintro e w2 ⟨v2, ys, rfl, k1, k2, k3⟩
    obtain ⟨a2, m2, c2, rfl⟩ := k2.shape3
    have H := Lib.hid (And.intro k1 (And.intro k2 k3))
    clear k1 k2 k3
    go_wp2
    go_ret2
    refine ⟨HB.out.trans (H.out.2.2.mono hz), .inr ⟨he, _, ys, rfl, H.out.1, ?_⟩⟩
    rcases H.out.2.1 with q | ⟨g, cap, q1, q2, q3⟩
    · exact .inl q
    · exact .inr ⟨g, cap, q1, by omega, q3⟩
  · generalize hq : (sortedP n xs).2.2 = e2 at he ⊢
    have hne : (e2 != 0) = true := by simpa using he
    go_wp2
    go_ret2
    exact ⟨HB.out, .inl ⟨by rw [hq]; exact he, by rw [hq]; rfl⟩⟩
end Go.Proofs.YtgjahnomafpnfaaGreatDoor

/- The law PostMerging: its walk. -/
namespace Go.Proofs.YtgjahnomafpnfaaGreatDoor
open Go.RowKit
theorem mergeRows_le : ∀ (xs ys : List (List Rec)), (mergeRows xs ys).flatten.length ≤ xs.flatten.length + ys.flatten.length
  | [], _ => by simp [mergeRows]
  | _ :: _, [] => by simp [mergeRows]
  | x :: xs, y :: ys => by
    have := mergeRows_le xs ys
    simp only [mergeRows, List.flatten_cons, List.length_append]
    have h : (longer x y).length ≤ x.length + y.length := by unfold longer; split <;> omega
    omega
theorem mergeL_le (n : Int) (a b : List Rec) : (mergeL n a b).length ≤ a.length + b.length := by
  unfold mergeL
  split
  · rename_i h
    obtain ⟨h1, h2, _⟩ := mergeE_ok h
    have := mergeRows_le (sortedP n a).1 (sortedP n b).1
    rw [(sorted_book h1).2.2, (sorted_book h2).2.2] at this
    exact this
  · simp
theorem upTo_le (hour : Int) (a : List Rec) : (upTo hour a).length ≤ a.length := List.length_filter_le _ _
theorem sameB_self (a : List Rec) : sameB a a = true := (sameB_iff a a).2 rfl
theorem Few_same (v : Value) (xs : List Rec) (most : Nat) (hm : most ≤ 1000) (w : World) (hv : SlR w v xs) :
    Calls Tryz.prog 24 #[v, .int .i64 most] w fun e w' => e = .returned (.bool (fewB xs most)) ∧ w = w' := (Few_any v xs most hm w hv).mono fun _ _ ⟨h, h'⟩ => ⟨h, h'.symm⟩
theorem fewB_no {xs : List Rec} {m : Nat} (h : ¬ fewB xs m = true) : fewB xs m = false := by simpa using h
set_option maxHeartbeats 1600000 in
set_option maxRecDepth 100000 in
theorem PostMerging_any {B : Nat} {w : World} (hL : Laid B w) (n : Int) (va vb vc : Value) (a b c : List Rec) (hour : Int) (ha : SlR w va a) (hb : SlR w vb b) (hc : SlR w vc c) :
    Calls Tryz.prog 14 #[.int .i64 n, va, vb, vc, .int .i64 hour] w fun e w' => e = .returned (.bool true) ∧ Ext w w' := by
  have HFa := Lib.hid (Few_same va a 40 (by omega) w ha)
  have HFb := Lib.hid (Few_same vb b 40 (by omega) w hb)
  have HFc := Lib.hid (Few_same vc c 40 (by omega) w hc)
  have HA := Lib.hid ha
  have HB := Lib.hid hb
  have HC := Lib.hid hc
  have HAL := Lib.hid (fun (W : World) (h : Ext w W) => alive_any (hL.ext h))
  clear hL ha hb hc
  by_cases f1 : fewB a 40 = true
  · by_cases f2 : fewB b 40 = true
    · by_cases f3 : fewB c 40 = true
      · rw [f1] at HFa
        rw [f2] at HFb
        rw [f3] at HFc
        have hla := ((fewB_iff _ _).1 f1).1
        have hlb := ((fewB_iff _ _).1 f2).1
        have hlc := ((fewB_iff _ _).1 f3).1
        clear f1 f2 f3
        go_enter Tryz.func14, Tryz.ntmps14
        go_wp2_with (first | (go_at_call_of 24 va; refine HFa.out.mono ?_; rintro e w' ⟨rfl, rfl⟩) | (go_at_call_of 24 vb; refine HFb.out.mono ?_; rintro e w' ⟨rfl, rfl⟩) | (go_at_call_of 24 vc; refine HFc.out.mono ?_; rintro e w' ⟨rfl, rfl⟩))
        refine (CheckRecords_any n va a w HA.out (by omega)).mono ?_
        rintro e w1 ⟨rfl, hb1⟩
        have HE1 : RowKit.Hid (Ext w w1) := Lib.hid hb1
        clear hb1
        by_cases he : (sortedP n a).2.2 = 0
        · have HQ : RowKit.Hid ((sortedP n a).2.2 = 0) := Lib.hid he
          rw [he]
          clear he
          have HM1 := Lib.hid (merge_self HQ.out)
          have HM3 := Lib.hid (merge_until HQ.out hour)
          have hul := upTo_le hour a
          go_wp2_with fail
          refine (Merge_any n va va a a w1 (HA.out.ext HE1.out) (HA.out.ext HE1.out) (by omega) (by omega)).mono ?_
          rintro e w2 ⟨hE2, v2, rfl, hs2, _⟩
          rw [HM1.out.1]
          rw [HM1.out.2] at hs2
          have HE2 := Lib.hid (HE1.out.trans hE2)
          have HS2 := Lib.hid hs2
          clear hE2 hs2
          go_wp2_with fail
          refine (Until_any n va a hour w2 (HA.out.ext HE2.out) (by omega)).mono ?_
          rintro e w3 ⟨hE3, v3, rfl, hs3⟩
          rw [HQ.out]
          rw [if_pos HQ.out] at hs3
          have HE3 := Lib.hid (HE2.out.trans hE3)
          have HS3 := Lib.hid hs3.slR
          have HS2b := Lib.hid (HS2.out.ext hE3)
          clear hE3 hs3
          go_wp2_with fail
          refine (Merge_any n v3 va (upTo hour a) a w3 HS3.out (HA.out.ext HE3.out) (by omega) (by omega)).mono ?_
          rintro e w4 ⟨hE4, v4, rfl, hs4, _⟩
          rw [HM3.out.1]
          rw [HM3.out.2] at hs4
          have HE4 := Lib.hid (HE3.out.trans hE4)
          have HS4 := Lib.hid hs4
          have HS2c := Lib.hid (HS2b.out.ext hE4)
          clear hE4 hs4
          go_wp2_with fail
          refine (Same_any v2 va a a w4 HS2c.out (HA.out.ext HE4.out) (by omega) (by omega)).mono ?_
          rintro e w5 ⟨rfl, hE5⟩
          rw [sameB_self]
          have HE5 := Lib.hid (HE4.out.trans hE5)
          have HS4b := Lib.hid (HS4.out.ext hE5)
          clear hE5
          go_wp2_with fail
          refine (Same_any v4 va a a w5 HS4b.out (HA.out.ext HE5.out) (by omega) (by omega)).mono ?_
          rintro e w6 ⟨rfl, hE6⟩
          rw [sameB_self]
          have HE6 := Lib.hid (HE5.out.trans hE6)
          clear hE6
          go_wp2_with fail
          refine (Merge_any n va vb a b w6 (HA.out.ext HE6.out) (HB.out.ext HE6.out) (by omega) (by omega)).mono ?_
          rintro e w7 ⟨hE7, v7, rfl, hs7, _⟩
          have HE7 := Lib.hid (HE6.out.trans hE7)
          have HS7 := Lib.hid hs7
          clear hE7 hs7
          go_wp2_with fail
          refine (Merge_any n vb va b a w7 (HB.out.ext HE7.out) (HA.out.ext HE7.out) (by omega) (by omega)).mono ?_
          rintro e w8 ⟨hE8, v8, rfl, hs8, _⟩
          rw [← (merge_comm n a b).2] at hs8
          have HE8 := Lib.hid (HE7.out.trans hE8)
          have HS8 := Lib.hid hs8
          have HS7b := Lib.hid (HS7.out.ext hE8)
          have hmc := (merge_comm n a b).1
          have hll := mergeL_le n a b
          have hll2 := mergeL_le n b c
          clear hE8 hs8
          by_cases h1 : mergeE n a b = 0
          · have h2 : mergeE n b a = 0 := hmc.1 h1
            have HM7 := Lib.hid h1
            rw [h1, h2]
            clear h1 h2 hmc
            go_wp2_with fail
            refine (Same_any v7 v8 _ _ w8 HS7b.out HS8.out (by omega) (by omega)).mono ?_
            rintro e w9 ⟨rfl, hE9⟩
            rw [sameB_self]
            have HE9 := Lib.hid (HE8.out.trans hE9)
            have HS7c := Lib.hid (HS7b.out.ext hE9)
            clear hE9
            go_wp2_with fail
            refine (Merge_any n vb vc b c w9 (HB.out.ext HE9.out) (HC.out.ext HE9.out) (by omega) (by omega)).mono ?_
            rintro e w10 ⟨hE10, v10, rfl, hs10, _⟩
            have HE10 := Lib.hid (HE9.out.trans hE10)
            have HS10 := Lib.hid hs10
            have HS7d := Lib.hid (HS7c.out.ext hE10)
            clear hE10 hs10
            by_cases h3 : mergeE n b c = 0
            · have HM10 := Lib.hid h3
              have HT := Lib.hid (merge_three HM7.out h3)
              rw [h3]
              clear h3
              go_wp2_with fail
              refine (Merge_any n v7 vc (mergeL n a b) c w10 HS7d.out (HC.out.ext HE10.out) (by omega) (by omega)).mono ?_
              rintro e w11 ⟨hE11, v11, rfl, hs11, _⟩
              have HE11 := Lib.hid (HE10.out.trans hE11)
              have HS11 := Lib.hid hs11
              have HS10b := Lib.hid (HS10.out.ext hE11)
              clear hE11 hs11
              go_wp2_with fail
              refine (Merge_any n va v10 a (mergeL n b c) w11 (HA.out.ext HE11.out) HS10b.out (by omega) (by omega)).mono ?_
              rintro e w12 ⟨hE12, v12, rfl, hs12, _⟩
              rw [← HT.out.1]
              rw [← HT.out.2] at hs12
              have HE12 := Lib.hid (HE11.out.trans hE12)
              have HS12 := Lib.hid hs12
              have HS11b := Lib.hid (HS11.out.ext hE12)
              have hl11 := mergeL_le n (mergeL n a b) c
              clear hE12 hs12
              generalize mergeE n (mergeL n a b) c = E at *
              go_wp2_with fail
              refine (HAL.out w12 HE12.out).mono ?_
              rintro e w13 ⟨rfl, hE13⟩
              have HE13 := Lib.hid (HE12.out.trans hE13)
              have HS12b := Lib.hid (HS12.out.ext hE13)
              have HS11c := Lib.hid (HS11b.out.ext hE13)
              clear hE13
              go_wp2_with fail
              refine (Same_any v11 v12 _ _ w13 HS11c.out HS12b.out (by omega) (by omega)).mono ?_
              rintro e w14 ⟨rfl, hE14⟩
              rw [sameB_self]
              have HE14 := Lib.hid (HE13.out.trans hE14)
              clear hE14
              go_wp2_with fail
              go_ret
              exact ⟨rfl, HE14.out⟩
            · have hne : (mergeE n b c != 0) = true := by simpa using h3
              clear h3
              generalize mergeE n b c = E at *
              go_wp2_with fail
              refine (HAL.out w10 HE10.out).mono ?_
              rintro e w13 ⟨rfl, hE13⟩
              have HE13 := Lib.hid (HE10.out.trans hE13)
              clear hE13
              go_wp2_with fail
              go_ret
              exact ⟨rfl, HE13.out⟩
          · have h2 : ¬ mergeE n b a = 0 := fun q => h1 (hmc.2 q)
            have hne1 : (mergeE n a b == 0) = false := by simpa using h1
            have hne2 : (mergeE n b a == 0) = false := by simpa using h2
            have hne3 : (mergeE n a b != 0) = true := by simpa using h1
            clear h1 h2 hmc
            generalize mergeE n a b = E1 at *
            generalize mergeE n b a = E2 at *
            go_wp2_with fail
            refine (Same_any v7 v8 _ _ w8 HS7b.out HS8.out (by omega) (by omega)).mono ?_
            rintro e w9 ⟨rfl, hE9⟩
            rw [sameB_self]
            have HE9 := Lib.hid (HE8.out.trans hE9)
            clear hE9
            go_wp2_with fail
            refine (Merge_any n vb vc b c w9 (HB.out.ext HE9.out) (HC.out.ext HE9.out) (by omega) (by omega)).mono ?_
            rintro e w10 ⟨hE10, v10, rfl, hs10, _⟩
            have HE10 := Lib.hid (HE9.out.trans hE10)
            clear hE10 hs10
            go_wp2_with fail
            refine (HAL.out w10 HE10.out).mono ?_
            rintro e w13 ⟨rfl, hE13⟩
            have HE13 := Lib.hid (HE10.out.trans hE13)
            clear hE13
            go_wp2_with fail
            go_ret
            exact ⟨rfl, HE13.out⟩
        · have hne : ((sortedP n a).2.2 != 0) = true := by simpa using he
          clear he
          generalize (sortedP n a).2.2 = E at *
          generalize (sortedP n a).2.1 = E2 at *
          go_wp2_with fail
          refine (HAL.out w1 HE1.out).mono ?_
          rintro e w13 ⟨rfl, hE13⟩
          have HE13 := Lib.hid (HE1.out.trans hE13)
          clear hE13
          go_wp2_with fail
          go_ret
          exact ⟨rfl, HE13.out⟩
      · have f3' := fewB_no f3
        rw [f1] at HFa
        rw [f2] at HFb
        rw [f3'] at HFc
        go_enter Tryz.func14, Tryz.ntmps14
        go_wp2_with (first | (go_at_call_of 24 va; refine HFa.out.mono ?_; rintro e w' ⟨rfl, rfl⟩) | (go_at_call_of 24 vb; refine HFb.out.mono ?_; rintro e w' ⟨rfl, rfl⟩) | (go_at_call_of 24 vc; refine HFc.out.mono ?_; rintro e w' ⟨rfl, rfl⟩))
        refine (HAL.out w (Ext.refl _)).mono ?_
        rintro e w1 ⟨rfl, hE⟩
        go_wp2_with fail
        go_ret
        exact ⟨rfl, hE⟩
    · have f2' := fewB_no f2
      rw [f1] at HFa
      rw [f2'] at HFb
      go_enter Tryz.func14, Tryz.ntmps14
      go_wp2_with (first | (go_at_call_of 24 va; refine HFa.out.mono ?_; rintro e w' ⟨rfl, rfl⟩) | (go_at_call_of 24 vb; refine HFb.out.mono ?_; rintro e w' ⟨rfl, rfl⟩) | (go_at_call_of 24 vc; refine HFc.out.mono ?_; rintro e w' ⟨rfl, rfl⟩))
      refine (HAL.out w (Ext.refl _)).mono ?_
      rintro e w1 ⟨rfl, hE⟩
      go_wp2_with fail
      go_ret
      exact ⟨rfl, hE⟩
  · have f1' := fewB_no f1
    rw [f1'] at HFa
    go_enter Tryz.func14, Tryz.ntmps14
    go_wp2_with (first | (go_at_call_of 24 va; refine HFa.out.mono ?_; rintro e w' ⟨rfl, rfl⟩) | (go_at_call_of 24 vb; refine HFb.out.mono ?_; rintro e w' ⟨rfl, rfl⟩) | (go_at_call_of 24 vc; refine HFc.out.mono ?_; rintro e w' ⟨rfl, rfl⟩))
    refine (HAL.out w (Ext.refl _)).mono ?_
    rintro e w1 ⟨rfl, hE⟩
    go_wp2_with fail
    go_ret
    exact ⟨rfl, hE⟩
end Go.Proofs.YtgjahnomafpnfaaGreatDoor

/- Rules for a region whose frame is a variable: what an operand holds, what an operation gives. -/
namespace Go.Proofs.YtgjahnomafpnfaaGreatDoor
open Go.RowKit
/-- Does operation i wait for operation j itself? -/
def direct (ops : Array Oper) (i j : Nat) : Bool := (ops[i]?).any fun o => o.after.any fun e => Region.binds .any e && e.on == j
theorem direct_anc {ops : Array Oper} {f i j : Nat} (h : direct ops i j = true) : anc ops (f + 1) i j = true := by
  unfold direct at h
  unfold anc
  cases ho : ops[i]? with
  | none => rw [ho] at h; cases h
  | some o =>
    rw [ho, Option.any_some, Array.any_eq_true'] at h
    rw [Option.any_some, Array.any_eq_true']
    obtain ⟨e, he, h⟩ := h
    refine ⟨e, he, ?_⟩
    rw [Bool.and_eq_true] at h ⊢
    exact ⟨h.1, by rw [h.2]; rfl⟩
/-- The check of a region's text, quick: every operation looks only at what it waits for itself. -/
def drawnFast (ops : Array Oper) (size : Nat) : Bool :=
  (List.range ops.size).all (fun i => (ops[i]?).any fun o =>
    (match o.op with | .select .. => false | _ => true) && o.after.all (fun e => !Region.binds .any e || decide (e.on < i)) &&
    (o.dst.any fun d => decide (d < size)) && (List.range i).all (fun j => (ops[j]?).any fun q => q.dst != o.dst) &&
    (List.range ops.size).all (fun j => (ops[j]?).any fun q => q.dst.all fun d => !(o.looksAt ops).contains d || (j != i && direct ops i j)))
theorem drawnFast_ok {ops : Array Oper} {size : Nat} (h : drawnFast ops size = true) : drawnOk ops ops.size size = true := by
  unfold drawnFast at h
  unfold drawnOk
  rw [List.all_eq_true] at h
  rw [Bool.and_eq_true, decide_eq_true_eq, List.all_eq_true]
  refine ⟨Nat.le_refl _, fun i hi => ?_⟩
  have h1 := h i hi
  have hlt := List.mem_range.1 hi
  obtain ⟨f, hf⟩ : ∃ f, ops.size = f + 1 := ⟨ops.size - 1, by omega⟩
  cases ho : ops[i]? with
  | none => rw [ho] at h1; cases h1
  | some o =>
    rw [ho, Option.any_some] at h1
    rw [Option.any_some]
    rw [Bool.and_eq_true, Bool.and_eq_true, Bool.and_eq_true, Bool.and_eq_true] at h1
    obtain ⟨⟨⟨⟨a1, a2⟩, a3⟩, a4⟩, a5⟩ := h1
    have hd : decide (i < ops.size) = true := decide_eq_true hlt
    rw [Bool.and_eq_true, Bool.and_eq_true, Bool.and_eq_true, hd]
    refine ⟨⟨⟨a1, a2⟩, ?_⟩, rfl⟩
    rw [Bool.not_true, Bool.false_or, Bool.and_eq_true, Bool.and_eq_true]
    refine ⟨⟨a3, a4⟩, ?_⟩
    rw [List.all_eq_true] at a5 ⊢
    intro j hj
    have h5 := a5 j hj
    cases hq : ops[j]? with
    | none => rw [hq] at h5; cases h5
    | some q =>
      rw [hq, Option.any_some] at h5
      rw [Option.any_some]
      cases hqd : q.dst with
      | none => rfl
      | some d =>
        rw [hqd, Option.all_some, Bool.or_eq_true, Bool.and_eq_true] at h5
        rw [Option.all_some, Bool.or_eq_true, Bool.and_eq_true]
        rcases h5 with h6 | ⟨h6, h7⟩
        · exact .inl h6
        · refine .inr ⟨h6, ?_⟩
          rw [hf]
          exact direct_anc h7
section
variable {P : Program} {ops : Array Oper} {o : Oper} {a : Act} {w : World} {X : Value}
theorem sz_put {d n : Nat} (h : a.tmps.size = n) : (a.put (some d) X).tmps.size = n := by
  show (a.tmps.setIfInBounds d X).size = n
  rw [Array.size_setIfInBounds]; exact h
theorem ev_hit {d n : Nat} (hs : a.tmps.size = n) (h : d < n) : (a.put (some d) X).eval (.tmp d) = X := by
  show (a.tmps.setIfInBounds d X).getD d undef = X
  rw [Array.getD_eq_getD_getElem?, Array.getElem?_setIfInBounds_self_of_lt (by omega)]
  rfl
theorem ev_skip {d t : Nat} {v : Value} (hne : d ≠ t) (h : a.eval (.tmp t) = v) : (a.put (some d) X).eval (.tmp t) = v := by
  show (a.tmps.setIfInBounds d X).getD t undef = v
  rw [Array.getD_eq_getD_getElem?, Array.getElem?_setIfInBounds_ne hne, ← Array.getD_eq_getD_getElem?]
  exact h
theorem with_frame {c : Code} {Q : Exit → Act → World → Prop} (h : ∀ A, A = a → c.wp P Q A w) : c.wp P Q a w := h a rfl
theorem want_none (h : o.guard = none) : Region.wanted o (yielded ops a.tmps) = true := by unfold Region.wanted; rw [h]
theorem want_some {g t n : Nat} {want : Bool} (hg : o.guard = some (g, want)) (hd : (ops[g]?).bind (·.dst) = some t) (hn : a.tmps.size = n) (ht : t < n) (he : a.eval (.tmp t) = .bool want) : Region.wanted o (yielded ops a.tmps) = true := by
  have hs : t < a.tmps.size := by omega
  unfold Region.wanted
  rw [hg]
  have h1 : a.tmps[t]? = some (.bool want) := by
    have h2 : a.tmps.getD t undef = .bool want := he
    rw [Array.getD_eq_getD_getElem?, Array.getElem?_eq_getElem hs] at h2
    rw [Array.getElem?_eq_getElem hs]
    exact congrArg some h2
  have h3 : yielded ops a.tmps g = some want := by
    unfold yielded
    rw [hd]
    simp only [Option.bind_some, h1]
  simp only [h3, beq_self_eq_true]
theorem seq_pureD {E : World → World → Prop} {Φ : Nat → Option (Value → World → Prop)} {w0 : World} {T : Act → World → Prop} {ν : Nat → Value} {i d j : Nat} {rest : List Oper} (hj : i + 1 = j) (X : Value) (h0 : Φ i = none) (hd : o.dst = some d) (h : ∀ w', E w0 w' → factsOf ops Φ ν i w' → pureG P ops o a w' X) (hr : Seq E P ops Φ w0 T ν j rest (a.put (some d) X)) : Seq E P ops Φ w0 T ν i (o :: rest) a :=
  Seq.pure X h0 h (by rw [hd, hj]; exact hr)
theorem seq_effD {E : World → World → Prop} {Φ : Nat → Option (Value → World → Prop)} {w0 : World} {T : Act → World → Prop} {ν : Nat → Value} {i d j : Nat} {rest : List Oper} (hj : i + 1 = j) (φ : Value → World → Prop) (h0 : Φ i = some φ) (hd : o.dst = some d) (h : ∀ w', E w0 w' → factsOf ops Φ ν i w' → giveG P ops o a w' (fun v w'' => φ v w'' ∧ E w' w'')) (hr : Seq E P ops Φ w0 T ν j rest (a.put (some d) (ν i))) : Seq E P ops Φ w0 T ν i (o :: rest) a :=
  Seq.eff φ h0 h (by rw [hd, hj]; exact hr)
theorem pg_move {x : Operand} (hw : Region.wanted o (yielded ops a.tmps) = true) (ho : o.op = .move x) (hx : a.eval x = X) : pureG P ops o a w X := by
  unfold pureG
  rw [if_pos hw]
  unfold execOp
  simp only [ho, hx]
  rfl
theorem pg_pick {c x y : Operand} {b : Bool} (hw : Region.wanted o (yielded ops a.tmps) = true) (ho : o.op = .pick c x y) (hc : a.eval c = .bool b) (hx : (if b then a.eval x else a.eval y) = X) : pureG P ops o a w X := by
  unfold pureG
  rw [if_pos hw]
  unfold execOp
  subst hx
  simp only [ho, hc, asBool, Sem.run_bind, Sem.run_pure, Result.andThen_ok]
theorem pg_pickF {c x y : Operand} (hw : Region.wanted o (yielded ops a.tmps) = true) (ho : o.op = .pick c x y) (hc : a.eval c = .bool false) (hx : a.eval y = X) : pureG P ops o a w X := pg_pick (b := false) hw ho hc hx
theorem pg_bin {op : BinOp} {t t2 : TypeId} {x y : Operand} {u v : Value} (hw : Region.wanted o (yielded ops a.tmps) = true) (ho : o.op = .binOp op t x y t2) (hx : a.eval x = u) (hy : a.eval y = v)
    (hq : (eqGuard op t x y u v).run P w = .ok () w) (hb : (binOp op t u v).run P w = .ok X w) : pureG P ops o a w X := by
  unfold pureG
  rw [if_pos hw]
  unfold execOp
  simp only [ho, hx, hy, Sem.run_bind, hq, hb, Result.andThen_ok]
  rfl
theorem pg_load {t : TypeId} {x : Operand} {u : Value} (hw : Region.wanted o (yielded ops a.tmps) = true) (ho : o.op = .load t x) (hx : a.eval x = u) (h : (Instr.loadAt t u).run P w = .ok X w) : pureG P ops o a w X := by
  unfold pureG
  rw [if_pos hw]
  unfold execOp
  simp only [ho, hx, Sem.run_bind, h, Result.andThen_ok]
  rfl
theorem gv_call {f : FuncId} {us : Array Value} {R : Value → World → Prop} (hw : Region.wanted o (yielded ops a.tmps) = true) (he : (execOp a.eval o).run P w = .ok (.enter f us) w)
    (h : Calls P f us w fun e w' => ∃ v, e = .returned v ∧ R v w') : giveG P ops o a w R := by
  unfold giveG
  rw [if_pos hw]
  unfold Oper.wp
  rw [he]
  refine h.mono ?_
  rintro e w' ⟨v, rfl, hr⟩
  exact ⟨v, rfl, hr⟩
end
theorem neqS (t : ByteArray) (w : World) : (binOp .neq 9 (.string t) (.string t)).run Tryz.prog w = .ok (.bool false) w := by simp [go_sem, binOp, Op.stringOp]
theorem neqE (i : Int) (w : World) : (binOp .neq 38 (.int .i64 i) (.int .i64 i)).run Tryz.prog w = .ok (.bool false) w := by simp [go_sem, binOp]
theorem neqI (i : Int) (w : World) : (binOp .neq 3 (.int .i64 i) (.int .i64 i)).run Tryz.prog w = .ok (.bool false) w := by simp [go_sem, binOp]
theorem egS (x y : Operand) (a b : ByteArray) (w : World) : (eqGuard .neq 9 x y (.string a) (.string b)).run Tryz.prog w = .ok () w := rfl
theorem egE (t : TypeId) (x y : Operand) (a b : Int) (w : World) : (eqGuard .neq t x y (.int .i64 a) (.int .i64 b)).run Tryz.prog w = .ok () w := rfl
theorem eg49 (x y : Operand) (a b : Array Value) (w : World) : (eqGuard .neq 49 x y (.agg a) (.agg b)).run Tryz.prog w = .ok () w := run_eqGuard_agg _ _ _ _ _ _ _ (by kernel_rfl)
theorem eg94 (x y : Operand) (a b : Array Value) (w : World) : (eqGuard .neq 94 x y (.agg a) (.agg b)).run Tryz.prog w = .ok () w := run_eqGuard_agg _ _ _ _ _ _ _ (by kernel_rfl)
theorem ld49 {w : World} {X : Nat} {x : Rec} (h : BoxR w X x) : (Instr.loadAt 49 (.pointer (some ⟨X, 0, none⟩))).run Tryz.prog w = .ok (.agg #[.int .i64 x.st, .int .i64 x.num, .int .i64 x.hr, .string x.txt]) w := by
  have c0 := h.c0
  have c1 := h.c1
  have c2 := h.c2
  have c3 := h.c3
  simp [go_sem, c0, c1, c2, c3]
theorem ex_call61 (ρ : Operand → Value) (h1 : ρ (.func 61) = .func (.func 61) #[] #[]) {x0 : Operand} {u0 : Value} (h2 : ρ x0 = u0) {o : Oper} (ho : o.op = .call { callee := .value (.func 61), args := #[x0], argTypes := #[94] }) (w : World) : (execOp ρ o).run Tryz.prog w = .ok (.enter 61 #[u0]) w := by
  unfold execOp
  simp [ho, resolve, h1, h2, go_sem]
theorem ex_call62 (ρ : Operand → Value) (h1 : ρ (.func 62) = .func (.func 62) #[] #[]) {x0 : Operand} {u0 : Value} (h2 : ρ x0 = u0) {o : Oper} (ho : o.op = .call { callee := .value (.func 62), args := #[x0], argTypes := #[94] }) (w : World) : (execOp ρ o).run Tryz.prog w = .ok (.enter 62 #[u0]) w := by
  unfold execOp
  simp [ho, resolve, h1, h2, go_sem]
theorem ex_call63 (ρ : Operand → Value) (h1 : ρ (.func 63) = .func (.func 63) #[] #[]) {x0 x1 : Operand} {u0 u1 : Value} (h2 : ρ x0 = u0) (h3 : ρ x1 = u1) {o : Oper} (ho : o.op = .call { callee := .value (.func 63), args := #[x0, x1], argTypes := #[3, 49] }) (w : World) : (execOp ρ o).run Tryz.prog w = .ok (.enter 63 #[u0, u1]) w := by
  unfold execOp
  simp [ho, resolve, h1, h2, h3, go_sem]
theorem ex_call64 (ρ : Operand → Value) (h1 : ρ (.func 64) = .func (.func 64) #[] #[]) {x0 x1 : Operand} {u0 u1 : Value} (h2 : ρ x0 = u0) (h3 : ρ x1 = u1) {o : Oper} (ho : o.op = .call { callee := .value (.func 64), args := #[x0, x1], argTypes := #[3, 49] }) (w : World) : (execOp ρ o).run Tryz.prog w = .ok (.enter 64 #[u0, u1]) w := by
  unfold execOp
  simp [ho, resolve, h1, h2, h3, go_sem]
end Go.Proofs.YtgjahnomafpnfaaGreatDoor
