/- Lemmas and walks that this claim needs, in one text out of several; each states its own conditions. -/
import Derived.Test.YtgjahnomafpnfaaGreatDoorMB1
import Derived.Lib.AppendZeros
import Derived.Deep.Upon
import Derived.Deep.MidRow
set_option linter.unusedVariables false
set_option linter.unusedSimpArgs false
/- sorted: the records of a book by stations. -/
namespace Go.Proofs.YtgjahnomafpnfaaGreatDoor
open Go.RowKit
/-- Is a record's ref at most that of the one before? -/
def twice : Option Rec → Rec → Bool
  | none, _ => false
  | some p, x => decide (0 ≤ or2 (cmpI p.st x.st) (cmpI p.num x.num))
def sortGo (n : Int) : List (List Rec) → Option Rec → Nat → List Rec → List (List Rec) × Int × Int
  | rows, _, _, [] => (rows, 0, 0)
  | rows, prev, i, x :: l =>
    if formedB n x = false then (rows, i, 1)
    else if twice prev x = true then (rows, i, 6)
    else if followsE (rows.getD x.st.toNat []) x ≠ 0 then (rows, i, followsE (rows.getD x.st.toNat []) x)
    else sortGo n (rows.set x.st.toNat (rows.getD x.st.toNat [] ++ [x])) (some x) (i + 1) l
def sortedP (n : Int) (l : List Rec) : List (List Rec) × Int × Int := if inB n 2 5 then sortGo n (List.replicate 5 []) none 0 l else (List.replicate 5 [], 0, 1)
/-- What sorted leaves. -/
def SortedPost (n : Int) (l : List Rec) (w : World) (e : Ending) (w' : World) : Prop :=
  ∃ rs v0 v1 v2 v3 v4, e = .returned (.tuple #[.agg #[v0, v1, v2, v3, v4], .int .i64 (sortedP n l).2.1, .int .i64 (sortedP n l).2.2]) ∧ Rows5 w' w.heap.size rs [v0, v1, v2, v3, v4] (sortedP n l).1 ∧ Below w.heap.size w w'
theorem SlR.open {w : World} {v : Value} {l : List Rec} (h : SlR w v l) : ∃ ao cap, v = .slice ao l.length cap ∧ ∀ (i : Nat) (x : Rec), l[i]? = some x → ∃ b off, ao = some ⟨b, off, none⟩ ∧ b < w.heap.size ∧
    w.cell? ⟨b, off + i * 4, none⟩ = some (.int .i64 x.st) ∧ w.cell? ⟨b, off + i * 4 + 1, none⟩ = some (.int .i64 x.num) ∧ w.cell? ⟨b, off + i * 4 + 2, none⟩ = some (.int .i64 x.hr) ∧ w.cell? ⟨b, off + i * 4 + 3, none⟩ = some (.string x.txt) := by
  rcases h with ⟨rfl, rfl⟩ | ⟨b, off, cap, rfl, _, _, hb, hc⟩
  · exact ⟨none, 0, rfl, fun i x hx => by simp at hx⟩
  · exact ⟨_, cap, rfl, fun i x hx => ⟨b, off, rfl, hb, rowcells hc hx⟩⟩
theorem RowR.shape {w : World} {base : Nat} {r : Option Nat} {v : Value} {xs : List Rec} (h : RowR w base r v xs) : ∃ a c, v = .slice a xs.length c := by
  rcases h with ⟨h, _⟩ | ⟨⟨g, h1, _⟩, _⟩
  · rcases h.2 with ⟨h1, h2⟩ | ⟨g, cap, cur, h1, _⟩
    · exact ⟨none, 0, by rw [h1, h2]⟩
    · exact ⟨_, _, h1⟩
  · exact ⟨_, _, h1⟩
theorem Rows5.shapes {w : World} {base : Nat} {rs : List (Option Nat)} {v0 v1 v2 v3 v4 : Value} {rows : List (List Rec)} (h : Rows5 w base rs [v0, v1, v2, v3, v4] rows) :
    (∃ a n c, v0 = .slice a n c) ∧ (∃ a n c, v1 = .slice a n c) ∧ (∃ a n c, v2 = .slice a n c) ∧ (∃ a n c, v3 = .slice a n c) ∧ (∃ a n c, v4 = .slice a n c) := by
  have key : ∀ (k : Nat) v, k < 5 → [v0, v1, v2, v3, v4][k]? = some v → ∃ a n c, v = .slice a n c := by
    intro k v hk hv
    obtain ⟨a, c, e⟩ := (h.row k (rs[k]'(by rw [h.ls]; exact hk)) v (rows[k]'(by rw [h.lr]; exact hk)) (by simp) hv (by simp)).shape
    exact ⟨a, _, c, e⟩
  exact ⟨key 0 v0 (by omega) rfl, key 1 v1 (by omega) rfl, key 2 v2 (by omega) rfl, key 3 v3 (by omega) rfl, key 4 v4 (by omega) rfl⟩
theorem len5 {α : Type} {l : List α} (h : l.length = 5) : ∃ a b c d e, l = [a, b, c, d, e] := by
  match l, h with
  | [a, b, c, d, e], _ => exact ⟨a, b, c, d, e, rfl⟩
/-- What holds at the head of a round of sorted's loop. -/
structure SortRel (n : Int) (l : List Rec) (w wr : World) (k : Nat) (rs : List (Option Nat)) (v0 v1 v2 v3 v4 : Value) (rows : List (List Rec)) (prev : Option Rec) : Prop where
  le : k ≤ l.length
  shelf : ShelfX wr w.heap.size (w.heap.size + 1) 0 rs [v0, v1, v2, v3, v4] rows
  eq : sortedP n l = sortGo n rows prev k (l.drop k)
  prev : prev = if k = 0 then none else l[k - 1]?
  below : Below w.heap.size w wr
  len : ∀ (j : Nat) (xs : List Rec), rows[j]? = some xs → xs.length ≤ k
  res : ∀ j, j < 5 → (wr.cell? ⟨w.heap.size, j, none⟩).isSome = true ∧ wr.frozen? ⟨w.heap.size, j, none⟩ = false
  resOff : some w.heap.size ∉ rs
theorem SortRel.ext {n : Int} {l : List Rec} {w wr w' : World} {k : Nat} {rs : List (Option Nat)} {v0 v1 v2 v3 v4 : Value} {rows : List (List Rec)} {prev : Option Rec} (h : SortRel n l w wr k rs v0 v1 v2 v3 v4 rows prev) (hE : Ext wr w') : SortRel n l w w' k rs v0 v1 v2 v3 v4 rows prev := by
  have hlt : w.heap.size < wr.heap.size := by have := h.shelf.lt; omega
  refine ⟨h.le, h.shelf.ext hE, h.eq, h.prev, below_trans h.below hE (Nat.le_refl _), h.len, fun j hj => ?_, h.resOff⟩
  have := h.res j hj
  exact ⟨by rw [hE.cell (p := ⟨w.heap.size, j, none⟩) hlt]; exact this.1, by rw [hE.frozen (p := ⟨w.heap.size, j, none⟩) hlt]; exact this.2⟩
/-- The facts of memory that a walk reads off the relation. -/
theorem SortRel.facts {n : Int} {l : List Rec} {w wr : World} {k : Nat} {rs : List (Option Nat)} {v0 v1 v2 v3 v4 : Value} {rows : List (List Rec)} {prev : Option Rec} (h : SortRel n l w wr k rs v0 v1 v2 v3 v4 rows prev) :
    (wr.cell? ⟨w.heap.size + 1, 0, none⟩ = some v0 ∧ wr.cell? ⟨w.heap.size + 1, 1, none⟩ = some v1 ∧ wr.cell? ⟨w.heap.size + 1, 2, none⟩ = some v2 ∧ wr.cell? ⟨w.heap.size + 1, 3, none⟩ = some v3 ∧ wr.cell? ⟨w.heap.size + 1, 4, none⟩ = some v4) ∧
    (∃ u0 u1 u2 u3 u4, wr.cell? ⟨w.heap.size, 0, none⟩ = some u0 ∧ wr.cell? ⟨w.heap.size, 1, none⟩ = some u1 ∧ wr.cell? ⟨w.heap.size, 2, none⟩ = some u2 ∧ wr.cell? ⟨w.heap.size, 3, none⟩ = some u3 ∧ wr.cell? ⟨w.heap.size, 4, none⟩ = some u4) ∧
    wr.frozen? ⟨w.heap.size, 0, none⟩ = false ∧ wr.frozen? ⟨w.heap.size, 1, none⟩ = false ∧ wr.frozen? ⟨w.heap.size, 2, none⟩ = false ∧ wr.frozen? ⟨w.heap.size, 3, none⟩ = false ∧ wr.frozen? ⟨w.heap.size, 4, none⟩ = false := by
  have c := fun (j : Nat) v (hv : [v0, v1, v2, v3, v4][j]? = some v) => h.shelf.cell j v hv
  obtain ⟨u0, d0⟩ := Option.isSome_iff_exists.1 (h.res 0 (by omega)).1
  obtain ⟨u1, d1⟩ := Option.isSome_iff_exists.1 (h.res 1 (by omega)).1
  obtain ⟨u2, d2⟩ := Option.isSome_iff_exists.1 (h.res 2 (by omega)).1
  obtain ⟨u3, d3⟩ := Option.isSome_iff_exists.1 (h.res 3 (by omega)).1
  obtain ⟨u4, d4⟩ := Option.isSome_iff_exists.1 (h.res 4 (by omega)).1
  exact ⟨⟨c 0 _ rfl, c 1 _ rfl, c 2 _ rfl, c 3 _ rfl, c 4 _ rfl⟩, ⟨u0, u1, u2, u3, u4, d0, d1, d2, d3, d4⟩, (h.res 0 (by omega)).2, (h.res 1 (by omega)).2, (h.res 2 (by omega)).2, (h.res 3 (by omega)).2, (h.res 4 (by omega)).2⟩
/-- The way out of the loop: the shelf is stored into the result. -/
theorem SortRel.out {n : Int} {l : List Rec} {w wr : World} {k : Nat} {rs : List (Option Nat)} {v0 v1 v2 v3 v4 : Value} {rows : List (List Rec)} {prev : Option Rec} (h : SortRel n l w wr k rs v0 v1 v2 v3 v4 rows prev) {i e : Int} (hx : sortedP n l = (rows, i, e)) (z0 z1 z2 z3 z4 : Value) :
    SortedPost n l w (.returned (.tuple #[.agg #[v0, v1, v2, v3, v4], .int .i64 i, .int .i64 e])) (((((wr.setCell ⟨w.heap.size, 0, none⟩ z0).setCell ⟨w.heap.size, 1, none⟩ z1).setCell ⟨w.heap.size, 2, none⟩ z2).setCell ⟨w.heap.size, 3, none⟩ z3).setCell ⟨w.heap.size, 4, none⟩ z4) := by
  have ho := h.resOff
  refine ⟨rs, v0, v1, v2, v3, v4, by rw [hx], ?_, ?_⟩
  · rw [hx]
    exact ((((h.shelf.five.setCell ho (Nat.le_refl _) _).setCell ho (Nat.le_refl _) _).setCell ho (Nat.le_refl _) _).setCell ho (Nat.le_refl _) _).setCell ho (Nat.le_refl _) _
  · exact ((((h.below.setCell (Nat.le_refl _) _).setCell (Nat.le_refl _) _).setCell (Nat.le_refl _) _).setCell (Nat.le_refl _) _).setCell (Nat.le_refl _) _
theorem st_of {n : Int} {x : Rec} (hn : n ≤ 5) (hF : formedB n x = true) : ∃ s : Nat, x.st = (s : Int) ∧ s < 5 := by
  have : 0 ≤ x.st ∧ x.st ≤ n - 1 := by
    simp only [formedB, Bool.and_eq_true] at hF
    exact (inB_iff _ _ _).1 hF.1.1.1
  exact ⟨x.st.toNat, by omega, by omega⟩
/-- One record more. -/
theorem SortRel.step {n : Int} {l : List Rec} {w W2 W3 : World} {k : Nat} {rs rs' : List (Option Nat)} {v0 v1 v2 v3 v4 u0 u1 u2 u3 u4 : Value} {rows : List (List Rec)} {prev : Option Rec} (h : SortRel n l w W2 k rs v0 v1 v2 v3 v4 rows prev)
    {x : Rec} {xs : List Rec} {s : Nat} (hF : formedB n x = true) (hd : l.drop k = x :: l.drop (k + 1)) (hx : l[k]? = some x) (hT : twice prev x = false) (hG : rows.getD x.st.toNat [] = xs) (hE : followsE xs x = 0) (hst : x.st = (s : Int)) (hs5 : s < 5) (hxs : rows[s]? = some xs)
    (hS : ShelfX W3 w.heap.size (w.heap.size + 1) 0 rs' [u0, u1, u2, u3, u4] (rows.set s (xs ++ [x]))) (hFr : FrS (w.heap.size + 1) 0 rs rs' W2 W3) (hk : k < l.length) :
    SortRel n l w W3 (k + 1) rs' u0 u1 u2 u3 u4 (rows.set s (xs ++ [x])) (some x) := by
  have hlt := h.shelf.lt
  have hres := h.resOff
  refine ⟨hk, hS, ?_, ?_, ?_, ?_, ?_, ?_⟩
  · rw [h.eq, hd, sortGo, if_neg (by simp [hF]), if_neg (by simp [hT]), hG, if_neg (by simp [hE])]
    rw [hst]; rfl
  · rw [if_neg (by omega)]; simpa using hx.symm
  · have := h.below
    refine this.trans (hFr.below (N := w.heap.size) (by omega) (by omega) fun g hg => (h.shelf.five.ge g hg).1)
  · intro j ys hj
    rw [List.getElem?_set] at hj
    split at hj
    · split at hj
      · simp only [Option.some.injEq] at hj
        subst hj
        have := h.len s xs hxs
        simp; omega
      · cases hj
    · have := h.len j ys hj; omega
  · intro j hj
    have := h.res j hj
    have hsame := hFr.block w.heap.size (by omega) (by omega) hres
    refine ⟨?_, ?_⟩
    · rw [World.cell?_of_block (w := W2) (a := ⟨w.heap.size, j, none⟩) hsame]; exact this.1
    · rw [World.frozen?_of_block (w := W2) (a := ⟨w.heap.size, j, none⟩) hsame]; exact this.2
  · intro hm
    rcases hFr.new _ hm with q | q
    · exact hres q
    · omega
theorem nil5 (w : World) (base : Nat) (h : base ≤ w.heap.size) : Rows5 w base [none, none, none, none, none] [.slice none 0 0, .slice none 0 0, .slice none 0 0, .slice none 0 0, .slice none 0 0] (List.replicate 5 []) := by
  refine ⟨rfl, rfl, rfl, h, ?_, ?_⟩
  · intro k r v xs h1 h2 h3
    have hk : k < 5 := (List.getElem?_eq_some_iff.1 h1).1
    have e1 : r = none := by match k, hk with | 0, _ | 1, _ | 2, _ | 3, _ | 4, _ => simpa using h1.symm
    have e2 : v = .slice none 0 0 := by match k, hk with | 0, _ | 1, _ | 2, _ | 3, _ | 4, _ => simpa using h2.symm
    have e3 : xs = [] := by rw [List.getElem?_replicate, if_pos hk] at h3; simpa using h3.symm
    subst e1 e2 e3
    exact .inl ⟨World.ownsRow_nil _ _ _ _, rfl⟩
  · intro j k r r' _ h1 _
    have hk : j < 5 := (List.getElem?_eq_some_iff.1 h1).1
    left
    match j, hk with | 0, _ | 1, _ | 2, _ | 3, _ | 4, _ => simpa using h1.symm
def zero5 : Obj := .cells #[.slice none 0 0, .slice none 0 0, .slice none 0 0, .slice none 0 0, .slice none 0 0] 126
theorem sort_start (n : Int) (l : List Rec) (w : World) (hn : inB n 2 5 = true) :
    SortRel n l w ((w.alloc zero5).alloc zero5) 0 [none, none, none, none, none] (.slice none 0 0) (.slice none 0 0) (.slice none 0 0) (.slice none 0 0) (.slice none 0 0) (List.replicate 5 []) none := by
  have hs : ((w.alloc zero5).alloc zero5).heap.size = w.heap.size + 2 := by simp
  have hc1 : ∀ j, ((w.alloc zero5).alloc zero5).cell? ⟨w.heap.size + 1, j, none⟩ = (#[.slice none 0 0, .slice none 0 0, .slice none 0 0, .slice none 0 0, .slice none 0 0] : Array Value)[j]? := fun j => World.cell?_alloc_at _ _ _ _ (by simp)
  have hc0 : ∀ j, ((w.alloc zero5).alloc zero5).cell? ⟨w.heap.size, j, none⟩ = (#[.slice none 0 0, .slice none 0 0, .slice none 0 0, .slice none 0 0, .slice none 0 0] : Array Value)[j]? := fun j => by
    rw [World.cell?_alloc_past _ _ _ (by simp)]; exact World.cell?_alloc_new w _ _ j
  have hf1 : ∀ j, ((w.alloc zero5).alloc zero5).frozen? ⟨w.heap.size + 1, j, none⟩ = false := fun j => World.frozen?_alloc_at _ _ _ _ (by simp)
  have hf0 : ∀ j, ((w.alloc zero5).alloc zero5).frozen? ⟨w.heap.size, j, none⟩ = false := fun j => by
    rw [World.frozen?_alloc_past _ _ _ (by simp)]; exact World.frozen?_alloc_new w _ _ j
  refine ⟨Nat.zero_le _, ⟨nil5 _ _ (by omega), by omega, ?_, fun k _ => by rw [Nat.zero_add]; exact hf1 k, ?_⟩, by simp [sortedP, hn], rfl, ((Below.refl _ _).alloc (Nat.le_refl _) _).alloc (by simp) _, ?_, ?_, by simp⟩
  · intro k v hv
    rw [Nat.zero_add, hc1]
    simpa using hv
  · intro k v hv
    have hk : k < 5 := (List.getElem?_eq_some_iff.1 hv).1
    have e2 : v = .slice none 0 0 := by match k, hk with | 0, _ | 1, _ | 2, _ | 3, _ | 4, _ => simpa using hv.symm
    simp [e2, Value.ownBlock]
  · intro j xs hj
    rw [List.getElem?_replicate] at hj
    split at hj
    · simp at hj; simp [← hj]
    · cases hj
  · intro j hj
    refine ⟨?_, hf0 j⟩
    rw [hc0]
    match j, hj with | 0, _ | 1, _ | 2, _ | 3, _ | 4, _ => rfl
set_option maxHeartbeats 1600000 in
set_option maxRecDepth 100000 in
theorem sorted_any (n : Int) (v : Value) (l : List Rec) (w : World) (hv : SlR w v l) (hl : l.length ≤ 100000) :
    Calls Tryz.prog 83 #[.int .i64 n, v] w (SortedPost n l w) := by
  obtain ⟨ao, cap, rfl, hc⟩ := hv.open
  by_cases hn : inB n 2 5 = true
  · have hn' := (inB_iff _ _ _).1 hn
    have HC := Lib.hid hc
    clear hc hv
    go_enter Tryz.func83, Tryz.ntmps83
    go_wp2_with (go_at_call 95; refine (many_any _ _).mono ?_; rintro e w' ⟨rfl, rfl⟩)
    go_loopw [17] (fun i wr => ∃ k rs v0 v1 v2 v3 v4 rows prev, i = .int .i64 (k : Nat) ∧ SortRel n l w wr k rs v0 v1 v2 v3 v4 rows prev) (fun i _ => l.length - (intOf i).toNat)
    case atStart =>
      refine ⟨0, [none, none, none, none, none], .slice none 0 0, .slice none 0 0, .slice none 0 0, .slice none 0 0, .slice none 0 0, List.replicate 5 [], none, rfl, ?_⟩
      exact sort_start n l w hn
    case round =>
      obtain ⟨k, rs, v0, v1, v2, v3, v4, rows, prev, rfl, hR⟩ := hrel
      obtain ⟨⟨a0, n0, c0, rfl⟩, ⟨a1, n1, c1, rfl⟩, ⟨a2, n2, c2, rfl⟩, ⟨a3, n3, c3, rfl⟩, ⟨a4, n4, c4, rfl⟩⟩ := hR.shelf.five.shapes
      have HR := Lib.hid hR
      clear hR
      by_cases hk : k < l.length
      · obtain ⟨x, hx⟩ : ∃ x, l[k]? = some x := ⟨l[k], by simp⟩
        obtain ⟨b, off, rfl, hb, x0, x1, x2, x3⟩ := HC.out k x hx
        have hdrop : l.drop k = x :: l.drop (k + 1) := by rw [List.drop_eq_getElem_cons hk]; rw [List.getElem?_eq_getElem hk] at hx; rw [Option.some.inj hx]
        have HX := Lib.hid (And.intro hx hdrop)
        clear hx hdrop
        have bc := bcell HR.out.below
        have y0 := (bc.1 _ (off + k * 4) hb).trans x0
        have y1 := (bc.1 _ (off + k * 4 + 1) hb).trans x1
        have y2 := (bc.1 _ (off + k * 4 + 2) hb).trans x2
        have y3 := (bc.1 _ (off + k * 4 + 3) hb).trans x3
        clear bc x0 x1 x2 x3
        by_cases hF : formedB n x = true
        · by_cases hk0 : k = 0
          · have hd : decide ((0 : Int) < (k : Int)) = false := by simp [hk0]
            have hd2 : decide (0 < k) = false := by simp [hk0]
            have HK := Lib.hid hk0
            clear hk0
            go_wp2_with (go_at_call 119; refine (formed_any _ x _ (by omega) (by omega)).mono ?_; rintro e W1 ⟨rfl, hbF⟩)
            have hX : Ext wr W1 := (Ext.alloc _ _).trans hbF
            have z0 := Ext.keep hbF (a := ⟨wr.heap.size, 0, none⟩) (v := .int .i64 x.st) (by simp)
            have z1 := Ext.keep hbF (a := ⟨wr.heap.size, 1, none⟩) (v := .int .i64 x.num) (by simp)
            have z2 := Ext.keep hbF (a := ⟨wr.heap.size, 2, none⟩) (v := .int .i64 x.hr) (by simp)
            have z3 := Ext.keep hbF (a := ⟨wr.heap.size, 3, none⟩) (v := .string x.txt) (by simp)
            have HT : RowKit.Hid (twice prev x = false) := by rw [HR.out.prev, if_pos HK.out]; rfl
            go_quiet (fail)
            have hXW : Ext W1 (W1.drewN nq) := below_drewN (Below.refl _ _) nq
            generalize W1.drewN nq = W at hXW ⊢
            replace z0 := hXW.keep z0
            replace z1 := hXW.keep z1
            replace z2 := hXW.keep z2
            replace z3 := hXW.keep z3
            have HS := Lib.hid (HR.out.ext (hX.trans hXW))
            clear y0 y1 y2 y3 hX hXW hbF hd hd2 HR
            obtain ⟨s, hst, hs5⟩ := st_of (by omega) hF
            obtain ⟨xs, hxs⟩ : ∃ xs, rows[s]? = some xs := ⟨rows[s]'(by rw [HS.out.shelf.five.lr]; exact hs5), by simp⟩
            obtain ⟨r, hr⟩ : ∃ r, rs[s]? = some r := ⟨rs[s]'(by rw [HS.out.shelf.five.ls]; exact hs5), by simp⟩
            obtain ⟨v, hv⟩ : ∃ v, [Value.slice a0 n0 c0, .slice a1 n1 c1, .slice a2 n2 c2, .slice a3 n3 c3, .slice a4 n4 c4][s]? = some v := ⟨_, List.getElem?_eq_getElem (by simpa using hs5)⟩
            have hxl : xs.length ≤ k := HS.out.len s xs hxs
            have hget : rows.getD x.st.toNat [] = xs := by rw [hst]; simp [List.getD, hxs]
            have HG := Lib.hid hget
            have HV := Lib.hid (And.intro hst (And.intro hxs (And.intro hr hv)))
            clear hget hst hxs hr hv
            by_cases hE : followsE xs x = 0
            · have hE1 : (followsE xs x != 0) = false := by simp [hE]
              have HE := Lib.hid hE
              clear hE
              go_wp2_with fail
              refine (follows_core (w.heap.size + 1) 0 s x v xs W HV.out.1 hs5 HS.out.shelf.lt (by omega) (HS.out.shelf.cell s v HV.out.2.2.2) ((HS.out.shelf.five.row s r v xs HV.out.2.2.1 HV.out.2.2.2 HV.out.2.1).form (by omega))).mono ?_
              rintro e W2 ⟨rfl, hb2⟩
              have z0' := Ext.keep hb2 z0
              have z1' := Ext.keep hb2 z1
              have z2' := Ext.keep hb2 z2
              have z3' := Ext.keep hb2 z3
              have HS2 := Lib.hid (HS.out.ext hb2)
              clear HS z0 z1 z2 z3 hb2
              go_wp2_with fail
              refine (add_any (w.heap.size + 1) 0 s x w.heap.size rs _ rows W2 HS2.out.shelf HV.out.1 hs5 xs HV.out.2.1 (by omega)).mono ?_
              rintro e W3 ⟨rfl, rs', vs', hS3, hFr⟩
              obtain ⟨v0, v1, v2, v3, v4, rfl⟩ := len5 hS3.five.lv
              have HN := Lib.hid (HS2.out.step hF HX.out.2 HX.out.1 HT.out HG.out HE.out HV.out.1 hs5 HV.out.2.1 hS3 hFr hk)
              clear hS3 hFr HS2 z0' z1' z2' z3'
              go_wp2_with fail
              go_roundw
              case rel => exact ⟨k + 1, rs', v0, v1, v2, v3, v4, _, _, by go_num, HN.out⟩
              case measure => simp [intOf]; omega
            · have hE1 : (followsE xs x != 0) = true := by simp [hE]
              go_wp2_with fail
              refine (follows_core (w.heap.size + 1) 0 s x v xs W HV.out.1 hs5 HS.out.shelf.lt (by omega) (HS.out.shelf.cell s v HV.out.2.2.2) ((HS.out.shelf.five.row s r v xs HV.out.2.2.1 HV.out.2.2.2 HV.out.2.1).form (by omega))).mono ?_
              rintro e W2 ⟨rfl, hb2⟩
              have HS2 := Lib.hid (HS.out.ext hb2)
              clear HS hb2
              obtain ⟨⟨hc0, hc1, hc2, hc3, hc4⟩, ⟨u0, u1, u2, u3, u4, d0, d1, d2, d3, d4⟩, f0, f1, f2, f3, f4⟩ := HS2.out.facts
              go_wp2_with fail
              refine bodyPost_ret (v := .tuple #[.agg #[.slice a0 n0 c0, .slice a1 n1 c1, .slice a2 n2 c2, .slice a3 n3 c3, .slice a4 n4 c4], .int .i64 k, .int .i64 (followsE xs x)]) ?_ rfl ?_
              · simp [results, Tryz.results83, go_sem, *]
              · exact HS2.out.out (by rw [HS2.out.eq, HX.out.2, sortGo, if_neg (by simp [hF]), if_neg (by simp [HT.out]), HG.out, if_pos hE]) _ _ _ _ _
          · have hk1 : (0 : Int) < (k : Int) := by omega
            obtain ⟨p, hp⟩ : ∃ p, l[k - 1]? = some p := ⟨l[k - 1], by simp⟩
            obtain ⟨b', off', e', hb', q0, q1, q2, q3⟩ := HC.out (k - 1) p hp
            obtain ⟨rfl, rfl⟩ : b = b' ∧ off = off' := by simpa using e'
            clear e' hb'
            have bc := bcell HR.out.below
            have p0 := (bc.1 _ (off + (k - 1) * 4) hb).trans q0
            have p1 := (bc.1 _ (off + (k - 1) * 4 + 1) hb).trans q1
            have p2 := (bc.1 _ (off + (k - 1) * 4 + 2) hb).trans q2
            have p3 := (bc.1 _ (off + (k - 1) * 4 + 3) hb).trans q3
            clear bc q0 q1 q2 q3
            have HP := Lib.hid hp
            clear hp
            go_wp2_with (go_at_call 119; refine (formed_any _ x _ (by omega) (by omega)).mono ?_; rintro e W1 ⟨rfl, hbF⟩)
            have hX : Ext wr W1 := (Ext.alloc _ _).trans hbF
            have z0 := Ext.keep hbF (a := ⟨wr.heap.size, 0, none⟩) (v := .int .i64 x.st) (by simp)
            have z1 := Ext.keep hbF (a := ⟨wr.heap.size, 1, none⟩) (v := .int .i64 x.num) (by simp)
            have z2 := Ext.keep hbF (a := ⟨wr.heap.size, 2, none⟩) (v := .int .i64 x.hr) (by simp)
            have z3 := Ext.keep hbF (a := ⟨wr.heap.size, 3, none⟩) (v := .string x.txt) (by simp)
            have p0' := hX.keep p0
            have p1' := hX.keep p1
            have p2' := hX.keep p2
            have p3' := hX.keep p3
            clear p0 p1 p2 p3 y0 y1 y2 y3
            have hd : decide (0 < k) = true := by simpa using hk1
            have hwm : IntKind.i64.wrap ((k : Int) - 1) = (k : Int) - 1 := IntWalk.i64_in _ (by omega)
            have hml : (k : Int) - 1 < (l.length : Int) := by omega
            have hm0 : (0 : Int) ≤ (k : Int) - 1 := by omega
            have hm1 : (1 : Int) ≤ (k : Int) := by omega
            have hmt : ((k : Int) - 1).toNat = k - 1 := by omega
            refine wp_drawn 12 (by kernel_rfl) (by kernel_rfl) (fun i => match i with
              | 9 => some fun v _ => v = .int .i64 (or2 (cmpI p.st x.st) (cmpI p.num x.num))
              | _ => none) ?_ ?_
            · intro j φ hφ v w1 w2 h1 h2
              split at hφ <;> cases hφ
              exact h1
            · intro ν
              simp only [List.take_succ_cons, List.take_zero]
              iterate 9 (refine Seq.pure ?_ rfl (fun w' hw hf => ?_) ?_; rotate_left; (· (have e0 := Ext.keep (w := W1.drew) hw z0; have e1 := Ext.keep (w := W1.drew) hw z1; have e2 := Ext.keep (w := W1.drew) hw z2; have e3 := Ext.keep (w := W1.drew) hw z3; have e4 := Ext.keep (w := W1.drew) hw p0'; have e5 := Ext.keep (w := W1.drew) hw p1'; have e6 := Ext.keep (w := W1.drew) hw p2'; have e7 := Ext.keep (w := W1.drew) hw p3'; unfold pureG; go_simp; with_reducible rfl)); simp only [Act.put, List.setIfInBounds_toArray, List.set_cons_zero, List.set_cons_succ, Nat.reduceAdd, Nat.zero_add])
              refine Seq.eff _ rfl (fun w' hw hf => giveG_of rfl (by simp) fun K hK => ?_) ?_
              · go_simp
                refine (byRef_any p.st p.num p.hr x.st x.num x.hr p.txt x.txt _).mono ?_
                rintro e w2 ⟨rfl, hb2⟩
                exact hK _ _ ⟨rfl, hb2⟩
              simp only [Act.put, List.setIfInBounds_toArray, List.set_cons_zero, List.set_cons_succ, Nat.reduceAdd, Nat.zero_add]
              iterate 2 (refine Seq.pure ?_ rfl (fun w' hw hf => ?_) ?_; rotate_left; (· (have e9 := hf 9 _ rfl (by kernel_rfl); unfold pureG; go_simp; with_reducible rfl)); simp only [Act.put, List.setIfInBounds_toArray, List.set_cons_zero, List.set_cons_succ, Nat.reduceAdd, Nat.zero_add])
              refine Seq.nil fun W hw hf => tail_none (by kernel_rfl) ?_
              have e9 := hf 9 _ (by omega) rfl
              rw [e9]
              clear e9
              have hXW : Ext W1 W := (Ext.drew W1).trans hw
              replace z0 := hXW.keep z0
              replace z1 := hXW.keep z1
              replace z2 := hXW.keep z2
              replace z3 := hXW.keep z3
              have HT : RowKit.Hid (twice prev x = decide (0 ≤ or2 (cmpI p.st x.st) (cmpI p.num x.num))) := by rw [HR.out.prev, if_neg hk0, HP.out]; rfl
              have HS := Lib.hid (HR.out.ext (hX.trans hXW))
              clear hf hw hX hXW hbF hd hwm hml hm0 hm1 hmt HR HP p0' p1' p2' p3'
              by_cases hT : 0 ≤ or2 (cmpI p.st x.st) (cmpI p.num x.num)
              · have hd1 : decide (0 ≤ or2 (cmpI p.st x.st) (cmpI p.num x.num)) = true := by simp [hT]
                obtain ⟨⟨hc0, hc1, hc2, hc3, hc4⟩, ⟨u0, u1, u2, u3, u4, d0, d1, d2, d3, d4⟩, f0, f1, f2, f3, f4⟩ := HS.out.facts
                go_wp2
                refine bodyPost_ret (v := .tuple #[.agg #[.slice a0 n0 c0, .slice a1 n1 c1, .slice a2 n2 c2, .slice a3 n3 c3, .slice a4 n4 c4], .int .i64 k, .int .i64 6]) ?_ rfl ?_
                · simp [results, Tryz.results83, go_sem, *]
                · exact HS.out.out (by rw [HS.out.eq, HX.out.2, sortGo, if_neg (by simp [hF]), if_pos (by rw [HT.out, hd1])]) _ _ _ _ _
              · have hd1 : decide (0 ≤ or2 (cmpI p.st x.st) (cmpI p.num x.num)) = false := by simp [hT]
                rw [hd1] at HT
                obtain ⟨s, hst, hs5⟩ := st_of (by omega) hF
                obtain ⟨xs, hxs⟩ : ∃ xs, rows[s]? = some xs := ⟨rows[s]'(by rw [HS.out.shelf.five.lr]; exact hs5), by simp⟩
                obtain ⟨r, hr⟩ : ∃ r, rs[s]? = some r := ⟨rs[s]'(by rw [HS.out.shelf.five.ls]; exact hs5), by simp⟩
                obtain ⟨v, hv⟩ : ∃ v, [Value.slice a0 n0 c0, .slice a1 n1 c1, .slice a2 n2 c2, .slice a3 n3 c3, .slice a4 n4 c4][s]? = some v := ⟨_, List.getElem?_eq_getElem (by simpa using hs5)⟩
                have hxl : xs.length ≤ k := HS.out.len s xs hxs
                have hget : rows.getD x.st.toNat [] = xs := by rw [hst]; simp [List.getD, hxs]
                have HG := Lib.hid hget
                have HV := Lib.hid (And.intro hst (And.intro hxs (And.intro hr hv)))
                clear hget hst hxs hr hv
                by_cases hE : followsE xs x = 0
                · have hE1 : (followsE xs x != 0) = false := by simp [hE]
                  have HE := Lib.hid hE
                  clear hE
                  go_wp2_with fail
                  refine (follows_core (w.heap.size + 1) 0 s x v xs W HV.out.1 hs5 HS.out.shelf.lt (by omega) (HS.out.shelf.cell s v HV.out.2.2.2) ((HS.out.shelf.five.row s r v xs HV.out.2.2.1 HV.out.2.2.2 HV.out.2.1).form (by omega))).mono ?_
                  rintro e W2 ⟨rfl, hb2⟩
                  have z0' := Ext.keep hb2 z0
                  have z1' := Ext.keep hb2 z1
                  have z2' := Ext.keep hb2 z2
                  have z3' := Ext.keep hb2 z3
                  have HS2 := Lib.hid (HS.out.ext hb2)
                  clear HS z0 z1 z2 z3 hb2
                  go_wp2_with fail
                  refine (add_any (w.heap.size + 1) 0 s x w.heap.size rs _ rows W2 HS2.out.shelf HV.out.1 hs5 xs HV.out.2.1 (by omega)).mono ?_
                  rintro e W3 ⟨rfl, rs', vs', hS3, hFr⟩
                  obtain ⟨v0, v1, v2, v3, v4, rfl⟩ := len5 hS3.five.lv
                  have HN := Lib.hid (HS2.out.step hF HX.out.2 HX.out.1 HT.out HG.out HE.out HV.out.1 hs5 HV.out.2.1 hS3 hFr hk)
                  clear hS3 hFr HS2 z0' z1' z2' z3'
                  go_wp2_with fail
                  go_roundw
                  case rel => exact ⟨k + 1, rs', v0, v1, v2, v3, v4, _, _, by go_num, HN.out⟩
                  case measure => simp [intOf]; omega
                · have hE1 : (followsE xs x != 0) = true := by simp [hE]
                  go_wp2_with fail
                  refine (follows_core (w.heap.size + 1) 0 s x v xs W HV.out.1 hs5 HS.out.shelf.lt (by omega) (HS.out.shelf.cell s v HV.out.2.2.2) ((HS.out.shelf.five.row s r v xs HV.out.2.2.1 HV.out.2.2.2 HV.out.2.1).form (by omega))).mono ?_
                  rintro e W2 ⟨rfl, hb2⟩
                  have HS2 := Lib.hid (HS.out.ext hb2)
                  clear HS hb2
                  obtain ⟨⟨hc0, hc1, hc2, hc3, hc4⟩, ⟨u0, u1, u2, u3, u4, d0, d1, d2, d3, d4⟩, f0, f1, f2, f3, f4⟩ := HS2.out.facts
                  go_wp2_with fail
                  refine bodyPost_ret (v := .tuple #[.agg #[.slice a0 n0 c0, .slice a1 n1 c1, .slice a2 n2 c2, .slice a3 n3 c3, .slice a4 n4 c4], .int .i64 k, .int .i64 (followsE xs x)]) ?_ rfl ?_
                  · simp [results, Tryz.results83, go_sem, *]
                  · exact HS2.out.out (by rw [HS2.out.eq, HX.out.2, sortGo, if_neg (by simp [hF]), if_neg (by simp [HT.out]), HG.out, if_pos hE]) _ _ _ _ _
        · have hF' : formedB n x = false := by simpa using hF
          clear hF
          go_wp2_with (go_at_call 119; refine (formed_any _ x _ (by omega) (by omega)).mono ?_; rintro e w' ⟨rfl, hbF⟩; have HS := Lib.hid (HR.out.ext ((Ext.alloc _ _).trans hbF)); obtain ⟨⟨hc0, hc1, hc2, hc3, hc4⟩, ⟨u0, u1, u2, u3, u4, d0, d1, d2, d3, d4⟩, f0, f1, f2, f3, f4⟩ := HS.out.facts)
          refine bodyPost_ret (v := .tuple #[.agg #[.slice a0 n0 c0, .slice a1 n1 c1, .slice a2 n2 c2, .slice a3 n3 c3, .slice a4 n4 c4], .int .i64 k, .int .i64 1]) ?_ rfl ?_
          · simp [results, Tryz.results83, go_sem, *]
          · exact HS.out.out (by rw [HR.out.eq, HX.out.2, sortGo, if_pos hF']) _ _ _ _ _
      · obtain ⟨⟨hc0, hc1, hc2, hc3, hc4⟩, ⟨u0, u1, u2, u3, u4, d0, d1, d2, d3, d4⟩, f0, f1, f2, f3, f4⟩ := HR.out.facts
        go_wp2
        refine bodyPost_ret (v := .tuple #[.agg #[.slice a0 n0 c0, .slice a1 n1 c1, .slice a2 n2 c2, .slice a3 n3 c3, .slice a4 n4 c4], .int .i64 0, .int .i64 0]) ?_ rfl ?_
        · simp [results, Tryz.results83, go_sem, *]
        · exact HR.out.out (by rw [HR.out.eq, List.drop_of_length_le (by omega)]; rfl) _ _ _ _ _
  · clear hc hv
    have hn1 : inB n 2 5 = false := by simpa using hn
    go_enter Tryz.func83, Tryz.ntmps83
    go_wp2_with (go_at_call 95; refine (many_any _ _).mono ?_; rintro e w' ⟨rfl, rfl⟩)
    refine bodyPost_ret (v := .tuple #[.agg #[.slice none 0 0, .slice none 0 0, .slice none 0 0, .slice none 0 0, .slice none 0 0], .int .i64 0, .int .i64 1]) ?_ rfl ?_
    · simp [results, Tryz.results83, go_sem, *]
    · have hx : sortedP n l = (List.replicate 5 [], 0, 1) := by simp [sortedP, hn1]
      refine ⟨[none, none, none, none, none], _, _, _, _, _, by rw [hx], ?_, ?_⟩
      · rw [hx]; exact nil5 _ _ (by simp; omega)
      · first | exact ((Below.refl _ _).alloc (Nat.le_refl _) _).alloc (by simp) _ | trace_state
end Go.Proofs.YtgjahnomafpnfaaGreatDoor

/- CheckRecords, (*shelf).stock, all. -/
namespace Go.Proofs.YtgjahnomafpnfaaGreatDoor
open Go.RowKit
theorem ret_tup2 {a b a' b' : Value} (h : a = a') (h' : b = b') : Ending.returned (.tuple #[a, b]) = Ending.returned (.tuple #[a', b']) := by rw [h, h']
theorem ret_val {a a' : Value} (h : a = a') : Ending.returned a = Ending.returned a' := by rw [h]
set_option maxHeartbeats 400000 in
set_option maxRecDepth 100000 in
theorem CheckRecords_any (n : Int) (v : Value) (l : List Rec) (w : World) (hv : SlR w v l) (hl : l.length ≤ 100000) :
    Calls Tryz.prog 26 #[.int .i64 n, v] w fun e w' => e = .returned (.tuple #[.int .i64 (sortedP n l).2.1, .int .i64 (sortedP n l).2.2]) ∧ Below w.heap.size w w' := by
  have hsh : ∃ a c, v = .slice a l.length c := by
    obtain ⟨ao, cap, h, _⟩ := hv.open
    exact ⟨ao, cap, h⟩
  obtain ⟨a, c, rfl⟩ := hsh
  go_enter Tryz.func26, Tryz.ntmps26
  go_wp2_with fail
  refine (sorted_any n _ l _ hv hl).mono ?_
  rintro e w' ⟨rs, v0, v1, v2, v3, v4, rfl, h5, hb⟩
  obtain ⟨⟨a0, n0, c0, rfl⟩, ⟨a1, n1, c1, rfl⟩, ⟨a2, n2, c2, rfl⟩, ⟨a3, n3, c3, rfl⟩, ⟨a4, n4, c4, rfl⟩⟩ := h5.shapes
  clear h5
  go_wp2_with fail
  go_ret2
  exact ⟨ret_tup2 rfl rfl, hb.alloc hb.size _⟩
/-- How many records there are of each station. -/
def stockL (rows : List (List Rec)) : List Value := rows.map fun r => .int .i64 (r.length : Int)
/-- The cells of the stock that is being made, behind k rounds. -/
def part (k j : Nat) (n : Int) : Value := .int .i64 (if j < k then n else 0)
structure StRel (w wr : World) (ns : Nat → Nat) (k : Nat) : Prop where
  below : Below w.heap.size w wr
  size : wr.heap.size = w.heap.size + 2
  cells : ∀ j, j < 5 → wr.cell? ⟨w.heap.size + 1, j, none⟩ = some (part k j (ns j))
  free : ∀ j, wr.frozen? ⟨w.heap.size + 1, j, none⟩ = false
  res : ∀ j, j < 5 → wr.cell? ⟨w.heap.size, j, none⟩ = some (.int .i64 0) ∧ wr.frozen? ⟨w.heap.size, j, none⟩ = false
def zeroS : Obj := .cells #[.int .i64 0, .int .i64 0, .int .i64 0, .int .i64 0, .int .i64 0] 26
theorem zeroS_get {j : Nat} (hj : j < 5) : (#[.int .i64 0, .int .i64 0, .int .i64 0, .int .i64 0, .int .i64 0] : Array Value)[j]? = some (.int .i64 0) := by
  match j, hj with | 0, _ | 1, _ | 2, _ | 3, _ | 4, _ => rfl
theorem stRel_start (w : World) (ns : Nat → Nat) : StRel w ((w.alloc zeroS).alloc zeroS) ns 0 := by
  refine ⟨((Below.refl _ _).alloc (Nat.le_refl _) _).alloc (by simp) _, by simp, fun j hj => ?_, fun j => World.frozen?_alloc_at _ _ _ _ (by simp), fun j hj => ⟨?_, ?_⟩⟩
  · rw [show ((w.alloc zeroS).alloc zeroS).cell? ⟨w.heap.size + 1, j, none⟩ = _ from World.cell?_alloc_at _ _ _ _ (by simp)]
    exact zeroS_get hj
  · rw [World.cell?_alloc_past _ _ _ (by simp), show (w.alloc zeroS).cell? ⟨w.heap.size, j, none⟩ = _ from World.cell?_alloc_new w _ _ j]
    exact zeroS_get hj
  · rw [World.frozen?_alloc_past _ _ _ (by simp)]; exact World.frozen?_alloc_new w _ _ j
theorem StRel.step {w wr : World} {ns : Nat → Nat} {k : Nat} (h : StRel w wr ns k) (hk : k < 5) (m : Nat) (v : Int) (hv : v = (ns k : Int)) : StRel w ((wr.drewN m).setCell ⟨w.heap.size + 1, k, none⟩ (.int .i64 v)) ns (k + 1) := by
  subst hv
  refine ⟨(below_drewN h.below m).setCell (by simp) _, by simpa using h.size, fun j hj => ?_, fun j => by rw [World.frozen?_setCell]; exact h.free j, fun j hj => ⟨?_, by rw [World.frozen?_setCell]; exact (h.res j hj).2⟩⟩
  · by_cases e : j = k
    · subst e
      rw [World.cell?_setCell_same _ _ _ (u := part j j (ns j)) (by exact h.cells j hj)]
      simp [part]
    · rw [World.cell?_setCell_other _ _ _ _ (fun e' => e (by have := congrArg Addr.off e'; exact this.symm))]
      rw [show (wr.drewN m).cell? _ = _ from h.cells j hj]
      simp only [part]
      by_cases h1 : j < k
      · rw [if_pos h1, if_pos (by omega)]
      · rw [if_neg h1, if_neg (by omega)]
  · rw [World.cell?_setCell_far _ _ _ _ (by simp)]
    exact (h.res j hj).1
set_option maxHeartbeats 800000 in
set_option maxRecDepth 100000 in
theorem stock_any (B o base : Nat) (rs : List (Option Nat)) (vs : List Value) (r0 r1 r2 r3 r4 : List Rec) (w : World) (h : ShelfX w base B o rs vs [r0, r1, r2, r3, r4]) :
    Calls Tryz.prog 99 #[.pointer (some ⟨B, o, none⟩)] w fun e w' => e = .returned (.agg #[.int .i64 r0.length, .int .i64 r1.length, .int .i64 r2.length, .int .i64 r3.length, .int .i64 r4.length]) ∧ Below w.heap.size w w' := by
  obtain ⟨v0, v1, v2, v3, v4, rfl⟩ := len5 h.five.lv
  obtain ⟨q0, q1, q2, q3, q4, rfl⟩ := len5 h.five.ls
  obtain ⟨a0, c0, rfl⟩ := (h.five.row 0 _ _ _ rfl rfl rfl).shape
  obtain ⟨a1, c1, rfl⟩ := (h.five.row 1 _ _ _ rfl rfl rfl).shape
  obtain ⟨a2, c2, rfl⟩ := (h.five.row 2 _ _ _ rfl rfl rfl).shape
  obtain ⟨a3, c3, rfl⟩ := (h.five.row 3 _ _ _ rfl rfl rfl).shape
  obtain ⟨a4, c4, rfl⟩ := (h.five.row 4 _ _ _ rfl rfl rfl).shape
  have hc0 := h.cell 0 _ rfl
  have hc1 := h.cell 1 _ rfl
  have hc2 := h.cell 2 _ rfl
  have hc3 := h.cell 3 _ rfl
  have hc4 := h.cell 4 _ rfl
  have hB := h.lt
  clear h
  simp only [Nat.add_zero] at hc0
  generalize r0.length = n0 at *
  generalize r1.length = n1 at *
  generalize r2.length = n2 at *
  generalize r3.length = n3 at *
  generalize r4.length = n4 at *
  go_enter Tryz.func99, Tryz.ntmps99
  have bcc := fun wr (hb : Below w.heap.size w wr) => bcell hb
  go_wp2
  go_loopw [8] (fun i wr => ∃ k : Nat, k ≤ 5 ∧ i = .int .i64 k ∧ StRel w wr (fun j => [n0, n1, n2, n3, n4].getD j 0) k) (fun i _ => 5 - (intOf i).toNat)
  case atStart => exact ⟨0, by omega, rfl, stRel_start w _⟩
  case round =>
    obtain ⟨k, hk, rfl, hR⟩ := hrel
    have HR := Lib.hid hR
    clear hR
    have bc := (bcell HR.out.below).1
    have e0 := (bc B o hB).trans hc0
    have e1 := (bc B (o + 1) hB).trans hc1
    have e2 := (bc B (o + 2) hB).trans hc2
    have e3 := (bc B (o + 3) hB).trans hc3
    have e4 := (bc B (o + 4) hB).trans hc4
    clear bc
    have s0 := HR.out.cells 0 (by omega)
    have s1 := HR.out.cells 1 (by omega)
    have s2 := HR.out.cells 2 (by omega)
    have s3 := HR.out.cells 3 (by omega)
    have s4 := HR.out.cells 4 (by omega)
    have f0 := HR.out.free 0
    have f1 := HR.out.free 1
    have f2 := HR.out.free 2
    have f3 := HR.out.free 3
    have f4 := HR.out.free 4
    simp only [List.getD_cons_zero, List.getD_cons_succ] at s0 s1 s2 s3 s4
    rcases (by omega : k = 0 ∨ k = 1 ∨ k = 2 ∨ k = 3 ∨ k = 4 ∨ k = 5) with rfl | rfl | rfl | rfl | rfl | rfl
    case inr.inr.inr.inr.inr =>
      have r0 := HR.out.res 0 (by omega)
      have r1 := HR.out.res 1 (by omega)
      have r2 := HR.out.res 2 (by omega)
      have r3 := HR.out.res 3 (by omega)
      have r4 := HR.out.res 4 (by omega)
      simp only [part] at s0 s1 s2 s3 s4
      simp only [Nat.reduceLT, if_true] at s0 s1 s2 s3 s4
      go_wp2
      refine bodyPost_ret (v := .agg #[.int .i64 n0, .int .i64 n1, .int .i64 n2, .int .i64 n3, .int .i64 n4]) ?_ rfl ⟨rfl, ?_⟩
      · simp [results, Tryz.results99, go_sem, *]
      · exact ((((HR.out.below.setCell (Nat.le_refl _) _).setCell (Nat.le_refl _) _).setCell (Nat.le_refl _) _).setCell (Nat.le_refl _) _).setCell (Nat.le_refl _) _
    all_goals
      go_wp2
      go_quiet (fail)
      go_wp2
      go_roundw
      case rel => exact ⟨_, by omega, by go_num, HR.out.step (by omega) _ _ rfl⟩
      case measure => simp [intOf]
/-- The rows of a shelf, laid out. -/
def stockV (rows : List (List Rec)) : Value := .agg #[.int .i64 (rows.getD 0 []).length, .int .i64 (rows.getD 1 []).length, .int .i64 (rows.getD 2 []).length, .int .i64 (rows.getD 3 []).length, .int .i64 (rows.getD 4 []).length]
theorem stock_rows (B o base : Nat) (rs : List (Option Nat)) (vs : List Value) (rows : List (List Rec)) (w : World) (h : ShelfX w base B o rs vs rows) :
    Calls Tryz.prog 99 #[.pointer (some ⟨B, o, none⟩)] w fun e w' => e = .returned (stockV rows) ∧ Below w.heap.size w w' := by
  obtain ⟨r0, r1, r2, r3, r4, rfl⟩ := len5 h.five.lr
  exact stock_any B o base rs vs r0 r1 r2 r3 r4 w h
end Go.Proofs.YtgjahnomafpnfaaGreatDoor

/- slices.Grow at nil, slices.Concat at five slices of records, (*shelf).all. -/
namespace Go.Proofs.YtgjahnomafpnfaaGreatDoor
open Go.RowKit
/-- A row of records of the owner's own. -/
abbrev OwnR (w : World) (base : Nat) (v : Value) (xs : List Rec) : Prop := w.ownsRow base 49 4 v xs.length (flat xs)
theorem OwnR.shape {w : World} {base : Nat} {v : Value} {xs : List Rec} (h : OwnR w base v xs) : ∃ a c, v = .slice a xs.length c := by
  rcases h.2 with ⟨h1, h2⟩ | ⟨g, cap, cur, h1, _⟩
  · exact ⟨none, 0, by rw [h1, h2]⟩
  · exact ⟨_, cap, h1⟩
theorem OwnR.shape3 {w : World} {base : Nat} {v : Value} {xs : List Rec} (h : OwnR w base v xs) : ∃ a m c, v = .slice a m c := by
  obtain ⟨a, c, e⟩ := OwnR.shape h
  exact ⟨a, _, c, e⟩
theorem OwnR.slR {w : World} {base : Nat} {v : Value} {xs : List Rec} (h : OwnR w base v xs) : SlR w v xs := by
  rcases h.2 with ⟨h1, h2⟩ | ⟨g, cap, cur, h1, h2, h3, h4, h5, h6⟩
  · exact .inl ⟨h1, List.eq_nil_of_length_eq_zero h2⟩
  · exact .inr ⟨g, 0, cap, h1, h4, h5, (Array.getElem?_eq_some_iff.1 h3).1, fun j u hu => by
      have := h.cells (g := g) (by rw [h1]; rfl) j u hu
      rw [addr_add] at this
      simpa using this⟩
theorem RowR.slR {w : World} {base : Nat} {r : Option Nat} {v : Value} {xs : List Rec} (h : RowR w base r v xs) (hb : base ≤ w.heap.size) (hn : xs.length ≤ 1000000) : SlR w v xs := by
  rcases h with ⟨h, _⟩ | ⟨⟨g, h1, h2, h3⟩, _⟩
  · exact OwnR.slR h
  · exact .inr ⟨g, 0, _, h1, Nat.le_refl _, by unfold maxLen; omega, by omega, fun j u hu => by simpa using h3 j u hu⟩
theorem SlR.shape {w : World} {v : Value} {l : List Rec} (h : SlR w v l) : ∃ a c, v = .slice a l.length c := by
  obtain ⟨a, c, h, _⟩ := h.open
  exact ⟨a, c, h⟩
/-- A slice of records appended to a row of one's own. -/
theorem app_sl (w : World) (base : Nat) (v : Value) (xs : List Rec) (h : OwnR w base v xs) (y : Value) (ys : List Rec) (hy : SlR w y ys) (hn : xs.length + ys.length ≤ 1000000) (hb : base ≤ w.heap.size) (ty : TypeId) :
    ∃ v' w', (Builtin.append_ #[23, 23] ty #[v, y]).run Tryz.prog w = .ok v' w' ∧ OwnR w' base v' (xs ++ ys) ∧ ExtApp v.ownBlock (xs.length * 4) (flat ys) w w' := by
  obtain ⟨i0, hi0, hz0, hz1, hz2⟩ := info_parts info49
  rcases hy with ⟨rfl, rfl⟩ | ⟨b, off, c, rfl, hc1, hc2, hc3, hc4⟩
  · obtain ⟨a, c, hv⟩ := OwnR.shape h
    have hle : xs.length ≤ c := by
      rcases h.2 with ⟨h1, h2⟩ | ⟨g, cap, cur, h1, _, _, h4, _⟩
      · omega
      · rw [h1] at hv; cases hv; exact h4
    subst hv
    refine ⟨_, w, run_append_nothing (P := Tryz.prog) w 23 23 ty 49 i0 Tryz.underlying23 hi0 a xs.length c hle (.slice none 0 0) (Src.ofNil _ Tryz.underlying23 0), by simpa using h, ExtApp.refl w⟩
  · by_cases h0 : ys = []
    · subst h0
      obtain ⟨a, c', hv⟩ := OwnR.shape h
      have hle : xs.length ≤ c' := by
        rcases h.2 with ⟨h1, h2⟩ | ⟨g, cap, cur, h1, _, _, h4, _⟩
        · omega
        · rw [h1] at hv; cases hv; exact h4
      subst hv
      exact ⟨_, w, run_append_nothing (P := Tryz.prog) w 23 23 ty 49 i0 Tryz.underlying23 hi0 a xs.length c' hle _ (Src.ofSlice _ Tryz.underlying23 ⟨b, off, none⟩ 0 c [] (by simp) (by simp) (by simp)), by simpa using h, ExtApp.refl w⟩
    · have hpos : 0 < ys.length := List.length_pos_iff.2 h0
      have hcells : ∀ j u, (flat ys)[j]? = some u → w.cell? ((⟨b, off, none⟩ : Addr).add j) = some u := by
        intro j u hu
        have : (⟨b, off, none⟩ : Addr).add j = ⟨b, off + j, none⟩ := by unfold Addr.add; split <;> simp_all
        rw [this]; exact hc4 j u hu
      obtain ⟨gg, cap, w', h1, h2, h3, h4, h5⟩ := run_append_app (P := Tryz.prog) w base 23 ty 49 i0 _ 4 40 Tryz.underlying23 hi0 hz0 hz1 hz2 rfl (by omega) v xs.length (flat xs) h ⟨b, off, none⟩ ys.length c (flat ys) (flat_length ys) hcells (flat_oneCell ys) hpos (by unfold maxLen; omega) (by omega) hb
      exact ⟨_, w', h1, by unfold OwnR; rw [List.length_append, flat_append]; exact h2, h3⟩
theorem OwnR.base {w : World} {base : Nat} {v : Value} {xs : List Rec} (h : OwnR w base v xs) : ∀ g, v.ownBlock = some g → base ≤ g := fun g hg => (h.lt g hg).1
theorem wpList_appS {ops : Array Oper} {rest : List Oper} {o : Oper} {a : Act} {w : World} {Q : Exit → Act → World → Prop} (hgd : o.guard = none) (s x : Operand)
    (ho : o.op = .call { callee := .builtin .append, args := #[s, x], argTypes := #[23, 23] })
    (base : Nat) (v y : Value) (xs ys : List Rec) (h : OwnR w base v xs) (hs : a.eval s = v) (hx : a.eval x = y) (hy : SlR w y ys) (hn : xs.length + ys.length ≤ 1000000) (hb : base ≤ w.heap.size)
    (hK : ∀ v' w', OwnR w' base v' (xs ++ ys) → ExtApp v.ownBlock (xs.length * 4) (flat ys) w w' → Below base w w' → wpList Tryz.prog ops Q rest (a.put o.dst v') w') :
    wpList Tryz.prog ops Q (o :: rest) a w := by
  obtain ⟨v', w', h1, h2, h3⟩ := app_sl w base v xs h y ys hy hn hb o.type
  exact Lib.wpList_append_run w hgd s x 23 23 ho v y hs hx v' w' h1 (hK v' w' h2 h3 (h3.below hb (OwnR.base h)))
set_option maxHeartbeats 400000 in
set_option maxRecDepth 100000 in
theorem Grow_nil (n : Nat) (hn : n ≤ 1000000) (w : World) :
    Calls Tryz.prog 165 #[.slice none 0 0, .int .i64 n] w fun e w' => ∃ v, e = .returned v ∧ OwnR w' w.heap.size v [] ∧ Below w.heap.size w w' := by
  obtain ⟨i0, hi0, hz0, hz1, hz2⟩ := info_parts info49
  have h0 : ¬ ((n : Int) < 0) := by omega
  have hw : IntKind.i64.wrap (n : Int) = n := IntWalk.i64_in _ (by omega)
  rcases Nat.eq_zero_or_pos n with rfl | hp
  · go_enter Tryz.func165, Tryz.ntmps165
    go_wp2
    go_ret
    exact ⟨_, rfl, World.ownsRow_nil _ _ _ _, Below.refl _ _⟩
  · have hp' : (0 : Int) < n := by omega
    have hby : n * i0.bytes ≤ 281474976710656 := by rw [hz2]; omega
    have hsz : 0 < i0.size := by omega
    clear hz1 hz2
    go_enter Tryz.func165, Tryz.ntmps165
    have hq : Tryz.t49.bytes = 40 := by kernel_rfl
    have hzz := nextslicecap_zero hp
    have hge := grownCap_ge w n 0 49
    have hcm : grownCap w n 0 49 ≤ maxLen := grownCap_le_maxLen w _ _ _ (by unfold maxLen; omega)
    have hgc : grownCap w n 0 49 = (Question.appendCap n 0 49).cut (w.tape w.drawn (Question.appendCap n 0 49)) := rfl
    go_wp2
    rw [hgc] at hge hcm
    generalize (Question.appendCap n 0 49).cut (w.tape w.drawn (Question.appendCap n 0 49)) = gc at hge hcm ⊢
    go_ret
    refine ⟨_, rfl, ?_, ?_⟩
    · refine ⟨rfl, .inr ⟨w.heap.size, gc, _, rfl, Nat.le_refl _, heap_alloc_new w.drew _, by simp, hcm, ?_, by simp [flat]⟩⟩
      simp only [Array.size_append, size_zeroCells]
      have : (#[.int .i64 0, .int .i64 0, .int .i64 0, .string ⟨#[]⟩] : Array Value).size = 4 := rfl
      rw [this]; omega
    · exact ((Ext.drew w).trans (Ext.alloc _ _))
set_option maxHeartbeats 800000 in
set_option maxRecDepth 100000 in
/-- The book in one row: the rows behind each other, in new memory. -/
theorem Concat_five (B o : Nat) (v0 v1 v2 v3 v4 : Value) (r0 r1 r2 r3 r4 : List Rec) (w : World) (hB : B < w.heap.size)
    (h0 : SlR w v0 r0) (h1 : SlR w v1 r1) (h2 : SlR w v2 r2) (h3 : SlR w v3 r3) (h4 : SlR w v4 r4)
    (hc : ∀ (k : Nat) v, [v0, v1, v2, v3, v4][k]? = some v → w.cell? ⟨B, o + k, none⟩ = some v)
    (hn : r0.length + r1.length + r2.length + r3.length + r4.length ≤ 1000000) :
    Calls Tryz.prog 132 #[.slice (some ⟨B, o, none⟩) 5 5] w fun e w' => ∃ v, e = .returned v ∧ OwnR w' w.heap.size v ([r0, r1, r2, r3, r4].flatten) ∧ Below w.heap.size w w' := by
  obtain ⟨a0, c0, e0⟩ := h0.shape
  obtain ⟨a1, c1, e1⟩ := h1.shape
  obtain ⟨a2, c2, e2⟩ := h2.shape
  obtain ⟨a3, c3, e3⟩ := h3.shape
  obtain ⟨a4, c4, e4⟩ := h4.shape
  subst e0 e1 e2 e3 e4
  have k0 := hc 0 _ rfl
  have k1 := hc 1 _ rfl
  have k2 := hc 2 _ rfl
  have k3 := hc 3 _ rfl
  have k4 := hc 4 _ rfl
  clear hc
  simp only [Nat.add_zero] at k0
  have H0 := Lib.hid h0
  have H1 := Lib.hid h1
  have H2 := Lib.hid h2
  have H3 := Lib.hid h3
  have H4 := Lib.hid h4
  clear h0 h1 h2 h3 h4
  go_enter Tryz.func132, Tryz.ntmps132
  go_wp2
  go_loopw [3, 11] (fun s i wr => ∃ k : Nat, k ≤ 5 ∧ i = .int .i64 k ∧ s = .int .i64 ((([r0.length, r1.length, r2.length, r3.length, r4.length] : List Nat).take k).sum : Nat) ∧ w = wr) (fun _ i _ => 5 - (intOf i).toNat)
  case atStart => exact ⟨0, by omega, rfl, rfl, rfl⟩
  case round =>
    obtain ⟨k, hk, rfl, rfl, rfl⟩ := hrel
    rcases (by omega : k = 0 ∨ k = 1 ∨ k = 2 ∨ k = 3 ∨ k = 4 ∨ k = 5) with rfl | rfl | rfl | rfl | rfl | rfl
    all_goals simp only [List.take_succ_cons, List.take_zero, List.sum_cons, List.sum_nil]
    case inr.inr.inr.inr.inr =>
      go_wp2_with fail
      refine (Grow_nil (r0.length + (r1.length + (r2.length + (r3.length + (r4.length + 0))))) (by omega) _).mono ?_
      rintro e w1 ⟨g, rfl, hg, hb⟩
      obtain ⟨ag, cg, rfl⟩ := OwnR.shape hg
      go_wp2
      go_loopw [6, 27] (fun s i wr => ∃ k : Nat, k ≤ 5 ∧ i = .int .i64 k ∧ OwnR wr w.heap.size s (([r0, r1, r2, r3, r4].take k).flatten) ∧ Below w.heap.size w wr) (fun _ i _ => 5 - (intOf i).toNat)
      case atStart => exact ⟨0, by omega, rfl, by simpa using hg, hb⟩
      case round =>
        obtain ⟨k, hk, rfl, hO, hB1⟩ := hrel
        have HO := Lib.hid hO
        obtain ⟨ao, co, rfl⟩ := OwnR.shape hO
        clear hO
        have bc := (bcell hB1).1
        have HE := Lib.hid hB1
        clear hB1
        have d0 := (bc B o hB).trans k0
        have d1 := (bc B (o + 1) hB).trans k1
        have d2 := (bc B (o + 2) hB).trans k2
        have d3 := (bc B (o + 3) hB).trans k3
        have d4 := (bc B (o + 4) hB).trans k4
        clear bc
        rcases (by omega : k = 0 ∨ k = 1 ∨ k = 2 ∨ k = 3 ∨ k = 4 ∨ k = 5) with rfl | rfl | rfl | rfl | rfl | rfl
        case inr.inr.inr.inr.inr =>
          go_wp2
          go_ret
          exact ⟨_, rfl, by simpa using HO.out, HE.out⟩
        · go_wp2_with (first | (at_builtin; refine wpList_appS rfl (.tmp 31) (.tmp 32) rfl w.heap.size _ _ _ r0 HO.out rfl rfl (H0.out.ext HE.out) (by simp; omega) HE.out.size ?_) | go_in)
          intro v' w' k1 k2 k3
          obtain ⟨ap, cp, rfl⟩ := OwnR.shape k1
          go_wp2
          go_roundw
          case rel => exact ⟨1, by omega, by go_num, by simpa using k1, HE.out.trans k3⟩
          case measure => simp [intOf]
        · go_wp2_with (first | (at_builtin; refine wpList_appS rfl (.tmp 31) (.tmp 32) rfl w.heap.size _ _ _ r1 HO.out rfl rfl (H1.out.ext HE.out) (by simp; omega) HE.out.size ?_) | go_in)
          intro v' w' k1 k2 k3
          obtain ⟨ap, cp, rfl⟩ := OwnR.shape k1
          go_wp2
          go_roundw
          case rel => exact ⟨2, by omega, by go_num, by simpa using k1, HE.out.trans k3⟩
          case measure => simp [intOf]
        · go_wp2_with (first | (at_builtin; refine wpList_appS rfl (.tmp 31) (.tmp 32) rfl w.heap.size _ _ _ r2 HO.out rfl rfl (H2.out.ext HE.out) (by simp; omega) HE.out.size ?_) | go_in)
          intro v' w' k1 k2 k3
          obtain ⟨ap, cp, rfl⟩ := OwnR.shape k1
          go_wp2
          go_roundw
          case rel => exact ⟨3, by omega, by go_num, by simpa using k1, HE.out.trans k3⟩
          case measure => simp [intOf]
        · go_wp2_with (first | (at_builtin; refine wpList_appS rfl (.tmp 31) (.tmp 32) rfl w.heap.size _ _ _ r3 HO.out rfl rfl (H3.out.ext HE.out) (by simp; omega) HE.out.size ?_) | go_in)
          intro v' w' k1 k2 k3
          obtain ⟨ap, cp, rfl⟩ := OwnR.shape k1
          go_wp2
          go_roundw
          case rel => exact ⟨4, by omega, by go_num, by simpa using k1, HE.out.trans k3⟩
          case measure => simp [intOf]
        · go_wp2_with (first | (at_builtin; refine wpList_appS rfl (.tmp 31) (.tmp 32) rfl w.heap.size _ _ _ r4 HO.out rfl rfl (H4.out.ext HE.out) (by simp; omega) HE.out.size ?_) | go_in)
          intro v' w' k1 k2 k3
          obtain ⟨ap, cp, rfl⟩ := OwnR.shape k1
          go_wp2
          go_roundw
          case rel => exact ⟨5, by omega, by go_num, by simpa using k1, HE.out.trans k3⟩
          case measure => simp [intOf]
    all_goals
      go_wp2
      go_roundw
      case rel => first | exact ⟨1, by omega, by go_num, by go_num, trivial⟩ | exact ⟨2, by omega, by go_num, by go_num, trivial⟩ | exact ⟨3, by omega, by go_num, by go_num, trivial⟩ | exact ⟨4, by omega, by go_num, by go_num, trivial⟩ | exact ⟨5, by omega, by go_num, by go_num, trivial⟩
      case measure => simp [intOf]
end Go.Proofs.YtgjahnomafpnfaaGreatDoor

/- (*shelf).all, (*Station).Records, .Have; slices.Clone. -/
namespace Go.Proofs.YtgjahnomafpnfaaGreatDoor
open Go.RowKit
set_option maxHeartbeats 400000 in
set_option maxRecDepth 100000 in
theorem all_any (B o base : Nat) (rs : List (Option Nat)) (vs : List Value) (rows : List (List Rec)) (w : World) (h : ShelfX w base B o rs vs rows) (hn : rows.flatten.length ≤ 1000000) :
    Calls Tryz.prog 72 #[.pointer (some ⟨B, o, none⟩)] w fun e w' => ∃ v, e = .returned v ∧ OwnR w' w.heap.size v rows.flatten ∧ Below w.heap.size w w' := by
  obtain ⟨r0, r1, r2, r3, r4, rfl⟩ := len5 h.five.lr
  obtain ⟨v0, v1, v2, v3, v4, rfl⟩ := len5 h.five.lv
  obtain ⟨q0, q1, q2, q3, q4, rfl⟩ := len5 h.five.ls
  simp only [List.flatten_cons, List.flatten_nil, List.length_append, List.length_nil, Nat.add_zero] at hn
  have g0 := (h.five.row 0 _ _ _ rfl rfl rfl).slR h.five.le (by omega)
  have g1 := (h.five.row 1 _ _ _ rfl rfl rfl).slR h.five.le (by omega)
  have g2 := (h.five.row 2 _ _ _ rfl rfl rfl).slR h.five.le (by omega)
  have g3 := (h.five.row 3 _ _ _ rfl rfl rfl).slR h.five.le (by omega)
  have g4 := (h.five.row 4 _ _ _ rfl rfl rfl).slR h.five.le (by omega)
  have hc := h.cell
  have hB := h.lt
  clear h
  have hcc := Lib.hid (Concat_five B o v0 v1 v2 v3 v4 r0 r1 r2 r3 r4 w hB g0 g1 g2 g3 g4 hc (by omega))
  clear g0 g1 g2 g3 g4 hc
  go_enter Tryz.func72, Tryz.ntmps72
  go_wp2_with fail
  refine hcc.out.mono ?_
  rintro e w1 ⟨v, rfl, hO, hb⟩
  obtain ⟨a, m, c, rfl⟩ := OwnR.shape3 hO
  go_wp2
  go_ret
  exact ⟨_, rfl, hO, hb⟩
/-- A station in memory: its own cells (the disk's place, its number, how many there are, its shelf, its next sector) and its rows. -/
structure StX (w : World) (base B : Nat) (d : Option Addr) (me n next : Int) (rs : List (Option Nat)) (vs : List Value) (rows : List (List Rec)) : Prop where
  books : ShelfX w base B 3 rs vs rows
  disk : w.cell? ⟨B, 0, none⟩ = some (.pointer d)
  cme : w.cell? ⟨B, 1, none⟩ = some (.int .i64 me)
  cn : w.cell? ⟨B, 2, none⟩ = some (.int .i64 n)
  cnext : w.cell? ⟨B, 8, none⟩ = some (.int .i64 next)
  fnext : w.frozen? ⟨B, 8, none⟩ = false
theorem StX.ext {w w' : World} {base B : Nat} {d : Option Addr} {me n next : Int} {rs : List (Option Nat)} {vs : List Value} {rows : List (List Rec)} (h : StX w base B d me n next rs vs rows) (hE : Ext w w') : StX w' base B d me n next rs vs rows :=
  ⟨h.books.ext hE, hE.keep h.disk, hE.keep h.cme, hE.keep h.cn, hE.keep h.cnext, (hE.frozen (p := ⟨B, 8, none⟩) h.books.lt).trans h.fnext⟩
set_option maxHeartbeats 400000 in
set_option maxRecDepth 100000 in
theorem Records_any (B base : Nat) (d : Option Addr) (me n next : Int) (rs : List (Option Nat)) (vs : List Value) (rows : List (List Rec)) (w : World) (h : StX w base B d me n next rs vs rows) (hn : rows.flatten.length ≤ 1000000) :
    Calls Tryz.prog 20 #[.pointer (some ⟨B, 0, none⟩)] w fun e w' => ∃ v, e = .returned v ∧ OwnR w' w.heap.size v rows.flatten ∧ Below w.heap.size w w' := by
  have hcc := Lib.hid (all_any B 3 base rs vs rows w h.books hn)
  clear h
  go_enter Tryz.func20, Tryz.ntmps20
  go_wp2_with fail
  refine hcc.out.mono ?_
  rintro e w1 ⟨v, rfl, hO, hb⟩
  obtain ⟨a, m, c, rfl⟩ := OwnR.shape3 hO
  go_wp2
  go_ret
  exact ⟨_, rfl, hO, hb⟩
set_option maxHeartbeats 400000 in
set_option maxRecDepth 100000 in
theorem Records_nil (w : World) : Calls Tryz.prog 20 #[.pointer none] w fun e w' => e = .returned (.slice none 0 0) ∧ w' = w := by
  go_enter Tryz.func20, Tryz.ntmps20
  go_wp2
  go_ret
  exact ⟨rfl, rfl⟩
set_option maxHeartbeats 400000 in
set_option maxRecDepth 100000 in
theorem Have_any (B base : Nat) (d : Option Addr) (me n next : Int) (rs : List (Option Nat)) (vs : List Value) (rows : List (List Rec)) (w : World) (h : StX w base B d me n next rs vs rows) :
    Calls Tryz.prog 43 #[.pointer (some ⟨B, 0, none⟩)] w fun e w' => e = .returned (stockV rows) ∧ Below w.heap.size w w' := by
  obtain ⟨r0, r1, r2, r3, r4, rfl⟩ := len5 h.books.five.lr
  go_enter Tryz.func43, Tryz.ntmps43
  go_wp2_with fail
  refine (stock_rows B 3 base rs vs _ _ (h.books.ext (Ext.alloc _ _))).mono ?_
  rintro e w1 ⟨rfl, hb⟩
  have hb1 := (bcell hb).1 w.heap.size
  have hb2 := (bcell hb).2 w.heap.size
  have hz : w.heap.size < (w.alloc zeroS).heap.size := by simp
  have c0 := (hb1 0 hz).trans ((World.cell?_alloc_new w _ _ 0).trans (zeroS_get (by omega)))
  have c1 := (hb1 1 hz).trans ((World.cell?_alloc_new w _ _ 1).trans (zeroS_get (by omega)))
  have c2 := (hb1 2 hz).trans ((World.cell?_alloc_new w _ _ 2).trans (zeroS_get (by omega)))
  have c3 := (hb1 3 hz).trans ((World.cell?_alloc_new w _ _ 3).trans (zeroS_get (by omega)))
  have c4 := (hb1 4 hz).trans ((World.cell?_alloc_new w _ _ 4).trans (zeroS_get (by omega)))
  have f0 := (hb2 0 hz).trans (World.frozen?_alloc_new w _ _ 0)
  have f1 := (hb2 1 hz).trans (World.frozen?_alloc_new w _ _ 1)
  have f2 := (hb2 2 hz).trans (World.frozen?_alloc_new w _ _ 2)
  have f3 := (hb2 3 hz).trans (World.frozen?_alloc_new w _ _ 3)
  have f4 := (hb2 4 hz).trans (World.frozen?_alloc_new w _ _ 4)
  have HB := Lib.hid ((Below.refl w.heap.size w).alloc (Nat.le_refl _) zeroS)
  have HB2 := Lib.hid hb
  have HZ := Lib.hid hz
  clear hb hb1 hb2 hz h
  simp only [stockV, List.getD_cons_zero, List.getD_cons_succ]
  go_wp2
  refine bodyPost_ret (v := .agg #[.int .i64 r0.length, .int .i64 r1.length, .int .i64 r2.length, .int .i64 r3.length, .int .i64 r4.length]) ?_ rfl ⟨rfl, ?_⟩
  · simp [results, Tryz.results43, go_sem, *]
  · exact (((((HB.out.trans (HB2.out.mono (Nat.le_of_lt HZ.out))).setCell (Nat.le_refl _) _).setCell (Nat.le_refl _) _).setCell (Nat.le_refl _) _).setCell (Nat.le_refl _) _).setCell (Nat.le_refl _) _
set_option maxHeartbeats 400000 in
set_option maxRecDepth 100000 in
theorem Have_nil (w : World) : Calls Tryz.prog 43 #[.pointer none] w fun e w' => e = .returned (.agg #[.int .i64 0, .int .i64 0, .int .i64 0, .int .i64 0, .int .i64 0]) ∧ Below w.heap.size w w' := by
  have c0 := (World.cell?_alloc_new w _ 26 0).trans (zeroS_get (j := 0) (by omega))
  have c1 := (World.cell?_alloc_new w _ 26 1).trans (zeroS_get (j := 1) (by omega))
  have c2 := (World.cell?_alloc_new w _ 26 2).trans (zeroS_get (j := 2) (by omega))
  have c3 := (World.cell?_alloc_new w _ 26 3).trans (zeroS_get (j := 3) (by omega))
  have c4 := (World.cell?_alloc_new w _ 26 4).trans (zeroS_get (j := 4) (by omega))
  have f0 := (World.frozen?_alloc_new w (#[.int .i64 0, .int .i64 0, .int .i64 0, .int .i64 0, .int .i64 0] : Array Value) 26 0)
  have f1 := (World.frozen?_alloc_new w (#[.int .i64 0, .int .i64 0, .int .i64 0, .int .i64 0, .int .i64 0] : Array Value) 26 1)
  have f2 := (World.frozen?_alloc_new w (#[.int .i64 0, .int .i64 0, .int .i64 0, .int .i64 0, .int .i64 0] : Array Value) 26 2)
  have f3 := (World.frozen?_alloc_new w (#[.int .i64 0, .int .i64 0, .int .i64 0, .int .i64 0, .int .i64 0] : Array Value) 26 3)
  have f4 := (World.frozen?_alloc_new w (#[.int .i64 0, .int .i64 0, .int .i64 0, .int .i64 0, .int .i64 0] : Array Value) 26 4)
  have HB := Lib.hid ((Below.refl w.heap.size w).alloc (Nat.le_refl _) zeroS)
  go_enter Tryz.func43, Tryz.ntmps43
  go_wp2
  refine bodyPost_ret (v := .agg #[.int .i64 0, .int .i64 0, .int .i64 0, .int .i64 0, .int .i64 0]) ?_ rfl ⟨rfl, ?_⟩
  · simp [results, Tryz.results43, go_sem, *]
  · exact HB.out
end Go.Proofs.YtgjahnomafpnfaaGreatDoor

/- slices.Clone of records. -/
namespace Go.Proofs.YtgjahnomafpnfaaGreatDoor
open Go.RowKit
/-- A slice of records in blocks from base on, that can be written. -/
def SlW (w : World) (base : Nat) (v : Value) (xs : List Rec) : Prop :=
  (v = .slice none 0 0 ∧ xs = []) ∨ ∃ g cap, v = .slice (some ⟨g, 0, none⟩) xs.length cap ∧ base ≤ g ∧ xs.length ≤ cap ∧ cap ≤ maxLen ∧ g < w.heap.size ∧ (∀ j u, (flat xs)[j]? = some u → w.cell? ⟨g, j, none⟩ = some u) ∧ ∀ j, j < xs.length * 4 → w.frozen? ⟨g, j, none⟩ = false
theorem SlW.slR {w : World} {base : Nat} {v : Value} {xs : List Rec} (h : SlW w base v xs) : SlR w v xs := by
  rcases h with h | ⟨g, cap, h1, h2, h3, h4, h5, h6, _⟩
  · exact .inl h
  · exact .inr ⟨g, 0, cap, h1, h3, h4, h5, fun j u hu => by simpa using h6 j u hu⟩
theorem SlW.shape3 {w : World} {base : Nat} {v : Value} {xs : List Rec} (h : SlW w base v xs) : ∃ a m c, v = .slice a m c := by
  obtain ⟨a, c, e⟩ := h.slR.shape
  exact ⟨a, _, c, e⟩
theorem SlW.ext {w w' : World} {base : Nat} {v : Value} {xs : List Rec} (h : SlW w base v xs) (hE : Ext w w') : SlW w' base v xs := by
  rcases h with h | ⟨g, cap, h1, h2, h3, h4, h5, h6, h7⟩
  · exact .inl h
  · exact .inr ⟨g, cap, h1, h2, h3, h4, Nat.lt_of_lt_of_le h5 hE.size, fun j u hu => hE.keep (h6 j u hu), fun j hj => (hE.frozen (p := ⟨g, j, none⟩) h5).trans (h7 j hj)⟩
theorem OwnR.slW {w : World} {base : Nat} {v : Value} {xs : List Rec} (h : OwnR w base v xs) : SlW w base v xs := by
  rcases h.2 with ⟨h1, h2⟩ | ⟨g, cap, cur, h1, h2, h3, h4, h5, h6, h7⟩
  · exact .inl ⟨h1, List.eq_nil_of_length_eq_zero h2⟩
  · refine .inr ⟨g, cap, h1, h2, h4, h5, (Array.getElem?_eq_some_iff.1 h3).1, fun j u hu => ?_, fun j hj => ?_⟩
    · have := h.cells (g := g) (by rw [h1]; rfl) j u hu
      rwa [addr_add] at this
    · simp [World.frozen?, h3]
theorem q23 (w : World) (a : Option Addr) (n c n' c' : Nat) : (binOp .eql 23 (.slice a n c) (.slice none n' c')).run Tryz.prog w = .ok (.bool a.isNone) w := Lib.run_eql_slice_nil w _ _ a n c n' c' Tryz.underlying23
set_option maxHeartbeats 400000 in
set_option maxRecDepth 100000 in
theorem Clone_any (v : Value) (xs : List Rec) (w : World) (h : SlR w v xs) (hn : xs.length ≤ 1000000) :
    Calls Tryz.prog 46 #[v] w fun e w' => ∃ v', e = .returned v' ∧ OwnR w' w.heap.size v' xs ∧ Below w.heap.size w w' := by
  have q := q23
  obtain ⟨a, c, e⟩ := h.shape
  cases a with
  | none =>
    have hx : xs = [] := by
      rcases h with ⟨_, h2⟩ | ⟨b, off, cap, h2, _⟩
      · exact h2
      · rw [h2] at e; cases e
    subst hx e
    go_enter Tryz.func46, Tryz.ntmps46
    go_wp2
    go_ret
    exact ⟨_, rfl, World.ownsRow_nil _ _ _ _, Below.refl _ _⟩
  | some a =>
    subst e
    have HS := Lib.hid h
    clear h
    go_enter Tryz.func46, Tryz.ntmps46
    go_wp2_with (first | (at_builtin; refine wpList_appS rfl (.tmp 5) (.tmp 6) rfl w.heap.size _ _ [] xs (World.ownsRow_made w #[] 0 (Nat.le_refl _) (Nat.zero_le _) rfl) rfl rfl (HS.out.ext (Ext.alloc _ _)) (by simpa using hn) (by simp) ?_) | go_in)
    intro v' w' h1 h2 h3
    obtain ⟨a', m', c', rfl⟩ := OwnR.shape3 h1
    go_wp2
    go_ret
    exact ⟨_, rfl, by simpa using h1, ((Below.refl _ w).alloc (Nat.le_refl _) _).trans h3⟩
end Go.Proofs.YtgjahnomafpnfaaGreatDoor

/- slices.IndexFunc and slices.DeleteFunc at records, over a function value with one captured variable. -/
namespace Go.Proofs.YtgjahnomafpnfaaGreatDoor
open Go.RowKit
def ixOf (p : Rec → Bool) (xs : List Rec) : Int := match xs.findIdx? p with | some i => (i : Int) | none => -1
theorem ixOf_at {p : Rec → Bool} {xs : List Rec} {k : Nat} {x : Rec} (h : ∀ (j : Nat) y, j < k → xs[j]? = some y → p y = false) (hx : xs[k]? = some x) (hp : p x = true) : ixOf p xs = (k : Int) := by
  obtain ⟨hk, rfl⟩ := List.getElem?_eq_some_iff.1 hx
  have : xs.findIdx? p = some k := by
    rw [List.findIdx?_eq_some_iff_getElem]
    exact ⟨hk, hp, fun j hj => by simp [h j _ hj (List.getElem?_eq_getElem (by omega))]⟩
  simp [ixOf, this]
theorem ixOf_none {p : Rec → Bool} {xs : List Rec} (h : ∀ (j : Nat) y, xs[j]? = some y → p y = false) : ixOf p xs = -1 := by
  have : xs.findIdx? p = none := by
    rw [List.findIdx?_eq_none_iff]
    intro x hx
    obtain ⟨j, hj, rfl⟩ := List.mem_iff_getElem.1 hx
    exact h j _ (List.getElem?_eq_getElem hj)
  simp [ixOf, this]
/-- A function with a body of its own. -/
def Enters (f : Nat) : Prop := ∀ args w, (callFunc f args).run Tryz.prog w = .ok (.enter f args) w
theorem enters158 : Enters 158 := by intro args w; unfold callFunc; simp [go_sem, Tryz.func158]; rfl
/-- A function value (its number, the variable that it holds) answers p at records, and makes new memory alone. -/
def Asks (B : Nat) (W : World) (f : Nat) (c : Value) (p : Rec → Bool) (xs : List Rec) : Prop :=
  ∀ (wr : World) (x : Rec), x ∈ xs → B ≤ wr.heap.size → Below B W wr → Calls Tryz.prog f #[rv x, c] wr fun e w' => e = .returned (.bool (p x)) ∧ Below wr.heap.size wr w'
set_option maxHeartbeats 400000 in
set_option maxRecDepth 100000 in
theorem IndexFunc_any (B : Nat) (W : World) (f : Nat) (he : Enters f) (c : Value) (p : Rec → Bool) (v : Value) (xs : List Rec) (hf : Asks B W f c p xs) (w : World) (h : SlR w v xs) (hB : B ≤ w.heap.size) (hW : Below B W w) (hn : xs.length ≤ 1000000) :
    Calls Tryz.prog 146 #[v, .func (.func f) #[] #[c]] w fun e w' => e = .returned (.int .i64 (ixOf p xs)) ∧ Below w.heap.size w w' := by
  obtain ⟨a, cp, rfl, hcells⟩ := h.open
  have he' : ∀ args w, Sem.run Tryz.prog (callFunc f args) w = .ok (.enter f args) w := he
  go_enter Tryz.func146, Tryz.ntmps146
  go_wp2
  go_loopw [5, 8] (fun _ i wr => ∃ k : Nat, k ≤ xs.length ∧ i = .int .i64 k ∧ (∀ (j : Nat) y, j < k → xs[j]? = some y → p y = false) ∧ Below w.heap.size w wr) (fun _ i _ => xs.length - (intOf i).toNat)
  case atStart => exact ⟨0, by omega, rfl, by omega, Below.refl _ _⟩
  case round =>
    obtain ⟨k, hk, rfl, hj, hb⟩ := hrel
    have HJ := Lib.hid hj
    clear hj
    by_cases hlt : k < xs.length
    · obtain ⟨x, hx⟩ : ∃ x, xs[k]? = some x := ⟨_, List.getElem?_eq_getElem hlt⟩
      obtain ⟨b, off, rfl, hbl, c0, c1, c2, c3⟩ := hcells k x hx
      have bc := (bcell hb).1 b
      have d0 := (bc _ hbl).trans c0
      have d1 := (bc _ hbl).trans c1
      have d2 := (bc _ hbl).trans c2
      have d3 := (bc _ hbl).trans c3
      have HB := Lib.hid hb
      have HC := Lib.hid hcells
      have hlt' : (k : Int) < xs.length := by omega
      clear hb hcells bc
      go_wp2_with (refine (hf _ x (List.mem_of_getElem? hx) (Nat.le_trans hB HB.out.size) (hW.trans (HB.out.mono hB))).mono ?_; rintro e w' ⟨rfl, hb'⟩)
      · go_ret
        exact ⟨ret_int (ixOf_at HJ.out hx (by assumption)).symm, HB.out.trans (hb'.mono HB.out.size)⟩
      · have hp : p x = false := by assumption
        go_roundw
        case rel => exact ⟨k + 1, by omega, by go_num, fun j y h hy => by
          rcases (by omega : j < k ∨ j = k) with h | rfl
          · exact HJ.out j y h hy
          · rw [hx] at hy; cases hy; exact hp, HB.out.trans (hb'.mono HB.out.size)⟩
        case measure => simp [intOf]; omega
    · go_wp2
      go_ret
      exact ⟨ret_int (ixOf_none (fun j y hy => HJ.out j y (by have := (List.getElem?_eq_some_iff.1 hy).1; omega) hy)).symm, hb⟩
end Go.Proofs.YtgjahnomafpnfaaGreatDoor

/- slices.DeleteFunc at records. -/
namespace Go.Proofs.YtgjahnomafpnfaaGreatDoor
open Go.RowKit
theorem size_setCells (b : Nat) : ∀ (vs : List Value) (o : Nat) (w : World), (w.setCells b o vs).heap.size = w.heap.size
  | [], _, _ => rfl
  | v :: r, o, w => by rw [World.setCells, size_setCells b r]; simp
theorem below_setCells {B b : Nat} {a : World} (hb : B ≤ b) : ∀ (vs : List Value) (o : Nat) (w : World), Below B a w → Below B a (w.setCells b o vs)
  | [], _, _, h => h
  | v :: r, o, w, h => by rw [World.setCells]; exact below_setCells hb r _ _ (h.setCell hb _)
/-- 'clear' at records. -/
theorem run_clear_recs (w : World) (ty : TypeId) (g o n c : Nat) (ht : w.there g o (n * 4)) :
    (Builtin.clear_ #[23] ty #[.slice (some ⟨g, o, none⟩) n c]).run Tryz.prog w = .ok (.tuple #[]) (w.setCells g o (Builtin.zeroCells (rv ⟨0, 0, 0, ByteArray.empty⟩).cells n).toList) := by
  obtain ⟨i0, hi0, hz0, hz1, hz2⟩ := info_parts info49
  have hv : (zeroValue 49).run Tryz.prog w = .ok (rv ⟨0, 0, 0, ByteArray.empty⟩) w := by simp [zeroValue, typeInfo, hi0, hz0]
  cases n with
  | zero => simp [Builtin.clear_, run_underlying Tryz.underlying23, Builtin.zeroCells, World.setCells]
  | succ m =>
    have hl : (Builtin.zeroCells (rv ⟨0, 0, 0, ByteArray.empty⟩).cells (m + 1)).toList.length = (m + 1) * 4 := by
      rw [Array.length_toList, size_zeroCells]; rfl
    have hst := run_storeCells_cells (P := Tryz.prog) g o (Builtin.zeroCells (rv ⟨0, 0, 0, ByteArray.empty⟩).cells (m + 1)).toList 0 w (fun j hj => by rw [hl] at hj; exact (ht j hj).1) (fun j hj => by rw [hl] at hj; exact (ht j hj).2)
      (by
        intro v hv
        simp only [Builtin.zeroCells, Array.toList_map, List.mem_map] at hv
        obtain ⟨j, _, rfl⟩ := hv
        have hj : j % (Value.cells (rv ⟨0, 0, 0, ByteArray.empty⟩)).size < 4 := Nat.mod_lt _ (by decide)
        generalize j % (Value.cells (rv ⟨0, 0, 0, ByteArray.empty⟩)).size = q at hj ⊢
        match q, hj with | 0, _ | 1, _ | 2, _ | 3, _ => rfl)
    simp only [Nat.add_zero] at hst
    simp [Builtin.clear_, run_underlying Tryz.underlying23, hv, hst]
/-- A record stored in a row of records. -/
theorem flat_set (xs : List Rec) (i : Nat) (x : Rec) (hi : i < xs.length) (j : Nat) : (flat (xs.set i x))[j]? = if i * 4 ≤ j ∧ j < i * 4 + 4 then (rcells x)[j - i * 4]? else (flat xs)[j]? := by
  by_cases hj : j < xs.length * 4
  · have e : j = j / 4 * 4 + j % 4 := by omega
    have hm : j % 4 < 4 := Nat.mod_lt _ (by decide)
    have hq : j / 4 < xs.length := by omega
    generalize j / 4 = q at *
    generalize j % 4 = m at *
    subst e
    obtain ⟨y, hy⟩ : ∃ y, xs[q]? = some y := ⟨_, List.getElem?_eq_getElem hq⟩
    by_cases hqi : q = i
    · subst hqi
      rw [if_pos (by omega), flat_get _ q m x (by simp [hq]) hm]
      congr 1; omega
    · rw [if_neg (by omega), flat_get _ q m y (by rw [List.getElem?_set_ne (Ne.symm hqi)]; exact hy) hm, flat_get _ q m y hy hm]
  · rw [if_neg (by omega), List.getElem?_eq_none (by rw [flat_length, List.length_set]; omega), List.getElem?_eq_none (by rw [flat_length]; omega)]
theorem range_set {w : World} {g i : Nat} {zs : List Rec} {x : Rec} (h : w.rangeAt g 0 (flat zs)) (hi : i < zs.length) : (w.setCells g (i * 4) (rcells x)).rangeAt g 0 (flat (zs.set i x)) := by
  intro j v hv
  rw [flat_set zs i x hi j] at hv
  rw [Nat.zero_add]
  split at hv
  · rename_i hj
    have hl : j - i * 4 < (rcells x).length := by simp [rcells]; omega
    have := World.cell?_setCells_in g (rcells x) (i * 4) w (fun k hk => by
      have hk4 : k < 4 := by simpa [rcells] using hk
      obtain ⟨y, hy⟩ : ∃ y, zs[i]? = some y := ⟨_, List.getElem?_eq_getElem hi⟩
      have hc := flat_get zs i k y hy hk4
      have : ∃ u, (rcells y)[k]? = some u := ⟨_, List.getElem?_eq_getElem (by simp [rcells]; omega)⟩
      obtain ⟨u, hu⟩ := this
      rw [hu] at hc
      have := h _ _ hc
      rw [Nat.zero_add] at this
      rw [this]; rfl) (j - i * 4) hl
    rw [show i * 4 + (j - i * 4) = j from by omega] at this
    rw [this, ← hv, List.getElem?_eq_getElem hl]
  · rename_i hj
    rw [World.cell?_setCells_out g (rcells x) (i * 4) w ⟨g, j, none⟩ (fun _ _ => by simp only [rcells, List.length_cons, List.length_nil]; show j < i * 4 ∨ i * 4 + 4 ≤ j; omega)]
    simpa using h j v hv
/-- What DeleteFunc keeps in its row. -/
structure DelRel (B : Nat) (w0 wr : World) (g : Nat) (xs : List Rec) (p : Rec → Bool) (i j : Nat) : Prop where
  row : ∃ zs : List Rec, zs.length = xs.length ∧ zs.take i = (xs.take j).filter (fun x => !p x) ∧ zs.drop j = xs.drop j ∧ wr.rangeAt g 0 (flat zs)
  there : wr.there g 0 (xs.length * 4)
  below : Below B w0 wr
  lt : g < wr.heap.size
theorem DelRel.ext {B : Nat} {w0 wr w2 : World} {g : Nat} {xs : List Rec} {p : Rec → Bool} {i j : Nat} (h : DelRel B w0 wr g xs p i j) (hE : Below wr.heap.size wr w2) (hB : B ≤ w0.heap.size) : DelRel B w0 w2 g xs p i j := by
  obtain ⟨zs, h1, h2, h3, h4⟩ := h.row
  refine ⟨⟨zs, h1, h2, h3, fun k v hv => (hE.cell (p := ⟨g, 0 + k, none⟩) h.lt).trans (h4 k v hv)⟩, fun k hk => ?_, h.below.trans (hE.mono (Nat.le_trans hB h.below.size)), Nat.lt_of_lt_of_le h.lt hE.size⟩
  rw [hE.cell (p := ⟨g, 0 + k, none⟩) h.lt, hE.frozen (p := ⟨g, 0 + k, none⟩) h.lt]
  exact h.there k hk
theorem DelRel.drop {B : Nat} {w0 wr : World} {g : Nat} {xs : List Rec} {p : Rec → Bool} {i j : Nat} (h : DelRel B w0 wr g xs p i j) {x : Rec} (hx : xs[j]? = some x) (hp : p x = true) : DelRel B w0 wr g xs p i (j + 1) := by
  obtain ⟨zs, h1, h2, h3, h4⟩ := h.row
  refine ⟨⟨zs, h1, ?_, ?_, h4⟩, h.there, h.below, h.lt⟩
  · rw [List.take_add_one, hx]
    simp [hp, h2]
  · rw [← List.drop_drop, ← List.drop_drop, h3]
theorem DelRel.keep {B : Nat} {w0 wr : World} {g : Nat} {xs : List Rec} {p : Rec → Bool} {i j : Nat} (h : DelRel B w0 wr g xs p i j) {x : Rec} (hx : xs[j]? = some x) (hp : p x = false) (hij : i < j) (hBg : B ≤ g) :
    DelRel B w0 (wr.setCells g (i * 4) (rcells x)) g xs p (i + 1) (j + 1) := by
  obtain ⟨zs, h1, h2, h3, h4⟩ := h.row
  have hj : j < xs.length := (List.getElem?_eq_some_iff.1 hx).1
  refine ⟨⟨zs.set i x, by simpa using h1, ?_, ?_, range_set h4 (by omega)⟩, World.there_setCells h.there _ _ _, below_setCells hBg _ _ _ h.below, by rw [size_setCells]; exact h.lt⟩
  · rw [List.take_add_one, List.take_set_of_le (Nat.le_refl _), h2, List.take_add_one, hx]
    simp [hp, show i < zs.length by omega]
  · rw [List.drop_set_of_lt (by omega), ← List.drop_drop, ← List.drop_drop, h3]
end Go.Proofs.YtgjahnomafpnfaaGreatDoor

/- slices.DeleteFunc at records, the walk; lacks; Until; Lacks. -/
namespace Go.Proofs.YtgjahnomafpnfaaGreatDoor
open Go.RowKit
/-- A call with a function value answers a list of records in the memory of the list that came in. -/
theorem DelRel.start {B : Nat} {w0 w1 : World} {g : Nat} {xs : List Rec} {p : Rec → Bool} {i : Nat} {x : Rec} (hc : w0.rangeAt g 0 (flat xs)) (hf : ∀ j, j < xs.length * 4 → w0.frozen? ⟨g, j, none⟩ = false) (hg : g < w0.heap.size) (hb : Below w0.heap.size w0 w1) (hB : B ≤ w0.heap.size)
    (hx : xs[i]? = some x) (hp : p x = true) (hn : ∀ (j : Nat) y, j < i → xs[j]? = some y → p y = false) : DelRel B w0 w1 g xs p i (i + 1) := by
  have hi : i < xs.length := (List.getElem?_eq_some_iff.1 hx).1
  refine ⟨⟨xs, rfl, ?_, rfl, fun k v hv => (hb.cell (p := ⟨g, 0 + k, none⟩) hg).trans (hc k v hv)⟩, fun k hk => ⟨?_, ?_⟩, hb.mono hB, Nat.lt_of_lt_of_le hg hb.size⟩
  · rw [List.take_add_one, hx]
    simp only [Option.toList_some, List.filter_append, List.filter_cons, hp, Bool.not_true, Bool.false_eq_true, if_false, List.filter_nil, List.append_nil]
    symm
    rw [List.filter_eq_self]
    intro y hy
    obtain ⟨j, hj, rfl⟩ := List.mem_iff_getElem.1 hy
    have hj' : j < i := by simp at hj; omega
    simp only [List.getElem_take]
    simp [hn j _ hj' (List.getElem?_eq_getElem (by omega))]
  · rw [hb.cell (p := ⟨g, 0 + k, none⟩) hg]
    have : k < (flat xs).length := by rw [flat_length]; omega
    rw [hc k _ (List.getElem?_eq_getElem this)]; rfl
  · rw [hb.frozen (p := ⟨g, 0 + k, none⟩) hg, Nat.zero_add]; exact hf k hk
theorem DelRel.cells {B : Nat} {w0 wr : World} {g : Nat} {xs : List Rec} {p : Rec → Bool} {i j : Nat} (h : DelRel B w0 wr g xs p i j) {y : Rec} (hy : xs[j]? = some y) :
    wr.cell? ⟨g, j * 4, none⟩ = some (.int .i64 y.st) ∧ wr.cell? ⟨g, j * 4 + 1, none⟩ = some (.int .i64 y.num) ∧ wr.cell? ⟨g, j * 4 + 2, none⟩ = some (.int .i64 y.hr) ∧ wr.cell? ⟨g, j * 4 + 3, none⟩ = some (.string y.txt) := by
  obtain ⟨zs, h1, h2, h3, h4⟩ := h.row
  have hz : zs[j]? = some y := by
    have := congrArg (fun l : List Rec => l[0]?) h3
    simp only [List.getElem?_drop, Nat.add_zero] at this
    rw [this, hy]
  have := rowcells (w := wr) (b := g) (off := 0) (xs := zs) h4 hz
  simpa using this
theorem DelRel.slots {B : Nat} {w0 wr : World} {g : Nat} {xs : List Rec} {p : Rec → Bool} {i j : Nat} (h : DelRel B w0 wr g xs p i j) {i' : Nat} (hi : i' < xs.length) :
    (∃ u, wr.cell? ⟨g, i' * 4, none⟩ = some u) ∧ (∃ u, wr.cell? ⟨g, i' * 4 + 1, none⟩ = some u) ∧ (∃ u, wr.cell? ⟨g, i' * 4 + 2, none⟩ = some u) ∧ (∃ u, wr.cell? ⟨g, i' * 4 + 3, none⟩ = some u) ∧
    wr.frozen? ⟨g, i' * 4, none⟩ = false ∧ wr.frozen? ⟨g, i' * 4 + 1, none⟩ = false ∧ wr.frozen? ⟨g, i' * 4 + 2, none⟩ = false ∧ wr.frozen? ⟨g, i' * 4 + 3, none⟩ = false := by
  have k := fun m (hm : m < xs.length * 4) => h.there m hm
  simp only [Nat.zero_add] at k
  exact ⟨Option.isSome_iff_exists.1 (k _ (by omega)).1, Option.isSome_iff_exists.1 (k _ (by omega)).1, Option.isSome_iff_exists.1 (k _ (by omega)).1, Option.isSome_iff_exists.1 (k _ (by omega)).1, (k _ (by omega)).2, (k _ (by omega)).2, (k _ (by omega)).2, (k _ (by omega)).2⟩
theorem rec_new {wr w2 : World} {y : Rec} (hb : Below (wr.alloc (.cells #[.int .i64 y.st, .int .i64 y.num, .int .i64 y.hr, .string y.txt] 49)).heap.size (wr.alloc (.cells #[.int .i64 y.st, .int .i64 y.num, .int .i64 y.hr, .string y.txt] 49)) w2) :
    w2.cell? ⟨wr.heap.size, 0, none⟩ = some (.int .i64 y.st) ∧ w2.cell? ⟨wr.heap.size, 1, none⟩ = some (.int .i64 y.num) ∧ w2.cell? ⟨wr.heap.size, 2, none⟩ = some (.int .i64 y.hr) ∧ w2.cell? ⟨wr.heap.size, 3, none⟩ = some (.string y.txt) :=
  ⟨(hb.cell (p := ⟨wr.heap.size, 0, none⟩) (by simp)).trans (World.cell?_alloc_new wr _ _ 0), (hb.cell (p := ⟨wr.heap.size, 1, none⟩) (by simp)).trans (World.cell?_alloc_new wr _ _ 1),
   (hb.cell (p := ⟨wr.heap.size, 2, none⟩) (by simp)).trans (World.cell?_alloc_new wr _ _ 2), (hb.cell (p := ⟨wr.heap.size, 3, none⟩) (by simp)).trans (World.cell?_alloc_new wr _ _ 3)⟩
theorem ixOf_cases (p : Rec → Bool) (xs : List Rec) : (ixOf p xs = -1 ∧ xs.filter (fun x => !p x) = xs) ∨ ∃ (i : Nat) (x : Rec), ixOf p xs = (i : Int) ∧ xs[i]? = some x ∧ p x = true ∧ ∀ (j : Nat) y, j < i → xs[j]? = some y → p y = false := by
  unfold ixOf
  cases h : xs.findIdx? p with
  | none =>
    rw [List.findIdx?_eq_none_iff] at h
    exact .inl ⟨rfl, List.filter_eq_self.2 fun x hx => by simp [h x hx]⟩
  | some i =>
    obtain ⟨hi, hp, hn⟩ := List.findIdx?_eq_some_iff_getElem.1 h
    refine .inr ⟨i, xs[i], rfl, List.getElem?_eq_getElem hi, hp, fun j y hj hy => ?_⟩
    have := hn j hj
    rw [List.getElem?_eq_getElem (by omega)] at hy
    cases hy
    simpa using this
set_option maxHeartbeats 800000 in
set_option maxRecDepth 100000 in
theorem DeleteFunc_any (B : Nat) (W : World) (f : Nat) (he : Enters f) (c : Value) (p : Rec → Bool) (v : Value) (xs : List Rec) (hf : Asks B W f c p xs) (w : World) (h : SlW w B v xs) (hB : B ≤ w.heap.size) (hW : Below B W w) (hn : xs.length ≤ 1000000) :
    Calls Tryz.prog 85 #[v, .func (.func f) #[] #[c]] w fun e w' => ∃ v', e = .returned v' ∧ SlW w' B v' (xs.filter fun x => !p x) ∧ Below B w w' := by
  have he' : ∀ args w, Sem.run Tryz.prog (callFunc f args) w = .ok (.enter f args) w := he
  have hix := Lib.hid (IndexFunc_any B W f he c p v xs hf w h.slR hB hW hn)
  rcases ixOf_cases p xs with ⟨e, hfil⟩ | ⟨i, x, e, hx, hp, hno⟩
  · rw [e] at hix
    obtain ⟨a, m, cp, rfl⟩ := h.shape3
    go_enter Tryz.func85, Tryz.ntmps85
    go_wp2_with fail
    refine hix.out.mono ?_
    rintro e w' ⟨rfl, hb⟩
    go_wp2
    go_ret
    exact ⟨_, rfl, by rw [hfil]; exact h.ext hb, hb.mono hB⟩
  · rw [e] at hix
    have hil : i < xs.length := (List.getElem?_eq_some_iff.1 hx).1
    rcases h with ⟨rfl, rfl⟩ | ⟨g, cap, rfl, h2, h3, h4, h5, h6, h7⟩
    · simp at hx
    have hcm : (cap : Int) ≤ 9223372036854775807 := by simp only [maxLen] at h4; omega
    have hst := fun w1 (hb : Below w.heap.size w w1) => DelRel.start (B := B) (w1 := w1) (fun j v hv => by simpa using h6 j v hv) h7 h5 hb hB hx hp hno
    have HST := Lib.hid hst
    clear hst h6 h7
    go_enter Tryz.func85, Tryz.ntmps85
    go_wp2_with fail
    refine hix.out.mono ?_
    rintro e w1 ⟨rfl, hb⟩
    have hil' : (i : Int) < xs.length := by omega
    have hne : ((i : Int) == -1) = false := by rw [beq_eq_false_iff_ne]; omega
    go_wp2
    go_loopw [5, 6, 7] (fun a b _ wr => ∃ i j : Nat, i < j ∧ j ≤ xs.length ∧ a = .int .i64 i ∧ b = .int .i64 j ∧ DelRel B w wr g xs p i j) (fun _ b _ _ => xs.length - (intOf b).toNat)
    case atStart => exact ⟨i, i + 1, by omega, by omega, rfl, by go_num, HST.out w1 hb⟩
    case round =>
      obtain ⟨i, j, hij, hj, rfl, rfl, hR⟩ := hrel
      have HR := Lib.hid hR
      clear hR
      have hi0 : (i : Int) < xs.length := by omega
      by_cases hlt : j < xs.length
      · obtain ⟨y, hy⟩ : ∃ y, xs[j]? = some y := ⟨_, List.getElem?_eq_getElem hlt⟩
        obtain ⟨e0, e1, e2, e3⟩ := HR.out.cells hy
        have hlt' : (j : Int) < xs.length := by omega
        have hg := HR.out.lt
        have HR1 := Lib.hid (HR.out.ext (Ext.alloc wr (.cells #[.int .i64 y.st, .int .i64 y.num, .int .i64 y.hr, .string y.txt] 49)) hB)
        cases hpy : p y with
        | true =>
          go_wp2_with (refine (hf _ y (List.mem_of_getElem? hy) (Nat.le_trans hB (Nat.le_trans (by exact HR1.out.below.size) (Nat.le_refl _))) (hW.trans HR1.out.below)).mono ?_; rintro e w2 ⟨rfl, hb2⟩)
          have HR2 := Lib.hid (HR1.out.ext hb2 hB)
          go_roundw
          case rel => exact ⟨i, j + 1, by omega, by omega, rfl, by go_num, HR2.out.drop hy hpy⟩
          case measure => simp [intOf]; omega
        | false =>
          go_wp2_with (refine (hf _ y (List.mem_of_getElem? hy) (Nat.le_trans hB (Nat.le_trans (by exact HR1.out.below.size) (Nat.le_refl _))) (hW.trans HR1.out.below)).mono ?_; rintro e w2 ⟨rfl, hb2⟩; obtain ⟨n0, n1, n2, n3⟩ := rec_new hb2; have HR2 := Lib.hid (HR1.out.ext hb2 hB); obtain ⟨⟨u0, s0⟩, ⟨u1, s1⟩, ⟨u2, s2⟩, ⟨u3, s3⟩, f0, f1, f2, f3⟩ := HR2.out.slots (i' := i) (by omega))
          go_roundw
          case rel => exact ⟨i + 1, j + 1, by omega, by omega, by go_num, by go_num, HR2.out.keep hy hpy hij h2⟩
          case measure => simp [intOf]; omega
      · obtain rfl : j = xs.length := by omega
        have hlen : i ≤ xs.length := by omega
        have hcap : i ≤ cap := by omega
        have hth : wr.there g (i * 4) ((xs.length - i) * 4) := fun q hq => by
          have := HR.out.there (i * 4 + q) (by omega)
          simpa using this
        have hclr := fun ty => run_clear_recs wr ty g (i * 4) (xs.length - i) (cap - i) hth
        have hfin : SlW (wr.setCells g (i * 4) (Builtin.zeroCells (rv ⟨0, 0, 0, ByteArray.empty⟩).cells (xs.length - i)).toList) B (.slice (some ⟨g, 0, none⟩) i cap) (xs.filter fun x => !p x) ∧ Below B w (wr.setCells g (i * 4) (Builtin.zeroCells (rv ⟨0, 0, 0, ByteArray.empty⟩).cells (xs.length - i)).toList) := by
          obtain ⟨zs, z1, z2, z3, z4⟩ := HR.out.row
          have hfl : (xs.filter fun x => !p x).length = i := by
            have := congrArg List.length z2
            simp only [List.take_length, List.length_take] at this
            omega
          rw [List.take_length] at z2
          refine ⟨.inr ⟨g, cap, by rw [hfl], h2, by omega, h4, by rw [size_setCells]; exact HR.out.lt, fun q u hu => ?_, fun q hq => ?_⟩, below_setCells h2 _ _ _ HR.out.below⟩
          · have hql : q < i * 4 := by
              have := (List.getElem?_eq_some_iff.1 hu).1
              rw [flat_length, hfl] at this; exact this
            rw [World.cell?_setCells_out g _ _ wr ⟨g, q, none⟩ (fun _ _ => .inl hql)]
            have := z4 q u (by
              rw [← z2] at hu
              rw [← hu, ← List.take_append_drop i zs, flat_append, List.getElem?_append_left (by rw [flat_length]; simp; omega)]
              simp)
            simpa using this
          · rw [World.frozen?_setCells]
            have := (HR.out.there q (by omega)).2
            simpa using this
        have HF := Lib.hid hfin
        clear hfin
        generalize wr.setCells g (i * 4) (Builtin.zeroCells (rv ⟨0, 0, 0, ByteArray.empty⟩).cells (xs.length - i)).toList = w9 at hclr HF
        have hci : (i : Int) ≤ cap := by omega
        have hxi : (i : Int) ≤ xs.length := by omega
        go_wp2
        go_ret
        exact ⟨_, rfl, HF.out.1, HF.out.2⟩
end Go.Proofs.YtgjahnomafpnfaaGreatDoor

/- lacks, Until, Lacks. -/
namespace Go.Proofs.YtgjahnomafpnfaaGreatDoor
open Go.RowKit
theorem enters86 : Enters 86 := by intro args w; unfold callFunc; simp [go_sem, Tryz.func86]; rfl
/-- What is later than an hour. -/
def laterB (hour : Int) (x : Rec) : Bool := decide (hour < x.hr)
set_option maxHeartbeats 400000 in
set_option maxRecDepth 100000 in
theorem later_any (P : Nat) (hour : Int) (x : Rec) (w : World) (hc : w.cell? ⟨P, 0, none⟩ = some (.int .i64 hour)) :
    Calls Tryz.prog 86 #[rv x, .pointer (some ⟨P, 0, none⟩)] w fun e w' => e = .returned (.bool (laterB hour x)) ∧ Below w.heap.size w w' := by
  have hP : P < w.heap.size := World.block_lt_of_cell? w _ hc
  go_enter Tryz.func86, Tryz.ntmps86
  go_wp2
  go_ret
  exact ⟨ret_bool rfl, (Below.refl _ _).alloc (Nat.le_refl _) _⟩
/-- A stock: how many there are of each station. -/
def haveOf (s0 s1 s2 s3 s4 : Int) (k : Int) : Int := if k = 0 then s0 else if k = 1 then s1 else if k = 2 then s2 else if k = 3 then s3 else s4
def hasB (s0 s1 s2 s3 s4 : Int) (x : Rec) : Bool := decide (x.num ≤ haveOf s0 s1 s2 s3 s4 x.st)
set_option maxHeartbeats 400000 in
set_option maxRecDepth 100000 in
theorem has_any (P : Nat) (s0 s1 s2 s3 s4 : Int) (x : Rec) (w : World) (hx : 0 ≤ x.st ∧ x.st < 5)
    (h0 : w.cell? ⟨P, 0, none⟩ = some (.int .i64 s0)) (h1 : w.cell? ⟨P, 1, none⟩ = some (.int .i64 s1)) (h2 : w.cell? ⟨P, 2, none⟩ = some (.int .i64 s2)) (h3 : w.cell? ⟨P, 3, none⟩ = some (.int .i64 s3)) (h4 : w.cell? ⟨P, 4, none⟩ = some (.int .i64 s4)) :
    Calls Tryz.prog 158 #[rv x, .pointer (some ⟨P, 0, none⟩)] w fun e w' => e = .returned (.bool (hasB s0 s1 s2 s3 s4 x)) ∧ Below w.heap.size w w' := by
  have hP : P < w.heap.size := World.block_lt_of_cell? w _ h0
  obtain ⟨st, num, hr, txt⟩ := x
  obtain ⟨hx0, hx5⟩ := hx
  simp only at hx0 hx5
  have c0 : (w.alloc (.cells #[.int .i64 st, .int .i64 num, .int .i64 hr, .string txt] 49)).cell? ⟨w.heap.size, 0, none⟩ = some (.int .i64 st) := by simp
  have c1 : (w.alloc (.cells #[.int .i64 st, .int .i64 num, .int .i64 hr, .string txt] 49)).cell? ⟨w.heap.size, 1, none⟩ = some (.int .i64 num) := by simp
  have d0 : (w.alloc (.cells #[.int .i64 st, .int .i64 num, .int .i64 hr, .string txt] 49)).cell? ⟨P, 0, none⟩ = some (.int .i64 s0) := by rw [World.cell?_alloc_past _ _ _ hP]; exact h0
  have d1 : (w.alloc (.cells #[.int .i64 st, .int .i64 num, .int .i64 hr, .string txt] 49)).cell? ⟨P, 1, none⟩ = some (.int .i64 s1) := by rw [World.cell?_alloc_past _ _ _ hP]; exact h1
  have d2 : (w.alloc (.cells #[.int .i64 st, .int .i64 num, .int .i64 hr, .string txt] 49)).cell? ⟨P, 2, none⟩ = some (.int .i64 s2) := by rw [World.cell?_alloc_past _ _ _ hP]; exact h2
  have d3 : (w.alloc (.cells #[.int .i64 st, .int .i64 num, .int .i64 hr, .string txt] 49)).cell? ⟨P, 3, none⟩ = some (.int .i64 s3) := by rw [World.cell?_alloc_past _ _ _ hP]; exact h3
  have d4 : (w.alloc (.cells #[.int .i64 st, .int .i64 num, .int .i64 hr, .string txt] 49)).cell? ⟨P, 4, none⟩ = some (.int .i64 s4) := by rw [World.cell?_alloc_past _ _ _ hP]; exact h4
  have hb : Below w.heap.size w (w.alloc (.cells #[.int .i64 st, .int .i64 num, .int .i64 hr, .string txt] 49)) := (Below.refl _ _).alloc (Nat.le_refl _) _
  rcases (by omega : st = 0 ∨ st = 1 ∨ st = 2 ∨ st = 3 ∨ st = 4) with rfl | rfl | rfl | rfl | rfl
  all_goals
    go_enter Tryz.func158, Tryz.ntmps158
    go_wp2
    generalize (w.alloc (.cells #[.int .i64 _, .int .i64 num, .int .i64 hr, .string txt] 49)) = W at c0 c1 d0 d1 d2 d3 d4 hb ⊢
    go_quiet (fail)
    go_wp2
    go_ret
    exact ⟨ret_bool rfl, below_drewN hb _⟩
end Go.Proofs.YtgjahnomafpnfaaGreatDoor

/- lacks, Until, Lacks. -/
namespace Go.Proofs.YtgjahnomafpnfaaGreatDoor
open Go.RowKit
set_option maxHeartbeats 400000 in
set_option maxRecDepth 100000 in
theorem lacks_any (v : Value) (xs : List Rec) (s0 s1 s2 s3 s4 : Int) (w : World) (h : SlR w v xs) (hx : ∀ x ∈ xs, 0 ≤ x.st ∧ x.st < 5) (hn : xs.length ≤ 1000000) :
    Calls Tryz.prog 110 #[v, .agg #[.int .i64 s0, .int .i64 s1, .int .i64 s2, .int .i64 s3, .int .i64 s4]] w fun e w' => ∃ v', e = .returned v' ∧ SlW w' w.heap.size v' (xs.filter fun x => !hasB s0 s1 s2 s3 s4 x) ∧ Below w.heap.size w w' := by
  obtain ⟨a, m, c, rfl⟩ : ∃ a m c, v = .slice a m c := by
    obtain ⟨a, c, e⟩ := h.shape
    exact ⟨a, _, c, e⟩
  have hE : Ext w (w.alloc (.cells #[.int .i64 s0, .int .i64 s1, .int .i64 s2, .int .i64 s3, .int .i64 s4] 26)) := Ext.alloc _ _
  have HS := Lib.hid (h.ext hE)
  have hb : Below w.heap.size w (w.alloc (.cells #[.int .i64 s0, .int .i64 s1, .int .i64 s2, .int .i64 s3, .int .i64 s4] 26)) := (Below.refl _ _).alloc (Nat.le_refl _) _
  have hz : (w.alloc (.cells #[.int .i64 s0, .int .i64 s1, .int .i64 s2, .int .i64 s3, .int .i64 s4] 26)).heap.size = w.heap.size + 1 := by simp
  have hcs : ∀ (wr : World), Below (w.heap.size + 1) (w.alloc (.cells #[.int .i64 s0, .int .i64 s1, .int .i64 s2, .int .i64 s3, .int .i64 s4] 26)) wr →
      wr.cell? ⟨w.heap.size, 0, none⟩ = some (.int .i64 s0) ∧ wr.cell? ⟨w.heap.size, 1, none⟩ = some (.int .i64 s1) ∧ wr.cell? ⟨w.heap.size, 2, none⟩ = some (.int .i64 s2) ∧ wr.cell? ⟨w.heap.size, 3, none⟩ = some (.int .i64 s3) ∧ wr.cell? ⟨w.heap.size, 4, none⟩ = some (.int .i64 s4) := by
    intro wr hwr
    have k := fun o => hwr.cell (p := ⟨w.heap.size, o, none⟩) (by simp)
    exact ⟨(k 0).trans (World.cell?_alloc_new w _ _ 0), (k 1).trans (World.cell?_alloc_new w _ _ 1), (k 2).trans (World.cell?_alloc_new w _ _ 2), (k 3).trans (World.cell?_alloc_new w _ _ 3), (k 4).trans (World.cell?_alloc_new w _ _ 4)⟩
  have HC := Lib.hid hcs
  clear h hE hcs
  go_enter Tryz.func110, Tryz.ntmps110
  go_wp2_with fail
  generalize (w.alloc (.cells #[.int .i64 s0, .int .i64 s1, .int .i64 s2, .int .i64 s3, .int .i64 s4] 26)) = w1 at HS hb hz HC ⊢
  refine (Clone_any _ xs w1 HS.out hn).mono ?_
  rintro e w2 ⟨v2, rfl, ho, hb2⟩
  obtain ⟨a2, m2, c2, rfl⟩ := OwnR.shape3 ho
  have hw := OwnR.slW ho
  rw [hz] at hw hb2
  go_wp2_with fail
  refine (DeleteFunc_any (w.heap.size + 1) w1 158 enters158 (.pointer (some ⟨w.heap.size, 0, none⟩)) (hasB s0 s1 s2 s3 s4) _ xs (fun wr x hxm hB hbr => ?_) w2 hw (by have := hb2.size; omega) hb2 hn).mono ?_
  · obtain ⟨k0, k1, k2, k3, k4⟩ := HC.out wr hbr
    exact has_any w.heap.size s0 s1 s2 s3 s4 x wr (hx x hxm) k0 k1 k2 k3 k4
  · rintro e w3 ⟨v3, rfl, h3, hb3⟩
    obtain ⟨a3, m3, c3, rfl⟩ := h3.shape3
    go_wp2
    go_ret
    refine ⟨_, rfl, ?_, ?_⟩
    · rcases h3 with h3 | ⟨g, cap, q1, q2, q3⟩
      · exact .inl h3
      · exact .inr ⟨g, cap, q1, by omega, q3⟩
    · exact (hb.trans (hb2.mono (by omega))).trans (hb3.mono (by omega))
end Go.Proofs.YtgjahnomafpnfaaGreatDoor

/- A drawn region's tail that has one order; the comparison of the one order. -/
namespace Go
section
variable {P : Program} {ops : Array Oper} {Q : Exit → Act → World → Prop}
/-- The operations left come one behind the other. -/
def tailOk (ops : Array Oper) : Array Bool → List Nat → Bool
  | L, [] => Region.ready .any ops L == []
  | L, i :: r => Region.ready .any ops L == [i] && tailOk ops (L.setIfInBounds i true) r
theorem tail_list : ∀ (is : List Nat) (os : List Oper) (L : Array Bool) (a : Act) (w : World), tailOk ops L is = true → is.map (fun i => ops[i]?) = os.map some → wpList P ops Q os a w → wpAny P .any ops Q is.length L a w
  | [], [], L, a, w, h, _, hQ => ⟨by simpa [tailOk] using h, hQ⟩
  | i :: is, o :: os, L, a, w, h, he, hQ => by
    simp only [tailOk, Bool.and_eq_true, beq_iff_eq] at h
    simp only [List.map_cons, List.cons.injEq] at he
    refine ⟨fun e => (by rw [h.1] at e; cases e), fun j hj => ?_⟩
    rw [h.1] at hj
    obtain rfl := List.mem_singleton.1 hj
    unfold wpOp
    simp only [he.1]
    unfold wpList at hQ
    have hm : ∀ a w, wpList P ops Q os a w → wpAny P .any ops Q is.length (L.setIfInBounds j true) a w := fun a w hq => tail_list is os _ a w h.2 he.2 hq
    split
    · rename_i hw; rw [if_pos hw] at hQ; exact hQ.imp (Oper.wp_mono hm) id
    · rename_i hw; rw [if_neg hw] at hQ; exact hm _ _ hQ
  | [], _ :: _, _, _, _, _, h, _ => by simp at h
  | _ :: _, [], _, _, _, _, h, _ => by simp at h
end
end Go
namespace Go.Proofs.YtgjahnomafpnfaaGreatDoor
open Go.RowKit
def refC (a b : Rec) : Int := or2 (cmpI a.st b.st) (cmpI a.num b.num)
def ordC (a b : Rec) : Int := or2 (cmpI a.hr b.hr) (refC a b)
theorem byRef_rec (a b : Rec) (w : World) : Calls Tryz.prog 82 #[rv a, rv b] w fun e w' => e = .returned (.int .i64 (refC a b)) ∧ Below w.heap.size w w' := byRef_any _ _ _ _ _ _ _ _ w
set_option maxHeartbeats 800000 in
set_option maxRecDepth 100000 in
theorem ord_any (a b : Rec) (w : World) : Calls Tryz.prog 79 #[rv a, rv b] w fun e w' => e = .returned (.int .i64 (ordC a b)) ∧ Below w.heap.size w w' := by
  obtain ⟨s, n, h, t⟩ := a
  obtain ⟨s', n', h', t'⟩ := b
  go_enter Tryz.func79, Tryz.ntmps79
  go_wp2
  have hE : Ext w ((w.alloc (.cells #[.int .i64 s, .int .i64 n, .int .i64 h, .string t] 49)).alloc (.cells #[.int .i64 s', .int .i64 n', .int .i64 h', .string t'] 49)) := (Ext.alloc _ _).trans (Ext.alloc _ _)
  have hb1 : Below (w.alloc (.cells #[.int .i64 s, .int .i64 n, .int .i64 h, .string t] 49)).heap.size (w.alloc (.cells #[.int .i64 s, .int .i64 n, .int .i64 h, .string t] 49)) ((w.alloc (.cells #[.int .i64 s, .int .i64 n, .int .i64 h, .string t] 49)).alloc (.cells #[.int .i64 s', .int .i64 n', .int .i64 h', .string t'] 49)) := Ext.alloc _ _
  obtain ⟨c0, c1, c2, c3⟩ := rec_new (y := ⟨s, n, h, t⟩) hb1
  obtain ⟨d0, d1, d2, d3⟩ := rec_new (y := ⟨s', n', h', t'⟩) (Below.refl _ ((w.alloc (.cells #[.int .i64 s, .int .i64 n, .int .i64 h, .string t] 49)).alloc (.cells #[.int .i64 s', .int .i64 n', .int .i64 h', .string t'] 49)))
  rw [show (w.alloc (.cells #[.int .i64 s, .int .i64 n, .int .i64 h, .string t] 49)).heap.size = w.heap.size + 1 from by simp] at d0 d1 d2 d3
  clear hb1
  generalize ((w.alloc (.cells #[.int .i64 s, .int .i64 n, .int .i64 h, .string t] 49)).alloc (.cells #[.int .i64 s', .int .i64 n', .int .i64 h', .string t'] 49)) = W at hE c0 c1 c2 c3 d0 d1 d2 d3 ⊢
  refine wp_drawn 11 (by kernel_rfl) (by kernel_rfl) (fun i => match i with
    | 4 => some fun v _ => v = .int .i64 (cmpI h h')
    | 7 => some fun v _ => v = .int .i64 (refC ⟨s, n, h, t⟩ ⟨s', n', h', t'⟩)
    | 8 => some fun v w' => ∃ p, v = .slice (some ⟨p, 0, none⟩) 2 2 ∧ w'.cell? ⟨p, 0, none⟩ = some (.int .i64 (cmpI h h')) ∧ w'.cell? ⟨p, 1, none⟩ = some (.int .i64 (refC ⟨s, n, h, t⟩ ⟨s', n', h', t'⟩))
    | 9 => some fun v _ => v = .int .i64 (ordC ⟨s, n, h, t⟩ ⟨s', n', h', t'⟩)
    | _ => none) ?_ ?_
  · intro j φ hφ v w1 w2 h1 h2
    split at hφ <;> cases hφ
    case h_3 => obtain ⟨p, e, e1, e2⟩ := h1; exact ⟨p, e, h2.keep e1, h2.keep e2⟩
    all_goals exact h1
  · intro ν
    simp only [List.take_succ_cons, List.take_zero]
    iterate 4 (refine Seq.pure ?_ rfl (fun w' hw hf => ?_) ?_; rotate_left; (· (have k0 := hw.keep (w := W.drew) c0; have k1 := hw.keep (w := W.drew) c1; have k2 := hw.keep (w := W.drew) c2; have k3 := hw.keep (w := W.drew) c3; have l0 := hw.keep (w := W.drew) d0; have l1 := hw.keep (w := W.drew) d1; have l2 := hw.keep (w := W.drew) d2; have l3 := hw.keep (w := W.drew) d3; unfold pureG; go_simp; with_reducible rfl)); simp only [Act.put, List.setIfInBounds_toArray, List.set_cons_zero, List.set_cons_succ, Nat.reduceAdd, Nat.zero_add])
    refine Seq.eff _ rfl (fun w' hw hf => giveG_of rfl (by simp) fun K hK => ?_) ?_
    · go_simp
      refine (cmp_any _ _ _).mono ?_
      rintro e w2 ⟨rfl, rfl⟩
      exact hK _ _ ⟨rfl, Ext.refl _⟩
    simp only [Act.put, List.setIfInBounds_toArray, List.set_cons_zero, List.set_cons_succ, Nat.reduceAdd, Nat.zero_add]
    iterate 2 (refine Seq.pure ?_ rfl (fun w' hw hf => ?_) ?_; rotate_left; (· (have k0 := hw.keep (w := W.drew) c0; have k1 := hw.keep (w := W.drew) c1; have k2 := hw.keep (w := W.drew) c2; have k3 := hw.keep (w := W.drew) c3; have l0 := hw.keep (w := W.drew) d0; have l1 := hw.keep (w := W.drew) d1; have l2 := hw.keep (w := W.drew) d2; have l3 := hw.keep (w := W.drew) d3; unfold pureG; go_simp; with_reducible rfl)); simp only [Act.put, List.setIfInBounds_toArray, List.set_cons_zero, List.set_cons_succ, Nat.reduceAdd, Nat.zero_add])
    refine Seq.eff _ rfl (fun w' hw hf => giveG_of rfl (by simp) fun K hK => ?_) ?_
    · go_simp
      refine (byRef_rec ⟨s, n, h, t⟩ ⟨s', n', h', t'⟩ _).mono ?_
      rintro e w2 ⟨rfl, hb⟩
      exact hK _ _ ⟨rfl, hb⟩
    simp only [Act.put, List.setIfInBounds_toArray, List.set_cons_zero, List.set_cons_succ, Nat.reduceAdd, Nat.zero_add]
    refine Seq.eff _ rfl (fun w' hw hf => giveG_of rfl (by simp) fun K hK => ?_) ?_
    · have h4 := hf 4 _ rfl (by kernel_rfl)
      have h9 := hf 7 _ rfl (by kernel_rfl)
      simp only [h4, h9] at hK ⊢
      go_simp
      exact hK _ _ ⟨⟨w'.heap.size, rfl, by simp, by simp⟩, Ext.alloc _ _⟩
    simp only [Act.put, List.setIfInBounds_toArray, List.set_cons_zero, List.set_cons_succ, Nat.reduceAdd, Nat.zero_add]
    refine Seq.eff _ rfl (fun w' hw hf => giveG_of rfl (by simp) fun K hK => ?_) ?_
    · obtain ⟨p, h10, hp0, hp1⟩ := hf 8 _ rfl (by kernel_rfl)
      simp only [h10] at hK ⊢
      go_simp
      refine (or2_any _ _ _ _ hp0 hp1).mono ?_
      rintro e w2 ⟨rfl, rfl⟩
      exact hK _ _ ⟨rfl, Ext.refl _⟩
    simp only [Act.put, List.setIfInBounds_toArray, List.set_cons_zero, List.set_cons_succ, Nat.reduceAdd, Nat.zero_add]
    iterate 1 (refine Seq.pure ?_ rfl (fun w' hw hf => ?_) ?_; rotate_left; (· (skip; unfold pureG; go_simp; with_reducible rfl)); simp only [Act.put, List.setIfInBounds_toArray, List.set_cons_zero, List.set_cons_succ, Nat.reduceAdd, Nat.zero_add])
    refine Seq.nil fun w' hw hf => tail_none (by kernel_rfl) ?_
    have h11 := hf 9 _ (by omega) rfl
    rw [h11]
    go_wp2
    go_ret
    exact ⟨rfl, (hE.trans (Ext.drew W)).trans hw⟩
end Go.Proofs.YtgjahnomafpnfaaGreatDoor

/- slices.insertionSortCmpFunc at records by the one order. -/
namespace Go.Proofs.YtgjahnomafpnfaaGreatDoor
open Go.RowKit
/-- A row of records that may be written, in block g. -/
structure RowW (B : Nat) (w0 wr : World) (g : Nat) (zs : List Rec) : Prop where
  row : wr.rangeAt g 0 (flat zs)
  there : wr.there g 0 (zs.length * 4)
  below : Below B w0 wr
  lt : g < wr.heap.size
  base : B ≤ g
  bw : B ≤ w0.heap.size
theorem RowW.ext {B : Nat} {w0 wr w2 : World} {g : Nat} {zs : List Rec} (h : RowW B w0 wr g zs) (hE : Ext wr w2) : RowW B w0 w2 g zs := by
  refine ⟨fun k v hv => (hE.cell (p := ⟨g, 0 + k, none⟩) h.lt).trans (h.row k v hv), fun k hk => ?_, h.below.trans (hE.mono (Nat.le_trans h.bw h.below.size)), Nat.lt_of_lt_of_le h.lt hE.size, h.base, h.bw⟩
  rw [hE.cell (p := ⟨g, 0 + k, none⟩) h.lt, hE.frozen (p := ⟨g, 0 + k, none⟩) h.lt]
  exact h.there k hk
theorem RowW.set {B : Nat} {w0 wr : World} {g : Nat} {zs : List Rec} (h : RowW B w0 wr g zs) (i : Nat) (x : Rec) (hi : i < zs.length) : RowW B w0 (wr.setCells g (i * 4) (rcells x)) g (zs.set i x) :=
  ⟨range_set h.row hi, by rw [List.length_set]; exact World.there_setCells h.there _ _ _, below_setCells h.base _ _ _ h.below, by rw [size_setCells]; exact h.lt, h.base, h.bw⟩
theorem RowW.cells {B : Nat} {w0 wr : World} {g : Nat} {zs : List Rec} (h : RowW B w0 wr g zs) {j : Nat} {y : Rec} (hy : zs[j]? = some y) :
    wr.cell? ⟨g, j * 4, none⟩ = some (.int .i64 y.st) ∧ wr.cell? ⟨g, j * 4 + 1, none⟩ = some (.int .i64 y.num) ∧ wr.cell? ⟨g, j * 4 + 2, none⟩ = some (.int .i64 y.hr) ∧ wr.cell? ⟨g, j * 4 + 3, none⟩ = some (.string y.txt) := by
  have := rowcells (w := wr) (b := g) (off := 0) (xs := zs) h.row hy
  simpa using this
theorem RowW.marks {B : Nat} {w0 wr : World} {g : Nat} {zs : List Rec} (h : RowW B w0 wr g zs) {j : Nat} (hj : j < zs.length) :
    wr.frozen? ⟨g, j * 4, none⟩ = false ∧ wr.frozen? ⟨g, j * 4 + 1, none⟩ = false ∧ wr.frozen? ⟨g, j * 4 + 2, none⟩ = false ∧ wr.frozen? ⟨g, j * 4 + 3, none⟩ = false := by
  have k := fun m (hm : m < zs.length * 4) => (h.there m hm).2
  simp only [Nat.zero_add] at k
  exact ⟨k _ (by omega), k _ (by omega), k _ (by omega), k _ (by omega)⟩
/-- a comes not behind b. -/
def leR (a b : Rec) : Prop := 0 ≤ ordC b a
theorem ordC_nonneg (a b : Rec) : 0 ≤ ordC b a ↔ (a.hr < b.hr ∨ (a.hr = b.hr ∧ (a.st < b.st ∨ (a.st = b.st ∧ a.num ≤ b.num)))) := by
  unfold ordC refC or2 cmpI
  repeat' split
  all_goals omega
theorem leR_trans {a b c : Rec} (h : leR a b) (k : leR b c) : leR a c := by
  unfold leR at *
  rw [ordC_nonneg] at *
  omega
theorem leR_of_lt {a b : Rec} (h : ordC a b < 0) : leR a b := by
  unfold leR
  rw [ordC_nonneg]
  have : ¬ 0 ≤ ordC a b := by omega
  rw [ordC_nonneg] at this
  omega
/-- The same records, in another order between a and b. -/
structure Moved (a b : Nat) (zs zs' : List Rec) : Prop where
  perm : zs'.Perm zs
  pre : ∀ k, k < a → zs'[k]? = zs[k]?
  post : ∀ k, b ≤ k → zs'[k]? = zs[k]?
theorem Moved.refl (a b : Nat) (zs : List Rec) : Moved a b zs zs := ⟨.refl _, fun _ _ => rfl, fun _ _ => rfl⟩
theorem Moved.trans {a b : Nat} {x y z : List Rec} (h : Moved a b x y) (k : Moved a b y z) : Moved a b x z :=
  ⟨k.perm.trans h.perm, fun i hi => (k.pre i hi).trans (h.pre i hi), fun i hi => (k.post i hi).trans (h.post i hi)⟩
theorem Moved.mono {a b a' b' : Nat} {x y : List Rec} (h : Moved a b x y) (ha : a' ≤ a) (hb : b ≤ b') : Moved a' b' x y :=
  ⟨h.perm, fun i hi => h.pre i (by omega), fun i hi => h.post i (by omega)⟩
def SortedOn (a b : Nat) (zs : List Rec) : Prop := ∀ (p q : Nat) x y, a ≤ p → p < q → q < b → zs[p]? = some x → zs[q]? = some y → leR x y
/-- In order up to i, but for the record at j, which sinks. -/
def Sinks (a i j : Nat) (zs : List Rec) : Prop := ∀ (p q : Nat) x y, a ≤ p → p < q → q ≤ i → q ≠ j → zs[p]? = some x → zs[q]? = some y → leR x y
theorem Sinks.start {a i : Nat} {zs : List Rec} (h : SortedOn a i zs) : Sinks a i i zs := fun p q x y h1 h2 h3 h4 => h p q x y h1 h2 (by omega)
theorem Sinks.done {a i j : Nat} {zs : List Rec} (h : Sinks a i j zs) (hs : j ≤ a ∨ ∃ x y, zs[j - 1]? = some y ∧ zs[j]? = some x ∧ leR y x) : SortedOn a (i + 1) zs := by
  intro p q x y h1 h2 h3 h4 h5
  by_cases hq : q = j
  · subst hq
    rcases hs with hs | ⟨x', y', e1, e2, e3⟩
    · omega
    · rw [e2] at h5; cases h5
      by_cases hp : p = q - 1
      · subst hp; rw [e1] at h4; cases h4; exact e3
      · exact leR_trans (h p (q - 1) _ _ h1 (by omega) (by omega) (by omega) h4 e1) e3
  · exact h p q x y h1 h2 (by omega) hq h4 h5
theorem Sinks.swap {a i j : Nat} {zs : List Rec} {x y : Rec} (h : Sinks a i (j + 1) zs) (haj : a ≤ j) (hji : j + 1 ≤ i) (hx : zs[j + 1]? = some x) (hy : zs[j]? = some y) (hlt : ordC x y < 0) : Sinks a i j ((zs.set (j + 1) y).set j x) := by
  have hl1 : j + 1 < zs.length := (List.getElem?_eq_some_iff.1 hx).1
  have g : ∀ k, ((zs.set (j + 1) y).set j x)[k]? = if k = j then some x else if k = j + 1 then some y else zs[k]? := by
    intro k
    simp only [List.getElem?_set, List.length_set]
    by_cases e : j = k
    · subst e; simp; omega
    · rw [if_neg e, if_neg (Ne.symm e)]
      by_cases e' : j + 1 = k
      · subst e'; simp; omega
      · rw [if_neg e', if_neg (Ne.symm e')]
  intro p q u v h1 h2 h3 h4 h5 h6
  rw [g] at h5 h6
  rw [if_neg h4] at h6
  have hle := leR_of_lt hlt
  by_cases hq : q = j + 1
  · rw [if_pos hq] at h6; cases h6
    by_cases hp : p = j
    · rw [if_pos hp] at h5; cases h5; exact hle
    · rw [if_neg hp, if_neg (by omega)] at h5
      exact h p j _ _ h1 (by omega) (by omega) (by omega) h5 hy
  · rw [if_neg hq] at h6
    by_cases hp : p = j
    · rw [if_pos hp] at h5; cases h5
      exact h (j + 1) q _ _ (by omega) (by omega) h3 hq hx h6
    · rw [if_neg hp] at h5
      by_cases hp' : p = j + 1
      · rw [if_pos hp'] at h5; cases h5
        exact h j q _ _ haj (by omega) h3 hq hy h6
      · rw [if_neg hp'] at h5
        exact h p q _ _ h1 h2 h3 hq h5 h6
theorem swap_moved {a b j : Nat} {zs : List Rec} {x y : Rec} (hx : zs[j + 1]? = some x) (hy : zs[j]? = some y) (ha : a ≤ j) (hb : j + 1 < b) : Moved a b zs ((zs.set (j + 1) y).set j x) := by
  obtain ⟨hl1, rfl⟩ := List.getElem?_eq_some_iff.1 hx
  obtain ⟨hl0, rfl⟩ := List.getElem?_eq_some_iff.1 hy
  refine ⟨List.set_set_perm hl1 hl0, fun k hk => ?_, fun k hk => ?_⟩
  · rw [List.getElem?_set_ne (by omega), List.getElem?_set_ne (by omega)]
  · rw [List.getElem?_set_ne (by omega), List.getElem?_set_ne (by omega)]
end Go.Proofs.YtgjahnomafpnfaaGreatDoor
