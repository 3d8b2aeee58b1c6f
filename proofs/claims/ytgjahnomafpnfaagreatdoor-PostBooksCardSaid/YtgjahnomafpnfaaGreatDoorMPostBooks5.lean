/- Lemmas and walks that this claim needs, in one text out of several; each states its own conditions. -/
import Derived.Test.YtgjahnomafpnfaaGreatDoorMPostBooks4
import Derived.Test.YtgjahnomafpnfaaGreatDoorMB2
import Derived.Deep.Cut
set_option linter.unusedVariables false
set_option linter.unusedSimpArgs false
/- The reference's Order: records put in one by one. -/
namespace Go.Proofs.YtgjahnomafpnfaaGreatDoor
open Go.RowKit
/-- One record comes before another. -/
def befB (a b : Rec) : Bool := if a.hr ≠ b.hr then decide (a.hr < b.hr) else if a.st ≠ b.st then decide (a.st < b.st) else decide (a.num < b.num)
theorem befB_leR {a b : Rec} (h : befB a b = true) : leR a b := by
  unfold befB at h
  rw [leR_iff]
  split at h
  · have := of_decide_eq_true h; omega
  · split at h
    · have := of_decide_eq_true h; omega
    · have := of_decide_eq_true h; omega
theorem befB_not {a b : Rec} (h : befB a b = false) : leR b a := by
  unfold befB at h
  rw [leR_iff]
  split at h
  · have := of_decide_eq_false h; omega
  · split at h
    · have := of_decide_eq_false h; omega
    · have := of_decide_eq_false h; omega
set_option maxHeartbeats 400000 in
set_option maxRecDepth 100000 in
theorem before_any (a b : Rec) (w : World) : Calls Tryz.prog 100 #[rv a, rv b] w fun e w' => e = .returned (.bool (befB a b)) ∧ Ext w w' := by
  have hE : RowKit.Hid (Ext w ((w.alloc (.cells #[.int .i64 a.st, .int .i64 a.num, .int .i64 a.hr, .string a.txt] 49)).alloc (.cells #[.int .i64 b.st, .int .i64 b.num, .int .i64 b.hr, .string b.txt] 49))) := Lib.hid ((Ext.alloc _ _).trans (Ext.alloc _ _))
  unfold befB
  obtain ⟨s, n, h, t⟩ := a
  obtain ⟨s', n', h', t'⟩ := b
  simp only at hE ⊢
  by_cases h1 : h = h'
  · by_cases h2 : s = s'
    · rw [if_neg (by simp [h1]), if_neg (by simp [h2])]
      have e1 : (h != h') = false := by simp [h1]
      have e2 : (s != s') = false := by simp [h2]
      clear h1 h2
      go_enter Tryz.func100, Tryz.ntmps100
      go_wp2
      go_ret
      exact ⟨rfl, hE.out⟩
    · rw [if_neg (by simp [h1]), if_pos h2]
      have e1 : (h != h') = false := by simp [h1]
      have e2 : (s != s') = true := by simp [h2]
      clear h1 h2
      go_enter Tryz.func100, Tryz.ntmps100
      go_wp2
      go_ret
      exact ⟨rfl, hE.out⟩
  · rw [if_pos h1]
    have e1 : (h != h') = true := by simp [h1]
    clear h1
    go_enter Tryz.func100, Tryz.ntmps100
    go_wp2
    go_ret
    exact ⟨rfl, hE.out⟩
/-- A record put in its place. -/
def putIn (out : List Rec) (at_ : Nat) (x : Rec) : List Rec := out.take at_ ++ [x] ++ out.drop at_
theorem putIn_perm (out : List Rec) (a : Nat) (x : Rec) : (putIn out a x).Perm (x :: out) := by
  unfold putIn
  have h1 : (out.take a ++ [x] ++ out.drop a).Perm ([x] ++ out.take a ++ out.drop a) := List.perm_append_comm.append_right _
  have h2 : [x] ++ out.take a ++ out.drop a = x :: out := by rw [List.append_assoc, List.take_append_drop]; rfl
  rw [h2] at h1
  exact h1
/-- Sorted, as a pairwise relation. -/
theorem putIn_sorted {out : List Rec} (h : out.Pairwise leR) (a : Nat) (x : Rec) (h1 : ∀ j y, j < a → out[j]? = some y → befB y x = true) (h2 : ∀ y, out[a]? = some y → befB y x = false) : (putIn out a x).Pairwise leR := by
  unfold putIn
  have ht := h.sublist (List.take_sublist a out)
  have hd := h.sublist (List.drop_sublist a out)
  rw [List.append_assoc]
  refine List.pairwise_append.2 ⟨ht, List.pairwise_append.2 ⟨List.pairwise_singleton _ _, hd, fun p hp q hq => ?_⟩, fun p hp q hq => ?_⟩
  · rw [List.mem_singleton] at hp
    subst hp
    obtain ⟨j, hj⟩ := List.getElem?_of_mem hq
    rw [List.getElem?_drop] at hj
    obtain ⟨y, hy⟩ : ∃ y, out[a]? = some y := ⟨_, List.getElem?_eq_getElem (by have := (List.getElem?_eq_some_iff.1 hj).1; omega)⟩
    have hb := befB_not (h2 y hy)
    rcases Nat.eq_zero_or_pos j with rfl | hpos
    · rw [Nat.add_zero, hy] at hj
      cases hj; exact hb
    · have hyq : leR y q := by
        have e1 := List.getElem?_eq_some_iff.1 hy
        have e2 := List.getElem?_eq_some_iff.1 hj
        have := List.pairwise_iff_getElem.1 h a (a + j) e1.1 e2.1 (by omega)
        rw [e1.2, e2.2] at this
        exact this
      exact leR_trans hb hyq
  · obtain ⟨j, hj⟩ := List.getElem?_of_mem hp
    have hja : j < a := by
      have := (List.getElem?_eq_some_iff.1 hj).1
      rw [List.length_take] at this
      omega
    rw [List.getElem?_take_of_lt hja] at hj
    have hpx := befB_leR (h1 j p hja hj)
    rcases List.mem_append.1 hq with q1 | q1
    · rw [List.mem_singleton.1 q1]; exact hpx
    · obtain ⟨i, hi⟩ := List.getElem?_of_mem q1
      rw [List.getElem?_drop] at hi
      have e1 := List.getElem?_eq_some_iff.1 hj
      have e2 := List.getElem?_eq_some_iff.1 hi
      have := List.pairwise_iff_getElem.1 h j (a + i) e1.1 e2.1 (by omega)
      rw [e1.2, e2.2] at this
      exact this
theorem sorted_inOrder {l ys : List Rec} (hp : ys.Perm l) (hs : ys.Pairwise leR) : InOrder l ys := by
  refine ⟨hp, fun j k y z h0 hjk hk hy hz => ?_⟩
  have e1 := List.getElem?_eq_some_iff.1 hy
  have e2 := List.getElem?_eq_some_iff.1 hz
  have := List.pairwise_iff_getElem.1 hs j k e1.1 e2.1 hjk
  rw [e1.2, e2.2] at this
  exact this
/-- Worlds behind more of the appends: what lies below B is the same; the rows in A stay. -/
structure OE (B : Nat) (A : List (List Rec)) (w w' : World) : Prop where
  below : Below B w w'
  keep : ∀ L ∈ A, ∀ v, OwnR w B v L → OwnR w' B v L
theorem OE.refl (B : Nat) (A : List (List Rec)) (w : World) : OE B A w w := ⟨Below.refl _ _, fun _ _ _ h => h⟩
theorem OE.trans {B : Nat} {A : List (List Rec)} {a b c : World} (h : OE B A a b) (k : OE B A b c) : OE B A a c := ⟨h.below.trans k.below, fun L hL v q => k.keep L hL v (h.keep L hL v q)⟩
theorem OE.ext {B : Nat} {A : List (List Rec)} {w w' : World} (hB : B ≤ w.heap.size) (h : Ext w w') : OE B A w w' := ⟨h.mono hB, fun L _ v q => q.ext h⟩
theorem OwnR.low {w : World} {B b : Nat} {v : Value} {xs : List Rec} (h : OwnR w B v xs) (hb : b ≤ B) : OwnR w b v xs := by
  obtain ⟨h1, h2⟩ := h
  refine ⟨h1, ?_⟩
  rcases h2 with q | ⟨g, cap, cur, e, hg, r⟩
  · exact .inl q
  · exact .inr ⟨g, cap, cur, e, by omega, r⟩
/-- A row stays through an append that writes what it has. -/
theorem OwnR.appL {w w' : World} {B : Nat} {v : Value} {L : List Rec} {r : Option Nat} {off : Nat} {news : List Value} (h : OwnR w B v L) (hE : ExtApp r off news w w') (hc : ∀ (i : Nat) u t, news[i]? = some u → (flat L)[off + i]? = some t → u = t) : OwnR w' B v L := by
  obtain ⟨h1, h2⟩ := h
  refine ⟨h1, ?_⟩
  rcases h2 with q | ⟨g, cap, cur, e, hg, hcur, r1, r2, r3, r4⟩
  · exact .inl q
  · have hlt : g < w.heap.size := (Array.getElem?_eq_some_iff.1 hcur).1
    by_cases hr : some g = r
    · obtain ⟨cs', k1, k2, k3, k4⟩ := hE.row g hr.symm cur 49 (0, 0) hcur
      refine .inr ⟨g, cap, cs', e, hg, k1, r1, r2, by rw [k2]; exact r3, ?_⟩
      rw [← r4]
      refine List.ext_getElem? fun j => ?_
      by_cases hj : j < L.length * 4
      · rw [List.getElem?_take_of_lt hj, List.getElem?_take_of_lt hj]
        have c1 : cs'.toList[j]? = cs'[j]? := by simp
        have c2 : cur.toList[j]? = cur[j]? := by simp
        rw [c1, c2]
        by_cases hin : off ≤ j ∧ j < off + news.length
        · obtain ⟨i, rfl⟩ : ∃ i, j = off + i := ⟨j - off, by omega⟩
          have hi : i < news.length := by omega
          rcases k4 i hi with q | q
          · exact q
          · rw [q]
            have hn : news[i]? = some news[i] := List.getElem?_eq_getElem hi
            have hlen : (flat L).length = L.length * 4 := by rw [flat_length]
            have hl : (flat L)[off + i]? = some ((flat L)[off + i]'(by rw [hlen]; exact hj)) := List.getElem?_eq_getElem _
            have := hc i _ _ hn hl
            rw [hn, this, ← hl, ← r4, List.getElem?_take_of_lt hj]
            simp
        · exact k3 j (by omega)
      · rw [List.getElem?_eq_none (by rw [List.length_take]; omega), List.getElem?_eq_none (by rw [List.length_take]; omega)]
    · exact .inr ⟨g, cap, cur, e, hg, by rw [hE.block g hlt hr]; exact hcur, r1, r2, r3, r4⟩
theorem OE.app {B : Nat} {A : List (List Rec)} {w w' : World} {r : Option Nat} {off : Nat} {news : List Value} (hb : Below B w w') (hE : ExtApp r off news w w') (hc : ∀ L ∈ A, ∀ (i : Nat) u t, news[i]? = some u → (flat L)[off + i]? = some t → u = t) : OE B A w w' :=
  ⟨hb, fun L hL v q => q.appL hE (hc L hL)⟩
theorem step_appS {ops : Array Oper} {o : Oper} {a : Act} {w : World} {K : Act → World → Prop} {Q : Exit → Act → World → Prop} {E : Prop} (hgd : o.guard = none) (s x : Operand)
    (ho : o.op = .call { callee := .builtin .append, args := #[s, x], argTypes := #[23, 23] }) (vs vx : Value) (hs : a.eval s = vs) (hx : a.eval x = vx)
    (v' : Value) (w' : World) (hr : (Builtin.append_ #[23, 23] o.type #[vs, vx]).run Tryz.prog w = .ok v' w') (hK : K (a.put o.dst v') w') :
    if Region.wanted o (yielded ops a.tmps) = true then Oper.wp Tryz.prog o a w K Q else E := by
  have hw : Region.wanted o (yielded ops a.tmps) = true := by simp [Region.wanted, hgd]
  rw [if_pos hw]
  exact Lib.wp_append_run w s x 23 23 ho vs vx hs hx v' w' hr hK
theorem step_appE {ops : Array Oper} {o : Oper} {a : Act} {w : World} {K : Act → World → Prop} {Q : Exit → Act → World → Prop} {E : Prop} (hgd : o.guard = none) (s x : Operand)
    (ho : o.op = .call { callee := .builtin .append, args := #[s, x], argTypes := #[23, 23] }) (vs vx : Value) (hs : a.eval s = vs) (hx : a.eval x = vx)
    (H : ∃ v' w', (Builtin.append_ #[23, 23] o.type #[vs, vx]).run Tryz.prog w = .ok v' w' ∧ K (a.put o.dst v') w') :
    if Region.wanted o (yielded ops a.tmps) = true then Oper.wp Tryz.prog o a w K Q else E := by
  obtain ⟨v', w', h1, h2⟩ := H
  exact step_appS hgd s x ho vs vx hs hx v' w' h1 h2
theorem own_new0 (w : World) (B : Nat) (hB : B ≤ w.heap.size) : OwnR (w.alloc (.cells #[] 49)) B (.slice (some ⟨w.heap.size, 0, none⟩) 0 0) [] :=
  ⟨rfl, .inr ⟨w.heap.size, 0, #[], rfl, hB, heap_alloc_new w _, Nat.le_refl _, by decide, rfl, rfl⟩⟩
theorem own_new1 (w : World) (B : Nat) (hB : B ≤ w.heap.size) (x : Rec) : OwnR (w.alloc (.cells #[.int .i64 x.st, .int .i64 x.num, .int .i64 x.hr, .string x.txt] 49)) B (.slice (some ⟨w.heap.size, 0, none⟩) 1 1) [x] :=
  ⟨rfl, .inr ⟨w.heap.size, 1, #[.int .i64 x.st, .int .i64 x.num, .int .i64 x.hr, .string x.txt], rfl, hB, heap_alloc_new w _, Nat.le_refl _, by decide, rfl, rfl⟩⟩
/-- An append to a row without room: the row is new. -/
theorem app_fresh {w : World} {B : Nat} {A : List (List Rec)} {v0 : Value} {g : Nat} (h : OwnR w B v0 []) (hv : v0 = .slice (some ⟨g, 0, none⟩) 0 0) (hB : B ≤ w.heap.size) (y : Value) (ys : List Rec) (hy : SlR w y ys) (hn : ys.length ≤ 1000000) (ty : TypeId) :
    ∃ v' w', (Builtin.append_ #[23, 23] ty #[v0, y]).run Tryz.prog w = .ok v' w' ∧ OwnR w' B v' ys ∧ OE B A w w' := by
  by_cases h0 : ys = []
  · subst h0
    obtain ⟨v', w', h1, h2, h3⟩ := app_sl w B v0 [] h y [] hy (by simp) hB ty
    exact ⟨v', w', h1, h2, OE.app (h3.below hB (OwnR.base h)) h3 (fun L _ i u t hu => by simp [flat] at hu)⟩
  · rcases hy with ⟨_, q⟩ | ⟨b, off, c, rfl, _, _, _, hc⟩
    · exact absurd q h0
    · have hr : RowR w w.heap.size none v0 [] := .inr ⟨⟨g, hv, (h.lt g (by rw [hv]; rfl)).2, fun j u hu => by simp [flat] at hu⟩, rfl⟩
      obtain ⟨gg, cap, w', h1, h2, h3, h4, h5⟩ := app_rows w w.heap.size none v0 [] hr ys (List.length_pos_iff.2 h0) ⟨b, off, none⟩ c (fun j u hu => by
        have e : (⟨b, off, none⟩ : Addr).add j = ⟨b, off + j, none⟩ := by unfold Addr.add; split <;> simp_all
        rw [e]; exact hc j u hu) (by simpa using hn) (Nat.le_refl _) ty
      simp only [List.length_nil, Nat.zero_add, flat, List.flatMap_nil, List.nil_append] at h1 h2
      have hE : Ext w w' := ⟨h3.os, h3.tape, h3.output, h3.size, fun j hj => h3.block j hj (by simp)⟩
      exact ⟨_, w', h1, OwnR.low (B := w.heap.size) h2 hB, OE.ext hB hE⟩
theorem flat_past (P R : List Rec) (i off : Nat) (ho : off = P.length * 4) : (flat (P ++ R))[off + i]? = (flat R)[i]? := by
  subst ho
  rw [flat_append, List.getElem?_append_right (by rw [flat_length]; omega), flat_length]
  congr 1; omega
theorem flat_none (L : List Rec) (i off : Nat) (ho : L.length * 4 ≤ off) : (flat L)[off + i]? = none := List.getElem?_eq_none (by rw [flat_length]; omega)
theorem compat_x (P D : List Rec) (x : Rec) : ∀ L ∈ [[], [x], P, P ++ [x], P ++ [x] ++ D], ∀ (i : Nat) u t, (flat [x])[i]? = some u → (flat L)[P.length * 4 + i]? = some t → u = t := by
  intro L hL i u t hu ht
  have hi : i < 4 := by have := (List.getElem?_eq_some_iff.1 hu).1; rw [flat_length] at this; simpa using this
  simp only [List.mem_cons, List.not_mem_nil, or_false] at hL
  rcases hL with rfl | rfl | rfl | rfl | rfl
  · rw [flat_none _ _ _ (by simp)] at ht; cases ht
  · rcases Nat.eq_zero_or_pos P.length with q | q
    · rw [q, Nat.zero_mul, Nat.zero_add, hu] at ht; exact Option.some.inj ht
    · rw [flat_none _ _ _ (by simp; omega)] at ht; cases ht
  · rw [flat_none _ _ _ (Nat.le_refl _)] at ht; cases ht
  · rw [flat_past _ _ _ _ rfl, hu] at ht; exact Option.some.inj ht
  · rw [List.append_assoc, flat_past _ _ _ _ rfl, flat_append, List.getElem?_append_left (by rw [flat_length]; simpa using hi), hu] at ht; exact Option.some.inj ht
theorem compat_d (P D : List Rec) (x : Rec) : ∀ L ∈ [[], [x], P, P ++ [x], P ++ [x] ++ D], ∀ (i : Nat) u t, (flat D)[i]? = some u → (flat L)[(P ++ [x]).length * 4 + i]? = some t → u = t := by
  intro L hL i u t hu ht
  simp only [List.mem_cons, List.not_mem_nil, or_false] at hL
  rcases hL with rfl | rfl | rfl | rfl | rfl
  · rw [flat_none _ _ _ (by simp)] at ht; cases ht
  · rw [flat_none _ _ _ (by simp; omega)] at ht; cases ht
  · rw [flat_none _ _ _ (by simp; omega)] at ht; cases ht
  · rw [flat_none _ _ _ (Nat.le_refl _)] at ht; cases ht
  · rw [flat_past _ _ _ _ rfl, hu] at ht; exact Option.some.inj ht
theorem slR_take {w : World} {g go n c : Nat} {out : List Rec} (h : SlR w (.slice (some ⟨g, go, none⟩) n c) out) {j : Nat} (hj : j ≤ out.length) : SlR w (.slice (some ⟨g, go, none⟩) j c) (out.take j) := by
  rcases h with ⟨h, _⟩ | ⟨b, off, cap, e, h1, h2, h3, h4⟩
  · cases h
  · cases e
    refine .inr ⟨g, go, c, by rw [List.length_take, Nat.min_eq_left hj], by rw [List.length_take]; omega, h2, h3, fun i u hu => h4 i u ?_⟩
    have hi := (List.getElem?_eq_some_iff.1 hu).1
    have e2 : flat out = flat (out.take j) ++ flat (out.drop j) := by rw [← flat_append, List.take_append_drop]
    rw [e2, List.getElem?_append_left hi]
    exact hu
theorem slR_drop {w : World} {g go c : Nat} {out : List Rec} (h : SlR w (.slice (some ⟨g, go, none⟩) out.length c) out) {j : Nat} (hj : j ≤ out.length) : SlR w (.slice (if c = j then some ⟨g, go, none⟩ else some ⟨g, go + j * 4, none⟩) (out.length - j) (c - j)) (out.drop j) := by
  rcases h with ⟨h, _⟩ | ⟨b, off, cap, e, h1, h2, h3, h4⟩
  · cases h
  · simp only [Value.slice.injEq, Option.some.injEq, Addr.mk.injEq, true_and, and_true] at e
    obtain ⟨⟨rfl, rfl⟩, rfl⟩ := e
    by_cases hc : c = j
    · have hd : out.drop j = [] := List.drop_eq_nil_of_le (by omega)
      rw [if_pos hc, hd]
      exact .inr ⟨g, go, c - j, by congr 1; simp; omega, by simp, by omega, h3, fun i u hu => by simp [flat] at hu⟩
    · rw [if_neg hc]
      refine .inr ⟨g, go + j * 4, c - j, by rw [List.length_drop], by rw [List.length_drop]; omega, by omega, h3, fun i u hu => ?_⟩
      have e2 : flat out = flat (out.take j) ++ flat (out.drop j) := by rw [← flat_append, List.take_append_drop]
      have := h4 (j * 4 + i) u (by
        rw [e2, List.getElem?_append_right (by rw [flat_length, List.length_take]; omega), flat_length, List.length_take, Nat.min_eq_left hj]
        rw [show j * 4 + i - j * 4 = i from by omega]
        exact hu)
      rwa [← Nat.add_assoc] at this
def OrderRPost (n : Int) (l : List Rec) (w : World) (e : Ending) (w' : World) : Prop :=
  Ext w w' ∧ ∃ v ys, e = .returned (.tuple #[v, .int .i64 (checkP n l).2]) ∧ SlR w' v ys ∧ ((checkP n l).2 = 0 → InOrder l ys) ∧ ((checkP n l).2 ≠ 0 → ys = [])
set_option maxHeartbeats 1600000 in
set_option maxRecDepth 100000 in
theorem OrderR_any (n : Int) (v : Value) (l : List Rec) (w : World) (hv : SlR w v l) (hl : l.length ≤ 100000) (ht : ∀ x ∈ l, x.txt.size ≤ 1000000) :
    Calls Tryz.prog 45 #[.int .i64 n, v] w (OrderRPost n l w) := by
  have HCR := Lib.hid (CheckRecordsR_any n v l w hv hl ht)
  obtain ⟨ao, cap, rfl, hc⟩ := hv.open
  have HC := Lib.hid hc
  clear hv hc ht
  by_cases he : (checkP n l).2 = 0
  · have HP0 : RowKit.Hid (∀ W v ys, Ext w W → SlR W v ys → InOrder l ys → OrderRPost n l w (.returned (.tuple #[v, .int .i64 0])) W) := Lib.hid (fun W v ys h1 h2 h3 => ⟨h1, v, ys, by rw [he], h2, fun _ => h3, fun h => absurd he h⟩)
    rw [he] at HCR
    clear he
    generalize (checkP n l).1 = C1 at *
    go_enter Tryz.func45, Tryz.ntmps45
    go_wp2_with fail
    refine HCR.out.mono ?_
    rintro e w1 ⟨rfl, hE1⟩
    have HE1 := Lib.hid hE1
    clear hE1 HCR
    go_wp2_with fail
    go_loopw [8, 9] (fun o i wr => ∃ k : Nat, k ≤ l.length ∧ i = .int .i64 k ∧ Ext w wr ∧ ∃ out, OwnR wr w.heap.size o out ∧ out.Perm (l.take k) ∧ out.Pairwise leR) (fun _ i _ => l.length - (intOf i).toNat)
    case atStart => exact ⟨0, by omega, rfl, HE1.out, [], World.ownsRow_nil _ _ _ _, by simp, List.Pairwise.nil⟩
    case round =>
      obtain ⟨k, hk, rfl, hE, out, hO, hpm, hsd⟩ := hrel
      have hol : out.length = k := by rw [hpm.length_eq, List.length_take]; omega
      obtain ⟨a, c, rfl⟩ := OwnR.shape hO
      have HE := Lib.hid hE
      have HO := Lib.hid hO
      have HPM := Lib.hid hpm
      have HSD := Lib.hid hsd
      clear hO hpm hsd
      by_cases hlt : k < l.length
      · obtain ⟨x, hx⟩ : ∃ x, l[k]? = some x := ⟨_, List.getElem?_eq_getElem hlt⟩
        obtain ⟨b, off, rfl, hb, x0, x1, x2, x3⟩ := HC.out k x hx
        replace x0 := hE.keep x0
        replace x1 := hE.keep x1
        replace x2 := hE.keep x2
        replace x3 := hE.keep x3
        have hltz : (k : Int) < l.length := by omega
        have HX := Lib.hid hx
        have HOL := Lib.hid hol
        clear hx hE hol
        go_wp2_with fail
        go_loopw [10] (fun i w2 => ∃ j : Nat, j ≤ out.length ∧ i = .int .i64 j ∧ Ext wr w2 ∧ ∀ (q : Nat) y, q < j → out[q]? = some y → befB y x = true) (fun i _ => out.length - (intOf i).toNat)
        case atStart => exact ⟨0, by omega, rfl, Ext.refl _, fun q y h => by omega⟩
        case round =>
          obtain ⟨j, hj, rfl, hE2, hjb⟩ := hrel
          have HJ := Lib.hid hjb
          have HE2 := Lib.hid hE2
          replace x0 := hE2.keep x0
          replace x1 := hE2.keep x1
          replace x2 := hE2.keep x2
          replace x3 := hE2.keep x3
          clear hjb
          by_cases hjl : j < out.length
          · have hjz : (j : Int) < out.length := by omega
            have hjb2 : j < 100000 := by have := HOL.out; omega
            obtain ⟨y, hy⟩ : ∃ y, out[j]? = some y := ⟨_, List.getElem?_eq_getElem hjl⟩
            obtain ⟨oo, oc, hoe, hoc⟩ := (HO.out.slR).open
            simp only [Value.slice.injEq] at hoe
            obtain ⟨g, go, hog, hgb, y0, y1, y2, y3⟩ := hoc j y hy
            obtain rfl : a = some ⟨g, go, none⟩ := hoe.1.trans hog
            replace y0 := hE2.keep y0
            replace y1 := hE2.keep y1
            replace y2 := hE2.keep y2
            replace y3 := hE2.keep y3
            have HY := Lib.hid hy
            clear hoe hoc hog hy
            go_wp2_with fail
            refine wp_drawn 14 (by kernel_rfl) (by kernel_rfl) (fun i => match i with
              | 13 => some fun v _ => v = .bool (befB y x)
              | _ => none) ?_ ?_
            · intro i φ hφ v w1 w2 h1 h2
              split at hφ <;> cases hφ
              exact h1
            intro ν
            simp only [List.take_succ_cons, List.take_zero]
            iterate 13 (refine Seq.pure ?_ rfl (fun w' hw hf => ?_) ?_; rotate_left; (· (have a0 := hw.keep (w := World.drew _) y0; have a1 := hw.keep (w := World.drew _) y1; have a2 := hw.keep (w := World.drew _) y2; have a3 := hw.keep (w := World.drew _) y3; have b0 := hw.keep (w := World.drew _) x0; have b1 := hw.keep (w := World.drew _) x1; have b2 := hw.keep (w := World.drew _) x2; have b3 := hw.keep (w := World.drew _) x3; unfold pureG; go_simp; with_reducible rfl)); simp only [Act.put, List.setIfInBounds_toArray, List.set_cons_zero, List.set_cons_succ, Nat.reduceAdd, Nat.zero_add])
            refine Seq.eff _ rfl (fun w' hw hf => giveG_of rfl (by simp) fun K hK => ?_) ?_
            · go_simp
              refine (before_any y x _).mono ?_
              rintro e w2 ⟨rfl, hb⟩
              exact hK _ _ ⟨rfl, hb⟩
            simp only [Act.put, List.setIfInBounds_toArray, List.set_cons_zero, List.set_cons_succ, Nat.reduceAdd, Nat.zero_add]
            refine Seq.nil fun w6 hw hf => tail_one (i := 14) (by kernel_rfl) rfl (by kernel_rfl) rfl ?_
            have e13 := hf 13 _ (by omega) rfl
            rw [e13]
            have hE6 : Ext wr w6 := (Ext.drew wr).trans hw
            clear y0 y1 y2 y3 e13 hf
            cases hbf : befB y x with
            | true =>
              have HE6 := Lib.hid (HE2.out.trans hE6)
              have HBF := Lib.hid hbf
              clear hbf hw hE6 x0 x1 x2 x3
              go_wp2_with fail
              go_roundw
              case rel =>
                refine ⟨j + 1, by omega, by go_num, HE6.out, fun q z hq hz => ?_⟩
                rcases (by omega : q < j ∨ q = j) with h | rfl
                · exact HJ.out q z h hz
                · rw [HY.out] at hz; cases hz; exact HBF.out
              case measure => simp [intOf]; omega
            | false =>
              have hstop : ∀ z, out[j]? = some z → befB z x = false := fun z hz => by rw [HY.out] at hz; cases hz; exact hbf
              have HST := Lib.hid hstop
              clear hstop hbf hw
              replace x0 := hE6.keep x0
              replace x1 := hE6.keep x1
              replace x2 := hE6.keep x2
              replace x3 := hE6.keep x3
              have HE6 := Lib.hid (HE.out.trans (hE2.trans hE6))
              have HO6 := Lib.hid (HO.out.ext (hE2.trans hE6))
              clear hE6 hE2
              go_wp2_with fail
              have hcap : out.length ≤ c := by
                rcases HO6.out.2 with ⟨q, _⟩ | ⟨g', cap', cur, q, _, _, q2, _⟩
                · cases q
                · cases q; exact q2
              have hjc : (j : Int) ≤ c := by omega
              have HT1 := Lib.hid (slR_take (OwnR.slR HO6.out) hj)
              have HT2 := Lib.hid (slR_drop (OwnR.slR HO6.out) hj)
              have hk5 : out.length ≤ 100000 := by have := HOL.out; omega
              clear hcap
              refine wp_drawnE (OE w6.heap.size [[], [x], out.take j, out.take j ++ [x], out.take j ++ [x] ++ out.drop j]) 15 (by kernel_rfl) (by kernel_rfl) (fun i => match i with
                | 0 => some fun u w' => OwnR w' w6.heap.size u [] ∧ ∃ g, u = .slice (some ⟨g, 0, none⟩) 0 0
                | 4 => some fun u w' => OwnR w' w6.heap.size u (out.take j)
                | 9 => some fun u w' => OwnR w' w6.heap.size u [x]
                | 10 => some fun u w' => OwnR w' w6.heap.size u (out.take j ++ [x])
                | 14 => some fun u w' => OwnR w' w6.heap.size u (out.take j ++ [x] ++ out.drop j)
                | _ => none) (OE.refl _ _) (fun h k => h.trans k) ?_ ?_
              · intro i φ hφ u w1 w2 h1 h2
                split at hφ <;> cases hφ
                · exact ⟨h2.keep _ (by simp) _ h1.1, h1.2⟩
                · exact h2.keep _ (by simp) _ h1
                · exact h2.keep _ (by simp) _ h1
                · exact h2.keep _ (by simp) _ h1
                · exact h2.keep _ (by simp) _ h1
              intro ν
              simp only [List.take_succ_cons, List.take_zero]
              refine Seq.eff _ rfl (fun w' hw hf => giveG_of rfl (by simp) fun K hK => ?_) ?_
              · go_simp
                have hz : w6.heap.size ≤ w'.heap.size := hw.below.size
                exact hK _ _ ⟨⟨own_new0 w' _ hz, _, rfl⟩, OE.ext hz (Ext.alloc _ _)⟩
              simp only [Act.put, List.setIfInBounds_toArray, List.set_cons_zero, List.set_cons_succ, Nat.reduceAdd, Nat.zero_add]
              iterate 3 (refine Seq.pure ?_ rfl (fun w' hw hf => ?_) ?_; rotate_left; (· (skip; unfold pureG; go_simp; with_reducible rfl)); simp only [Act.put, List.setIfInBounds_toArray, List.set_cons_zero, List.set_cons_succ, Nat.reduceAdd, Nat.zero_add])
              refine Seq.eff _ rfl (fun w' hw hf => giveG_of rfl (by simp) fun K hK => ?_) ?_
              · obtain ⟨ho, g0, hg0⟩ := hf 0 _ rfl (by kernel_rfl)
                have hz : w6.heap.size ≤ w'.heap.size := hw.below.size
                obtain ⟨v', w2, hr, h1, h2⟩ := app_fresh (A := [[], [x], out.take j, out.take j ++ [x], out.take j ++ [x] ++ out.drop j]) ho hg0 hz _ (out.take j) (HT1.out.ext ((Ext.drew w6).trans hw.below)) (by rw [List.length_take]; omega) 23
                exact step_appS rfl (.tmp 43) (.tmp 46) rfl _ _ rfl rfl v' w2 hr (hK _ _ ⟨h1, h2⟩)
              simp only [Act.put, List.setIfInBounds_toArray, List.set_cons_zero, List.set_cons_succ, Nat.reduceAdd, Nat.zero_add]
              iterate 4 (refine Seq.pure ?_ rfl (fun w' hw hf => ?_) ?_; rotate_left; (· (have hwb : Ext w6 w' := (Ext.drew w6).trans hw.below; have a0 := hwb.keep x0; have a1 := hwb.keep x1; have a2 := hwb.keep x2; have a3 := hwb.keep x3; unfold pureG; go_simp; with_reducible rfl)); simp only [Act.put, List.setIfInBounds_toArray, List.set_cons_zero, List.set_cons_succ, Nat.reduceAdd, Nat.zero_add])
              refine Seq.eff _ rfl (fun w' hw hf => giveG_of rfl (by simp) fun K hK => ?_) ?_
              · go_simp
                have hz : w6.heap.size ≤ w'.heap.size := hw.below.size
                exact hK _ _ ⟨own_new1 w' _ hz x, OE.ext hz (Ext.alloc _ _)⟩
              simp only [Act.put, List.setIfInBounds_toArray, List.set_cons_zero, List.set_cons_succ, Nat.reduceAdd, Nat.zero_add]
              refine Seq.eff _ rfl (fun w' hw hf => giveG_of rfl (by simp) fun K hK => ?_) ?_
              · have h4 := hf 4 _ rfl (by kernel_rfl)
                have h9 := hf 9 _ rfl (by kernel_rfl)
                have hz : w6.heap.size ≤ w'.heap.size := hw.below.size
                obtain ⟨v', w2, hr, h1, h2⟩ := app_sl w' w6.heap.size _ _ h4 _ [x] (OwnR.slR h9) (by rw [List.length_take]; simp; omega) hz 23
                exact step_appS rfl (.tmp 47) (.tmp 52) rfl _ _ rfl rfl v' w2 hr (hK _ _ ⟨h1, OE.app (h2.below hz (OwnR.base h4)) h2 (compat_x _ _ _)⟩)
              simp only [Act.put, List.setIfInBounds_toArray, List.set_cons_zero, List.set_cons_succ, Nat.reduceAdd, Nat.zero_add]
              iterate 3 (refine Seq.pure ?_ rfl (fun w' hw hf => ?_) ?_; rotate_left; (· (skip; unfold pureG; go_simp; with_reducible rfl)); simp only [Act.put, List.setIfInBounds_toArray, List.set_cons_zero, List.set_cons_succ, Nat.reduceAdd, Nat.zero_add])
              refine Seq.eff _ rfl (fun w' hw hf => giveG_of rfl (by simp) fun K hK => ?_) ?_
              · have h10 := hf 10 _ rfl (by kernel_rfl)
                have hz : w6.heap.size ≤ w'.heap.size := hw.below.size
                refine step_appE rfl (.tmp 53) (.tmp 56) rfl _ _ rfl rfl ?_
                obtain ⟨v', w2, hr, h1, h2⟩ := app_sl w' w6.heap.size _ _ h10 _ (out.drop j) (HT2.out.ext ((Ext.drew w6).trans hw.below)) (by rw [List.length_append, List.length_take, List.length_drop]; simp; omega) hz 23
                refine ⟨v', w2, ?_, hK _ _ ⟨h1, OE.app (h2.below hz (OwnR.base h10)) h2 (compat_d _ _ _)⟩⟩
                exact hr
              simp only [Act.put, List.setIfInBounds_toArray, List.set_cons_zero, List.set_cons_succ, Nat.reduceAdd, Nat.zero_add]
              refine Seq.nil fun w7 hw hf => tail_one (i := 15) (by kernel_rfl) rfl (by kernel_rfl) rfl ?_
              have e14 := hf 14 _ (by omega) rfl
              have hE7 : Ext w6 w7 := (Ext.drew w6).trans hw.below
              obtain ⟨a7, m7, c7, e7⟩ := OwnR.shape3 e14
              rw [e7] at e14 ⊢
              have HE7 := Lib.hid (Ext.trans HE6.out hE7)
              have HO7 := Lib.hid (OwnR.low (b := w.heap.size) e14 HE6.out.size)
              clear hf hw e14 e7 hE7 x0 x1 x2 x3
              go_wp2_with fail
              go_roundw
              case rel =>
                refine ⟨k + 1, by omega, by go_num, HE7.out, putIn out j x, HO7.out, ?_, putIn_sorted HSD.out j x HJ.out HST.out⟩
                refine (putIn_perm out j x).trans ?_
                have e9 : l.take (k + 1) = l.take k ++ [x] := by rw [List.take_add_one, HX.out]; rfl
                rw [e9]
                exact ((List.Perm.cons x HPM.out).trans (List.perm_append_singleton x _).symm)
              case measure => simp [intOf]; omega
          · have hjz : ¬ ((j : Int) < out.length) := by omega
            have hd : decide ((j : Int) < out.length) = false := by simpa using hjz
            go_wp2_with fail
            go_quiet (fail)
            have hE6 : Ext wr (wr.drewN nq) := _root_.Go.below_drewN (Below.refl _ _) nq
            generalize wr.drewN nq = w6 at hE6 ⊢
            replace x0 := hE6.keep x0
            replace x1 := hE6.keep x1
            replace x2 := hE6.keep x2
            replace x3 := hE6.keep x3
            have HST : RowKit.Hid (∀ z, out[j]? = some z → befB z x = false) := Lib.hid (fun z hz => by have := (List.getElem?_eq_some_iff.1 hz).1; omega)
            have HE6 := Lib.hid (HE.out.trans (hE2.trans hE6))
            have HO6 := Lib.hid (HO.out.ext (hE2.trans hE6))
            have hk5 : out.length ≤ 100000 := by have := HOL.out; omega
            clear hE6 hE2 hd
            cases a with
            | none =>
              have h00 : out = [] ∧ c = 0 := by
                rcases HO6.out.2 with ⟨q, q2⟩ | ⟨g', cap', cur, q, _⟩
                · simp only [Value.slice.injEq, true_and] at q
                  exact ⟨List.eq_nil_of_length_eq_zero q.1, q.2⟩
                · simp at q
              have hj0 : j = 0 := by
                have := h00.1
                rw [this] at hj
                simpa using hj
              have hjc : (j : Int) ≤ c := by have := h00.2; omega
              have HT1 : RowKit.Hid (SlR w6 (.slice none j c) (out.take j)) := Lib.hid (by rw [hj0, h00.2, h00.1]; exact .inl ⟨rfl, rfl⟩)
              have HT2 : RowKit.Hid (SlR w6 (.slice none (out.length - j) (c - j)) (out.drop j)) := Lib.hid (by rw [hj0, h00.2, h00.1]; exact .inl ⟨rfl, rfl⟩)
              clear h00 hj0
              go_wp2_with fail
              refine wp_drawnE (OE w6.heap.size [[], [x], out.take j, out.take j ++ [x], out.take j ++ [x] ++ out.drop j]) 15 (by kernel_rfl) (by kernel_rfl) (fun i => match i with
                | 0 => some fun u w' => OwnR w' w6.heap.size u [] ∧ ∃ g, u = .slice (some ⟨g, 0, none⟩) 0 0
                | 4 => some fun u w' => OwnR w' w6.heap.size u (out.take j)
                | 9 => some fun u w' => OwnR w' w6.heap.size u [x]
                | 10 => some fun u w' => OwnR w' w6.heap.size u (out.take j ++ [x])
                | 14 => some fun u w' => OwnR w' w6.heap.size u (out.take j ++ [x] ++ out.drop j)
                | _ => none) (OE.refl _ _) (fun h k => h.trans k) ?_ ?_
              · intro i φ hφ u w1 w2 h1 h2
                split at hφ <;> cases hφ
                · exact ⟨h2.keep _ (by simp) _ h1.1, h1.2⟩
                · exact h2.keep _ (by simp) _ h1
                · exact h2.keep _ (by simp) _ h1
                · exact h2.keep _ (by simp) _ h1
                · exact h2.keep _ (by simp) _ h1
              intro ν
              simp only [List.take_succ_cons, List.take_zero]
              refine Seq.eff _ rfl (fun w' hw hf => giveG_of rfl (by simp) fun K hK => ?_) ?_
              · go_simp
                have hz : w6.heap.size ≤ w'.heap.size := hw.below.size
                exact hK _ _ ⟨⟨own_new0 w' _ hz, _, rfl⟩, OE.ext hz (Ext.alloc _ _)⟩
              simp only [Act.put, List.setIfInBounds_toArray, List.set_cons_zero, List.set_cons_succ, Nat.reduceAdd, Nat.zero_add]
              iterate 3 (refine Seq.pure ?_ rfl (fun w' hw hf => ?_) ?_; rotate_left; (· (skip; unfold pureG; go_simp; with_reducible rfl)); simp only [Act.put, List.setIfInBounds_toArray, List.set_cons_zero, List.set_cons_succ, Nat.reduceAdd, Nat.zero_add])
              refine Seq.eff _ rfl (fun w' hw hf => giveG_of rfl (by simp) fun K hK => ?_) ?_
              · obtain ⟨ho, g0, hg0⟩ := hf 0 _ rfl (by kernel_rfl)
                have hz : w6.heap.size ≤ w'.heap.size := hw.below.size
                obtain ⟨v', w2, hr, h1, h2⟩ := app_fresh (A := [[], [x], out.take j, out.take j ++ [x], out.take j ++ [x] ++ out.drop j]) ho hg0 hz _ (out.take j) (HT1.out.ext ((Ext.drew w6).trans hw.below)) (by rw [List.length_take]; omega) 23
                exact step_appS rfl (.tmp 43) (.tmp 46) rfl _ _ rfl rfl v' w2 hr (hK _ _ ⟨h1, h2⟩)
              simp only [Act.put, List.setIfInBounds_toArray, List.set_cons_zero, List.set_cons_succ, Nat.reduceAdd, Nat.zero_add]
              iterate 4 (refine Seq.pure ?_ rfl (fun w' hw hf => ?_) ?_; rotate_left; (· (have hwb : Ext w6 w' := (Ext.drew w6).trans hw.below; have a0 := hwb.keep x0; have a1 := hwb.keep x1; have a2 := hwb.keep x2; have a3 := hwb.keep x3; unfold pureG; go_simp; with_reducible rfl)); simp only [Act.put, List.setIfInBounds_toArray, List.set_cons_zero, List.set_cons_succ, Nat.reduceAdd, Nat.zero_add])
              refine Seq.eff _ rfl (fun w' hw hf => giveG_of rfl (by simp) fun K hK => ?_) ?_
              · go_simp
                have hz : w6.heap.size ≤ w'.heap.size := hw.below.size
                exact hK _ _ ⟨own_new1 w' _ hz x, OE.ext hz (Ext.alloc _ _)⟩
              simp only [Act.put, List.setIfInBounds_toArray, List.set_cons_zero, List.set_cons_succ, Nat.reduceAdd, Nat.zero_add]
              refine Seq.eff _ rfl (fun w' hw hf => giveG_of rfl (by simp) fun K hK => ?_) ?_
              · have h4 := hf 4 _ rfl (by kernel_rfl)
                have h9 := hf 9 _ rfl (by kernel_rfl)
                have hz : w6.heap.size ≤ w'.heap.size := hw.below.size
                obtain ⟨v', w2, hr, h1, h2⟩ := app_sl w' w6.heap.size _ _ h4 _ [x] (OwnR.slR h9) (by rw [List.length_take]; simp; omega) hz 23
                exact step_appS rfl (.tmp 47) (.tmp 52) rfl _ _ rfl rfl v' w2 hr (hK _ _ ⟨h1, OE.app (h2.below hz (OwnR.base h4)) h2 (compat_x _ _ _)⟩)
              simp only [Act.put, List.setIfInBounds_toArray, List.set_cons_zero, List.set_cons_succ, Nat.reduceAdd, Nat.zero_add]
              iterate 3 (refine Seq.pure ?_ rfl (fun w' hw hf => ?_) ?_; rotate_left; (· (skip; unfold pureG; go_simp; with_reducible rfl)); simp only [Act.put, List.setIfInBounds_toArray, List.set_cons_zero, List.set_cons_succ, Nat.reduceAdd, Nat.zero_add])
              refine Seq.eff _ rfl (fun w' hw hf => giveG_of rfl (by simp) fun K hK => ?_) ?_
              · have h10 := hf 10 _ rfl (by kernel_rfl)
                have hz : w6.heap.size ≤ w'.heap.size := hw.below.size
                refine step_appE rfl (.tmp 53) (.tmp 56) rfl _ _ rfl rfl ?_
                obtain ⟨v', w2, hr, h1, h2⟩ := app_sl w' w6.heap.size _ _ h10 _ (out.drop j) (HT2.out.ext ((Ext.drew w6).trans hw.below)) (by rw [List.length_append, List.length_take, List.length_drop]; simp; omega) hz 23
                refine ⟨v', w2, ?_, hK _ _ ⟨h1, OE.app (h2.below hz (OwnR.base h10)) h2 (compat_d _ _ _)⟩⟩
                exact hr
              simp only [Act.put, List.setIfInBounds_toArray, List.set_cons_zero, List.set_cons_succ, Nat.reduceAdd, Nat.zero_add]
              refine Seq.nil fun w7 hw hf => tail_one (i := 15) (by kernel_rfl) rfl (by kernel_rfl) rfl ?_
              have e14 := hf 14 _ (by omega) rfl
              have hE7 : Ext w6 w7 := (Ext.drew w6).trans hw.below
              obtain ⟨a7, m7, c7, e7⟩ := OwnR.shape3 e14
              rw [e7] at e14 ⊢
              have HE7 := Lib.hid (Ext.trans HE6.out hE7)
              have HO7 := Lib.hid (OwnR.low (b := w.heap.size) e14 HE6.out.size)
              clear hf hw e14 e7 hE7 x0 x1 x2 x3
              go_wp2_with fail
              go_roundw
              case rel =>
                refine ⟨k + 1, by omega, by go_num, HE7.out, putIn out j x, HO7.out, ?_, putIn_sorted HSD.out j x HJ.out HST.out⟩
                refine (putIn_perm out j x).trans ?_
                have e9 : l.take (k + 1) = l.take k ++ [x] := by rw [List.take_add_one, HX.out]; rfl
                rw [e9]
                exact ((List.Perm.cons x HPM.out).trans (List.perm_append_singleton x _).symm)
              case measure => simp [intOf]; omega
            | some ad =>
              obtain ⟨g, go, rfl, hcap⟩ : ∃ g go, ad = ⟨g, go, none⟩ ∧ out.length ≤ c := by
                rcases HO6.out.2 with ⟨q, _⟩ | ⟨g', cap', cur, q, _, _, q2, _⟩
                · cases q
                · cases q; exact ⟨_, _, rfl, q2⟩
              have hjc : (j : Int) ≤ c := by omega
              have HT1 := Lib.hid (slR_take (OwnR.slR HO6.out) hj)
              have HT2 := Lib.hid (slR_drop (OwnR.slR HO6.out) hj)
              clear hcap
              go_wp2_with fail
              refine wp_drawnE (OE w6.heap.size [[], [x], out.take j, out.take j ++ [x], out.take j ++ [x] ++ out.drop j]) 15 (by kernel_rfl) (by kernel_rfl) (fun i => match i with
                | 0 => some fun u w' => OwnR w' w6.heap.size u [] ∧ ∃ g, u = .slice (some ⟨g, 0, none⟩) 0 0
                | 4 => some fun u w' => OwnR w' w6.heap.size u (out.take j)
                | 9 => some fun u w' => OwnR w' w6.heap.size u [x]
                | 10 => some fun u w' => OwnR w' w6.heap.size u (out.take j ++ [x])
                | 14 => some fun u w' => OwnR w' w6.heap.size u (out.take j ++ [x] ++ out.drop j)
                | _ => none) (OE.refl _ _) (fun h k => h.trans k) ?_ ?_
              · intro i φ hφ u w1 w2 h1 h2
                split at hφ <;> cases hφ
                · exact ⟨h2.keep _ (by simp) _ h1.1, h1.2⟩
                · exact h2.keep _ (by simp) _ h1
                · exact h2.keep _ (by simp) _ h1
                · exact h2.keep _ (by simp) _ h1
                · exact h2.keep _ (by simp) _ h1
              intro ν
              simp only [List.take_succ_cons, List.take_zero]
              refine Seq.eff _ rfl (fun w' hw hf => giveG_of rfl (by simp) fun K hK => ?_) ?_
              · go_simp
                have hz : w6.heap.size ≤ w'.heap.size := hw.below.size
                exact hK _ _ ⟨⟨own_new0 w' _ hz, _, rfl⟩, OE.ext hz (Ext.alloc _ _)⟩
              simp only [Act.put, List.setIfInBounds_toArray, List.set_cons_zero, List.set_cons_succ, Nat.reduceAdd, Nat.zero_add]
              iterate 3 (refine Seq.pure ?_ rfl (fun w' hw hf => ?_) ?_; rotate_left; (· (skip; unfold pureG; go_simp; with_reducible rfl)); simp only [Act.put, List.setIfInBounds_toArray, List.set_cons_zero, List.set_cons_succ, Nat.reduceAdd, Nat.zero_add])
              refine Seq.eff _ rfl (fun w' hw hf => giveG_of rfl (by simp) fun K hK => ?_) ?_
              · obtain ⟨ho, g0, hg0⟩ := hf 0 _ rfl (by kernel_rfl)
                have hz : w6.heap.size ≤ w'.heap.size := hw.below.size
                obtain ⟨v', w2, hr, h1, h2⟩ := app_fresh (A := [[], [x], out.take j, out.take j ++ [x], out.take j ++ [x] ++ out.drop j]) ho hg0 hz _ (out.take j) (HT1.out.ext ((Ext.drew w6).trans hw.below)) (by rw [List.length_take]; omega) 23
                exact step_appS rfl (.tmp 43) (.tmp 46) rfl _ _ rfl rfl v' w2 hr (hK _ _ ⟨h1, h2⟩)
              simp only [Act.put, List.setIfInBounds_toArray, List.set_cons_zero, List.set_cons_succ, Nat.reduceAdd, Nat.zero_add]
              iterate 4 (refine Seq.pure ?_ rfl (fun w' hw hf => ?_) ?_; rotate_left; (· (have hwb : Ext w6 w' := (Ext.drew w6).trans hw.below; have a0 := hwb.keep x0; have a1 := hwb.keep x1; have a2 := hwb.keep x2; have a3 := hwb.keep x3; unfold pureG; go_simp; with_reducible rfl)); simp only [Act.put, List.setIfInBounds_toArray, List.set_cons_zero, List.set_cons_succ, Nat.reduceAdd, Nat.zero_add])
              refine Seq.eff _ rfl (fun w' hw hf => giveG_of rfl (by simp) fun K hK => ?_) ?_
              · go_simp
                have hz : w6.heap.size ≤ w'.heap.size := hw.below.size
                exact hK _ _ ⟨own_new1 w' _ hz x, OE.ext hz (Ext.alloc _ _)⟩
              simp only [Act.put, List.setIfInBounds_toArray, List.set_cons_zero, List.set_cons_succ, Nat.reduceAdd, Nat.zero_add]
              refine Seq.eff _ rfl (fun w' hw hf => giveG_of rfl (by simp) fun K hK => ?_) ?_
              · have h4 := hf 4 _ rfl (by kernel_rfl)
                have h9 := hf 9 _ rfl (by kernel_rfl)
                have hz : w6.heap.size ≤ w'.heap.size := hw.below.size
                obtain ⟨v', w2, hr, h1, h2⟩ := app_sl w' w6.heap.size _ _ h4 _ [x] (OwnR.slR h9) (by rw [List.length_take]; simp; omega) hz 23
                exact step_appS rfl (.tmp 47) (.tmp 52) rfl _ _ rfl rfl v' w2 hr (hK _ _ ⟨h1, OE.app (h2.below hz (OwnR.base h4)) h2 (compat_x _ _ _)⟩)
              simp only [Act.put, List.setIfInBounds_toArray, List.set_cons_zero, List.set_cons_succ, Nat.reduceAdd, Nat.zero_add]
              iterate 3 (refine Seq.pure ?_ rfl (fun w' hw hf => ?_) ?_; rotate_left; (· (skip; unfold pureG; go_simp; with_reducible rfl)); simp only [Act.put, List.setIfInBounds_toArray, List.set_cons_zero, List.set_cons_succ, Nat.reduceAdd, Nat.zero_add])
              refine Seq.eff _ rfl (fun w' hw hf => giveG_of rfl (by simp) fun K hK => ?_) ?_
              · have h10 := hf 10 _ rfl (by kernel_rfl)
                have hz : w6.heap.size ≤ w'.heap.size := hw.below.size
                refine step_appE rfl (.tmp 53) (.tmp 56) rfl _ _ rfl rfl ?_
                obtain ⟨v', w2, hr, h1, h2⟩ := app_sl w' w6.heap.size _ _ h10 _ (out.drop j) (HT2.out.ext ((Ext.drew w6).trans hw.below)) (by rw [List.length_append, List.length_take, List.length_drop]; simp; omega) hz 23
                refine ⟨v', w2, ?_, hK _ _ ⟨h1, OE.app (h2.below hz (OwnR.base h10)) h2 (compat_d _ _ _)⟩⟩
                exact hr
              simp only [Act.put, List.setIfInBounds_toArray, List.set_cons_zero, List.set_cons_succ, Nat.reduceAdd, Nat.zero_add]
              refine Seq.nil fun w7 hw hf => tail_one (i := 15) (by kernel_rfl) rfl (by kernel_rfl) rfl ?_
              have e14 := hf 14 _ (by omega) rfl
              have hE7 : Ext w6 w7 := (Ext.drew w6).trans hw.below
              obtain ⟨a7, m7, c7, e7⟩ := OwnR.shape3 e14
              rw [e7] at e14 ⊢
              have HE7 := Lib.hid (Ext.trans HE6.out hE7)
              have HO7 := Lib.hid (OwnR.low (b := w.heap.size) e14 HE6.out.size)
              clear hf hw e14 e7 hE7 x0 x1 x2 x3
              go_wp2_with fail
              go_roundw
              case rel =>
                refine ⟨k + 1, by omega, by go_num, HE7.out, putIn out j x, HO7.out, ?_, putIn_sorted HSD.out j x HJ.out HST.out⟩
                refine (putIn_perm out j x).trans ?_
                have e9 : l.take (k + 1) = l.take k ++ [x] := by rw [List.take_add_one, HX.out]; rfl
                rw [e9]
                exact ((List.Perm.cons x HPM.out).trans (List.perm_append_singleton x _).symm)
              case measure => simp [intOf]; omega
      · have hltz : ¬ ((k : Int) < l.length) := by omega
        obtain rfl : k = l.length := by omega
        have hfin : RowKit.Hid (OrderRPost n l w (.returned (.tuple #[.slice a l.length c, .int .i64 0])) wr) := Lib.hid (HP0.out wr _ out HE.out (by rw [← hol]; exact OwnR.slR HO.out) (sorted_inOrder (by have := HPM.out; rwa [List.take_length] at this) HSD.out))
        clear hE
        go_wp2_with fail
        go_ret2
        exact hfin.out
  · have hne : ((checkP n l).2 != 0) = true := by simpa using he
    have HP0 : RowKit.Hid (∀ W, Ext w W → OrderRPost n l w (.returned (.tuple #[.slice none 0 0, .int .i64 (checkP n l).2])) W) := Lib.hid (fun W h1 => ⟨h1, _, [], rfl, .inl ⟨rfl, rfl⟩, fun h => absurd h he, fun _ => rfl⟩)
    clear he
    generalize (checkP n l).2 = E at *
    generalize (checkP n l).1 = C1 at *
    go_enter Tryz.func45, Tryz.ntmps45
    go_wp2_with fail
    refine HCR.out.mono ?_
    rintro e w1 ⟨rfl, hE1⟩
    have HE1 := Lib.hid hE1
    clear hE1 HCR
    go_wp2_with fail
    go_ret2
    exact HP0.out w1 HE1.out
end Go.Proofs.YtgjahnomafpnfaaGreatDoor

/- Merging in place: swaps, rotations and halves of a row; no program in sight. -/
namespace Go.Proofs.YtgjahnomafpnfaaGreatDoor
open Go.RowKit
/-- zs' is zs with the places turned by s. -/
structure Re (s : Nat → Nat) (zs zs' : List Rec) : Prop where
  perm : zs'.Perm zs
  at_ : ∀ k, zs'[k]? = zs[s k]?
theorem Re.refl (zs : List Rec) : Re (fun k => k) zs zs := ⟨.refl _, fun _ => rfl⟩
theorem Re.len {s : Nat → Nat} {zs zs' : List Rec} (h : Re s zs zs') : zs'.length = zs.length := h.perm.length_eq
theorem Re.of {s s' : Nat → Nat} {zs zs' : List Rec} (h : Re s zs zs') (hs : ∀ k, s k = s' k) : Re s' zs zs' := ⟨h.perm, fun k => by rw [h.at_, hs]⟩
theorem swap_get {zs : List Rec} {i j : Nat} {x y : Rec} (hi : zs[i]? = some x) (hj : zs[j]? = some y) (k : Nat) : ((zs.set i y).set j x)[k]? = zs[if k = j then i else if k = i then j else k]? := by
  have li := (List.getElem?_eq_some_iff.1 hi).1
  have lj := (List.getElem?_eq_some_iff.1 hj).1
  simp only [List.getElem?_set, List.length_set]
  by_cases e : k = j
  · rw [if_pos e.symm, if_pos lj, if_pos e, hi]
  · rw [if_neg (Ne.symm e), if_neg e]
    by_cases e' : k = i
    · rw [if_pos e'.symm, if_pos li, if_pos e', hj]
    · rw [if_neg (Ne.symm e'), if_neg e']
theorem swap_perm {zs : List Rec} {i j : Nat} {x y : Rec} (hi : zs[i]? = some x) (hj : zs[j]? = some y) : ((zs.set i y).set j x).Perm zs := by
  obtain ⟨hl1, rfl⟩ := List.getElem?_eq_some_iff.1 hi
  obtain ⟨hl0, rfl⟩ := List.getElem?_eq_some_iff.1 hj
  exact List.set_set_perm hl1 hl0
theorem Re.swap {s : Nat → Nat} {zs ys : List Rec} (h : Re s zs ys) {i j : Nat} {x y : Rec} (hi : ys[i]? = some x) (hj : ys[j]? = some y) : Re (fun k => s (if k = j then i else if k = i then j else k)) zs ((ys.set i y).set j x) :=
  ⟨(swap_perm hi hj).trans h.perm, fun k => by rw [swap_get hi hj, h.at_]⟩
/-- k places from a on against k places from b on. -/
def sigR (a b k t : Nat) : Nat := if a ≤ t ∧ t < a + k then t - a + b else if b ≤ t ∧ t < b + k then t - b + a else t
theorem Re.range {a b k : Nat} {zs ys : List Rec} (hab : a + (k + 1) ≤ b) (h : Re (sigR a b k) zs ys) {x y : Rec} (hi : ys[a + k]? = some x) (hj : ys[b + k]? = some y) : Re (sigR a b (k + 1)) zs ((ys.set (a + k) y).set (b + k) x) := by
  refine (h.swap hi hj).of fun t => ?_
  unfold sigR
  repeat' split
  all_goals omega
/-- [a, m) and [m, b) change places. -/
def rot (a m b t : Nat) : Nat := if a ≤ t ∧ t < a + (b - m) then t - a + m else if a + (b - m) ≤ t ∧ t < b then t - (b - m) else t
/-- Where a rotation stands. -/
structure RotSt (a m b : Nat) (zs ys : List Rec) (i j : Nat) : Prop where
  perm : ys.Perm zs
  at_ : ∀ k, zs[rot a m b k]? = ys[rot (m - i) m (m + j) k]?
  i1 : 1 ≤ i
  j1 : 1 ≤ j
  im : a + i ≤ m
  jb : m + j ≤ b
theorem RotSt.start {a m b : Nat} {zs : List Rec} (h1 : a < m) (h2 : m < b) : RotSt a m b zs zs (m - a) (b - m) :=
  ⟨.refl _, fun k => by rw [show m - (m - a) = a from by omega, show m + (b - m) = b from by omega], by omega, by omega, by omega, by omega⟩
theorem RotSt.big {a m b : Nat} {zs ys ys' : List Rec} {i j : Nat} (h : RotSt a m b zs ys i j) (hij : j < i) (k : Re (sigR (m - i) m j) ys ys') : RotSt a m b zs ys' (i - j) j := by
  have := h.im
  refine ⟨k.perm.trans h.perm, fun t => ?_, by omega, h.j1, by omega, h.jb⟩
  rw [h.at_, k.at_]
  congr 1
  unfold rot sigR
  repeat' split
  all_goals omega
theorem RotSt.small {a m b : Nat} {zs ys ys' : List Rec} {i j : Nat} (h : RotSt a m b zs ys i j) (hij : i < j) (k : Re (sigR (m - i) (m + j - i) i) ys ys') : RotSt a m b zs ys' i (j - i) := by
  have := h.im
  have := h.jb
  refine ⟨k.perm.trans h.perm, fun t => ?_, h.i1, by omega, h.im, by omega⟩
  rw [h.at_, k.at_]
  congr 1
  unfold rot sigR
  repeat' split
  all_goals omega
theorem RotSt.done {a m b : Nat} {zs ys ys' : List Rec} {i : Nat} (h : RotSt a m b zs ys i i) (k : Re (sigR (m - i) m i) ys ys') : Re (rot a m b) zs ys' := by
  have := h.im
  refine ⟨k.perm.trans h.perm, fun t => ?_⟩
  rw [h.at_, k.at_]
  congr 1
  unfold rot sigR
  repeat' split
  all_goals omega
theorem Re.moved {s : Nat → Nat} {a b : Nat} {zs ys : List Rec} (h : Re s zs ys) (h1 : ∀ k, k < a → s k = k) (h2 : ∀ k, b ≤ k → s k = k) : Moved a b zs ys :=
  ⟨h.perm, fun k hk => by rw [h.at_, h1 k hk], fun k hk => by rw [h.at_, h2 k hk]⟩
/-- What lies between a and b lay there before. -/
theorem Moved.mem {a b : Nat} {zs ys : List Rec} (h : Moved a b zs ys) (hab : a ≤ b) (hb : b ≤ zs.length) {k : Nat} {x : Rec} (ha : a ≤ k) (hk : k < b) (hx : ys[k]? = some x) : ∃ j, a ≤ j ∧ j < b ∧ zs[j]? = some x := by
  have hl := h.perm.length_eq
  have split : ∀ l : List Rec, l = l.take a ++ ((l.drop a).take (b - a) ++ l.drop b) := fun l => by
    have e : l.drop b = (l.drop a).drop (b - a) := by rw [List.drop_drop, show a + (b - a) = b from by omega]
    rw [e, List.take_append_drop, List.take_append_drop]
  have e1 : ys.take a = zs.take a := by
    apply List.ext_getElem?
    intro i
    rw [List.getElem?_take, List.getElem?_take]
    split
    · exact h.pre i (by omega)
    · rfl
  have e2 : ys.drop b = zs.drop b := by
    apply List.ext_getElem?
    intro i
    rw [List.getElem?_drop, List.getElem?_drop]
    exact h.post _ (by omega)
  have hp := h.perm
  rw [split ys, split zs, e1, e2] at hp
  have hp2 := (List.perm_append_right_iff _).1 ((List.perm_append_left_iff _).1 hp)
  have hm : x ∈ (ys.drop a).take (b - a) := by
    refine List.mem_of_getElem? (i := k - a) ?_
    rw [List.getElem?_take, if_pos (by omega), List.getElem?_drop, show a + (k - a) = k from by omega]
    exact hx
  obtain ⟨j, hj⟩ := List.getElem?_of_mem (hp2.mem_iff.1 hm)
  rw [List.getElem?_take] at hj
  split at hj
  · rw [List.getElem?_drop] at hj
    exact ⟨a + j, by omega, by omega, hj⟩
  · cases hj
/-- Two sorted parts, the first below the second. -/
theorem SortedOn.join {a m b : Nat} {zs : List Rec} (h1 : SortedOn a m zs) (h2 : SortedOn m b zs) (h : ∀ (p q : Nat) x y, a ≤ p → p < m → m ≤ q → q < b → zs[p]? = some x → zs[q]? = some y → leR x y) : SortedOn a b zs := by
  intro p q x y ha hpq hq hx hy
  rcases Nat.lt_or_ge q m with g | g
  · exact h1 p q x y ha hpq g hx hy
  · rcases Nat.lt_or_ge p m with g' | g'
    · exact h p q x y ha g' g hq hx hy
    · exact h2 p q x y g' hpq hq hx hy
theorem SortedOn.sub {a b a' b' : Nat} {zs : List Rec} (h : SortedOn a b zs) (ha : a ≤ a') (hb : b' ≤ b) : SortedOn a' b' zs := fun p q x y h1 h2 h3 => h p q x y (by omega) h2 (by omega)
theorem SortedOn.same {a b : Nat} {zs ys : List Rec} (h : SortedOn a b zs) (he : ∀ k, a ≤ k → k < b → ys[k]? = zs[k]?) : SortedOn a b ys := fun p q x y h1 h2 h3 h4 h5 => h p q x y h1 h2 h3 (by rw [← he p h1 (by omega)]; exact h4) (by rw [← he q (by omega) h3]; exact h5)
/-! ### One record against a row -/
/-- Where a search in [lo, hi) for the place of x stands: what is below i is not behind x, what is from j on is not before it. -/
structure Srch (zs : List Rec) (x : Rec) (lo hi i j : Nat) : Prop where
  le1 : lo ≤ i
  le2 : i ≤ j
  le3 : j ≤ hi
  lows : ∀ h y, lo ≤ h → h < i → zs[h]? = some y → leR y x
  highs : ∀ h y, j ≤ h → h < hi → zs[h]? = some y → leR x y
theorem Srch.start {zs : List Rec} {x : Rec} {lo hi : Nat} (h : lo ≤ hi) : Srch zs x lo hi lo hi := ⟨Nat.le_refl _, h, Nat.le_refl _, fun h y h1 h2 => by omega, fun h y h1 h2 => by omega⟩
theorem Srch.up {zs : List Rec} {x : Rec} {lo hi i j : Nat} (s : Srch zs x lo hi i j) (hs : SortedOn lo hi zs) {h : Nat} {y : Rec} (h1 : i ≤ h) (h2 : h < j) (hy : zs[h]? = some y) (hle : leR y x) : Srch zs x lo hi (h + 1) j := by
  have := s.le1
  have := s.le3
  refine ⟨by omega, by omega, s.le3, fun k z k1 k2 hz => ?_, s.highs⟩
  rcases Nat.lt_or_ge k h with g | g
  · exact leR_trans (hs k h z y k1 g (by omega) hz hy) hle
  · obtain rfl : k = h := by omega
    rw [hy] at hz; cases hz; exact hle
theorem Srch.down {zs : List Rec} {x : Rec} {lo hi i j : Nat} (s : Srch zs x lo hi i j) (hs : SortedOn lo hi zs) {h : Nat} {y : Rec} (h1 : i ≤ h) (h2 : h < j) (hy : zs[h]? = some y) (hle : leR x y) : Srch zs x lo hi i h := by
  have := s.le1
  have := s.le3
  refine ⟨s.le1, h1, by omega, s.lows, fun k z k1 k2 hz => ?_⟩
  rcases Nat.lt_or_ge h k with g | g
  · exact leR_trans hle (hs h k y z (by omega) g k2 hy hz)
  · obtain rfl : k = h := by omega
    rw [hy] at hz; cases hz; exact hle
/-- The record at a goes up to k. -/
def sigUp (a k t : Nat) : Nat := if a ≤ t ∧ t < k then t + 1 else if t = k then a else t
theorem Re.up {a k : Nat} {zs ys : List Rec} (h : Re (sigUp a k) zs ys) (hk : a ≤ k) {x y : Rec} (hi : ys[k]? = some x) (hj : ys[k + 1]? = some y) : Re (sigUp a (k + 1)) zs ((ys.set k y).set (k + 1) x) := by
  refine (h.swap hi hj).of fun t => ?_
  unfold sigUp
  repeat' split
  all_goals omega
theorem Re.up0 (a : Nat) (zs : List Rec) : Re (sigUp a a) zs zs := (Re.refl zs).of fun t => by unfold sigUp; (repeat' split) <;> omega
/-- The record at m goes down to k. -/
def sigDn (m k t : Nat) : Nat := if k < t ∧ t ≤ m then t - 1 else if t = k then m else t
theorem Re.dn {m k : Nat} {zs ys : List Rec} (h : Re (sigDn m (k + 1)) zs ys) (hk : k + 1 ≤ m) {x y : Rec} (hi : ys[k + 1]? = some x) (hj : ys[k]? = some y) : Re (sigDn m k) zs ((ys.set (k + 1) y).set k x) := by
  refine (h.swap hi hj).of fun t => ?_
  unfold sigDn
  repeat' split
  all_goals omega
theorem Re.dn0 (m : Nat) (zs : List Rec) : Re (sigDn m m) zs zs := (Re.refl zs).of fun t => by unfold sigDn; (repeat' split) <;> omega
theorem up_sorted {a b i : Nat} {zs ys : List Rec} {x : Rec} (hx : zs[a]? = some x) (hs : SortedOn (a + 1) b zs) (s : Srch zs x (a + 1) b i i) (h : Re (sigUp a (i - 1)) zs ys) : Moved a b zs ys ∧ SortedOn a b ys := by
  have l1 := s.le1
  have l3 := s.le3
  refine ⟨h.moved (fun k hk => ?_) (fun k hk => ?_), fun p q u v hp hpq hq hu hv => ?_⟩
  · unfold sigUp; repeat' split
    all_goals omega
  · unfold sigUp; repeat' split
    all_goals omega
  · rw [h.at_] at hu hv
    unfold sigUp at hu hv
    by_cases h1 : p < i - 1
    · rw [if_pos ⟨hp, h1⟩] at hu
      by_cases h2 : q < i - 1
      · rw [if_pos ⟨by omega, h2⟩] at hv
        exact hs (p + 1) (q + 1) u v (by omega) (by omega) (by omega) hu hv
      · rw [if_neg (by omega)] at hv
        by_cases h3 : q = i - 1
        · rw [if_pos h3, hx] at hv; cases hv
          exact s.lows (p + 1) u (by omega) (by omega) hu
        · rw [if_neg h3] at hv
          exact hs (p + 1) q u v (by omega) (by omega) hq hu hv
    · rw [if_neg (by omega)] at hu
      rw [if_neg (by omega)] at hv
      by_cases h3 : p = i - 1
      · rw [if_pos h3, hx] at hu; cases hu
        rw [if_neg (by omega)] at hv
        exact s.highs q v (by omega) hq hv
      · rw [if_neg h3] at hu
        rw [if_neg (by omega)] at hv
        exact hs p q u v (by omega) hpq hq hu hv
theorem dn_sorted {a m i : Nat} {zs ys : List Rec} {x : Rec} (hx : zs[m]? = some x) (hs : SortedOn a m zs) (s : Srch zs x a m i i) (h : Re (sigDn m i) zs ys) : Moved a (m + 1) zs ys ∧ SortedOn a (m + 1) ys := by
  have l1 := s.le1
  have l3 := s.le3
  refine ⟨h.moved (fun k hk => ?_) (fun k hk => ?_), fun p q u v hp hpq hq hu hv => ?_⟩
  · unfold sigDn; repeat' split
    all_goals omega
  · unfold sigDn; repeat' split
    all_goals omega
  · rw [h.at_] at hu hv
    unfold sigDn at hu hv
    by_cases h1 : i < p
    · rw [if_pos ⟨h1, by omega⟩] at hu
      rw [if_pos ⟨by omega, by omega⟩] at hv
      exact hs (p - 1) (q - 1) u v (by omega) (by omega) (by omega) hu hv
    · rw [if_neg (by omega)] at hu
      by_cases h2 : p = i
      · rw [if_pos h2, hx] at hu; cases hu
        rw [if_pos ⟨by omega, by omega⟩] at hv
        exact s.highs (q - 1) v (by omega) (by omega) hv
      · rw [if_neg h2] at hu
        by_cases h3 : i < q
        · rw [if_pos ⟨h3, by omega⟩] at hv
          exact hs p (q - 1) u v hp (by omega) (by omega) hu hv
        · rw [if_neg (by omega)] at hv
          by_cases h4 : q = i
          · rw [if_pos h4, hx] at hv; cases hv
            exact s.lows p u hp (by omega) hu
          · rw [if_neg h4] at hv
            exact hs p q u v hp hpq (by omega) hu hv
/-! ### Two rows -/
def symLo (a m b : Nat) : Nat := if (a + b) / 2 < m then (a + b) / 2 + m - b else a
def symHi (a m b : Nat) : Nat := if (a + b) / 2 < m then (a + b) / 2 else m
/-- Where the search of symMerge stands. -/
structure Sym (zs : List Rec) (a m b st r : Nat) : Prop where
  le1 : symLo a m b ≤ st
  le2 : st ≤ r
  le3 : r ≤ symHi a m b
  lows : st = symLo a m b ∨ ∃ x y, zs[st - 1]? = some x ∧ zs[(a + b) / 2 + m - st]? = some y ∧ leR x y
  highs : r = symHi a m b ∨ ∃ x y, zs[(a + b) / 2 + m - 1 - r]? = some x ∧ zs[r]? = some y ∧ leR x y
theorem sym_bounds {a m b : Nat} (h1 : a < m) (h2 : m < b) : a ≤ symLo a m b ∧ symLo a m b ≤ symHi a m b ∧ symHi a m b ≤ m ∧ symHi a m b ≤ (a + b) / 2 ∧ (a + b) / 2 + m - symLo a m b ≤ b ∧ m ≤ (a + b) / 2 + m - symHi a m b ∧ a < (a + b) / 2 ∨ (b = a + 1) := by
  unfold symLo symHi
  split <;> omega
theorem Sym.start {zs : List Rec} {a m b : Nat} (h1 : a < m) (h2 : m < b) : Sym zs a m b (symLo a m b) (symHi a m b) := by
  refine ⟨Nat.le_refl _, ?_, Nat.le_refl _, .inl rfl, .inl rfl⟩
  unfold symLo symHi
  split <;> omega
theorem Sym.up {zs : List Rec} {a m b st r c : Nat} (s : Sym zs a m b st r) (h1 : st ≤ c) (h2 : c < r) {x y : Rec} (hx : zs[c]? = some x) (hy : zs[(a + b) / 2 + m - 1 - c]? = some y) (hle : leR x y) : Sym zs a m b (c + 1) r := by
  have := s.le1
  refine ⟨by omega, by omega, s.le3, .inr ⟨x, y, by simpa using hx, ?_, hle⟩, s.highs⟩
  rw [show (a + b) / 2 + m - (c + 1) = (a + b) / 2 + m - 1 - c from by omega]
  exact hy
theorem Sym.down {zs : List Rec} {a m b st r c : Nat} (s : Sym zs a m b st r) (h1 : st ≤ c) (h2 : c < r) {x y : Rec} (hx : zs[c]? = some x) (hy : zs[(a + b) / 2 + m - 1 - c]? = some y) (hle : leR y x) : Sym zs a m b st c := by
  have := s.le3
  exact ⟨s.le1, h1, by omega, s.lows, .inr ⟨y, x, hy, hx, hle⟩⟩
/-- Behind the rotation: what is to be merged still, and that all on the left is not behind what is on the right. -/
theorem sym_split {zs ys : List Rec} {a m b st : Nat} (h1 : a < m) (h2 : m < b) (hb : b ≤ zs.length) (hs1 : SortedOn a m zs) (hs2 : SortedOn m b zs) (s : Sym zs a m b st st) (h : Re (rot st m ((a + b) / 2 + m - st)) zs ys) :
    Moved a b zs ys ∧ SortedOn a st ys ∧ SortedOn st ((a + b) / 2) ys ∧ SortedOn ((a + b) / 2) ((a + b) / 2 + m - st) ys ∧ SortedOn ((a + b) / 2 + m - st) b ys ∧
      ∀ (p q : Nat) x y, a ≤ p → p < (a + b) / 2 → (a + b) / 2 ≤ q → q < b → ys[p]? = some x → ys[q]? = some y → leR x y := by
  have b1 : a ≤ st ∧ st ≤ m ∧ st ≤ (a + b) / 2 ∧ (a + b) / 2 + m - st ≤ b ∧ m ≤ (a + b) / 2 + m - st := by
    have l1 := s.le1
    have l3 := s.le3
    unfold symLo at l1
    unfold symHi at l3
    by_cases hh : (a + b) / 2 < m
    · rw [if_pos hh] at l1 l3; omega
    · rw [if_neg hh] at l1 l3; omega
  have L1R2 : ∀ (p q : Nat) x y, a ≤ p → p < st → (a + b) / 2 + m - st ≤ q → q < b → zs[p]? = some x → zs[q]? = some y → leR x y := by
    intro p q x y p1 p2 q1 q2 hx hy
    rcases s.lows with e | ⟨u, v, hu, hv, hle⟩
    · unfold symLo at e
      split at e <;> omega
    · have e1 : leR x u := by
        rcases Nat.lt_or_ge p (st - 1) with g | g
        · exact hs1 p (st - 1) x u p1 g (by omega) hx hu
        · obtain rfl : p = st - 1 := by omega
          rw [hx] at hu; cases hu; exact (by rw [leR, ordC_nonneg]; omega)
      have e2 : leR v y := by
        rcases Nat.lt_or_ge ((a + b) / 2 + m - st) q with g | g
        · exact hs2 _ q v y (by omega) g q2 hv hy
        · obtain rfl : q = (a + b) / 2 + m - st := by omega
          rw [hy] at hv; cases hv; exact (by rw [leR, ordC_nonneg]; omega)
      exact leR_trans (leR_trans e1 hle) e2
  have R1L2 : ∀ (p q : Nat) x y, m ≤ p → p < (a + b) / 2 + m - st → st ≤ q → q < m → zs[p]? = some x → zs[q]? = some y → leR x y := by
    intro p q x y p1 p2 q1 q2 hx hy
    rcases s.highs with e | ⟨u, v, hu, hv, hle⟩
    · unfold symHi at e
      split at e <;> omega
    · have e1 : leR x u := by
        rcases Nat.lt_or_ge p ((a + b) / 2 + m - 1 - st) with g | g
        · exact hs2 p _ x u p1 g (by omega) hx hu
        · obtain rfl : p = (a + b) / 2 + m - 1 - st := by omega
          rw [hx] at hu; cases hu; exact (by rw [leR, ordC_nonneg]; omega)
      have e2 : leR v y := by
        rcases Nat.lt_or_ge st q with g | g
        · exact hs1 st q v y (by omega) g q2 hv hy
        · obtain rfl : q = st := by omega
          rw [hy] at hv; cases hv; exact (by rw [leR, ordC_nonneg]; omega)
      exact leR_trans (leR_trans e1 hle) e2
  generalize (a + b) / 2 = mid at b1 h L1R2 R1L2 ⊢
  have e1 : ∀ k, k < st → ys[k]? = zs[k]? := fun k hk => by
    rw [h.at_]; congr 1; unfold rot; (repeat' split) <;> omega
  have e2 : ∀ k, st ≤ k → k < mid → ys[k]? = zs[k - st + m]? := fun k g hk => by
    rw [h.at_]; congr 1; unfold rot; (repeat' split) <;> omega
  have e3 : ∀ k, mid ≤ k → k < mid + m - st → ys[k]? = zs[k + st - mid]? := fun k g hk => by
    rw [h.at_]; congr 1; unfold rot; (repeat' split) <;> omega
  have e4 : ∀ k, mid + m - st ≤ k → ys[k]? = zs[k]? := fun k g => by
    rw [h.at_]; congr 1; unfold rot; (repeat' split) <;> omega
  refine ⟨⟨h.perm, fun k hk => e1 k (by omega), fun k hk => e4 k (by omega)⟩, hs1.sub (Nat.le_refl _) b1.2.1 |>.same (fun k _ hk => e1 k hk), fun p q x y p1 pq q1 hx hy => ?_, fun p q x y p1 pq q1 hx hy => ?_, (hs2.sub b1.2.2.2.2 (Nat.le_refl _)).same (fun k hk _ => e4 k hk), fun p q x y p1 p2 q1 q2 hx hy => ?_⟩
  · rw [e2 p p1 (by omega)] at hx
    rw [e2 q (by omega) q1] at hy
    exact hs2 _ _ x y (by omega) (by omega) (by omega) hx hy
  · rw [e3 p p1 (by omega)] at hx
    rw [e3 q (by omega) q1] at hy
    exact hs1 _ _ x y (by omega) (by omega) (by omega) hx hy
  · rcases Nat.lt_or_ge p st with g | g
    · rw [e1 p g] at hx
      rcases Nat.lt_or_ge q (mid + m - st) with k | k
      · rw [e3 q q1 k] at hy
        exact hs1 _ _ x y p1 (by omega) (by omega) hx hy
      · rw [e4 q k] at hy
        exact L1R2 p q x y p1 g k q2 hx hy
    · rw [e2 p g p2] at hx
      rcases Nat.lt_or_ge q (mid + m - st) with k | k
      · rw [e3 q q1 k] at hy
        exact R1L2 _ _ x y (by omega) (by omega) (by omega) (by omega) hx hy
      · rw [e4 q k] at hy
        exact hs2 _ _ x y (by omega) (by omega) q2 hx hy
/-- Both halves sorted. -/
theorem sym_join {zs ys us vs : List Rec} {a mid b : Nat} (h1 : a ≤ mid) (h2 : mid ≤ b) (hb : b ≤ ys.length) (hc : ∀ (p q : Nat) x y, a ≤ p → p < mid → mid ≤ q → q < b → ys[p]? = some x → ys[q]? = some y → leR x y)
    (m0 : Moved a b zs ys) (m1 : Moved a mid ys us) (s1 : SortedOn a mid us) (m2 : Moved mid b us vs) (s2 : SortedOn mid b vs) : Moved a b zs vs ∧ SortedOn a b vs := by
  refine ⟨(m0.trans (m1.mono (Nat.le_refl _) h2)).trans (m2.mono h1 (Nat.le_refl _)), SortedOn.join (s1.same fun k _ hk => m2.pre k hk) s2 fun p q x y p1 p2 q1 q2 hx hy => ?_⟩
  rw [m2.pre p p2] at hx
  obtain ⟨i, i1, i2, hi⟩ := m1.mem h1 (by omega) p1 p2 hx
  obtain ⟨j, j1, j2, hj⟩ := m2.mem h2 (by rw [m1.perm.length_eq]; exact hb) q1 q2 hy
  rw [m1.post j j1] at hj
  exact hc i j x y i1 i2 j1 j2 hi hj
end Go.Proofs.YtgjahnomafpnfaaGreatDoor

/- slices.swapRangeCmpFunc, rotateCmpFunc at records. -/
namespace Go.Proofs.YtgjahnomafpnfaaGreatDoor
open Go.RowKit
set_option maxHeartbeats 800000 in
set_option maxRecDepth 100000 in
theorem swapRange_any (B : Nat) (w0 : World) (g cap a b n : Nat) (zs : List Rec) (w : World) (hR : RowW B w0 w g zs) (hab : a + n ≤ b) (hb : b + n ≤ zs.length) (hn : zs.length ≤ 1000000) :
    Calls Tryz.prog 220 #[.slice (some ⟨g, 0, none⟩) zs.length cap, .int .i64 a, .int .i64 b, .int .i64 n, .func (.func 79) #[] #[]] w fun e w' => e = .returned (.tuple #[]) ∧ ∃ zs', RowW B w0 w' g zs' ∧ Re (sigR a b n) zs zs' := by
  have HR := Lib.hid hR
  clear hR
  go_enter Tryz.func220, Tryz.ntmps220
  go_wp2
  go_loopw [10] (fun vi wr => ∃ (k : Nat) (ys : List Rec), vi = .int .i64 k ∧ k ≤ n ∧ RowW B w0 wr g ys ∧ Re (sigR a b k) zs ys) (fun vi _ => n - (intOf vi).toNat)
  case atStart => exact ⟨0, zs, rfl, by omega, HR.out, (Re.refl zs).of fun t => by unfold sigR; (repeat' split) <;> omega⟩
  case round =>
    obtain ⟨k, ys, rfl, hk, hR, hS⟩ := hrel
    have HR := Lib.hid hR
    have HS := Lib.hid hS
    have hlen : ys.length = zs.length := hS.len
    clear hR hS
    by_cases hlt : k < n
    · have hltz : (k : Int) < (n : Int) := by omega
      obtain ⟨x, hx⟩ : ∃ x, ys[a + k]? = some x := ⟨_, List.getElem?_eq_getElem (by omega)⟩
      obtain ⟨y, hy⟩ : ∃ y, ys[b + k]? = some y := ⟨_, List.getElem?_eq_getElem (by omega)⟩
      obtain ⟨c0, c1, c2, c3⟩ := HR.out.cells hx
      obtain ⟨d0, d1, d2, d3⟩ := HR.out.cells hy
      obtain ⟨f0, f1, f2, f3⟩ := HR.out.marks (j := a + k) (by omega)
      obtain ⟨m0, m1, m2, m3⟩ := HR.out.marks (j := b + k) (by omega)
      have hw1 : IntKind.i64.wrap ((a : Int) + k) = ((a + k : Nat) : Int) := by rw [IntWalk.i64_in _ (by omega)]; omega
      have hw2 : IntKind.i64.wrap ((b : Int) + k) = ((b + k : Nat) : Int) := by rw [IntWalk.i64_in _ (by omega)]; omega
      have ha1 : ((a + k : Nat) : Int) < zs.length := by omega
      have hb1 : ((b + k : Nat) : Int) < zs.length := by omega
      have hHX := Lib.hid (And.intro hx hy)
      clear hx hy
      generalize hA : a + k = A at *
      generalize hB : b + k = Bb at *
      go_wp2_with fail
      go_big_region
      all_goals go_wp2
      go_roundw
      case rel =>
        subst hA hB
        exact ⟨k + 1, _, by go_num, by omega, ((HR.out.set (a + k) y (by omega)).set (b + k) x (by rw [List.length_set]; omega)).ext (Ext.drew _), HS.out.range (by omega) hHX.out.1 hHX.out.2⟩
      case measure => simp [intOf]; omega
    · obtain rfl : k = n := by omega
      go_wp2
      refine bodyPost_end (results_none rfl _ _ _) rfl ⟨rfl, ys, HR.out, HS.out⟩
set_option maxHeartbeats 800000 in
set_option maxRecDepth 100000 in
theorem rotate_any (B : Nat) (w0 : World) (g cap a m b : Nat) (zs : List Rec) (w : World) (hR : RowW B w0 w g zs) (ham : a < m) (hmb : m < b) (hb : b ≤ zs.length) (hn : zs.length ≤ 1000000) :
    Calls Tryz.prog 209 #[.slice (some ⟨g, 0, none⟩) zs.length cap, .int .i64 a, .int .i64 m, .int .i64 b, .func (.func 79) #[] #[]] w fun e w' => e = .returned (.tuple #[]) ∧ ∃ zs', RowW B w0 w' g zs' ∧ Re (rot a m b) zs zs' := by
  have HR := Lib.hid hR
  clear hR
  have hw1 : IntKind.i64.wrap ((m : Int) - a) = ((m - a : Nat) : Int) := by rw [IntWalk.i64_in _ (by omega)]; omega
  have hw2 : IntKind.i64.wrap ((b : Int) - m) = ((b - m : Nat) : Int) := by rw [IntWalk.i64_in _ (by omega)]; omega
  go_enter Tryz.func209, Tryz.ntmps209
  go_wp2
  go_loopw [10, 11] (fun vi vj wr => ∃ (i j : Nat) (ys : List Rec), vi = .int .i64 i ∧ vj = .int .i64 j ∧ RowW B w0 wr g ys ∧ RotSt a m b zs ys i j) (fun vi vj _ => (intOf vi).toNat + (intOf vj).toNat)
  case atStart => exact ⟨m - a, b - m, zs, rfl, rfl, HR.out, RotSt.start ham hmb⟩
  case round =>
    obtain ⟨i, j, ys, rfl, rfl, hR, hS⟩ := hrel
    have hlen : ys.length = zs.length := hS.perm.length_eq
    have hi1 := hS.i1
    have hj1 := hS.j1
    have him := hS.im
    have hjb := hS.jb
    have HS := Lib.hid hS
    have hwa : IntKind.i64.wrap ((m : Int) - i) = ((m - i : Nat) : Int) := by rw [IntWalk.i64_in _ (by omega)]; omega
    by_cases hij : i = j
    · subst hij
      have hne : ((i : Int) != (i : Int)) = false := by simp
      have HC := Lib.hid (swapRange_any B w0 g cap (m - i) m i ys wr hR (by omega) (by omega) (by omega))
      rw [hlen] at HC
      clear hS hR
      go_wp2_with fail
      refine HC.out.mono ?_
      rintro e w1 ⟨rfl, zs', h1, h2⟩
      have H := Lib.hid (And.intro h1 (HS.out.done h2))
      clear h1 h2
      go_wp2
      refine bodyPost_end (results_none rfl _ _ _) rfl ⟨rfl, zs', H.out⟩
    · have hne : ((i : Int) != (j : Int)) = true := by simp; omega
      by_cases hlt : j < i
      · have hltz : (j : Int) < i := by omega
        have hwb : IntKind.i64.wrap ((i : Int) - j) = ((i - j : Nat) : Int) := by rw [IntWalk.i64_in _ (by omega)]; omega
        have HC := Lib.hid (swapRange_any B w0 g cap (m - i) m j ys wr hR (by omega) (by omega) (by omega))
        rw [hlen] at HC
        clear hS hR
        go_wp2_with fail
        refine HC.out.mono ?_
        rintro e w1 ⟨rfl, zs', h1, h2⟩
        have H := Lib.hid (And.intro h1 (HS.out.big hlt h2))
        clear h1 h2
        go_wp2
        go_roundw
        case rel => exact ⟨i - j, j, zs', rfl, rfl, H.out⟩
        case measure => simp [intOf]; omega
      · have hltz : ¬ ((j : Int) < i) := by omega
        have hwb : IntKind.i64.wrap ((j : Int) - i) = ((j - i : Nat) : Int) := by rw [IntWalk.i64_in _ (by omega)]; omega
        have hwc : IntKind.i64.wrap ((m : Int) + j) = ((m + j : Nat) : Int) := by rw [IntWalk.i64_in _ (by omega)]; omega
        have hwd : IntKind.i64.wrap (((m + j : Nat) : Int) - i) = ((m + j - i : Nat) : Int) := by rw [IntWalk.i64_in _ (by omega)]; omega
        have HC := Lib.hid (swapRange_any B w0 g cap (m - i) (m + j - i) i ys wr hR (by omega) (by omega) (by omega))
        rw [hlen] at HC
        clear hS hR
        go_wp2_with fail
        rw [show ((m : Int) + j - i) = ((m + j - i : Nat) : Int) from by omega]
        refine HC.out.mono ?_
        rintro e w1 ⟨rfl, zs', h1, h2⟩
        have H := Lib.hid (And.intro h1 (HS.out.small (by omega) h2))
        clear h1 h2
        go_wp2
        go_roundw
        case rel => exact ⟨i, j - i, zs', rfl, rfl, H.out⟩
        case measure => simp [intOf]; omega
end Go.Proofs.YtgjahnomafpnfaaGreatDoor

/- slices.symMergeCmpFunc at records: one record against a row. -/
namespace Go.Proofs.YtgjahnomafpnfaaGreatDoor
open Go.RowKit
/-- What symMerge comes to. -/
def SymPost (B : Nat) (w0 : World) (g a b : Nat) (zs : List Rec) (e : Ending) (w' : World) : Prop :=
  e = .returned (.tuple #[]) ∧ ∃ zs', RowW B w0 w' g zs' ∧ Moved a b zs zs' ∧ SortedOn a b zs'
set_option maxHeartbeats 1600000 in
set_option maxRecDepth 100000 in
theorem sym_up (B : Nat) (w0 : World) (g cap a m b : Nat) (zs : List Rec) (w : World) (hR : RowW B w0 w g zs) (hm : m = a + 1) (hmb : m < b) (hb : b ≤ zs.length) (hn : zs.length ≤ 1000000) (hs : SortedOn m b zs) :
    Calls Tryz.prog 193 #[.slice (some ⟨g, 0, none⟩) zs.length cap, .int .i64 a, .int .i64 m, .int .i64 b, .func (.func 79) #[] #[]] w (SymPost B w0 g a b zs) := by
  have HR := Lib.hid hR
  have HS := Lib.hid hs
  clear hR hs
  have hw1 : IntKind.i64.wrap ((m : Int) - a) = 1 := by rw [IntWalk.i64_in _ (by omega)]; omega
  obtain ⟨x, hx⟩ : ∃ x, zs[a]? = some x := ⟨_, List.getElem?_eq_getElem (by omega)⟩
  have HX := Lib.hid hx
  have HM := Lib.hid hm
  have hma : a < m := by omega
  clear hx hm
  go_enter Tryz.func193, Tryz.ntmps193
  go_wp2
  go_loopw [10, 11] (fun vi vj wr => ∃ (i j : Nat), vi = .int .i64 i ∧ vj = .int .i64 j ∧ RowW B w0 wr g zs ∧ Srch zs x m b i j) (fun vi vj _ => (intOf vj).toNat - (intOf vi).toNat)
  case atStart => exact ⟨m, b, rfl, rfl, HR.out, Srch.start (by omega)⟩
  case round =>
    obtain ⟨i, j, rfl, rfl, hR, hS⟩ := hrel
    have hl1 := hS.le1
    have hl2 := hS.le2
    have hl3 := hS.le3
    have HR2 := Lib.hid hR
    have HS2 := Lib.hid hS
    clear hR hS
    by_cases hlt : i < j
    · have hltz : (i : Int) < (j : Int) := by omega
      have hw2 : IntKind.i64.wrap ((i : Int) + j) = ((i + j : Nat) : Int) := by rw [IntWalk.i64_in _ (by omega)]; omega
      have hw3 : IntKind.u64.wrap ((i + j : Nat) : Int) = ((i + j : Nat) : Int) := by simp only [IntKind.wrap, IntKind.bits, IntKind.signed]; simp; omega
      go_wp2_with fail
      obtain ⟨c, hcc, hci, hcj⟩ : ∃ c : Nat, ((i : Int) + j) / 2 = (c : Int) ∧ i ≤ c ∧ c < j := ⟨(i + j) / 2, by omega, by omega, by omega⟩
      simp only [hcc]
      clear hcc
      obtain ⟨y, hy⟩ : ∃ y, zs[c]? = some y := ⟨_, List.getElem?_eq_getElem (by omega)⟩
      obtain ⟨c0, c1, c2, c3⟩ := HR2.out.cells hy
      obtain ⟨d0, d1, d2, d3⟩ := HR2.out.cells HX.out
      have ha1 : (a : Int) < zs.length := by omega
      have hb1 : (c : Int) < zs.length := by omega
      clear hw2 hw3
      refine wp_drawn 11 (by kernel_rfl) (by kernel_rfl) (fun i => match i with
        | 9 => some fun v _ => v = .int .i64 (ordC y x)
        | 10 => some fun v _ => v = .bool (decide (ordC y x < 0))
        | _ => none) ?_ ?_
      · intro j φ hφ v w1 w2 h1 h2
        split at hφ <;> cases hφ
        all_goals exact h1
      intro ν
      simp only [List.take_succ_cons, List.take_zero]
      iterate 9 (refine Seq.pure ?_ rfl (fun w' hw hf => ?_) ?_; rotate_left; (· (have k0 := hw.keep (w := World.drew _) c0; have k1 := hw.keep (w := World.drew _) c1; have k2 := hw.keep (w := World.drew _) c2; have k3 := hw.keep (w := World.drew _) c3; have l0 := hw.keep (w := World.drew _) d0; have l1 := hw.keep (w := World.drew _) d1; have l2 := hw.keep (w := World.drew _) d2; have l3 := hw.keep (w := World.drew _) d3; unfold pureG; go_simp; with_reducible rfl)); simp only [Act.put, List.setIfInBounds_toArray, List.set_cons_zero, List.set_cons_succ, Nat.reduceAdd, Nat.zero_add])
      refine Seq.eff _ rfl (fun w' hw hf => giveG_of rfl (by simp) fun K hK => ?_) ?_
      · go_simp
        refine (ord_any y x _).mono ?_
        rintro e w2 ⟨rfl, hb⟩
        exact hK _ _ ⟨rfl, hb⟩
      simp only [Act.put, List.setIfInBounds_toArray, List.set_cons_zero, List.set_cons_succ, Nat.reduceAdd, Nat.zero_add]
      refine Seq.eff _ rfl (fun w' hw hf => giveG_of rfl (by simp) fun K hK => ?_) ?_
      · have h14 := hf 9 _ rfl (by kernel_rfl)
        simp only [h14] at hK ⊢
        go_simp
        exact hK _ _ ⟨rfl, Ext.refl _⟩
      simp only [Act.put, List.setIfInBounds_toArray, List.set_cons_zero, List.set_cons_succ, Nat.reduceAdd, Nat.zero_add]
      refine Seq.nil fun w' hw hf => tail_none (by kernel_rfl) ?_
      have h16 := hf 10 _ (by omega) rfl
      rw [h16]
      have HR3 := Lib.hid (HR2.out.ext ((Ext.drew wr).trans hw))
      clear c0 c1 c2 c3 d0 d1 d2 d3 h16 hf hw HR2
      generalize ν 9 = v9
      by_cases hq : ordC y x < 0
      · have hcd : decide (ordC y x < 0) = true := by simpa using hq
        have hS3 := HS2.out.up HS.out hci hcj hy (leR_of_lt hq)
        have hwc : IntKind.i64.wrap ((c : Int) + 1) = ((c + 1 : Nat) : Int) := by rw [IntWalk.i64_in _ (by omega)]; omega
        go_wp2
        go_roundw
        case rel => exact ⟨c + 1, j, by go_num, rfl, HR3.out, hS3⟩
        case measure => simp [intOf]; omega
      · have hcd : decide (ordC y x < 0) = false := by simpa using hq
        have hS3 := HS2.out.down HS.out hci hcj hy (by unfold leR; omega)
        go_wp2
        go_roundw
        case rel => exact ⟨i, c, rfl, rfl, HR3.out, hS3⟩
        case measure => simp [intOf]; omega
    · obtain rfl : i = j := by omega
      have hwi : IntKind.i64.wrap ((i : Int) - 1) = ((i - 1 : Nat) : Int) := by rw [IntWalk.i64_in _ (by omega)]; omega
      go_wp2_with fail
      go_loopw [13] (fun vk wr2 => ∃ (k : Nat) (ys : List Rec), vk = .int .i64 k ∧ a ≤ k ∧ k ≤ i - 1 ∧ RowW B w0 wr2 g ys ∧ Re (sigUp a k) zs ys) (fun vk _ => i - (intOf vk).toNat)
      case atStart => exact ⟨a, zs, rfl, Nat.le_refl _, by omega, HR2.out, Re.up0 a zs⟩
      case round =>
        obtain ⟨k, ys, rfl, hak, hki, hR, hS⟩ := hrel
        have HR4 := Lib.hid hR
        have HS4 := Lib.hid hS
        have hlen : ys.length = zs.length := hS.len
        clear hR hS
        by_cases hlt2 : k < i - 1
        · have hltz2 : (k : Int) < (i : Int) - 1 := by omega
          obtain ⟨u, hu⟩ : ∃ u, ys[k]? = some u := ⟨_, List.getElem?_eq_getElem (by omega)⟩
          obtain ⟨v, hv⟩ : ∃ v, ys[k + 1]? = some v := ⟨_, List.getElem?_eq_getElem (by omega)⟩
          obtain ⟨c0, c1, c2, c3⟩ := HR4.out.cells hu
          obtain ⟨d0, d1, d2, d3⟩ := HR4.out.cells hv
          obtain ⟨f0, f1, f2, f3⟩ := HR4.out.marks (j := k) (by omega)
          obtain ⟨m0, m1, m2, m3⟩ := HR4.out.marks (j := k + 1) (by omega)
          have hwk : IntKind.i64.wrap ((k : Int) + 1) = ((k + 1 : Nat) : Int) := by rw [IntWalk.i64_in _ (by omega)]; omega
          have hk1 : (k : Int) < zs.length := by omega
          have hk2 : ((k + 1 : Nat) : Int) < zs.length := by omega
          have hHX := Lib.hid (And.intro hu hv)
          clear hu hv
          generalize hA : k + 1 = A at *
          go_wp2_with fail
          go_big_region
          all_goals go_wp2
          go_roundw
          case rel =>
            subst hA
            exact ⟨k + 1, _, by go_num, by omega, by omega, ((HR4.out.set k v (by omega)).set (k + 1) u (by rw [List.length_set]; omega)).ext (Ext.drew _), HS4.out.up hak hHX.out.1 hHX.out.2⟩
          case measure => simp [intOf]; omega
        · obtain rfl : k = i - 1 := by omega
          have hltz2 : ¬ (((i - 1 : Nat) : Int) < (i : Int) - 1) := by omega
          have hfin := up_sorted HX.out (HM.out ▸ HS.out) (HM.out ▸ HS2.out) HS4.out
          go_wp2
          refine bodyPost_end (results_none rfl _ _ _) rfl ⟨rfl, ys, HR4.out, hfin⟩
end Go.Proofs.YtgjahnomafpnfaaGreatDoor

/- slices.symMergeCmpFunc at records: a row against one record. -/
namespace Go.Proofs.YtgjahnomafpnfaaGreatDoor
open Go.RowKit
set_option maxHeartbeats 1600000 in
set_option maxRecDepth 100000 in
theorem sym_dn (B : Nat) (w0 : World) (g cap a m b : Nat) (zs : List Rec) (w : World) (hR : RowW B w0 w g zs) (ham : a + 1 < m) (hm : b = m + 1) (hb : b ≤ zs.length) (hn : zs.length ≤ 1000000) (hs : SortedOn a m zs) :
    Calls Tryz.prog 193 #[.slice (some ⟨g, 0, none⟩) zs.length cap, .int .i64 a, .int .i64 m, .int .i64 b, .func (.func 79) #[] #[]] w (SymPost B w0 g a b zs) := by
  have HR := Lib.hid hR
  have HS := Lib.hid hs
  clear hR hs
  have hw1 : IntKind.i64.wrap ((b : Int) - m) = 1 := by rw [IntWalk.i64_in _ (by omega)]; omega
  have hw0 : IntKind.i64.wrap ((m : Int) - a) = ((m - a : Nat) : Int) := by rw [IntWalk.i64_in _ (by omega)]; omega
  have hb0 : (((m - a : Nat) : Int) == 1) = false := by rw [beq_eq_false_iff_ne]; omega
  obtain ⟨x, hx⟩ : ∃ x, zs[m]? = some x := ⟨_, List.getElem?_eq_getElem (by omega)⟩
  have HX := Lib.hid hx
  have HM := Lib.hid hm
  have hmb : m < b := by omega
  clear hx hm
  generalize hD : m - a = D at *
  have HDD := Lib.hid hD
  clear hD
  go_enter Tryz.func193, Tryz.ntmps193
  go_wp2
  go_loopw [14, 15] (fun vi vj wr => ∃ (i j : Nat), vi = .int .i64 i ∧ vj = .int .i64 j ∧ RowW B w0 wr g zs ∧ Srch zs x a m i j) (fun vi vj _ => (intOf vj).toNat - (intOf vi).toNat)
  case atStart => exact ⟨a, m, rfl, rfl, HR.out, Srch.start (by omega)⟩
  case round =>
    obtain ⟨i, j, rfl, rfl, hR, hS⟩ := hrel
    have hl1 := hS.le1
    have hl2 := hS.le2
    have hl3 := hS.le3
    have HR2 := Lib.hid hR
    have HS2 := Lib.hid hS
    clear hR hS
    by_cases hlt : i < j
    · have hltz : (i : Int) < (j : Int) := by omega
      have hw2 : IntKind.i64.wrap ((i : Int) + j) = ((i + j : Nat) : Int) := by rw [IntWalk.i64_in _ (by omega)]; omega
      have hw3 : IntKind.u64.wrap ((i + j : Nat) : Int) = ((i + j : Nat) : Int) := by simp only [IntKind.wrap, IntKind.bits, IntKind.signed]; simp; omega
      go_wp2_with fail
      obtain ⟨c, hcc, hci, hcj⟩ : ∃ c : Nat, ((i : Int) + j) / 2 = (c : Int) ∧ i ≤ c ∧ c < j := ⟨(i + j) / 2, by omega, by omega, by omega⟩
      simp only [hcc]
      clear hcc
      obtain ⟨y, hy⟩ : ∃ y, zs[c]? = some y := ⟨_, List.getElem?_eq_getElem (by omega)⟩
      obtain ⟨c0, c1, c2, c3⟩ := HR2.out.cells hy
      obtain ⟨d0, d1, d2, d3⟩ := HR2.out.cells HX.out
      have ha1 : (m : Int) < zs.length := by omega
      have hb1 : (c : Int) < zs.length := by omega
      clear hw2 hw3
      refine wp_drawn 12 (by kernel_rfl) (by kernel_rfl) (fun i => match i with
        | 9 => some fun v _ => v = .int .i64 (ordC x y)
        | 10 => some fun v _ => v = .bool (decide (ordC x y < 0))
        | 11 => some fun v _ => v = .bool (!decide (ordC x y < 0))
        | _ => none) ?_ ?_
      · intro j φ hφ v w1 w2 h1 h2
        split at hφ <;> cases hφ
        all_goals exact h1
      intro ν
      simp only [List.take_succ_cons, List.take_zero]
      iterate 9 (refine Seq.pure ?_ rfl (fun w' hw hf => ?_) ?_; rotate_left; (· (have k0 := hw.keep (w := World.drew _) c0; have k1 := hw.keep (w := World.drew _) c1; have k2 := hw.keep (w := World.drew _) c2; have k3 := hw.keep (w := World.drew _) c3; have l0 := hw.keep (w := World.drew _) d0; have l1 := hw.keep (w := World.drew _) d1; have l2 := hw.keep (w := World.drew _) d2; have l3 := hw.keep (w := World.drew _) d3; unfold pureG; go_simp; with_reducible rfl)); simp only [Act.put, List.setIfInBounds_toArray, List.set_cons_zero, List.set_cons_succ, Nat.reduceAdd, Nat.zero_add])
      refine Seq.eff _ rfl (fun w' hw hf => giveG_of rfl (by simp) fun K hK => ?_) ?_
      · go_simp
        refine (ord_any x y _).mono ?_
        rintro e w2 ⟨rfl, hb⟩
        exact hK _ _ ⟨rfl, hb⟩
      simp only [Act.put, List.setIfInBounds_toArray, List.set_cons_zero, List.set_cons_succ, Nat.reduceAdd, Nat.zero_add]
      refine Seq.eff _ rfl (fun w' hw hf => giveG_of rfl (by simp) fun K hK => ?_) ?_
      · have h14 := hf 9 _ rfl (by kernel_rfl)
        simp only [h14] at hK ⊢
        go_simp
        exact hK _ _ ⟨rfl, Ext.refl _⟩
      simp only [Act.put, List.setIfInBounds_toArray, List.set_cons_zero, List.set_cons_succ, Nat.reduceAdd, Nat.zero_add]
      refine Seq.eff _ rfl (fun w' hw hf => giveG_of rfl (by simp) fun K hK => ?_) ?_
      · have h15 := hf 10 _ rfl (by kernel_rfl)
        simp only [h15] at hK ⊢
        go_simp
        exact hK _ _ ⟨rfl, Ext.refl _⟩
      simp only [Act.put, List.setIfInBounds_toArray, List.set_cons_zero, List.set_cons_succ, Nat.reduceAdd, Nat.zero_add]
      refine Seq.nil fun w' hw hf => tail_none (by kernel_rfl) ?_
      have h16 := hf 11 _ (by omega) rfl
      rw [h16]
      have HR3 := Lib.hid (HR2.out.ext ((Ext.drew wr).trans hw))
      clear c0 c1 c2 c3 d0 d1 d2 d3 h16 hf hw HR2
      generalize ν 9 = v9
      generalize ν 10 = v10
      cases hcd : (!decide (ordC x y < 0)) with
      | false =>
        have hq : ordC x y < 0 := by simpa using hcd
        have hS3 := HS2.out.down HS.out hci hcj hy (leR_of_lt hq)
        go_wp2
        go_roundw
        case rel => exact ⟨i, c, rfl, rfl, HR3.out, hS3⟩
        case measure => simp [intOf]; omega
      | true =>
        have hq : ¬ ordC x y < 0 := by simpa using hcd
        have hS3 := HS2.out.up HS.out hci hcj hy (by unfold leR; omega)
        have hwc : IntKind.i64.wrap ((c : Int) + 1) = ((c + 1 : Nat) : Int) := by rw [IntWalk.i64_in _ (by omega)]; omega
        go_wp2
        go_roundw
        case rel => exact ⟨c + 1, j, by go_num, rfl, HR3.out, hS3⟩
        case measure => simp [intOf]; omega
    · obtain rfl : i = j := by omega
      go_wp2_with fail
      go_loopw [17] (fun vk wr2 => ∃ (k : Nat) (ys : List Rec), vk = .int .i64 k ∧ i ≤ k ∧ k ≤ m ∧ RowW B w0 wr2 g ys ∧ Re (sigDn m k) zs ys) (fun vk _ => (intOf vk).toNat)
      case atStart => exact ⟨m, zs, rfl, by omega, Nat.le_refl _, HR2.out, Re.dn0 m zs⟩
      case round =>
        obtain ⟨k, ys, rfl, hak, hki, hR, hS⟩ := hrel
        have HR4 := Lib.hid hR
        have HS4 := Lib.hid hS
        have hlen : ys.length = zs.length := hS.len
        clear hR hS
        by_cases hlt2 : i < k
        · have hltz2 : (i : Int) < (k : Int) := by omega
          obtain ⟨q, rfl⟩ : ∃ q, k = q + 1 := ⟨k - 1, by omega⟩
          obtain ⟨u, hu⟩ : ∃ u, ys[q + 1]? = some u := ⟨_, List.getElem?_eq_getElem (by omega)⟩
          obtain ⟨v, hv⟩ : ∃ v, ys[q]? = some v := ⟨_, List.getElem?_eq_getElem (by omega)⟩
          obtain ⟨c0, c1, c2, c3⟩ := HR4.out.cells hu
          obtain ⟨d0, d1, d2, d3⟩ := HR4.out.cells hv
          obtain ⟨f0, f1, f2, f3⟩ := HR4.out.marks (j := q + 1) (by omega)
          obtain ⟨m0, m1, m2, m3⟩ := HR4.out.marks (j := q) (by omega)
          have hwk : IntKind.i64.wrap (((q + 1 : Nat) : Int) - 1) = (q : Int) := by rw [IntWalk.i64_in _ (by omega)]; omega
          have hk1 : (q : Int) < zs.length := by omega
          have hk2 : ((q + 1 : Nat) : Int) < zs.length := by omega
          have hHX := Lib.hid (And.intro hu hv)
          clear hu hv
          generalize hA : q + 1 = A at *
          go_wp2_with fail
          go_big_region
          all_goals go_wp2
          go_roundw
          case rel =>
            subst hA
            exact ⟨q, _, by go_num, by omega, by omega, ((HR4.out.set (q + 1) v (by omega)).set q u (by rw [List.length_set]; omega)).ext (Ext.drew _), HS4.out.dn hki hHX.out.1 hHX.out.2⟩
          case measure => subst hA; simp [intOf]
        · obtain rfl : k = i := by omega
          have hfin := dn_sorted HX.out HS.out HS2.out HS4.out
          go_wp2
          refine bodyPost_end (results_none rfl _ _ _) rfl ⟨rfl, ys, HR4.out, HM.out ▸ hfin⟩
end Go.Proofs.YtgjahnomafpnfaaGreatDoor

/- slices.symMergeCmpFunc at records. -/
namespace Go.Proofs.YtgjahnomafpnfaaGreatDoor
open Go.RowKit
theorem rot_id {a m b : Nat} (h : a = m ∨ m = b) (h1 : a ≤ m) (h2 : m ≤ b) (zs : List Rec) : Re (rot a m b) zs zs := (Re.refl zs).of fun t => by unfold rot; (repeat' split) <;> omega
/-- Where symMerge stands behind its rotation. -/
structure SymSt (B : Nat) (w0 w : World) (g a m b mid st : Nat) (zs ys : List Rec) : Prop where
  row : RowW B w0 w g ys
  m0 : Moved a b zs ys
  s1 : SortedOn a st ys
  s2 : SortedOn st mid ys
  s3 : SortedOn mid (mid + m - st) ys
  s4 : SortedOn (mid + m - st) b ys
  cr : ∀ (p q : Nat) x y, a ≤ p → p < mid → mid ≤ q → q < b → ys[p]? = some x → ys[q]? = some y → leR x y
/-- Behind the first half. -/
structure SymHf (B : Nat) (w0 w : World) (g a m b mid st : Nat) (zs ys us : List Rec) : Prop where
  row : RowW B w0 w g us
  m0 : Moved a b zs ys
  m1 : Moved a mid ys us
  s1 : SortedOn a mid us
  s3 : SortedOn mid (mid + m - st) us
  s4 : SortedOn (mid + m - st) b us
  cr : ∀ (p q : Nat) x y, a ≤ p → p < mid → mid ≤ q → q < b → ys[p]? = some x → ys[q]? = some y → leR x y
def SymEx (B : Nat) (w0 w : World) (g a m b mid st : Nat) (zs : List Rec) : Prop := ∃ ys, SymSt B w0 w g a m b mid st zs ys
def SymEx2 (B : Nat) (w0 w : World) (g a m b mid st : Nat) (zs ys : List Rec) : Prop := ∃ us, SymHf B w0 w g a m b mid st zs ys us
set_option maxHeartbeats 1600000 in
set_option maxRecDepth 100000 in
theorem sym_main (B : Nat) (w0 : World) (g cap a m b : Nat) (zs : List Rec) (w : World) (hR : RowW B w0 w g zs) (ham : a + 1 < m) (hmb : m + 1 < b) (hb : b ≤ zs.length) (hn : zs.length ≤ 1000000) (hs1 : SortedOn a m zs) (hs2 : SortedOn m b zs)
    (hI : ∀ (a' m' b' : Nat) (zs' : List Rec) (w' : World), b' - a' < b - a → zs'.length = zs.length → RowW B w0 w' g zs' → a' < m' → m' < b' → b' ≤ zs.length → SortedOn a' m' zs' → SortedOn m' b' zs' →
      Calls Tryz.prog 193 #[.slice (some ⟨g, 0, none⟩) zs.length cap, .int .i64 a', .int .i64 m', .int .i64 b', .func (.func 79) #[] #[]] w' (SymPost B w0 g a' b' zs')) :
    Calls Tryz.prog 193 #[.slice (some ⟨g, 0, none⟩) zs.length cap, .int .i64 a, .int .i64 m, .int .i64 b, .func (.func 79) #[] #[]] w (SymPost B w0 g a b zs) := by
  have HR := Lib.hid hR
  have HS := Lib.hid (And.intro hs1 hs2)
  have HI := Lib.hid hI
  clear hR hs1 hs2 hI
  have hw1 : IntKind.i64.wrap ((b : Int) - m) = ((b - m : Nat) : Int) := by rw [IntWalk.i64_in _ (by omega)]; omega
  have hw0 : IntKind.i64.wrap ((m : Int) - a) = ((m - a : Nat) : Int) := by rw [IntWalk.i64_in _ (by omega)]; omega
  have hb0 : (((m - a : Nat) : Int) == 1) = false := by rw [beq_eq_false_iff_ne]; omega
  have hb1 : (((b - m : Nat) : Int) == 1) = false := by rw [beq_eq_false_iff_ne]; omega
  generalize hD : m - a = D at *
  generalize hE : b - m = E at *
  have HDD := Lib.hid (And.intro hD hE)
  clear hD hE
  have hw2 : IntKind.i64.wrap ((a : Int) + b) = ((a + b : Nat) : Int) := by rw [IntWalk.i64_in _ (by omega)]; omega
  have hw3 : IntKind.u64.wrap ((a + b : Nat) : Int) = ((a + b : Nat) : Int) := by simp only [IntKind.wrap, IntKind.bits, IntKind.signed]; simp; omega
  obtain ⟨mid, hmid⟩ : ∃ mid : Nat, mid = (a + b) / 2 := ⟨_, rfl⟩
  have hcc : ((a : Int) + b) / 2 = (mid : Int) := by omega
  have hmb1 : a < mid ∧ mid < b := by omega
  have HMid := Lib.hid hmid
  clear hmid
  have hmlo := hmb1.1
  have hmhi := hmb1.2
  have hmt : mid ≤ 1000000 := by omega
  clear hmb1
  obtain ⟨lo, hlo⟩ : ∃ lo, lo = symLo a m b := ⟨_, rfl⟩
  obtain ⟨hi, hhi⟩ : ∃ hi, hi = symHi a m b := ⟨_, rfl⟩
  have HL0 := Lib.hid (And.intro hlo hhi)
  have hlh : a ≤ lo ∧ lo ≤ hi ∧ hi ≤ m ∧ hi ≤ mid ∧ mid + m - lo ≤ b ∧ m ≤ mid + m - hi := by
    have := HMid.out
    rw [hlo, hhi]
    unfold symLo symHi
    by_cases hh : (a + b) / 2 < m
    · rw [if_pos hh, if_pos hh]; omega
    · rw [if_neg hh, if_neg hh]; omega
  have hloe : (mid < m → lo = mid + m - b ∧ hi = mid) ∧ (¬ mid < m → lo = a ∧ hi = m) := by
    have := HMid.out
    rw [hlo, hhi]
    unfold symLo symHi
    refine ⟨fun q => ?_, fun q => ?_⟩
    · rw [if_pos (by omega), if_pos (by omega)]; omega
    · rw [if_neg (by omega), if_neg (by omega)]; omega
  have HLE := Lib.hid hloe
  have HLH := Lib.hid hlh
  clear hlo hhi hloe hlh
  go_enter Tryz.func193, Tryz.ntmps193
  go_upto_if 140 with (fail)
  go_cut [20, 21] from 138 (fun s r wc => wc = w ∧ s = .int .i64 lo ∧ r = .int .i64 hi)
  case first =>
    by_cases hmm : mid < m
    · have hmz : (mid : Int) < m := by omega
      have hb2 : b ≤ mid + m := by omega
      go_wp2_with fail
      go_meet
      have := HLE.out.1 hmm
      exact ⟨rfl, by congr 1; omega, by congr 1; omega⟩
    · have hmz : ¬ ((mid : Int) < m) := by omega
      go_wp2_with fail
      go_meet
      have := HLE.out.2 hmm
      exact ⟨rfl, by congr 1; omega, by congr 1; omega⟩
  case rest =>
    obtain ⟨rfl, rfl, rfl⟩ := hcut
    go_wp2_with fail
    go_loopw [20, 21] (fun vs vr wr => ∃ (st r : Nat), vs = .int .i64 st ∧ vr = .int .i64 r ∧ RowW B w0 wr g zs ∧ Sym zs a m b st r) (fun vs vr _ => (intOf vr).toNat - (intOf vs).toNat)
    case atStart => exact ⟨lo, hi, rfl, rfl, HR.out, HL0.out.1 ▸ HL0.out.2 ▸ Sym.start (by omega) (by omega)⟩
    case round =>
      obtain ⟨st, r, rfl, rfl, hR, hS⟩ := hrel
      have hl1 := hS.le1
      have hl2 := hS.le2
      have hl3 := hS.le3
      rw [← HL0.out.1] at hl1
      rw [← HL0.out.2] at hl3
      have hbd := HLH.out
      have HR2 := Lib.hid hR
      have HS2 := Lib.hid hS
      clear hR hS
      by_cases hlt : st < r
      · have hltz : (st : Int) < (r : Int) := by omega
        have hw2 : IntKind.i64.wrap ((st : Int) + r) = ((st + r : Nat) : Int) := by rw [IntWalk.i64_in _ (by omega)]; omega
        have hw3 : IntKind.u64.wrap ((st + r : Nat) : Int) = ((st + r : Nat) : Int) := by simp only [IntKind.wrap, IntKind.bits, IntKind.signed]; simp; omega
        go_wp2_with fail
        obtain ⟨c, hcc, hci, hcj⟩ : ∃ c : Nat, ((st : Int) + r) / 2 = (c : Int) ∧ st ≤ c ∧ c < r := ⟨(st + r) / 2, by omega, by omega, by omega⟩
        simp only [hcc]
        clear hcc
        obtain ⟨P, hP, hPc⟩ : ∃ P : Nat, ((mid : Int) + m - 1 - c) = (P : Int) ∧ P = mid + m - 1 - c := ⟨mid + m - 1 - c, by omega, rfl⟩
        have hPb : P < b := by omega
        have hwP : IntKind.i64.wrap ((mid : Int) + m - 1 - c) = (P : Int) := by rw [IntWalk.i64_in _ (by omega), hP]
        have HP := Lib.hid hPc
        obtain ⟨x, hx⟩ : ∃ x, zs[c]? = some x := ⟨_, List.getElem?_eq_getElem (by omega)⟩
        obtain ⟨y, hy⟩ : ∃ y, zs[P]? = some y := ⟨_, List.getElem?_eq_getElem (by omega)⟩
        obtain ⟨c0, c1, c2, c3⟩ := HR2.out.cells hy
        obtain ⟨d0, d1, d2, d3⟩ := HR2.out.cells hx
        have HXY := Lib.hid (And.intro hx hy)
        have ha1 : (P : Int) < zs.length := by omega
        have hb1 : (c : Int) < zs.length := by omega
        clear hw2 hw3 hP hPc hx hy hbd
        refine wp_drawn 14 (by kernel_rfl) (by kernel_rfl) (fun i => match i with
          | 11 => some fun v _ => v = .int .i64 (ordC y x)
          | 12 => some fun v _ => v = .bool (decide (ordC y x < 0))
          | 13 => some fun v _ => v = .bool (!decide (ordC y x < 0))
          | _ => none) ?_ ?_
        · intro j φ hφ v w1 w2 h1 h2
          split at hφ <;> cases hφ
          all_goals exact h1
        intro ν
        simp only [List.take_succ_cons, List.take_zero]
        iterate 11 (refine Seq.pure ?_ rfl (fun w' hw hf => ?_) ?_; rotate_left; (· (have k0 := hw.keep (w := World.drew _) c0; have k1 := hw.keep (w := World.drew _) c1; have k2 := hw.keep (w := World.drew _) c2; have k3 := hw.keep (w := World.drew _) c3; have l0 := hw.keep (w := World.drew _) d0; have l1 := hw.keep (w := World.drew _) d1; have l2 := hw.keep (w := World.drew _) d2; have l3 := hw.keep (w := World.drew _) d3; unfold pureG; go_simp; with_reducible rfl)); simp only [Act.put, List.setIfInBounds_toArray, List.set_cons_zero, List.set_cons_succ, Nat.reduceAdd, Nat.zero_add])
        refine Seq.eff _ rfl (fun w' hw hf => giveG_of rfl (by simp) fun K hK => ?_) ?_
        · go_simp
          refine (ord_any y x _).mono ?_
          rintro e w2 ⟨rfl, hb⟩
          exact hK _ _ ⟨rfl, hb⟩
        simp only [Act.put, List.setIfInBounds_toArray, List.set_cons_zero, List.set_cons_succ, Nat.reduceAdd, Nat.zero_add]
        refine Seq.eff _ rfl (fun w' hw hf => giveG_of rfl (by simp) fun K hK => ?_) ?_
        · have h14 := hf 11 _ rfl (by kernel_rfl)
          simp only [h14] at hK ⊢
          go_simp
          exact hK _ _ ⟨rfl, Ext.refl _⟩
        simp only [Act.put, List.setIfInBounds_toArray, List.set_cons_zero, List.set_cons_succ, Nat.reduceAdd, Nat.zero_add]
        refine Seq.eff _ rfl (fun w' hw hf => giveG_of rfl (by simp) fun K hK => ?_) ?_
        · have h15 := hf 12 _ rfl (by kernel_rfl)
          simp only [h15] at hK ⊢
          go_simp
          exact hK _ _ ⟨rfl, Ext.refl _⟩
        simp only [Act.put, List.setIfInBounds_toArray, List.set_cons_zero, List.set_cons_succ, Nat.reduceAdd, Nat.zero_add]
        refine Seq.nil fun w' hw hf => tail_none (by kernel_rfl) ?_
        have h16 := hf 13 _ (by omega) rfl
        rw [h16]
        have HR3 := Lib.hid (HR2.out.ext ((Ext.drew wr).trans hw))
        clear c0 c1 c2 c3 d0 d1 d2 d3 h16 hf hw HR2 hwP
        generalize ν 11 = v9
        generalize ν 12 = v10
        have hPe := HP.out
        have hPm : (a + b) / 2 + m - 1 - c = P := by rw [← HMid.out]; exact hPe.symm
        cases hcd : (!decide (ordC y x < 0)) with
        | false =>
          have hq : ordC y x < 0 := by simpa using hcd
          have hS3 := HS2.out.down hci hcj HXY.out.1 (by rw [hPm]; exact HXY.out.2) (leR_of_lt hq)
          have HS3 := Lib.hid hS3
          clear hPe hPm hS3
          go_wp2
          go_roundw
          case rel => exact ⟨st, c, rfl, rfl, HR3.out, HS3.out⟩
          case measure => simp [intOf]; omega
        | true =>
          have hq : ¬ ordC y x < 0 := by simpa using hcd
          have hS3 := HS2.out.up hci hcj HXY.out.1 (by rw [hPm]; exact HXY.out.2) (by unfold leR; omega)
          have HS3 := Lib.hid hS3
          clear hPe hPm hS3
          go_wp2
          go_roundw
          case rel => exact ⟨c + 1, r, by go_num, rfl, HR3.out, HS3.out⟩
          case measure => simp [intOf]; omega
      · obtain rfl : st = r := by omega
        have hen0 : m ≤ mid + m - st ∧ mid + m - st ≤ b ∧ mid ≤ mid + m - st := by omega
        have hst1 : a ≤ st ∧ st ≤ m ∧ st ≤ mid := by omega
        obtain ⟨en, hen⟩ : ∃ en : Nat, en = mid + m - st := ⟨_, rfl⟩
        have hene : ((mid : Int) + m - st) = (en : Int) := by omega
        have HEn := Lib.hid hen
        have hsz : m ≤ en ∧ en ≤ b ∧ mid ≤ en := by omega
        clear hen hen0 hbd
        go_upto_region 39 with (fail)
        go_cut [185] from 178 (fun s wc => wr = wc ∧ s = .bool (decide (st < m) && decide (m < en)))
        case first =>
          by_cases h1 : st < m
          · have h1z : (st : Int) < m := by omega
            by_cases h2 : m < en
            · have h2z : (m : Int) < en := by omega
              go_wp2_with fail
              go_meet
              exact ⟨rfl, by simp [h1, h2]⟩
            · have h2z : ¬ ((m : Int) < en) := by omega
              go_wp2_with fail
              go_meet
              exact ⟨rfl, by simp [h1, h2]⟩
          · have h1z : ¬ ((st : Int) < m) := by omega
            go_wp2_with fail
            go_meet
            exact ⟨rfl, by simp [h1]⟩
        case rest =>
        obtain ⟨rfl, rfl⟩ := hcut
        go_upto_if 185 with (fail)
        go_cut [] from 178 (fun wc => SymEx B w0 wc g a m b mid st zs)
        case first =>
          cases hd : (decide (st < m) && decide (m < en)) with
          | true =>
            have hd2 : st < m ∧ m < en := by simpa using hd
            have HC := Lib.hid (rotate_any B w0 g cap st m en zs wr HR2.out hd2.1 hd2.2 (by omega) hn)
            go_wp2_with fail
            refine HC.out.mono ?_
            rintro e W1 ⟨rfl, ys, k1, k2⟩
            rw [HEn.out, HMid.out] at k2
            have hsp := sym_split (by omega) (by omega) hb HS.out.1 HS.out.2 HS2.out k2
            rw [← HMid.out] at hsp
            have H : RowKit.Hid (SymEx B w0 W1 g a m b mid st zs) := Lib.hid ⟨ys, k1, hsp.1, hsp.2.1, hsp.2.2.1, hsp.2.2.2.1, hsp.2.2.2.2.1, hsp.2.2.2.2.2⟩
            clear k1 k2 hsp
            go_wp2_with fail
            go_meet
            exact H.out
          | false =>
            have hd2 : ¬ (st < m ∧ m < en) := by
              intro q
              simp [q.1, q.2] at hd
            have hsp := sym_split (by omega) (by omega) hb HS.out.1 HS.out.2 HS2.out (rot_id (by have := HEn.out; have := HMid.out; omega) (by omega) (by have := HMid.out; omega) zs)
            rw [← HMid.out] at hsp
            have H : RowKit.Hid (SymEx B w0 wr g a m b mid st zs) := Lib.hid ⟨zs, HR2.out, hsp.1, hsp.2.1, hsp.2.2.1, hsp.2.2.2.1, hsp.2.2.2.2.1, hsp.2.2.2.2.2⟩
            clear hsp
            go_wp2_with fail
            go_meet
            exact H.out
        case rest =>
          obtain ⟨ys, hst⟩ := hcut
          have hysl := hst.m0.perm.length_eq
          have HSt := Lib.hid hst
          clear hst
          go_upto_region 41 with (fail)
          go_cut [199] from 192 (fun s wd => wc = wd ∧ s = .bool (decide (a < st) && decide (st < mid)))
          case first =>
            by_cases h1 : a < st
            · have h1z : (a : Int) < st := by omega
              by_cases h2 : st < mid
              · have h2z : (st : Int) < mid := by omega
                go_wp2_with fail
                go_meet
                exact ⟨rfl, by simp [h1, h2]⟩
              · have h2z : ¬ ((st : Int) < mid) := by omega
                go_wp2_with fail
                go_meet
                exact ⟨rfl, by simp [h1, h2]⟩
            · have h1z : ¬ ((a : Int) < st) := by omega
              go_wp2_with fail
              go_meet
              exact ⟨rfl, by simp [h1]⟩
          case rest =>
          obtain ⟨rfl, rfl⟩ := hcut
          go_upto_if 199 with (fail)
          go_cut [] from 192 (fun wd => SymEx2 B w0 wd g a m b mid st zs ys)
          case first =>
            cases hd : (decide (a < st) && decide (st < mid)) with
            | true =>
              have hd2 : a < st ∧ st < mid := by simpa using hd
              have HC := Lib.hid (HI.out a st mid ys wc (by omega) hysl HSt.out.row hd2.1 hd2.2 (by omega) HSt.out.s1 HSt.out.s2)
              go_wp2_with fail
              refine HC.out.mono ?_
              rintro e W1 ⟨rfl, us, k1, k2, k3⟩
              have H : RowKit.Hid (SymEx2 B w0 W1 g a m b mid st zs ys) := Lib.hid ⟨us, k1, HSt.out.m0, k2, k3, HSt.out.s3.same (fun k hk _ => k2.post k hk), HSt.out.s4.same (fun k hk _ => k2.post k (by omega)), HSt.out.cr⟩
              clear k1 k2 k3
              go_wp2_with fail
              go_meet
              exact H.out
            | false =>
              have hd2 : ¬ (a < st ∧ st < mid) := by
                intro q
                simp [q.1, q.2] at hd
              have H : RowKit.Hid (SymEx2 B w0 wc g a m b mid st zs ys) := Lib.hid ⟨ys, HSt.out.row, HSt.out.m0, Moved.refl _ _ _, by
                rcases (by omega : st = a ∨ st = mid) with q | q
                · have := HSt.out.s2; rwa [q] at this
                · have := HSt.out.s1; rwa [q] at this, HSt.out.s3, HSt.out.s4, HSt.out.cr⟩
              go_wp2_with fail
              go_meet
              exact H.out
          case rest =>
            obtain ⟨us, hst⟩ := hcut
            have husl := hst.m1.perm.length_eq
            have HSt2 := Lib.hid hst
            clear hst
            by_cases h1 : mid < en
            · have h1z : (mid : Int) < en := by omega
              by_cases h2 : en < b
              · have h2z : (en : Int) < b := by omega
                have HC := Lib.hid (HI.out mid en b us _ (by omega) (husl.trans hysl) HSt2.out.row h1 h2 (by omega) (by have := HSt2.out.s3; rw [← HEn.out] at this; exact this) (by have := HSt2.out.s4; rw [← HEn.out] at this; exact this))
                go_wp2_with fail
                refine HC.out.mono ?_
                rintro e W1 ⟨rfl, vs, k1, k2, k3⟩
                have hj := sym_join (by omega) (by omega) (by omega) HSt2.out.cr HSt2.out.m0 HSt2.out.m1 HSt2.out.s1 k2 k3
                have H := Lib.hid (And.intro k1 hj)
                clear k1 k2 k3 hj
                go_wp2_with fail
                refine bodyPost_end (results_none rfl _ _ _) rfl ⟨rfl, vs, H.out⟩
              · have h2z : ¬ ((en : Int) < b) := by omega
                have hj := sym_join (by omega) (by omega) (by omega) HSt2.out.cr HSt2.out.m0 HSt2.out.m1 HSt2.out.s1 (Moved.refl mid b us) (by have := HSt2.out.s3; rw [← HEn.out] at this; exact (show en = b by omega) ▸ this)
                have H := Lib.hid hj
                clear hj
                go_wp2_with fail
                refine bodyPost_end (results_none rfl _ _ _) rfl ⟨rfl, us, HSt2.out.row, H.out⟩
            · have h1z : ¬ ((mid : Int) < en) := by omega
              have hj := sym_join (by omega) (by omega) (by omega) HSt2.out.cr HSt2.out.m0 HSt2.out.m1 HSt2.out.s1 (Moved.refl mid b us) (by have := HSt2.out.s4; rw [← HEn.out] at this; exact (show en = mid by omega) ▸ this)
              have H := Lib.hid hj
              clear hj
              go_wp2_with fail
              refine bodyPost_end (results_none rfl _ _ _) rfl ⟨rfl, us, HSt2.out.row, H.out⟩
end Go.Proofs.YtgjahnomafpnfaaGreatDoor
