/- Lemmas and walks that this claim needs, in one text out of several; each states its own conditions. -/
import Derived.Test.YtgjahnomafpnfaaGreatDoorMB6
set_option linter.unusedVariables false
set_option linter.unusedSimpArgs false
/- parse: what it reads; the front of its walk. -/
namespace Go.Proofs.YtgjahnomafpnfaaGreatDoor
open Go.RowKit
/-- The lines of a message. -/
def linesP (m : ByteArray) : List ByteArray := Lib.splitB nl 0 (Lib.countB m nl) m
theorem linesP_len (m : ByteArray) : (linesP m).length = Lib.countB m nl + 1 := Lib.splitB_all nl (by decide) 0 _ m rfl
theorem splitB_size (sep : ByteArray) (N : Nat) : ∀ (k : Nat) (s : ByteArray), s.size ≤ N → ∀ x ∈ Lib.splitB sep 0 k s, x.size ≤ N
  | 0, s, hs, x, hx => by
    rw [Lib.splitB_zero, List.mem_singleton] at hx
    rw [hx]; exact hs
  | k + 1, s, hs, x, hx => by
    unfold Lib.splitB at hx
    split at hx
    · rw [List.mem_singleton] at hx
      rw [hx]; exact hs
    · rcases List.mem_cons.1 hx with rfl | hx
      · rw [ByteArray.size_extract]; omega
      · exact splitB_size sep N k _ (by rw [ByteArray.size_extract]; omega) x hx
theorem linesP_size (m : ByteArray) : ∀ x ∈ linesP m, x.size ≤ m.size := splitB_size nl m.size _ m (Nat.le_refl _)
inductive Msg where
  | greet (gs : List Int)
  | post (xs : List Rec)
/-- k numbers of a line, behind those that are read already. -/
def numsGo : Nat → List Int → ByteArray → Bool → Option (List Int)
  | 0, acc, _, _ => some acc
  | k + 1, acc, s, more => match numQ s more with
    | none => none
    | some (v, s', m') => numsGo k (acc ++ [v]) s' m'
def sPost0 : ByteArray := ⟨#[112, 111, 115, 116]⟩
def haveP (n : Nat) (m : ByteArray) (ls : List ByteArray) (s : ByteArray) (more : Bool) : Option Msg :=
  if ls.length = 2 then (match numsGo n [] s more with
    | none => none
    | some gs => if overB gs = false ∧ greetB gs = m then some (.greet gs) else none) else none
def postP (n : Nat) (m : ByteArray) (ls : List ByteArray) (s : ByteArray) (more : Bool) : Option Msg :=
  match numQ s more with
  | none => none
  | some (k, _, _) => if inB k 1 10 = true ∧ (ls.length : Int) = k + 2 then (match recsP n [] ((ls.take (ls.length - 1)).drop 1) with
    | none => none
    | some xs => if letterB xs = m then some (.post xs) else none) else none
def bodyP (n : Nat) (m : ByteArray) (ls : List ByteArray) (t : ByteArray × ByteArray × Bool) : Option Msg :=
  if t.1 = sHave then haveP n m ls t.2.1 t.2.2 else if t.1 = sPost0 then postP n m ls t.2.1 t.2.2 else none
/-- The message of a string; none: it has none of the forms. -/
def parseP (n : Nat) (m : ByteArray) : Option Msg :=
  if (linesP m).length ≤ 1 ∨ (linesP m).getD ((linesP m).length - 1) ⟨#[]⟩ ≠ ⟨#[]⟩ then none else bodyP n m (linesP m) (cutS ((linesP m).getD 0 ⟨#[]⟩))
/-- How parse ends. -/
def ParseIs (o : Option Msg) (e : Ending) (w' : World) : Prop :=
  match o with
  | none => ∃ ov, e = .returned (.tuple #[ov, .int .i64 4])
  | some (.greet gs) => ∃ v, e = .returned (.tuple #[.iface 135 v, .int .i64 0]) ∧ SlI w' v gs
  | some (.post xs) => ∃ v, e = .returned (.tuple #[.iface 137 v, .int .i64 0]) ∧ SlR w' v xs
theorem count_small (m : ByteArray) (hs : m.size < 4294967281) : Lib.countB m nl ≤ 4294967281 := by
  have := Lib.countB_le nl (by decide) m.size m (Nat.le_refl _)
  omega
theorem Split_any {B : Nat} {w : World} (hL : Laid B w) (m : ByteArray) (hs : m.size < 4294967281) :
    Calls Tryz.prog 134 #[.string m, .string ⟨#[10]⟩] w fun e w' => ∃ b c, c ≤ 4294967281 ∧ (linesP m).length = c + 1 ∧ e = .returned (.slice (some ⟨b, 0, none⟩) (c + 1) (c + 1)) ∧ (∀ (j : Nat) g, (linesP m)[j]? = some g → w'.cell? ⟨b, j, none⟩ = some (.string g)) ∧ b < w'.heap.size ∧ w.heap.size ≤ b ∧ Ext w w' := by
  obtain ⟨mx, hm⟩ := hL.max
  refine (Tryz.strings_Split m ⟨#[10]⟩ mx w hs hm (by decide)).mono ?_
  rintro e w' ⟨rfl, rfl⟩
  refine ⟨w.heap.size, Lib.countB m nl, count_small m hs, linesP_len m, rfl, fun j g hg => ?_, by simp, Nat.le_refl _, Ext.alloc _ _⟩
  have hg' : (Lib.splitB ⟨#[10]⟩ 0 (Lib.countB m ⟨#[10]⟩) m)[j]? = some g := hg
  rw [World.cell?_alloc_new]
  simp [hg']
/-- Where parse stands: the error's place E is untouched. -/
structure QSt (w W : World) : Prop where
  c : W.cell? ⟨w.heap.size, 0, none⟩ = some (.int .i64 0)
  f : W.frozen? ⟨w.heap.size, 0, none⟩ = false
  be : Ext w W
theorem QSt.frB {w W W' : World} (h : QSt w W) {S : Nat → Prop} (hF : FrB S W W') (hS : ∀ j, S j → w.heap.size < j) : QSt w W' := by
  have hlt : w.heap.size < W.heap.size := World.block_lt_of_cell? _ _ h.c
  have hn : ¬ S w.heap.size := fun e => by have := hS _ e; omega
  exact ⟨(hF.cell hlt hn).trans h.c, (hF.frozen hlt hn).trans h.f, Below.trans (B := w.heap.size) h.be (hF.below h.be.size (fun j hj => by have := hS j hj; omega))⟩
theorem QSt.ext {w W W' : World} (h : QSt w W) (hE : Ext W W') : QSt w W' := h.frB (S := fun _ => False) (FrB.ext hE) (fun _ => False.elim)
theorem FrB.ofBelow {B : Nat} {a b : World} (h : Below B a b) : FrB (fun j => B ≤ j) a b := ⟨h.os, h.tape, h.output, h.size, fun j hj hn => h.block j (by omega)⟩
theorem qst_new (w : World) : QSt w (w.alloc (.cells #[.int .i64 0] 38)) := by
  refine ⟨?_, World.frozen?_alloc_new w _ _ 0, Ext.alloc _ _⟩
  rw [World.cell?_alloc_new]; rfl
theorem lit_slice {ls : List ByteArray} {c : Nat} (h : ls.length = c + 1) (j : Nat) (hj : j < c + 1) : ls[j]? = some (ls.getD j ⟨#[]⟩) := by
  rw [List.getElem?_eq_getElem (by omega)]; simp [List.getD, show j < ls.length by omega]
theorem bytes_empty (s : ByteArray) (h : s.toList.isEmpty = true) : s = ⟨#[]⟩ := by
  refine (Lib.bytes_beq_iff s ⟨#[]⟩).1 ?_
  rw [List.isEmpty_iff.1 h, Lib.toList_data]
  rfl
theorem noop_cell {w : World} {a : Addr} {v : Value} (h : w.cell? a = some v) (p : Addr) : (w.setCell a v).cell? p = w.cell? p := by
  by_cases e : p = a
  · subst e
    rw [World.cell?_setCell_same _ _ _ h, h]
  · exact World.cell?_setCell_other _ _ _ _ (Ne.symm e)
theorem SlI.noop {w w' : World} {v : Value} {gs : List Int} (h : SlI w v gs) (hc : ∀ p, w'.cell? p = w.cell? p) (hz : w'.heap.size = w.heap.size) : SlI w' v gs := by
  rcases h with h | ⟨b, off, cap, h1, h2, h3, h4, h5⟩
  · exact .inl h
  · exact .inr ⟨b, off, cap, h1, h2, h3, by omega, fun j u hu => (hc _).trans (h5 j u hu)⟩
theorem SlR.noop {w w' : World} {v : Value} {xs : List Rec} (h : SlR w v xs) (hc : ∀ p, w'.cell? p = w.cell? p) (hz : w'.heap.size = w.heap.size) : SlR w' v xs := by
  rcases h with h | ⟨b, off, cap, h1, h2, h3, h4, h5⟩
  · exact .inl h
  · exact .inr ⟨b, off, cap, h1, h2, h3, by omega, fun j u hu => (hc _).trans (h5 j u hu)⟩
theorem parsedP_formed {n : Int} {s : ByteArray} {x : Rec} (h : parsedP n s = some x) : formedB n x = true := by
  unfold parsedP at h
  repeat' split at h
  all_goals first | cases h | skip
  rename_i hh
  exact hh.2
theorem formedB_fits {n : Int} {x : Rec} (hn : n ≤ 1000) (h : formedB n x = true) : x.fits := by
  unfold formedB writtenB at h
  simp only [Bool.and_eq_true, inB_iff] at h
  obtain ⟨⟨⟨h1, h2⟩, h3⟩, h4, h5⟩ := h
  exact ⟨by omega, by omega, by omega, by omega⟩
theorem recsP_length {n : Int} : ∀ {ls : List ByteArray} {acc xs : List Rec}, recsP n acc ls = some xs → xs.length = acc.length + ls.length
  | [], acc, xs, h => by simp only [recsP, Option.some.injEq] at h; rw [h]; simp
  | s :: ls, acc, xs, h => by
    unfold recsP at h
    split at h
    · cases h
    · split at h
      · rw [recsP_length h]; simp; omega
      · cases h
theorem recsP_formed {n : Int} : ∀ {ls : List ByteArray} {acc xs : List Rec}, recsP n acc ls = some xs → (∀ x ∈ acc, formedB n x = true) → ∀ x ∈ xs, formedB n x = true
  | [], acc, xs, h, ha => by simp only [recsP, Option.some.injEq] at h; rw [← h]; exact ha
  | s :: ls, acc, xs, h, ha => by
    unfold recsP at h
    split at h
    · cases h
    · rename_i x hx
      split at h
      · refine recsP_formed h fun y hy => ?_
        rcases List.mem_append.1 hy with hy | hy
        · exact ha y hy
        · rw [List.mem_singleton.1 hy]; exact parsedP_formed hx
      · cases h
theorem recsP_fits {n : Int} {ls : List ByteArray} {xs : List Rec} (h : recsP n [] ls = some xs) (hn : n ≤ 1000) : ∀ x ∈ xs, x.fits :=
  fun x hx => formedB_fits hn (recsP_formed h (fun y hy => by cases hy) x hx)
theorem meth89 : ∀ (v : Value) (w : World), (method 405 135 v "lagan/post.text").run Tryz.prog w = .ok (89, v) w := fun _ _ => by kernel_rfl
theorem meth140 : ∀ (v : Value) (w : World), (method 405 137 v "lagan/post.text").run Tryz.prog w = .ok (140, v) w := fun _ _ => by kernel_rfl
/-- Where the reader of a greeting's numbers stands. -/
structure HRel (n : Nat) (w wr : World) (base wb sb mb : Nat) (Q : Option (List Int)) (k : Nat) (gs : List Int) (s : ByteArray) (more : Bool) (g : Value) : Prop where
  kn : k ≤ n
  len : gs.length = k
  row : OwnI wr base g gs
  cut : CutX wr wb sb mb s more
  sz : s.size < 4294967281
  go : numsGo (n - k) gs s more = Q
  q : QSt w wr
  lb : base ≤ wr.heap.size
  fit : ∀ g ∈ gs, 0 ≤ g ∧ g ≤ 9223372036854775807
/-- The same without what is still to be read. -/
structure HRel2 (n : Nat) (w wr : World) (base wb sb mb : Nat) (k : Nat) (gs : List Int) (s : ByteArray) (more : Bool) (g : Value) : Prop where
  len : gs.length = k
  row : OwnI wr base g gs
  cut : CutX wr wb sb mb s more
  sz : s.size < 4294967281
  q : QSt w wr
  lb : base ≤ wr.heap.size
  fit : ∀ g ∈ gs, 0 ≤ g ∧ g ≤ 9223372036854775807
theorem HRel.num {n : Nat} {w wr w4 : World} {base wb sb mb : Nat} {Q : Option (List Int)} {k : Nat} {gs : List Int} {s s' : ByteArray} {more m' : Bool} {g : Value} {v : Int} {w3 : World} {b : Nat} (h : HRel n w wr base wb sb mb Q k gs s more g) (hq : numQ s more = some (v, s', m')) (hX : CutX w4 wb sb mb s' m') (hF : FrB (fun j => j = sb ∨ j = mb) wr w4)
    (hbs : base ≤ w3.heap.size ∧ sb < base ∧ mb < base ∧ wb < base ∧ w.heap.size < base ∧ b < base) (hsb : w.heap.size < sb) (hmb : w.heap.size < mb) : HRel2 n w w4 base wb sb mb k gs s' m' g :=
  ⟨h.len, h.row.frB hF (fun g hg e => by have := (h.row.lt g hg).1; rcases e with rfl | rfl <;> omega), hX, Nat.lt_of_le_of_lt (numQ_size hq) h.sz, h.q.frB hF (fun j hj => by rcases hj with rfl | rfl <;> assumption), Nat.le_trans h.lb hF.size, h.fit⟩
theorem HRel2.ext {n : Nat} {w wr w4 : World} {base wb sb mb : Nat} {k : Nat} {gs : List Int} {s : ByteArray} {more : Bool} {g : Value} (h : HRel2 n w wr base wb sb mb k gs s more g) (hE : Ext wr w4) : HRel2 n w w4 base wb sb mb k gs s more g :=
  ⟨h.len, h.row.ext hE, h.cut.ext hE, h.sz, h.q.ext hE, Nat.le_trans h.lb hE.size, h.fit⟩
theorem HRel2.app {n : Nat} {w wr w5 : World} {base wb sb mb : Nat} {Q : Option (List Int)} {k : Nat} {gs : List Int} {s : ByteArray} {more : Bool} {g g' : Value} {v : Int} {w3 : World} {b : Nat} (h : HRel2 n w wr base wb sb mb k gs s more g) (hO : OwnI w5 base g' (gs ++ [v])) (hb : Below base wr w5)
    (hbs : base ≤ w3.heap.size ∧ sb < base ∧ mb < base ∧ wb < base ∧ w.heap.size < base ∧ b < base) (hk : k + 1 ≤ n) (hv : 0 ≤ v ∧ v ≤ 9223372036854775807) (hgo : numsGo (n - (k + 1)) (gs ++ [v]) s more = Q) : HRel n w w5 base wb sb mb Q (k + 1) (gs ++ [v]) s more g' :=
  ⟨hk, by simp [h.len], hO, h.cut.frB (FrB.ofBelow hb) (by omega) (by omega) (by omega), h.sz, hgo, h.q.frB (FrB.ofBelow hb) (fun j hj => by omega), Nat.le_trans h.lb hb.size, fun x hx => by
    rcases List.mem_append.1 hx with hx | hx
    · exact h.fit x hx
    · rw [List.mem_singleton.1 hx]; exact hv⟩
set_option maxHeartbeats 1600000 in
set_option maxRecDepth 100000 in
theorem parse_any {B : Nat} {w : World} (hL : Laid B w) (n : Nat) (m : ByteArray) (hs : m.size < 4294967281) (hn : n ≤ 5) :
    Calls Tryz.prog 75 #[.int .i64 n, .string m] w fun e w' => ParseIs (parseP n m) e w' ∧ Ext w w' := by
  have HL := Lib.hid hL
  have HQ := Lib.hid (qst_new w)
  have hS := Split_any (HL.out.ext HQ.out.be) m hs
  have hZ := linesP_size m
  obtain ⟨P, hP⟩ : ∃ P, parseP n m = P := ⟨_, rfl⟩
  rw [hP]
  unfold parseP at hP
  generalize linesP m = ls at hS hZ hP
  have HS := Lib.hid hS
  have HZ := Lib.hid hZ
  have HP := Lib.hid hP
  clear hL hS hZ hP
  go_enter_defers Tryz.func75, Tryz.ntmps75
  go_wp2_with fail
  refine HS.out.mono ?_
  rintro e w1 ⟨b, c, hcm, hlen, rfl, hcell, hbl, hbw, hE⟩
  simp only [World.size_alloc] at hbw
  have HQ1 := Lib.hid (HQ.out.ext hE)
  have h0 := hcell 0 _ (lit_slice hlen 0 (by omega))
  have hlast := hcell c _ (lit_slice hlen c (by omega))
  have HC := Lib.hid hcell
  have hP := HP.out
  rw [hlen, Nat.add_sub_cancel] at hP
  have HLen := Lib.hid hlen
  generalize ls.getD c ⟨#[]⟩ = last at hlast hP
  clear hcell hE hlen HP
  by_cases hc : c = 0
  · subst hc
    rw [if_pos (.inl (by omega))] at hP
    subst hP
    go_wp2_with (go_at_call 135; refine (need_no _).mono ?_; rintro e w' ⟨rfl, rfl⟩; unfold gaveUp)
    refine parse_gave HQ1.out.c HQ1.out.f HQ1.out.be (Nat.le_refl _) _ _ rfl rfl _ ?_
    intro W' hW'
    exact ⟨⟨_, rfl⟩, hW'⟩
  · have hc1 : (1 : Int) < (c : Int) + 1 := by omega
    by_cases hla : last = ⟨#[]⟩
    · rw [if_neg (by rintro (h | h); omega; exact h hla)] at hP
      subst hla
      have HP := Lib.hid hP
      have hhs := Nat.lt_of_le_of_lt (HZ.out (ls.getD 0 ⟨#[]⟩) (List.mem_of_getElem? (lit_slice HLen.out 0 (by omega)))) hs
      generalize ls.getD 0 ⟨#[]⟩ = hd at h0 HP hhs
      clear hP
      go_wp2_with (go_at_call 135; refine (need_yes _).mono ?_; rintro e w' ⟨rfl, rfl⟩)
      clear hlast
      refine (cutter_any hd _).mono ?_
      rintro e w2 ⟨wb, sb, mb, rfl, hX, hE, hg⟩
      have HQ2 := Lib.hid (HQ1.out.ext hE)
      have hW := Lib.hid (word_yes (HL.out.ext HQ2.out.be) wb sb mb hd hX hhs)
      have hcs := Nat.lt_of_le_of_lt (cutS_size hd).2 hhs
      have HC2 := Lib.hid (fun j g hj => hE.keep (HC.out j g hj))
      have hbl2 := Nat.lt_of_lt_of_le hbl hE.size
      generalize cutS hd = t at hW HP hcs
      obtain ⟨wd, s1, m1⟩ := t
      simp only at hW hcs
      clear h0 hX hE
      go_wp2_with fail
      refine hW.out.mono ?_
      rintro e w3 ⟨rfl, hX3, hF3⟩
      have HX3 := Lib.hid hX3
      have HQ3 := Lib.hid (HQ2.out.frB hF3 (fun j hj => by rcases hj with rfl | rfl <;> omega))
      have HC3 := Lib.hid (fun j g hj => (hF3.cell hbl2 (by omega)).trans (HC2.out j g hj))
      have hbl3 := Nat.lt_of_lt_of_le hbl2 hF3.size
      have hP := HP.out
      unfold bodyP at hP
      clear hX3 hF3 hW HP
      have hb3 := HQ3.out.be.size
      have hsb := World.block_lt_of_cell? _ _ HX3.out.cs
      have hmb := World.block_lt_of_cell? _ _ HX3.out.cm
      have hwb := World.block_lt_of_cell? _ _ HX3.out.cw
      simp only at hsb hmb hwb
      have hw1z := HQ1.out.be.size
      obtain ⟨base, hbs⟩ : ∃ base, base ≤ w3.heap.size ∧ sb < base ∧ mb < base ∧ wb < base ∧ w.heap.size < base ∧ b < base := ⟨_, Nat.le_refl _, hsb, hmb, hwb, by omega, hbl3⟩
      by_cases hw1 : wd = sHave
      · rw [if_pos hw1] at hP
        have e1 : (wd.toList == [104, 97, 118, 101]) = true := by rw [hw1, Lib.toList_data]; rfl
        unfold haveP at hP
        rw [HLen.out] at hP
        clear hw1
        by_cases hc2 : c = 1
        · have e2 : ((c : Int) == 1) = true := by simp [hc2]
          rw [if_pos (by omega)] at hP
          obtain ⟨Q, hQ⟩ : ∃ Q, numsGo n [] s1 m1 = Q := ⟨_, rfl⟩
          rw [hQ] at hP
          have HP := Lib.hid hP
          have HQn := Lib.hid hQ
          clear hP hc2 hQ hc hc1
          go_wp2_with (go_at_call 135; refine (need_yes _).mono ?_; rintro e w' ⟨rfl, rfl⟩)
          go_loopw [10, 50] (fun g i wr => ∃ (k : Nat) (gs : List Int) (s : ByteArray) (more : Bool), HRel n w wr base wb sb mb Q k gs s more g ∧ i = .int .i64 k) (fun _ i _ => n - (intOf i).toNat)
          case atStart => exact ⟨0, [], s1, m1, ⟨by omega, rfl, World.ownsRow_nil _ _ _ _, HX3.out, hcs, HQn.out, HQ3.out, hbs.1, by simp⟩, rfl⟩
          case round =>
            obtain ⟨k, gs, s, more, hR, rfl⟩ := hrel
            obtain ⟨ga, gc, hgv⟩ := hR.row.shape
            subst hgv
            have hkn := hR.kn
            have hgl := hR.len
            rw [hgl] at hR ⊢
            have HR := Lib.hid hR
            clear hR hcs
            by_cases hlt : k < n
            · have hlt' : (k : Int) < n := by omega
              have hnq : n - k = (n - (k + 1)) + 1 := by omega
              have hgo := HR.out.go
              rw [hnq] at hgo
              have HG := Lib.hid hgo
              clear hgo hnq hgl
              go_wp2_with fail
              refine (numQ_any (HL.out.ext HR.out.q.be) wb sb mb s more HR.out.cut HR.out.sz (fun j hj => by have := HL.out.le; rcases hj with rfl | rfl <;> omega)).mono ?_
              rintro e w4 (⟨v, s', m', hq, rfl, hX4, hF4⟩ | ⟨hq, rfl, hF4⟩)
              · have HR4 := Lib.hid (HR.out.num hq hX4 hF4 hbs (by omega) (by omega))
                have HG4 : Hid (numsGo (n - (k + 1)) (gs ++ [v]) s' m' = Q) := by have := HG.out; simp only [numsGo, hq] at this; exact Lib.hid this
                have hs' := Nat.lt_of_le_of_lt (numQ_size hq) HR.out.sz
                have hfit := numQ_fits hq
                have HR5 := Lib.hid (HR4.out.ext (Ext.alloc w4 (.cells #[.int .i64 v] 3)))
                have hzz := HR4.out.lb
                clear hq hX4 hF4
                go_wp2_with (at_builtin; refine wpList_app135 rfl (.tmp 52) (.tmp 55) rfl base _ gs HR5.out.row v w4.heap.size 1 1 rfl rfl rfl (by rw [World.cell?_alloc_new]; rfl) (by have := HR5.out.len; omega) HR5.out.lb ?_)
                intro v' w5 hO5 hb5 _ _
                have HR6 := Lib.hid (HR5.out.app hO5 hb5 hbs (by omega) hfit HG4.out)
                obtain ⟨ga5, gc5, hgv5⟩ := hO5.shape
                subst hgv5
                clear hO5 hb5
                go_wp2_with fail
                go_roundw
                case rel => exact ⟨k + 1, gs ++ [v], s', m', HR6.out, by go_num⟩
                case measure => simp [intOf]; omega
              · have HQ4 := Lib.hid (HR.out.q.frB hF4 (fun j hj => by rcases hj with rfl | rfl <;> omega))
                have hgo := HG.out
                simp only [numsGo, hq] at hgo
                have hP := HP.out
                rw [← hgo] at hP
                have HP2 := Lib.hid hP
                clear hgo hP hq hF4
                unfold gaveUp
                go_wp2
                refine parse_gave HQ4.out.c HQ4.out.f HQ4.out.be (Nat.le_refl _) _ _ rfl rfl _ ?_
                intro W' hW'
                exact ⟨by rw [← HP2.out]; exact ⟨_, rfl⟩, hW'⟩
            · have hge : ¬ ((k : Int) < n) := by omega
              have hnk : n - k = 0 := by omega
              have hgo := HR.out.go
              rw [hnk] at hgo
              simp only [numsGo] at hgo
              have hP := HP.out
              rw [← hgo] at hP
              have HP2 := Lib.hid hP
              clear hgo hP hnk hgl
              have hov := over_any _ gs wr HR.out.row.slI (by have := HR.out.len; omega)
              cases ho : overB gs
              · rw [ho] at hov
                have HO := Lib.hid hov
                have Ho := Lib.hid ho
                have hgt := Lib.hid (greetText_any (HL.out.ext HR.out.q.be) _ gs HR.out.row.slI (fun g hg => by have := HR.out.fit g hg; omega) (by have := HR.out.len; omega))
                clear hov ho
                have hm1 := meth89
                go_wp2_with (first | (go_at_call 137; refine HO.out.mono ?_; rintro e w' ⟨rfl, rfl⟩) | (go_at_call 135; refine (need_yes _).mono ?_; rintro e w' ⟨rfl, rfl⟩))
                refine hgt.out.mono ?_
                rintro e w6 ⟨rfl, hE6⟩
                have HQ6 := Lib.hid (HR.out.q.ext hE6)
                have HS6 := Lib.hid (SlI.ext HR.out.row.slI hE6)
                clear hE6 hm1
                by_cases hgm : greetB gs = m
                · have e3 : ((greetB gs).toList == m.toList) = true := (Lib.bytes_beq_iff _ _).2 hgm
                  have Hgm := Lib.hid hgm
                  clear hgm
                  have cE := HQ6.out.c
                  have fE := HQ6.out.f
                  go_wp2_with (go_at_call 135; refine (need_yes _).mono ?_; rintro e w' ⟨rfl, rfl⟩)
                  refine parse_done (World.cell?_setCell_same _ _ _ cE) _ _ rfl rfl _ ?_
                  refine ⟨?_, HQ6.out.be.setCell (Nat.le_refl _) _⟩
                  rw [← HP2.out]
                  simp only [Ho.out, Hgm.out, and_self, if_true]
                  exact ⟨_, rfl, HS6.out.noop (noop_cell cE) (by simp)⟩
                · have e3 : ((greetB gs).toList == m.toList) = false := (Lib.bytes_beq_false_iff _ _).2 hgm
                  have Hgm := Lib.hid hgm
                  clear hgm
                  go_wp2_with (go_at_call 135; refine (need_no _).mono ?_; rintro e w' ⟨rfl, rfl⟩; unfold gaveUp)
                  refine parse_gave HQ6.out.c HQ6.out.f HQ6.out.be (Nat.le_refl _) _ _ rfl rfl _ ?_
                  intro W' hW'
                  exact ⟨by rw [← HP2.out]; simp only [Hgm.out, and_false, if_false]; exact ⟨_, rfl⟩, hW'⟩
              · rw [ho] at hov
                have HO := Lib.hid hov
                have Ho := Lib.hid ho
                clear hov ho
                go_wp2_with (first | (go_at_call 137; refine HO.out.mono ?_; rintro e w' ⟨rfl, rfl⟩) | (go_at_call 135; refine (need_no _).mono ?_; rintro e w' ⟨rfl, rfl⟩; unfold gaveUp))
                refine parse_gave HR.out.q.c HR.out.q.f HR.out.q.be (Nat.le_refl _) _ _ rfl rfl _ ?_
                intro W' hW'
                exact ⟨by rw [← HP2.out]; simp only [Ho.out]; exact ⟨_, rfl⟩, hW'⟩
        · have e2 : ((c : Int) == 1) = false := by simp; omega
          rw [if_neg (by omega)] at hP
          subst hP
          clear hc2 hc hc1
          go_wp2_with (go_at_call 135; refine (need_no _).mono ?_; rintro e w' ⟨rfl, rfl⟩; unfold gaveUp)
          refine parse_gave HQ3.out.c HQ3.out.f HQ3.out.be (Nat.le_refl _) _ _ rfl rfl _ ?_
          intro W' hW'
          exact ⟨⟨_, rfl⟩, hW'⟩
      · rw [if_neg hw1] at hP
        have e1 : (wd.toList == [104, 97, 118, 101]) = false := by rw [show ([104, 97, 118, 101] : List UInt8) = sHave.toList from by rw [Lib.toList_data]; rfl]; exact (Lib.bytes_beq_false_iff wd sHave).2 hw1
        by_cases hw2 : wd = sPost0
        · rw [if_pos hw2] at hP
          have e2 : (wd.toList == [112, 111, 115, 116]) = true := by rw [hw2, Lib.toList_data]; rfl
          clear hw1 hw2
          unfold postP at hP
          rw [HLen.out] at hP
          have HP := Lib.hid hP
          have hm2 := meth140
          clear hP
          go_wp2_with fail
          refine (numQ_any (HL.out.ext HQ3.out.be) wb sb mb s1 m1 HX3.out hcs (fun j hj => by have := HL.out.le; rcases hj with rfl | rfl <;> omega)).mono ?_
          rintro e w4 (⟨k, s', m', hq, rfl, hX4, hF4⟩ | ⟨hq, rfl, hF4⟩)
          · have HQ4 := Lib.hid (HQ3.out.frB hF4 (fun j hj => by rcases hj with rfl | rfl <;> omega))
            have HC4 := Lib.hid (fun j g hj => (hF4.cell hbl3 (by omega)).trans (HC3.out j g hj))
            have hbl4 := Nat.lt_of_lt_of_le hbl3 hF4.size
            have hfit := numQ_fits hq
            have hP := HP.out
            rw [hq] at hP
            simp only at hP
            clear hq hX4 hF4
            by_cases hk : inB k 1 10 = true ∧ ((c + 1 : Nat) : Int) = k + 2
            · rw [if_pos hk] at hP
              obtain ⟨hk1, hk2⟩ := hk
              have hk3 := (inB_iff _ _ _).1 hk1
              obtain ⟨j, rfl⟩ : ∃ j : Nat, k = (j : Int) := ⟨k.toNat, by omega⟩
              obtain rfl : c = j + 1 := by omega
              have HP2 := Lib.hid hP
              clear hP hk2
              have e4 : (((j + 1 : Nat) : Int) == (j : Int) + 1) = true := by simp
              go_wp2_with (first | (go_at_call 91; refine (in_any _ _ _ _).mono ?_; rintro e w' ⟨rfl, rfl⟩) | (go_at_call 135; refine (need_yes _).mono ?_; rintro e w' ⟨rfl, rfl⟩))
              rw [Nat.add_sub_cancel] at HP2
              have hll : ((ls.take (j + 1)).drop 1).length = j := by have := HLen.out; simp; omega
              have hsl : SlS w' (.slice (some ⟨b, 1, none⟩) j (j + 1)) ((ls.take (j + 1)).drop 1) :=
                .inr ⟨b, 1, j + 1, by rw [hll], by rw [hll]; omega, by unfold maxLen; omega, hbl4, fun i g hg => by
                  rw [List.getElem?_drop, List.getElem?_take] at hg
                  split at hg
                  · exact HC4.out (1 + i) g hg
                  · cases hg⟩
              have hlsz : ∀ s ∈ (ls.take (j + 1)).drop 1, s.size < 4294967281 := fun s hs' => Nat.lt_of_le_of_lt (HZ.out s (List.mem_of_mem_take (List.mem_of_mem_drop hs'))) hs
              have hrc := Lib.hid (records_any (HL.out.ext HQ4.out.be) n _ _ hsl hlsz (by omega) (by omega) (by omega))
              have HLL := Lib.hid hll
              generalize (ls.take (j + 1)).drop 1 = lsd at hrc HP2 HLL
              clear hsl hlsz hll e4 hcm hc hc1
              refine hrc.out.mono ?_
              rintro e w5 ⟨hri, hE5⟩
              have HQ5 := Lib.hid (HQ4.out.ext hE5)
              clear hE5
              have hP := HP2.out
              cases hrr : recsP n [] lsd with
              | none =>
                rw [hrr] at hri hP
                obtain rfl := hri
                subst hP
                clear hrr
                unfold gaveUp
                go_wp2
                refine parse_gave HQ5.out.c HQ5.out.f HQ5.out.be (Nat.le_refl _) _ _ rfl rfl _ ?_
                intro W' hW'
                exact ⟨⟨_, rfl⟩, hW'⟩
              | some xs =>
                rw [hrr] at hri hP
                obtain ⟨rv5, rfl, hs5⟩ := hri
                obtain ⟨ra, rc, hrv⟩ := hs5.shape
                subst hrv
                have hxl := recsP_length hrr
                have hxf := recsP_fits (n := n) hrr (by omega)
                rw [HLL.out] at hxl
                simp only [List.length_nil, Nat.zero_add] at hxl
                have hlt5 := Lib.hid (letterText_any (HL.out.ext HQ5.out.be) _ xs hs5 hxf (by omega))
                have HS5 := Lib.hid hs5
                have HP5 := Lib.hid hP
                clear hs5 hrr hP hxf hxl
                go_wp2_with fail
                refine hlt5.out.mono ?_
                rintro e w6 ⟨rfl, hE6⟩
                have HQ6 := Lib.hid (HQ5.out.ext hE6)
                have HS6 := Lib.hid (SlR.ext HS5.out hE6)
                clear hE6 hm2
                by_cases hgm : letterB xs = m
                · have e3 : ((letterB xs).toList == m.toList) = true := (Lib.bytes_beq_iff _ _).2 hgm
                  have Hgm := Lib.hid hgm
                  clear hgm
                  have cE := HQ6.out.c
                  have fE := HQ6.out.f
                  go_wp2_with (go_at_call 135; refine (need_yes _).mono ?_; rintro e w' ⟨rfl, rfl⟩)
                  refine parse_done (World.cell?_setCell_same _ _ _ cE) _ _ rfl rfl _ ?_
                  refine ⟨?_, HQ6.out.be.setCell (Nat.le_refl _) _⟩
                  rw [← HP5.out]
                  simp only [Hgm.out, if_true]
                  exact ⟨_, rfl, HS6.out.noop (noop_cell cE) (by simp)⟩
                · have e3 : ((letterB xs).toList == m.toList) = false := (Lib.bytes_beq_false_iff _ _).2 hgm
                  have Hgm := Lib.hid hgm
                  clear hgm
                  go_wp2_with (go_at_call 135; refine (need_no _).mono ?_; rintro e w' ⟨rfl, rfl⟩; unfold gaveUp)
                  refine parse_gave HQ6.out.c HQ6.out.f HQ6.out.be (Nat.le_refl _) _ _ rfl rfl _ ?_
                  intro W' hW'
                  exact ⟨by rw [← HP5.out]; simp only [Hgm.out, if_false]; exact ⟨_, rfl⟩, hW'⟩
            · rw [if_neg hk] at hP
              subst hP
              by_cases hk1 : inB k 1 10 = true
              · have hk2 : ¬ ((c + 1 : Nat) : Int) = k + 2 := fun e => hk ⟨hk1, e⟩
                have hk3 := (inB_iff _ _ _).1 hk1
                have e4 : ((c : Int) == k + 1) = false := by simp; omega
                clear hk hk2
                go_wp2_with (first | (go_at_call 91; refine (in_any _ _ _ _).mono ?_; rintro e w' ⟨rfl, rfl⟩) | (go_at_call 135; refine (need_no _).mono ?_; rintro e w' ⟨rfl, rfl⟩; unfold gaveUp))
                refine parse_gave HQ4.out.c HQ4.out.f HQ4.out.be (Nat.le_refl _) _ _ rfl rfl _ ?_
                intro W' hW'
                exact ⟨⟨_, rfl⟩, hW'⟩
              · have hk1' : inB k 1 10 = false := by simpa using hk1
                clear hk hk1
                go_wp2_with (first | (go_at_call 91; refine (in_any _ _ _ _).mono ?_; rintro e w' ⟨rfl, rfl⟩) | (go_at_call 135; refine (need_no _).mono ?_; rintro e w' ⟨rfl, rfl⟩; unfold gaveUp))
                refine parse_gave HQ4.out.c HQ4.out.f HQ4.out.be (Nat.le_refl _) _ _ rfl rfl _ ?_
                intro W' hW'
                exact ⟨⟨_, rfl⟩, hW'⟩
          · have HQ4 := Lib.hid (HQ3.out.frB hF4 (fun j hj => by rcases hj with rfl | rfl <;> omega))
            have hP := HP.out
            rw [hq] at hP
            subst hP
            clear hq hF4
            unfold gaveUp
            go_wp2
            refine parse_gave HQ4.out.c HQ4.out.f HQ4.out.be (Nat.le_refl _) _ _ rfl rfl _ ?_
            intro W' hW'
            exact ⟨⟨_, rfl⟩, hW'⟩
        · rw [if_neg hw2] at hP
          have e2 : (wd.toList == [112, 111, 115, 116]) = false := by rw [show ([112, 111, 115, 116] : List UInt8) = sPost0.toList from by rw [Lib.toList_data]; rfl]; exact (Lib.bytes_beq_false_iff wd sPost0).2 hw2
          subst hP
          clear hw1 hw2
          go_wp2_with (go_at_call 135; refine (need_no _).mono ?_; rintro e w' ⟨rfl, rfl⟩; unfold gaveUp)
          refine parse_gave HQ3.out.c HQ3.out.f HQ3.out.be (Nat.le_refl _) _ _ rfl rfl _ ?_
          intro W' hW'
          exact ⟨⟨_, rfl⟩, hW'⟩
    · rw [if_pos (.inr hla)] at hP
      subst hP
      have hlf : last.toList.isEmpty = false := by
        rw [Bool.eq_false_iff]
        intro h
        exact hla (bytes_empty _ h)
      go_wp2_with (go_at_call 135; refine (need_no _).mono ?_; rintro e w' ⟨rfl, rfl⟩; unfold gaveUp)
      refine parse_gave HQ1.out.c HQ1.out.f HQ1.out.be (Nat.le_refl _) _ _ rfl rfl _ ?_
      intro W' hW'
      exact ⟨⟨_, rfl⟩, hW'⟩
end Go.Proofs.YtgjahnomafpnfaaGreatDoor

/- piece, entry where there is none; a station with its disk; Open on a new disk. -/
namespace Go.Proofs.YtgjahnomafpnfaaGreatDoor
open Go.RowKit
set_option maxHeartbeats 400000 in
set_option maxRecDepth 100000 in
theorem piece_mark {w : World} {base n D N K : Nat} {wv : Value} {m : Dk} (h : DkX w base n D N K wv m) (a mark : Nat) (ha : a < n) (s : Sec) (hs : m.now[a]? = some s) (hm : ((s.getD 0 0).toNat : Int) ≠ mark) :
    Calls Tryz.prog 151 #[.pointer (some ⟨D, 0, none⟩), .int .i64 a, .int .u8 mark] w fun e w' => e = .returned (.tuple #[.string ⟨#[]⟩, .int .i64 0, .bool false]) ∧ w' = w := by
  have hmost := h.ok.most
  have c0 := h.c0
  have hl : s.length = 64 := h.ok.nows s (List.mem_of_getElem? hs)
  have cN : w.cell? ⟨N, a * 64, none⟩ = some (.int .u8 ((s.getD 0 0).toNat : Int)) := by
    have := h.rn (a * 64 + 0) (.int .u8 ((s.getD 0 0).toNat : Int)) (by rw [flatS_get _ h.ok.nows a 0 s hs (by omega)]; simp [scells, List.getD, show 0 < s.length by omega])
    simpa using this
  have hb : (((s.getD 0 0).toNat : Int) != (mark : Int)) = true := by simpa using hm
  have ha' : (a : Int) < n := by omega
  have hge : ¬ ((n : Int) ≤ a) := by omega
  generalize (s.getD 0 0).toNat = u at cN hb
  clear h hs hl hm
  go_enter Tryz.func151, Tryz.ntmps151
  go_wp2
  refine bodyPost_ret (v := .tuple #[.string ⟨#[]⟩, .int .i64 0, .bool false]) ?_ rfl ⟨rfl, rfl⟩
  simp [results, Tryz.results151, go_sem]
set_option maxHeartbeats 400000 in
set_option maxRecDepth 100000 in
theorem entry_mark {w : World} {base n D N K : Nat} {wv : Value} {m : Dk} (h : DkX w base n D N K wv m) (a : Nat) (ha : a < n) (s : Sec) (hs : m.now[a]? = some s) (hm : ((s.getD 0 0).toNat : Int) ≠ (1 : Nat)) :
    Calls Tryz.prog 96 #[.pointer (some ⟨D, 0, none⟩), .int .i64 a] w fun e w' => e = .returned (.tuple #[.string ⟨#[]⟩, .int .i64 (a + 1 : Int), .bool false]) ∧ w' = w := by
  have hmost := h.ok.most
  have hp := Lib.hid (piece_mark h a 1 ha s hs hm)
  have hw1 : IntKind.i64.wrap ((a : Int) + 1) = a + 1 := IntWalk.i64_in _ (by omega)
  clear h hs hm
  go_enter Tryz.func96, Tryz.ntmps96
  go_wp2_with (go_at_call 151; refine hp.out.mono ?_; rintro e w' ⟨rfl, rfl⟩)
  go_loop [9, 1, 7, 8, 10] (fun o a' _ _ t => o = .bool false ∧ a' = .int .i64 a ∧ t = .string ⟨#[]⟩) (fun _ _ _ _ _ => 0)
  case atStart => exact ⟨rfl, rfl, rfl⟩
  case round =>
    obtain ⟨rfl, rfl, rfl⟩ := hrel
    go_wp2
    refine bodyPost_ret (v := .tuple #[.string ⟨#[]⟩, .int .i64 (a + 1 : Int), .bool false]) ?_ rfl ⟨rfl, rfl⟩
    simp [results, Tryz.results96, go_sem]
theorem RowR.frB {w w' : World} {base : Nat} {r : Option Nat} {v : Value} {xs : List Rec} (h : RowR w base r v xs) {S : Nat → Prop} (hF : FrB S w w') (hS : ∀ g, r = some g → ¬ S g) (hb : ∀ j, S j → base ≤ j) : RowR w' base r v xs := by
  rcases h with ⟨h, h1⟩ | ⟨⟨g, h1, h2, h3⟩, h4⟩
  · exact .inl ⟨hF.owns h (fun g hg => hS g (h1.trans hg)), h1⟩
  · exact .inr ⟨⟨g, h1, h2, fun j u hu => (hF.cell (World.block_lt_of_cell? _ _ (h3 j u hu)) (fun e => by have := hb g e; omega)).trans (h3 j u hu)⟩, h4⟩
theorem ShelfX.frB {w w' : World} {base B o : Nat} {rs : List (Option Nat)} {vs : List Value} {rows : List (List Rec)} (h : ShelfX w base B o rs vs rows) {S : Nat → Prop} (hF : FrB S w w') (hB : ¬ S B) (hS : ∀ g, some g ∈ rs → ¬ S g) (hb : ∀ j, S j → base ≤ j) : ShelfX w' base B o rs vs rows :=
  ⟨⟨h.five.ls, h.five.lv, h.five.lr, Nat.le_trans h.five.le hF.size, fun k r v xs h1 h2 h3 => (h.five.row k r v xs h1 h2 h3).frB hF (fun g hg => hS g (hg ▸ List.mem_of_getElem? h1)) hb, h.five.apart⟩, Nat.lt_of_lt_of_le h.lt hF.size, fun k v hv => (hF.cell h.lt hB).trans (h.cell k v hv), fun k hk => (hF.frozen h.lt hB).trans (h.free k hk), h.off⟩
theorem StX.frB {w w' : World} {base B : Nat} {d : Option Addr} {me n next : Int} {rs : List (Option Nat)} {vs : List Value} {rows : List (List Rec)} (h : StX w base B d me n next rs vs rows) {S : Nat → Prop} (hF : FrB S w w') (hB : ¬ S B) (hS : ∀ g, some g ∈ rs → ¬ S g) (hb : ∀ j, S j → base ≤ j) : StX w' base B d me n next rs vs rows :=
  ⟨h.books.frB hF hB hS hb, (hF.cell h.books.lt hB).trans h.disk, (hF.cell h.books.lt hB).trans h.cme, (hF.cell h.books.lt hB).trans h.cn, (hF.cell h.books.lt hB).trans h.cnext, (hF.frozen h.books.lt hB).trans h.fnext⟩
/-- The blocks of a station and its disk. -/
def stnS (S D N K : Nat) (wv : Value) (rs : List (Option Nat)) (j : Nat) : Prop := j = S ∨ some j ∈ rs ∨ dkS D N K wv j
/-- A station with its disk in memory: its blocks (base: they lie from there on), what it has. -/
structure Stn (w : World) (base S D N K z : Nat) (wv : Value) (rs : List (Option Nat)) (vs : List Value) (me n : Int) (next : Nat) (rows : List (List Rec)) (m : Dk) : Prop where
  st : StX w base S (some ⟨D, 0, none⟩) me n next rs vs rows
  dk : DkX w base z D N K wv m
  sep : ∀ j, dkS D N K wv j → j ≠ S ∧ some j ∉ rs
  ge : base ≤ S
  own : some S ∉ rs
theorem Stn.S_ge {w : World} {base S D N K z : Nat} {wv : Value} {rs : List (Option Nat)} {vs : List Value} {me n : Int} {next : Nat} {rows : List (List Rec)} {m : Dk} (h : Stn w base S D N K z wv rs vs me n next rows m) : ∀ j, stnS S D N K wv rs j → base ≤ j ∧ j < w.heap.size := by
  rintro j (rfl | hj | hj)
  · exact ⟨h.ge, h.st.books.lt⟩
  · obtain ⟨k, hk⟩ := List.getElem?_of_mem hj
    have hl := (List.getElem?_eq_some_iff.1 hk).1
    rw [h.st.books.five.ls] at hl
    have := (h.st.books.five.row k (some j) (vs[k]'(by rw [h.st.books.five.lv]; exact hl)) (rows[k]'(by rw [h.st.books.five.lr]; exact hl)) hk (by simp) (by simp)).base j rfl
    exact this
  · exact h.dk.S_ge j hj
theorem Stn.frB {w w' : World} {base S D N K z : Nat} {wv : Value} {rs : List (Option Nat)} {vs : List Value} {me n : Int} {next : Nat} {rows : List (List Rec)} {m : Dk} (h : Stn w base S D N K z wv rs vs me n next rows m) {T : Nat → Prop} (hF : FrB T w w') (hT : ∀ j, stnS S D N K wv rs j → ¬ T j) (hb : ∀ j, T j → base ≤ j) : Stn w' base S D N K z wv rs vs me n next rows m :=
  ⟨h.st.frB hF (hT S (.inl rfl)) (fun g hg => hT g (.inr (.inl hg))) hb, h.dk.frB hF (fun j hj => hT j (.inr (.inr hj))), h.sep, h.ge, h.own⟩
theorem Stn.ext {w w' : World} {base S D N K z : Nat} {wv : Value} {rs : List (Option Nat)} {vs : List Value} {me n : Int} {next : Nat} {rows : List (List Rec)} {m : Dk} (h : Stn w base S D N K z wv rs vs me n next rows m) (hE : Ext w w') : Stn w' base S D N K z wv rs vs me n next rows m :=
  h.frB (T := fun _ => False) (FrB.ext hE) (fun _ _ => id) (fun _ => False.elim)
theorem wipeGo_zero (n : Nat) (m : Dk) (hz : ∀ i, i < n → m.now.getD i [] = zsec) : ∀ (k a : Nat), a + k = n → wipeGo n k m a = flushP m
  | 0, a, _ => rfl
  | k + 1, a, h => by
    unfold wipeGo
    rw [if_pos (by rw [hz a (by omega)]; exact beq_self_eq_true _)]
    exact wipeGo_zero n m hz k (a + 1) (by omega)
theorem wipe_new (n : Nat) : wipeP n (newDk n) 0 = (0, newDk n) := by
  unfold wipeP
  rw [wipeGo_zero n (newDk n) (fun i hi => by simp [newDk, List.getD, hi]) (n - 0) 0 (by omega)]
  simp [flushP, newDk, powerP, flushK]
set_option maxHeartbeats 400000 in
set_option maxRecDepth 100000 in
theorem Open_arg (d : Option Addr) (me n : Int) (w : World) (h : inB n 2 5 = false ∨ inB me 0 (n - 1) = false) :
    Calls Tryz.prog 41 #[.pointer d, .int .i64 me, .int .i64 n] w fun e w' => e = .returned (.tuple #[.pointer none, .int .i64 1]) ∧ w' = w := by
  by_cases h1 : inB n 2 5 = false
  · go_enter Tryz.func41, Tryz.ntmps41
    go_wp2_with (go_at_call 95; refine (many_any _ _).mono ?_; rintro e w' ⟨rfl, rfl⟩)
    go_ret2
    exact ⟨rfl, rfl⟩
  · have h1' : inB n 2 5 = true := by simpa using h1
    have h2 : inB me 0 (n - 1) = false := by rcases h with h | h; exact absurd h h1; exact h
    have h3 := (inB_iff _ _ _).1 h1'
    clear h h1
    go_enter Tryz.func41, Tryz.ntmps41
    go_wp2_with (first | (go_at_call 95; refine (many_any _ _).mono ?_; rintro e w' ⟨rfl, rfl⟩) | (go_at_call 91; refine (in_any _ _ _ _).mono ?_; rintro e w' ⟨rfl, rfl⟩))
    go_ret2
    exact ⟨rfl, rfl⟩
set_option maxHeartbeats 400000 in
set_option maxRecDepth 100000 in
theorem Open_nil (me n : Int) (w : World) (h1 : inB n 2 5 = true) (h2 : inB me 0 (n - 1) = true) :
    Calls Tryz.prog 41 #[.pointer none, .int .i64 me, .int .i64 n] w fun e w' => e = .returned (.tuple #[.pointer none, .int .i64 3]) ∧ w' = w := by
  have h3 := (inB_iff _ _ _).1 h1
  go_enter Tryz.func41, Tryz.ntmps41
  go_wp2_with (first | (go_at_call 95; refine (many_any _ _).mono ?_; rintro e w' ⟨rfl, rfl⟩) | (go_at_call 91; refine (in_any _ _ _ _).mono ?_; rintro e w' ⟨rfl, rfl⟩) | (go_at_call 90; refine (ready_nil _).mono ?_; rintro e w' ⟨rfl, rfl⟩))
  go_ret2
  exact ⟨rfl, rfl⟩
/-- A new station's cells. -/
def newStn (D : Nat) (me n : Int) : Array Value := #[.pointer (some ⟨D, 0, none⟩), .int .i64 me, .int .i64 n, .slice none 0 0, .slice none 0 0, .slice none 0 0, .slice none 0 0, .slice none 0 0, .int .i64 0]
theorem newStn_x {w : World} {base D N K z : Nat} {wv : Value} {m : Dk} (h : DkX w base z D N K wv m) (me n : Int) : Stn (w.alloc (.cells (newStn D me n) 128)) base w.heap.size D N K z wv [none, none, none, none, none] [.slice none 0 0, .slice none 0 0, .slice none 0 0, .slice none 0 0, .slice none 0 0] me n 0 [[], [], [], [], []] m := by
  have hc : ∀ j, (w.alloc (.cells (newStn D me n) 128)).cell? ⟨w.heap.size, j, none⟩ = (newStn D me n)[j]? := fun j => World.cell?_alloc_new w _ _ j
  have hf : ∀ j, (w.alloc (.cells (newStn D me n) 128)).frozen? ⟨w.heap.size, j, none⟩ = false := fun j => World.frozen?_alloc_new w _ _ j
  have hle := h.le
  refine ⟨⟨⟨⟨rfl, rfl, rfl, by simp; omega, fun k r v xs h1 h2 h3 => ?_, fun j k r r' _ h1 _ => ?_⟩, by simp, fun k v hv => ?_, fun k _ => hf _, fun k v hv => ?_⟩, (hc 0).trans rfl, (hc 1).trans rfl, (hc 2).trans rfl, (hc 8).trans rfl, hf 8⟩, h.ext (Ext.alloc _ _), fun j hj => ⟨?_, by simp⟩, hle, by simp⟩
  · have hv : v = .slice none 0 0 := by
      rcases (by simpa using List.mem_of_getElem? h2 : v = .slice none 0 0) with rfl; rfl
    have hr : r = none := by simpa using List.mem_of_getElem? h1
    have hx : xs = [] := by simpa using List.mem_of_getElem? h3
    subst hv hr hx
    exact .inl ⟨World.ownsRow_nil _ _ _ _, rfl⟩
  · exact .inl (by simpa using List.mem_of_getElem? h1)
  · rw [hc]
    match k, hv with
    | 0, hv => cases hv; rfl
    | 1, hv => cases hv; rfl
    | 2, hv => cases hv; rfl
    | 3, hv => cases hv; rfl
    | 4, hv => cases hv; rfl
  · have : v = .slice none 0 0 := by simpa using List.mem_of_getElem? hv
    subst this
    simp [Value.ownBlock]
  · have := (h.S_ge j hj).2
    omega
set_option maxHeartbeats 800000 in
set_option maxRecDepth 100000 in
theorem Open_new {w : World} {base D N K z : Nat} {wv : Value} (h : DkX w base z D N K wv (newDk z)) (me n : Int) (h1 : inB n 2 5 = true) (h2 : inB me 0 (n - 1) = true) :
    Calls Tryz.prog 41 #[.pointer (some ⟨D, 0, none⟩), .int .i64 me, .int .i64 n] w fun e w' => ∃ S wv', e = .returned (.tuple #[.pointer (some ⟨S, 0, none⟩), .int .i64 0]) ∧ w.heap.size ≤ S ∧
      Stn w' base S D N K z wv' [none, none, none, none, none] [.slice none 0 0, .slice none 0 0, .slice none 0 0, .slice none 0 0, .slice none 0 0] me n 0 [[], [], [], [], []] (newDk z) ∧ FrB (dkS D N K wv) w w' ∧ (∀ j, wv'.ownBlock = some j → w.heap.size ≤ j ∨ wv.ownBlock = some j) := by
  have h3 := (inB_iff _ _ _).1 h1
  have HX : RowKit.Hid (Stn (w.alloc (.cells #[.pointer (some ⟨D, 0, none⟩), .int .i64 me, .int .i64 n, .slice none 0 0, .slice none 0 0, .slice none 0 0, .slice none 0 0, .slice none 0 0, .int .i64 0] 128)) base w.heap.size D N K z wv [none, none, none, none, none] [.slice none 0 0, .slice none 0 0, .slice none 0 0, .slice none 0 0, .slice none 0 0] me n 0 [[], [], [], [], []] (newDk z)) := Lib.hid (newStn_x h me n)
  have hz64 := h.ok.pos
  have hrd : RowKit.Hid (Calls Tryz.prog 90 #[.pointer (some ⟨D, 0, none⟩)] w fun e w' => e = .returned (.int .i64 0) ∧ w' = w) := Lib.hid (ready_any h)
  have H := Lib.hid h
  have hsz := h.le
  have hzs := h.ok.most
  have HE := Lib.hid (Ext.alloc w (.cells #[.pointer (some ⟨D, 0, none⟩), .int .i64 me, .int .i64 n, .slice none 0 0, .slice none 0 0, .slice none 0 0, .slice none 0 0, .slice none 0 0, .int .i64 0] 128))
  clear h
  go_enter Tryz.func41, Tryz.ntmps41
  go_wp2_with (first | (go_at_call 95; refine (many_any _ _).mono ?_; rintro e w' ⟨rfl, rfl⟩) | (go_at_call 91; refine (in_any _ _ _ _).mono ?_; rintro e w' ⟨rfl, rfl⟩) | (go_at_call 90; refine hrd.out.mono ?_; rintro e w' ⟨rfl, hwe⟩; subst hwe))
  have hn0 : (newDk z).now[0]? = some zsec := by
    show (List.replicate z zsec)[0]? = some zsec
    rw [List.getElem?_replicate, if_pos (by omega)]
  have hen := Lib.hid (entry_mark HX.out.dk 0 (by omega) zsec hn0 (by decide))
  have hwp := Lib.hid (wipe_any HX.out.dk 0 (by omega) (show (newDk z).writes.length + z ≤ 1000000 from by show 0 + z ≤ 1000000; omega))
  clear hn0
  have cn := HX.out.st.cnext
  generalize hW : w'.alloc (.cells #[.pointer (some ⟨D, 0, none⟩), .int .i64 me, .int .i64 n, .slice none 0 0, .slice none 0 0, .slice none 0 0, .slice none 0 0, .slice none 0 0, .int .i64 0] 128) = W at HX HE hen hwp cn ⊢
  clear hW
  go_loopw [10] (fun _ wr => W = wr) (fun _ _ => 0)
  case atStart => exact rfl
  case round =>
    obtain rfl := hrel
    go_wp2_with (go_at_call 96; refine hen.out.mono ?_; rintro e w1 ⟨rfl, rfl⟩)
    refine hwp.out.mono ?_
    rintro e w2 ⟨rfl, wv', hS⟩
    rw [wipe_new] at hS ⊢
    have HS := Lib.hid hS
    clear hS
    go_wp2
    go_ret2
    have hsz2 := HE.out.size
    refine ⟨_, wv', rfl, Nat.le_refl _, ?_, ?_, ?_⟩
    · have hst := HX.out.st.frB HS.out.fr (fun hj => by have := H.out.S_ge _ hj; omega) (fun g hg => by simp at hg) (fun j hj => (H.out.S_ge j hj).1)
      refine ⟨hst, HS.out.x, fun j hj => ⟨?_, by simp⟩, HX.out.ge, by simp⟩
      rintro rfl
      rcases hj with e | e | e | e
      · have := H.out.lt; omega
      · have := H.out.lt; omega
      · have := H.out.lt; omega
      · rcases HS.out.own _ e with q | q
        · have := World.block_lt_of_cell? _ _ HX.out.st.disk; simp only at this; omega
        · have := (H.out.S_ge _ (.inr (.inr (.inr q)))).2; omega
    · exact (FrB.ext HE.out).trans HS.out.fr (fun j _ hj => hj)
    · intro j hj
      rcases HS.out.own _ hj with q | q
      · exact .inl (Nat.le_trans hsz2 q)
      · exact .inr q
end Go.Proofs.YtgjahnomafpnfaaGreatDoor

/- More rules for the tail of a region that draws its order; the words of keep. -/
namespace Go.Proofs.YtgjahnomafpnfaaGreatDoor
open Go.RowKit
section
variable {P : Program} {ops : Array Oper} {Q : Exit → Act → World → Prop} {k : Nat}
theorem wpOp_of {i : Nat} {o : Oper} {a : Act} {w : World} {K : Act → World → Prop} (ho : ops[i]? = some o) (hQ : if Region.wanted o (yielded ops a.tmps) = true then o.wp P a w K Q else K (a.put o.dst undef) w) : wpOp P ops Q i K a w := by
  unfold wpOp
  simp only [ho]
  split
  · rename_i hw; rw [if_pos hw] at hQ; exact .inl hQ
  · rename_i hw; rw [if_neg hw] at hQ; exact hQ
/-- One operation is ready. -/
theorem tail_next {a : Act} {w : World} {L L' : Array Bool} {i : Nat} {o : Oper} (h : Region.ready .any ops L = [i]) (hL : L.setIfInBounds i true = L') (ho : ops[i]? = some o)
    (hQ : ∀ K : Act → World → Prop, (∀ a' w', wpAny P .any ops Q k L' a' w' → K a' w') → if Region.wanted o (yielded ops a.tmps) = true then o.wp P a w K Q else K (a.put o.dst undef) w) : wpAny P .any ops Q (k + 1) L a w := by
  refine ⟨fun e => (by rw [h] at e; cases e), fun j hj => ?_⟩
  rw [h] at hj
  obtain rfl := List.mem_singleton.1 hj
  exact wpOp_of ho (hQ _ fun a' w' hq => by rw [hL]; exact hq)
/-- Two operations are ready. -/
theorem tail_fork {a : Act} {w : World} {L L1 L2 : Array Bool} {i j : Nat} {o q : Oper} (h : Region.ready .any ops L = [i, j]) (h1 : L.setIfInBounds i true = L1) (h2 : L.setIfInBounds j true = L2) (ho : ops[i]? = some o) (hq : ops[j]? = some q)
    (hQ1 : ∀ K : Act → World → Prop, (∀ a' w', wpAny P .any ops Q k L1 a' w' → K a' w') → if Region.wanted o (yielded ops a.tmps) = true then o.wp P a w K Q else K (a.put o.dst undef) w)
    (hQ2 : ∀ K : Act → World → Prop, (∀ a' w', wpAny P .any ops Q k L2 a' w' → K a' w') → if Region.wanted q (yielded ops a.tmps) = true then q.wp P a w K Q else K (a.put q.dst undef) w) : wpAny P .any ops Q (k + 1) L a w := by
  refine ⟨fun e => (by rw [h] at e; cases e), fun x hx => ?_⟩
  rw [h] at hx
  rcases List.mem_cons.1 hx with rfl | hx
  · exact wpOp_of ho (hQ1 _ fun a' w' hq => by rw [h1]; exact hq)
  · obtain rfl := List.mem_singleton.1 hx
    exact wpOp_of hq (hQ2 _ fun a' w' hq => by rw [h2]; exact hq)
end
theorem FrS.frB {B o : Nat} {rs rs' : List (Option Nat)} {w w' : World} (h : FrS B o rs rs' w w') : FrB (fun j => j = B ∨ some j ∈ rs) w w' :=
  ⟨h.os, h.tape, h.output, h.size, fun j hj hn => h.block j hj (fun e => hn (.inl e)) (fun e => hn (.inr e))⟩
section
variable {w w' : World} {base S D N K z : Nat} {wv : Value} {rs rs' : List (Option Nat)} {vs vs' : List Value} {me n : Int} {next : Nat} {rows rows' : List (List Rec)} {m : Dk}
theorem Stn.added (h : Stn w base S D N K z wv rs vs me n next rows m) (hS : ShelfX w' base S 3 rs' vs' rows') (hF : FrS S 3 rs rs' w w') : Stn w' base S D N K z wv rs' vs' me n next rows' m := by
  refine ⟨⟨hS, (hF.own 0 (by omega)).trans h.st.disk, (hF.own 1 (by omega)).trans h.st.cme, (hF.own 2 (by omega)).trans h.st.cn, (hF.own 8 (by omega)).trans h.st.cnext, (hF.mark 8).trans h.st.fnext⟩, h.dk.frB hF.frB (fun j hj => by have := h.sep j hj; rintro (e | e); exact this.1 e; exact this.2 e), fun j hj => ⟨(h.sep j hj).1, fun e => ?_⟩, h.ge, fun e => ?_⟩
  · rcases hF.new j e with q | q
    · exact (h.sep j hj).2 q
    · have := (h.dk.S_ge j hj).2; omega
  · rcases hF.new S e with q | q
    · exact h.own q
    · have := h.st.books.lt; omega
theorem Stn.setNext (h : Stn w base S D N K z wv rs vs me n next rows m) (next' : Nat) : Stn (w.setCell ⟨S, 8, none⟩ (.int .i64 next')) base S D N K z wv rs vs me n next' rows m := by
  have hF := FrB.setCell (fun j => j = S) w ⟨S, 8, none⟩ (.int .i64 next') rfl
  have hb := h.st.books
  have hoth : ∀ i, i ≠ 8 → (w.setCell ⟨S, 8, none⟩ (.int .i64 next')).cell? ⟨S, i, none⟩ = w.cell? ⟨S, i, none⟩ := fun i hi => World.cell?_setCell_other _ _ _ _ (fun e => hi (congrArg Addr.off e).symm)
  refine ⟨⟨⟨hb.five.setCell h.own h.ge _, by simpa using hb.lt, fun k v hv => ?_, fun k hk => by rw [World.frozen?_setCell]; exact hb.free k hk, hb.off⟩, (hoth 0 (by omega)).trans h.st.disk, (hoth 1 (by omega)).trans h.st.cme, (hoth 2 (by omega)).trans h.st.cn, World.cell?_setCell_same _ _ _ h.st.cnext, by rw [World.frozen?_setCell]; exact h.st.fnext⟩,
    h.dk.frB hF (fun j hj => (h.sep j hj).1), h.sep, h.ge, h.own⟩
  have hk5 : k < 5 := by have := (List.getElem?_eq_some_iff.1 hv).1; rw [hb.five.lv] at this; exact this
  exact (hoth (3 + k) (by omega)).trans (hb.cell k v hv)
theorem Stn.dkStep {wv' : Value} {m' : Dk} (h : Stn w base S D N K z wv rs vs me n next rows m) (hS : DkStep w w' base z D N K wv wv' m') : Stn w' base S D N K z wv' rs vs me n next rows m' ∧ FrB (stnS S D N K wv rs) w w' ∧ (∀ j, stnS S D N K wv' rs j → stnS S D N K wv rs j ∨ w.heap.size ≤ j) := by
  have hown : ∀ j, dkS D N K wv' j → dkS D N K wv j ∨ w.heap.size ≤ j := by
    rintro j (e | e | e | e)
    · exact .inl (.inl e)
    · exact .inl (.inr (.inl e))
    · exact .inl (.inr (.inr (.inl e)))
    · rcases hS.own j e with q | q
      · exact .inr q
      · exact .inl (.inr (.inr (.inr q)))
  refine ⟨⟨h.st.frB hS.fr (fun e => (h.sep _ e).1 rfl) (fun g hg e => (h.sep _ e).2 hg) (fun j hj => (h.dk.S_ge j hj).1), hS.x, fun j hj => ?_, h.ge, h.own⟩, hS.fr.mono (fun j _ hj => .inr (.inr hj)), ?_⟩
  · rcases hown j hj with q | q
    · exact h.sep j q
    · refine ⟨fun e => ?_, fun e => ?_⟩
      · have := h.st.books.lt; omega
      · have := (h.st.books.five.ge j e).2; omega
  · rintro j (e | e | e)
    · exact .inl (.inl e)
    · exact .inl (.inr (.inl e))
    · rcases hown j e with q | q
      · exact .inl (.inr (.inr q))
      · exact .inr q
end
/-- A record's row. -/
def addRow (rows : List (List Rec)) (x : Rec) : List (List Rec) := rows.set x.st.toNat (rows.getD x.st.toNat [] ++ [x])
def addAll (rows : List (List Rec)) (xs : List Rec) : List (List Rec) := xs.foldl addRow rows
theorem addAll_snoc (rows : List (List Rec)) (xs : List Rec) (x : Rec) : addAll rows (xs ++ [x]) = addRow (addAll rows xs) x := by simp [addAll]
/-- What keep changes. -/
structure KeepStep (w w' : World) (base S D N K z : Nat) (wv : Value) (rs : List (Option Nat)) (me n : Int) (next : Nat) (rows : List (List Rec)) (m : Dk) : Prop where
  ex : ∃ wv' rs' vs', Stn w' base S D N K z wv' rs' vs' me n next rows m ∧ ∀ j, stnS S D N K wv' rs' j → stnS S D N K wv rs j ∨ w.heap.size ≤ j
  fr : FrB (stnS S D N K wv rs) w w'
end Go.Proofs.YtgjahnomafpnfaaGreatDoor

/- (*Station).keep. -/
namespace Go.Proofs.YtgjahnomafpnfaaGreatDoor
open Go.RowKit
/-- What keep comes to. -/
def KeepPost (w : World) (base S D N K z : Nat) (wv : Value) (rs : List (Option Nat)) (me n : Int) (next : Nat) (rows : List (List Rec)) (m : Dk) (xs : List Rec) (r : Nat × Int × Dk) (e : Ending) (w' : World) : Prop :=
  e = .returned (.int .i64 r.2.1) ∧ (if r.2.1 = 0 then KeepStep w w' base S D N K z wv rs me n r.1 (addAll rows xs) r.2.2 else KeepStep w w' base S D N K z wv rs me n next rows r.2.2)
/-- Where the loop of keep stands. -/
structure KRel (w wr : World) (base S D N K z : Nat) (wv wv' : Value) (rs rs' : List (Option Nat)) (vs' : List Value) (me n : Int) (nx : Nat) (rows : List (List Rec)) (m' : Dk) (xs : List Rec) (k : Nat) : Prop where
  kn : k ≤ xs.length
  stn : Stn wr base S D N K z wv' rs' vs' me n nx (addAll rows (xs.take k)) m'
  fr : FrB (stnS S D N K wv rs) w wr
  new : ∀ j, stnS S D N K wv' rs' j → stnS S D N K wv rs j ∨ w.heap.size ≤ j
  len : ∀ r ∈ addAll rows (xs.take k), r.length ≤ 100000 + k
theorem addAll_len {rows : List (List Rec)} {xs : List Rec} {k : Nat} {x : Rec} (hx : xs[k]? = some x) (h : ∀ r ∈ addAll rows (xs.take k), r.length ≤ 100000 + k) (hk : x.st.toNat < (addAll rows (xs.take k)).length) : addAll rows (xs.take (k + 1)) = (addAll rows (xs.take k)).set x.st.toNat ((addAll rows (xs.take k)).getD x.st.toNat [] ++ [x]) ∧ ∀ r ∈ addAll rows (xs.take (k + 1)), r.length ≤ 100000 + (k + 1) := by
  have e : addAll rows (xs.take (k + 1)) = addRow (addAll rows (xs.take k)) x := by rw [List.take_add_one, hx]; exact addAll_snoc _ _ _
  rw [e]
  refine ⟨rfl, fun r hr => ?_⟩
  rcases List.mem_or_eq_of_mem_set hr with q | q
  · have := h r q; omega
  · rw [q, List.length_append]
    have hm : (addAll rows (xs.take k)).getD x.st.toNat [] ∈ addAll rows (xs.take k) := by simp [List.getD, hk]
    have := h _ hm
    rw [List.length_singleton]; omega
set_option maxHeartbeats 1600000 in
set_option maxRecDepth 100000 in
theorem keep_any {B : Nat} {w : World} {base S D N K z : Nat} {wv : Value} {rs : List (Option Nat)} {vs : List Value} {me n : Int} {next : Nat} {rows : List (List Rec)} {m : Dk} (hL : Laid B w) (h : Stn w base S D N K z wv rs vs me n next rows m) (hB : B ≤ base)
    (v : Value) (xs : List Rec) (hv : SlR w v xs) (hvo : ∀ a l c, v = .slice (some a) l c → ¬ stnS S D N K wv rs a.block) (hst : ∀ x ∈ xs, 0 ≤ x.st ∧ x.st < 5) (hfit : ∀ x ∈ xs, x.fits) (hxs : xs.length ≤ 1000) (hme : 0 ≤ me ∧ me ≤ 5) (hn : 0 ≤ n ∧ n ≤ 5)
    (hnext : next ≤ 1000000) (hsz : (titleB me n ++ letterB xs).size ≤ 1000000) (hwl : m.writes.length + (piecesL (titleB me n ++ letterB xs).data.toList).length ≤ 1000000) (hrows : ∀ r ∈ rows, r.length ≤ 100000) :
    Calls Tryz.prog 94 #[.pointer (some ⟨S, 0, none⟩), v] w (KeepPost w base S D N K z wv rs me n next rows m xs (saveP z m next (titleB me n ++ letterB xs).data.toList)) := by
  obtain ⟨ao, cap, rfl, hc⟩ := hv.open
  have k0 := h.st.disk
  have k1 := h.st.cme
  have k2 := h.st.cn
  have k8 := h.st.cnext
  have HC := Lib.hid hc
  have HV := Lib.hid hv
  have H := Lib.hid h
  have HL := Lib.hid hL
  have HO := Lib.hid hvo
  have HT := Lib.hid hst
  have HF := Lib.hid hfit
  have HR := Lib.hid hrows
  obtain ⟨tt, htt⟩ : ∃ tt, titleB me n = tt := ⟨_, rfl⟩
  obtain ⟨lt, hlt⟩ : ∃ lt, letterB xs = lt := ⟨_, rfl⟩
  have HI := Lib.hid (And.intro (fun w1 (hE : Ext w w1) => title_any (hL.ext hE) S me n (hE.keep k1) (hE.keep k2) (by omega) (by omega)) (fun w1 (hE : Ext w w1) => letterText_any (hL.ext hE) _ xs (hv.ext hE) hfit (by omega)))
  rw [htt, hlt] at hsz hwl
  rw [htt, hlt] at HI
  rw [htt, hlt]
  have hts : ¬ (9223372036854775807 < tt.size + lt.size) := by rw [ByteArray.size_append] at hsz; omega
  obtain ⟨r, hr⟩ : ∃ r, saveP z m next (tt ++ lt).data.toList = r := ⟨_, rfl⟩
  rw [hr]
  have HRr := Lib.hid hr
  clear hc hv h hL hvo hst hfit hrows htt hlt hr
  go_enter Tryz.func94, Tryz.ntmps94
  go_wp2_with fail
  refine wp_drawn 13 (by kernel_rfl) (by kernel_rfl) (fun i => match i with
    | 9 => some fun v _ => v = .string tt
    | 11 => some fun v _ => v = .string lt
    | 12 => some fun v _ => v = .string (tt ++ lt)
    | _ => none) ?_ ?_
  · intro j φ hφ v w1 w2 h1 h2
    split at hφ <;> cases hφ
    all_goals exact h1
  intro ν
  simp only [List.take_succ_cons, List.take_zero]
  iterate 9 (refine Seq.pure ?_ rfl (fun w' hw hf => ?_) ?_; rotate_left; (· (have d0 := hw.keep (w := World.drew _) k0; have d8 := hw.keep (w := World.drew _) k8; unfold pureG; go_simp; with_reducible rfl)); simp only [Act.put, List.setIfInBounds_toArray, List.set_cons_zero, List.set_cons_succ, Nat.reduceAdd, Nat.zero_add])
  refine Seq.eff _ rfl (fun w' hw hf => giveG_of rfl (by simp) fun K hK => ?_) ?_
  · go_simp
    refine (HI.out.1 _ ((Ext.drew w).trans hw)).mono ?_
    rintro e w2 ⟨rfl, hb⟩
    exact hK _ _ ⟨rfl, hb⟩
  simp only [Act.put, List.setIfInBounds_toArray, List.set_cons_zero, List.set_cons_succ, Nat.reduceAdd, Nat.zero_add]
  iterate 1 (refine Seq.pure ?_ rfl (fun w' hw hf => ?_) ?_; rotate_left; (· (have hc := hw.cells; unfold pureG; go_simp; with_reducible rfl)); simp only [Act.put, List.setIfInBounds_toArray, List.set_cons_zero, List.set_cons_succ, Nat.reduceAdd, Nat.zero_add])
  refine Seq.eff _ rfl (fun w' hw hf => giveG_of rfl (by simp) fun K hK => ?_) ?_
  · go_simp
    refine (HI.out.2 _ ((Ext.drew w).trans hw)).mono ?_
    rintro e w2 ⟨rfl, hb⟩
    exact hK _ _ ⟨rfl, hb⟩
  simp only [Act.put, List.setIfInBounds_toArray, List.set_cons_zero, List.set_cons_succ, Nat.reduceAdd, Nat.zero_add]
  refine Seq.eff _ rfl (fun w' hw hf => giveG_of rfl (by simp) fun K hK => ?_) ?_
  · have e9 := hf 9 _ rfl (by kernel_rfl)
    have e11 := hf 11 _ rfl (by kernel_rfl)
    simp only [e9, e11] at hK ⊢
    go_simp
    first | (rw [if_neg hts]; exact hK _ _ ⟨rfl, Ext.refl _⟩) | exact hK _ _ ⟨rfl, Ext.refl _⟩
  simp only [Act.put, List.setIfInBounds_toArray, List.set_cons_zero, List.set_cons_succ, Nat.reduceAdd, Nat.zero_add]
  refine Seq.nil fun W hw hf => ?_
  have e12 := hf 12 _ (by omega) rfl
  rw [e12]
  have HW := Lib.hid ((Ext.drew w).trans hw)
  clear hf hw e12
  have hsv := save_any (H.out.dk.ext HW.out) next (tt ++ lt) hnext hsz hwl
  rw [HRr.out] at hsv
  have HS := Lib.hid hsv
  clear hsv HRr
  obtain ⟨nx, er, m'⟩ := r
  refine tail_next (i := 13) (by kernel_rfl) rfl rfl (fun KK hKK => ?_)
  go_simp
  refine HS.out.mono ?_
  rintro e W2 ⟨rfl, wv', hst2⟩
  refine hKK _ _ ?_
  clear hKK
  try simp only [Act.put, List.setIfInBounds_toArray, List.set_cons_zero, List.set_cons_succ, Nat.reduceAdd, Nat.zero_add]
  refine tail_next (i := 14) (by kernel_rfl) rfl rfl (fun KK hKK => ?_); go_simp; refine hKK _ _ ?_; clear hKK; (try simp only [Act.put, List.setIfInBounds_toArray, List.set_cons_zero, List.set_cons_succ, Nat.reduceAdd, Nat.zero_add])
  refine tail_fork (i := 15) (j := 16) (by kernel_rfl) rfl rfl rfl rfl (fun KK hKK => ?_) (fun KK hKK => ?_)
  · go_simp
    refine hKK _ _ ?_
    clear hKK
    try simp only [Act.put, List.setIfInBounds_toArray, List.set_cons_zero, List.set_cons_succ, Nat.reduceAdd, Nat.zero_add]
    refine tail_fork (i := 16) (j := 17) (by kernel_rfl) rfl rfl rfl rfl (fun KK hKK => ?_) (fun KK hKK => ?_)
    · go_simp
      refine hKK _ _ ?_
      clear hKK
      try simp only [Act.put, List.setIfInBounds_toArray, List.set_cons_zero, List.set_cons_succ, Nat.reduceAdd, Nat.zero_add]
      refine tail_next (i := 17) (by kernel_rfl) rfl rfl (fun KK hKK => ?_); go_simp; refine hKK _ _ ?_; clear hKK; (try simp only [Act.put, List.setIfInBounds_toArray, List.set_cons_zero, List.set_cons_succ, Nat.reduceAdd, Nat.zero_add])
      refine tail_next (i := 18) (by kernel_rfl) rfl rfl (fun KK hKK => ?_); go_simp; refine hKK _ _ ?_; clear hKK; (try simp only [Act.put, List.setIfInBounds_toArray, List.set_cons_zero, List.set_cons_succ, Nat.reduceAdd, Nat.zero_add])
      refine tail_none (by kernel_rfl) ?_
      obtain ⟨q1, q2, q3⟩ := (H.out.ext HW.out).dkStep hst2
      have hszW := HW.out.size
      have hFw : FrB (stnS S D N K wv rs) w W2 := (FrB.ext HW.out).trans q2 (fun _ _ e => e)
      have hNw : ∀ j, stnS S D N K wv' rs j → stnS S D N K wv rs j ∨ w.heap.size ≤ j := fun j hj => by
        rcases q3 j hj with q | q
        · exact .inl q
        · exact .inr (Nat.le_trans hszW q)
      by_cases he : er = 0
      · subst he
        have c8 := q1.st.cnext
        have f8 := q1.st.fnext
        have HS2 := Lib.hid q1
        have HK : RowKit.Hid (KRel w (W2.setCell ⟨S, 8, none⟩ (.int .i64 nx)) base S D N K z wv wv' rs rs vs me n nx rows m' xs 0) :=
          Lib.hid ⟨Nat.zero_le _, q1.setNext nx, hFw.trans (FrB.setCell (stnS S D N K wv rs) _ _ _ (.inl rfl)) (fun _ _ e => e), hNw, fun r hr => by have := HR.out r hr; omega⟩
        clear q1 q2 q3 hFw hNw hst2 k0 k1 k2 k8
        go_wp2_with fail
        generalize W2.setCell ⟨S, 8, none⟩ (.int .i64 nx) = W3 at HK ⊢
        clear c8 f8
        go_loopw [35] (fun i wr => ∃ (k : Nat) (rs' : List (Option Nat)) (vs' : List Value), i = .int .i64 k ∧ KRel w wr base S D N K z wv wv' rs rs' vs' me n nx rows m' xs k) (fun i _ => xs.length - (intOf i).toNat)
        case atStart => exact ⟨0, rs, vs, rfl, HK.out⟩
        case round =>
          obtain ⟨k, rs', vs', rfl, hR⟩ := hrel
          have HRel := Lib.hid hR
          have hkn := hR.kn
          clear hR
          by_cases hlt : k < xs.length
          · obtain ⟨x, hx⟩ : ∃ x, xs[k]? = some x := ⟨_, List.getElem?_eq_getElem hlt⟩
            obtain ⟨b, off, rfl, hbl, e0, e1, e2, e3⟩ := HC.out k x hx
            have hno : ¬ stnS S D N K wv rs b := HO.out _ _ _ rfl
            have d0 := (HRel.out.fr.cell hbl hno).trans e0
            have d1 := (HRel.out.fr.cell hbl hno).trans e1
            have d2 := (HRel.out.fr.cell hbl hno).trans e2
            have d3 := (HRel.out.fr.cell hbl hno).trans e3
            have hstx := HT.out x (List.mem_of_getElem? hx)
            have HX := Lib.hid hx
            have hlt' : (k : Int) < xs.length := by omega
            have hEx := Ext.alloc wr (.cells #[.int .i64 x.st, .int .i64 x.num, .int .i64 x.hr, .string x.txt] 49)
            have hbx := BoxR.new wr x
            have g0 := hbx.c0
            have g1 := hbx.c1
            have g2 := hbx.c2
            have g3 := hbx.c3
            have k0 := hEx.keep HRel.out.stn.st.disk
            have HEx := Lib.hid hEx
            clear e0 e1 e2 e3 hx hEx hbx
            go_wp2_with fail
            generalize wr.alloc (.cells #[.int .i64 x.st, .int .i64 x.num, .int .i64 x.hr, .string x.txt] 49) = W4 at HEx g0 g1 g2 g3 k0 ⊢
            clear d0 d1 d2 d3
            refine wp_drawn 4 (by kernel_rfl) (by kernel_rfl) (fun _ => none) (fun j φ hφ => by cases hφ) ?_
            intro ν2
            simp only [List.take_succ_cons, List.take_zero]
            iterate 4 (refine Seq.pure ?_ rfl (fun w' hw hf => ?_) ?_; rotate_left; (· (have u0 := hw.keep (w := World.drew _) g0; have u1 := hw.keep (w := World.drew _) g1; have u2 := hw.keep (w := World.drew _) g2; have u3 := hw.keep (w := World.drew _) g3; have u4 := hw.keep (w := World.drew _) k0; unfold pureG; go_simp; with_reducible rfl)); simp only [Act.put, List.setIfInBounds_toArray, List.set_cons_zero, List.set_cons_succ, Nat.reduceAdd, Nat.zero_add])
            refine Seq.nil fun W5 hw hf => tail_one (i := 4) (by kernel_rfl) rfl (by kernel_rfl) rfl ?_
            have hE5 := HEx.out.trans ((Ext.drew W4).trans hw)
            have HE5 := Lib.hid hE5
            have hS5 := HRel.out.stn.ext hE5
            have hlen5 := hS5.st.books.five.lr
            have hk5 : x.st.toNat < (addAll rows (xs.take k)).length := by rw [hlen5]; omega
            have hxr : (addAll rows (xs.take k))[x.st.toNat]? = some ((addAll rows (xs.take k)).getD x.st.toNat []) := by rw [List.getElem?_eq_getElem hk5]; simp [List.getD, hk5]
            have hlr := HRel.out.len _ (List.mem_of_getElem? hxr)
            have hadd := Lib.hid (add_any S 3 x.st.toNat x base rs' vs' _ W5 hS5.st.books (by omega) (by omega) _ hxr (by omega))
            have HS5 := Lib.hid hS5
            obtain ⟨ea, el⟩ := addAll_len HX.out HRel.out.len hk5
            have HEA := Lib.hid (And.intro ea el)
            clear hE5 hS5 hw hf hlen5 hxr hlr hk5 ea el g0 g1 g2 g3 k0
            go_wp2_with fail
            refine hadd.out.mono ?_
            rintro e W6 ⟨rfl, rs6, vs6, hS6, hF6⟩
            have HK6 : RowKit.Hid (KRel w W6 base S D N K z wv wv' rs rs6 vs6 me n nx rows m' xs (k + 1)) := by
              refine Lib.hid ⟨by omega, ?_, ?_, ?_, HEA.out.2⟩
              · rw [HEA.out.1]; exact HS5.out.added hS6 hF6
              · refine (HRel.out.fr.trans (FrB.ext HE5.out) (fun _ _ e => e)).trans hF6.frB (fun j hj e => ?_)
                rcases HRel.out.new j (by rcases e with e | e; exact .inl e; exact .inr (.inl e)) with q | q
                · exact q
                · omega
              · intro j hj
                have hsz5 := HE5.out.size
                have hszr := HRel.out.fr.size
                rcases hj with e | e | e
                · exact .inl (.inl e)
                · rcases hF6.new j e with q | q
                  · exact HRel.out.new j (.inr (.inl q))
                  · exact .inr (by omega)
                · exact HRel.out.new j (.inr (.inr e))
            clear hS6 hF6
            go_wp2
            go_roundw
            case rel => exact ⟨k + 1, rs6, vs6, by go_num, HK6.out⟩
            case measure => simp [intOf]; omega
          · have hge : ¬ ((k : Int) < xs.length) := by omega
            obtain rfl : k = xs.length := by omega
            go_wp2
            go_ret
            refine ⟨rfl, ?_⟩
            rw [if_pos rfl]
            have hs := HRel.out.stn
            rw [List.take_length] at hs
            exact ⟨⟨wv', rs', vs', hs, HRel.out.new⟩, HRel.out.fr⟩
      · have hne : (er != 0) = true := by simpa using he
        have HP : RowKit.Hid (KeepStep w W2 base S D N K z wv rs me n next rows m') := Lib.hid ⟨⟨wv', rs, vs, q1, hNw⟩, hFw⟩
        clear q1 q2 q3 hFw hNw hst2 k0 k1 k2 k8
        go_wp2
        go_ret
        refine ⟨rfl, ?_⟩
        rw [if_neg he]
        exact HP.out
    · go_simp
      refine hKK _ _ ?_
      clear hKK
      try simp only [Act.put, List.setIfInBounds_toArray, List.set_cons_zero, List.set_cons_succ, Nat.reduceAdd, Nat.zero_add]
      refine tail_next (i := 16) (by kernel_rfl) rfl rfl (fun KK hKK => ?_); go_simp; refine hKK _ _ ?_; clear hKK; (try simp only [Act.put, List.setIfInBounds_toArray, List.set_cons_zero, List.set_cons_succ, Nat.reduceAdd, Nat.zero_add])
      refine tail_next (i := 18) (by kernel_rfl) rfl rfl (fun KK hKK => ?_); go_simp; refine hKK _ _ ?_; clear hKK; (try simp only [Act.put, List.setIfInBounds_toArray, List.set_cons_zero, List.set_cons_succ, Nat.reduceAdd, Nat.zero_add])
      refine tail_none (by kernel_rfl) ?_
      obtain ⟨q1, q2, q3⟩ := (H.out.ext HW.out).dkStep hst2
      have hszW := HW.out.size
      have hFw : FrB (stnS S D N K wv rs) w W2 := (FrB.ext HW.out).trans q2 (fun _ _ e => e)
      have hNw : ∀ j, stnS S D N K wv' rs j → stnS S D N K wv rs j ∨ w.heap.size ≤ j := fun j hj => by
        rcases q3 j hj with q | q
        · exact .inl q
        · exact .inr (Nat.le_trans hszW q)
      by_cases he : er = 0
      · subst he
        have c8 := q1.st.cnext
        have f8 := q1.st.fnext
        have HS2 := Lib.hid q1
        have HK : RowKit.Hid (KRel w (W2.setCell ⟨S, 8, none⟩ (.int .i64 nx)) base S D N K z wv wv' rs rs vs me n nx rows m' xs 0) :=
          Lib.hid ⟨Nat.zero_le _, q1.setNext nx, hFw.trans (FrB.setCell (stnS S D N K wv rs) _ _ _ (.inl rfl)) (fun _ _ e => e), hNw, fun r hr => by have := HR.out r hr; omega⟩
        clear q1 q2 q3 hFw hNw hst2 k0 k1 k2 k8
        go_wp2_with fail
        generalize W2.setCell ⟨S, 8, none⟩ (.int .i64 nx) = W3 at HK ⊢
        clear c8 f8
        go_loopw [35] (fun i wr => ∃ (k : Nat) (rs' : List (Option Nat)) (vs' : List Value), i = .int .i64 k ∧ KRel w wr base S D N K z wv wv' rs rs' vs' me n nx rows m' xs k) (fun i _ => xs.length - (intOf i).toNat)
        case atStart => exact ⟨0, rs, vs, rfl, HK.out⟩
        case round =>
          obtain ⟨k, rs', vs', rfl, hR⟩ := hrel
          have HRel := Lib.hid hR
          have hkn := hR.kn
          clear hR
          by_cases hlt : k < xs.length
          · obtain ⟨x, hx⟩ : ∃ x, xs[k]? = some x := ⟨_, List.getElem?_eq_getElem hlt⟩
            obtain ⟨b, off, rfl, hbl, e0, e1, e2, e3⟩ := HC.out k x hx
            have hno : ¬ stnS S D N K wv rs b := HO.out _ _ _ rfl
            have d0 := (HRel.out.fr.cell hbl hno).trans e0
            have d1 := (HRel.out.fr.cell hbl hno).trans e1
            have d2 := (HRel.out.fr.cell hbl hno).trans e2
            have d3 := (HRel.out.fr.cell hbl hno).trans e3
            have hstx := HT.out x (List.mem_of_getElem? hx)
            have HX := Lib.hid hx
            have hlt' : (k : Int) < xs.length := by omega
            have hEx := Ext.alloc wr (.cells #[.int .i64 x.st, .int .i64 x.num, .int .i64 x.hr, .string x.txt] 49)
            have hbx := BoxR.new wr x
            have g0 := hbx.c0
            have g1 := hbx.c1
            have g2 := hbx.c2
            have g3 := hbx.c3
            have k0 := hEx.keep HRel.out.stn.st.disk
            have HEx := Lib.hid hEx
            clear e0 e1 e2 e3 hx hEx hbx
            go_wp2_with fail
            generalize wr.alloc (.cells #[.int .i64 x.st, .int .i64 x.num, .int .i64 x.hr, .string x.txt] 49) = W4 at HEx g0 g1 g2 g3 k0 ⊢
            clear d0 d1 d2 d3
            refine wp_drawn 4 (by kernel_rfl) (by kernel_rfl) (fun _ => none) (fun j φ hφ => by cases hφ) ?_
            intro ν2
            simp only [List.take_succ_cons, List.take_zero]
            iterate 4 (refine Seq.pure ?_ rfl (fun w' hw hf => ?_) ?_; rotate_left; (· (have u0 := hw.keep (w := World.drew _) g0; have u1 := hw.keep (w := World.drew _) g1; have u2 := hw.keep (w := World.drew _) g2; have u3 := hw.keep (w := World.drew _) g3; have u4 := hw.keep (w := World.drew _) k0; unfold pureG; go_simp; with_reducible rfl)); simp only [Act.put, List.setIfInBounds_toArray, List.set_cons_zero, List.set_cons_succ, Nat.reduceAdd, Nat.zero_add])
            refine Seq.nil fun W5 hw hf => tail_one (i := 4) (by kernel_rfl) rfl (by kernel_rfl) rfl ?_
            have hE5 := HEx.out.trans ((Ext.drew W4).trans hw)
            have HE5 := Lib.hid hE5
            have hS5 := HRel.out.stn.ext hE5
            have hlen5 := hS5.st.books.five.lr
            have hk5 : x.st.toNat < (addAll rows (xs.take k)).length := by rw [hlen5]; omega
            have hxr : (addAll rows (xs.take k))[x.st.toNat]? = some ((addAll rows (xs.take k)).getD x.st.toNat []) := by rw [List.getElem?_eq_getElem hk5]; simp [List.getD, hk5]
            have hlr := HRel.out.len _ (List.mem_of_getElem? hxr)
            have hadd := Lib.hid (add_any S 3 x.st.toNat x base rs' vs' _ W5 hS5.st.books (by omega) (by omega) _ hxr (by omega))
            have HS5 := Lib.hid hS5
            obtain ⟨ea, el⟩ := addAll_len HX.out HRel.out.len hk5
            have HEA := Lib.hid (And.intro ea el)
            clear hE5 hS5 hw hf hlen5 hxr hlr hk5 ea el g0 g1 g2 g3 k0
            go_wp2_with fail
            refine hadd.out.mono ?_
            rintro e W6 ⟨rfl, rs6, vs6, hS6, hF6⟩
            have HK6 : RowKit.Hid (KRel w W6 base S D N K z wv wv' rs rs6 vs6 me n nx rows m' xs (k + 1)) := by
              refine Lib.hid ⟨by omega, ?_, ?_, ?_, HEA.out.2⟩
              · rw [HEA.out.1]; exact HS5.out.added hS6 hF6
              · refine (HRel.out.fr.trans (FrB.ext HE5.out) (fun _ _ e => e)).trans hF6.frB (fun j hj e => ?_)
                rcases HRel.out.new j (by rcases e with e | e; exact .inl e; exact .inr (.inl e)) with q | q
                · exact q
                · omega
              · intro j hj
                have hsz5 := HE5.out.size
                have hszr := HRel.out.fr.size
                rcases hj with e | e | e
                · exact .inl (.inl e)
                · rcases hF6.new j e with q | q
                  · exact HRel.out.new j (.inr (.inl q))
                  · exact .inr (by omega)
                · exact HRel.out.new j (.inr (.inr e))
            clear hS6 hF6
            go_wp2
            go_roundw
            case rel => exact ⟨k + 1, rs6, vs6, by go_num, HK6.out⟩
            case measure => simp [intOf]; omega
          · have hge : ¬ ((k : Int) < xs.length) := by omega
            obtain rfl : k = xs.length := by omega
            go_wp2
            go_ret
            refine ⟨rfl, ?_⟩
            rw [if_pos rfl]
            have hs := HRel.out.stn
            rw [List.take_length] at hs
            exact ⟨⟨wv', rs', vs', hs, HRel.out.new⟩, HRel.out.fr⟩
      · have hne : (er != 0) = true := by simpa using he
        have HP : RowKit.Hid (KeepStep w W2 base S D N K z wv rs me n next rows m') := Lib.hid ⟨⟨wv', rs, vs, q1, hNw⟩, hFw⟩
        clear q1 q2 q3 hFw hNw hst2 k0 k1 k2 k8
        go_wp2
        go_ret
        refine ⟨rfl, ?_⟩
        rw [if_neg he]
        exact HP.out
  · go_simp
    refine hKK _ _ ?_
    clear hKK
    try simp only [Act.put, List.setIfInBounds_toArray, List.set_cons_zero, List.set_cons_succ, Nat.reduceAdd, Nat.zero_add]
    refine tail_next (i := 15) (by kernel_rfl) rfl rfl (fun KK hKK => ?_); go_simp; refine hKK _ _ ?_; clear hKK; (try simp only [Act.put, List.setIfInBounds_toArray, List.set_cons_zero, List.set_cons_succ, Nat.reduceAdd, Nat.zero_add])
    refine tail_next (i := 17) (by kernel_rfl) rfl rfl (fun KK hKK => ?_); go_simp; refine hKK _ _ ?_; clear hKK; (try simp only [Act.put, List.setIfInBounds_toArray, List.set_cons_zero, List.set_cons_succ, Nat.reduceAdd, Nat.zero_add])
    refine tail_next (i := 18) (by kernel_rfl) rfl rfl (fun KK hKK => ?_); go_simp; refine hKK _ _ ?_; clear hKK; (try simp only [Act.put, List.setIfInBounds_toArray, List.set_cons_zero, List.set_cons_succ, Nat.reduceAdd, Nat.zero_add])
    refine tail_none (by kernel_rfl) ?_
    obtain ⟨q1, q2, q3⟩ := (H.out.ext HW.out).dkStep hst2
    have hszW := HW.out.size
    have hFw : FrB (stnS S D N K wv rs) w W2 := (FrB.ext HW.out).trans q2 (fun _ _ e => e)
    have hNw : ∀ j, stnS S D N K wv' rs j → stnS S D N K wv rs j ∨ w.heap.size ≤ j := fun j hj => by
      rcases q3 j hj with q | q
      · exact .inl q
      · exact .inr (Nat.le_trans hszW q)
    by_cases he : er = 0
    · subst he
      have c8 := q1.st.cnext
      have f8 := q1.st.fnext
      have HS2 := Lib.hid q1
      have HK : RowKit.Hid (KRel w (W2.setCell ⟨S, 8, none⟩ (.int .i64 nx)) base S D N K z wv wv' rs rs vs me n nx rows m' xs 0) :=
        Lib.hid ⟨Nat.zero_le _, q1.setNext nx, hFw.trans (FrB.setCell (stnS S D N K wv rs) _ _ _ (.inl rfl)) (fun _ _ e => e), hNw, fun r hr => by have := HR.out r hr; omega⟩
      clear q1 q2 q3 hFw hNw hst2 k0 k1 k2 k8
      go_wp2_with fail
      generalize W2.setCell ⟨S, 8, none⟩ (.int .i64 nx) = W3 at HK ⊢
      clear c8 f8
      go_loopw [35] (fun i wr => ∃ (k : Nat) (rs' : List (Option Nat)) (vs' : List Value), i = .int .i64 k ∧ KRel w wr base S D N K z wv wv' rs rs' vs' me n nx rows m' xs k) (fun i _ => xs.length - (intOf i).toNat)
      case atStart => exact ⟨0, rs, vs, rfl, HK.out⟩
      case round =>
        obtain ⟨k, rs', vs', rfl, hR⟩ := hrel
        have HRel := Lib.hid hR
        have hkn := hR.kn
        clear hR
        by_cases hlt : k < xs.length
        · obtain ⟨x, hx⟩ : ∃ x, xs[k]? = some x := ⟨_, List.getElem?_eq_getElem hlt⟩
          obtain ⟨b, off, rfl, hbl, e0, e1, e2, e3⟩ := HC.out k x hx
          have hno : ¬ stnS S D N K wv rs b := HO.out _ _ _ rfl
          have d0 := (HRel.out.fr.cell hbl hno).trans e0
          have d1 := (HRel.out.fr.cell hbl hno).trans e1
          have d2 := (HRel.out.fr.cell hbl hno).trans e2
          have d3 := (HRel.out.fr.cell hbl hno).trans e3
          have hstx := HT.out x (List.mem_of_getElem? hx)
          have HX := Lib.hid hx
          have hlt' : (k : Int) < xs.length := by omega
          have hEx := Ext.alloc wr (.cells #[.int .i64 x.st, .int .i64 x.num, .int .i64 x.hr, .string x.txt] 49)
          have hbx := BoxR.new wr x
          have g0 := hbx.c0
          have g1 := hbx.c1
          have g2 := hbx.c2
          have g3 := hbx.c3
          have k0 := hEx.keep HRel.out.stn.st.disk
          have HEx := Lib.hid hEx
          clear e0 e1 e2 e3 hx hEx hbx
          go_wp2_with fail
          generalize wr.alloc (.cells #[.int .i64 x.st, .int .i64 x.num, .int .i64 x.hr, .string x.txt] 49) = W4 at HEx g0 g1 g2 g3 k0 ⊢
          clear d0 d1 d2 d3
          refine wp_drawn 4 (by kernel_rfl) (by kernel_rfl) (fun _ => none) (fun j φ hφ => by cases hφ) ?_
          intro ν2
          simp only [List.take_succ_cons, List.take_zero]
          iterate 4 (refine Seq.pure ?_ rfl (fun w' hw hf => ?_) ?_; rotate_left; (· (have u0 := hw.keep (w := World.drew _) g0; have u1 := hw.keep (w := World.drew _) g1; have u2 := hw.keep (w := World.drew _) g2; have u3 := hw.keep (w := World.drew _) g3; have u4 := hw.keep (w := World.drew _) k0; unfold pureG; go_simp; with_reducible rfl)); simp only [Act.put, List.setIfInBounds_toArray, List.set_cons_zero, List.set_cons_succ, Nat.reduceAdd, Nat.zero_add])
          refine Seq.nil fun W5 hw hf => tail_one (i := 4) (by kernel_rfl) rfl (by kernel_rfl) rfl ?_
          have hE5 := HEx.out.trans ((Ext.drew W4).trans hw)
          have HE5 := Lib.hid hE5
          have hS5 := HRel.out.stn.ext hE5
          have hlen5 := hS5.st.books.five.lr
          have hk5 : x.st.toNat < (addAll rows (xs.take k)).length := by rw [hlen5]; omega
          have hxr : (addAll rows (xs.take k))[x.st.toNat]? = some ((addAll rows (xs.take k)).getD x.st.toNat []) := by rw [List.getElem?_eq_getElem hk5]; simp [List.getD, hk5]
          have hlr := HRel.out.len _ (List.mem_of_getElem? hxr)
          have hadd := Lib.hid (add_any S 3 x.st.toNat x base rs' vs' _ W5 hS5.st.books (by omega) (by omega) _ hxr (by omega))
          have HS5 := Lib.hid hS5
          obtain ⟨ea, el⟩ := addAll_len HX.out HRel.out.len hk5
          have HEA := Lib.hid (And.intro ea el)
          clear hE5 hS5 hw hf hlen5 hxr hlr hk5 ea el g0 g1 g2 g3 k0
          go_wp2_with fail
          refine hadd.out.mono ?_
          rintro e W6 ⟨rfl, rs6, vs6, hS6, hF6⟩
          have HK6 : RowKit.Hid (KRel w W6 base S D N K z wv wv' rs rs6 vs6 me n nx rows m' xs (k + 1)) := by
            refine Lib.hid ⟨by omega, ?_, ?_, ?_, HEA.out.2⟩
            · rw [HEA.out.1]; exact HS5.out.added hS6 hF6
            · refine (HRel.out.fr.trans (FrB.ext HE5.out) (fun _ _ e => e)).trans hF6.frB (fun j hj e => ?_)
              rcases HRel.out.new j (by rcases e with e | e; exact .inl e; exact .inr (.inl e)) with q | q
              · exact q
              · omega
            · intro j hj
              have hsz5 := HE5.out.size
              have hszr := HRel.out.fr.size
              rcases hj with e | e | e
              · exact .inl (.inl e)
              · rcases hF6.new j e with q | q
                · exact HRel.out.new j (.inr (.inl q))
                · exact .inr (by omega)
              · exact HRel.out.new j (.inr (.inr e))
          clear hS6 hF6
          go_wp2
          go_roundw
          case rel => exact ⟨k + 1, rs6, vs6, by go_num, HK6.out⟩
          case measure => simp [intOf]; omega
        · have hge : ¬ ((k : Int) < xs.length) := by omega
          obtain rfl : k = xs.length := by omega
          go_wp2
          go_ret
          refine ⟨rfl, ?_⟩
          rw [if_pos rfl]
          have hs := HRel.out.stn
          rw [List.take_length] at hs
          exact ⟨⟨wv', rs', vs', hs, HRel.out.new⟩, HRel.out.fr⟩
    · have hne : (er != 0) = true := by simpa using he
      have HP : RowKit.Hid (KeepStep w W2 base S D N K z wv rs me n next rows m') := Lib.hid ⟨⟨wv', rs, vs, q1, hNw⟩, hFw⟩
      clear q1 q2 q3 hFw hNw hst2 k0 k1 k2 k8
      go_wp2
      go_ret
      refine ⟨rfl, ?_⟩
      rw [if_neg he]
      exact HP.out
end Go.Proofs.YtgjahnomafpnfaaGreatDoor

/- (*Station).Add. -/
namespace Go.Proofs.YtgjahnomafpnfaaGreatDoor
open Go.RowKit
section
variable {w w1 w' : World} {base S D N K z : Nat} {wv : Value} {rs : List (Option Nat)} {me n : Int} {next : Nat} {rows : List (List Rec)} {m : Dk}
theorem stnS_lt {vs : List Value} (h : Stn w base S D N K z wv rs vs me n next rows m) {j : Nat} (hj : w.heap.size ≤ j) : ¬ stnS S D N K wv rs j := fun e => by have := (h.S_ge j e).2; omega
theorem KeepStep.ofExt (hE : Ext w w1) (h : KeepStep w1 w' base S D N K z wv rs me n next rows m) : KeepStep w w' base S D N K z wv rs me n next rows m := by
  obtain ⟨⟨wv', rs', vs', h1, h2⟩, h3⟩ := h
  exact ⟨⟨wv', rs', vs', h1, fun j hj => by rcases h2 j hj with q | q; exact .inl q; exact .inr (Nat.le_trans hE.size q)⟩, (FrB.ext hE).trans h3 (fun _ _ e => e)⟩
theorem KeepStep.ofStn {vs : List Value} (h : Stn w base S D N K z wv rs vs me n next rows m) (hE : Ext w w') : KeepStep w w' base S D N K z wv rs me n next rows m :=
  ⟨⟨wv, rs, vs, h.ext hE, fun _ hj => .inl hj⟩, FrB.ext hE⟩
end
/-- What Add answers before it writes; 0: it writes. -/
def addE (own : List Rec) (text : ByteArray) (hour : Int) : Int :=
  if writtenB text = false ∨ inB hour 0 1000000 = false then 1 else if 0 < own.length ∧ hour < (own.getLast?.getD default).hr then 7 else if own.length = 400 then 2 else 0
/-- What Add comes to. -/
def AddPost (w : World) (base S D N K z : Nat) (wv : Value) (rs : List (Option Nat)) (me n : Int) (next : Nat) (rows : List (List Rec)) (m : Dk) (x : Rec) (er : Int) (r : Nat × Int × Dk) (e : Ending) (w' : World) : Prop :=
  if er = 0 then (if r.2.1 = 0 then e = .returned (.tuple #[.int .i64 x.num, .int .i64 0]) ∧ KeepStep w w' base S D N K z wv rs me n r.1 (addAll rows [x]) r.2.2
    else e = .returned (.tuple #[.int .i64 0, .int .i64 r.2.1]) ∧ KeepStep w w' base S D N K z wv rs me n next rows r.2.2)
  else e = .returned (.tuple #[.int .i64 0, .int .i64 er]) ∧ Ext w w'
set_option maxHeartbeats 400000 in
set_option maxRecDepth 100000 in
theorem Add_nil (text : ByteArray) (hour : Int) (w : World) : Calls Tryz.prog 40 #[.pointer none, .string text, .int .i64 hour] w fun e w' => e = .returned (.tuple #[.int .i64 0, .int .i64 3]) ∧ w' = w := by
  go_enter Tryz.func40, Tryz.ntmps40
  go_wp2
  go_ret2
  exact ⟨rfl, rfl⟩
set_option maxHeartbeats 800000 in
set_option maxRecDepth 100000 in
theorem Add_any {B : Nat} {w : World} {base S D N K z : Nat} {wv : Value} {rs : List (Option Nat)} {vs : List Value} {me : Nat} {n : Int} {next : Nat} {rows : List (List Rec)} {m : Dk} (hL : Laid B w) (h : Stn w base S D N K z wv rs vs (me : Int) n next rows m) (hB : B ≤ base)
    (own : List Rec) (hown : rows[me]? = some own) (text : ByteArray) (hour : Int) (hme : me < 5) (hn : 0 ≤ n ∧ n ≤ 5) (htx : text.size ≤ 1000000)
    (hnext : next ≤ 1000000) (hsz : (titleB me n ++ letterB [⟨me, own.length + 1, hour, text⟩]).size ≤ 1000000) (hwl : m.writes.length + (piecesL (titleB me n ++ letterB [⟨me, own.length + 1, hour, text⟩]).data.toList).length ≤ 1000000) (hrows : ∀ r ∈ rows, r.length ≤ 100000) :
    Calls Tryz.prog 40 #[.pointer (some ⟨S, 0, none⟩), .string text, .int .i64 hour] w (AddPost w base S D N K z wv rs me n next rows m ⟨me, own.length + 1, hour, text⟩ (addE own text hour) (saveP z m next (titleB me n ++ letterB [⟨me, own.length + 1, hour, text⟩]).data.toList)) := by
  have hol := hrows own (List.mem_of_getElem? hown)
  obtain ⟨r, hr⟩ : ∃ r, rs[me]? = some r := ⟨rs[me]'(by rw [h.st.books.five.ls]; exact hme), by simp⟩
  obtain ⟨v, hv⟩ : ∃ v, vs[me]? = some v := ⟨vs[me]'(by rw [h.st.books.five.lv]; exact hme), by simp⟩
  have hsl := (h.st.books.five.row me r v own hr hv hown).slR h.st.books.five.le (by omega)
  have k1 := h.st.cme
  have kv := h.st.books.cell me v hv
  obtain ⟨ao, cap, rfl, hc⟩ := hsl.open
  generalize hq : saveP z m next (titleB me n ++ letterB [⟨me, own.length + 1, hour, text⟩]).data.toList = q
  obtain ⟨er, her⟩ : ∃ er, addE own text hour = er := ⟨_, rfl⟩
  rw [her]
  have HER := Lib.hid her
  have HC := Lib.hid hc
  have H := Lib.hid h
  have HL := Lib.hid hL
  have HR := Lib.hid hrows
  have HQ := Lib.hid hq
  have HZ := Lib.hid (And.intro hsz hwl)
  have hm5 : (me : Int) < 5 := by omega
  have hm0 : (0 : Int) ≤ (me : Int) := by omega
  have hw1 : IntKind.i64.wrap ((own.length : Int) + 1) = own.length + 1 := IntWalk.i64_in _ (by omega)
  clear hc h hL hrows hq her hsz hwl hr hv hown hsl
  go_enter Tryz.func40, Tryz.ntmps40
  go_wp2_with fail
  go_quiet (fail)
  have hEq := below_drewN (Below.refl w.heap.size w) nq
  have k1' := Ext.keep hEq k1
  have HEq := Lib.hid hEq
  generalize w.drewN nq = W at HEq k1' ⊢
  clear k1 kv hEq
  go_wp2_with fail
  have hE1 := Ext.alloc W (.cells #[.int .i64 (me : Int), .int .i64 ((own.length : Int) + 1), .int .i64 hour, .string text] 49)
  have hbx := BoxR.new W ⟨(me : Int), (own.length : Int) + 1, hour, text⟩
  have HE1 := Lib.hid (Ext.trans HEq.out hE1)
  have HBx := Lib.hid hbx
  clear hE1 hbx k1'
  simp only at HBx
  generalize W.alloc (.cells #[.int .i64 (me : Int), .int .i64 ((own.length : Int) + 1), .int .i64 hour, .string text] 49) = W1 at HE1 HBx ⊢
  refine (written_any text W1).mono ?_
  rintro e W2 ⟨rfl, hE2⟩
  have HE2 := Lib.hid (Ext.trans HE1.out hE2)
  have HB2 := Lib.hid (BoxR.ext HBx.out hE2)
  clear hE2 HBx
  have her := HER.out
  have b0 := HB2.out.c0
  have b1 := HB2.out.c1
  have b2 := HB2.out.c2
  have b3 := HB2.out.c3
  simp only at b0 b1 b2 b3
  unfold addE at her
  cases hwr : writtenB text
  · rw [if_pos (.inl hwr)] at her
    subst her
    clear hwr
    go_wp2
    go_ret2
    unfold AddPost
    rw [if_neg (by decide)]
    exact ⟨rfl, HE2.out⟩
  cases hin : inB hour 0 1000000
  · rw [if_pos (.inr hin)] at her
    subst her
    have HIn := Lib.hid hin
    clear hwr hin
    go_wp2_with (go_at_call 91; refine (in_any _ _ _ _).mono ?_; rw [HIn.out]; rintro e w' ⟨rfl, rfl⟩)
    go_ret2
    unfold AddPost
    rw [if_neg (by decide)]
    exact ⟨rfl, HE2.out⟩
  rw [if_neg (by rintro (q | q); rw [hwr] at q; cases q; rw [hin] at q; cases q)] at her
  have HIn := Lib.hid hin
  clear hwr
  clear hin
  by_cases hl0 : own.length = 0
  · rw [if_neg (by omega), if_neg (by omega)] at her
    subst her
    have Hl0 := Lib.hid hl0
    have hd : decide (0 < own.length) = false := by simp [hl0]
    have hd2 : ((own.length : Int) == 400) = false := by simp; omega
    clear hl0
    go_wp2_with (go_at_call 91; refine (in_any _ _ _ _).mono ?_; rw [HIn.out]; rintro e w' ⟨rfl, rfl⟩)
    have hE3 := Ext.trans HE2.out (Ext.alloc W2 (.cells #[.int .i64 (me : Int), .int .i64 ((own.length : Int) + 1), .int .i64 hour, .string text] 49))
    have hsl3 : SlR (W2.alloc (.cells #[.int .i64 (me : Int), .int .i64 ((own.length : Int) + 1), .int .i64 hour, .string text] 49)) (.slice (some ⟨W2.heap.size, 0, none⟩) 1 1) [⟨(me : Int), (own.length : Int) + 1, hour, text⟩] :=
      .inr ⟨W2.heap.size, 0, 1, rfl, Nat.le_refl _, by unfold maxLen; omega, by simp, fun j u hu => by
        have := cells_new W2 (flat [(⟨(me : Int), (own.length : Int) + 1, hour, text⟩ : Rec)]) 49 W2.heap.size rfl j u hu
        rw [addr_add] at this
        rw [Nat.zero_add]
        exact this⟩
    have hz2 := HE2.out.size
    have hz1 := HEq.out.size
    have hih := (inB_iff _ _ _).1 HIn.out
    have hkp := keep_any (HL.out.ext hE3) (H.out.ext hE3) hB _ [⟨(me : Int), (own.length : Int) + 1, hour, text⟩] hsl3 (fun a l c e => by cases e; exact stnS_lt H.out hz2) (fun x hx => by rw [List.mem_singleton.1 hx]; show 0 ≤ (me : Int) ∧ (me : Int) < 5; omega)
      (fun x hx => by rw [List.mem_singleton.1 hx]; exact ⟨by show -9223372036854775808 ≤ (me : Int) ∧ (me : Int) ≤ 9223372036854775807; omega, by show -9223372036854775808 ≤ (own.length : Int) + 1 ∧ (own.length : Int) + 1 ≤ 9223372036854775807; omega, by show -9223372036854775808 ≤ hour ∧ hour ≤ 9223372036854775807; omega, htx⟩) (by simp) (by omega) hn hnext HZ.out.1 HZ.out.2 HR.out
    rw [HQ.out] at hkp
    have HE3 := Lib.hid hE3
    have HKP := Lib.hid hkp
    clear hE3 hsl3 hkp
    refine HKP.out.mono ?_
    rintro e W4 ⟨rfl, hk⟩
    have hbx : ¬ stnS S D N K wv rs W.heap.size := stnS_lt H.out hz1
    have b1' : W4.cell? ⟨W.heap.size, 1, none⟩ = some (.int .i64 ((own.length : Int) + 1)) := by
      have e1 := (Ext.alloc W2 (.cells #[.int .i64 (me : Int), .int .i64 ((own.length : Int) + 1), .int .i64 hour, .string text] 49)).keep b1
      have hl := World.block_lt_of_cell? _ _ e1
      split at hk
      · exact (hk.fr.cell hl hbx).trans e1
      · exact (hk.fr.cell hl hbx).trans e1
    have HK := Lib.hid hk
    clear hk b0 b1 b2 b3
    obtain ⟨nx, e2, m'⟩ := q
    by_cases he : e2 = 0
    · subst he
      go_wp2
      go_ret2
      unfold AddPost
      rw [if_pos rfl, if_pos rfl]
      have := HK.out
      simp only [if_true] at this
      exact ⟨rfl, this.ofExt HE3.out⟩
    · have hne : (e2 != 0) = true := by simpa using he
      have HNe := Lib.hid he
      clear he
      go_wp2
      go_ret2
      unfold AddPost
      rw [if_pos rfl, if_neg HNe.out]
      have := HK.out
      rw [if_neg HNe.out] at this
      exact ⟨rfl, this.ofExt HE3.out⟩
  · obtain ⟨p, hp⟩ : ∃ p, own[own.length - 1]? = some p := ⟨own[own.length - 1]'(by omega), by simp⟩
    have hpl : own.getLast?.getD default = p := by rw [List.getLast?_eq_getElem?, hp]; rfl
    obtain ⟨b, off, rfl, hbl, -, -, e2, -⟩ := HC.out _ p hp
    have e2' := HE2.out.keep e2
    rw [hpl] at her
    have hd : decide (0 < own.length) = true := by simp; omega
    have hwm : IntKind.i64.wrap ((own.length : Int) - 1) = (own.length : Int) - 1 := IntWalk.i64_in _ (by omega)
    have hm0' : (0 : Int) ≤ (own.length : Int) - 1 := by omega
    have hmt : ((own.length : Int) - 1).toNat = own.length - 1 := by omega
    clear e2 hp hpl
    by_cases hh : hour < p.hr
    · rw [if_pos ⟨by omega, hh⟩] at her
      subst her
      have hd3 : decide (hour < p.hr) = true := by simp [hh]
      go_wp2_with (go_at_call 91; refine (in_any _ _ _ _).mono ?_; rw [HIn.out]; rintro e w' ⟨rfl, rfl⟩)
      go_ret2
      unfold AddPost
      rw [if_neg (by decide)]
      exact ⟨rfl, HE2.out⟩
    · rw [if_neg (fun q => hh q.2)] at her
      have hd3 : decide (hour < p.hr) = false := by simp [hh]
      by_cases h4 : own.length = 400
      · rw [if_pos h4] at her
        subst her
        have hd2 : ((own.length : Int) == 400) = true := by simp [h4]
        clear h4
        go_wp2_with (go_at_call 91; refine (in_any _ _ _ _).mono ?_; rw [HIn.out]; rintro e w' ⟨rfl, rfl⟩)
        go_ret2
        unfold AddPost
        rw [if_neg (by decide)]
        exact ⟨rfl, HE2.out⟩
      · rw [if_neg h4] at her
        subst her
        have hd2 : ((own.length : Int) == 400) = false := by simp; omega
        go_wp2_with (go_at_call 91; refine (in_any _ _ _ _).mono ?_; rw [HIn.out]; rintro e w' ⟨rfl, rfl⟩)
        have hE3 := Ext.trans HE2.out (Ext.alloc W2 (.cells #[.int .i64 (me : Int), .int .i64 ((own.length : Int) + 1), .int .i64 hour, .string text] 49))
        have hsl3 : SlR (W2.alloc (.cells #[.int .i64 (me : Int), .int .i64 ((own.length : Int) + 1), .int .i64 hour, .string text] 49)) (.slice (some ⟨W2.heap.size, 0, none⟩) 1 1) [⟨(me : Int), (own.length : Int) + 1, hour, text⟩] :=
          .inr ⟨W2.heap.size, 0, 1, rfl, Nat.le_refl _, by unfold maxLen; omega, by simp, fun j u hu => by
            have := cells_new W2 (flat [(⟨(me : Int), (own.length : Int) + 1, hour, text⟩ : Rec)]) 49 W2.heap.size rfl j u hu
            rw [addr_add] at this
            rw [Nat.zero_add]
            exact this⟩
        have hz2 := HE2.out.size
        have hz1 := HEq.out.size
        have hih := (inB_iff _ _ _).1 HIn.out
        have hkp := keep_any (HL.out.ext hE3) (H.out.ext hE3) hB _ [⟨(me : Int), (own.length : Int) + 1, hour, text⟩] hsl3 (fun a l c e => by cases e; exact stnS_lt H.out hz2) (fun x hx => by rw [List.mem_singleton.1 hx]; show 0 ≤ (me : Int) ∧ (me : Int) < 5; omega)
          (fun x hx => by rw [List.mem_singleton.1 hx]; exact ⟨by show -9223372036854775808 ≤ (me : Int) ∧ (me : Int) ≤ 9223372036854775807; omega, by show -9223372036854775808 ≤ (own.length : Int) + 1 ∧ (own.length : Int) + 1 ≤ 9223372036854775807; omega, by show -9223372036854775808 ≤ hour ∧ hour ≤ 9223372036854775807; omega, htx⟩) (by simp) (by omega) hn hnext HZ.out.1 HZ.out.2 HR.out
        rw [HQ.out] at hkp
        have HE3 := Lib.hid hE3
        have HKP := Lib.hid hkp
        clear hE3 hsl3 hkp
        refine HKP.out.mono ?_
        rintro e W4 ⟨rfl, hk⟩
        have hbx : ¬ stnS S D N K wv rs W.heap.size := stnS_lt H.out hz1
        have b1' : W4.cell? ⟨W.heap.size, 1, none⟩ = some (.int .i64 ((own.length : Int) + 1)) := by
          have e1 := (Ext.alloc W2 (.cells #[.int .i64 (me : Int), .int .i64 ((own.length : Int) + 1), .int .i64 hour, .string text] 49)).keep b1
          have hl := World.block_lt_of_cell? _ _ e1
          split at hk
          · exact (hk.fr.cell hl hbx).trans e1
          · exact (hk.fr.cell hl hbx).trans e1
        have HK := Lib.hid hk
        clear hk b0 b1 b2 b3
        obtain ⟨nx, e2, m'⟩ := q
        by_cases he : e2 = 0
        · subst he
          go_wp2
          go_ret2
          unfold AddPost
          rw [if_pos rfl, if_pos rfl]
          have := HK.out
          simp only [if_true] at this
          exact ⟨rfl, this.ofExt HE3.out⟩
        · have hne : (e2 != 0) = true := by simpa using he
          have HNe := Lib.hid he
          clear he
          go_wp2
          go_ret2
          unfold AddPost
          rw [if_pos rfl, if_neg HNe.out]
          have := HK.out
          rw [if_neg HNe.out] at this
          exact ⟨rfl, this.ofExt HE3.out⟩
end Go.Proofs.YtgjahnomafpnfaaGreatDoor

/- (*Station).Greeting; IdOf. -/
namespace Go.Proofs.YtgjahnomafpnfaaGreatDoor
open Go.RowKit
/-- How many records of each station there are. -/
def lensB (rows : List (List Rec)) : List Int := rows.map fun r => (r.length : Int)
set_option maxHeartbeats 400000 in
set_option maxRecDepth 100000 in
theorem Greeting_nil (w : World) : Calls Tryz.prog 34 #[.pointer none] w fun e w' => e = .returned (.string ⟨#[]⟩) ∧ w' = w := by
  go_enter Tryz.func34, Tryz.ntmps34
  go_wp2
  go_ret
  exact ⟨rfl, rfl⟩
set_option maxHeartbeats 800000 in
set_option maxRecDepth 100000 in
theorem Greeting_any {B' : Nat} {w : World} (hL : Laid B' w) (B base : Nat) (d : Option Addr) (me next : Int) (n : Nat) (rs : List (Option Nat)) (vs : List Value) (rows : List (List Rec)) (h : StX w base B d me n next rs vs rows) (hn : n ≤ 5) (hrows : ∀ r ∈ rows, r.length ≤ 1000000) :
    Calls Tryz.prog 34 #[.pointer (some ⟨B, 0, none⟩)] w fun e w' => e = .returned (.string (greetB ((lensB rows).take n))) ∧ Ext w w' := by
  obtain ⟨r0, r1, r2, r3, r4, rfl⟩ := len5 h.books.five.lr
  have hh := Have_any B base d me n next rs vs _ w h
  have HH := Lib.hid hh
  have H := Lib.hid h
  have HL := Lib.hid hL
  have HR := Lib.hid hrows
  have c2 := h.cn
  have hlt := h.books.lt
  clear hh h hL hrows
  go_enter Tryz.func34, Tryz.ntmps34
  go_wp2_with fail
  refine HH.out.mono ?_
  rintro e w1 ⟨rfl, hb⟩
  have hE := hb
  have c2' := (Ext.keep (w := w) hE c2)
  have hE2 := Ext.alloc w1 (.cells #[.int .i64 r0.length, .int .i64 r1.length, .int .i64 r2.length, .int .i64 r3.length, .int .i64 r4.length] 26)
  have c2'' := hE2.keep c2'
  have HE := Lib.hid (Ext.trans hE hE2)
  have hcell : ∀ (j : Nat) g, ((lensB [r0, r1, r2, r3, r4]).take n)[j]? = some g → (w1.alloc (.cells #[.int .i64 r0.length, .int .i64 r1.length, .int .i64 r2.length, .int .i64 r3.length, .int .i64 r4.length] 26)).cell? ⟨w1.heap.size, 0 + j, none⟩ = some (.int .i64 g) := by
    intro j g hg
    rw [Nat.zero_add, World.cell?_alloc_new]
    rw [List.getElem?_take] at hg
    split at hg
    · match j, hg with
      | 0, hg => cases hg; rfl
      | 1, hg => cases hg; rfl
      | 2, hg => cases hg; rfl
      | 3, hg => cases hg; rfl
      | 4, hg => cases hg; rfl
    · cases hg
  have hll : ((lensB [r0, r1, r2, r3, r4]).take n).length = n := by simp [lensB]; omega
  have hsl : SlI (w1.alloc (.cells #[.int .i64 r0.length, .int .i64 r1.length, .int .i64 r2.length, .int .i64 r3.length, .int .i64 r4.length] 26)) (.slice (some ⟨w1.heap.size, 0, none⟩) n 5) ((lensB [r0, r1, r2, r3, r4]).take n) :=
    .inr ⟨w1.heap.size, 0, 5, by rw [hll], by omega, by decide, by simp, hcell⟩
  have hgt := Lib.hid (greetText_any (HL.out.ext HE.out) _ _ hsl (fun g hg => by
    have hg' := List.mem_of_mem_take hg
    obtain ⟨r, hr, rfl⟩ := List.mem_map.1 hg'
    have := HR.out r hr
    omega) (by omega))
  have hnn : (n : Int) ≤ 5 := by omega
  have hn0 : (0 : Int) ≤ (n : Int) := by omega
  clear hcell hsl hll hb hE hE2 c2'
  simp only [stockV, List.getD_cons_zero, List.getD_cons_succ]
  go_wp2_with fail
  refine hgt.out.mono ?_
  rintro e w3 ⟨rfl, hE3⟩
  go_wp2
  go_ret
  exact ⟨rfl, HE.out.trans hE3⟩
/-- A record's Id. -/
def idB (s n : Int) : Int := if inB s 0 4 && inB n 1 400 then 5 * n + s else 0
set_option maxHeartbeats 400000 in
set_option maxRecDepth 100000 in
theorem IdOf_any (s n : Int) (w : World) : Calls Tryz.prog 61 #[.agg #[.int .i64 s, .int .i64 n]] w fun e w' => e = .returned (.int .i64 (idB s n)) ∧ Ext w w' := by
  have hE := Ext.alloc w (.cells #[.int .i64 s, .int .i64 n] 94)
  have HE := Lib.hid hE
  clear hE
  cases h1 : inB s 0 4
  · have H1 := Lib.hid h1
    clear h1
    go_enter Tryz.func61, Tryz.ntmps61
    go_wp2_with (go_at_call 91; refine (in_any _ _ _ _).mono ?_; rw [H1.out]; rintro e w' ⟨rfl, rfl⟩)
    go_ret
    exact ⟨ret_int (by simp [idB, H1.out]), HE.out⟩
  · cases h2 : inB n 1 400
    · have H1 := Lib.hid h1
      have H2 := Lib.hid h2
      clear h1 h2
      go_enter Tryz.func61, Tryz.ntmps61
      go_wp2_with (go_at_call 91; refine (in_any _ _ _ _).mono ?_; (first | rw [H1.out] | rw [H2.out]); rintro e w' ⟨rfl, rfl⟩)
      go_ret
      exact ⟨ret_int (by simp [idB, H1.out, H2.out]), HE.out⟩
    · have hb1 := (inB_iff _ _ _).1 h1
      have hb2 := (inB_iff _ _ _).1 h2
      have H1 := Lib.hid h1
      have H2 := Lib.hid h2
      clear h1 h2
      have hw1 : IntKind.i64.wrap (5 * n) = 5 * n := IntWalk.i64_in _ (by omega)
      have hw2 : IntKind.i64.wrap (5 * n + s) = 5 * n + s := IntWalk.i64_in _ (by omega)
      go_enter Tryz.func61, Tryz.ntmps61
      go_wp2_with (go_at_call 91; refine (in_any _ _ _ _).mono ?_; (first | rw [H1.out] | rw [H2.out]); rintro e w' ⟨rfl, rfl⟩)
      go_ret
      exact ⟨ret_int (by simp [idB, H1.out, H2.out]), HE.out⟩
end Go.Proofs.YtgjahnomafpnfaaGreatDoor
