/- Lemmas and walks that this claim needs, in one text out of several; each states its own conditions. -/
import Derived.Test.YtgjahnomafpnfaaGreatDoorMB4
import Derived.Test.YtgjahnomafpnfaaGreatDoorMB5
import Derived.Lib.ItoaLen
import Derived.Lib.SmallJoins
import Derived.Lib.SlicesS
import Derived.Test.YtgjahnomafpnfaaGreatDoorMB3
import Derived.Recover
import Derived.Lib.Hide
import Derived.Lib.SplitLaws
import Derived.Defers
set_option linter.unusedVariables false
set_option linter.unusedSimpArgs false
/- The library's tables; Itoa; line. -/
namespace Go.Proofs.YtgjahnomafpnfaaGreatDoor
open Go.RowKit
def errOk (v : Value) : Prop := v = .nilIface ∨ ∃ te pe, v = .iface te pe
/-- What the library's variables hold; B: below it nothing is turned. -/
structure Laid (B : Nat) (w : World) : Prop where
  pow : Lib.TabIs Tryz.prog w "internal/strconv.uint64pow10" .u64 Lib.pow10Tab
  max : ∃ m, w.cell? ⟨0, 0, none⟩ = some (.int .i64 m)
  syn : ∃ ev, w.cell? ⟨2, 0, none⟩ = some ev ∧ errOk ev
  rng : ∃ ev, w.cell? ⟨3, 0, none⟩ = some ev ∧ errOk ev
  eight : 4 ≤ B
  le : B ≤ w.heap.size
theorem powAt : ∃ g, Tryz.prog.globalNamed "internal/strconv.uint64pow10" = some g ∧ g < 4 := ⟨1, by kernel_rfl, by decide⟩
theorem Laid.keep {B : Nat} {w w' : World} (h : Laid B w) (hb : Below B w w') : Laid B w' := by
  have h8 := h.eight
  refine ⟨?_, ?_, ?_, ?_, h8, Nat.le_trans h.le hb.size⟩
  · obtain ⟨g, hg, hlt⟩ := powAt
    have := h.pow
    unfold Lib.TabIs World.var? at this ⊢
    rw [hg] at this ⊢
    simp only [Option.bind_some] at this ⊢
    rw [hb.block g (by omega)]
    exact this
  · obtain ⟨m, hm⟩ := h.max
    exact ⟨m, (hb.cell (p := ⟨0, 0, none⟩) (by show 0 < B; omega)).trans hm⟩
  · obtain ⟨m, hm, he⟩ := h.syn
    exact ⟨m, (hb.cell (p := ⟨2, 0, none⟩) (by show 2 < B; omega)).trans hm, he⟩
  · obtain ⟨m, hm, he⟩ := h.rng
    exact ⟨m, (hb.cell (p := ⟨3, 0, none⟩) (by show 3 < B; omega)).trans hm, he⟩
theorem Laid.ext {B : Nat} {w w' : World} (h : Laid B w) (hE : Ext w w') : Laid B w' := h.keep (hE.mono h.le)
theorem ext_grow (w : World) (k : Nat) (os : Array Obj) : Ext w (Sort.grow (w.drewN k) os) :=
  ⟨rfl, rfl, rfl, by simp [Sort.grow, World.drewN], fun j hj => by
    show (w.heap ++ os)[j]? = w.heap[j]?
    rw [Array.getElem?_append_left hj]⟩
/-- A number's digits. -/
def itoaB (n : Int) : ByteArray := ⟨(Lib.itoa n).toArray⟩
theorem Itoa_any {B : Nat} {w : World} (h : Laid B w) (n : Int) (h0 : -9223372036854775808 ≤ n) (h1 : n ≤ 9223372036854775807) : Calls Tryz.prog 74 #[.int .i64 n] w fun e w' => e = .returned (.string (itoaB n)) ∧ Ext w w' := by
  refine (Tryz.strconv_Itoa n h0 h1 w h.pow).mono ?_
  rintro e w' ⟨rfl, k, os, rfl⟩
  exact ⟨rfl, ext_grow w k os⟩
theorem itoaB_size (n : Int) (h0 : -9223372036854775808 ≤ n) (h1 : n ≤ 9223372036854775807) : (itoaB n).size ≤ 21 := by
  have := Lib.itoa_length_le n h0 h1
  show (Lib.itoa n).toArray.size ≤ 21
  simpa using this
def sp : ByteArray := ⟨#[32]⟩
/-- A record's line. -/
def lineB (x : Rec) : ByteArray := itoaB x.st ++ sp ++ itoaB x.num ++ sp ++ itoaB x.hr ++ sp ++ x.txt
set_option maxHeartbeats 800000 in
set_option maxRecDepth 100000 in
theorem line_any {B : Nat} {w : World} (h : Laid B w) (x : Rec) (h0 : -9223372036854775808 ≤ x.st ∧ x.st ≤ 9223372036854775807) (h1 : -9223372036854775808 ≤ x.num ∧ x.num ≤ 9223372036854775807) (h2 : -9223372036854775808 ≤ x.hr ∧ x.hr ≤ 9223372036854775807) (ht : x.txt.size ≤ 1000000) :
    Calls Tryz.prog 112 #[rv x] w fun e w' => e = .returned (.string (lineB x)) ∧ Ext w w' := by
  obtain ⟨st, num, hr, txt⟩ := x
  simp only at h0 h1 h2 ht
  have z0 := itoaB_size st h0.1 h0.2
  have z1 := itoaB_size num h1.1 h1.2
  have z2 := itoaB_size hr h2.1 h2.2
  have hsp : sp.size = 1 := rfl
  have hE : Ext w (w.alloc (.cells #[.int .i64 st, .int .i64 num, .int .i64 hr, .string txt] 49)) := Ext.alloc _ _
  have hL := h.ext hE
  obtain ⟨c0, c1, c2, c3⟩ := rec_new (y := ⟨st, num, hr, txt⟩) (Below.refl _ (w.alloc (.cells #[.int .i64 st, .int .i64 num, .int .i64 hr, .string txt] 49)))
  simp only at c0 c1 c2 c3
  clear h
  go_enter Tryz.func112, Tryz.ntmps112
  go_wp2
  generalize (w.alloc (.cells #[.int .i64 st, .int .i64 num, .int .i64 hr, .string txt] 49)) = W at hE hL c0 c1 c2 c3 ⊢
  refine wp_drawn 18 (by kernel_rfl) (by kernel_rfl) (fun i => match i with
    | 2 => some fun v _ => v = .string (itoaB st)
    | 3 => some fun v _ => v = .string (itoaB st ++ sp)
    | 6 => some fun v _ => v = .string (itoaB num)
    | 7 => some fun v _ => v = .string (itoaB st ++ sp ++ itoaB num)
    | 8 => some fun v _ => v = .string (itoaB st ++ sp ++ itoaB num ++ sp)
    | 11 => some fun v _ => v = .string (itoaB hr)
    | 12 => some fun v _ => v = .string (itoaB st ++ sp ++ itoaB num ++ sp ++ itoaB hr)
    | 13 => some fun v _ => v = .string (itoaB st ++ sp ++ itoaB num ++ sp ++ itoaB hr ++ sp)
    | 16 => some fun v _ => v = .string (itoaB st ++ sp ++ itoaB num ++ sp ++ itoaB hr ++ sp ++ txt)
    | 17 => some fun v _ => v = .string (itoaB st ++ sp ++ itoaB num ++ sp ++ itoaB hr ++ sp ++ txt)
    | _ => none) ?_ ?_
  · intro j φ hφ v w1 w2 h1 h2
    split at hφ <;> cases hφ
    all_goals exact h1
  intro ν
  simp only [List.take_succ_cons, List.take_zero]
  iterate 2 (refine Seq.pure ?_ rfl (fun w' hw hf => ?_) ?_; rotate_left; (· (have k0 := hw.keep (w := World.drew _) c0; have k1 := hw.keep (w := World.drew _) c1; have k2 := hw.keep (w := World.drew _) c2; have k3 := hw.keep (w := World.drew _) c3; unfold pureG; go_simp; with_reducible rfl)); simp only [Act.put, List.setIfInBounds_toArray, List.set_cons_zero, List.set_cons_succ, Nat.reduceAdd, Nat.zero_add])
  refine Seq.eff _ rfl (fun w' hw hf => giveG_of rfl (by simp) fun K hK => ?_) ?_
  · go_simp
    refine (Itoa_any (hL.ext ((Ext.drew W).trans hw)) st h0.1 h0.2).mono ?_
    rintro e w2 ⟨rfl, hb⟩
    exact hK _ _ ⟨rfl, hb⟩
  simp only [Act.put, List.setIfInBounds_toArray, List.set_cons_zero, List.set_cons_succ, Nat.reduceAdd, Nat.zero_add]
  refine Seq.eff _ rfl (fun w' hw hf => giveG_of rfl (by simp) fun K hK => ?_) ?_
  · have h2 := hf 2 _ rfl (by kernel_rfl)
    simp only [h2] at hK ⊢
    go_simp
    first | (rw [if_neg (by omega)]; exact hK _ _ ⟨rfl, Ext.refl _⟩) | exact hK _ _ ⟨rfl, Ext.refl _⟩
  simp only [Act.put, List.setIfInBounds_toArray, List.set_cons_zero, List.set_cons_succ, Nat.reduceAdd, Nat.zero_add]
  iterate 2 (refine Seq.pure ?_ rfl (fun w' hw hf => ?_) ?_; rotate_left; (· (have k0 := hw.keep (w := World.drew _) c0; have k1 := hw.keep (w := World.drew _) c1; have k2 := hw.keep (w := World.drew _) c2; have k3 := hw.keep (w := World.drew _) c3; unfold pureG; go_simp; with_reducible rfl)); simp only [Act.put, List.setIfInBounds_toArray, List.set_cons_zero, List.set_cons_succ, Nat.reduceAdd, Nat.zero_add])
  refine Seq.eff _ rfl (fun w' hw hf => giveG_of rfl (by simp) fun K hK => ?_) ?_
  · go_simp
    refine (Itoa_any (hL.ext ((Ext.drew W).trans hw)) num h1.1 h1.2).mono ?_
    rintro e w2 ⟨rfl, hb⟩
    exact hK _ _ ⟨rfl, hb⟩
  simp only [Act.put, List.setIfInBounds_toArray, List.set_cons_zero, List.set_cons_succ, Nat.reduceAdd, Nat.zero_add]
  refine Seq.eff _ rfl (fun w' hw hf => giveG_of rfl (by simp) fun K hK => ?_) ?_
  · have h3 := hf 3 _ rfl (by kernel_rfl)
    have h6 := hf 6 _ rfl (by kernel_rfl)
    simp only [h3, h6] at hK ⊢
    go_simp
    first | (rw [if_neg (by omega)]; exact hK _ _ ⟨rfl, Ext.refl _⟩) | exact hK _ _ ⟨rfl, Ext.refl _⟩
  simp only [Act.put, List.setIfInBounds_toArray, List.set_cons_zero, List.set_cons_succ, Nat.reduceAdd, Nat.zero_add]
  refine Seq.eff _ rfl (fun w' hw hf => giveG_of rfl (by simp) fun K hK => ?_) ?_
  · have h7 := hf 7 _ rfl (by kernel_rfl)
    simp only [h7] at hK ⊢
    go_simp
    first | (rw [if_neg (by omega)]; exact hK _ _ ⟨rfl, Ext.refl _⟩) | exact hK _ _ ⟨rfl, Ext.refl _⟩
  simp only [Act.put, List.setIfInBounds_toArray, List.set_cons_zero, List.set_cons_succ, Nat.reduceAdd, Nat.zero_add]
  iterate 2 (refine Seq.pure ?_ rfl (fun w' hw hf => ?_) ?_; rotate_left; (· (have k0 := hw.keep (w := World.drew _) c0; have k1 := hw.keep (w := World.drew _) c1; have k2 := hw.keep (w := World.drew _) c2; have k3 := hw.keep (w := World.drew _) c3; unfold pureG; go_simp; with_reducible rfl)); simp only [Act.put, List.setIfInBounds_toArray, List.set_cons_zero, List.set_cons_succ, Nat.reduceAdd, Nat.zero_add])
  refine Seq.eff _ rfl (fun w' hw hf => giveG_of rfl (by simp) fun K hK => ?_) ?_
  · go_simp
    refine (Itoa_any (hL.ext ((Ext.drew W).trans hw)) hr h2.1 h2.2).mono ?_
    rintro e w2 ⟨rfl, hb⟩
    exact hK _ _ ⟨rfl, hb⟩
  simp only [Act.put, List.setIfInBounds_toArray, List.set_cons_zero, List.set_cons_succ, Nat.reduceAdd, Nat.zero_add]
  refine Seq.eff _ rfl (fun w' hw hf => giveG_of rfl (by simp) fun K hK => ?_) ?_
  · have h8 := hf 8 _ rfl (by kernel_rfl)
    have h11 := hf 11 _ rfl (by kernel_rfl)
    simp only [h8, h11] at hK ⊢
    go_simp
    first | (rw [if_neg (by omega)]; exact hK _ _ ⟨rfl, Ext.refl _⟩) | exact hK _ _ ⟨rfl, Ext.refl _⟩
  simp only [Act.put, List.setIfInBounds_toArray, List.set_cons_zero, List.set_cons_succ, Nat.reduceAdd, Nat.zero_add]
  refine Seq.eff _ rfl (fun w' hw hf => giveG_of rfl (by simp) fun K hK => ?_) ?_
  · have h12 := hf 12 _ rfl (by kernel_rfl)
    simp only [h12] at hK ⊢
    go_simp
    first | (rw [if_neg (by omega)]; exact hK _ _ ⟨rfl, Ext.refl _⟩) | exact hK _ _ ⟨rfl, Ext.refl _⟩
  simp only [Act.put, List.setIfInBounds_toArray, List.set_cons_zero, List.set_cons_succ, Nat.reduceAdd, Nat.zero_add]
  iterate 2 (refine Seq.pure ?_ rfl (fun w' hw hf => ?_) ?_; rotate_left; (· (have k0 := hw.keep (w := World.drew _) c0; have k1 := hw.keep (w := World.drew _) c1; have k2 := hw.keep (w := World.drew _) c2; have k3 := hw.keep (w := World.drew _) c3; unfold pureG; go_simp; with_reducible rfl)); simp only [Act.put, List.setIfInBounds_toArray, List.set_cons_zero, List.set_cons_succ, Nat.reduceAdd, Nat.zero_add])
  refine Seq.eff _ rfl (fun w' hw hf => giveG_of rfl (by simp) fun K hK => ?_) ?_
  · have h13 := hf 13 _ rfl (by kernel_rfl)
    simp only [h13] at hK ⊢
    go_simp
    first | (rw [if_neg (by omega)]; exact hK _ _ ⟨rfl, Ext.refl _⟩) | exact hK _ _ ⟨rfl, Ext.refl _⟩
  simp only [Act.put, List.setIfInBounds_toArray, List.set_cons_zero, List.set_cons_succ, Nat.reduceAdd, Nat.zero_add]
  refine Seq.eff _ rfl (fun w' hw hf => giveG_of rfl (by simp) fun K hK => ?_) ?_
  · have h16 := hf 16 _ rfl (by kernel_rfl)
    simp only [h16] at hK ⊢
    go_simp
    first | (rw [if_neg (by omega)]; exact hK _ _ ⟨rfl, Ext.refl _⟩) | exact hK _ _ ⟨rfl, Ext.refl _⟩
  simp only [Act.put, List.setIfInBounds_toArray, List.set_cons_zero, List.set_cons_succ, Nat.reduceAdd, Nat.zero_add]
  refine Seq.nil fun w' hw hf => tail_none (by kernel_rfl) ?_
  have h17 := hf 17 _ (by omega) rfl
  rw [h17]
  go_wp2
  go_ret
  exact ⟨rfl, (hE.trans (Ext.drew W)).trans hw⟩
end Go.Proofs.YtgjahnomafpnfaaGreatDoor

/- title, greeting's text, letter's text. -/
namespace Go.Proofs.YtgjahnomafpnfaaGreatDoor
open Go.RowKit
def sStation : ByteArray := ⟨#[115, 116, 97, 116, 105, 111, 110, 32]⟩
def nl : ByteArray := ⟨#[10]⟩
def titleB (me n : Int) : ByteArray := sStation ++ itoaB me ++ sp ++ itoaB n ++ nl
set_option maxHeartbeats 800000 in
set_option maxRecDepth 100000 in
theorem title_any {B : Nat} {w : World} (h : Laid B w) (S : Nat) (me n : Int) (c1 : w.cell? ⟨S, 1, none⟩ = some (.int .i64 me)) (c2 : w.cell? ⟨S, 2, none⟩ = some (.int .i64 n))
    (h0 : -9223372036854775808 ≤ me ∧ me ≤ 9223372036854775807) (h1 : -9223372036854775808 ≤ n ∧ n ≤ 9223372036854775807) :
    Calls Tryz.prog 150 #[.pointer (some ⟨S, 0, none⟩)] w fun e w' => e = .returned (.string (titleB me n)) ∧ Ext w w' := by
  have z0 := itoaB_size me h0.1 h0.2
  have z1 := itoaB_size n h1.1 h1.2
  have hsp : sp.size = 1 := rfl
  have hss : sStation.size = 8 := rfl
  have hnl : nl.size = 1 := rfl
  go_enter Tryz.func150, Tryz.ntmps150
  go_wp2
  refine wp_drawn 15 (by kernel_rfl) (by kernel_rfl) (fun i => match i with
    | 4 => some fun v _ => v = .string (itoaB me)
    | 5 => some fun v _ => v = .string (sStation ++ itoaB me)
    | 6 => some fun v _ => v = .string (sStation ++ itoaB me ++ sp)
    | 11 => some fun v _ => v = .string (itoaB n)
    | 12 => some fun v _ => v = .string (sStation ++ itoaB me ++ sp ++ itoaB n)
    | 13 => some fun v _ => v = .string (titleB me n)
    | 14 => some fun v _ => v = .string (titleB me n)
    | _ => none) ?_ ?_
  · intro j φ hφ v w1 w2 h1 h2
    split at hφ <;> cases hφ
    all_goals exact h1
  intro ν
  simp only [List.take_succ_cons, List.take_zero]
  iterate 4 (refine Seq.pure ?_ rfl (fun w' hw hf => ?_) ?_; rotate_left; (· (have k1 := hw.keep (w := World.drew _) c1; have k2 := hw.keep (w := World.drew _) c2; unfold pureG; go_simp; with_reducible rfl)); simp only [Act.put, List.setIfInBounds_toArray, List.set_cons_zero, List.set_cons_succ, Nat.reduceAdd, Nat.zero_add])
  refine Seq.eff _ rfl (fun w' hw hf => giveG_of rfl (by simp) fun K hK => ?_) ?_
  · go_simp
    refine (Itoa_any (h.ext ((Ext.drew w).trans hw)) me h0.1 h0.2).mono ?_
    rintro e w2 ⟨rfl, hb⟩
    exact hK _ _ ⟨rfl, hb⟩
  simp only [Act.put, List.setIfInBounds_toArray, List.set_cons_zero, List.set_cons_succ, Nat.reduceAdd, Nat.zero_add]
  refine Seq.eff _ rfl (fun w' hw hf => giveG_of rfl (by simp) fun K hK => ?_) ?_
  · have h4 := hf 4 _ rfl (by kernel_rfl)
    simp only [h4] at hK ⊢
    go_simp
    first | (rw [if_neg (by omega)]; exact hK _ _ ⟨rfl, Ext.refl _⟩) | exact hK _ _ ⟨rfl, Ext.refl _⟩
  simp only [Act.put, List.setIfInBounds_toArray, List.set_cons_zero, List.set_cons_succ, Nat.reduceAdd, Nat.zero_add]
  refine Seq.eff _ rfl (fun w' hw hf => giveG_of rfl (by simp) fun K hK => ?_) ?_
  · have h5 := hf 5 _ rfl (by kernel_rfl)
    simp only [h5] at hK ⊢
    go_simp
    first | (rw [if_neg (by omega)]; exact hK _ _ ⟨rfl, Ext.refl _⟩) | exact hK _ _ ⟨rfl, Ext.refl _⟩
  simp only [Act.put, List.setIfInBounds_toArray, List.set_cons_zero, List.set_cons_succ, Nat.reduceAdd, Nat.zero_add]
  iterate 4 (refine Seq.pure ?_ rfl (fun w' hw hf => ?_) ?_; rotate_left; (· (have k1 := hw.keep (w := World.drew _) c1; have k2 := hw.keep (w := World.drew _) c2; unfold pureG; go_simp; with_reducible rfl)); simp only [Act.put, List.setIfInBounds_toArray, List.set_cons_zero, List.set_cons_succ, Nat.reduceAdd, Nat.zero_add])
  refine Seq.eff _ rfl (fun w' hw hf => giveG_of rfl (by simp) fun K hK => ?_) ?_
  · go_simp
    refine (Itoa_any (h.ext ((Ext.drew w).trans hw)) n h1.1 h1.2).mono ?_
    rintro e w2 ⟨rfl, hb⟩
    exact hK _ _ ⟨rfl, hb⟩
  simp only [Act.put, List.setIfInBounds_toArray, List.set_cons_zero, List.set_cons_succ, Nat.reduceAdd, Nat.zero_add]
  refine Seq.eff _ rfl (fun w' hw hf => giveG_of rfl (by simp) fun K hK => ?_) ?_
  · have h6 := hf 6 _ rfl (by kernel_rfl)
    have h11 := hf 11 _ rfl (by kernel_rfl)
    simp only [h6, h11] at hK ⊢
    go_simp
    first | (rw [if_neg (by omega)]; exact hK _ _ ⟨rfl, Ext.refl _⟩) | exact hK _ _ ⟨rfl, Ext.refl _⟩
  simp only [Act.put, List.setIfInBounds_toArray, List.set_cons_zero, List.set_cons_succ, Nat.reduceAdd, Nat.zero_add]
  refine Seq.eff _ rfl (fun w' hw hf => giveG_of rfl (by simp) fun K hK => ?_) ?_
  · have h12 := hf 12 _ rfl (by kernel_rfl)
    simp only [h12] at hK ⊢
    go_simp
    first | (rw [if_neg (by omega)]; exact hK _ _ ⟨rfl, Ext.refl _⟩) | exact hK _ _ ⟨rfl, Ext.refl _⟩
  simp only [Act.put, List.setIfInBounds_toArray, List.set_cons_zero, List.set_cons_succ, Nat.reduceAdd, Nat.zero_add]
  refine Seq.eff _ rfl (fun w' hw hf => giveG_of rfl (by simp) fun K hK => ?_) ?_
  · have h13 := hf 13 _ rfl (by kernel_rfl)
    simp only [h13] at hK ⊢
    go_simp
    exact hK _ _ ⟨rfl, Ext.refl _⟩
  simp only [Act.put, List.setIfInBounds_toArray, List.set_cons_zero, List.set_cons_succ, Nat.reduceAdd, Nat.zero_add]
  refine Seq.nil fun w' hw hf => tail_none (by kernel_rfl) ?_
  have h14 := hf 14 _ (by omega) rfl
  rw [h14]
  go_wp2
  go_ret
  exact ⟨rfl, (Ext.drew w).trans hw⟩
/-- A slice of numbers that can be read. -/
def SlI (w : World) (v : Value) (gs : List Int) : Prop :=
  (v = .slice none 0 0 ∧ gs = []) ∨ ∃ b off cap, v = .slice (some ⟨b, off, none⟩) gs.length cap ∧ gs.length ≤ cap ∧ cap ≤ maxLen ∧ b < w.heap.size ∧ ∀ (j : Nat) g, gs[j]? = some g → w.cell? ⟨b, off + j, none⟩ = some (.int .i64 g)
theorem SlI.ext {w w' : World} {v : Value} {gs : List Int} (h : SlI w v gs) (hE : Ext w w') : SlI w' v gs := by
  rcases h with h | ⟨b, off, cap, h1, h2, h3, h4, h5⟩
  · exact .inl h
  · exact .inr ⟨b, off, cap, h1, h2, h3, Nat.lt_of_lt_of_le h4 hE.size, fun j u hu => hE.keep (h5 j u hu)⟩
theorem SlI.open {w : World} {v : Value} {gs : List Int} (h : SlI w v gs) : ∃ ao cap, v = .slice ao gs.length cap ∧ ∀ (j : Nat) g, gs[j]? = some g → ∃ b off, ao = some ⟨b, off, none⟩ ∧ w.cell? ⟨b, off + j, none⟩ = some (.int .i64 g) := by
  rcases h with ⟨rfl, rfl⟩ | ⟨b, off, cap, rfl, _, _, hb, hc⟩
  · exact ⟨none, 0, rfl, fun i x hx => by simp at hx⟩
  · exact ⟨_, cap, rfl, fun i x hx => ⟨b, off, rfl, hc i x hx⟩⟩
def sHave : ByteArray := ⟨#[104, 97, 118, 101]⟩
/-- A greeting's text without its end. -/
def greetGo (gs : List Int) : ByteArray := gs.foldl (fun s n => s ++ (sp ++ itoaB n)) sHave
def greetB (gs : List Int) : ByteArray := greetGo gs ++ nl
theorem greetGo_size (gs : List Int) (h : ∀ g ∈ gs, -9223372036854775808 ≤ g ∧ g ≤ 9223372036854775807) : (greetGo gs).size ≤ 4 + gs.length * 22 := by
  have key : ∀ (l : List Int) (s : ByteArray), (∀ g ∈ l, -9223372036854775808 ≤ g ∧ g ≤ 9223372036854775807) → (l.foldl (fun s n => s ++ (sp ++ itoaB n)) s).size ≤ s.size + l.length * 22 := by
    intro l
    induction l with
    | nil => intro s _; simp
    | cons x l ih =>
      intro s hl
      have h1 := ih (s ++ (sp ++ itoaB x)) (fun g hg => hl g (List.mem_cons_of_mem _ hg))
      have h2 := itoaB_size x (hl x (List.mem_cons_self ..)).1 (hl x (List.mem_cons_self ..)).2
      have h3 : sp.size = 1 := rfl
      simp only [List.foldl_cons, ByteArray.size_append, List.length_cons] at h1 ⊢
      omega
  exact key gs sHave h
theorem greetGo_snoc (gs : List Int) (k : Nat) (g : Int) (hg : gs[k]? = some g) : greetGo (gs.take (k + 1)) = greetGo (gs.take k) ++ (sp ++ itoaB g) := by
  rw [List.take_add_one, hg]; simp [greetGo]
set_option maxHeartbeats 800000 in
set_option maxRecDepth 100000 in
theorem greetText_any {B : Nat} {w : World} (h : Laid B w) (v : Value) (gs : List Int) (hv : SlI w v gs) (hr : ∀ g ∈ gs, -9223372036854775808 ≤ g ∧ g ≤ 9223372036854775807) (hn : gs.length ≤ 10000) :
    Calls Tryz.prog 89 #[v] w fun e w' => e = .returned (.string (greetB gs)) ∧ Ext w w' := by
  obtain ⟨ao, cap, rfl, hc⟩ := hv.open
  have hsp : sp.size = 1 := rfl
  have HL := Lib.hid h
  have HR := Lib.hid hr
  have HC := Lib.hid hc
  clear h hr hc hv
  go_enter Tryz.func89, Tryz.ntmps89
  go_wp2
  go_loopw [3, 5, 8] (fun s _ i wr => ∃ k : Nat, k ≤ gs.length ∧ i = .int .i64 k ∧ s = .string (greetGo (gs.take k)) ∧ Ext w wr) (fun _ _ i _ => gs.length - (intOf i).toNat)
  case atStart => exact ⟨0, by omega, rfl, rfl, Ext.refl _⟩
  case round =>
    obtain ⟨k, hk, rfl, rfl, hE⟩ := hrel
    have HE := Lib.hid hE
    have hzs := greetGo_size (gs.take k) (fun g hg => HR.out g (List.mem_of_mem_take hg))
    have hlt0 : (gs.take k).length ≤ 10000 := by simp; omega
    by_cases hlt : k < gs.length
    · obtain ⟨g, hg⟩ : ∃ g, gs[k]? = some g := ⟨_, List.getElem?_eq_getElem hlt⟩
      obtain ⟨b, off, rfl, hcell⟩ := HC.out k g hg
      have hcell2 := hE.keep hcell
      have hgr := HR.out g (List.mem_of_getElem? hg)
      have hzi := itoaB_size g hgr.1 hgr.2
      have hlt' : (k : Int) < gs.length := by omega
      have hI := Lib.hid (Itoa_any (HL.out.ext hE) g hgr.1 hgr.2)
      clear hE hcell
      have hs1 : ¬ (9223372036854775807 < 1 + (itoaB g).size) := by omega
      have hs2 : ¬ (9223372036854775807 < (greetGo (gs.take k)).size + (1 + (itoaB g).size)) := by omega
      go_wp2_with (go_at_call 74; refine hI.out.mono ?_; rintro e w2 ⟨rfl, hb⟩)
      go_roundw
      case rel => exact ⟨k + 1, by omega, by go_num, by rw [greetGo_snoc gs k g hg]; rfl, HE.out.trans hb⟩
      case measure => simp [intOf]; omega
    · obtain rfl : k = gs.length := by omega
      clear hE
      rw [List.take_length] at hzs
      have hs3 : ¬ (9223372036854775807 < (greetGo gs).size + 1) := by omega
      go_wp2
      go_ret
      exact ⟨rfl, HE.out⟩
def sPost : ByteArray := ⟨#[112, 111, 115, 116, 32]⟩
def letterGo (m : Nat) (xs : List Rec) : ByteArray := xs.foldl (fun s x => s ++ (lineB x ++ nl)) (sPost ++ itoaB (m : Int) ++ nl)
/-- A letter's text. -/
def letterB (xs : List Rec) : ByteArray := letterGo xs.length xs
def Rec.fits (x : Rec) : Prop := (-9223372036854775808 ≤ x.st ∧ x.st ≤ 9223372036854775807) ∧ (-9223372036854775808 ≤ x.num ∧ x.num ≤ 9223372036854775807) ∧ (-9223372036854775808 ≤ x.hr ∧ x.hr ≤ 9223372036854775807) ∧ x.txt.size ≤ 1000000
theorem lineB_size (x : Rec) (h : x.fits) : (lineB x).size ≤ 1000066 := by
  obtain ⟨h0, h1, h2, h3⟩ := h
  have z0 := itoaB_size x.st h0.1 h0.2
  have z1 := itoaB_size x.num h1.1 h1.2
  have z2 := itoaB_size x.hr h2.1 h2.2
  have hsp : sp.size = 1 := rfl
  simp only [lineB, ByteArray.size_append]
  omega
theorem letterGo_size (m : Nat) (hm : m ≤ 1000000) (xs : List Rec) (h : ∀ x ∈ xs, x.fits) : (letterGo m xs).size ≤ 27 + xs.length * 1000067 := by
  have key : ∀ (l : List Rec) (s : ByteArray), (∀ x ∈ l, x.fits) → (l.foldl (fun s x => s ++ (lineB x ++ nl)) s).size ≤ s.size + l.length * 1000067 := by
    intro l
    induction l with
    | nil => intro s _; simp
    | cons x l ih =>
      intro s hl
      have h1 := ih (s ++ (lineB x ++ nl)) (fun g hg => hl g (List.mem_cons_of_mem _ hg))
      have h2 := lineB_size x (hl x (List.mem_cons_self ..))
      have h3 : nl.size = 1 := rfl
      simp only [List.foldl_cons, ByteArray.size_append, List.length_cons] at h1 ⊢
      omega
  have h1 := key xs (sPost ++ itoaB (m : Int) ++ nl) h
  have h2 := itoaB_size (m : Int) (by omega) (by omega)
  have h3 : nl.size = 1 := rfl
  have h4 : sPost.size = 5 := rfl
  simp only [ByteArray.size_append] at h1
  unfold letterGo
  omega
theorem letterGo_snoc (m : Nat) (xs : List Rec) (k : Nat) (x : Rec) (hx : xs[k]? = some x) : letterGo m (xs.take (k + 1)) = letterGo m (xs.take k) ++ (lineB x ++ nl) := by
  rw [List.take_add_one, hx]; simp [letterGo]
set_option maxHeartbeats 800000 in
set_option maxRecDepth 100000 in
theorem letterText_any {B : Nat} {w : World} (h : Laid B w) (v : Value) (xs : List Rec) (hv : SlR w v xs) (hr : ∀ x ∈ xs, x.fits) (hn : xs.length ≤ 10000) :
    Calls Tryz.prog 140 #[v] w fun e w' => e = .returned (.string (letterB xs)) ∧ Ext w w' := by
  obtain ⟨ao, cap, rfl, hc⟩ := hv.open
  have hnl : nl.size = 1 := rfl
  have HL := Lib.hid h
  have HR := Lib.hid hr
  have HC := Lib.hid hc
  have hIt := Lib.hid (Itoa_any h (xs.length : Int) (by omega) (by omega))
  have hzl := itoaB_size (xs.length : Int) (by omega) (by omega)
  clear h hr hc hv
  have hq1 : ¬ (9223372036854775807 < 5 + (itoaB (xs.length : Int)).size) := by omega
  have hq2 : ¬ (9223372036854775807 < 5 + (itoaB (xs.length : Int)).size + 1) := by omega
  go_enter Tryz.func140, Tryz.ntmps140
  go_wp2_with (go_at_call 74; refine hIt.out.mono ?_; rintro e w1 ⟨rfl, hb⟩)
  go_loopw [3, 5, 13] (fun s _ i wr => ∃ k : Nat, k ≤ xs.length ∧ i = .int .i64 k ∧ s = .string (letterGo xs.length (xs.take k)) ∧ Ext w wr) (fun _ _ i _ => xs.length - (intOf i).toNat)
  case atStart => exact ⟨0, by omega, rfl, rfl, hb⟩
  case round =>
    obtain ⟨k, hk, rfl, rfl, hE⟩ := hrel
    have HE := Lib.hid hE
    have hzs := letterGo_size xs.length (by omega) (xs.take k) (fun g hg => HR.out g (List.mem_of_mem_take hg))
    have hlt0 : (xs.take k).length ≤ 10000 := by simp; omega
    by_cases hlt : k < xs.length
    · obtain ⟨x, hx⟩ : ∃ x, xs[k]? = some x := ⟨_, List.getElem?_eq_getElem hlt⟩
      obtain ⟨b, off, rfl, hbl, e0, e1, e2, e3⟩ := HC.out k x hx
      have d0 := hE.keep e0
      have d1 := hE.keep e1
      have d2 := hE.keep e2
      have d3 := hE.keep e3
      have hfx := HR.out x (List.mem_of_getElem? hx)
      have hzi := lineB_size x hfx
      have hlt' : (k : Int) < xs.length := by omega
      have hI := Lib.hid (line_any (HL.out.ext (hE.trans (Ext.alloc wr (.cells #[.int .i64 x.st, .int .i64 x.num, .int .i64 x.hr, .string x.txt] 49)))) x hfx.1 hfx.2.1 hfx.2.2.1 hfx.2.2.2)
      have hEa := Lib.hid (Ext.alloc wr (.cells #[.int .i64 x.st, .int .i64 x.num, .int .i64 x.hr, .string x.txt] 49))
      clear hE e0 e1 e2 e3
      have hs1 : ¬ (9223372036854775807 < (lineB x).size + 1) := by omega
      have hs2 : ¬ (9223372036854775807 < (letterGo xs.length (xs.take k)).size + ((lineB x).size + 1)) := by omega
      go_wp2_with (go_at_call 112; refine hI.out.mono ?_; rintro e w2 ⟨rfl, hb2⟩)
      go_roundw
      case rel => exact ⟨k + 1, by omega, by go_num, by rw [letterGo_snoc _ xs k x hx]; rfl, (HE.out.trans hEa.out).trans hb2⟩
      case measure => simp [intOf]; omega
    · obtain rfl : k = xs.length := by omega
      clear hE
      go_wp2
      go_ret
      exact ⟨ret_val (by rw [List.take_length]; rfl), HE.out⟩
end Go.Proofs.YtgjahnomafpnfaaGreatDoor

/- need, cutter and its functions. -/
namespace Go.Proofs.YtgjahnomafpnfaaGreatDoor
open Go.RowKit
/-- Giving up. -/
def gaveUp : Ending := .panicked [{ v := .iface 228 (.agg #[]), recovered := false }]
theorem build228 (w : World) : (Instr.build 228 #[]).run Tryz.prog w = .ok (.agg #[]) w := run_build w 228 #[] #[] (by kernel_rfl)
set_option maxHeartbeats 400000 in
set_option maxRecDepth 100000 in
theorem need_yes (w : World) : Calls Tryz.prog 135 #[.bool true] w fun e w' => e = .returned (.tuple #[]) ∧ w' = w := by
  go_enter Tryz.func135, Tryz.ntmps135
  go_wp2
  exact bodyPost_end (results_none rfl _ _ _) rfl ⟨rfl, rfl⟩
set_option maxHeartbeats 400000 in
set_option maxRecDepth 100000 in
theorem need_no (w : World) : Calls Tryz.prog 135 #[.bool false] w fun e w' => e = gaveUp ∧ w' = w := by
  have hb := fun w => build228 w
  go_enter Tryz.func135, Tryz.ntmps135
  go_wp2
  exact ⟨rfl, rfl, rfl⟩
/-- A cutter in memory: the function that cuts words, the text left, whether there is more. -/
structure CutX (w : World) (wb sb mb : Nat) (s : ByteArray) (more : Bool) : Prop where
  cw : w.cell? ⟨wb, 0, none⟩ = some (.func (.func 168) #[] #[.pointer (some ⟨mb, 0, none⟩), .pointer (some ⟨sb, 0, none⟩)])
  cs : w.cell? ⟨sb, 0, none⟩ = some (.string s)
  cm : w.cell? ⟨mb, 0, none⟩ = some (.bool more)
  fs : w.frozen? ⟨sb, 0, none⟩ = false
  fm : w.frozen? ⟨mb, 0, none⟩ = false
  ne : wb ≠ sb ∧ wb ≠ mb ∧ sb ≠ mb
theorem CutX.frB {w w' : World} {wb sb mb : Nat} {s : ByteArray} {more : Bool} (h : CutX w wb sb mb s more) {S : Nat → Prop} (hF : FrB S w w') (hw : ¬ S wb) (hs : ¬ S sb) (hm : ¬ S mb) : CutX w' wb sb mb s more := by
  have l1 := World.block_lt_of_cell? _ _ h.cw
  have l2 := World.block_lt_of_cell? _ _ h.cs
  have l3 := World.block_lt_of_cell? _ _ h.cm
  exact ⟨(hF.cell l1 hw).trans h.cw, (hF.cell l2 hs).trans h.cs, (hF.cell l3 hm).trans h.cm, (hF.frozen l2 hs).trans h.fs, (hF.frozen l3 hm).trans h.fm, h.ne⟩
theorem CutX.ext {w w' : World} {wb sb mb : Nat} {s : ByteArray} {more : Bool} (h : CutX w wb sb mb s more) (hE : Ext w w') : CutX w' wb sb mb s more := h.frB (S := fun _ => False) (FrB.ext hE) id id id
theorem CutX.setS {w : World} {wb sb mb : Nat} {s : ByteArray} {more : Bool} (h : CutX w wb sb mb s more) (s' : ByteArray) : CutX (w.setCell ⟨sb, 0, none⟩ (.string s')) wb sb mb s' more :=
  ⟨(World.cell?_setCell_far _ _ _ _ (Ne.symm h.ne.1)).trans h.cw, World.cell?_setCell_same _ _ _ h.cs, (World.cell?_setCell_far _ _ _ _ h.ne.2.2).trans h.cm, by rw [World.frozen?_setCell]; exact h.fs, by rw [World.frozen?_setCell]; exact h.fm, h.ne⟩
theorem CutX.setM {w : World} {wb sb mb : Nat} {s : ByteArray} {more : Bool} (h : CutX w wb sb mb s more) (m' : Bool) : CutX (w.setCell ⟨mb, 0, none⟩ (.bool m')) wb sb mb s m' :=
  ⟨(World.cell?_setCell_far _ _ _ _ (Ne.symm h.ne.2.1)).trans h.cw, (World.cell?_setCell_far _ _ _ _ (Ne.symm h.ne.2.2)).trans h.cs, World.cell?_setCell_same _ _ _ h.cm, by rw [World.frozen?_setCell]; exact h.fs, by rw [World.frozen?_setCell]; exact h.fm, h.ne⟩
/-- A text up to a blank, what stands behind it, and whether there is a blank. -/
def cutS (s : ByteArray) : ByteArray × ByteArray × Bool := (⟨(Lib.cut s.data.toList [32]).1.toArray⟩, ⟨(Lib.cut s.data.toList [32]).2.1.toArray⟩, (Lib.cut s.data.toList [32]).2.2)
theorem Cut_any {B : Nat} {w : World} (h : Laid B w) (s : ByteArray) (hs : s.size < 4294967281) : Calls Tryz.prog 169 #[.string s, .string ⟨#[32]⟩] w fun e w' => e = .returned (.tuple #[.string (cutS s).1, .string (cutS s).2.1, .bool (cutS s).2.2]) ∧ Ext w w' := by
  obtain ⟨m, hm⟩ := h.max
  refine (Tryz.strings_Cut s ⟨#[32]⟩ m w hs hm).mono ?_
  rintro e w' ⟨rfl, n, rfl⟩
  exact ⟨rfl, below_drewN (Below.refl _ _) n⟩
set_option maxHeartbeats 400000 in
set_option maxRecDepth 100000 in
theorem word_yes {B : Nat} {w : World} (hL : Laid B w) (wb sb mb : Nat) (s : ByteArray) (h : CutX w wb sb mb s true) (hs : s.size < 4294967281) :
    Calls Tryz.prog 168 #[.pointer (some ⟨mb, 0, none⟩), .pointer (some ⟨sb, 0, none⟩)] w fun e w' => e = .returned (.string (cutS s).1) ∧ CutX w' wb sb mb (cutS s).2.1 (cutS s).2.2 ∧ FrB (fun j => j = sb ∨ j = mb) w w' := by
  have cs := h.cs
  have cm := h.cm
  have HX := Lib.hid h
  have hC := Lib.hid (Cut_any hL s hs)
  clear h hL
  go_enter Tryz.func168, Tryz.ntmps168
  go_wp2_with (first | (go_at_call 135; refine (need_yes _).mono ?_; rintro e w' ⟨rfl, rfl⟩) | (go_at_call 169; refine hC.out.mono ?_; rintro e w1 ⟨rfl, hE⟩; have HX1 := Lib.hid (HX.out.ext hE); have HE := Lib.hid hE; have cs1 := HX1.out.cs; have cm1 := HX1.out.cm; have fs1 := HX1.out.fs; have fm1 := HX1.out.fm; have hne1 := HX1.out.ne.2.2; clear hE))
  go_ret
  exact ⟨rfl, (HX1.out.setS _).setM _, ((FrB.ext HE.out).trans (FrB.setCell (fun j => j = sb ∨ j = mb) _ _ _ (.inl rfl)) (fun _ _ e => e)).trans (FrB.setCell (fun j => j = sb ∨ j = mb) _ _ _ (.inr rfl)) (fun _ _ e => e)⟩
set_option maxHeartbeats 400000 in
set_option maxRecDepth 100000 in
theorem word_no {w : World} (wb sb mb : Nat) (s : ByteArray) (h : CutX w wb sb mb s false) :
    Calls Tryz.prog 168 #[.pointer (some ⟨mb, 0, none⟩), .pointer (some ⟨sb, 0, none⟩)] w fun e w' => e = gaveUp ∧ w' = w := by
  have cm := h.cm
  clear h
  go_enter Tryz.func168, Tryz.ntmps168
  go_wp2_with (first | (go_at_call 135; refine (need_no _).mono ?_; rintro e w' ⟨rfl, rfl⟩; unfold gaveUp))
  exact ⟨rfl, rfl, rfl⟩
set_option maxHeartbeats 400000 in
set_option maxRecDepth 100000 in
theorem rest_yes {w : World} (wb sb mb : Nat) (s : ByteArray) (h : CutX w wb sb mb s true) :
    Calls Tryz.prog 172 #[.pointer (some ⟨mb, 0, none⟩), .pointer (some ⟨sb, 0, none⟩)] w fun e w' => e = .returned (.string s) ∧ CutX w' wb sb mb s false ∧ FrB (fun j => j = sb ∨ j = mb) w w' := by
  have cs := h.cs
  have cm := h.cm
  have fm := h.fm
  have hne := h.ne.2.2
  have HX := Lib.hid h
  clear h
  go_enter Tryz.func172, Tryz.ntmps172
  go_wp2_with (first | (go_at_call 135; refine (need_yes _).mono ?_; rintro e w' ⟨rfl, rfl⟩))
  go_ret
  exact ⟨rfl, HX.out.setM _, FrB.setCell (fun j => j = sb ∨ j = mb) _ _ _ (.inr rfl)⟩
set_option maxHeartbeats 400000 in
set_option maxRecDepth 100000 in
theorem rest_no {w : World} (wb sb mb : Nat) (s : ByteArray) (h : CutX w wb sb mb s false) :
    Calls Tryz.prog 172 #[.pointer (some ⟨mb, 0, none⟩), .pointer (some ⟨sb, 0, none⟩)] w fun e w' => e = gaveUp ∧ w' = w := by
  have cm := h.cm
  clear h
  go_enter Tryz.func172, Tryz.ntmps172
  go_wp2_with (first | (go_at_call 135; refine (need_no _).mono ?_; rintro e w' ⟨rfl, rfl⟩; unfold gaveUp))
  exact ⟨rfl, rfl, rfl⟩
theorem cutter_world (w : World) (s : ByteArray) (v : Value) : ∃ W, W = (((w.alloc (.cells #[.string s] 9)).alloc (.cells #[v] 67)).alloc (.cells #[.bool true] 4)) ∧ W.cell? ⟨w.heap.size, 0, none⟩ = some (.string s) ∧ W.frozen? ⟨w.heap.size, 0, none⟩ = false ∧ W.cell? ⟨w.heap.size + 1, 0, none⟩ = some v ∧ W.frozen? ⟨w.heap.size + 1, 0, none⟩ = false ∧
    W.cell? ⟨w.heap.size + 1 + 1, 0, none⟩ = some (.bool true) ∧ W.frozen? ⟨w.heap.size + 1 + 1, 0, none⟩ = false ∧ Ext w W := by
  refine ⟨_, rfl, ?_, ?_, ?_, ?_, ?_, ?_, ((Ext.alloc _ _).trans (Ext.alloc _ _)).trans (Ext.alloc _ _)⟩
  · rw [World.cell?_alloc_past _ _ _ (by simp <;> omega), World.cell?_alloc_past _ _ _ (by simp), World.cell?_alloc_at _ _ _ _ rfl]; rfl
  · rw [World.frozen?_alloc_past _ _ _ (by simp <;> omega), World.frozen?_alloc_past _ _ _ (by simp), World.frozen?_alloc_at _ _ _ _ rfl]
  · rw [World.cell?_alloc_past _ _ _ (by simp), World.cell?_alloc_at _ _ _ _ (by simp)]; rfl
  · rw [World.frozen?_alloc_past _ _ _ (by simp), World.frozen?_alloc_at _ _ _ _ (by simp)]
  · rw [World.cell?_alloc_at _ _ _ _ (by simp)]; rfl
  · rw [World.frozen?_alloc_at _ _ _ _ (by simp)]
theorem store_same (W : World) (b : Nat) (u v : Value) (hv : v.oneCell' = true) (hc : W.cell? ⟨b, 0, none⟩ = some u) (hf : W.frozen? ⟨b, 0, none⟩ = false) : (store ⟨b, 0, none⟩ v).run Tryz.prog W = .ok () (W.setCell ⟨b, 0, none⟩ v) := by
  have := run_store Tryz.prog W ⟨b, 0, none⟩ v .plain hv
  rw [hc] at this
  simpa only [hf, Bool.false_eq_true, if_false] using this
set_option maxHeartbeats 400000 in
set_option maxRecDepth 100000 in
theorem cutter_any (s : ByteArray) (w : World) : Calls Tryz.prog 136 #[.string s] w fun e w' => ∃ wb sb mb, e = .returned (.tuple #[.func (.func 168) #[] #[.pointer (some ⟨mb, 0, none⟩), .pointer (some ⟨sb, 0, none⟩)], .func (.func 170) #[] #[.pointer (some ⟨wb, 0, none⟩)], .func (.func 172) #[] #[.pointer (some ⟨mb, 0, none⟩), .pointer (some ⟨sb, 0, none⟩)]]) ∧
    CutX w' wb sb mb s true ∧ Ext w w' ∧ (w.heap.size ≤ wb ∧ w.heap.size ≤ sb ∧ w.heap.size ≤ mb) := by
  obtain ⟨W, hW, c0, f0, c1, f1, c2, f2, hE⟩ := cutter_world w s .nilFunc
  obtain ⟨V, hV, d0, g0, d1, g1, d2, g2, hE2⟩ := cutter_world w s (.func (.func 168) #[] #[.pointer (some ⟨w.heap.size + 1 + 1, 0, none⟩), .pointer (some ⟨w.heap.size, 0, none⟩)])
  have hst := store_same W (w.heap.size + 1) _ (.func (.func 168) #[] #[.pointer (some ⟨w.heap.size + 1 + 1, 0, none⟩), .pointer (some ⟨w.heap.size, 0, none⟩)]) rfl c1 f1
  have hst2 := store_same V (w.heap.size + 1) _ (.func (.func 168) #[] #[.pointer (some ⟨w.heap.size + 1 + 1, 0, none⟩), .pointer (some ⟨w.heap.size, 0, none⟩)]) rfl d1 g1
  have hX : CutX V (w.heap.size + 1) w.heap.size (w.heap.size + 1 + 1) s true := ⟨d1, d0, d2, g0, g2, by omega⟩
  have HX := Lib.hid (And.intro hX hE2)
  rw [hW] at hst
  rw [hV] at hst2
  have HV := Lib.hid hV
  have HD := Lib.hid d1
  clear hW hV c0 f0 c1 f1 c2 f2 d0 g0 d1 g1 d2 g2 hX hE hE2
  go_enter Tryz.func136, Tryz.ntmps136
  go_wp2_with fail
  have d1 := HD.out
  rw [HV.out] at d1
  refine bodyPost_ret (v := .tuple #[.func (.func 168) #[] #[.pointer (some ⟨w.heap.size + 1 + 1, 0, none⟩), .pointer (some ⟨w.heap.size, 0, none⟩)], .func (.func 170) #[] #[.pointer (some ⟨w.heap.size + 1, 0, none⟩)], .func (.func 172) #[] #[.pointer (some ⟨w.heap.size + 1 + 1, 0, none⟩), .pointer (some ⟨w.heap.size, 0, none⟩)]]) (by simp [results, Tryz.results136, go_sem, d1]) rfl ⟨w.heap.size + 1, w.heap.size, w.heap.size + 1 + 1, rfl, ?_⟩
  rw [← HV.out]
  exact ⟨HX.out.1, HX.out.2, by omega, by omega, by omega⟩
end Go.Proofs.YtgjahnomafpnfaaGreatDoor

/- number; parsed. -/
namespace Go.Proofs.YtgjahnomafpnfaaGreatDoor
open Go.RowKit
/-- What a cutter's number cuts off: the number, the text left, whether there is more; none: it gives up. -/
def numP (s : ByteArray) : Option (Int × ByteArray × Bool) :=
  match Lib.atoiAll (cutS s).1.data.toList with
  | .ok v => if 0 ≤ v ∧ itoaB v = (cutS s).1 then some (v, (cutS s).2.1, (cutS s).2.2) else none
  | _ => none
theorem ext_bytes (w : World) (k : Nat) (t : ByteArray) : Ext w (Lib.bytesWorld w k t) := Joins.below_bytesWorld _ _ _ _ (Nat.le_refl _)
theorem Atoi_ok {w : World} (s : ByteArray) (hs : s.size < 4294967281) (v : Int) (h : Lib.atoiAll s.data.toList = .ok v) : Calls Tryz.prog 171 #[.string s] w fun e w' => e = .returned (.tuple #[.int .i64 v, .nilIface]) ∧ Ext w w' := by
  refine (Tryz.strconv_Atoi_ok s (by omega) v h w).mono ?_
  rintro e w' ⟨rfl, rfl | ⟨t, rfl⟩⟩
  · exact ⟨rfl, Ext.refl _⟩
  · exact ⟨rfl, ext_bytes _ _ _⟩
theorem Atoi_bad {B : Nat} {w : World} (hL : Laid B w) (s : ByteArray) (hs : s.size < 4294967281) (h : ∀ v, Lib.atoiAll s.data.toList ≠ .ok v) : Calls Tryz.prog 171 #[.string s] w fun e w' => ∃ v p, e = .returned (.tuple #[.int .i64 v, .iface 274 p]) ∧ Below w.heap.size w w' := by
  cases hA : Lib.atoiAll s.data.toList with
  | ok v => exact absurd hA (h v)
  | range =>
    obtain ⟨ev, hv, he⟩ := hL.rng
    refine (Tryz.strconv_Atoi_range s (by omega) hA ev w hv he).mono ?_
    rintro e w' ⟨N, rfl, _, _, hb⟩
    exact ⟨_, _, rfl, hb⟩
  | _ =>
    obtain ⟨ev, hv, he⟩ := hL.syn
    refine (Any.strconv_Atoi_syntax Tryz.laysC172 s (by omega) hA ev w hv he).mono ?_
    rintro e w' ⟨N, rfl, _, _, hb⟩
    exact ⟨_, _, rfl, hb⟩
set_option maxHeartbeats 800000 in
set_option maxRecDepth 100000 in
theorem number_yes {B : Nat} {w : World} (hL : Laid B w) (wb sb mb : Nat) (s : ByteArray) (h : CutX w wb sb mb s true) (hs : s.size < 4294967281) (hsep : ∀ j, j = sb ∨ j = mb → B ≤ j) (v : Int) (hv : Lib.atoiAll (cutS s).1.data.toList = .ok v) (h0 : 0 ≤ v) (hi : itoaB v = (cutS s).1) (hc : (cutS s).1.size < 4294967281) :
    Calls Tryz.prog 170 #[.pointer (some ⟨wb, 0, none⟩)] w fun e w' => e = .returned (.int .i64 v) ∧ CutX w' wb sb mb (cutS s).2.1 (cutS s).2.2 ∧ FrB (fun j => j = sb ∨ j = mb) w w' := by
  have cw := h.cw
  have hW := Lib.hid (word_yes hL wb sb mb s h hs)
  have hb := Lib.atoiAll_bounds hv
  have HL := Lib.hid hL
  clear h hL
  go_enter Tryz.func170, Tryz.ntmps170
  go_wp2_with (first | (go_at_call 168; refine hW.out.mono ?_; rintro e w1 ⟨rfl, hX, hF⟩; have HX := Lib.hid hX; have HF := Lib.hid hF; clear hX hF) | (go_at_call 171; refine (Atoi_ok _ hc v hv).mono ?_; rintro e w2 ⟨rfl, hE⟩; have HE := Lib.hid hE; clear hE) | (go_at_call 74; refine (Itoa_any ((HL.out.keep (HF.out.below HL.out.le hsep)).ext HE.out) v hb.1 hb.2).mono ?_; rintro e w3 ⟨rfl, hE3⟩; have HE3 := Lib.hid hE3; clear hE3; rw [hi]) | (go_at_call 135; refine (need_yes _).mono ?_; rintro e w' ⟨rfl, rfl⟩))
  go_ret
  exact ⟨rfl, (HX.out.ext HE.out).ext HE3.out, (HF.out.trans (FrB.ext HE.out) (fun _ _ e => e)).trans (FrB.ext HE3.out) (fun _ _ e => e)⟩
set_option maxHeartbeats 400000 in
set_option maxRecDepth 100000 in
theorem number_no {w : World} (wb sb mb : Nat) (s : ByteArray) (h : CutX w wb sb mb s false) :
    Calls Tryz.prog 170 #[.pointer (some ⟨wb, 0, none⟩)] w fun e w' => e = gaveUp ∧ w' = w := by
  have cw := h.cw
  have hW := Lib.hid (word_no wb sb mb s h)
  clear h
  go_enter Tryz.func170, Tryz.ntmps170
  go_wp2_with (first | (go_at_call 168; refine hW.out.mono ?_; rintro e w1 ⟨rfl, rfl⟩; unfold gaveUp))
  exact ⟨rfl, rfl, rfl⟩
set_option maxHeartbeats 800000 in
set_option maxRecDepth 100000 in
theorem number_atoi {B : Nat} {w : World} (hL : Laid B w) (wb sb mb : Nat) (s : ByteArray) (h : CutX w wb sb mb s true) (hs : s.size < 4294967281) (hsep : ∀ j, j = sb ∨ j = mb → B ≤ j) (hv : ∀ v, Lib.atoiAll (cutS s).1.data.toList ≠ .ok v) (hc : (cutS s).1.size < 4294967281) :
    Calls Tryz.prog 170 #[.pointer (some ⟨wb, 0, none⟩)] w fun e w' => e = gaveUp ∧ FrB (fun j => j = sb ∨ j = mb) w w' := by
  have cw := h.cw
  have hW := Lib.hid (word_yes hL wb sb mb s h hs)
  have HL := Lib.hid hL
  clear h hL
  go_enter Tryz.func170, Tryz.ntmps170
  go_wp2_with (first | (go_at_call 168; refine hW.out.mono ?_; rintro e w1 ⟨rfl, hX, hF⟩; have HX := Lib.hid hX; have HF := Lib.hid hF; clear hX hF) | (go_at_call 171; refine (Atoi_bad (HL.out.keep (HF.out.below HL.out.le hsep)) _ hc hv).mono ?_; go_loud (rintro e w2 ⟨v, p, rfl, hE⟩; have HE := Lib.hid hE; clear hE)) | (go_at_call 135; refine (need_no _).mono ?_; rintro e w' ⟨rfl, rfl⟩; unfold gaveUp))
  exact ⟨rfl, rfl, HF.out.trans (FrB.ext HE.out) (fun _ _ e => e)⟩
set_option maxHeartbeats 800000 in
set_option maxRecDepth 100000 in
theorem number_less {B : Nat} {w : World} (hL : Laid B w) (wb sb mb : Nat) (s : ByteArray) (h : CutX w wb sb mb s true) (hs : s.size < 4294967281) (hsep : ∀ j, j = sb ∨ j = mb → B ≤ j) (v : Int) (hv : Lib.atoiAll (cutS s).1.data.toList = .ok v) (h0 : v < 0) (hc : (cutS s).1.size < 4294967281) :
    Calls Tryz.prog 170 #[.pointer (some ⟨wb, 0, none⟩)] w fun e w' => e = gaveUp ∧ FrB (fun j => j = sb ∨ j = mb) w w' := by
  have cw := h.cw
  have hW := Lib.hid (word_yes hL wb sb mb s h hs)
  have hb := Lib.atoiAll_bounds hv
  have h0' : ¬ (0 ≤ v) := by omega
  have HL := Lib.hid hL
  clear h hL
  go_enter Tryz.func170, Tryz.ntmps170
  go_wp2_with (first | (go_at_call 168; refine hW.out.mono ?_; rintro e w1 ⟨rfl, hX, hF⟩; have HX := Lib.hid hX; have HF := Lib.hid hF; clear hX hF) | (go_at_call 171; refine (Atoi_ok _ hc v hv).mono ?_; rintro e w2 ⟨rfl, hE⟩; have HE := Lib.hid hE; clear hE) | (go_at_call 135; refine (need_no _).mono ?_; rintro e w' ⟨rfl, rfl⟩; unfold gaveUp))
  exact ⟨rfl, rfl, HF.out.trans (FrB.ext HE.out) (fun _ _ e => e)⟩
set_option maxHeartbeats 800000 in
set_option maxRecDepth 100000 in
theorem number_text {B : Nat} {w : World} (hL : Laid B w) (wb sb mb : Nat) (s : ByteArray) (h : CutX w wb sb mb s true) (hs : s.size < 4294967281) (hsep : ∀ j, j = sb ∨ j = mb → B ≤ j) (v : Int) (hv : Lib.atoiAll (cutS s).1.data.toList = .ok v) (h0 : 0 ≤ v) (hi : ((itoaB v).toList == (cutS s).1.toList) = false) (hc : (cutS s).1.size < 4294967281) :
    Calls Tryz.prog 170 #[.pointer (some ⟨wb, 0, none⟩)] w fun e w' => e = gaveUp ∧ FrB (fun j => j = sb ∨ j = mb) w w' := by
  have cw := h.cw
  have hW := Lib.hid (word_yes hL wb sb mb s h hs)
  have hb := Lib.atoiAll_bounds hv
  have HL := Lib.hid hL
  clear h hL
  go_enter Tryz.func170, Tryz.ntmps170
  go_wp2_with (first | (go_at_call 168; refine hW.out.mono ?_; rintro e w1 ⟨rfl, hX, hF⟩; have HX := Lib.hid hX; have HF := Lib.hid hF; clear hX hF) | (go_at_call 171; refine (Atoi_ok _ hc v hv).mono ?_; rintro e w2 ⟨rfl, hE⟩; have HE := Lib.hid hE; clear hE) | (go_at_call 74; refine (Itoa_any ((HL.out.keep (HF.out.below HL.out.le hsep)).ext HE.out) v hb.1 hb.2).mono ?_; rintro e w3 ⟨rfl, hE3⟩; have HE3 := Lib.hid hE3; clear hE3) | (go_at_call 135; refine (need_no _).mono ?_; rintro e w' ⟨rfl, rfl⟩; unfold gaveUp))
  exact ⟨rfl, rfl, (HF.out.trans (FrB.ext HE.out) (fun _ _ e => e)).trans (FrB.ext HE3.out) (fun _ _ e => e)⟩
end Go.Proofs.YtgjahnomafpnfaaGreatDoor

/- number, rest, parsed at every text. -/
namespace Go.Proofs.YtgjahnomafpnfaaGreatDoor
open Go.RowKit
theorem cutS_size (s : ByteArray) : (cutS s).1.size ≤ s.size ∧ (cutS s).2.1.size ≤ s.size := by
  have hl : s.data.toList.length = s.size := by rw [Array.length_toList]; rfl
  unfold cutS Lib.cut
  split
  · refine ⟨?_, ?_⟩
    · show (List.toArray _).size ≤ _
      simp only [List.size_toArray, List.length_take]; omega
    · show (List.toArray _).size ≤ _
      simp only [List.size_toArray, List.length_drop]; omega
  · refine ⟨?_, ?_⟩
    · show (List.toArray _).size ≤ _
      simp only [List.size_toArray]; omega
    · show (List.toArray _).size ≤ _
      simp
theorem number_some {B : Nat} {w : World} (hL : Laid B w) (wb sb mb : Nat) (s : ByteArray) (h : CutX w wb sb mb s true) (hs : s.size < 4294967281) (hsep : ∀ j, j = sb ∨ j = mb → B ≤ j) {v : Int} {s' : ByteArray} {m' : Bool} (hv : numP s = some (v, s', m')) :
    Calls Tryz.prog 170 #[.pointer (some ⟨wb, 0, none⟩)] w fun e w' => e = .returned (.int .i64 v) ∧ CutX w' wb sb mb s' m' ∧ FrB (fun j => j = sb ∨ j = mb) w w' := by
  have hc := Nat.lt_of_le_of_lt (cutS_size s).1 hs
  unfold numP at hv
  split at hv
  · rename_i u hu
    split at hv
    · rename_i hh
      cases hv
      exact number_yes hL wb sb mb s h hs hsep _ hu hh.1 hh.2 hc
    · cases hv
  · cases hv
theorem number_none {B : Nat} {w : World} (hL : Laid B w) (wb sb mb : Nat) (s : ByteArray) (h : CutX w wb sb mb s true) (hs : s.size < 4294967281) (hsep : ∀ j, j = sb ∨ j = mb → B ≤ j) (hv : numP s = none) :
    Calls Tryz.prog 170 #[.pointer (some ⟨wb, 0, none⟩)] w fun e w' => e = gaveUp ∧ FrB (fun j => j = sb ∨ j = mb) w w' := by
  have hc := Nat.lt_of_le_of_lt (cutS_size s).1 hs
  unfold numP at hv
  split at hv
  · rename_i u hu
    split at hv
    · cases hv
    · rename_i hh
      by_cases h0 : 0 ≤ u
      · exact number_text hL wb sb mb s h hs hsep u hu h0 ((Lib.bytes_beq_false_iff _ _).2 fun e => hh ⟨h0, e⟩) hc
      · exact number_less hL wb sb mb s h hs hsep u hu (by omega) hc
  · rename_i hu
    exact number_atoi hL wb sb mb s h hs hsep (fun v hv => hu v hv) hc
def numQ (s : ByteArray) (more : Bool) : Option (Int × ByteArray × Bool) := if more then numP s else none
theorem numQ_size {s : ByteArray} {more : Bool} {v : Int} {s' : ByteArray} {m' : Bool} (h : numQ s more = some (v, s', m')) : s'.size ≤ s.size := by
  unfold numQ numP at h
  repeat' split at h
  all_goals cases h
  exact (cutS_size s).2
theorem numQ_fits {s : ByteArray} {more : Bool} {v : Int} {s' : ByteArray} {m' : Bool} (h : numQ s more = some (v, s', m')) : 0 ≤ v ∧ v ≤ 9223372036854775807 := by
  unfold numQ numP at h
  repeat' split at h
  all_goals cases h
  rename_i hu hh
  exact ⟨hh.1, (Lib.atoiAll_bounds hu).2⟩
theorem numQ_some {B : Nat} {w : World} (hL : Laid B w) (wb sb mb : Nat) (s : ByteArray) (more : Bool) (h : CutX w wb sb mb s more) (hs : s.size < 4294967281) (hsep : ∀ j, j = sb ∨ j = mb → B ≤ j) {v : Int} {s' : ByteArray} {m' : Bool} (hv : numQ s more = some (v, s', m')) :
    Calls Tryz.prog 170 #[.pointer (some ⟨wb, 0, none⟩)] w fun e w' => e = .returned (.int .i64 v) ∧ CutX w' wb sb mb s' m' ∧ FrB (fun j => j = sb ∨ j = mb) w w' := by
  cases more with
  | false => cases hv
  | true => exact number_some hL wb sb mb s h hs hsep hv
theorem numQ_none {B : Nat} {w : World} (hL : Laid B w) (wb sb mb : Nat) (s : ByteArray) (more : Bool) (h : CutX w wb sb mb s more) (hs : s.size < 4294967281) (hsep : ∀ j, j = sb ∨ j = mb → B ≤ j) (hv : numQ s more = none) :
    Calls Tryz.prog 170 #[.pointer (some ⟨wb, 0, none⟩)] w fun e w' => e = gaveUp ∧ FrB (fun j => j = sb ∨ j = mb) w w' := by
  cases more with
  | false => exact (number_no wb sb mb s h).mono fun e w' ⟨h1, h2⟩ => ⟨h1, h2 ▸ FrB.refl _ _⟩
  | true => exact number_none hL wb sb mb s h hs hsep hv
theorem CutX.setFar {w : World} {wb sb mb : Nat} {s : ByteArray} {more : Bool} (h : CutX w wb sb mb s more) (a : Addr) (v : Value) (ha : a.block ≠ wb ∧ a.block ≠ sb ∧ a.block ≠ mb) : CutX (w.setCell a v) wb sb mb s more :=
  h.frB (S := fun j => j = a.block) (FrB.setCell _ _ _ _ rfl) (Ne.symm ha.1) (Ne.symm ha.2.1) (Ne.symm ha.2.2)
/-- The record of a line; none: it gives up. -/
def parsedP (n : Int) (s : ByteArray) : Option Rec :=
  match numQ s true with
  | none => none
  | some (a, s1, m1) => match numQ s1 m1 with
    | none => none
    | some (b, s2, m2) => match numQ s2 m2 with
      | none => none
      | some (h, s3, m3) => if m3 = true ∧ formedB n ⟨a, b, h, s3⟩ = true then some ⟨a, b, h, s3⟩ else none
end Go.Proofs.YtgjahnomafpnfaaGreatDoor

/- parsed: the record of a line, or giving up. -/
namespace Go.Proofs.YtgjahnomafpnfaaGreatDoor
open Go.RowKit
/-- A record in a block of its own, that can be written. -/
structure BoxR (w : World) (X : Nat) (x : Rec) : Prop where
  c0 : w.cell? ⟨X, 0, none⟩ = some (.int .i64 x.st)
  c1 : w.cell? ⟨X, 1, none⟩ = some (.int .i64 x.num)
  c2 : w.cell? ⟨X, 2, none⟩ = some (.int .i64 x.hr)
  c3 : w.cell? ⟨X, 3, none⟩ = some (.string x.txt)
  f : ∀ i, w.frozen? ⟨X, i, none⟩ = false
theorem BoxR.lt {w : World} {X : Nat} {x : Rec} (h : BoxR w X x) : X < w.heap.size := World.block_lt_of_cell? _ _ h.c0
theorem BoxR.frB {w w' : World} {X : Nat} {x : Rec} (h : BoxR w X x) {S : Nat → Prop} (hF : FrB S w w') (hX : ¬ S X) : BoxR w' X x :=
  ⟨(hF.cell h.lt hX).trans h.c0, (hF.cell h.lt hX).trans h.c1, (hF.cell h.lt hX).trans h.c2, (hF.cell h.lt hX).trans h.c3, fun i => (hF.frozen h.lt hX).trans (h.f i)⟩
theorem BoxR.ext {w w' : World} {X : Nat} {x : Rec} (h : BoxR w X x) (hE : Ext w w') : BoxR w' X x := h.frB (S := fun _ => False) (FrB.ext hE) id
theorem BoxR.new (w : World) (x : Rec) : BoxR (w.alloc (.cells #[.int .i64 x.st, .int .i64 x.num, .int .i64 x.hr, .string x.txt] 49)) w.heap.size x := by
  refine ⟨?_, ?_, ?_, ?_, fun i => World.frozen?_alloc_new w _ _ i⟩ <;> (rw [World.cell?_alloc_new]; rfl)
theorem BoxR.set0 {w : World} {X : Nat} {x : Rec} (h : BoxR w X x) (v : Int) : BoxR (w.setCell ⟨X, 0, none⟩ (.int .i64 v)) X { x with st := v } :=
  ⟨World.cell?_setCell_same _ _ _ h.c0, (World.cell?_setCell_other _ _ _ _ (by simp)).trans h.c1, (World.cell?_setCell_other _ _ _ _ (by simp)).trans h.c2, (World.cell?_setCell_other _ _ _ _ (by simp)).trans h.c3, fun i => by rw [World.frozen?_setCell]; exact h.f i⟩
theorem BoxR.set1 {w : World} {X : Nat} {x : Rec} (h : BoxR w X x) (v : Int) : BoxR (w.setCell ⟨X, 1, none⟩ (.int .i64 v)) X { x with num := v } :=
  ⟨(World.cell?_setCell_other _ _ _ _ (by simp)).trans h.c0, World.cell?_setCell_same _ _ _ h.c1, (World.cell?_setCell_other _ _ _ _ (by simp)).trans h.c2, (World.cell?_setCell_other _ _ _ _ (by simp)).trans h.c3, fun i => by rw [World.frozen?_setCell]; exact h.f i⟩
theorem BoxR.set2 {w : World} {X : Nat} {x : Rec} (h : BoxR w X x) (v : Int) : BoxR (w.setCell ⟨X, 2, none⟩ (.int .i64 v)) X { x with hr := v } :=
  ⟨(World.cell?_setCell_other _ _ _ _ (by simp)).trans h.c0, (World.cell?_setCell_other _ _ _ _ (by simp)).trans h.c1, World.cell?_setCell_same _ _ _ h.c2, (World.cell?_setCell_other _ _ _ _ (by simp)).trans h.c3, fun i => by rw [World.frozen?_setCell]; exact h.f i⟩
theorem BoxR.set3 {w : World} {X : Nat} {x : Rec} (h : BoxR w X x) (v : ByteArray) : BoxR (w.setCell ⟨X, 3, none⟩ (.string v)) X { x with txt := v } :=
  ⟨(World.cell?_setCell_other _ _ _ _ (by simp)).trans h.c0, (World.cell?_setCell_other _ _ _ _ (by simp)).trans h.c1, (World.cell?_setCell_other _ _ _ _ (by simp)).trans h.c2, World.cell?_setCell_same _ _ _ h.c3, fun i => by rw [World.frozen?_setCell]; exact h.f i⟩
/-- What number comes to. -/
def NumPost (w : World) (wb sb mb : Nat) (s : ByteArray) (more : Bool) (e : Ending) (w' : World) : Prop :=
  (∃ v s' m', numQ s more = some (v, s', m') ∧ e = .returned (.int .i64 v) ∧ CutX w' wb sb mb s' m' ∧ FrB (fun j => j = sb ∨ j = mb) w w') ∨
  (numQ s more = none ∧ e = gaveUp ∧ FrB (fun j => j = sb ∨ j = mb) w w')
theorem numQ_any {B : Nat} {w : World} (hL : Laid B w) (wb sb mb : Nat) (s : ByteArray) (more : Bool) (h : CutX w wb sb mb s more) (hs : s.size < 4294967281) (hsep : ∀ j, j = sb ∨ j = mb → B ≤ j) :
    Calls Tryz.prog 170 #[.pointer (some ⟨wb, 0, none⟩)] w (NumPost w wb sb mb s more) := by
  cases hq : numQ s more with
  | none => exact (numQ_none hL wb sb mb s more h hs hsep hq).mono fun e w' ⟨h1, h2⟩ => .inr ⟨hq, h1, h2⟩
  | some r =>
    obtain ⟨v, s', m'⟩ := r
    exact (numQ_some hL wb sb mb s more h hs hsep hq).mono fun e w' h1 => .inl ⟨v, s', m', hq, h1⟩
/-- How a line's reader ends. -/
def ParsedIs (o : Option Rec) (e : Ending) : Prop :=
  match o with
  | some x => e = .returned (rv x)
  | none => e = gaveUp
/-- Where parsed stands: the cutter, the record X, the result's place R. -/
structure PSt (w wc : World) (R X wb sb mb : Nat) (x : Rec) (s : ByteArray) (m : Bool) : Prop where
  cut : CutX wc wb sb mb s m
  bx : BoxR wc X x
  br : BoxR wc R ⟨0, 0, 0, ⟨#[]⟩⟩
  be : Below w.heap.size w wc
  ge : w.heap.size ≤ R ∧ w.heap.size ≤ X ∧ w.heap.size ≤ wb ∧ w.heap.size ≤ sb ∧ w.heap.size ≤ mb
  ne : X ≠ wb ∧ X ≠ sb ∧ X ≠ mb ∧ R ≠ wb ∧ R ≠ sb ∧ R ≠ mb ∧ X ≠ R
theorem PSt.frB {w wc w' : World} {R X wb sb mb : Nat} {x : Rec} {s : ByteArray} {m : Bool} (h : PSt w wc R X wb sb mb x s m) (hF : FrB (fun j => j = sb ∨ j = mb) wc w') : Below w.heap.size w w' :=
  h.be.trans (hF.below h.be.size (fun j hj => by have := h.ge; rcases hj with rfl | rfl <;> omega))
theorem PSt.step {w wc w' : World} {R X wb sb mb : Nat} {x : Rec} {s s' : ByteArray} {m m' : Bool} (h : PSt w wc R X wb sb mb x s m) (hc : CutX w' wb sb mb s' m') (hF : FrB (fun j => j = sb ∨ j = mb) wc w') : PSt w w' R X wb sb mb x s' m' := by
  have hn := h.ne
  exact ⟨hc, h.bx.frB hF (by omega), h.br.frB hF (by omega), h.frB hF, h.ge, h.ne⟩
theorem PSt.ext {w wc w' : World} {R X wb sb mb : Nat} {x : Rec} {s : ByteArray} {m : Bool} (h : PSt w wc R X wb sb mb x s m) (hE : Ext wc w') : PSt w w' R X wb sb mb x s m := h.step (h.cut.ext hE) (FrB.ext hE)
theorem PSt.setX {w wc : World} {R X wb sb mb : Nat} {x x' : Rec} {s : ByteArray} {m : Bool} (h : PSt w wc R X wb sb mb x s m) (i : Nat) (v : Value) (hb : BoxR (wc.setCell ⟨X, i, none⟩ v) X x') : PSt w (wc.setCell ⟨X, i, none⟩ v) R X wb sb mb x' s m := by
  have hn := h.ne
  have hF := FrB.setCell (fun j => j = X) wc ⟨X, i, none⟩ v rfl
  exact ⟨h.cut.frB hF (Ne.symm hn.1) (Ne.symm hn.2.1) (Ne.symm hn.2.2.1), hb, h.br.frB hF (Ne.symm hn.2.2.2.2.2.2), h.be.trans (hF.below h.be.size (fun j hj => by have := h.ge; omega)), h.ge, h.ne⟩
theorem parsedP_1 {n : Int} {s : ByteArray} (h : numQ s true = none) : parsedP n s = none := by unfold parsedP; rw [h]
theorem parsedP_2 {n : Int} {s s1 : ByteArray} {a : Int} {m1 : Bool} (h : numQ s true = some (a, s1, m1)) (h2 : numQ s1 m1 = none) : parsedP n s = none := by unfold parsedP; rw [h]; simp only; rw [h2]
theorem parsedP_3 {n : Int} {s s1 s2 : ByteArray} {a b : Int} {m1 m2 : Bool} (h : numQ s true = some (a, s1, m1)) (h2 : numQ s1 m1 = some (b, s2, m2)) (h3 : numQ s2 m2 = none) : parsedP n s = none := by unfold parsedP; rw [h]; simp only; rw [h2]; simp only; rw [h3]
theorem parsedP_4 {n : Int} {s s1 s2 s3 : ByteArray} {a b c : Int} {m1 m2 m3 : Bool} (h : numQ s true = some (a, s1, m1)) (h2 : numQ s1 m1 = some (b, s2, m2)) (h3 : numQ s2 m2 = some (c, s3, m3)) : parsedP n s = if m3 = true ∧ formedB n ⟨a, b, c, s3⟩ = true then some ⟨a, b, c, s3⟩ else none := by unfold parsedP; rw [h]; simp only; rw [h2]; simp only; rw [h3]
set_option maxHeartbeats 800000 in
set_option maxRecDepth 100000 in
theorem parsed_any {B : Nat} {w : World} (hL : Laid B w) (n : Int) (s : ByteArray) (hs : s.size < 4294967281) (h0 : -1000 ≤ n) (h1 : n ≤ 1000) :
    Calls Tryz.prog 116 #[.int .i64 n, .string s] w fun e w' => ParsedIs (parsedP n s) e ∧ Ext w w' := by
  have HL := Lib.hid hL
  have hB := hL.le
  clear hL
  have hR0 := BoxR.new w ⟨0, 0, 0, ⟨#[]⟩⟩
  have HR0 := Lib.hid hR0
  clear hR0
  go_enter Tryz.func116, Tryz.ntmps116
  go_wp2_with fail
  refine (cutter_any s _).mono ?_
  rintro e w1 ⟨wb, sb, mb, rfl, hX, hE, hg⟩
  simp only [World.size_alloc] at hg
  have hz1 := hE.size
  simp only [World.size_alloc] at hz1
  have l1 := World.block_lt_of_cell? _ _ hX.cw
  have l2 := World.block_lt_of_cell? _ _ hX.cs
  have l3 := World.block_lt_of_cell? _ _ hX.cm
  simp only at l1 l2 l3
  have HS : Hid (PSt w (w1.alloc (.cells #[.int .i64 0, .int .i64 0, .int .i64 0, .string ⟨#[]⟩] 49)) w.heap.size w1.heap.size wb sb mb ⟨0, 0, 0, ⟨#[]⟩⟩ s true) :=
    Lib.hid ⟨hX.ext (Ext.alloc _ _), BoxR.new w1 ⟨0, 0, 0, ⟨#[]⟩⟩, (HR0.out.ext hE).ext (Ext.alloc _ _), ((Ext.alloc w _).trans hE).trans (Ext.alloc _ _), by omega, by omega⟩
  clear hX hE hB
  go_wp2_with fail
  generalize w1.alloc (.cells #[.int .i64 0, .int .i64 0, .int .i64 0, .string ⟨#[]⟩] 49) = w2 at HS ⊢
  refine (numQ_any (HL.out.keep (HS.out.be.mono HL.out.le)) wb sb mb s true HS.out.cut hs (fun j hj => by have := HL.out.le; rcases hj with rfl | rfl <;> omega)).mono ?_
  rintro e w3 (⟨a, s1, m1, hq, rfl, hX3, hF3⟩ | ⟨hq, rfl, hF3⟩)
  · have HQ1 := Lib.hid hq
    have HS3 := Lib.hid (HS.out.step hX3 hF3)
    have hs1 := Nat.lt_of_le_of_lt (numQ_size hq) hs
    clear hq hX3 hF3
    have c0 := HS3.out.bx.c0
    have f0 := HS3.out.bx.f 0
    have HS4 := Lib.hid (HS3.out.setX 0 (.int .i64 a) (HS3.out.bx.set0 a))
    go_wp2_with fail
    generalize w3.setCell ⟨w1.heap.size, 0, none⟩ (.int .i64 a) = w4 at HS4 ⊢
    clear c0 f0
    refine (numQ_any (HL.out.keep (HS4.out.be.mono HL.out.le)) wb sb mb s1 m1 HS4.out.cut hs1 (fun j hj => by have := HL.out.le; rcases hj with rfl | rfl <;> omega)).mono ?_
    rintro e w5 (⟨b, s2, m2, hq, rfl, hX5, hF5⟩ | ⟨hq, rfl, hF5⟩)
    · have HQ2 := Lib.hid hq
      have HS5 := Lib.hid (HS4.out.step hX5 hF5)
      have hs2 := Nat.lt_of_le_of_lt (numQ_size hq) hs1
      clear hq hX5 hF5
      have c1 := HS5.out.bx.c1
      have f1 := HS5.out.bx.f 1
      have HS6 := Lib.hid (HS5.out.setX 1 (.int .i64 b) (HS5.out.bx.set1 b))
      go_wp2_with fail
      generalize w5.setCell ⟨w1.heap.size, 1, none⟩ (.int .i64 b) = w6 at HS6 ⊢
      clear c1 f1
      refine (numQ_any (HL.out.keep (HS6.out.be.mono HL.out.le)) wb sb mb s2 m2 HS6.out.cut hs2 (fun j hj => by have := HL.out.le; rcases hj with rfl | rfl <;> omega)).mono ?_
      rintro e w7 (⟨c, s3, m3, hq, rfl, hX7, hF7⟩ | ⟨hq, rfl, hF7⟩)
      · have HP4 := Lib.hid (parsedP_4 (n := n) HQ1.out HQ2.out hq)
        have HS7 := Lib.hid (HS6.out.step hX7 hF7)
        have hs3 := Nat.lt_of_le_of_lt (numQ_size hq) hs2
        clear hq hX7 hF7
        have c2 := HS7.out.bx.c2
        have f2 := HS7.out.bx.f 2
        have HS8 := Lib.hid (HS7.out.setX 2 (.int .i64 c) (HS7.out.bx.set2 c))
        go_wp2_with fail
        generalize w7.setCell ⟨w1.heap.size, 2, none⟩ (.int .i64 c) = w8 at HS8 ⊢
        clear c2 f2
        cases m3
        · refine (rest_no wb sb mb s3 HS8.out.cut).mono ?_
          rintro e w9 ⟨rfl, rfl⟩
          unfold gaveUp
          go_wp2
          exact ⟨rfl, by rw [HP4.out]; rfl, HS8.out.be⟩
        · refine (rest_yes wb sb mb s3 HS8.out.cut).mono ?_
          rintro e w9 ⟨rfl, hX9, hF9⟩
          have HS9 := Lib.hid (HS8.out.step hX9 hF9)
          clear hX9 hF9
          have c3 := HS9.out.bx.c3
          have f3 := HS9.out.bx.f 3
          have HS10 := Lib.hid (HS9.out.setX 3 (.string s3) (HS9.out.bx.set3 s3))
          have d0 := HS10.out.bx.c0
          have d1 := HS10.out.bx.c1
          have d2 := HS10.out.bx.c2
          have d3 := HS10.out.bx.c3
          simp only at d0 d1 d2 d3
          go_wp2_with fail
          generalize w9.setCell ⟨w1.heap.size, 3, none⟩ (.string s3) = w10 at HS10 d0 d1 d2 d3 ⊢
          clear c3 f3 d0 d1 d2 d3
          refine (formed_any n ⟨a, b, c, s3⟩ w10 h0 h1).mono ?_
          rintro e w11 ⟨rfl, hE11⟩
          have HS11 := Lib.hid (HS10.out.ext hE11)
          clear hE11
          have d0 := HS11.out.bx.c0
          have d1 := HS11.out.bx.c1
          have d2 := HS11.out.bx.c2
          have d3 := HS11.out.bx.c3
          have r0 := HS11.out.br.c0
          have r1 := HS11.out.br.c1
          have r2 := HS11.out.br.c2
          have r3 := HS11.out.br.c3
          have g0 := HS11.out.br.f 0
          have g1 := HS11.out.br.f 1
          have g2 := HS11.out.br.f 2
          have g3 := HS11.out.br.f 3
          cases hf : formedB n ⟨a, b, c, s3⟩
          · have HF := Lib.hid hf
            clear hf
            go_wp2_with (go_at_call 135; refine (need_no _).mono ?_; rintro e w' ⟨rfl, rfl⟩; unfold gaveUp)
            exact ⟨rfl, by rw [HP4.out, HF.out]; rfl, HS11.out.be⟩
          · have HF := Lib.hid hf
            clear hf
            go_wp2_with (go_at_call 135; refine (need_yes _).mono ?_; rintro e w' ⟨rfl, rfl⟩)
            refine bodyPost_ret (v := .agg #[.int .i64 a, .int .i64 b, .int .i64 c, .string s3]) ?_ rfl ⟨by rw [HP4.out, HF.out]; rfl, (((HS11.out.be.setCell (Nat.le_refl _) _).setCell (Nat.le_refl _) _).setCell (Nat.le_refl _) _).setCell (Nat.le_refl _) _⟩
            simp [results, Tryz.results116, go_sem, *]
      · have HP3 := Lib.hid (parsedP_3 (n := n) HQ1.out HQ2.out hq)
        have HB := Lib.hid (HS6.out.frB hF7)
        clear hq hF7
        unfold gaveUp
        go_wp2
        exact ⟨rfl, by rw [HP3.out]; rfl, HB.out⟩
    · have HP2 := Lib.hid (parsedP_2 (n := n) HQ1.out hq)
      have HB := Lib.hid (HS4.out.frB hF5)
      clear hq hF5
      unfold gaveUp
      go_wp2
      exact ⟨rfl, by rw [HP2.out]; rfl, HB.out⟩
  · have HP1 := Lib.hid (parsedP_1 (n := n) hq)
    have HB := Lib.hid (HS.out.frB hF3)
    clear hq hF3
    unfold gaveUp
    go_wp2
    exact ⟨rfl, by rw [HP1.out]; rfl, HB.out⟩
end Go.Proofs.YtgjahnomafpnfaaGreatDoor

/- records: the records of lines, or giving up. -/
namespace Go.Proofs.YtgjahnomafpnfaaGreatDoor
open Go.RowKit
/-- A slice of strings that can be read. -/
def SlS (w : World) (v : Value) (ls : List ByteArray) : Prop :=
  (v = .slice none 0 0 ∧ ls = []) ∨ ∃ b off cap, v = .slice (some ⟨b, off, none⟩) ls.length cap ∧ ls.length ≤ cap ∧ cap ≤ maxLen ∧ b < w.heap.size ∧ ∀ (j : Nat) g, ls[j]? = some g → w.cell? ⟨b, off + j, none⟩ = some (.string g)
theorem SlS.ext {w w' : World} {v : Value} {ls : List ByteArray} (h : SlS w v ls) (hE : Ext w w') : SlS w' v ls := by
  rcases h with h | ⟨b, off, cap, h1, h2, h3, h4, h5⟩
  · exact .inl h
  · exact .inr ⟨b, off, cap, h1, h2, h3, Nat.lt_of_lt_of_le h4 hE.size, fun j u hu => hE.keep (h5 j u hu)⟩
theorem SlS.open {w : World} {v : Value} {ls : List ByteArray} (h : SlS w v ls) : ∃ ao cap, v = .slice ao ls.length cap ∧ ∀ (j : Nat) g, ls[j]? = some g → ∃ b off, ao = some ⟨b, off, none⟩ ∧ w.cell? ⟨b, off + j, none⟩ = some (.string g) := by
  rcases h with ⟨rfl, rfl⟩ | ⟨b, off, cap, rfl, _, _, hb, hc⟩
  · exact ⟨none, 0, rfl, fun i x hx => by simp at hx⟩
  · exact ⟨_, cap, rfl, fun i x hx => ⟨b, off, rfl, hc i x hx⟩⟩
def refLt (x y : Rec) : Bool := decide (or2 (cmpI x.st y.st) (cmpI x.num y.num) < 0)
/-- The records of lines, behind those that are read already; none: it gives up. -/
def recsP (n : Int) : List Rec → List ByteArray → Option (List Rec)
  | acc, [] => some acc
  | acc, s :: ls => match parsedP n s with
    | none => none
    | some x => if acc = [] ∨ ∃ y, acc.getLast? = some y ∧ refLt y x = true then recsP n (acc ++ [x]) ls else none
theorem recsP_none {n : Int} {acc : List Rec} {s : ByteArray} {ls : List ByteArray} (h : parsedP n s = none) : recsP n acc (s :: ls) = none := by simp only [recsP, h]
theorem recsP_first {n : Int} {s : ByteArray} {ls : List ByteArray} {x : Rec} (h : parsedP n s = some x) : recsP n [] (s :: ls) = recsP n [x] ls := by simp only [recsP, h]; simp
theorem recsP_next {n : Int} {acc : List Rec} {s : ByteArray} {ls : List ByteArray} {x p : Rec} (h : parsedP n s = some x) (hp : acc.getLast? = some p) : recsP n acc (s :: ls) = if refLt p x = true then recsP n (acc ++ [x]) ls else none := by
  have hne : acc ≠ [] := fun e => by rw [e] at hp; cases hp
  simp only [recsP, h, hp, hne, false_or, Option.some.injEq, exists_eq_left']
theorem OwnR.ext {w w' : World} {base : Nat} {v : Value} {xs : List Rec} (h : OwnR w base v xs) (hE : Ext w w') : OwnR w' base v xs := (FrB.ext (S := fun _ => False) hE).owns h fun _ _ => id
theorem u137 : Tryz.prog.underlying 137 = some (.slice 49) := by kernel_rfl
/-- A record appended to a letter of one's own. -/
theorem wpList_app137 {ops : Array Oper} {rest : List Oper} {o : Oper} {a : Act} {w : World} {Q : Exit → Act → World → Prop} (hgd : o.guard = none) (s x : Operand)
    (ho : o.op = .call { callee := .builtin .append, args := #[s, x], argTypes := #[137, 137] })
    (base : Nat) (v : Value) (xs : List Rec) (h : OwnR w base v xs) (y : Rec) (g m c : Nat) (hs : a.eval s = v) (hx : a.eval x = .slice (some ⟨g, 0, none⟩) m c) (hm : m = 1)
    (hc : ∀ j u, (flat [y])[j]? = some u → w.cell? ⟨g, j, none⟩ = some u) (hn : xs.length + 1 ≤ 1000000) (hb : base ≤ w.heap.size)
    (hK : ∀ v' w', OwnR w' base v' (xs ++ [y]) → Below base w w' → wpList Tryz.prog ops Q rest (a.put o.dst v') w') :
    wpList Tryz.prog ops Q (o :: rest) a w := by
  subst hm
  obtain ⟨i0, hi0, hz0, hz1, hz2⟩ := info_parts info49
  obtain ⟨gg, cap, w', h1, h2, h3, h4, h5⟩ := run_append_app (P := Tryz.prog) w base 137 o.type 49 i0 _ 4 40 u137 hi0 hz0 hz1 hz2 rfl (by omega) v xs.length (flat xs) h ⟨g, 0, none⟩ 1 c (flat [y]) (flat_length [y]) (fun j u hu => by rw [addr_add]; exact hc j u hu) (flat_oneCell [y]) (by omega) (by unfold maxLen; omega) (by omega) hb
  exact Lib.wpList_append_run w hgd s x 137 137 ho v _ hs hx _ w' h1 (hK _ w' (by unfold OwnR; rw [List.length_append, flat_append]; exact h2) (h3.below hb (OwnR.base h)))
/-- How the lines' reader ends. -/
def RecsIs (o : Option (List Rec)) (e : Ending) (w' : World) : Prop :=
  match o with
  | some xs => ∃ v, e = .returned v ∧ SlR w' v xs
  | none => e = gaveUp
set_option maxHeartbeats 800000 in
set_option maxRecDepth 100000 in
theorem records_any {B : Nat} {w : World} (hL : Laid B w) (n : Int) (v : Value) (ls : List ByteArray) (hv : SlS w v ls) (hs : ∀ s ∈ ls, s.size < 4294967281) (h0 : -1000 ≤ n) (h1 : n ≤ 1000) (hn : ls.length ≤ 1000) :
    Calls Tryz.prog 139 #[.int .i64 n, v] w fun e w' => RecsIs (recsP n [] ls) e w' ∧ Ext w w' := by
  obtain ⟨ao, cap, rfl, hc⟩ := hv.open
  have HL := Lib.hid hL
  have HS := Lib.hid hs
  have HC := Lib.hid hc
  clear hL hs hc hv
  obtain ⟨P, hP⟩ : ∃ P, recsP n [] ls = P := ⟨_, rfl⟩
  rw [hP]
  have HP := Lib.hid hP
  clear hP
  go_enter Tryz.func139, Tryz.ntmps139
  go_wp2
  go_loopw [5, 6, 7, 10] (fun s _ _ i wr => ∃ (k : Nat) (xs : List Rec), k ≤ ls.length ∧ i = .int .i64 k ∧ xs.length = k ∧ OwnR wr w.heap.size s xs ∧ recsP n xs (ls.drop k) = P ∧ Ext w wr) (fun _ _ _ i _ => ls.length - (intOf i).toNat)
  case atStart => exact ⟨0, [], by omega, rfl, rfl, World.ownsRow_nil _ _ _ _, HP.out, Ext.refl _⟩
  case round =>
    obtain ⟨k, xs, hk, rfl, hxl, hO, hrec, hE⟩ := hrel
    obtain ⟨a, m, c, rfl⟩ := OwnR.shape3 hO
    have HO := Lib.hid hO
    have HE := Lib.hid hE
    have HR := Lib.hid hrec
    clear hO hrec hE
    by_cases hlt : k < ls.length
    · obtain ⟨s, hg⟩ : ∃ s, ls[k]? = some s := ⟨_, List.getElem?_eq_getElem hlt⟩
      obtain ⟨b, off, rfl, hcell⟩ := HC.out k s hg
      have hcell2 := HE.out.keep hcell
      have hsz := HS.out s (List.mem_of_getElem? hg)
      have hlt' : (k : Int) < ls.length := by omega
      clear hcell
      have hdrop : ls.drop k = s :: ls.drop (k + 1) := by rw [List.drop_eq_getElem_cons hlt]; rw [List.getElem?_eq_getElem hlt] at hg; rw [Option.some.inj hg]
      have HR2 := HR.out
      rw [hdrop] at HR2
      have HR3 := Lib.hid HR2
      clear hdrop HR2 hg
      have hbw := HL.out.le
      go_wp2_with fail
      refine (parsed_any (HL.out.ext HE.out) n s hsz h0 h1).mono ?_
      rintro e w3 ⟨hp, hE3⟩
      have HE3 := Lib.hid hE3
      clear hE3
      cases hP : parsedP n s with
      | none =>
        rw [hP] at hp
        obtain rfl := hp
        have HN := Lib.hid ((recsP_none (acc := xs) (ls := ls.drop (k + 1)) hP).symm.trans HR3.out)
        clear hP hcell2
        unfold gaveUp
        go_wp2
        exact ⟨rfl, by rw [← HN.out]; rfl, HE.out.trans HE3.out⟩
      | some x =>
        rw [hP] at hp
        obtain rfl := hp
        have HPx := Lib.hid hP
        have hO3 := HO.out.ext (HE3.out.trans (Ext.alloc w3 (.cells #[.int .i64 x.st, .int .i64 x.num, .int .i64 x.hr, .string x.txt] 49)))
        have hsz3 := HE.out.size
        have hsz4 := HE3.out.size
        have HO3 := Lib.hid hO3
        have HEa := Lib.hid ((HE.out.trans HE3.out).trans (Ext.alloc w3 (.cells #[.int .i64 x.st, .int .i64 x.num, .int .i64 x.hr, .string x.txt] 49)))
        clear hP hcell2 hO3
        go_wp2_with (at_builtin; refine wpList_app137 rfl (.tmp 15) (.tmp 19) rfl w.heap.size _ xs HO3.out x w3.heap.size 1 1 rfl rfl rfl (fun j u hu => by have := cells_new w3 (flat [x]) 49 w3.heap.size rfl j u hu; rwa [addr_add] at this) (by omega) (by simp; omega) ?_)
        intro v' w5 hO5 hb5
        have hlen : (xs ++ [x]).length = k + 1 := by simp [hxl]
        obtain ⟨ao, co, hv', hcs⟩ := (OwnR.slR hO5).open
        rw [hlen] at hv'
        subst hv'
        have HO5 := Lib.hid hO5
        have HE5 := Lib.hid (Below.trans (B := w.heap.size) HEa.out hb5)
        have hx5 : (xs ++ [x])[k]? = some x := by rw [List.getElem?_append_right (by omega)]; simp [hxl]
        obtain ⟨g, o, rfl, hgl, x0, x1, x2, x3⟩ := hcs k x hx5
        have hdr := Ext.drew w5
        have z0 := hdr.keep x0
        have z1 := hdr.keep x1
        have z2 := hdr.keep x2
        have z3 := hdr.keep x3
        have hkk : (k : Int) < (k : Int) + 1 := by omega
        have hkn : k < k + 1 := by omega
        clear hO5 hb5 hx5 x0 x1 x2 x3 hdr hsz3 hsz4
        by_cases hk0 : k = 0
        · subst hk0
          obtain rfl := List.eq_nil_of_length_eq_zero hxl
          have HN := Lib.hid ((recsP_first (ls := ls.drop (0 + 1)) HPx.out).symm.trans HR3.out)
          clear hcs hlen
          go_wp2_with fail
          refine wp_drawn 15 (by kernel_rfl) (by kernel_rfl) (fun _ => none) (fun j φ hφ => by cases hφ) ?_
          intro ν
          simp only [List.take_succ_cons, List.take_zero]
          iterate 15 (refine Seq.pure ?_ rfl (fun w' hw hf => ?_) ?_; rotate_left; (· (have hc := hw.cells; unfold pureG; go_simp; with_reducible rfl)); simp only [Act.put, List.setIfInBounds_toArray, List.set_cons_zero, List.set_cons_succ, Nat.reduceAdd, Nat.zero_add])
          refine Seq.nil fun W hw hf => tail_one (i := 15) (by kernel_rfl) rfl (by kernel_rfl) rfl ?_
          have HW := Lib.hid (HE5.out.trans ((Ext.drew w5).trans hw |>.mono HE5.out.size))
          have HOW := Lib.hid (HO5.out.ext ((Ext.drew w5).trans hw))
          clear hw hf
          go_wp2_with (go_at_call 135; refine (need_yes _).mono ?_; rintro e w' ⟨rfl, rfl⟩)
          go_roundw
          case rel => exact ⟨1, [x], by omega, by go_num, rfl, HOW.out, HN.out, HW.out⟩
          case measure => simp [intOf]; omega
        · obtain ⟨p, hp⟩ : ∃ p, xs[k - 1]? = some p := ⟨xs[k - 1]'(by omega), by simp⟩
          have hpl : xs.getLast? = some p := by rw [List.getLast?_eq_getElem?, hxl]; exact hp
          obtain ⟨g', o', he', hgl', y0, y1, y2, y3⟩ := hcs (k - 1) p (by rw [List.getElem?_append_left (by omega)]; exact hp)
          cases he'
          have hdr := Ext.drew w5
          have p0 := hdr.keep y0
          have p1 := hdr.keep y1
          have p2 := hdr.keep y2
          have p3 := hdr.keep y3
          have HN := Lib.hid ((recsP_next (ls := ls.drop (k + 1)) HPx.out hpl).symm.trans HR3.out)
          clear hcs hlen hp hpl y0 y1 y2 y3 hdr
          have hwm : IntKind.i64.wrap ((k : Int) - 1) = (k : Int) - 1 := IntWalk.i64_in _ (by omega)
          have hml : (k : Int) - 1 < (k : Int) + 1 := by omega
          have hm0 : (0 : Int) ≤ (k : Int) - 1 := by omega
          have hm1 : (1 : Int) ≤ (k : Int) := by omega
          have hmt : ((k : Int) - 1).toNat = k - 1 := by omega
          have hk00 : ((k : Int) == 0) = false := by simp; omega
          go_wp2_with fail
          refine wp_drawn 15 (by kernel_rfl) (by kernel_rfl) (fun i => match i with
            | 12 => some fun v _ => v = .int .i64 (or2 (cmpI p.st x.st) (cmpI p.num x.num))
            | _ => none) ?_ ?_
          · intro j φ hφ v w1 w2 h1 h2
            split at hφ <;> cases hφ
            exact h1
          · intro ν
            simp only [List.take_succ_cons, List.take_zero]
            iterate 12 (refine Seq.pure ?_ rfl (fun w' hw hf => ?_) ?_; rotate_left; (· (have e0 := Ext.keep (w := w5.drew) hw z0; have e1 := Ext.keep (w := w5.drew) hw z1; have e2 := Ext.keep (w := w5.drew) hw z2; have e3 := Ext.keep (w := w5.drew) hw z3; have e4 := Ext.keep (w := w5.drew) hw p0; have e5 := Ext.keep (w := w5.drew) hw p1; have e6 := Ext.keep (w := w5.drew) hw p2; have e7 := Ext.keep (w := w5.drew) hw p3; unfold pureG; go_simp; with_reducible rfl)); simp only [Act.put, List.setIfInBounds_toArray, List.set_cons_zero, List.set_cons_succ, Nat.reduceAdd, Nat.zero_add])
            refine Seq.eff _ rfl (fun w' hw hf => giveG_of rfl (by simp) fun K hK => ?_) ?_
            · go_simp
              refine (byRef_any p.st p.num p.hr x.st x.num x.hr p.txt x.txt _).mono ?_
              rintro e w2 ⟨rfl, hb2⟩
              exact hK _ _ ⟨rfl, hb2⟩
            simp only [Act.put, List.setIfInBounds_toArray, List.set_cons_zero, List.set_cons_succ, Nat.reduceAdd, Nat.zero_add]
            iterate 2 (refine Seq.pure ?_ rfl (fun w' hw hf => ?_) ?_; rotate_left; (· (have e9 := hf 12 _ rfl (by kernel_rfl); unfold pureG; go_simp; with_reducible rfl)); simp only [Act.put, List.setIfInBounds_toArray, List.set_cons_zero, List.set_cons_succ, Nat.reduceAdd, Nat.zero_add])
            refine Seq.nil fun W hw hf => tail_one (i := 15) (by kernel_rfl) rfl (by kernel_rfl) rfl ?_
            have e9 := hf 12 _ (by omega) rfl
            rw [e9]
            have HW := Lib.hid (HE5.out.trans ((Ext.drew w5).trans hw |>.mono HE5.out.size))
            have HOW := Lib.hid (HO5.out.ext ((Ext.drew w5).trans hw))
            clear hw hf e9 z0 z1 z2 z3 p0 p1 p2 p3 hwm hml hm0 hm1 hmt hk00
            by_cases hT : or2 (cmpI p.st x.st) (cmpI p.num x.num) < 0
            · have hd1 : decide (or2 (cmpI p.st x.st) (cmpI p.num x.num) < 0) = true := by simp [hT]
              have HN2 : Hid (recsP n (xs ++ [x]) (ls.drop (k + 1)) = P) := by have := HN.out; rw [if_pos (show refLt p x = true from hd1)] at this; exact Lib.hid this
              go_wp2_with (go_at_call 135; refine (need_yes _).mono ?_; rintro e w' ⟨rfl, rfl⟩)
              go_roundw
              case rel => exact ⟨k + 1, xs ++ [x], by omega, by go_num, by simp [hxl], HOW.out, HN2.out, HW.out⟩
              case measure => simp [intOf]; omega
            · have hd1 : decide (or2 (cmpI p.st x.st) (cmpI p.num x.num) < 0) = false := by simp [hT]
              have HN2 : Hid (none = P) := by have := HN.out; rw [if_neg (show ¬ refLt p x = true from by unfold refLt; rw [hd1]; decide)] at this; exact Lib.hid this
              go_wp2_with (go_at_call 135; refine (need_no _).mono ?_; rintro e w' ⟨rfl, rfl⟩; unfold gaveUp)
              exact ⟨rfl, by rw [← HN2.out]; rfl, HW.out⟩
    · go_wp2
      go_ret
      obtain rfl : k = ls.length := by omega
      have := HR.out
      rw [List.drop_length, recsP] at this
      exact ⟨by rw [← this]; exact ⟨_, rfl, OwnR.slR HO.out⟩, HE.out⟩
end Go.Proofs.YtgjahnomafpnfaaGreatDoor

/- caught: giving up becomes an error. -/
namespace Go.Proofs.YtgjahnomafpnfaaGreatDoor
open Go.RowKit
theorem caught_idle (p : Addr) (w : World) :
    CallsD Tryz.prog 115 #[.pointer (some p)] .returning w fun e u' w' => e = .returned (.tuple #[]) ∧ u' = .returning ∧ w' = w := by
  refine callsD_of_wpS Tryz.func115 rfl fun c₀ cs hu => ?_
  apply wpS_seq
  apply wpS_region
  simp [wpOpsS, go_sem, recoverD, hu, Tryz.ntmps115, Exit.thenS]
  refine wpS_of_wp ?_
  go_wp2
  cases c₀
  simp_all [bodyPostS, results, Tryz.results115]
set_option maxHeartbeats 400000 in
set_option maxRecDepth 100000 in
theorem caught_no (b : Nat) (x : Int) (older : List PanicEntry) (w : World) (hc : w.cell? ⟨b, 0, none⟩ = some (.int .i64 x)) (hz : w.frozen? ⟨b, 0, none⟩ = false) :
    CallsD Tryz.prog 115 #[.pointer (some ⟨b, 0, none⟩)] (.panicking ({ v := .iface 228 (.agg #[]), recovered := false } :: older)) w fun e u' w' =>
      e = .returned (.tuple #[]) ∧ u' = .panicking ({ v := .iface 228 (.agg #[]), recovered := true } :: older) ∧ w'.cell? ⟨b, 0, none⟩ = some (.int .i64 4) ∧ FrB (fun j => j = b) w w' := by
  have hta : ∀ w, (Instr.typeAssert (.iface 228 (.agg #[])) 20 228 true).run Tryz.prog w = .ok (.tuple #[.agg #[], .bool true]) w := fun _ => by kernel_rfl
  have hst : ∀ (a : Addr) w, (Instr.storeAt 228 (.pointer (some a)) (.agg #[])).run Tryz.prog w = .ok () w := fun _ _ => by kernel_rfl
  have hlt := World.block_lt_of_cell? _ _ hc
  have hE := Ext.alloc w (.cells #[] 228)
  have hc1 := hE.keep hc
  have hz1 := (hE.frozen (p := ⟨b, 0, none⟩) hlt).trans hz
  refine callsD_of_wpS Tryz.func115 rfl fun c₀ cs hu => ?_
  apply wpS_seq
  apply wpS_region
  simp [wpOpsS, go_sem, recoverD, hu, Tryz.ntmps115, Exit.thenS]
  refine wpS_of_wp ?_
  have HU := Lib.hid hu
  clear hu
  have HE := Lib.hid hE
  clear hE
  simp only [Array.replicate_succ, Array.replicate_zero, List.push_toArray, List.append_toArray, List.nil_append, List.cons_append, List.setIfInBounds_toArray, List.set_cons_zero, List.set_cons_succ]
  go_wp2
  have h1 : ((w.setCell ⟨b, 0, none⟩ (.int .i64 4)).alloc (.cells #[] 228)).cell? ⟨b, 0, none⟩ = some (.int .i64 4) := (Ext.alloc _ _).keep (World.cell?_setCell_same _ _ _ hc)
  have h2 : FrB (fun j => j = b) w ((w.setCell ⟨b, 0, none⟩ (.int .i64 4)).alloc (.cells #[] 228)) := (FrB.setCell (fun j => j = b) _ _ _ rfl).trans (FrB.ext (Ext.alloc _ _)) (fun _ _ e => e)
  simp [bodyPostS, results, Tryz.results115, h1, h2]
end Go.Proofs.YtgjahnomafpnfaaGreatDoor

/- parse: its words, and the small walks (ContainsFunc over a greeting, an append to a greeting, the ends of parse). -/
namespace Go.Proofs.YtgjahnomafpnfaaGreatDoor
open Go.RowKit
theorem info3 : (Tryz.prog.info? 3).map (fun i => (i.zero, i.size, i.bytes)) = some (some (.int .i64 0), 1, 8) := by kernel_rfl
theorem u135 : Tryz.prog.underlying 135 = some (.slice 3) := by kernel_rfl
def ints (gs : List Int) : List Value := gs.map (.int .i64)
/-- A row of numbers of the owner's own. -/
abbrev OwnI (w : World) (base : Nat) (v : Value) (gs : List Int) : Prop := w.ownsRow base 3 1 v gs.length (ints gs)
theorem OwnI.ext {w w' : World} {base : Nat} {v : Value} {gs : List Int} (h : OwnI w base v gs) (hE : Ext w w') : OwnI w' base v gs := (FrB.ext (S := fun _ => False) hE).owns h fun _ _ => id
theorem OwnI.shape {w : World} {base : Nat} {v : Value} {gs : List Int} (h : OwnI w base v gs) : ∃ a c, v = .slice a gs.length c := by
  rcases h.2 with ⟨h1, h2⟩ | ⟨g, cap, cur, h1, _⟩
  · exact ⟨none, 0, by rw [h1, h2]⟩
  · exact ⟨_, cap, h1⟩
theorem OwnI.slI {w : World} {base : Nat} {v : Value} {gs : List Int} (h : OwnI w base v gs) : SlI w v gs := by
  rcases h.2 with ⟨h1, h2⟩ | ⟨g, cap, cur, h1, h2, h3, h4, h5, h6⟩
  · exact .inl ⟨h1, List.eq_nil_of_length_eq_zero h2⟩
  · exact .inr ⟨g, 0, cap, h1, h4, h5, (Array.getElem?_eq_some_iff.1 h3).1, fun j u hu => by
      have := h.cells (g := g) (by rw [h1]; rfl) j (.int .i64 u) (by simp [ints, hu])
      rw [addr_add] at this
      simpa using this⟩
theorem OwnI.frB {w w' : World} {base : Nat} {v : Value} {gs : List Int} (h : OwnI w base v gs) {S : Nat → Prop} (hF : FrB S w w') (hn : ∀ g, v.ownBlock = some g → ¬ S g) : OwnI w' base v gs := hF.owns h hn
/-- A number appended to a greeting of one's own. -/
theorem wpList_app135 {ops : Array Oper} {rest : List Oper} {o : Oper} {a : Act} {w : World} {Q : Exit → Act → World → Prop} (hgd : o.guard = none) (s x : Operand)
    (ho : o.op = .call { callee := .builtin .append, args := #[s, x], argTypes := #[135, 135] })
    (base : Nat) (v : Value) (gs : List Int) (h : OwnI w base v gs) (y : Int) (g m c : Nat) (hs : a.eval s = v) (hx : a.eval x = .slice (some ⟨g, 0, none⟩) m c) (hm : m = 1)
    (hc : w.cell? ⟨g, 0, none⟩ = some (.int .i64 y)) (hn : gs.length + 1 ≤ 1000000) (hb : base ≤ w.heap.size)
    (hK : ∀ v' w', OwnI w' base v' (gs ++ [y]) → Below base w w' → ExtApp v.ownBlock (gs.length * 1) (ints [y]) w w' → (∀ g, v'.ownBlock = some g → g = w.heap.size ∨ v.ownBlock = some g) → wpList Tryz.prog ops Q rest (a.put o.dst v') w') :
    wpList Tryz.prog ops Q (o :: rest) a w := by
  subst hm
  obtain ⟨i0, hi0, hz0, hz1, hz2⟩ := info_parts info3
  obtain ⟨gg, cap, w', h1, h2, h3, h4, h5⟩ := run_append_app (P := Tryz.prog) w base 135 o.type 3 i0 _ 1 8 u135 hi0 hz0 hz1 hz2 rfl (by omega) v gs.length (ints gs) h ⟨g, 0, none⟩ 1 c (ints [y]) rfl (fun j u hu => by
    match j, hu with
    | 0, hu => cases hu; rw [addr_add]; exact hc) (fun u hu => by simp [ints] at hu; rw [hu]; rfl) (by omega) (by unfold maxLen; omega) (by omega) hb
  refine Lib.wpList_append_run w hgd s x 135 135 ho v _ hs hx _ w' h1 (hK _ w' ?_ (h3.below hb (fun g hg => (h.lt g hg).1)) h3 (fun g hg => by cases hg; exact h4))
  have e : ints gs ++ ints [y] = ints (gs ++ [y]) := by simp [ints]
  unfold OwnI
  rw [List.length_append, ← e]
  exact h2
/-- The first place of a number over 400, or -1. -/
def overIx (l : List Int) : Int := match l.findIdx? (fun c => decide (400 < c)) with | some i => (i : Int) | none => -1
theorem overIx_at {l : List Int} {k : Nat} (h : ∀ j, j < k → l.getD j 0 ≤ 400) (hk : k < l.length) (hb : 400 < l.getD k 0) : overIx l = (k : Int) := by
  have : l.findIdx? (fun c => decide (400 < c)) = some k := by
    rw [List.findIdx?_eq_some_iff_getElem]
    refine ⟨hk, ?_, fun j hj => ?_⟩
    · have e : l.getD k 0 = l[k] := by simp [List.getD, hk]
      rw [e] at hb; simp [hb]
    · have := h j hj
      have e : l.getD j 0 = l[j] := by simp [List.getD, show j < l.length by omega]
      rw [e] at this; simpa using this
  simp [overIx, this]
theorem overIx_none {l : List Int} (h : ∀ j, j < l.length → l.getD j 0 ≤ 400) : overIx l = -1 := by
  have : l.findIdx? (fun c => decide (400 < c)) = none := by
    rw [List.findIdx?_eq_none_iff]
    intro x hx
    obtain ⟨j, hj, rfl⟩ := List.mem_iff_getElem.1 hx
    have := h j hj
    have e : l.getD j 0 = l[j] := by simp [List.getD, hj]
    rw [e] at this; simpa using this
  simp [overIx, this]
def overB (l : List Int) : Bool := l.any fun c => decide (400 < c)
theorem overIx_any (l : List Int) : decide (0 ≤ overIx l) = overB l := by
  unfold overIx overB
  cases h : l.findIdx? (fun c => decide (400 < c)) with
  | none =>
    rw [List.findIdx?_eq_none_iff] at h
    have : l.any (fun c => decide (400 < c)) = false := List.any_eq_false.2 fun x hx => by simpa using h x hx
    simp [this]
  | some i =>
    obtain ⟨hi, hp, _⟩ := List.findIdx?_eq_some_iff_getElem.1 h
    have : l.any (fun c => decide (400 < c)) = true := List.any_eq_true.2 ⟨l[i], List.getElem_mem hi, hp⟩
    simp [this]
theorem over1_any (c : Int) (w : World) : Calls Tryz.prog 138 #[.int .i64 c] w fun e w' => e = .returned (.bool (decide (400 < c))) ∧ w' = w := by
  go_enter Tryz.func138, Tryz.ntmps138
  go_wp2
  go_ret
  exact ⟨rfl, rfl⟩
set_option maxHeartbeats 400000 in
set_option maxRecDepth 100000 in
theorem overIx_walk (v : Value) (l : List Int) (w : World) (hv : SlI w v l) (hl : l.length ≤ 1000) :
    Calls Tryz.prog 173 #[v, .func (.func 138) #[] #[]] w fun e w' => e = .returned (.int .i64 (overIx l)) ∧ w' = w := by
  obtain ⟨ao, cap, rfl, hc⟩ := hv.open
  have HC := Lib.hid hc
  clear hc hv
  go_enter Tryz.func173, Tryz.ntmps173
  go_wp2
  go_loop [5, 8] (fun _ i => ∃ k : Nat, k ≤ l.length ∧ i = .int .i64 k ∧ ∀ j, j < k → l.getD j 0 ≤ 400) (fun _ i => l.length - (intOf i).toNat)
  case atStart => exact ⟨0, by omega, rfl, by omega⟩
  case round =>
    obtain ⟨k, hk, rfl, hj⟩ := hrel
    have HJ := Lib.hid hj
    clear hj
    by_cases hlt : k < l.length
    · obtain ⟨g, hg⟩ : ∃ g, l[k]? = some g := ⟨_, List.getElem?_eq_getElem hlt⟩
      obtain ⟨b, off, rfl, hcell⟩ := HC.out k g hg
      have hgd : l.getD k 0 = g := by simp [List.getD, hg]
      have HG := Lib.hid hgd
      have hlt' : (k : Int) < l.length := by omega
      clear hg hgd
      by_cases ho : 400 < g
      · have hd : decide (400 < g) = true := by simp [ho]
        go_wp2_with (go_at_call 138; refine (over1_any _ _).mono ?_; rintro e w' ⟨rfl, rfl⟩)
        go_ret
        exact ⟨ret_int (overIx_at HJ.out hlt (by rw [HG.out]; exact ho)).symm, rfl⟩
      · have hd : decide (400 < g) = false := by simp [ho]
        go_wp2_with (go_at_call 138; refine (over1_any _ _).mono ?_; rintro e w' ⟨rfl, rfl⟩)
        go_round
        case rel => exact ⟨k + 1, by omega, by go_num, fun j h => by
          rcases (by omega : j < k ∨ j = k) with h | rfl
          · exact HJ.out j h
          · rw [HG.out]; omega⟩
        case measure => simp [intOf]; omega
    · have hge : ¬ ((k : Int) < l.length) := by omega
      go_wp2
      go_ret
      exact ⟨ret_int (overIx_none (fun j h => HJ.out j (by omega))).symm, rfl⟩
set_option maxHeartbeats 400000 in
set_option maxRecDepth 100000 in
theorem over_any (v : Value) (l : List Int) (w : World) (hv : SlI w v l) (hl : l.length ≤ 1000) :
    Calls Tryz.prog 137 #[v, .func (.func 138) #[] #[]] w fun e w' => e = .returned (.bool (overB l)) ∧ w' = w := by
  obtain ⟨a, m, c, rfl⟩ : ∃ a m c, v = .slice a m c := by
    obtain ⟨a, c, h, _⟩ := hv.open
    exact ⟨a, _, c, h⟩
  have HO := Lib.hid (overIx_walk _ l w hv hl)
  clear hv
  go_enter Tryz.func137, Tryz.ntmps137
  go_wp2_with (go_at_call 173; refine HO.out.mono ?_; rintro e w' ⟨rfl, rfl⟩)
  go_ret
  exact ⟨ret_bool (overIx_any l), rfl⟩
/-- parse gives up: an error. -/
theorem parse_gave {w W : World} {E : Nat} (hc : W.cell? ⟨E, 0, none⟩ = some (.int .i64 0)) (hf : W.frozen? ⟨E, 0, none⟩ = false) (hB : Ext w W) (hE : w.heap.size ≤ E) (tm : Array Value) (ov : Value) (h4 : tm[4]?.getD undef = ov) (h5 : tm[5]?.getD undef = .pointer (some ⟨E, 0, none⟩))
    (R : Ending → World → Prop) (hR : ∀ W', Ext w W' → R (.returned (.tuple #[ov, .int .i64 4])) W') :
    bodyPostD Tryz.prog Tryz.f75 R (Exit.panic [{ v := .iface 228 (.agg #[]), recovered := false }]) { tmps := tm, defers := [{ target := Target.fn (Fn.func 115) #[], args := #[.pointer (some ⟨E, 0, none⟩)] }] } W := by
  refine leaves_cons (f := 115) (args := #[.pointer (some ⟨E, 0, none⟩)]) (by simp) (by simp [go_sem]) ?_
  refine (caught_no E 0 [] W hc hf).mono ?_
  rintro e u' w'' ⟨rfl, rfl, h1, h2⟩
  have hx : Ext w w'' := Below.trans (B := w.heap.size) hB (h2.below hB.size (fun j hj => by omega))
  have := hR w'' hx
  simp [Leaves, settle, results, Tryz.results75, go_sem, h4, h5, h1]
  exact this
/-- parse ends well. -/
theorem parse_done {W : World} {E : Nat} (hc : W.cell? ⟨E, 0, none⟩ = some (.int .i64 0)) (tm : Array Value) (ov : Value) (h4 : tm[4]?.getD undef = ov) (h5 : tm[5]?.getD undef = .pointer (some ⟨E, 0, none⟩))
    (R : Ending → World → Prop) (hR : R (.returned (.tuple #[ov, .int .i64 0])) W) :
    bodyPostD Tryz.prog Tryz.f75 R Exit.ret { tmps := tm, defers := [{ target := Target.fn (Fn.func 115) #[], args := #[.pointer (some ⟨E, 0, none⟩)] }] } W := by
  refine leaves_cons (f := 115) (args := #[.pointer (some ⟨E, 0, none⟩)]) (by simp) (by simp [go_sem]) ?_
  refine (caught_idle ⟨E, 0, none⟩ W).mono ?_
  rintro e u' w'' ⟨rfl, rfl, rfl⟩
  simp [Leaves, settle, results, Tryz.results75, go_sem, h4, h5, hc]
  exact hR
end Go.Proofs.YtgjahnomafpnfaaGreatDoor
