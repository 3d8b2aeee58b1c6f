/- Lemmas and walks that this claim needs, in one text out of several; each states its own conditions. -/
import Derived.Test.YtgjahnomafpnfaaGreatDoorMB2
import Derived.Laws.MakeOwn
import Derived.Great.BuildSlice
import Derived.Great.FillDense
import Derived.Stop.BytesEq
set_option linter.unusedVariables false
set_option linter.unusedSimpArgs false
/- slices.insertionSortCmpFunc at records by the one order: the walk. -/
namespace Go.Proofs.YtgjahnomafpnfaaGreatDoor
open Go.RowKit
set_option maxHeartbeats 800000 in
set_option maxRecDepth 100000 in
theorem insertion_any (B : Nat) (w0 : World) (g cap a b : Nat) (zs : List Rec) (w : World) (hR : RowW B w0 w g zs) (hab : a ≤ b) (hb : b ≤ zs.length) (hn : zs.length ≤ 1000000) :
    Calls Tryz.prog 192 #[.slice (some ⟨g, 0, none⟩) zs.length cap, .int .i64 a, .int .i64 b, .func (.func 79) #[] #[]] w fun e w' => e = .returned (.tuple #[]) ∧ ∃ zs', RowW B w0 w' g zs' ∧ Moved a b zs zs' ∧ SortedOn a b zs' := by
  have HR := Lib.hid hR
  clear hR
  go_enter Tryz.func192, Tryz.ntmps192
  go_wp2
  go_loopw [8] (fun vi wr => ∃ (i : Nat) (ys : List Rec), vi = .int .i64 i ∧ a + 1 ≤ i ∧ (i ≤ b ∨ i = a + 1) ∧ RowW B w0 wr g ys ∧ Moved a b zs ys ∧ SortedOn a i ys) (fun vi _ => b + 1 - (intOf vi).toNat)
  case atStart => exact ⟨a + 1, zs, by go_num, by omega, .inr rfl, HR.out, Moved.refl _ _ _, fun p q _ _ h1 h2 h3 => by omega⟩
  case round =>
    obtain ⟨i, ys, rfl, hi, hib, hR, hM, hS⟩ := hrel
    have HR := Lib.hid hR
    have HM := Lib.hid hM
    have HS := Lib.hid hS
    have hlen : ys.length = zs.length := hM.perm.length_eq
    clear hR hM hS
    by_cases hlt : i < b
    · have hltz : (i : Int) < (b : Int) := by omega
      go_wp2
      go_loopw [9] (fun vj wr2 => ∃ (j : Nat) (xs : List Rec), vj = .int .i64 j ∧ a ≤ j ∧ j ≤ i ∧ RowW B w0 wr2 g xs ∧ Moved a b zs xs ∧ Sinks a i j xs) (fun vj _ => (intOf vj).toNat)
      case atStart => exact ⟨i, ys, rfl, by omega, Nat.le_refl _, HR.out, HM.out, Sinks.start HS.out⟩
      case round =>
        obtain ⟨j, xs, rfl, haj, hji, hR2, hM2, hS2⟩ := hrel
        have HR2 := Lib.hid hR2
        have HM2 := Lib.hid hM2
        have HS2 := Lib.hid hS2
        have hlen2 : xs.length = zs.length := hM2.perm.length_eq
        clear hR2 hM2 hS2
        by_cases hja : a < j
        · have hjaz : (a : Int) < (j : Int) := by omega
          obtain ⟨k, rfl⟩ : ∃ k, j = k + 1 := ⟨j - 1, by omega⟩
          obtain ⟨x, hx⟩ : ∃ x, xs[k + 1]? = some x := ⟨_, List.getElem?_eq_getElem (by omega)⟩
          obtain ⟨y, hy⟩ : ∃ y, xs[k]? = some y := ⟨_, List.getElem?_eq_getElem (by omega)⟩
          obtain ⟨c0, c1, c2, c3⟩ := HR2.out.cells hx
          obtain ⟨d0, d1, d2, d3⟩ := HR2.out.cells hy
          have hk1 : ((k : Int) + 1 < zs.length) := by have := (List.getElem?_eq_some_iff.1 hx).1; omega
          have p0 : (0 : Int) ≤ (k : Int) + 1 := by omega
          have hja1 : (a : Int) < (k : Int) + 1 := by omega
          have hja2 : decide ((a : Int) < (k : Int) + 1) = true := by rw [decide_eq_true_eq]; omega
          have hk2 : (k : Int) < zs.length := by omega
          have hwk : IntKind.i64.wrap (k : Int) = k := IntWalk.i64_in _ (by omega)
          have e0 : ((k : Int) + 1).toNat = k + 1 := by omega
          go_wp2
          refine wp_drawn 17 (by kernel_rfl) (by kernel_rfl) (fun i => match i with
            | 14 => some fun v _ => v = .int .i64 (ordC x y)
            | 15 => some fun v _ => v = .bool (decide (ordC x y < 0))
            | 16 => some fun v _ => v = .bool (decide (ordC x y < 0))
            | _ => none) ?_ ?_
          · intro j φ hφ v w1 w2 h1 h2
            split at hφ <;> cases hφ
            all_goals exact h1
          intro ν
          simp only [List.take_succ_cons, List.take_zero]
          iterate 14 (refine Seq.pure ?_ rfl (fun w' hw hf => ?_) ?_; rotate_left; (· (have k0 := hw.keep (w := World.drew _) c0; have k1 := hw.keep (w := World.drew _) c1; have k2 := hw.keep (w := World.drew _) c2; have k3 := hw.keep (w := World.drew _) c3; have l0 := hw.keep (w := World.drew _) d0; have l1 := hw.keep (w := World.drew _) d1; have l2 := hw.keep (w := World.drew _) d2; have l3 := hw.keep (w := World.drew _) d3; unfold pureG; go_simp; with_reducible rfl)); simp only [Act.put, List.setIfInBounds_toArray, List.set_cons_zero, List.set_cons_succ, Nat.reduceAdd, Nat.zero_add])
          refine Seq.eff _ rfl (fun w' hw hf => giveG_of rfl (by simp) fun K hK => ?_) ?_
          · go_simp
            refine (ord_any x y _).mono ?_
            rintro e w2 ⟨rfl, hb⟩
            exact hK _ _ ⟨rfl, hb⟩
          simp only [Act.put, List.setIfInBounds_toArray, List.set_cons_zero, List.set_cons_succ, Nat.reduceAdd, Nat.zero_add]
          refine Seq.eff _ rfl (fun w' hw hf => giveG_of rfl (by simp) fun K hK => ?_) ?_
          · have h14 := hf 14 _ rfl (by kernel_rfl)
            simp only [h14] at hK ⊢
            go_simp
            exact hK _ _ ⟨rfl, Ext.refl _⟩
          simp only [Act.put, List.setIfInBounds_toArray, List.set_cons_zero, List.set_cons_succ, Nat.reduceAdd, Nat.zero_add]
          refine Seq.eff _ rfl (fun w' hw hf => giveG_of rfl (by simp) fun K hK => ?_) ?_
          · have h15 := hf 15 _ rfl (by kernel_rfl)
            simp only [h15] at hK ⊢
            go_simp
            exact hK _ _ ⟨rfl, Ext.refl _⟩
          simp only [Act.put, List.setIfInBounds_toArray, List.set_cons_zero, List.set_cons_succ, Nat.reduceAdd, Nat.zero_add]
          refine Seq.nil fun w' hw hf => tail_none (by kernel_rfl) ?_
          have h16 := hf 16 _ (by omega) rfl
          rw [h16]
          have hE : Ext wr w' := (Ext.drew wr).trans hw
          by_cases hc : ordC x y < 0
          · have hcd : decide (ordC x y < 0) = true := by simpa using hc
            have HR3 := Lib.hid (HR2.out.ext hE)
            have cc0 := hE.keep c0
            have cc1 := hE.keep c1
            have cc2 := hE.keep c2
            have cc3 := hE.keep c3
            have dd0 := hE.keep d0
            have dd1 := hE.keep d1
            have dd2 := hE.keep d2
            have dd3 := hE.keep d3
            have hkx : k + 1 < xs.length := by omega
            clear c0 c1 c2 c3 d0 d1 d2 d3 h16 hf hw
            generalize hv14 : ν 14 = v14
            generalize hv15 : ν 15 = v15
            clear hv14 hv15
            obtain ⟨f0, f1, f2, f3⟩ := HR3.out.marks (j := k + 1) (by omega)
            obtain ⟨m0, m1, m2, m3⟩ := HR3.out.marks (j := k) (by omega)
            go_wp2_with fail
            go_big_region
            all_goals go_wp2
            go_roundw
            case rel => exact ⟨k, (xs.set (k + 1) y).set k x, by go_num, by omega, by omega, ((HR3.out.set (k + 1) y hkx).set k x (by rw [List.length_set]; omega)).ext (Ext.drew _), HM2.out.trans (swap_moved hx hy (by omega) (by omega)), HS2.out.swap (by omega) (by omega) hx hy hc⟩
            case measure => simp [intOf]
          · have hcd : decide (ordC x y < 0) = false := by simpa using hc
            go_wp2
            exact ⟨⟨i + 1, xs, by go_num, by omega, .inl (by omega), HR2.out.ext hE, HM2.out, HS2.out.done (.inr ⟨x, y, by simpa using hy, hx, by unfold leR; omega⟩)⟩, by simp [intOf]; omega⟩
        · obtain rfl : j = a := by omega
          have hjf : decide ((j : Int) < (j : Int)) = false := by simp
          have hE : Ext wr wr.drew := Ext.drew wr
          go_wp2_with fail
          go_big_region
          all_goals go_wp2
          exact ⟨⟨i + 1, xs, by go_num, by omega, .inl (by omega), HR2.out.ext hE, HM2.out, HS2.out.done (.inl (Nat.le_refl _))⟩, by simp [intOf]; omega⟩
    · go_wp2
      refine bodyPost_end (results_none rfl _ _ _) rfl ⟨rfl, ys, HR.out, HM.out, fun p q u v h1 h2 h3 => HS.out p q u v h1 h2 (by omega)⟩
end Go.Proofs.YtgjahnomafpnfaaGreatDoor

/- slices.SortStableFunc, ordered and Order at records (fewer than 20). -/
namespace Go.Proofs.YtgjahnomafpnfaaGreatDoor
open Go.RowKit
set_option maxHeartbeats 800000 in
set_option maxRecDepth 100000 in
theorem stable_any (B : Nat) (w0 : World) (g cap : Nat) (zs : List Rec) (w : World) (hR : RowW B w0 w g zs) (hn : zs.length < 20) :
    Calls Tryz.prog 174 #[.slice (some ⟨g, 0, none⟩) zs.length cap, .int .i64 zs.length, .func (.func 79) #[] #[]] w fun e w' => e = .returned (.tuple #[]) ∧ ∃ zs', RowW B w0 w' g zs' ∧ zs'.Perm zs ∧ SortedOn 0 zs.length zs' := by
  have HR := Lib.hid (insertion_any B w0 g cap 0 zs.length zs w hR (by omega) (Nat.le_refl _) (by omega))
  clear hR
  have hl : ¬ ((20 : Int) ≤ zs.length) := by omega
  have hl' : ¬ ((20 : Int) < zs.length) := by omega
  go_enter Tryz.func174, Tryz.ntmps174
  go_wp2
  go_loopw [7, 8] (fun x y wr => x = .int .i64 0 ∧ y = .int .i64 20 ∧ w = wr) (fun _ _ _ => 0)
  case atStart => exact ⟨rfl, rfl, rfl⟩
  case round =>
    obtain ⟨rfl, rfl, rfl⟩ := hrel
    go_wp2_with fail
    refine HR.out.mono ?_
    rintro e w1 ⟨rfl, zs', h1, h2, h3⟩
    have H := Lib.hid (And.intro h1 (And.intro h2 h3))
    clear h1 h2 h3
    go_wp2
    go_loopw [6, 7, 8, 9] (fun x _ _ _ wr => x = .int .i64 20 ∧ w1 = wr) (fun _ _ _ _ _ => 0)
    case atStart => exact ⟨rfl, rfl⟩
    case round =>
      obtain ⟨rfl, rfl⟩ := hrel
      go_wp2
      refine bodyPost_end (results_none rfl _ _ _) rfl ⟨rfl, zs', H.out.1, H.out.2.1.perm, H.out.2.2⟩
set_option maxHeartbeats 400000 in
set_option maxRecDepth 100000 in
theorem sortStable_any (B : Nat) (w0 : World) (g cap : Nat) (zs : List Rec) (w : World) (hR : RowW B w0 w g zs) (hn : zs.length < 20) :
    Calls Tryz.prog 144 #[.slice (some ⟨g, 0, none⟩) zs.length cap, .func (.func 79) #[] #[]] w fun e w' => e = .returned (.tuple #[]) ∧ ∃ zs', RowW B w0 w' g zs' ∧ zs'.Perm zs ∧ SortedOn 0 zs.length zs' := by
  have HR := Lib.hid (stable_any B w0 g cap zs w hR hn)
  clear hR
  go_enter Tryz.func144, Tryz.ntmps144
  go_wp2_with fail
  refine HR.out.mono ?_
  rintro e w1 ⟨rfl, h⟩
  have H := Lib.hid h
  clear h
  go_wp2
  refine bodyPost_end (results_none rfl _ _ _) rfl ⟨rfl, H.out⟩
set_option maxHeartbeats 400000 in
set_option maxRecDepth 100000 in
theorem insertion_nil (w : World) : Calls Tryz.prog 192 #[.slice none 0 0, .int .i64 0, .int .i64 0, .func (.func 79) #[] #[]] w fun e w' => e = .returned (.tuple #[]) ∧ w' = w := by
  go_enter Tryz.func192, Tryz.ntmps192
  go_wp2
  go_loopw [8] (fun vi wr => vi = .int .i64 1 ∧ w = wr) (fun _ _ => 0)
  case atStart => exact ⟨rfl, rfl⟩
  case round =>
    obtain ⟨rfl, rfl⟩ := hrel
    go_wp2
    exact bodyPost_end (results_none rfl _ _ _) rfl ⟨rfl, rfl⟩
set_option maxHeartbeats 400000 in
set_option maxRecDepth 100000 in
theorem stable_nil (w : World) : Calls Tryz.prog 174 #[.slice none 0 0, .int .i64 0, .func (.func 79) #[] #[]] w fun e w' => e = .returned (.tuple #[]) ∧ w' = w := by
  go_enter Tryz.func174, Tryz.ntmps174
  go_wp2
  go_loopw [7, 8] (fun x y wr => x = .int .i64 0 ∧ y = .int .i64 20 ∧ w = wr) (fun _ _ _ => 0)
  case atStart => exact ⟨rfl, rfl, rfl⟩
  case round =>
    obtain ⟨rfl, rfl, rfl⟩ := hrel
    go_wp2_with fail
    refine (insertion_nil _).mono ?_
    rintro e w1 ⟨rfl, rfl⟩
    go_wp2
    go_loopw [6, 7, 8, 9] (fun x _ _ _ wr => x = .int .i64 20 ∧ w1 = wr) (fun _ _ _ _ _ => 0)
    case atStart => exact ⟨rfl, rfl⟩
    case round =>
      obtain ⟨rfl, rfl⟩ := hrel
      go_wp2
      exact bodyPost_end (results_none rfl _ _ _) rfl ⟨rfl, rfl⟩
set_option maxHeartbeats 400000 in
set_option maxRecDepth 100000 in
theorem sortStable_nil (w : World) : Calls Tryz.prog 144 #[.slice none 0 0, .func (.func 79) #[] #[]] w fun e w' => e = .returned (.tuple #[]) ∧ w' = w := by
  go_enter Tryz.func144, Tryz.ntmps144
  go_wp2_with fail
  refine (stable_nil w).mono ?_
  rintro e w1 ⟨rfl, rfl⟩
  go_wp2
  exact bodyPost_end (results_none rfl _ _ _) rfl ⟨rfl, rfl⟩
theorem OwnR.rowW {w0 w : World} {g cap : Nat} {xs : List Rec} (h : OwnR w w0.heap.size (.slice (some ⟨g, 0, none⟩) xs.length cap) xs) (hb : Below w0.heap.size w0 w) : RowW w0.heap.size w0 w g xs := by
  rcases h.2 with ⟨h1, _⟩ | ⟨g', cap', cur, h1, h2, h3, h4, h5, h6, h7⟩
  · cases h1
  · cases h1
    have hc : ∀ j u, (flat xs)[j]? = some u → w.cell? ⟨g, j, none⟩ = some u := fun j u hu => by
      have := h.cells (g := g) rfl j u hu
      rwa [addr_add] at this
    refine ⟨fun j v hv => by simpa using hc j v hv, fun j hj => ⟨?_, ?_⟩, hb, (Array.getElem?_eq_some_iff.1 h3).1, h2, Nat.le_refl _⟩
    · have : j < (flat xs).length := by rw [flat_length]; exact hj
      rw [Nat.zero_add, hc j _ (List.getElem?_eq_getElem this)]; rfl
    · simp [World.frozen?, h3]
theorem RowW.slW {B : Nat} {w0 w : World} {g cap : Nat} {xs : List Rec} (h : RowW B w0 w g xs) (h1 : xs.length ≤ cap) (h2 : cap ≤ maxLen) : SlW w B (.slice (some ⟨g, 0, none⟩) xs.length cap) xs :=
  .inr ⟨g, cap, rfl, h.base, h1, h2, h.lt, fun j u hu => by simpa using h.row j u hu, fun j hj => by simpa using (h.there j hj).2⟩
/-- A list of records in the one order: the order is total on the records of a book, so there is one such list. -/
def InOrder (xs ys : List Rec) : Prop := ys.Perm xs ∧ SortedOn 0 xs.length ys
set_option maxHeartbeats 400000 in
set_option maxRecDepth 100000 in
theorem ordered_any (v : Value) (xs : List Rec) (w : World) (h : SlR w v xs) (hn : xs.length < 20) :
    Calls Tryz.prog 78 #[v, .func (.func 79) #[] #[]] w fun e w' => ∃ v' ys, e = .returned v' ∧ InOrder xs ys ∧ SlW w' w.heap.size v' ys ∧ Below w.heap.size w w' := by
  obtain ⟨a, m, c, rfl⟩ : ∃ a m c, v = .slice a m c := by
    obtain ⟨a, c, e⟩ := h.shape
    exact ⟨a, _, c, e⟩
  have HC := Lib.hid (Clone_any _ xs w h (by omega))
  clear h
  go_enter Tryz.func78, Tryz.ntmps78
  go_wp2_with fail
  refine HC.out.mono ?_
  rintro e w1 ⟨v1, rfl, ho, hb⟩
  rcases ho.2 with ⟨rfl, h0⟩ | ⟨g, cap, cur, rfl, h2, h3, h4, h5, h6, h7⟩
  · obtain rfl := List.eq_nil_of_length_eq_zero h0
    go_wp2_with fail
    refine (sortStable_nil w1).mono ?_
    rintro e w2 ⟨rfl, rfl⟩
    go_wp2
    go_ret
    exact ⟨_, [], rfl, ⟨.refl _, fun p q _ _ _ _ h3 => by simp at h3⟩, .inl ⟨rfl, rfl⟩, hb⟩
  · have HR := Lib.hid (sortStable_any w.heap.size w g cap xs w1 (OwnR.rowW ho hb) hn)
    clear ho h7 h6 h3
    go_wp2_with fail
    refine HR.out.mono ?_
    rintro e w2 ⟨rfl, ys, k1, k2, k3⟩
    have H := Lib.hid (And.intro k1 (And.intro k2 k3))
    clear k1 k2 k3
    go_wp2
    go_ret
    have hl := H.out.2.1.length_eq
    exact ⟨_, ys, rfl, ⟨H.out.2.1, H.out.2.2⟩, by rw [← hl]; exact H.out.1.slW (by omega) h5, H.out.1.below⟩
set_option maxHeartbeats 400000 in
set_option maxRecDepth 100000 in
theorem Order_any (n : Int) (v : Value) (xs : List Rec) (w : World) (h : SlR w v xs) (hn : xs.length < 20) :
    Calls Tryz.prog 25 #[.int .i64 n, v] w fun e w' => Below w.heap.size w w' ∧ (((sortedP n xs).2.2 ≠ 0 ∧ e = .returned (.tuple #[.slice none 0 0, .int .i64 (sortedP n xs).2.2])) ∨
      ((sortedP n xs).2.2 = 0 ∧ ∃ v' ys, e = .returned (.tuple #[v', .int .i64 0]) ∧ InOrder xs ys ∧ SlW w' w.heap.size v' ys)) := by
  obtain ⟨a, m, c, rfl⟩ : ∃ a m c, v = .slice a m c := by
    obtain ⟨a, c, e⟩ := h.shape
    exact ⟨a, _, c, e⟩
  have HC := Lib.hid (CheckRecords_any n _ xs w h (by omega))
  go_enter Tryz.func25, Tryz.ntmps25
  go_wp2_with fail
  refine HC.out.mono ?_
  rintro e w1 ⟨rfl, hb⟩
  have HO := Lib.hid (ordered_any _ xs w1 (h.ext hb) hn)
  have hz := hb.size
  have HB := Lib.hid hb
  clear h hb
  by_cases he : (sortedP n xs).2.2 = 0
  · rw [he]
    go_wp2_with fail
    refine HO.out.mono ?_
    rintro e w2 ⟨v2, ys, rfl, k1, k2, k3⟩
    obtain ⟨a2, m2, c2, rfl⟩ := k2.shape3
    have H := Lib.hid (And.intro k1 (And.intro k2 k3))
    clear k1 k2 k3
    go_wp2
    go_ret2
    refine ⟨HB.out.trans (H.out.2.2.mono hz), .inr ⟨he, _, ys, rfl, H.out.1, ?_⟩⟩
    rcases H.out.2.1 with q | ⟨g, cap, q1, q2, q3⟩
    · exact .inl q
    · exact .inr ⟨g, cap, q1, by omega, q3⟩
  · generalize hq : (sortedP n xs).2.2 = e2 at he ⊢
    have hne : (e2 != 0) = true := by simpa using he
    go_wp2
    go_ret2
    exact ⟨HB.out, .inl ⟨by rw [hq]; exact he, by rw [hq]; rfl⟩⟩
end Go.Proofs.YtgjahnomafpnfaaGreatDoor

/- The disk in memory; NewDisk, ready, power, Down, Stop. -/
namespace Go.Proofs.YtgjahnomafpnfaaGreatDoor
open Go.RowKit
/-- A sector: 64 bytes. -/
abbrev Sec := List UInt8
def scells (s : Sec) : List Value := s.map fun b => .int .u8 (b.toNat : Int)
theorem scells_length (s : Sec) : (scells s).length = s.length := by simp [scells]
def flatS (l : List Sec) : List Value := l.flatMap scells
def zsec : Sec := List.replicate 64 0
def pcells (p : Nat × Sec) : List Value := .int .i64 (p.1 : Int) :: scells p.2
def flatP (l : List (Nat × Sec)) : List Value := l.flatMap pcells
theorem flatS_length (l : List Sec) (h : ∀ s ∈ l, s.length = 64) : (flatS l).length = l.length * 64 := by
  induction l with
  | nil => rfl
  | cons s l ih =>
    have := ih (fun x hx => h x (List.mem_cons_of_mem _ hx))
    simp only [flatS, List.flatMap_cons, List.length_append, List.length_cons, scells_length] at this ⊢
    rw [this, h s (List.mem_cons_self ..)]; omega
theorem flatS_get (l : List Sec) (h : ∀ s ∈ l, s.length = 64) : ∀ (i j : Nat) (s : Sec), l[i]? = some s → j < 64 → (flatS l)[i * 64 + j]? = (scells s)[j]? := by
  induction l with
  | nil => intro i j s hs; simp at hs
  | cons x l ih =>
    intro i j s hs hj
    have e : flatS (x :: l) = scells x ++ flatS l := by simp [flatS]
    have lx : (scells x).length = 64 := by rw [scells_length]; exact h x (List.mem_cons_self ..)
    cases i with
    | zero =>
      simp at hs; subst hs
      rw [e, List.getElem?_append_left (by omega)]; simp
    | succ i =>
      rw [e, List.getElem?_append_right (by omega), lx, show (i + 1) * 64 + j - 64 = i * 64 + j from by omega]
      exact ih (fun y hy => h y (List.mem_cons_of_mem _ hy)) i j s (by simpa using hs) hj
theorem flatP_length (l : List (Nat × Sec)) (h : ∀ p ∈ l, p.2.length = 64) : (flatP l).length = l.length * 65 := by
  induction l with
  | nil => rfl
  | cons s l ih =>
    have := ih (fun x hx => h x (List.mem_cons_of_mem _ hx))
    simp only [flatP, List.flatMap_cons, List.length_append, List.length_cons, pcells, scells_length] at this ⊢
    rw [this, h s (List.mem_cons_self ..)]; omega
theorem scells_oneCell (s : Sec) : ∀ u ∈ scells s, u.oneCell' = true := by
  intro u hu
  obtain ⟨b, _, rfl⟩ := List.mem_map.1 hu
  rfl
/-- What a disk contains. -/
structure Dk where
  now : List Sec
  kept : List Sec
  writes : List (Nat × Sec)
  stops : Bool
  calls : Int
  down : Bool
structure DkOk (m : Dk) (n : Nat) : Prop where
  now : m.now.length = n
  kept : m.kept.length = n
  nows : ∀ s ∈ m.now, s.length = 64
  kepts : ∀ s ∈ m.kept, s.length = 64
  ats : ∀ p ∈ m.writes, p.1 < n ∧ p.2.length = 64
  pos : 64 ≤ n
  most : n ≤ 65536
  calls : m.stops = true → 0 ≤ m.calls
  i64 : -9223372036854775808 ≤ m.calls ∧ m.calls ≤ 9223372036854775807
/-- A disk in memory: its own block D, its sectors' blocks N and K, the row of its writes. -/
structure DkX (w : World) (base n D N K : Nat) (wv : Value) (m : Dk) : Prop where
  ok : DkOk m n
  c0 : w.cell? ⟨D, 0, none⟩ = some (.slice (some ⟨N, 0, none⟩) n n)
  c1 : w.cell? ⟨D, 1, none⟩ = some (.slice (some ⟨K, 0, none⟩) n n)
  c2 : w.cell? ⟨D, 2, none⟩ = some wv
  c3 : w.cell? ⟨D, 3, none⟩ = some (.bool m.stops)
  c4 : w.cell? ⟨D, 4, none⟩ = some (.int .i64 m.calls)
  c5 : w.cell? ⟨D, 5, none⟩ = some (.bool m.down)
  free : ∀ i, i < 6 → w.frozen? ⟨D, i, none⟩ = false
  rn : w.rangeAt N 0 (flatS m.now)
  tn : w.there N 0 (n * 64)
  rk : w.rangeAt K 0 (flatS m.kept)
  tk : w.there K 0 (n * 64)
  row : w.ownsRow base 159 65 wv m.writes.length (flatP m.writes)
  ge : base ≤ D ∧ base ≤ N ∧ base ≤ K
  lt : D < w.heap.size ∧ N < w.heap.size ∧ K < w.heap.size
  ne : D ≠ N ∧ D ≠ K ∧ N ≠ K
  off : wv.ownBlock ≠ some D ∧ wv.ownBlock ≠ some N ∧ wv.ownBlock ≠ some K
  le : base ≤ w.heap.size
/-- The blocks of a disk. -/
def dkS (D N K : Nat) (wv : Value) (j : Nat) : Prop := j = D ∨ j = N ∨ j = K ∨ wv.ownBlock = some j
/-- What may change: blocks of S, and new ones. -/
structure FrB (S : Nat → Prop) (w w' : World) : Prop where
  os : w'.os = w.os
  tape : w'.tape = w.tape
  output : w'.output = w.output
  size : w.heap.size ≤ w'.heap.size
  block : ∀ j, j < w.heap.size → ¬ S j → w'.heap[j]? = w.heap[j]?
theorem FrB.refl (S : Nat → Prop) (w : World) : FrB S w w := ⟨rfl, rfl, rfl, Nat.le_refl _, fun _ _ _ => rfl⟩
theorem FrB.trans {S S' : Nat → Prop} {a b c : World} (h : FrB S a b) (k : FrB S' b c) (hS : ∀ j, j < a.heap.size → S' j → S j) : FrB S a c :=
  ⟨k.os.trans h.os, k.tape.trans h.tape, k.output.trans h.output, Nat.le_trans h.size k.size, fun j hj hn => (k.block j (Nat.lt_of_lt_of_le hj h.size) fun e => hn (hS j hj e)).trans (h.block j hj hn)⟩
theorem FrB.mono {S S' : Nat → Prop} {a b : World} (h : FrB S a b) (hS : ∀ j, j < a.heap.size → S j → S' j) : FrB S' a b :=
  ⟨h.os, h.tape, h.output, h.size, fun j hj hn => h.block j hj fun e => hn (hS j hj e)⟩
theorem FrB.ext {S : Nat → Prop} {a b : World} (h : Ext a b) : FrB S a b := ⟨h.os, h.tape, h.output, h.size, fun j hj _ => h.block j hj⟩
theorem FrB.setCell (S : Nat → Prop) (a : World) (x : Addr) (v : Value) (h : S x.block) : FrB S a (a.setCell x v) :=
  ⟨rfl, rfl, rfl, by simp, fun j hj hn => Below.heap_setCell _ _ _ _ fun e => hn (e ▸ h)⟩
theorem FrB.setCells (S : Nat → Prop) (a : World) (b o : Nat) (vs : List Value) (h : S b) : FrB S a (a.setCells b o vs) :=
  ⟨World.os_setCells _ _ _ _, (by
    have := below_setCells (B := 0) (Nat.zero_le b) vs o a (Below.refl _ _)
    exact this.tape), World.output_setCells _ _ _ _, by rw [size_setCells]; exact Nat.le_refl _, fun j hj hn => World.heap_setCells_other _ _ _ _ hj fun e => hn (e ▸ h)⟩
theorem FrB.below {S : Nat → Prop} {a b : World} (h : FrB S a b) {B : Nat} (hB : B ≤ a.heap.size) (hS : ∀ j, S j → B ≤ j) : Below B a b :=
  ⟨h.os, h.tape, h.output, h.size, fun j hj => h.block j (by omega) fun e => by have := hS j e; omega⟩
theorem FrB.cell {S : Nat → Prop} {a b : World} (h : FrB S a b) {g o : Nat} (hg : g < a.heap.size) (hn : ¬ S g) : b.cell? ⟨g, o, none⟩ = a.cell? ⟨g, o, none⟩ := World.cell?_of_block (h.block g hg hn)
theorem FrB.frozen {S : Nat → Prop} {a b : World} (h : FrB S a b) {g o : Nat} (hg : g < a.heap.size) (hn : ¬ S g) : b.frozen? ⟨g, o, none⟩ = a.frozen? ⟨g, o, none⟩ := World.frozen?_of_block (h.block g hg hn)
theorem FrB.owns {S : Nat → Prop} {a b : World} (h : FrB S a b) {base : Nat} {e : TypeId} {size : Nat} {v : Value} {n : Nat} {xs : List Value} (ho : a.ownsRow base e size v n xs) (hn : ∀ g, v.ownBlock = some g → ¬ S g) : b.ownsRow base e size v n xs := by
  obtain ⟨h1, h2⟩ := ho
  refine ⟨h1, ?_⟩
  rcases h2 with h2 | ⟨g, cap, cur, hv, hb, hg, r⟩
  · exact .inl h2
  · exact .inr ⟨g, cap, cur, hv, hb, by rw [h.block g (Array.getElem?_eq_some_iff.1 hg).1 (hn g (by rw [hv]; rfl))]; exact hg, r⟩
theorem DkX.frB {w w' : World} {base n D N K : Nat} {wv : Value} {m : Dk} (h : DkX w base n D N K wv m) {S : Nat → Prop} (hF : FrB S w w') (hS : ∀ j, dkS D N K wv j → ¬ S j) : DkX w' base n D N K wv m := by
  have sD := hS D (.inl rfl)
  have sN := hS N (.inr (.inl rfl))
  have sK := hS K (.inr (.inr (.inl rfl)))
  have kD := fun o => hF.cell (o := o) h.lt.1 sD
  refine ⟨h.ok, (kD 0).trans h.c0, (kD 1).trans h.c1, (kD 2).trans h.c2, (kD 3).trans h.c3, (kD 4).trans h.c4, (kD 5).trans h.c5, fun i hi => (hF.frozen h.lt.1 sD).trans (h.free i hi),
    fun j v hv => (hF.cell h.lt.2.1 sN).trans (h.rn j v hv), fun j hj => ?_, fun j v hv => (hF.cell h.lt.2.2 sK).trans (h.rk j v hv), fun j hj => ?_, hF.owns h.row (fun g hg => hS g (.inr (.inr (.inr hg)))),
    h.ge, ⟨Nat.lt_of_lt_of_le h.lt.1 hF.size, Nat.lt_of_lt_of_le h.lt.2.1 hF.size, Nat.lt_of_lt_of_le h.lt.2.2 hF.size⟩, h.ne, h.off, Nat.le_trans h.le hF.size⟩
  · rw [hF.cell h.lt.2.1 sN, hF.frozen h.lt.2.1 sN]; exact h.tn j hj
  · rw [hF.cell h.lt.2.2 sK, hF.frozen h.lt.2.2 sK]; exact h.tk j hj
theorem DkX.ext {w w' : World} {base n D N K : Nat} {wv : Value} {m : Dk} (h : DkX w base n D N K wv m) (hE : Ext w w') : DkX w' base n D N K wv m :=
  h.frB (S := fun _ => False) (FrB.ext hE) fun _ _ => id
theorem DkX.S_ge {w : World} {base n D N K : Nat} {wv : Value} {m : Dk} (h : DkX w base n D N K wv m) : ∀ j, dkS D N K wv j → base ≤ j ∧ j < w.heap.size := by
  rintro j (rfl | rfl | rfl | hj)
  · exact ⟨h.ge.1, h.lt.1⟩
  · exact ⟨h.ge.2.1, h.lt.2.1⟩
  · exact ⟨h.ge.2.2, h.lt.2.2⟩
  · exact h.row.lt j hj
end Go.Proofs.YtgjahnomafpnfaaGreatDoor

/- Changes of a disk; NewDisk, ready, power. -/
namespace Go.Proofs.YtgjahnomafpnfaaGreatDoor
open Go.RowKit
section
variable {w : World} {base n D N K : Nat} {wv : Value} {m : Dk}
theorem DkX.setOwn (h : DkX w base n D N K wv m) (i : Nat) (hi : i < 6) (u : Value) :
    (∀ o, (w.setCell ⟨D, i, none⟩ u).cell? ⟨N, o, none⟩ = w.cell? ⟨N, o, none⟩) ∧ (∀ o, (w.setCell ⟨D, i, none⟩ u).cell? ⟨K, o, none⟩ = w.cell? ⟨K, o, none⟩) ∧ (∀ o, o ≠ i → (w.setCell ⟨D, i, none⟩ u).cell? ⟨D, o, none⟩ = w.cell? ⟨D, o, none⟩) ∧
    (w.setCell ⟨D, i, none⟩ u).cell? ⟨D, i, none⟩ = some u ∧ (w.setCell ⟨D, i, none⟩ u).ownsRow base 159 65 wv m.writes.length (flatP m.writes) := by
  refine ⟨fun o => World.cell?_setCell_far _ _ _ _ h.ne.1, fun o => World.cell?_setCell_far _ _ _ _ h.ne.2.1, fun o ho => World.cell?_setCell_other _ _ _ _ (fun e => ho (congrArg Addr.off e).symm), ?_, owns_setCell h.row (a := ⟨D, i, none⟩) h.off.1 u⟩
  have : ∃ v, w.cell? ⟨D, i, none⟩ = some v := by
    match i, hi with
    | 0, _ => exact ⟨_, h.c0⟩
    | 1, _ => exact ⟨_, h.c1⟩
    | 2, _ => exact ⟨_, h.c2⟩
    | 3, _ => exact ⟨_, h.c3⟩
    | 4, _ => exact ⟨_, h.c4⟩
    | 5, _ => exact ⟨_, h.c5⟩
  obtain ⟨v, hv⟩ := this
  exact World.cell?_setCell_same _ _ _ hv
theorem DkX.setDown (h : DkX w base n D N K wv m) (b : Bool) : DkX (w.setCell ⟨D, 5, none⟩ (.bool b)) base n D N K wv { m with down := b } := by
  obtain ⟨k1, k2, k3, k4, k5⟩ := h.setOwn 5 (by omega) (.bool b)
  exact ⟨⟨h.ok.now, h.ok.kept, h.ok.nows, h.ok.kepts, h.ok.ats, h.ok.pos, h.ok.most, h.ok.calls, h.ok.i64⟩, (k3 0 (by omega)).trans h.c0, (k3 1 (by omega)).trans h.c1, (k3 2 (by omega)).trans h.c2, (k3 3 (by omega)).trans h.c3, (k3 4 (by omega)).trans h.c4, k4, fun i hi => by rw [World.frozen?_setCell]; exact h.free i hi,
    fun j v hv => (k1 _).trans (h.rn j v hv), fun j hj => by rw [k1, World.frozen?_setCell]; exact h.tn j hj, fun j v hv => (k2 _).trans (h.rk j v hv), fun j hj => by rw [k2, World.frozen?_setCell]; exact h.tk j hj, k5, h.ge, by simpa using h.lt, h.ne, h.off, by simpa using h.le⟩
theorem DkX.setCalls (h : DkX w base n D N K wv m) (c : Int) (hc : m.stops = true → 0 ≤ c) (hi : -9223372036854775808 ≤ c ∧ c ≤ 9223372036854775807) : DkX (w.setCell ⟨D, 4, none⟩ (.int .i64 c)) base n D N K wv { m with calls := c } := by
  obtain ⟨k1, k2, k3, k4, k5⟩ := h.setOwn 4 (by omega) (.int .i64 c)
  exact ⟨⟨h.ok.now, h.ok.kept, h.ok.nows, h.ok.kepts, h.ok.ats, h.ok.pos, h.ok.most, hc, hi⟩, (k3 0 (by omega)).trans h.c0, (k3 1 (by omega)).trans h.c1, (k3 2 (by omega)).trans h.c2, (k3 3 (by omega)).trans h.c3, k4, (k3 5 (by omega)).trans h.c5, fun i hi => by rw [World.frozen?_setCell]; exact h.free i hi,
    fun j v hv => (k1 _).trans (h.rn j v hv), fun j hj => by rw [k1, World.frozen?_setCell]; exact h.tn j hj, fun j v hv => (k2 _).trans (h.rk j v hv), fun j hj => by rw [k2, World.frozen?_setCell]; exact h.tk j hj, k5, h.ge, by simpa using h.lt, h.ne, h.off, by simpa using h.le⟩
theorem DkX.setStops (h : DkX w base n D N K wv m) (b : Bool) (hc : b = true → 0 ≤ m.calls) : DkX (w.setCell ⟨D, 3, none⟩ (.bool b)) base n D N K wv { m with stops := b } := by
  obtain ⟨k1, k2, k3, k4, k5⟩ := h.setOwn 3 (by omega) (.bool b)
  exact ⟨⟨h.ok.now, h.ok.kept, h.ok.nows, h.ok.kepts, h.ok.ats, h.ok.pos, h.ok.most, hc, h.ok.i64⟩, (k3 0 (by omega)).trans h.c0, (k3 1 (by omega)).trans h.c1, (k3 2 (by omega)).trans h.c2, k4, (k3 4 (by omega)).trans h.c4, (k3 5 (by omega)).trans h.c5, fun i hi => by rw [World.frozen?_setCell]; exact h.free i hi,
    fun j v hv => (k1 _).trans (h.rn j v hv), fun j hj => by rw [k1, World.frozen?_setCell]; exact h.tn j hj, fun j v hv => (k2 _).trans (h.rk j v hv), fun j hj => by rw [k2, World.frozen?_setCell]; exact h.tk j hj, k5, h.ge, by simpa using h.lt, h.ne, h.off, by simpa using h.le⟩
/-- Another row of writes. -/
theorem DkX.setWrites (h : DkX w base n D N K wv m) (wv' : Value) (ws : List (Nat × Sec)) (hr : w.ownsRow base 159 65 wv' ws.length (flatP ws)) (ho : wv'.ownBlock ≠ some D ∧ wv'.ownBlock ≠ some N ∧ wv'.ownBlock ≠ some K) (hw : ∀ p ∈ ws, p.1 < n ∧ p.2.length = 64) :
    DkX (w.setCell ⟨D, 2, none⟩ wv') base n D N K wv' { m with writes := ws } := by
  obtain ⟨k1, k2, k3, k4, k5⟩ := h.setOwn 2 (by omega) wv'
  exact ⟨⟨h.ok.now, h.ok.kept, h.ok.nows, h.ok.kepts, hw, h.ok.pos, h.ok.most, h.ok.calls, h.ok.i64⟩, (k3 0 (by omega)).trans h.c0, (k3 1 (by omega)).trans h.c1, k4, (k3 3 (by omega)).trans h.c3, (k3 4 (by omega)).trans h.c4, (k3 5 (by omega)).trans h.c5, fun i hi => by rw [World.frozen?_setCell]; exact h.free i hi,
    fun j v hv => (k1 _).trans (h.rn j v hv), fun j hj => by rw [k1, World.frozen?_setCell]; exact h.tn j hj, fun j v hv => (k2 _).trans (h.rk j v hv), fun j hj => by rw [k2, World.frozen?_setCell]; exact h.tk j hj, owns_setCell hr (a := ⟨D, 2, none⟩) ho.1 wv', h.ge, by simpa using h.lt, h.ne, ho, by simpa using h.le⟩
theorem owns_setCells {w : World} {base : Nat} {e : TypeId} {size : Nat} {v : Value} {n : Nat} {xs : List Value} (h : w.ownsRow base e size v n xs) {b : Nat} (hb : v.ownBlock ≠ some b) : ∀ (vs : List Value) (o : Nat), (w.setCells b o vs).ownsRow base e size v n xs
  | vs, o => (FrB.setCells (fun j => j = b) w b o vs rfl).owns h fun g hg e => hb (e ▸ hg)
theorem flatS_set (l : List Sec) (h : ∀ s ∈ l, s.length = 64) (i : Nat) (s : Sec) (hs : s.length = 64) (hi : i < l.length) (j : Nat) : (flatS (l.set i s))[j]? = if i * 64 ≤ j ∧ j < i * 64 + 64 then (scells s)[j - i * 64]? else (flatS l)[j]? := by
  have h' : ∀ x ∈ l.set i s, x.length = 64 := fun x hx => by
    rcases List.mem_or_eq_of_mem_set hx with q | q
    · exact h x q
    · rw [q]; exact hs
  by_cases hj : j < l.length * 64
  · have e : j = j / 64 * 64 + j % 64 := by omega
    have hm : j % 64 < 64 := Nat.mod_lt _ (by decide)
    have hq : j / 64 < l.length := by omega
    generalize j / 64 = q at *
    generalize j % 64 = r at *
    subst e
    obtain ⟨y, hy⟩ : ∃ y, l[q]? = some y := ⟨_, List.getElem?_eq_getElem hq⟩
    by_cases hqi : q = i
    · subst hqi
      rw [if_pos (by omega), flatS_get _ h' q r s (by simp [hq]) hm]
      congr 1; omega
    · rw [if_neg (by omega), flatS_get _ h' q r y (by rw [List.getElem?_set_ne (Ne.symm hqi)]; exact hy) hm, flatS_get _ h q r y hy hm]
  · rw [if_neg (by omega), List.getElem?_eq_none (by rw [flatS_length _ h', List.length_set]; omega), List.getElem?_eq_none (by rw [flatS_length _ h]; omega)]
theorem range_setS {w : World} {g i k : Nat} {l : List Sec} (hl : ∀ s ∈ l, s.length = 64) (h : w.rangeAt g 0 (flatS l)) (ht : w.there g 0 (k * 64)) (hk : l.length = k) (s : Sec) (hs : s.length = 64) (hi : i < k) : (w.setCells g (i * 64) (scells s)).rangeAt g 0 (flatS (l.set i s)) := by
  intro j v hv
  rw [flatS_set l hl i s hs (by omega) j] at hv
  rw [Nat.zero_add]
  split at hv
  · rename_i hj
    have hl : j - i * 64 < (scells s).length := by rw [scells_length]; omega
    have := World.cell?_setCells_in g (scells s) (i * 64) w (fun q hq => by
      rw [scells_length] at hq
      have := (ht (i * 64 + q) (by omega)).1
      rwa [Nat.zero_add] at this) (j - i * 64) hl
    rw [show i * 64 + (j - i * 64) = j from by omega] at this
    rw [this, ← hv, List.getElem?_eq_getElem hl]
  · rename_i hj
    rw [World.cell?_setCells_out g (scells s) (i * 64) w ⟨g, j, none⟩ (fun _ _ => by rw [scells_length, hs]; show j < i * 64 ∨ i * 64 + 64 ≤ j; omega)]
    simpa using h j v hv
/-- A sector is written. -/
theorem DkX.setNow (h : DkX w base n D N K wv m) (i : Nat) (s : Sec) (hs : s.length = 64) (hi : i < n) : DkX (w.setCells N (i * 64) (scells s)) base n D N K wv { m with now := m.now.set i s } := by
  have hF := FrB.setCells (fun j => j = N) w N (i * 64) (scells s) rfl
  have kD := fun o => hF.cell (o := o) h.lt.1 h.ne.1
  refine ⟨⟨by simpa using h.ok.now, h.ok.kept, fun x hx => ?_, h.ok.kepts, h.ok.ats, h.ok.pos, h.ok.most, h.ok.calls, h.ok.i64⟩, (kD 0).trans h.c0, (kD 1).trans h.c1, (kD 2).trans h.c2, (kD 3).trans h.c3, (kD 4).trans h.c4, (kD 5).trans h.c5, fun i hi => (hF.frozen h.lt.1 h.ne.1).trans (h.free i hi),
    range_setS h.ok.nows h.rn h.tn h.ok.now s hs hi, World.there_setCells h.tn _ _ _, fun j v hv => (hF.cell h.lt.2.2 (Ne.symm h.ne.2.2)).trans (h.rk j v hv), fun j hj => ?_, owns_setCells h.row h.off.2.1 _ _, h.ge, by rw [size_setCells]; exact h.lt, h.ne, h.off, by rw [size_setCells]; exact h.le⟩
  · rcases List.mem_or_eq_of_mem_set hx with q | q
    · exact h.ok.nows x q
    · rw [q]; exact hs
  · rw [hF.cell h.lt.2.2 (Ne.symm h.ne.2.2), hF.frozen h.lt.2.2 (Ne.symm h.ne.2.2)]; exact h.tk j hj
theorem DkX.setKept (h : DkX w base n D N K wv m) (i : Nat) (s : Sec) (hs : s.length = 64) (hi : i < n) : DkX (w.setCells K (i * 64) (scells s)) base n D N K wv { m with kept := m.kept.set i s } := by
  have hF := FrB.setCells (fun j => j = K) w K (i * 64) (scells s) rfl
  have kD := fun o => hF.cell (o := o) h.lt.1 h.ne.2.1
  refine ⟨⟨h.ok.now, by simpa using h.ok.kept, h.ok.nows, fun x hx => ?_, h.ok.ats, h.ok.pos, h.ok.most, h.ok.calls, h.ok.i64⟩, (kD 0).trans h.c0, (kD 1).trans h.c1, (kD 2).trans h.c2, (kD 3).trans h.c3, (kD 4).trans h.c4, (kD 5).trans h.c5, fun i hi => (hF.frozen h.lt.1 h.ne.2.1).trans (h.free i hi),
    fun j v hv => (hF.cell h.lt.2.1 h.ne.2.2).trans (h.rn j v hv), fun j hj => ?_, range_setS h.ok.kepts h.rk h.tk h.ok.kept s hs hi, World.there_setCells h.tk _ _ _, owns_setCells h.row h.off.2.2 _ _, h.ge, by rw [size_setCells]; exact h.lt, h.ne, h.off, by rw [size_setCells]; exact h.le⟩
  · rcases List.mem_or_eq_of_mem_set hx with q | q
    · exact h.ok.kepts x q
    · rw [q]; exact hs
  · rw [hF.cell h.lt.2.1 h.ne.2.2, hF.frozen h.lt.2.1 h.ne.2.2]; exact h.tn j hj
end
set_option maxHeartbeats 400000 in
set_option maxRecDepth 100000 in
theorem ready_any {w : World} {base n D N K : Nat} {wv : Value} {m : Dk} (h : DkX w base n D N K wv m) :
    Calls Tryz.prog 90 #[.pointer (some ⟨D, 0, none⟩)] w fun e w' => e = .returned (.int .i64 (if m.down then 80 else 0)) ∧ w' = w := by
  have c5 := h.c5
  clear h
  cases hd : m.down
  all_goals
    rw [hd] at c5
    go_enter Tryz.func90, Tryz.ntmps90
    go_wp2
    go_ret
    exact ⟨rfl, rfl⟩
set_option maxHeartbeats 400000 in
set_option maxRecDepth 100000 in
theorem ready_nil (w : World) : Calls Tryz.prog 90 #[.pointer none] w fun e w' => e = .returned (.int .i64 3) ∧ w' = w := by
  go_enter Tryz.func90, Tryz.ntmps90
  go_wp2
  go_ret
  exact ⟨rfl, rfl⟩
/-- A call uses up power. -/
def powerP (m : Dk) : Int × Dk := if m.stops then (if m.calls = 0 then (80, { m with down := true }) else (0, { m with calls := m.calls - 1 })) else (0, m)
set_option maxHeartbeats 400000 in
set_option maxRecDepth 100000 in
theorem power_any {w : World} {base n D N K : Nat} {wv : Value} {m : Dk} (h : DkX w base n D N K wv m) :
    Calls Tryz.prog 92 #[.pointer (some ⟨D, 0, none⟩)] w fun e w' => e = .returned (.int .i64 (powerP m).1) ∧ DkX w' base n D N K wv (powerP m).2 ∧ FrB (dkS D N K wv) w w' := by
  obtain ⟨now, kept, writes, stops, calls, down⟩ := m
  have c3 := h.c3
  have c4 := h.c4
  have c5 := h.c5
  have f4 := h.free 4 (by omega)
  have f5 := h.free 5 (by omega)
  have H := Lib.hid h
  clear h
  simp only [powerP] at c3 c4 c5 ⊢
  cases stops
  · go_enter Tryz.func92, Tryz.ntmps92
    go_wp2
    go_ret
    exact ⟨rfl, H.out, FrB.refl _ _⟩
  · simp only [if_true]
    by_cases hc : calls = 0
    · subst hc
      rw [if_pos rfl]
      go_enter Tryz.func92, Tryz.ntmps92
      go_wp2
      go_ret
      exact ⟨rfl, H.out.setDown true, FrB.setCell _ _ _ _ (.inl rfl)⟩
    · rw [if_neg hc]
      have h0 := H.out.ok.calls rfl
      have hi := H.out.ok.i64
      simp only at h0 hi
      have hne : (calls == 0) = false := by simpa using hc
      have hwp : IntKind.i64.wrap (calls - 1) = calls - 1 := IntWalk.i64_in _ (by omega)
      go_enter Tryz.func92, Tryz.ntmps92
      go_wp2
      go_ret
      exact ⟨rfl, H.out.setCalls (calls - 1) (fun _ => by omega) (by omega), FrB.setCell _ _ _ _ (.inl rfl)⟩
end Go.Proofs.YtgjahnomafpnfaaGreatDoor

/- NewDisk. -/
namespace Go.Proofs.YtgjahnomafpnfaaGreatDoor
open Go.RowKit
/-- The cells of n empty sectors. -/
def newS (n : Nat) : Array Value := madeCells (Array.replicate 64 (.int .u8 0)) (n * 64)
theorem info157 : (Tryz.prog.info? 157).map (fun i => (i.zero, i.size, i.bytes)) = some (some (.agg (Array.replicate 64 (.int .u8 0))), 64, 64) := by kernel_rfl
theorem make_sectors (n : Nat) (hn : n ≤ 65536) (w : World) : (Instr.makeSlice 152 (.int .i64 n) (.int .i64 n)).run Tryz.prog w = .ok (.slice (some ⟨w.heap.size, 0, none⟩) n n) (w.alloc (.cells (newS n) 157)) := by
  obtain ⟨i0, hi0, hz0, hz1, hz2⟩ := info_parts info157
  have := run_makeSlice (P := Tryz.prog) w 152 157 i0 _ Tryz.underlying152 hi0 hz0 .i64 .i64 (n : Int) (n : Int) (by omega) (by omega) (by rw [hz1]; omega) (by rw [hz2]; omega) (by omega)
  rw [hz1] at this
  exact this
theorem flatS_zero (n : Nat) : newS n = (flatS (List.replicate n zsec)).toArray := by
  have hz : ∀ s ∈ List.replicate n zsec, s.length = 64 := fun s hs => by rw [List.eq_of_mem_replicate hs]; simp [zsec]
  apply Array.ext'
  apply List.ext_getElem?
  intro j
  simp only [newS, madeCells, Array.toList_map, Array.toList_range, List.getElem?_map]
  by_cases hj : j < n * 64
  · have e : j = j / 64 * 64 + j % 64 := by omega
    have hm : j % 64 < 64 := Nat.mod_lt _ (by decide)
    have h1 := flatS_get (List.replicate n zsec) hz (j / 64) (j % 64) zsec (by rw [List.getElem?_replicate, if_pos (by omega)]) hm
    rw [← e] at h1
    rw [h1, List.getElem?_range hj]
    generalize j % 64 = r at hm
    have ha : (scells zsec)[r]? = some (.int .u8 0) := by
      rw [List.getElem?_eq_some_iff]
      exact ⟨by rw [scells_length]; simpa [zsec] using hm, List.eq_of_mem_replicate (n := 64) (by rw [show (List.replicate 64 (Value.int .u8 0)) = scells zsec from by unfold scells zsec; rw [List.map_replicate]; rfl]; exact List.getElem_mem _)⟩
    rw [ha]
    simp only [Option.map_some, Option.some.injEq]
    have hq : j % (Array.replicate 64 (Value.int .u8 0)).size < 64 := by rw [Array.size_replicate]; exact Nat.mod_lt _ (by decide)
    generalize j % (Array.replicate 64 (Value.int .u8 0)).size = q at hq
    rw [getElem!_pos (Array.replicate 64 (Value.int .u8 0)) q (by rw [Array.size_replicate]; exact hq), Array.getElem_replicate]
  · rw [List.getElem?_eq_none (by simp; omega), List.getElem?_eq_none (by rw [flatS_length _ hz]; simp; omega)]
    rfl
/-- A new disk. -/
def newDk (n : Nat) : Dk := ⟨List.replicate n zsec, List.replicate n zsec, [], false, 0, false⟩
theorem newDk_ok (n : Nat) (h1 : 64 ≤ n) (h2 : n ≤ 65536) : DkOk (newDk n) n :=
  ⟨by simp [newDk], by simp [newDk], fun s hs => by rw [List.eq_of_mem_replicate hs]; simp [zsec], fun s hs => by rw [List.eq_of_mem_replicate hs]; simp [zsec], fun p hp => by simp [newDk] at hp, h1, h2, fun h => by simp [newDk] at h, by simp [newDk]⟩
theorem NewDisk_bad (n : Int) (w : World) (h : inB n 64 65536 = false) : Calls Tryz.prog 54 #[.int .i64 n] w fun e w' => e = .returned (.tuple #[.pointer none, .int .i64 1]) ∧ w' = w := by
  go_enter Tryz.func54, Tryz.ntmps54
  go_wp2_with (go_at_call 91; refine (in_any _ _ _ _).mono ?_; rintro e w' ⟨rfl, rfl⟩)
  go_ret2
  exact ⟨rfl, rfl⟩
theorem rangeAt_new (w : World) (cs : Array Value) (t : TypeId) (g : Nat) (hg : g = w.heap.size) : (w.alloc (.cells cs t)).rangeAt g 0 cs.toList := by
  intro j v hv
  subst hg
  rw [Nat.zero_add, World.cell?_alloc_new]
  simpa using hv
theorem there_new (w : World) (cs : Array Value) (t : TypeId) (g k : Nat) (hg : g = w.heap.size) (hk : k ≤ cs.size) : (w.alloc (.cells cs t)).there g 0 k := by
  intro j hj
  subst hg
  rw [Nat.zero_add, World.cell?_alloc_new]
  exact ⟨by simp [show j < cs.size by omega], World.frozen?_alloc_new w _ _ j⟩
theorem new_disk (n : Nat) (w : World) (h1 : 64 ≤ n) (h2 : n ≤ 65536) (N K : Nat) (hNK : (N = w.heap.size ∧ K = w.heap.size + 1) ∨ (K = w.heap.size ∧ N = w.heap.size + 1)) :
    DkX (((w.alloc (.cells (newS n) 157)).alloc (.cells (newS n) 157)).alloc (.cells #[.slice (some ⟨N, 0, none⟩) n n, .slice (some ⟨K, 0, none⟩) n n, .slice none 0 0, .bool false, .int .i64 0, .bool false] 155)).drew w.heap.size n (w.heap.size + 2) N K (.slice none 0 0) (newDk n) := by
  have hs : (newS n).size = n * 64 := by simp [newS, madeCells]
  generalize hW : ((w.alloc (.cells (newS n) 157)).alloc (.cells (newS n) 157)).alloc (.cells #[.slice (some ⟨N, 0, none⟩) n n, .slice (some ⟨K, 0, none⟩) n n, .slice none 0 0, .bool false, .int .i64 0, .bool false] 155) = W
  have e1 : ∀ o, W.cell? ⟨w.heap.size, o, none⟩ = (w.alloc (.cells (newS n) 157)).cell? ⟨w.heap.size, o, none⟩ := fun o => by
    subst hW; rw [World.cell?_alloc_past _ _ _ (by simp; omega), World.cell?_alloc_past _ _ _ (by simp)]
  have e2 : ∀ o, W.cell? ⟨w.heap.size + 1, o, none⟩ = ((w.alloc (.cells (newS n) 157)).alloc (.cells (newS n) 157)).cell? ⟨w.heap.size + 1, o, none⟩ := fun o => by
    subst hW; rw [World.cell?_alloc_past _ _ _ (by simp)]
  have f1 : ∀ o, W.frozen? ⟨w.heap.size, o, none⟩ = (w.alloc (.cells (newS n) 157)).frozen? ⟨w.heap.size, o, none⟩ := fun o => by
    subst hW; rw [World.frozen?_alloc_past _ _ _ (by simp; omega), World.frozen?_alloc_past _ _ _ (by simp)]
  have f2 : ∀ o, W.frozen? ⟨w.heap.size + 1, o, none⟩ = ((w.alloc (.cells (newS n) 157)).alloc (.cells (newS n) 157)).frozen? ⟨w.heap.size + 1, o, none⟩ := fun o => by
    subst hW; rw [World.frozen?_alloc_past _ _ _ (by simp)]
  have hsz : W.heap.size = w.heap.size + 3 := by subst hW; simp
  have r1 : W.rangeAt w.heap.size 0 (newS n).toList := fun j v hv => (e1 _).trans (rangeAt_new w (newS n) 157 _ rfl j v hv)
  have r2 : W.rangeAt (w.heap.size + 1) 0 (newS n).toList := fun j v hv => (e2 _).trans (rangeAt_new (w.alloc (.cells (newS n) 157)) (newS n) 157 _ (by simp) j v hv)
  have t1 : W.there w.heap.size 0 (n * 64) := fun j hj => by rw [e1, f1]; exact there_new w (newS n) 157 _ _ rfl (by omega) j hj
  have t2 : W.there (w.heap.size + 1) 0 (n * 64) := fun j hj => by rw [e2, f2]; exact there_new (w.alloc (.cells (newS n) 157)) (newS n) 157 _ _ (by simp) (by omega) j hj
  rw [flatS_zero] at r1 r2
  have hd : ∀ o, W.cell? ⟨w.heap.size + 2, o, none⟩ = (#[.slice (some ⟨N, 0, none⟩) n n, .slice (some ⟨K, 0, none⟩) n n, .slice none 0 0, .bool false, .int .i64 0, .bool false] : Array Value)[o]? := fun o => by
    subst hW; exact World.cell?_alloc_at _ _ _ _ (by simp)
  have hdf : ∀ o, W.frozen? ⟨w.heap.size + 2, o, none⟩ = false := fun o => by
    subst hW; exact World.frozen?_alloc_at _ _ _ _ (by simp)
  have hX : DkX W w.heap.size n (w.heap.size + 2) N K (.slice none 0 0) (newDk n) := by
    refine ⟨newDk_ok n h1 h2, hd 0, hd 1, hd 2, hd 3, hd 4, hd 5, fun i _ => hdf i, ?_, ?_, ?_, ?_, World.ownsRow_nil _ _ _ _, by omega, by omega, by omega, by simp [Value.ownBlock], by omega⟩
    · rcases hNK with ⟨rfl, rfl⟩ | ⟨rfl, rfl⟩
      · simpa [newDk] using r1
      · simpa [newDk] using r2
    · rcases hNK with ⟨rfl, rfl⟩ | ⟨rfl, rfl⟩
      · exact t1
      · exact t2
    · rcases hNK with ⟨rfl, rfl⟩ | ⟨rfl, rfl⟩
      · simpa [newDk] using r2
      · simpa [newDk] using r1
    · rcases hNK with ⟨rfl, rfl⟩ | ⟨rfl, rfl⟩
      · exact t2
      · exact t1
  exact hX.ext (Ext.drew W)
set_option maxHeartbeats 800000 in
set_option maxRecDepth 100000 in
theorem NewDisk_any (n : Nat) (w : World) (h1 : 64 ≤ n) (h2 : n ≤ 65536) : Calls Tryz.prog 54 #[.int .i64 n] w fun e w' => ∃ D N K, e = .returned (.tuple #[.pointer (some ⟨D, 0, none⟩), .int .i64 0]) ∧ DkX w' w.heap.size n D N K (.slice none 0 0) (newDk n) ∧ Below w.heap.size w w' := by
  have hin : inB (n : Int) 64 65536 = true := by rw [inB_iff]; omega
  have hmk := make_sectors n h2
  go_enter Tryz.func54, Tryz.ntmps54
  go_wp2_with (go_at_call 91; refine (in_any _ _ _ _).mono ?_; rintro e w' ⟨rfl, rfl⟩)
  have HB := Lib.hid ((((Below.refl w.heap.size w).alloc (Nat.le_refl _) (.cells (newS n) 157)).alloc (by simp) (.cells (newS n) 157)))
  go_region
  all_goals go_wp2
  all_goals go_ret2
  · exact ⟨_, _, _, rfl, new_disk n w h1 h2 _ _ (.inl ⟨rfl, rfl⟩), (HB.out.alloc (by simp; omega) _).drew⟩
  · exact ⟨_, _, _, rfl, new_disk n w h1 h2 _ _ (.inr ⟨rfl, rfl⟩), (HB.out.alloc (by simp; omega) _).drew⟩
end Go.Proofs.YtgjahnomafpnfaaGreatDoor

/- Sectors as values: built, laid, read, stored. -/
namespace Go.Proofs.YtgjahnomafpnfaaGreatDoor
open Go.RowKit
theorem info159 : (Tryz.prog.info? 159).map (fun i => (i.zero, i.size, i.bytes)) = some (some (.agg (#[.int .i64 0] ++ Array.replicate 64 (.int .u8 0))), 65, 72) := by kernel_rfl
theorem info5 : (Tryz.prog.info? 5).map (·.size) = some 1 := by kernel_rfl
theorem size157 (cs : List Value) (h : cs.length = 64) : (Tryz.prog.info? 157).map (·.size) = some cs.length := by rw [h]; kernel_rfl
theorem size159 (cs : List Value) (h : cs.length = 65) : (Tryz.prog.info? 159).map (·.size) = some cs.length := by rw [h]; kernel_rfl
theorem fill_one (place : Nat → Option (Nat × Nat)) (cells : Array Value) (i : Nat) (v : Value) (off size : Nat) (rest : List (Nat × Value)) (hp : place i = some (off, size)) (hs : v.cells.size = size) (hf : off + size ≤ cells.size) :
    Instr.fill place cells ((i, v) :: rest) = Instr.fill place ((v.cells.toList.zipIdx 0).foldl (fun cs (x : Value × Nat) => cs.setIfInBounds (off + x.2) x.1) cells) rest := by
  conv => lhs; unfold Instr.fill
  simp only [hp]
  rw [if_neg (by simp [hs]; omega)]
  congr 1
  rw [← Array.foldl_toList, Array.toList_zipIdx]
set_option maxRecDepth 100000 in
theorem build_pending (at_ : Int) (cs : List Value) (h : cs.length = 64) (w : World) : (Instr.build 159 #[(0, .int .i64 at_), (1, .agg cs.toArray)]).run Tryz.prog w = .ok (.agg (.int .i64 at_ :: cs).toArray) w := by
  refine run_build w 159 _ _ ?_
  obtain ⟨i0, hi0, hz0, hz1, hz2⟩ := info_parts info159
  have hpl : ∃ fs, Tryz.prog.underlying 159 = some (.struct fs) ∧ fs.toList.mapM (fun f => (Tryz.prog.info? f.type).map fun i => (f.offset, i.size)) = some [(0, 1), (1, 64)] := ⟨_, Tryz.underlying159, by kernel_rfl⟩
  obtain ⟨fs, hu, hm⟩ := hpl
  unfold Program.built
  simp only [hi0, hu, hz0, hm]
  generalize hz : Value.cells (.agg (#[.int .i64 0] ++ Array.replicate 64 (.int .u8 0))) = Z
  have hZ : Z.size = 65 := by subst hz; rfl
  rw [fill_one _ _ 0 _ 0 1 _ rfl rfl (by omega)]
  obtain ⟨k1, k2⟩ := Great.foldl_set 0 (Value.cells (.int .i64 at_)).toList 0 Z
  generalize ((Value.cells (.int .i64 at_)).toList.zipIdx 0).foldl (fun cs (x : Value × Nat) => cs.setIfInBounds (0 + x.2) x.1) Z = Z1 at k1 k2
  have hv : (Value.cells (.agg cs.toArray)).size = 64 := by simp [Value.cells, h]
  rw [fill_one _ _ 1 _ 1 64 _ rfl hv (by omega)]
  obtain ⟨l1, l2⟩ := Great.foldl_set 1 (Value.cells (.agg cs.toArray)).toList 0 Z1
  generalize ((Value.cells (.agg cs.toArray)).toList.zipIdx 0).foldl (fun cs (x : Value × Nat) => cs.setIfInBounds (1 + x.2) x.1) Z1 = Z2 at l1 l2
  unfold Instr.fill
  congr 1
  apply Array.ext'
  apply List.ext_getElem?
  intro j
  have hl : (Value.cells (.agg cs.toArray)).toList = cs := by simp [Value.cells]
  have l3 := l2 j
  have k3 := k2 j
  rw [hl] at l3
  simp only [Array.getElem?_toList, List.getElem?_toArray] at l3 ⊢
  rw [l3]
  cases j with
  | zero =>
    rw [if_neg (by omega), k3]
    have : (Value.cells (.int .i64 at_)).toList = [.int .i64 at_] := rfl
    rw [this, if_pos (by simp; omega)]
    rfl
  | succ j =>
    by_cases hj : j < 64
    · rw [if_pos (by omega)]
      simp
    · rw [if_neg (by omega), k3, if_neg (by simp [Value.cells]), Array.getElem?_eq_none (by omega)]
      simp [List.getElem?_eq_none (show cs.length ≤ j by omega)]
theorem bslice_pending (cs : List Value) (h : cs.length = 65) (w : World) : (Instr.buildSlice 153 1 #[(0, .agg cs.toArray)]).run Tryz.prog w = .ok (.slice (some ⟨w.heap.size, 0, none⟩) 1 1) (w.alloc (.cells cs.toArray 159)) := by
  obtain ⟨i0, hi0, hz0, hz1, hz2⟩ := info_parts info159
  refine run_buildSlice w 153 159 1 _ _ i0 _ Tryz.underlying153 hi0 hz0 (by rw [hz1]; decide) (by rw [hz1]; decide) ?_
  have := Great.fill_whole (s := 65) (by omega) [Value.agg cs.toArray] ((Array.range (1 * 65)).map ((Value.agg (#[.int .i64 0] ++ Array.replicate 64 (.int .u8 0))).cells[· % (Value.agg (#[.int .i64 0] ++ Array.replicate 64 (.int .u8 0))).cells.size]!))
    (fun v hv => by rw [List.mem_singleton.1 hv]; simp [Value.cells, h]) (by simp)
  rw [hz1]
  refine Eq.trans ?_ (this.trans ?_)
  · rfl
  · simp [Value.cells]
theorem run_alloc157 (w : World) : (Instr.alloc 157 false undef).run Tryz.prog w = .ok (.pointer (some ⟨w.heap.size, 0, none⟩)) (w.alloc (.cells (scells zsec).toArray 157)) := by
  obtain ⟨i0, hi0, hz0, hz1, hz2⟩ := info_parts info157
  have hv : (zeroValue 157).run Tryz.prog w = .ok (.agg (Array.replicate 64 (.int .u8 0))) w := by simp [zeroValue, typeInfo, hi0, hz0]
  have he : (Array.replicate 64 (.int .u8 0) : Array Value) = (scells zsec).toArray := by
    unfold scells zsec
    rw [List.map_replicate]
    rfl
  rw [← he]
  simp [Instr.alloc, hv, undef, newVar, newRow, Value.cells]
end Go.Proofs.YtgjahnomafpnfaaGreatDoor

/- (*Disk).Write. -/
namespace Go.Proofs.YtgjahnomafpnfaaGreatDoor
open Go.RowKit
/-- A slice of bytes that can be read. -/
def SlB (w : World) (v : Value) (bs : List UInt8) : Prop :=
  (v = .slice none 0 0 ∧ bs = []) ∨ ∃ b off cap, v = .slice (some ⟨b, off, none⟩) bs.length cap ∧ bs.length ≤ cap ∧ cap ≤ maxLen ∧ b < w.heap.size ∧ w.rangeAt b off (scells bs)
theorem SlB.ext {w w' : World} {v : Value} {bs : List UInt8} (h : SlB w v bs) (hE : Ext w w') : SlB w' v bs := by
  rcases h with h | ⟨b, off, cap, h1, h2, h3, h4, h5⟩
  · exact .inl h
  · exact .inr ⟨b, off, cap, h1, h2, h3, Nat.lt_of_lt_of_le h4 hE.size, fun j u hu => hE.keep (h5 j u hu)⟩
theorem SlB.frB {w w' : World} {v : Value} {bs : List UInt8} (h : SlB w v bs) {S : Nat → Prop} (hF : FrB S w w') (hn : ∀ g, v.ownBlock = some g → ¬ S g) : SlB w' v bs := by
  rcases h with h | ⟨b, off, cap, h1, h2, h3, h4, h5⟩
  · exact .inl h
  · exact .inr ⟨b, off, cap, h1, h2, h3, Nat.lt_of_lt_of_le h4 hF.size, fun j u hu => (hF.cell h4 (hn b (by rw [h1]; rfl))).trans (h5 j u hu)⟩
theorem SlB.shape {w : World} {v : Value} {bs : List UInt8} (h : SlB w v bs) : ∃ a c, v = .slice a bs.length c := by
  rcases h with ⟨rfl, rfl⟩ | ⟨b, off, cap, rfl, _⟩
  · exact ⟨none, 0, rfl⟩
  · exact ⟨_, cap, rfl⟩
def padS (bs : List UInt8) : Sec := bs ++ List.replicate (64 - bs.length) 0
theorem padS_length {bs : List UInt8} (h : bs.length ≤ 64) : (padS bs).length = 64 := by simp [padS]; omega
/-- The copy into the new sector. -/
theorem copy_pad (w : World) (v : Value) (bs : List UInt8) (h : SlB w v bs) (h64 : bs.length ≤ 64) (ty : TypeId) (g : Nat) (hg : g = w.heap.size) :
    ∃ n w', (Builtin.copy_ #[69, 69] ty #[.slice (some ⟨g, 0, none⟩) 64 64, v]).run Tryz.prog (w.alloc (.cells (scells zsec).toArray 157)) = .ok n w' ∧ Ext w w' ∧ w'.rangeAt g 0 (scells (padS bs)) ∧ g < w'.heap.size := by
  subst hg
  have hz : (scells zsec).length = 64 := by rw [scells_length]; simp [zsec]
  have hr := rangeAt_new w (scells zsec).toArray 157 w.heap.size rfl
  have ht := there_new w (scells zsec).toArray 157 w.heap.size 64 rfl (by simp [hz])
  simp only at hr
  have hE := Ext.alloc w (.cells (scells zsec).toArray 157)
  rcases h.ext hE with ⟨rfl, rfl⟩ | ⟨b, off, cap, rfl, h2, h3, h4, h5⟩
  · refine ⟨_, _, run_copy_none (P := Tryz.prog) _ 69 69 ty 5 _ none 64 64 0 0 Tryz.underlying69 info5 (by simp), hE, ?_, by simp⟩
    simpa [padS, zsec] using hr
  · by_cases h0 : bs = []
    · subst h0
      refine ⟨_, _, run_copy_none (P := Tryz.prog) _ 69 69 ty 5 _ _ 64 64 0 cap Tryz.underlying69 info5 (by simp), hE, ?_, by simp⟩
      simpa [padS, zsec] using hr
    · have hl : (scells bs).length = bs.length := scells_length bs
      refine ⟨_, _, run_copy_cells (P := Tryz.prog) _ 69 69 ty 5 w.heap.size 0 64 64 ⟨b, off, none⟩ bs.length cap (scells bs) Tryz.underlying69 info5 (by rw [hl]; exact (Nat.min_eq_left h64).symm) (fun j u hu => by rw [Addr.add_mid]; exact h5 j u hu)
        (fun j hj => by rw [hl] at hj; exact (ht j (by omega)).1) (fun j hj => by rw [hl] at hj; exact (ht j (by omega)).2) (scells_oneCell bs), below_setCells (Nat.le_refl _) _ _ _ hE, ?_, by rw [size_setCells]; simp⟩
      · intro j u hu
        rw [Nat.zero_add]
        by_cases hj : j < bs.length
        · have := World.cell?_setCells_in w.heap.size (scells bs) 0 (w.alloc (.cells (scells zsec).toArray 157)) (fun k hk => by rw [hl] at hk; exact (ht k (by omega)).1) j (by omega)
          rw [Nat.zero_add] at this
          rw [this, ← hu, ← List.getElem?_eq_getElem]
          simp only [padS, scells, List.map_append]
          rw [List.getElem?_append_left (by simpa using hj)]
        · rw [World.cell?_setCells_out w.heap.size (scells bs) 0 _ ⟨w.heap.size, j, none⟩ (fun _ _ => .inr (by rw [hl]; show 0 + bs.length ≤ j; omega))]
          have := hr j u (by
            rw [← hu]
            simp only [padS, scells, zsec, List.map_append]
            rw [List.getElem?_append_right (by simp; omega)]
            simp only [List.map_replicate, List.getElem?_replicate, List.length_map]
            by_cases h6 : j < 64
            · rw [if_pos h6, if_pos (by omega)]
            · rw [if_neg h6, if_neg (by omega)])
          rwa [Nat.zero_add] at this
/-- What Write does. -/
def writeP (m : Dk) (n : Nat) (at_ : Int) (bs : List UInt8) : Int × Dk :=
  if m.down then (80, m) else if inB at_ 0 ((n : Int) - 1) = false then (1, m) else if 64 < bs.length then (2, m) else
  if (powerP m).1 ≠ 0 then powerP m else (0, { (powerP m).2 with now := (powerP m).2.now.set at_.toNat (padS bs), writes := (powerP m).2.writes ++ [(at_.toNat, padS bs)] })
theorem pureG_load {ops : Array Oper} {o : Oper} {a : Act} {w : World} (hg : o.guard = none) (ty : TypeId) (x : Operand) (ho : o.op = .load ty x) (b off : Nat) (hx : a.eval x = .pointer (some ⟨b, off, none⟩)) (cs : List Value) (d : TypeDesc) (hc : w.rangeAt b off cs)
    (hu : Tryz.prog.underlying ty = some d) (hd : d.isRow = true) (hi : (Tryz.prog.info? ty).map (·.size) = some cs.length) : pureG Tryz.prog ops o a w (.agg cs.toArray) := by
  unfold pureG
  rw [if_pos (by simp [Region.wanted, hg])]
  unfold execOp
  simp only [ho, hx, Sem.run_bind, run_loadAt_mid w b off ty cs d hc hu hd hi, Result.andThen_ok]
  rfl
theorem pureG_build {ops : Array Oper} {o : Oper} {a : Act} {w : World} (hg : o.guard = none) (x y : Operand) (ho : o.op = .build 159 #[(0, x), (1, y)]) (i : Int) (cs : List Value) (hx : a.eval x = .int .i64 i) (hy : a.eval y = .agg cs.toArray) (h : cs.length = 64) : pureG Tryz.prog ops o a w (.agg (.int .i64 i :: cs).toArray) := by
  unfold pureG
  rw [if_pos (by simp [Region.wanted, hg])]
  unfold execOp
  simp only [ho, List.map_toArray, List.map_cons, List.map_nil, hx, hy, Sem.run_bind, build_pending i cs h w, Result.andThen_ok]
  rfl
theorem step_bslice {ops : Array Oper} {o : Oper} {a : Act} {w : World} {K : Act → World → Prop} {Q : Exit → Act → World → Prop} {E : Prop} (hg : o.guard = none) (x : Operand) (ho : o.op = .buildSlice 153 1 #[(0, x)]) (cs : List Value) (hx : a.eval x = .agg cs.toArray) (h : cs.length = 65)
    (hK : K (a.put o.dst (.slice (some ⟨w.heap.size, 0, none⟩) 1 1)) (w.alloc (.cells cs.toArray 159))) :
    if Region.wanted o (yielded ops a.tmps) = true then Oper.wp Tryz.prog o a w K Q else E := by
  have hw : Region.wanted o (yielded ops a.tmps) = true := by simp [Region.wanted, hg]
  rw [if_pos hw]
  unfold Oper.wp execOp
  simp only [ho, List.map_toArray, List.map_cons, List.map_nil, hx, Sem.run_bind, bslice_pending cs h w, Result.andThen_ok]
  exact hK
theorem pcells_length {p : Nat × Sec} (h : p.2.length = 64) : (pcells p).length = 65 := by simp [pcells, scells_length, h]
theorem pcells_oneCell (p : Nat × Sec) : ∀ u ∈ pcells p, u.oneCell' = true := by
  intro u hu
  rcases List.mem_cons.1 hu with rfl | hu
  · rfl
  · exact scells_oneCell _ u hu
/-- A write appended to the row of writes. -/
theorem step_appP {ops : Array Oper} {o : Oper} {a : Act} {w : World} {K : Act → World → Prop} {Q : Exit → Act → World → Prop} {E : Prop} (hgd : o.guard = none) (s x : Operand)
    (ho : o.op = .call { callee := .builtin .append, args := #[s, x], argTypes := #[153, 153] })
    (base : Nat) (v : Value) (xs : List (Nat × Sec)) (h : w.ownsRow base 159 65 v xs.length (flatP xs)) (p : Nat × Sec) (hp : p.2.length = 64) (ad : Addr) (c : Nat) (hs : a.eval s = v) (hx : a.eval x = .slice (some ad) 1 c)
    (hc : ∀ j u, (pcells p)[j]? = some u → w.cell? (ad.add j) = some u) (hn : xs.length ≤ 1000000) (hb : base ≤ w.heap.size)
    (hK : ∀ gg cap w', w'.ownsRow base 159 65 (.slice (some ⟨gg, 0, none⟩) (xs ++ [p]).length cap) (xs ++ [p]).length (flatP xs ++ pcells p) → ExtApp v.ownBlock (xs.length * 65) (pcells p) w w' → (gg = w.heap.size ∨ v.ownBlock = some gg) → gg < w'.heap.size →
      K (a.put o.dst (.slice (some ⟨gg, 0, none⟩) (xs ++ [p]).length cap)) w') :
    if Region.wanted o (yielded ops a.tmps) = true then Oper.wp Tryz.prog o a w K Q else E := by
  have hw : Region.wanted o (yielded ops a.tmps) = true := by simp [Region.wanted, hgd]
  rw [if_pos hw]
  obtain ⟨i0, hi0, hz0, hz1, hz2⟩ := info_parts info159
  obtain ⟨gg, cap, w', hr, h2, h3, h4, h5⟩ := run_append_app (P := Tryz.prog) w base 153 o.type 159 i0 _ 65 72 Tryz.underlying153 hi0 hz0 hz1 hz2 rfl (by omega) v xs.length (flatP xs) h ad 1 c (pcells p) (by rw [pcells_length hp]) hc (pcells_oneCell p) (by omega) (by unfold maxLen; omega) (by omega) hb
  have hl : (xs ++ [p]).length = xs.length + 1 := by simp
  rw [hl] at hK
  unfold Oper.wp execOp
  simp only [ho, resolve, invoke, builtin, Sem.run_bind, Sem.run_pure, Result.andThen_ok, List.map_toArray, List.map_cons, List.map_nil, hs, hx, hr]
  exact hK gg cap w' h2 h3 h4 h5
theorem powerP_same (m : Dk) : (powerP m).2.writes = m.writes ∧ (powerP m).2.now = m.now ∧ (powerP m).2.kept = m.kept := by
  obtain ⟨now, kept, writes, stops, calls, down⟩ := m
  unfold powerP
  cases stops
  · exact ⟨rfl, rfl, rfl⟩
  · simp only [if_true]
    by_cases hc : calls = 0
    · rw [if_pos hc]; exact ⟨rfl, rfl, rfl⟩
    · rw [if_neg hc]; exact ⟨rfl, rfl, rfl⟩
theorem ExtApp.frB {r : Option Nat} {off : Nat} {news : List Value} {w w' : World} (h : ExtApp r off news w w') : FrB (fun j => r = some j) w w' :=
  ⟨h.os, h.tape, h.output, h.size, fun j hj hn => h.block j hj fun e => hn e.symm⟩
theorem DkX.extApp {w w' : World} {base n D N K : Nat} {wv : Value} {m : Dk} (h : DkX w base n D N K wv m) {news : List Value} (hE : ExtApp wv.ownBlock (m.writes.length * 65) news w w') : DkX w' base n D N K wv m := by
  have hF := hE.frB
  have sD : ¬ (wv.ownBlock = some D) := h.off.1
  have sN : ¬ (wv.ownBlock = some N) := h.off.2.1
  have sK : ¬ (wv.ownBlock = some K) := h.off.2.2
  have kD := fun o => hF.cell (o := o) h.lt.1 sD
  refine ⟨h.ok, (kD 0).trans h.c0, (kD 1).trans h.c1, (kD 2).trans h.c2, (kD 3).trans h.c3, (kD 4).trans h.c4, (kD 5).trans h.c5, fun i hi => (hF.frozen h.lt.1 sD).trans (h.free i hi),
    fun j v hv => (hF.cell h.lt.2.1 sN).trans (h.rn j v hv), fun j hj => ?_, fun j v hv => (hF.cell h.lt.2.2 sK).trans (h.rk j v hv), fun j hj => ?_, hE.owns h.row (.inl (Nat.le_refl _)),
    h.ge, ⟨Nat.lt_of_lt_of_le h.lt.1 hF.size, Nat.lt_of_lt_of_le h.lt.2.1 hF.size, Nat.lt_of_lt_of_le h.lt.2.2 hF.size⟩, h.ne, h.off, Nat.le_trans h.le hF.size⟩
  · rw [hF.cell h.lt.2.1 sN, hF.frozen h.lt.2.1 sN]; exact h.tn j hj
  · rw [hF.cell h.lt.2.2 sK, hF.frozen h.lt.2.2 sK]; exact h.tk j hj
set_option maxHeartbeats 800000 in
set_option maxRecDepth 100000 in
theorem Write_ok {w : World} {base n D N K : Nat} {wv : Value} {m : Dk} (h : DkX w base n D N K wv m) (at_ : Nat) (v : Value) (bs : List UInt8) (hv : SlB w v bs) (hvS : ∀ g, v.ownBlock = some g → ¬ dkS D N K wv g)
    (hd : m.down = false) (hat : at_ < n) (h64 : bs.length ≤ 64) (hp : (powerP m).1 = 0) (hn : m.writes.length ≤ 1000000) :
    Calls Tryz.prog 36 #[.pointer (some ⟨D, 0, none⟩), .int .i64 at_, v] w fun e w' => e = .returned (.int .i64 0) ∧ ∃ wv', DkX w' base n D N K wv' { (powerP m).2 with now := (powerP m).2.now.set at_ (padS bs), writes := (powerP m).2.writes ++ [(at_, padS bs)] } ∧
      FrB (dkS D N K wv) w w' ∧ (∀ j, wv'.ownBlock = some j → w.heap.size ≤ j ∨ wv.ownBlock = some j) := by
  obtain ⟨a, c, rfl⟩ := hv.shape
  have hr := Lib.hid (ready_any h)
  rw [hd] at hr
  have hpw := Lib.hid (power_any h)
  rw [hp] at hpw
  have c0 := h.c0
  have hms := h.ok.most
  have hps := h.ok.pos
  have HV := Lib.hid (And.intro hv hvS)
  have HH := Lib.hid h
  clear h hv hvS
  have hin : inB (at_ : Int) 0 ((n : Int) - 1) = true := by rw [inB_iff]; omega
  have hwn : IntKind.i64.wrap ((n : Int) - 1) = (n : Int) - 1 := IntWalk.i64_in _ (by omega)
  have hl64 : ¬ ((64 : Int) < bs.length) := by omega
  go_enter Tryz.func36, Tryz.ntmps36
  go_wp2_with (first | (go_at_call 90; refine hr.out.mono ?_; rintro e w' ⟨rfl, rfl⟩) | (go_at_call 91; refine (in_any _ _ _ _).mono ?_; rintro e w' ⟨rfl, rfl⟩))
  refine hpw.out.mono ?_
  rintro e w1 ⟨rfl, hX1, hF1⟩
  have HX1 := Lib.hid hX1
  have HF1 := Lib.hid hF1
  have HV1 := Lib.hid (HV.out.1.frB hF1 HV.out.2)
  clear hX1 hF1
  obtain ⟨nn, w2, k1, k2, k3, k4⟩ := copy_pad w1 _ bs HV1.out h64 3 _ rfl
  have hzz : (scells zsec).toArray = #[.int .u8 0, .int .u8 0, .int .u8 0, .int .u8 0, .int .u8 0, .int .u8 0, .int .u8 0, .int .u8 0, .int .u8 0, .int .u8 0, .int .u8 0, .int .u8 0, .int .u8 0, .int .u8 0, .int .u8 0, .int .u8 0, .int .u8 0, .int .u8 0, .int .u8 0, .int .u8 0, .int .u8 0, .int .u8 0, .int .u8 0, .int .u8 0, .int .u8 0, .int .u8 0, .int .u8 0, .int .u8 0, .int .u8 0, .int .u8 0, .int .u8 0, .int .u8 0, .int .u8 0, .int .u8 0, .int .u8 0, .int .u8 0, .int .u8 0, .int .u8 0, .int .u8 0, .int .u8 0, .int .u8 0, .int .u8 0, .int .u8 0, .int .u8 0, .int .u8 0, .int .u8 0, .int .u8 0, .int .u8 0, .int .u8 0, .int .u8 0, .int .u8 0, .int .u8 0, .int .u8 0, .int .u8 0, .int .u8 0, .int .u8 0, .int .u8 0, .int .u8 0, .int .u8 0, .int .u8 0, .int .u8 0, .int .u8 0, .int .u8 0, .int .u8 0] := by kernel_rfl
  rw [hzz] at k1
  clear hzz
  go_wp2_with fail
  have HX2 := Lib.hid (HX1.out.ext k2)
  have c0 := HX2.out.c0
  have hlp := padS_length h64
  have hz2 := k2.size
  have HK2 := Lib.hid k2
  clear k1 k2
  refine wp_drawn 7 (by kernel_rfl) (by kernel_rfl) (fun _ => none) (fun j φ hφ => by cases hφ) ?_
  intro ν
  simp only [List.take_succ_cons, List.take_zero]
  iterate 5 (refine Seq.pure ?_ rfl (fun w' hw hf => ?_) ?_; rotate_left; (· (have d0 := hw.keep (w := World.drew _) c0; unfold pureG; go_simp; with_reducible rfl)); simp only [Act.put, List.setIfInBounds_toArray, List.set_cons_zero, List.set_cons_succ, Nat.reduceAdd, Nat.zero_add])
  refine Seq.pure _ rfl (fun w' hw hf => pureG_load rfl 157 (.tmp 9) rfl w1.heap.size 0 rfl (scells (padS bs)) _ (fun j u hu => hw.keep (w := World.drew _) (k3 j u hu)) Tryz.underlying157 rfl (size157 _ (by rw [scells_length]; exact hlp))) ?_
  simp only [Act.put, List.setIfInBounds_toArray, List.set_cons_zero, List.set_cons_succ, Nat.reduceAdd, Nat.zero_add]
  have hatz : (at_ : Int) < n := by omega
  iterate 1 (refine Seq.pure ?_ rfl (fun w' hw hf => ?_) ?_; rotate_left; (· (have d0 := hw.keep (w := World.drew _) c0; unfold pureG; go_simp; with_reducible rfl)); simp only [Act.put, List.setIfInBounds_toArray, List.set_cons_zero, List.set_cons_succ, Nat.reduceAdd, Nat.zero_add])
  refine Seq.nil fun w3 hw3 hf3 => tail_one (i := 7) (by kernel_rfl) rfl (by kernel_rfl) rfl ?_
  have HX3 := Lib.hid (HX2.out.ext ((Ext.drew w2).trans hw3))
  have hr3 : w3.rangeAt w1.heap.size 0 (scells (padS bs)) := fun j u hu => hw3.keep (w := World.drew _) (k3 j u hu)
  refine wpList_store_mid rfl 157 (.tmp 43) (.tmp 42) rfl N (at_ * 64) (scells (padS bs)).toArray rfl rfl (fun j hj => ?_) (by rw [show (scells (padS bs)).toArray.size = (scells (padS bs)).length from by simp]; exact size157 _ (by rw [scells_length]; exact hlp)) (all_oneCell_toArray (scells_oneCell _)) ?_
  · have := HX3.out.tn (at_ * 64 + j) (by have : (scells (padS bs)).toArray.size = 64 := by simp [scells_length, hlp]
                                          omega)
    simpa using this
  have HX4 := Lib.hid (HX3.out.setNow at_ (padS bs) hlp hat)
  have hF4 : FrB (dkS D N K wv) w3 (w3.setCells N (at_ * 64) (scells (padS bs))) := FrB.setCells _ _ _ _ _ (.inr (.inl rfl))
  have hsne : ¬ dkS D N K wv w1.heap.size := fun e => by have := (HX1.out.S_ge _ e).2; omega
  have hs3 : w1.heap.size < w3.heap.size := by have := hw3.size; simp at this; omega
  have hr4 : (w3.setCells N (at_ * 64) (scells (padS bs))).rangeAt w1.heap.size 0 (scells (padS bs)) := fun j u hu => (hF4.cell hs3 hsne).trans (hr3 j u hu)
  have hF := Lib.hid (((HF1.out.trans (FrB.ext HK2.out) (S' := fun _ => False) (fun _ _ e => e.elim)).trans (FrB.ext ((Ext.drew w2).trans hw3)) (S' := fun _ => False) (fun _ _ e => e.elim)).trans hF4 (fun _ _ e => e))
  have hs4 : w1.heap.size < (w3.setCells N (at_ * 64) (scells (padS bs))).heap.size := by rw [size_setCells]; exact hs3
  clear hr3 hF4 k3
  simp only [Act.put]
  generalize w3.setCells N (at_ * 64) (scells (padS bs)) = w4 at HX4 hr4 hF hs4
  go_wp2_with fail
  have c2 := HX4.out.c2
  have f2 := HX4.out.free 2 (by omega)
  have hrow := HX4.out.row
  have hle := HX4.out.le
  have hDr : some D ≠ wv.ownBlock := fun e => HX4.out.off.1 e.symm
  have hsr : some w1.heap.size ≠ wv.ownBlock := fun e => hsne (.inr (.inr (.inr e.symm)))
  have hwl : (powerP m).2.writes.length ≤ 1000000 := by
    rw [(powerP_same m).1]; exact hn
  generalize hM : (powerP m).2 = m' at *
  refine wp_drawnE (ExtApp wv.ownBlock (m'.writes.length * 65) (pcells (at_, padS bs))) 12 (by kernel_rfl) (by kernel_rfl) (fun i => match i with
    | 8 => some fun u w' => ∃ g, u = .slice (some ⟨g, 0, none⟩) 1 1 ∧ w4.heap.size ≤ g ∧ ∀ j z, (pcells (at_, padS bs))[j]? = some z → w'.cell? ((⟨g, 0, none⟩ : Addr).add j) = some z
    | 9 => some fun u w' => ∃ gg cap, u = .slice (some ⟨gg, 0, none⟩) (m'.writes ++ [(at_, padS bs)]).length cap ∧ w'.ownsRow base 159 65 u (m'.writes ++ [(at_, padS bs)]).length (flatP m'.writes ++ pcells (at_, padS bs)) ∧ (w4.heap.size ≤ gg ∨ wv.ownBlock = some gg) ∧ gg < w'.heap.size
    | _ => none) ExtApp.refl (fun h k => h.trans k) ?_ ?_
  · intro j φ hφ u w5 w6 h1 h2
    split at hφ <;> cases hφ
    · obtain ⟨g, e, hg, hc⟩ := h1
      refine ⟨g, e, hg, fun j z hz => ?_⟩
      have := hc j z hz
      rw [addr_add] at this ⊢
      exact h2.keep this fun e => by have := (hrow.lt g e.symm).2; omega
    · obtain ⟨gg, cap, e, ho, h3, h4⟩ := h1
      exact ⟨gg, cap, e, h2.ownsNew ho (flatP_length _ fun p hp => (HX4.out.ok.ats p hp).2), h3, Nat.lt_of_lt_of_le h4 h2.size⟩
  intro ν
  simp only [List.take_succ_cons, List.take_zero]
  iterate 6 (refine Seq.pure ?_ rfl (fun w' hw hf => ?_) ?_; rotate_left; (· (have d2 := hw.keep (w := World.drew _) c2 hDr; unfold pureG; go_simp; with_reducible rfl)); simp only [Act.put, List.setIfInBounds_toArray, List.set_cons_zero, List.set_cons_succ, Nat.reduceAdd, Nat.zero_add])
  refine Seq.pure _ rfl (fun w' hw hf => pureG_load rfl 157 (.tmp 9) rfl w1.heap.size 0 rfl (scells (padS bs)) _ (fun j u hu => hw.keep (w := World.drew _) (hr4 j u hu) hsr) Tryz.underlying157 rfl (size157 _ (by rw [scells_length]; exact hlp))) ?_
  simp only [Act.put, List.setIfInBounds_toArray, List.set_cons_zero, List.set_cons_succ, Nat.reduceAdd, Nat.zero_add]
  refine Seq.pure _ rfl (fun w' hw hf => pureG_build rfl (.tmp 49) (.tmp 50) rfl at_ (scells (padS bs)) rfl rfl (by rw [scells_length]; exact hlp)) ?_
  simp only [Act.put, List.setIfInBounds_toArray, List.set_cons_zero, List.set_cons_succ, Nat.reduceAdd, Nat.zero_add]
  refine Seq.eff _ rfl (fun w' hw hf => giveG_of rfl (by simp) fun K hK => ?_) ?_
  · refine step_bslice rfl (.tmp 51) rfl (pcells (at_, padS bs)) rfl (pcells_length hlp) ?_
    have hz := hw.size
    exact hK _ _ ⟨⟨w'.heap.size, rfl, by simpa using hz, cells_new _ _ 159 _ rfl⟩, (Ext.alloc _ _).app⟩
  simp only [Act.put, List.setIfInBounds_toArray, List.set_cons_zero, List.set_cons_succ, Nat.reduceAdd, Nat.zero_add]
  refine Seq.eff _ rfl (fun w' hw hf => giveG_of rfl (by simp) fun K hK => ?_) ?_
  · obtain ⟨g, e8, hg, hc8⟩ := hf 8 _ rfl (by kernel_rfl)
    have hz := hw.size
    rw [e8] at hK ⊢
    refine step_appP rfl (.tmp 48) (.tmp 52) rfl base wv m'.writes (hw.owns (w := World.drew _) hrow (.inl (Nat.le_refl _))) (at_, padS bs) hlp ⟨g, 0, none⟩ 1 rfl rfl hc8 hwl (by simp at hz; omega) ?_
    intro gg cap w5 h1 h2 h3 h4
    exact hK _ _ ⟨⟨gg, cap, rfl, h1, by rcases h3 with h3 | h3; (left; simp at hz; omega); exact .inr h3, h4⟩, h2⟩
  simp only [Act.put, List.setIfInBounds_toArray, List.set_cons_zero, List.set_cons_succ, Nat.reduceAdd, Nat.zero_add]
  iterate 2 (refine Seq.pure ?_ rfl (fun w' hw hf => ?_) ?_; rotate_left; (· (have d2 := hw.keep (w := World.drew _) c2 hDr; unfold pureG; go_simp; with_reducible rfl)); simp only [Act.put, List.setIfInBounds_toArray, List.set_cons_zero, List.set_cons_succ, Nat.reduceAdd, Nat.zero_add])
  refine Seq.nil fun w5 hw5 hf5 => tail_one (i := 12) (by kernel_rfl) rfl (by kernel_rfl) rfl ?_
  obtain ⟨gg, cap, e9, hown, hgg, hlt⟩ := hf5 9 _ (by omega) rfl
  have d2 := hw5.keep (w := World.drew _) c2 hDr
  have g2 := (hw5.marks D 2 HX4.out.lt.1 hDr).trans f2
  rw [e9] at hown ⊢
  go_wp2
  go_ret
  have hX5 := (HX4.out.ext (Ext.drew w4)).extApp (news := pcells (at_, padS bs)) hw5
  have hne : ∀ j, some gg = some j → w4.heap.size ≤ j ∨ wv.ownBlock = some j := fun j e => by cases e; exact hgg
  have hX6 := hX5.setWrites (.slice (some ⟨gg, 0, none⟩) (m'.writes ++ [(at_, padS bs)]).length cap) (m'.writes ++ [(at_, padS bs)]) (by rw [show flatP (m'.writes ++ [(at_, padS bs)]) = flatP m'.writes ++ pcells (at_, padS bs) from by simp [flatP]]; exact hown)
    ⟨fun e => by
      rcases hne D e with q | q
      · have := HX4.out.lt.1; omega
      · exact HX4.out.off.1 q, fun e => by
      rcases hne N e with q | q
      · have := HX4.out.lt.2.1; omega
      · exact HX4.out.off.2.1 q, fun e => by
      rcases hne K e with q | q
      · have := HX4.out.lt.2.2; omega
      · exact HX4.out.off.2.2 q⟩ (fun p hp => by
      rcases List.mem_append.1 hp with q | q
      · exact hX5.ok.ats p q
      · rw [List.mem_singleton.1 q]; exact ⟨hat, hlp⟩)
  have hs0 := hF.out.size
  refine ⟨rfl, _, by simpa using hX6, ((hF.out.trans (FrB.ext (Ext.drew w4)) (S' := fun _ => False) (fun _ _ e => e.elim)).trans hw5.frB (fun j _ e => .inr (.inr (.inr e)))).trans (FrB.setCell (dkS D N K wv) _ _ _ (.inl rfl)) (fun _ _ e => e), fun j hj => ?_⟩
  rcases hne j hj with q | q
  · left; omega
  · exact .inr q
end Go.Proofs.YtgjahnomafpnfaaGreatDoor

/- (*Disk).Write at every disk; a nil disk. -/
namespace Go.Proofs.YtgjahnomafpnfaaGreatDoor
open Go.RowKit
/-- What changes by a call of a disk that does not write. -/
structure DkStep (w w' : World) (base n D N K : Nat) (wv wv' : Value) (m' : Dk) : Prop where
  x : DkX w' base n D N K wv' m'
  fr : FrB (dkS D N K wv) w w'
  own : ∀ j, wv'.ownBlock = some j → w.heap.size ≤ j ∨ wv.ownBlock = some j
theorem DkStep.trans {a b c : World} {base n D N K : Nat} {v1 v2 v3 : Value} {m1 m2 : Dk} (h : DkStep a b base n D N K v1 v2 m1) (k : DkStep b c base n D N K v2 v3 m2) : DkStep a c base n D N K v1 v3 m2 := by
  refine ⟨k.x, h.fr.trans k.fr fun j hj => ?_, fun j hj => ?_⟩
  · rintro (e | e | e | e)
    · exact .inl e
    · exact .inr (.inl e)
    · exact .inr (.inr (.inl e))
    · rcases h.own j e with q | q
      · omega
      · exact .inr (.inr (.inr q))
  · rcases k.own j hj with q | q
    · exact .inl (Nat.le_trans h.fr.size q)
    · exact h.own j q
theorem DkStep.refl {w : World} {base n D N K : Nat} {wv : Value} {m : Dk} (h : DkX w base n D N K wv m) : DkStep w w base n D N K wv wv m := ⟨h, FrB.refl _ _, fun _ => .inr⟩
theorem DkStep.ext {a b c : World} {base n D N K : Nat} {v1 v2 : Value} {m : Dk} (h : DkStep a b base n D N K v1 v2 m) (hE : Ext b c) : DkStep a c base n D N K v1 v2 m :=
  ⟨h.x.ext hE, h.fr.trans (FrB.ext hE) (S' := fun _ => False) (fun _ _ e => e.elim), h.own⟩
set_option maxHeartbeats 800000 in
set_option maxRecDepth 100000 in
theorem Write_any {w : World} {base n D N K : Nat} {wv : Value} {m : Dk} (h : DkX w base n D N K wv m) (at_ : Int) (v : Value) (bs : List UInt8) (hv : SlB w v bs) (hvS : ∀ g, v.ownBlock = some g → ¬ dkS D N K wv g) (hn : m.writes.length ≤ 1000000) :
    Calls Tryz.prog 36 #[.pointer (some ⟨D, 0, none⟩), .int .i64 at_, v] w fun e w' => e = .returned (.int .i64 (writeP m n at_ bs).1) ∧ ∃ wv', DkStep w w' base n D N K wv wv' (writeP m n at_ bs).2 := by
  unfold writeP
  have hr := Lib.hid (ready_any h)
  have hms := h.ok.most
  have hps := h.ok.pos
  have c0 := h.c0
  have HH := Lib.hid h
  have hwn : IntKind.i64.wrap ((n : Int) - 1) = (n : Int) - 1 := IntWalk.i64_in _ (by omega)
  cases hd : m.down
  case true =>
    obtain ⟨a, c, rfl⟩ := hv.shape
    rw [hd] at hr
    rw [if_pos rfl]
    clear h hv hvS
    go_enter Tryz.func36, Tryz.ntmps36
    go_wp2_with (first | (go_at_call 90; refine hr.out.mono ?_; rintro e w' ⟨rfl, rfl⟩))
    go_ret
    exact ⟨rfl, wv, DkStep.refl HH.out⟩
  case false =>
    rw [hd] at hr
    rw [if_neg (by decide)]
    cases hin : inB at_ 0 ((n : Int) - 1)
    case false =>
      obtain ⟨a, c, rfl⟩ := hv.shape
      rw [if_pos rfl]
      clear h hv hvS
      go_enter Tryz.func36, Tryz.ntmps36
      go_wp2_with (first | (go_at_call 90; refine hr.out.mono ?_; rintro e w' ⟨rfl, rfl⟩) | (go_at_call 91; refine (in_any _ _ _ _).mono ?_; rintro e w' ⟨rfl, rfl⟩))
      go_ret
      exact ⟨rfl, wv, DkStep.refl HH.out⟩
    case true =>
      rw [if_neg (by decide)]
      by_cases h64 : 64 < bs.length
      · obtain ⟨a, c, rfl⟩ := hv.shape
        rw [if_pos h64]
        have hl : (64 : Int) < bs.length := by omega
        clear h hv hvS
        go_enter Tryz.func36, Tryz.ntmps36
        go_wp2_with (first | (go_at_call 90; refine hr.out.mono ?_; rintro e w' ⟨rfl, rfl⟩) | (go_at_call 91; refine (in_any _ _ _ _).mono ?_; rintro e w' ⟨rfl, rfl⟩))
        go_ret
        exact ⟨rfl, wv, DkStep.refl HH.out⟩
      · rw [if_neg h64]
        by_cases hp : (powerP m).1 = 0
        · rw [if_neg (by simp [hp])]
          obtain ⟨k, rfl⟩ : ∃ k : Nat, at_ = (k : Int) := ⟨at_.toNat, by have := (inB_iff _ _ _).1 hin; omega⟩
          have hk : k < n := by have := (inB_iff _ _ _).1 hin; omega
          refine (Write_ok h k v bs hv hvS hd hk (by omega) hp hn).mono ?_
          rintro e w' ⟨rfl, wv', h1, h2, h3⟩
          exact ⟨rfl, wv', ⟨h1, h2, h3⟩⟩
        · rw [if_pos hp]
          obtain ⟨a, c, rfl⟩ := hv.shape
          have hpw := Lib.hid (power_any h)
          have hl : ¬ ((64 : Int) < bs.length) := by omega
          generalize hq : powerP m = q at *
          obtain ⟨e, m'⟩ := q
          simp only at hp
          have hne : (e != 0) = true := by simpa using hp
          clear h hv hvS
          go_enter Tryz.func36, Tryz.ntmps36
          go_wp2_with (first | (go_at_call 90; refine hr.out.mono ?_; rintro e w' ⟨rfl, rfl⟩) | (go_at_call 91; refine (in_any _ _ _ _).mono ?_; rintro e w' ⟨rfl, rfl⟩))
          refine hpw.out.mono ?_
          rintro e w1 ⟨rfl, hX1, hF1⟩
          have HX1 := Lib.hid hX1
          have HF1 := Lib.hid hF1
          clear hX1 hF1
          go_wp2
          go_ret
          exact ⟨rfl, wv, HX1.out, HF1.out, fun _ => .inr⟩
set_option maxHeartbeats 400000 in
set_option maxRecDepth 100000 in
theorem Write_nil (at_ : Int) (v : Value) (bs : List UInt8) (w : World) (hv : SlB w v bs) : Calls Tryz.prog 36 #[.pointer none, .int .i64 at_, v] w fun e w' => e = .returned (.int .i64 3) ∧ w' = w := by
  obtain ⟨a, c, rfl⟩ := hv.shape
  go_enter Tryz.func36, Tryz.ntmps36
  go_wp2_with (first | (go_at_call 90; refine (ready_nil _).mono ?_; rintro e w' ⟨rfl, rfl⟩))
  go_ret
  exact ⟨rfl, rfl⟩
end Go.Proofs.YtgjahnomafpnfaaGreatDoor

/- (*Disk).Flush. -/
namespace Go.Proofs.YtgjahnomafpnfaaGreatDoor
open Go.RowKit
theorem run_alloc159 (w : World) : (Instr.alloc 159 true (.tuple #[])).run Tryz.prog w = .ok (.pointer (some ⟨w.heap.size, 0, none⟩)) (w.alloc (.cells (#[.int .i64 0] ++ Array.replicate 64 (.int .u8 0)) 159)) := by
  obtain ⟨i0, hi0, hz0, hz1, hz2⟩ := info_parts info159
  have hv : (zeroValue 159).run Tryz.prog w = .ok (.agg (#[.int .i64 0] ++ Array.replicate 64 (.int .u8 0))) w := by simp [zeroValue, typeInfo, hi0, hz0]
  unfold Instr.alloc
  rw [Sem.run_bind, hv]
  simp only [Result.andThen_ok, newVar, newRow, Value.cells]
  rfl
theorem run_alloc157' (w : World) : (Instr.alloc 157 true (.tuple #[])).run Tryz.prog w = .ok (.pointer (some ⟨w.heap.size, 0, none⟩)) (w.alloc (.cells (scells zsec).toArray 157)) := by
  have := run_alloc157 w
  unfold Instr.alloc at this ⊢
  exact this
theorem wpList_allocV {ops : Array Oper} {rest : List Oper} {o : Oper} {a : Act} {w : World} {Q : Exit → Act → World → Prop} (hg : o.guard = none) (ty : TypeId) (ho : o.op = .alloc ty) (cs : Array Value)
    (hz : (Instr.alloc ty true (.tuple #[])).run Tryz.prog w = .ok (.pointer (some ⟨w.heap.size, 0, none⟩)) (w.alloc (.cells cs ty)))
    (h : wpList Tryz.prog ops Q rest (a.put o.dst (.pointer (some ⟨w.heap.size, 0, none⟩))) (w.alloc (.cells cs ty))) : wpList Tryz.prog ops Q (o :: rest) a w := by
  refine wpList_plain hg fun K hK => ?_
  unfold Oper.wp execOp
  simp only [ho, Sem.run_bind, hz, Result.andThen_ok]
  exact hK _ _ h
/-- A new variable into which cells are stored. -/
theorem laid_new (w : World) (cs : List Value) (zs : Array Value) (ty : TypeId) (hl : zs.size = cs.length) (h1 : ∀ v ∈ cs, v.oneCell' = true) : ∃ w2, Sem.run Tryz.prog (storeCells ⟨w.heap.size, 0, none⟩ cs) (w.alloc (.cells zs ty)) = .ok () w2 ∧ Ext w w2 ∧ w2.rangeAt w.heap.size 0 cs ∧ w.heap.size < w2.heap.size := by
  have ht := there_new w zs ty w.heap.size cs.length rfl (by omega)
  have hst := run_storeCells_cells (P := Tryz.prog) w.heap.size 0 cs 0 (w.alloc (.cells zs ty)) (fun j hj => by first | (simp; done) | simpa using (ht j hj).1) (fun j hj => by first | (simp; done) | simpa using (ht j hj).2) h1
  exact ⟨_, hst, below_setCells (Nat.le_refl _) _ _ _ (Ext.alloc _ _), World.rangeAt_setCells_same _ _ _ _ ht, by rw [size_setCells]; simp⟩
theorem flatP_get (l : List (Nat × Sec)) (h : ∀ p ∈ l, p.2.length = 64) : ∀ (i j : Nat) (p : Nat × Sec), l[i]? = some p → j < 65 → (flatP l)[i * 65 + j]? = (pcells p)[j]? := by
  induction l with
  | nil => intro i j s hs; simp at hs
  | cons x l ih =>
    intro i j s hs hj
    have e : flatP (x :: l) = pcells x ++ flatP l := by simp [flatP]
    have lx : (pcells x).length = 65 := pcells_length (h x (List.mem_cons_self ..))
    cases i with
    | zero =>
      simp at hs; subst hs
      rw [e, List.getElem?_append_left (by omega)]; simp
    | succ i =>
      rw [e, List.getElem?_append_right (by omega), lx, show (i + 1) * 65 + j - 65 = i * 65 + j from by omega]
      exact ih (fun y hy => h y (List.mem_cons_of_mem _ hy)) i j s (by simpa using hs) hj
/-- The row of writes, read. -/
theorem DkX.writes_at {w : World} {base n D N K : Nat} {wv : Value} {m : Dk} (h : DkX w base n D N K wv m) : ∃ ao cap, wv = .slice ao m.writes.length cap ∧ ∀ (i : Nat) p, m.writes[i]? = some p → ∃ q, ao = some ⟨q, 0, none⟩ ∧ w.rangeAt q (i * 65) (pcells p) ∧ q < w.heap.size ∧ ¬ (q = D ∨ q = N ∨ q = K) := by
  rcases h.row.2 with ⟨h1, h2⟩ | ⟨g, cap, cur, h1, h2, h3, h4, h5, h6⟩
  · exact ⟨none, 0, by rw [h1, h2], fun i p hp => by rw [List.eq_nil_of_length_eq_zero h2] at hp; simp at hp⟩
  · refine ⟨_, cap, h1, fun i p hp => ⟨g, rfl, fun j u hu => ?_, (Array.getElem?_eq_some_iff.1 h3).1, ?_⟩⟩
    · have hp2 : p.2.length = 64 := (h.ok.ats p (List.mem_of_getElem? hp)).2
      have hj : j < 65 := by have := (List.getElem?_eq_some_iff.1 hu).1; rwa [pcells_length hp2] at this
      have := h.row.cells (g := g) (by rw [h1]; rfl) (i * 65 + j) u (by rw [flatP_get _ (fun p hp => (h.ok.ats p hp).2) i j p hp hj]; exact hu)
      rwa [addr_add] at this
    · have ho := h.off
      rw [h1] at ho
      simp only [Value.ownBlock, ne_eq, Option.some.injEq] at ho
      rintro (e | e | e)
      · exact ho.1 e
      · exact ho.2.1 e
      · exact ho.2.2 e
def flushK (kept : List Sec) (ws : List (Nat × Sec)) : List Sec := ws.foldl (fun k p => k.set p.1 p.2) kept
theorem flushK_snoc (kept : List Sec) (ws : List (Nat × Sec)) (i : Nat) (p : Nat × Sec) (hp : ws[i]? = some p) : flushK kept (ws.take (i + 1)) = (flushK kept (ws.take i)).set p.1 p.2 := by
  rw [List.take_add_one, hp]
  simp [flushK]
/-- What Flush does. -/
def flushP (m : Dk) : Int × Dk :=
  if m.down then (80, m) else if (powerP m).1 ≠ 0 then powerP m else (0, { (powerP m).2 with kept := flushK m.kept m.writes, writes := [] })
set_option maxHeartbeats 800000 in
set_option maxRecDepth 100000 in
theorem Flush_ok {w : World} {base n D N K : Nat} {wv : Value} {m : Dk} (h : DkX w base n D N K wv m) (hd : m.down = false) (hp : (powerP m).1 = 0) (hn : m.writes.length ≤ 1000000) :
    Calls Tryz.prog 37 #[.pointer (some ⟨D, 0, none⟩)] w fun e w' => e = .returned (.int .i64 0) ∧ DkStep w w' base n D N K wv (.slice none 0 0) { (powerP m).2 with kept := flushK m.kept m.writes, writes := [] } := by
  have hr := Lib.hid (ready_any h)
  rw [hd] at hr
  have hpw := Lib.hid (power_any h)
  rw [hp] at hpw
  obtain ⟨hs1, hs2, hs3⟩ := powerP_same m
  rw [← hs1, ← hs3]
  generalize (powerP m).2 = m' at *
  rw [← hs1] at hn
  clear hs1 hs2 hs3
  have HH := Lib.hid h
  clear h
  go_enter Tryz.func37, Tryz.ntmps37
  go_wp2_with (first | (go_at_call 90; refine hr.out.mono ?_; rintro e w' ⟨rfl, rfl⟩))
  refine hpw.out.mono ?_
  rintro e w1 ⟨rfl, hX1, hF1⟩
  obtain ⟨ao, cap, rfl, hws⟩ := hX1.writes_at
  have c2 := hX1.c2
  have HX1 := Lib.hid hX1
  have HF1 := Lib.hid hF1
  have HWS := Lib.hid hws
  clear hX1 hF1 hws
  go_wp2
  go_loopw [6, 22] (fun _ i wr => ∃ k : Nat, k ≤ m'.writes.length ∧ i = .int .i64 k ∧ DkX wr base n D N K (.slice ao m'.writes.length cap) { m' with kept := flushK m'.kept (m'.writes.take k) } ∧ FrB (fun j => j = K) w1 wr) (fun _ i _ => m'.writes.length - (intOf i).toNat)
  case atStart => exact ⟨0, by omega, rfl, HX1.out, FrB.refl _ _⟩
  case round =>
    obtain ⟨k, hk, rfl, hX, hF⟩ := hrel
    have c1 := hX.c1
    have HX := Lib.hid hX
    have HF := Lib.hid hF
    by_cases hlt : k < m'.writes.length
    · obtain ⟨p, hp⟩ : ∃ p, m'.writes[k]? = some p := ⟨_, List.getElem?_eq_getElem hlt⟩
      obtain ⟨q, rfl, hrq, hq, hqn⟩ := HWS.out k p hp
      have hrr : wr.rangeAt q (k * 65) (pcells p) := fun j u hu => (HF.out.cell hq (fun e => hqn (.inr (.inr e)))).trans (hrq j u hu)
      have hp2 := HX1.out.ok.ats p (List.mem_of_getElem? hp)
      have hpl := pcells_length hp2.2
      have hlt' : (k : Int) < m'.writes.length := by omega
      obtain ⟨w2, l1, l2, l3, l4⟩ := laid_new wr (pcells p) (#[.int .i64 0] ++ Array.replicate 64 (.int .u8 0)) 159 (by rw [hpl]; simp) (pcells_oneCell p)
      clear hX hF hrq
      go_wp2_with (first | (refine wpList_load_mid rfl 159 (.tmp 24) rfl q (k * 65) rfl (pcells p) _ hrr Tryz.underlying159 rfl (size159 _ hpl) ?_) | (refine wpList_allocV rfl 159 rfl _ (run_alloc159 _) ?_))
      have HX2 := Lib.hid (HX.out.ext l2)
      have L2 := Lib.hid l2
      have r0 : w2.cell? ⟨wr.heap.size, 0, none⟩ = some (.int .i64 p.1) := l3 0 _ rfl
      have r1 : w2.rangeAt wr.heap.size 1 (scells p.2) := fun j u hu => by have := l3 (j + 1) u (by simpa [pcells] using hu); rwa [Nat.zero_add, Nat.add_comm] at this
      have d1 := HX2.out.c1
      clear l1 l2 l3 c1
      refine wp_drawn 9 (by kernel_rfl) (by kernel_rfl) (fun _ => none) (fun j φ hφ => by cases hφ) ?_
      intro ν
      simp only [List.take_succ_cons, List.take_zero]
      iterate 7 (refine Seq.pure ?_ rfl (fun w' hw hf => ?_) ?_; rotate_left; (· (have e1 := hw.keep (w := World.drew _) d1; have e0 := hw.keep (w := World.drew _) r0; unfold pureG; go_simp; with_reducible rfl)); simp only [Act.put, List.setIfInBounds_toArray, List.set_cons_zero, List.set_cons_succ, Nat.reduceAdd, Nat.zero_add])
      refine Seq.pure _ rfl (fun w' hw hf => pureG_load rfl 157 (.tmp 32) rfl wr.heap.size 1 rfl (scells p.2) _ (fun j u hu => hw.keep (w := World.drew _) (r1 j u hu)) Tryz.underlying157 rfl (size157 _ (by rw [scells_length]; exact hp2.2))) ?_
      simp only [Act.put, List.setIfInBounds_toArray, List.set_cons_zero, List.set_cons_succ, Nat.reduceAdd, Nat.zero_add]
      have hatz : (p.1 : Int) < n := by omega
      iterate 1 (refine Seq.pure ?_ rfl (fun w' hw hf => ?_) ?_; rotate_left; (· (skip; unfold pureG; go_simp; with_reducible rfl)); simp only [Act.put, List.setIfInBounds_toArray, List.set_cons_zero, List.set_cons_succ, Nat.reduceAdd, Nat.zero_add])
      refine Seq.nil fun w3 hw3 hf3 => tail_one (i := 9) (by kernel_rfl) rfl (by kernel_rfl) rfl ?_
      have HX3 := Lib.hid (HX2.out.ext ((Ext.drew w2).trans hw3))
      refine wpList_store_mid rfl 157 (.tmp 34) (.tmp 33) rfl K (p.1 * 64) (scells p.2).toArray rfl rfl (fun j hj => ?_) (by rw [show (scells p.2).toArray.size = (scells p.2).length from by simp]; exact size157 _ (by rw [scells_length]; exact hp2.2)) (all_oneCell_toArray (scells_oneCell _)) ?_
      · have := HX3.out.tk (p.1 * 64 + j) (by have : (scells p.2).toArray.size = 64 := by simp [scells_length, hp2.2]
                                              omega)
        simpa using this
      have HX4 := Lib.hid (HX3.out.setKept p.1 p.2 hp2.2 hp2.1)
      have HF4 := Lib.hid (((HF.out.trans (FrB.ext L2.out) (S' := fun _ => False) (fun _ _ e => e.elim)).trans (FrB.ext ((Ext.drew w2).trans hw3)) (S' := fun _ => False) (fun _ _ e => e.elim)).trans (FrB.setCells (fun j => j = K) w3 K (p.1 * 64) (scells p.2) rfl) (fun _ _ e => e))
      simp only [Act.put]
      generalize w3.setCells K (p.1 * 64) (scells p.2) = w4 at HX4 HF4
      go_wp2
      go_roundw
      case rel => exact ⟨k + 1, by omega, by go_num, by have := HX4.out; rw [← flushK_snoc _ _ _ _ hp] at this; exact this, HF4.out⟩
      case measure => simp [intOf]; omega
    · obtain rfl : k = m'.writes.length := by omega
      have c2 := hX.c2
      have f2 := hX.free 2 (by omega)
      have hl : m'.writes.take m'.writes.length = m'.writes := List.take_length
      rw [hl] at HX
      clear hl hX hF
      go_wp2
      go_ret
      refine ⟨rfl, HX.out.setWrites (.slice none 0 0) [] (World.ownsRow_nil _ _ _ _) (by simp [Value.ownBlock]) (fun p hp => by cases hp), ?_, fun j hj => by cases hj⟩
      exact ((HF1.out.trans HF.out (fun j _ e => .inr (.inr (.inl e))))).trans (FrB.setCell (dkS D N K _) _ _ _ (.inl rfl)) (fun _ _ e => e)
end Go.Proofs.YtgjahnomafpnfaaGreatDoor

/- (*Disk).Flush at every disk, (*Disk).wipe. -/
namespace Go.Proofs.YtgjahnomafpnfaaGreatDoor
open Go.RowKit
set_option maxHeartbeats 800000 in
set_option maxRecDepth 100000 in
theorem Flush_any {w : World} {base n D N K : Nat} {wv : Value} {m : Dk} (h : DkX w base n D N K wv m) (hn : m.writes.length ≤ 1000000) :
    Calls Tryz.prog 37 #[.pointer (some ⟨D, 0, none⟩)] w fun e w' => e = .returned (.int .i64 (flushP m).1) ∧ ∃ wv', DkStep w w' base n D N K wv wv' (flushP m).2 := by
  unfold flushP
  cases hd : m.down
  case true =>
    have hr := Lib.hid (ready_any h)
    have HH := Lib.hid h
    rw [hd] at hr
    rw [if_pos rfl]
    clear h
    go_enter Tryz.func37, Tryz.ntmps37
    go_wp2_with (first | (go_at_call 90; refine hr.out.mono ?_; rintro e w' ⟨rfl, rfl⟩))
    go_ret
    exact ⟨rfl, wv, DkStep.refl HH.out⟩
  case false =>
    rw [if_neg (by decide)]
    by_cases hp : (powerP m).1 = 0
    · rw [if_neg (by simp [hp])]
      refine (Flush_ok h hd hp hn).mono ?_
      rintro e w' ⟨rfl, h1⟩
      exact ⟨rfl, _, h1⟩
    · rw [if_pos hp]
      have hr := Lib.hid (ready_any h)
      have hpw := Lib.hid (power_any h)
      rw [hd] at hr
      generalize hq : powerP m = q at *
      obtain ⟨e, m'⟩ := q
      simp only at hp
      have hne : (e != 0) = true := by simpa using hp
      clear h
      go_enter Tryz.func37, Tryz.ntmps37
      go_wp2_with (first | (go_at_call 90; refine hr.out.mono ?_; rintro e w' ⟨rfl, rfl⟩))
      refine hpw.out.mono ?_
      rintro e w1 ⟨rfl, hX1, hF1⟩
      have HX1 := Lib.hid hX1
      have HF1 := Lib.hid hF1
      clear hX1 hF1
      go_wp2
      go_ret
      exact ⟨rfl, wv, HX1.out, HF1.out, fun _ => .inr⟩
set_option maxHeartbeats 400000 in
set_option maxRecDepth 100000 in
theorem Flush_nil (w : World) : Calls Tryz.prog 37 #[.pointer none] w fun e w' => e = .returned (.int .i64 3) ∧ w' = w := by
  go_enter Tryz.func37, Tryz.ntmps37
  go_wp2_with (first | (go_at_call 90; refine (ready_nil _).mono ?_; rintro e w' ⟨rfl, rfl⟩))
  go_ret
  exact ⟨rfl, rfl⟩
def wipeGo (n : Nat) : Nat → Dk → Nat → Int × Dk
  | 0, m, _ => flushP m
  | k + 1, m, a => if m.now.getD a [] == zsec then wipeGo n k m (a + 1) else if (writeP m n a []).1 ≠ 0 then writeP m n a [] else wipeGo n k (writeP m n a []).2 (a + 1)
/-- What wipe does. -/
def wipeP (n : Nat) (m : Dk) (a : Nat) : Int × Dk := wipeGo n (n - a) m a
theorem build_zero (w : World) : (Instr.build 157 #[]).run Tryz.prog w = .ok (.agg (scells zsec).toArray) w := by
  refine run_build w 157 _ _ ?_
  obtain ⟨i0, hi0, hz0, hz1, hz2⟩ := info_parts info157
  obtain ⟨i5, hi5⟩ : ∃ i5, Tryz.prog.info? 5 = some i5 := by
    cases h : Tryz.prog.info? 5 with
    | none => have := info5; rw [h] at this; cases this
    | some i => exact ⟨i, rfl⟩
  unfold Program.built
  simp only [hi0, hi5, Tryz.underlying157, hz0, Value.cells]
  unfold Instr.fill
  unfold scells zsec
  rw [List.map_replicate]
  rfl
theorem eql_sec (a b : Sec) (ha : a.length = 64) (hb : b.length = 64) (w : World) : (binOp .eql 157 (.agg (scells a).toArray) (.agg (scells b).toArray)).run Tryz.prog w = .ok (.bool (a == b)) w := by
  have hsz : ∀ w, (sizeOf 5).run Tryz.prog w = .ok 1 w := by
    intro w
    cases h : Tryz.prog.info? 5 with
    | none => have := info5; rw [h] at this; cases this
    | some i =>
      have h2 := info5
      rw [h] at h2
      simp at h2
      simp [sizeOf, typeInfo, h, h2]
  exact run_eql_bytes w 157 5 64 Tryz.underlying157 Tryz.underlying5 hsz a b ha hb
theorem zsec_cells : (scells zsec).toArray = #[.int .u8 0, .int .u8 0, .int .u8 0, .int .u8 0, .int .u8 0, .int .u8 0, .int .u8 0, .int .u8 0, .int .u8 0, .int .u8 0, .int .u8 0, .int .u8 0, .int .u8 0, .int .u8 0, .int .u8 0, .int .u8 0, .int .u8 0, .int .u8 0, .int .u8 0, .int .u8 0, .int .u8 0, .int .u8 0, .int .u8 0, .int .u8 0, .int .u8 0, .int .u8 0, .int .u8 0, .int .u8 0, .int .u8 0, .int .u8 0, .int .u8 0, .int .u8 0, .int .u8 0, .int .u8 0, .int .u8 0, .int .u8 0, .int .u8 0, .int .u8 0, .int .u8 0, .int .u8 0, .int .u8 0, .int .u8 0, .int .u8 0, .int .u8 0, .int .u8 0, .int .u8 0, .int .u8 0, .int .u8 0, .int .u8 0, .int .u8 0, .int .u8 0, .int .u8 0, .int .u8 0, .int .u8 0, .int .u8 0, .int .u8 0, .int .u8 0, .int .u8 0, .int .u8 0, .int .u8 0, .int .u8 0, .int .u8 0, .int .u8 0, .int .u8 0] := by kernel_rfl
theorem eqIn_sec (a : Sec) (ha : a.length = 64) (w : World) : (Op.equalIn 10000 157 (.agg (scells a).toArray) (.agg #[.int .u8 0, .int .u8 0, .int .u8 0, .int .u8 0, .int .u8 0, .int .u8 0, .int .u8 0, .int .u8 0, .int .u8 0, .int .u8 0, .int .u8 0, .int .u8 0, .int .u8 0, .int .u8 0, .int .u8 0, .int .u8 0, .int .u8 0, .int .u8 0, .int .u8 0, .int .u8 0, .int .u8 0, .int .u8 0, .int .u8 0, .int .u8 0, .int .u8 0, .int .u8 0, .int .u8 0, .int .u8 0, .int .u8 0, .int .u8 0, .int .u8 0, .int .u8 0, .int .u8 0, .int .u8 0, .int .u8 0, .int .u8 0, .int .u8 0, .int .u8 0, .int .u8 0, .int .u8 0, .int .u8 0, .int .u8 0, .int .u8 0, .int .u8 0, .int .u8 0, .int .u8 0, .int .u8 0, .int .u8 0, .int .u8 0, .int .u8 0, .int .u8 0, .int .u8 0, .int .u8 0, .int .u8 0, .int .u8 0, .int .u8 0, .int .u8 0, .int .u8 0, .int .u8 0, .int .u8 0, .int .u8 0, .int .u8 0, .int .u8 0, .int .u8 0])).run Tryz.prog w = .ok (a == zsec) w := by
  have hsz : ∀ w, (sizeOf 5).run Tryz.prog w = .ok 1 w := by
    intro w
    cases h : Tryz.prog.info? 5 with
    | none => have := info5; rw [h] at this; cases this
    | some i =>
      have h2 := info5
      rw [h] at h2
      simp at h2
      simp [sizeOf, typeInfo, h, h2]
  rw [← zsec_cells]
  exact run_equalIn_bytes w 9998 157 5 64 Tryz.underlying157 Tryz.underlying5 hsz a zsec ha (by simp [zsec])
theorem DkX.nowAt {w : World} {base n D N K : Nat} {wv : Value} {m : Dk} (h : DkX w base n D N K wv m) {a : Nat} (ha : a < n) : (m.now.getD a []).length = 64 ∧ w.rangeAt N (a * 64) (scells (m.now.getD a [])) := by
  have hl : a < m.now.length := by rw [h.ok.now]; exact ha
  have e : m.now.getD a [] = m.now[a] := by simp [List.getD, hl]
  rw [e]
  have h64 := h.ok.nows _ (List.getElem_mem hl)
  refine ⟨h64, fun j u hu => ?_⟩
  have hj : j < 64 := by have := (List.getElem?_eq_some_iff.1 hu).1; rwa [scells_length, h64] at this
  have := h.rn (a * 64 + j) u (by rw [flatS_get _ h.ok.nows a j _ (List.getElem?_eq_getElem hl) hj]; exact hu)
  rwa [Nat.zero_add] at this
theorem writeP_len (m : Dk) (n : Nat) (a : Int) (bs : List UInt8) : (writeP m n a bs).2.writes.length ≤ m.writes.length + 1 := by
  unfold writeP
  have := (powerP_same m).1
  split
  · simp
  · split
    · simp
    · split
      · simp
      · split
        · rw [this]; omega
        · simp [this]
set_option maxHeartbeats 800000 in
set_option maxRecDepth 100000 in
theorem wipe_any {w : World} {base n D N K : Nat} {wv : Value} {m : Dk} (h : DkX w base n D N K wv m) (a : Nat) (ha : a ≤ 1000000) (hn : m.writes.length + n ≤ 1000000) :
    Calls Tryz.prog 98 #[.pointer (some ⟨D, 0, none⟩), .int .i64 a] w fun e w' => e = .returned (.int .i64 (wipeP n m a).1) ∧ ∃ wv', DkStep w w' base n D N K wv wv' (wipeP n m a).2 := by
  unfold wipeP
  have HH := Lib.hid h
  have hms := h.ok.most
  obtain ⟨R, hRR⟩ : ∃ R, wipeGo n (n - a) m a = R := ⟨_, rfl⟩
  rw [hRR]
  have HRR := Lib.hid hRR
  clear h hRR
  go_enter Tryz.func98, Tryz.ntmps98
  go_wp2
  go_loopw [5, 6] (fun i _ wr => ∃ (k : Nat) (m' : Dk) (wv' : Value), i = .int .i64 k ∧ a ≤ k ∧ (k ≤ n ∨ k = a) ∧ wipeGo n (n - k) m' k = R ∧ m'.writes.length + (n - k) ≤ 1000000 ∧ DkStep w wr base n D N K wv wv' m') (fun i _ _ => n - (intOf i).toNat)
  case atStart => exact ⟨a, m, wv, rfl, Nat.le_refl _, .inr rfl, HRR.out, by omega, DkStep.refl HH.out⟩
  case round =>
    obtain ⟨k, m', wv', rfl, hak, hkn, hgo, hlen, hS⟩ := hrel
    have c0 := hS.x.c0
    have HS := Lib.hid hS
    by_cases hlt : k < n
    · have hlt' : (k : Int) < n := by omega
      obtain ⟨h64, hrn⟩ := hS.x.nowAt hlt
      have heq := fun w => eqIn_sec (m'.now.getD k []) h64 w
      obtain ⟨q, hq⟩ : ∃ q, n - k = q + 1 := ⟨n - k - 1, by omega⟩
      have hq' : n - (k + 1) = q := by omega
      rw [hq] at hgo
      unfold wipeGo at hgo
      clear hS
      generalize m'.now.getD k [] = s at *
      cases hz : s == zsec
      · rw [if_neg (by simp [hz])] at hgo
        have HG := Lib.hid hgo
        clear hgo
        simp only [hz] at heq
        have hW := Lib.hid (Write_any HS.out.x k (.slice none 0 0) [] (.inl ⟨rfl, rfl⟩) (fun g e => by cases e) (by omega))
        have hlw := writeP_len m' n k []
        generalize writeP m' n k [] = r at *
        obtain ⟨e, m2⟩ := r
        simp only at hW hlw
        go_wp2_with (first | (refine wpList_load_mid rfl 157 (.tmp 22) rfl N (k * 64) rfl (scells s) _ hrn Tryz.underlying157 rfl (size157 _ (by rw [scells_length]; exact h64)) ?_))
        refine hW.out.mono ?_
        rintro e' w2 ⟨rfl, wv2, h2⟩
        have H2 := Lib.hid (HS.out.trans h2)
        clear h2
        by_cases he : e = 0
        · subst he
          have HG2 : wipeGo n q m2 (k + 1) = R := by have := HG.out; simpa using this
          have HG3 := Lib.hid HG2
          clear HG2
          go_wp2
          go_roundw
          case rel => exact ⟨k + 1, m2, wv2, by go_num, by omega, .inl (by omega), by rw [hq']; exact HG3.out, by omega, H2.out⟩
          case measure => simp [intOf]; omega
        · have hne : (e != 0) = true := by simpa using he
          have HG2 : (e, m2) = R := by have := HG.out; rw [if_pos he] at this; exact this
          subst HG2
          clear HG HRR
          go_wp2
          go_ret
          exact ⟨rfl, wv2, H2.out⟩
      · rw [if_pos hz] at hgo
        have HG := Lib.hid hgo
        clear hgo
        simp only [hz] at heq
        go_wp2_with (first | (refine wpList_load_mid rfl 157 (.tmp 22) rfl N (k * 64) rfl (scells s) _ hrn Tryz.underlying157 rfl (size157 _ (by rw [scells_length]; exact h64)) ?_))
        go_roundw
        case rel => exact ⟨k + 1, m', wv', by go_num, by omega, .inl (by omega), by rw [hq']; exact HG.out, by omega, HS.out⟩
        case measure => simp [intOf]; omega
    · have hk0 : n - k = 0 := by omega
      rw [hk0] at hgo
      unfold wipeGo at hgo
      have HG := Lib.hid hgo
      have hF := Lib.hid (Flush_any HS.out.x (by omega))
      have hge : ¬ ((k : Int) < n) := by omega
      clear hgo hS
      go_wp2_with fail
      refine hF.out.mono ?_
      rintro e w2 ⟨rfl, wv2, h2⟩
      have H2 := Lib.hid h2
      clear h2
      go_wp2
      go_ret
      refine ⟨by rw [← HG.out]; rfl, wv2, ?_⟩
      rw [← HG.out]
      exact HS.out.trans H2.out
end Go.Proofs.YtgjahnomafpnfaaGreatDoor
