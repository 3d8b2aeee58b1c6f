/- Lemmas and walks that this claim needs, in one text out of several; each states its own conditions. -/
import Derived.Test.YtgjahnomafpnfaaGreatDoorMPostOrder1
import Derived.Test.YtgjahnomafpnfaaGreatDoorMPostOrder2
set_option linter.unusedVariables false
set_option linter.unusedSimpArgs false
/- The law PostOrder: its walk. -/
namespace Go.Proofs.YtgjahnomafpnfaaGreatDoor
open Go.RowKit
theorem SlR.take3 {w : World} {g c l : Nat} {xs : List Rec} (h : SlR w (.slice (some ⟨g, 0, none⟩) l c) xs) (k : Nat) (hk : k ≤ xs.length) : SlR w (.slice (some ⟨g, 0, none⟩) k k) (xs.take k) := by
  rcases h with ⟨h1, _⟩ | ⟨b, off, cap, h1, h2, h3, h4, h5⟩
  · cases h1
  · cases h1
    refine .inr ⟨g, 0, k, by simp [Nat.min_eq_left hk], by simp [Nat.min_eq_left hk], by omega, h4, fun j u hu => h5 j u ?_⟩
    have e : flat xs = flat (xs.take k) ++ flat (xs.drop k) := by rw [← flat_append, List.take_append_drop]
    rw [e, List.getElem?_append_left (List.getElem?_eq_some_iff.1 hu).1]
    exact hu
theorem any_mem {xs : List Rec} {x : Rec} : (xs.any fun y => recB y x) = true ↔ x ∈ xs := by
  rw [List.any_eq_true]
  constructor
  · rintro ⟨y, hy, e⟩
    rw [(recB_iff y x).1 e] at hy; exact hy
  · intro h
    exact ⟨x, h, (recB_iff x x).2 rfl⟩
theorem any_not {xs : List Rec} {x : Rec} (h : x ∉ xs) : (xs.any fun y => recB y x) = false := by
  rw [Bool.eq_false_iff, Ne, any_mem]; exact h
/-- What PostOrder asks of each record of an order. -/
theorem order_each {xs ys : List Rec} (hr : Refs xs) (h : InOrder xs ys) {k : Nat} {x : Rec} (hx : ys[k]? = some x) : x ∈ xs ∧ x ∉ ys.take k ∧ ∀ y, 0 < k → ys[k - 1]? = some y → y.hr ≤ x.hr := by
  have hlen := h.1.length_eq
  have hk := (List.getElem?_eq_some_iff.1 hx).1
  refine ⟨h.1.mem_iff.1 (List.mem_of_getElem? hx), fun hm => ?_, fun y h0 hy => ?_⟩
  · have nd : ys.Nodup := (h.1.nodup_iff).2 hr.nodup
    obtain ⟨j, hj⟩ := List.getElem?_of_mem hm
    rw [List.getElem?_take] at hj
    split at hj
    · rename_i hjk
      obtain ⟨a, ha⟩ := List.getElem?_eq_some_iff.1 hj
      obtain ⟨b, hb⟩ := List.getElem?_eq_some_iff.1 hx
      have := (List.getElem_inj (h₀ := a) (h₁ := b) nd).1 (ha.trans hb.symm)
      omega
    · cases hj
  · have := h.2 (k - 1) k y x (Nat.zero_le _) (by omega) (by omega) hy hx
    rw [leR_iff] at this
    omega
set_option maxHeartbeats 1600000 in
set_option maxRecDepth 100000 in
theorem PostOrder_any {B : Nat} {w : World} (hL : Laid B w) (n : Int) (va : Value) (l : List Rec) (hour : Int) (ha : SlR w va l) :
    Calls Tryz.prog 4 #[.int .i64 n, va, .int .i64 hour] w fun e w' => e = .returned (.bool true) ∧ Ext w w' := by
  obtain ⟨ao, cl, rfl⟩ := ha.shape
  have HF := Lib.hid (Few_same _ l 60 (by omega) w ha)
  have HA := Lib.hid ha
  have HAL := Lib.hid (fun (W : World) (h : Ext w W) => alive_any (hL.ext h))
  clear hL ha
  by_cases f1 : fewB l 60 = true
  · have hla := ((fewB_iff _ _).1 f1).1
    rw [f1] at HF
    clear f1
    go_enter Tryz.func4, Tryz.ntmps4
    go_wp2_with (first | (go_at_call 24; refine HF.out.mono ?_; rintro e w' ⟨rfl, rfl⟩))
    refine (Order_all n _ l w HA.out (by omega)).mono ?_
    rintro e w1 ⟨hE1, hpost⟩
    have HE1 : RowKit.Hid (Ext w w1) := Lib.hid hE1
    clear hE1
    rcases hpost with ⟨he, rfl⟩ | ⟨he, v1, ys, rfl, hio, hsw⟩
    · have hne : ((sortedP n l).2.2 != 0) = true := by simpa using he
      have HCK := Lib.hid (CheckRecords_any n _ l w1 (HA.out.ext HE1.out) (by omega))
      generalize (sortedP n l).2.2 = E at *
      generalize (sortedP n l).2.1 = I at *
      clear he
      go_wp2_with fail
      refine HCK.out.mono ?_
      rintro e w2 ⟨rfl, hb2⟩
      have HE2 : RowKit.Hid (Ext w w2) := Lib.hid (HE1.out.trans hb2)
      clear hb2
      go_wp2_with fail
      refine (HAL.out w2 HE2.out).mono ?_
      rintro e w3 ⟨rfl, hE3⟩
      have HE3 := Lib.hid (HE2.out.trans hE3)
      clear hE3
      go_wp2_with fail
      go_ret
      exact ⟨rfl, HE3.out⟩
    · have HQ : RowKit.Hid ((sortedP n l).2.2 = 0) := Lib.hid he
      have HIO := Lib.hid hio
      have hyl : ys.length = l.length := hio.1.length_eq
      have hr := book_refs he
      have HR := Lib.hid hr
      clear he hio hr
      rcases hsw with ⟨rfl, rfl⟩ | ⟨g, cap, rfl, hs⟩
      · obtain rfl : l = [] := List.eq_nil_of_length_eq_zero (by rw [← hyl]; rfl)
        clear hyl
        have hus := until_sorted HQ.out hour
        have hul : (upTo hour ([] : List Rec)).length = 0 := rfl
        go_wp2_with fail
        go_loopw [53] (fun i wr => i = .int .i64 0 ∧ w1 = wr) (fun i _ => 0)
        case atStart => exact ⟨rfl, rfl⟩
        case round =>
          obtain ⟨rfl, rfl⟩ := hrel
          go_wp2_with fail
          refine (Until_any n _ [] hour w1 (HA.out.ext HE1.out) (by simp)).mono ?_
          rintro e w3 ⟨hE3, v3, rfl, hs3⟩
          rw [HQ.out]
          rw [if_pos HQ.out] at hs3
          have HE3 := Lib.hid (HE1.out.trans hE3)
          have HS3 := Lib.hid hs3.slR
          clear hE3 hs3
          go_wp2_with fail
          refine (Order_all n v3 (upTo hour []) w3 HS3.out (by rw [hul]; decide)).mono ?_
          rintro e w4 ⟨hE4, hpost⟩
          have HE4 : RowKit.Hid (Ext w w4) := Lib.hid (HE3.out.trans hE4)
          clear hE4
          rcases hpost with ⟨he, _⟩ | ⟨_, v4, zs, rfl, hio2, hsw2⟩
          · rw [hus] at he; exact absurd rfl he
          · obtain rfl : zs = [] := List.eq_nil_of_length_eq_zero (by have := hio2.1.length_eq; rw [hul] at this; exact this)
            obtain ⟨a4, c4, rfl⟩ := hsw2.slR.shape
            have HS4 := Lib.hid hsw2.slR
            clear hus hio2 hsw2
            go_wp2_with fail
            refine (HAL.out w4 HE4.out).mono ?_
            rintro e w5 ⟨rfl, hE5⟩
            have HE5 := Lib.hid (HE4.out.trans hE5)
            have HS5 := Lib.hid (HS4.out.ext hE5)
            clear hE5
            go_wp2_with fail
            refine (Same_any _ _ [] [] w5 (.inl ⟨rfl, rfl⟩) HS5.out (by simp) (by simp)).mono ?_
            rintro e w6 ⟨rfl, hE6⟩
            rw [sameB_self]
            have HE6 := Lib.hid (HE5.out.trans hE6)
            clear hE6
            go_wp2_with fail
            go_ret
            exact ⟨rfl, HE6.out⟩
      · have hnl : ((ys.length : Int) != (l.length : Int)) = false := by simp [hyl]
        have hsl : SlR w1 (.slice (some ⟨g, 0, none⟩) ys.length cap) ys := (show SlW w1 w.heap.size _ ys from .inr ⟨g, cap, rfl, hs⟩).slR
        have HY := Lib.hid hsl
        have hcap : ys.length ≤ cap := hs.2.1
        have HHY := Lib.hid hyl
        have HCE := Lib.hid hs.2.2.2.2.1
        have hyl60 : ys.length ≤ 60 := by omega
        clear hs hsl hyl
        go_wp2_with fail
        go_loopw [53] (fun i wr => ∃ k : Nat, k ≤ ys.length ∧ i = .int .i64 k ∧ Ext w1 wr) (fun i _ => ys.length - (intOf i).toNat)
        case atStart => exact ⟨0, by omega, rfl, Ext.refl _⟩
        case round =>
          obtain ⟨k, hk, rfl, hE⟩ := hrel
          have HE2 := Lib.hid hE
          by_cases hlt : k < ys.length
          · obtain ⟨x, hx⟩ : ∃ x, ys[k]? = some x := ⟨_, List.getElem?_eq_getElem hlt⟩
            have y0 := hE.keep (HCE.out (k * 4 + 0) _ (by rw [flat_get ys k 0 x hx (by omega)]; rfl))
            have y1 := hE.keep (HCE.out (k * 4 + 1) _ (by rw [flat_get ys k 1 x hx (by omega)]; rfl))
            have y2 := hE.keep (HCE.out (k * 4 + 2) _ (by rw [flat_get ys k 2 x hx (by omega)]; rfl))
            have y3 := hE.keep (HCE.out (k * 4 + 3) _ (by rw [flat_get ys k 3 x hx (by omega)]; rfl))
            simp only [Nat.add_zero] at y0
            obtain ⟨hm1, hm2, hm3⟩ := order_each HR.out HIO.out hx
            have hE3 := Ext.alloc wr (.cells #[.int .i64 x.st, .int .i64 x.num, .int .i64 x.hr, .string x.txt] 49)
            have hB := BoxR.new wr x
            have HC1 := Lib.hid (fun (W : World) (h : Ext (wr.alloc (.cells #[.int .i64 x.st, .int .i64 x.num, .int .i64 x.hr, .string x.txt] 49)) W) => Contains_any _ l x W (((HA.out.ext HE1.out).ext hE).ext (hE3.trans h)) (by omega))
            have HC2 := Lib.hid (fun (W : World) (h : Ext (wr.alloc (.cells #[.int .i64 x.st, .int .i64 x.num, .int .i64 x.hr, .string x.txt] 49)) W) => Contains_any _ _ x W (((HY.out.take3 k hk).ext hE).ext (hE3.trans h)) (by rw [List.length_take]; omega))
            rw [any_mem.2 hm1] at HC1
            rw [any_not hm2] at HC2
            have hkl : (k : Int) < ys.length := by omega
            have hkc : k ≤ cap := by omega
            have x0 := hB.c0
            have x1 := hB.c1
            have x2 := hB.c2
            have x3 := hB.c3
            have HE3 := Lib.hid (hE.trans hE3)
            clear hm1 hm2 hE hB
            go_wp2_with fail
            clear y0 y1 y2 y3
            by_cases hk0 : k = 0
            · have hkz : ¬ ((0 : Int) < k) := by omega
              have hkd : decide ((0 : Int) < (k : Int)) = false := by simp [hk0]
              have hkd2 : decide (0 < k) = false := by simp [hk0]
              have HK0 := Lib.hid hk0
              have HM3 := Lib.hid hm3
              have HX := Lib.hid hx
              have HE4 := Lib.hid hE3
              clear hm3 hx hE3 hk0
              generalize wr.alloc (.cells #[.int .i64 x.st, .int .i64 x.num, .int .i64 x.hr, .string x.txt] 49) = W3 at *
              generalize hXb : wr.heap.size = X at *
              clear hXb
              refine wp_drawn 27 (by kernel_rfl) (drawnFast_ok (by kernel_rfl)) (fun i => match i with
                | 2 => some fun v _ => v = .bool true
                | 10 => some fun v _ => v = .bool false
                | _ => none) ?_ ?_
              · intro j φ hφ v w1 w2 h1 h2
                split at hφ <;> cases hφ
                all_goals exact h1
              intro ν
              simp only [List.take_succ_cons, List.take_zero]
              iterate 2 (refine Seq.pure ?_ rfl (fun w' hw hf => ?_) ?_; rotate_left; (· (have y0' := hw.keep (w := World.drew _) x0; have y1' := hw.keep (w := World.drew _) x1; have y2' := hw.keep (w := World.drew _) x2; have y3' := hw.keep (w := World.drew _) x3; unfold pureG; go_simp; with_reducible rfl)); simp only [Act.put, List.setIfInBounds_toArray, List.set_cons_zero, List.set_cons_succ, Nat.reduceAdd, Nat.zero_add])
              refine Seq.eff _ rfl (fun w' hw hf => giveG_of rfl (by simp) fun K hK => ?_) ?_
              · go_simp
                refine (HC1.out w' ((Ext.drew _).trans hw)).mono ?_
                rintro e w2 ⟨rfl, hb⟩
                exact hK _ _ ⟨rfl, hb⟩
              simp only [Act.put, List.setIfInBounds_toArray, List.set_cons_zero, List.set_cons_succ, Nat.reduceAdd, Nat.zero_add]
              iterate 2 (refine Seq.pure ?_ rfl (fun w' hw hf => ?_) ?_; rotate_left; (· (have e2 := hf 2 _ rfl (direct_anc (f := 26) (by kernel_rfl)); unfold pureG; go_simp; with_reducible rfl)); simp only [Act.put, List.setIfInBounds_toArray, List.set_cons_zero, List.set_cons_succ, Nat.reduceAdd, Nat.zero_add])
              iterate 5 (refine Seq.pure ?_ rfl (fun w' hw hf => ?_) ?_; rotate_left; (· (have y0' := hw.keep (w := World.drew _) x0; have y1' := hw.keep (w := World.drew _) x1; have y2' := hw.keep (w := World.drew _) x2; have y3' := hw.keep (w := World.drew _) x3; unfold pureG; go_simp; with_reducible rfl)); simp only [Act.put, List.setIfInBounds_toArray, List.set_cons_zero, List.set_cons_succ, Nat.reduceAdd, Nat.zero_add])
              refine Seq.eff _ rfl (fun w' hw hf => giveG_of rfl (by simp) fun K hK => ?_) ?_
              · go_simp
                refine (HC2.out w' ((Ext.drew _).trans hw)).mono ?_
                rintro e w2 ⟨rfl, hb⟩
                exact hK _ _ ⟨rfl, hb⟩
              simp only [Act.put, List.setIfInBounds_toArray, List.set_cons_zero, List.set_cons_succ, Nat.reduceAdd, Nat.zero_add]
              iterate 1 (refine Seq.pure ?_ rfl (fun w' hw hf => ?_) ?_; rotate_left; (· (have e10 := hf 10 _ rfl (direct_anc (f := 26) (by kernel_rfl)); unfold pureG; go_simp; with_reducible rfl)); simp only [Act.put, List.setIfInBounds_toArray, List.set_cons_zero, List.set_cons_succ, Nat.reduceAdd, Nat.zero_add])
              iterate 15 (refine Seq.pure ?_ rfl (fun w' hw hf => ?_) ?_; rotate_left; (· (skip; unfold pureG; go_simp; with_reducible rfl)); simp only [Act.put, List.setIfInBounds_toArray, List.set_cons_zero, List.set_cons_succ, Nat.reduceAdd, Nat.zero_add])
              refine Seq.nil fun W' hw hf => tail_none (by kernel_rfl) ?_
              have HE5 := Lib.hid (HE3.out.trans ((Ext.drew W3).trans hw))
              clear hf hw x0 x1 x2 x3
              generalize ν 2 = v2
              generalize ν 10 = v10
              go_wp2_with fail
              go_roundw
              case rel => exact ⟨k + 1, by omega, by go_num, HE5.out⟩
              case measure => simp [intOf]; omega
            · have hkz : (0 : Int) < k := by omega
              have hkd : decide ((0 : Int) < (k : Int)) = true := by simp; omega
              have hkd2 : decide (0 < k) = true := by simp; omega
              obtain ⟨q, hq⟩ : ∃ q : Nat, k = q + 1 := ⟨k - 1, by omega⟩
              have hwq : IntKind.i64.wrap ((k : Int) - 1) = (q : Int) := by rw [IntWalk.i64_in _ (by omega)]; omega
              obtain ⟨p, hp⟩ : ∃ p, ys[q]? = some p := ⟨_, List.getElem?_eq_getElem (by omega)⟩
              have hle := hm3 p (by omega) (by rw [show k - 1 = q from by omega]; exact hp)
              have hdl : decide (x.hr < p.hr) = false := by simp; omega
              have p2 := HE3.out.keep (HCE.out (q * 4 + 2) _ (by rw [flat_get ys q 2 p hp (by omega)]; rfl))
              have hql : (q : Int) < ys.length := by omega
              have HX := Lib.hid hx
              have HP := Lib.hid hp
              have HQ2 := Lib.hid hq
              clear hm3 hx hE3 hk0 hp hq hle
              generalize wr.alloc (.cells #[.int .i64 x.st, .int .i64 x.num, .int .i64 x.hr, .string x.txt] 49) = W3 at *
              generalize hXb : wr.heap.size = X at *
              clear hXb
              refine wp_drawn 27 (by kernel_rfl) (drawnFast_ok (by kernel_rfl)) (fun i => match i with
                | 2 => some fun v _ => v = .bool true
                | 10 => some fun v _ => v = .bool false
                | _ => none) ?_ ?_
              · intro j φ hφ v w1 w2 h1 h2
                split at hφ <;> cases hφ
                all_goals exact h1
              intro ν
              simp only [List.take_succ_cons, List.take_zero]
              iterate 2 (refine Seq.pure ?_ rfl (fun w' hw hf => ?_) ?_; rotate_left; (· (have y0' := hw.keep (w := World.drew _) x0; have y1' := hw.keep (w := World.drew _) x1; have y2' := hw.keep (w := World.drew _) x2; have y3' := hw.keep (w := World.drew _) x3; unfold pureG; go_simp; with_reducible rfl)); simp only [Act.put, List.setIfInBounds_toArray, List.set_cons_zero, List.set_cons_succ, Nat.reduceAdd, Nat.zero_add])
              refine Seq.eff _ rfl (fun w' hw hf => giveG_of rfl (by simp) fun K hK => ?_) ?_
              · go_simp
                refine (HC1.out w' ((Ext.drew _).trans hw)).mono ?_
                rintro e w2 ⟨rfl, hb⟩
                exact hK _ _ ⟨rfl, hb⟩
              simp only [Act.put, List.setIfInBounds_toArray, List.set_cons_zero, List.set_cons_succ, Nat.reduceAdd, Nat.zero_add]
              iterate 2 (refine Seq.pure ?_ rfl (fun w' hw hf => ?_) ?_; rotate_left; (· (have e2 := hf 2 _ rfl (direct_anc (f := 26) (by kernel_rfl)); unfold pureG; go_simp; with_reducible rfl)); simp only [Act.put, List.setIfInBounds_toArray, List.set_cons_zero, List.set_cons_succ, Nat.reduceAdd, Nat.zero_add])
              iterate 5 (refine Seq.pure ?_ rfl (fun w' hw hf => ?_) ?_; rotate_left; (· (have y0' := hw.keep (w := World.drew _) x0; have y1' := hw.keep (w := World.drew _) x1; have y2' := hw.keep (w := World.drew _) x2; have y3' := hw.keep (w := World.drew _) x3; unfold pureG; go_simp; with_reducible rfl)); simp only [Act.put, List.setIfInBounds_toArray, List.set_cons_zero, List.set_cons_succ, Nat.reduceAdd, Nat.zero_add])
              refine Seq.eff _ rfl (fun w' hw hf => giveG_of rfl (by simp) fun K hK => ?_) ?_
              · go_simp
                refine (HC2.out w' ((Ext.drew _).trans hw)).mono ?_
                rintro e w2 ⟨rfl, hb⟩
                exact hK _ _ ⟨rfl, hb⟩
              simp only [Act.put, List.setIfInBounds_toArray, List.set_cons_zero, List.set_cons_succ, Nat.reduceAdd, Nat.zero_add]
              iterate 1 (refine Seq.pure ?_ rfl (fun w' hw hf => ?_) ?_; rotate_left; (· (have e10 := hf 10 _ rfl (direct_anc (f := 26) (by kernel_rfl)); unfold pureG; go_simp; with_reducible rfl)); simp only [Act.put, List.setIfInBounds_toArray, List.set_cons_zero, List.set_cons_succ, Nat.reduceAdd, Nat.zero_add])
              iterate 5 (refine Seq.pure ?_ rfl (fun w' hw hf => ?_) ?_; rotate_left; (· (skip; unfold pureG; go_simp; with_reducible rfl)); simp only [Act.put, List.setIfInBounds_toArray, List.set_cons_zero, List.set_cons_succ, Nat.reduceAdd, Nat.zero_add])
              iterate 1 (refine Seq.pure ?_ rfl (fun w' hw hf => ?_) ?_; rotate_left; (· (have y2' := hw.keep (w := World.drew _) x2; unfold pureG; go_simp; with_reducible rfl)); simp only [Act.put, List.setIfInBounds_toArray, List.set_cons_zero, List.set_cons_succ, Nat.reduceAdd, Nat.zero_add])
              iterate 5 (refine Seq.pure ?_ rfl (fun w' hw hf => ?_) ?_; rotate_left; (· (skip; unfold pureG; go_simp; with_reducible rfl)); simp only [Act.put, List.setIfInBounds_toArray, List.set_cons_zero, List.set_cons_succ, Nat.reduceAdd, Nat.zero_add])
              iterate 1 (refine Seq.pure ?_ rfl (fun w' hw hf => ?_) ?_; rotate_left; (· (have y2' := hw.keep (w := World.drew _) p2; unfold pureG; go_simp; with_reducible rfl)); simp only [Act.put, List.setIfInBounds_toArray, List.set_cons_zero, List.set_cons_succ, Nat.reduceAdd, Nat.zero_add])
              iterate 3 (refine Seq.pure ?_ rfl (fun w' hw hf => ?_) ?_; rotate_left; (· (skip; unfold pureG; go_simp; with_reducible rfl)); simp only [Act.put, List.setIfInBounds_toArray, List.set_cons_zero, List.set_cons_succ, Nat.reduceAdd, Nat.zero_add])
              refine Seq.nil fun W' hw hf => tail_none (by kernel_rfl) ?_
              have HE5 := Lib.hid (HE3.out.trans ((Ext.drew W3).trans hw))
              clear hf hw x0 x1 x2 x3
              generalize ν 2 = v2
              generalize ν 10 = v10
              go_wp2_with fail
              go_roundw
              case rel => exact ⟨k + 1, by omega, by go_num, HE5.out⟩
              case measure => simp [intOf]; omega
          · have hkl : ¬ ((k : Int) < ys.length) := by omega
            have hus := until_sorted HQ.out hour
            have hul := upTo_le hour l
            go_wp2_with fail
            refine (Until_any n _ l hour wr ((HA.out.ext HE1.out).ext HE2.out) (by omega)).mono ?_
            rintro e w3 ⟨hE3, v3, rfl, hs3⟩
            rw [HQ.out]
            rw [if_pos HQ.out] at hs3
            have HE3 := Lib.hid ((HE1.out.trans HE2.out).trans hE3)
            have HS3 := Lib.hid hs3.slR
            have HY3 := Lib.hid ((HY.out.ext HE2.out).ext hE3)
            clear hE3 hs3 hE
            go_wp2_with fail
            refine (Order_all n v3 (upTo hour l) w3 HS3.out (by omega)).mono ?_
            rintro e w4 ⟨hE4, hpost⟩
            have HE4 : RowKit.Hid (Ext w w4) := Lib.hid (HE3.out.trans hE4)
            have HY4 := Lib.hid (HY3.out.ext hE4)
            clear hE4
            rcases hpost with ⟨he, _⟩ | ⟨_, v4, zs, rfl, hio2, hsw2⟩
            · rw [hus] at he; exact absurd rfl he
            · have hou := order_until HR.out HIO.out hour hio2
              obtain ⟨a4, c4, rfl⟩ := hsw2.slR.shape
              have HS4 := Lib.hid hsw2.slR
              have HZ := Lib.hid hou
              have hz1 : zs.length ≤ ys.length := hou.1
              have hz2 : (zs.length : Int) ≤ ys.length := by omega
              have hz3 : zs.length ≤ cap := by omega
              clear hus hou hio2 hsw2
              go_wp2_with fail
              refine (HAL.out w4 HE4.out).mono ?_
              rintro e w5 ⟨rfl, hE5⟩
              have HE5 := Lib.hid (HE4.out.trans hE5)
              have HY5 := Lib.hid ((HY4.out.ext hE5).take3 zs.length hz1)
              have HS5 := Lib.hid (HS4.out.ext hE5)
              clear hE5
              rw [HZ.out.2] at HY5
              go_wp2_with fail
              refine (Same_any _ _ zs zs w5 HY5.out HS5.out (by omega) (by omega)).mono ?_
              rintro e w6 ⟨rfl, hE6⟩
              rw [sameB_self]
              have HE6 := Lib.hid (HE5.out.trans hE6)
              clear hE6
              go_wp2_with fail
              go_ret
              exact ⟨rfl, HE6.out⟩
  · have f1' := fewB_no f1
    rw [f1'] at HF
    go_enter Tryz.func4, Tryz.ntmps4
    go_wp2_with (first | (go_at_call 24; refine HF.out.mono ?_; rintro e w' ⟨rfl, rfl⟩))
    refine (HAL.out w (Ext.refl _)).mono ?_
    rintro e w1 ⟨rfl, hE⟩
    go_wp2_with fail
    go_ret
    exact ⟨rfl, hE⟩
end Go.Proofs.YtgjahnomafpnfaaGreatDoor
