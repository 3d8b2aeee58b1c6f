/- Lemmas and walks that this claim needs, in one text out of several; each states its own conditions. -/
import Derived.Test.YtgjahnomafpnfaaGreatDoorMPostBooks3
import Derived.Test.YtgjahnomafpnfaaGreatDoorMPostBooks1
import Derived.Test.YtgjahnomafpnfaaGreatDoorMB8
set_option linter.unusedVariables false
set_option linter.unusedSimpArgs false
/- The reference's Merge. -/
namespace Go.Proofs.YtgjahnomafpnfaaGreatDoor
open Go.RowKit
theorem ofL_app (a b : List Rec) (s : Int) : ofL (a ++ b) s = ofL a s ++ ofL b s := List.filter_append ..
theorem ofL_row {n : Int} {t : Nat} {xs : List Rec} (h : RowOk n t xs) (s : Int) : ofL xs s = if s = (t : Int) then xs else [] := by
  unfold ofL
  by_cases e : s = (t : Int)
  · rw [if_pos e, List.filter_eq_self]
    intro x hx
    obtain ⟨k, hk⟩ := List.getElem?_of_mem hx
    have := (h.at_ k x hk).1
    simp [this, e]
  · rw [if_neg e, List.filter_eq_nil_iff]
    intro x hx
    obtain ⟨k, hk⟩ := List.getElem?_of_mem hx
    have := (h.at_ k x hk).1
    simp [this]; omega
theorem Book.of {n : Int} {rows : List (List Rec)} (h : Book n rows) (s : Nat) (hs : s < 5) : ofL rows.flatten s = rows.getD s [] := by
  obtain ⟨r0, r1, r2, r3, r4, rfl⟩ := len5 h.len
  have R := fun (t : Nat) xs e => ofL_row (h.row t xs e) (s : Int)
  have e0 := R 0 r0 rfl
  have e1 := R 1 r1 rfl
  have e2 := R 2 r2 rfl
  have e3 := R 3 r3 rfl
  have e4 := R 4 r4 rfl
  simp only [List.flatten_cons, List.flatten_nil, ofL_app, e0, e1, e2, e3, e4]
  rcases (by omega : s = 0 ∨ s = 1 ∨ s = 2 ∨ s = 3 ∨ s = 4) with rfl | rfl | rfl | rfl | rfl <;> simp [ofL]
theorem Book.high {n : Int} {rows : List (List Rec)} (h : Book n rows) {s : Nat} {xs : List Rec} (hx : rows[s]? = some xs) (hs : n ≤ (s : Int)) : xs = [] := by
  cases xs with
  | nil => rfl
  | cons y ys =>
    have := (h.row s _ hx).at_ 0 y rfl
    have hf := formedB_st this.2.2
    omega
theorem take_flat {rows : List (List Rec)} {k : Nat} (h : ∀ (s : Nat) xs, k ≤ s → rows[s]? = some xs → xs = []) : (rows.take k).flatten = rows.flatten := by
  conv => rhs; rw [← List.take_append_drop k rows, List.flatten_append]
  have : (rows.drop k).flatten = [] := by
    rw [List.flatten_eq_nil_iff]
    intro xs hx
    obtain ⟨i, hi⟩ := List.getElem?_of_mem hx
    rw [List.getElem?_drop] at hi
    exact h (k + i) xs (by omega) hi
  rw [this, List.append_nil]
theorem take_succ_flat {rows : List (List Rec)} {k : Nat} {xs : List Rec} (h : rows[k]? = some xs) : (rows.take (k + 1)).flatten = (rows.take k).flatten ++ xs := by
  rw [List.take_add_one, h, List.flatten_append]; simp
theorem mergeRows_le' : ∀ (xs ys : List (List Rec)), (mergeRows xs ys).flatten.length ≤ xs.flatten.length + ys.flatten.length
  | [], _ => by simp [mergeRows]
  | _ :: _, [] => by simp [mergeRows]
  | x :: xs, y :: ys => by
    have := mergeRows_le' xs ys
    simp only [mergeRows, List.flatten_cons, List.length_append]
    have h : (longer x y).length ≤ x.length + y.length := by unfold longer; split <;> omega
    omega
theorem take_flat_le (rows : List (List Rec)) (k : Nat) : (rows.take k).flatten.length ≤ rows.flatten.length := by
  conv => rhs; rw [← List.take_append_drop k rows, List.flatten_append, List.length_append]
  omega
def MergeRPost (n : Int) (a b : List Rec) (w : World) (e : Ending) (w' : World) : Prop :=
  Ext w w' ∧ ∃ v, e = .returned (.tuple #[v, .int .i64 (mergeE n a b)]) ∧ SlR w' v (mergeL n a b)
theorem mergeRPost_none {n : Int} {a b : List Rec} {w w' : World} {E : Int} (h : mergeE n a b = E) (hl : mergeL n a b = []) (hE : Ext w w') : MergeRPost n a b w (.returned (.tuple #[.slice none 0 0, .int .i64 E])) w' :=
  ⟨hE, .slice none 0 0, by rw [h], by rw [hl]; exact .inl ⟨rfl, rfl⟩⟩
set_option maxHeartbeats 1600000 in
set_option maxRecDepth 100000 in
theorem MergeR_any (n : Int) (v u : Value) (a b : List Rec) (w : World) (hv : SlR w v a) (hu : SlR w u b) (ha : a.length ≤ 10000) (hb : b.length ≤ 10000) (hta : ∀ x ∈ a, x.txt.size ≤ 1000000) (htb : ∀ x ∈ b, x.txt.size ≤ 1000000) :
    Calls Tryz.prog 65 #[.int .i64 n, v, u] w (MergeRPost n a b w) := by
  have hk1 := CheckRecordsR_any n v a w hv (by omega) hta
  have hk2 := fun (W : World) (h : Ext w W) => CheckRecordsR_any n u b W (hu.ext h) (by omega) htb
  rw [← check_same] at hk1 hk2
  have HK1 := Lib.hid hk1
  have HK2 := Lib.hid hk2
  have HV := Lib.hid hv
  have HU := Lib.hid hu
  clear hv hu hta htb hk1 hk2
  go_enter Tryz.func65, Tryz.ntmps65
  go_wp2_with fail
  refine HK1.out.mono ?_
  rintro e w1 ⟨rfl, hE1⟩
  have HE1 := Lib.hid hE1
  clear hE1
  by_cases he1 : (sortedP n a).2.2 = 0
  · have HZ1 := Lib.hid he1
    rw [he1]
    clear he1
    generalize (sortedP n a).2.1 = ia at *
    go_wp2_with fail
    refine (HK2.out w1 HE1.out).mono ?_
    rintro e w2 ⟨rfl, hE2⟩
    have HE2 := Lib.hid (HE1.out.trans hE2)
    clear hE2
    by_cases he2 : (sortedP n b).2.2 = 0
    · have HZ2 := Lib.hid he2
      rw [he2]
      clear he2
      generalize (sortedP n b).2.1 = ib at *
      obtain ⟨hn, ba, fa⟩ := sorted_book HZ1.out
      obtain ⟨_, bb, fb⟩ := sorted_book HZ2.out
      obtain ⟨N, rfl⟩ : ∃ N : Nat, n = (N : Int) := ⟨n.toNat, by omega⟩
      have hN : 2 ≤ N ∧ N ≤ 5 := by omega
      have hN2 := hN.2
      have HBA := Lib.hid (And.intro ba fa)
      have HBB := Lib.hid (And.intro bb fb)
      have hoa := fun (s : Nat) (hs : s < 5) => ba.of s hs
      have hob := fun (s : Nat) (hs : s < 5) => bb.of s hs
      rw [fa] at hoa
      rw [fb] at hob
      have HOA := Lib.hid hoa
      have HOB := Lib.hid hob
      have HM := Lib.hid (ba.merge bb)
      have hme : mergeE N a b = if compatAll (sortedP N a).1 (sortedP N b).1 then 0 else 8 := mergeE_of HZ1.out HZ2.out
      have HME := Lib.hid hme
      have HLA := Lib.hid (And.intro ba.len bb.len)
      have hml := mergeRows_le' (sortedP N a).1 (sortedP N b).1
      rw [fa, fb] at hml
      have HML := Lib.hid (fun k => Nat.le_trans (take_flat_le (mergeRows (sortedP N a).1 (sortedP N b).1) k) hml)
      clear ba fa bb fb hoa hob hme hn hN hml
      generalize hra : (sortedP N a).1 = ra at *
      generalize hrb : (sortedP N b).1 = rb at *
      have HR := Lib.hid (And.intro hra hrb)
      clear hra hrb
      go_wp2_with fail
      go_loopw [12, 13] (fun o s wr => ∃ k : Nat, k ≤ N ∧ s = .int .i64 k ∧ Ext w wr ∧ OwnR wr w.heap.size o (((mergeRows ra rb).take k).flatten) ∧ ∀ j, j < k → compat (ra.getD j []) (rb.getD j []) = true) (fun _ s _ => N - (intOf s).toNat)
      case atStart => exact ⟨0, by omega, rfl, HE2.out, World.ownsRow_nil _ _ _ _, fun j h => by omega⟩
      case round =>
        obtain ⟨k, hk, rfl, hE, hO, hcmp⟩ := hrel
        obtain ⟨oa, om, oc, rfl⟩ := OwnR.shape3 hO
        have HE := Lib.hid hE
        have HO := Lib.hid hO
        have HC := Lib.hid hcmp
        clear hE hO hcmp
        by_cases hlt : k < N
        · have hltz : (k : Int) < N := by omega
          have HF1 := Lib.hid (fun (W : World) (h : Ext w W) => ofR_any v a k W (HV.out.ext h) (by omega))
          have HF2 := Lib.hid (fun (W : World) (h : Ext w W) => ofR_any u b k W (HU.out.ext h) (by omega))
          have hxe := HOA.out k (by omega)
          have hye := HOB.out k (by omega)
          rw [hxe] at HF1
          rw [hye] at HF2
          have hlx : (ra.getD k []).length ≤ 10000 := by rw [← hxe]; exact Nat.le_trans (List.length_filter_le _ _) ha
          have hly : (rb.getD k []).length ≤ 10000 := by rw [← hye]; exact Nat.le_trans (List.length_filter_le _ _) hb
          clear hxe hye
          generalize hxs : ra.getD k [] = xs at *
          generalize hys : rb.getD k [] = ys at *
          have HXS := Lib.hid (And.intro hxs hys)
          clear hxs hys
          go_wp2_with fail
          refine (HF1.out wr HE.out).mono ?_
          rintro e w3 ⟨v3, rfl, hO3, hE3⟩
          have HE3 := Lib.hid (HE.out.trans hE3)
          have HO3 := Lib.hid hO3.slR
          have HOo := Lib.hid (HO.out.ext hE3)
          obtain ⟨xa, xc, rfl⟩ := OwnR.shape hO3
          clear hO3 hE3
          go_wp2_with fail
          refine (HF2.out w3 HE3.out).mono ?_
          rintro e w4 ⟨v4, rfl, hO4, hE4⟩
          have HE4 := Lib.hid (HE3.out.trans hE4)
          have HS4 := Lib.hid hO4.slR
          have HS3 := Lib.hid (HO3.out.ext hE4)
          have HOp := Lib.hid (HOo.out.ext hE4)
          obtain ⟨ya, yc, rfl⟩ := OwnR.shape hO4
          clear hO4 hE4
          go_wp2_with fail
          go_loopw [16] (fun i wx => ∃ q : Nat, q ≤ xs.length ∧ q ≤ ys.length ∧ i = .int .i64 q ∧ Ext w4 wx ∧ ∀ (j : Nat) x y, j < q → xs[j]? = some x → ys[j]? = some y → recB x y = true) (fun i _ => xs.length - (intOf i).toNat)
          case atStart => exact ⟨0, by omega, by omega, rfl, Ext.refl _, fun j x y h => by omega⟩
          case round =>
            obtain ⟨q, hqx, hqy, rfl, hE5, hj⟩ := hrel
            have HJ := Lib.hid hj
            have HE5 := Lib.hid hE5
            clear hj
            by_cases hin : q < xs.length ∧ q < ys.length
            · obtain ⟨h1, h2⟩ := hin
              have h1z : (q : Int) < xs.length := by omega
              have h2z : (q : Int) < ys.length := by omega
              obtain ⟨x, hx⟩ : ∃ x, xs[q]? = some x := ⟨_, List.getElem?_eq_getElem (by omega)⟩
              obtain ⟨y, hy⟩ : ∃ y, ys[q]? = some y := ⟨_, List.getElem?_eq_getElem (by omega)⟩
              obtain ⟨xo, xc', hxe, hxat⟩ := HS3.out.open
              obtain ⟨yo, yc', hye, hyat⟩ := HS4.out.open
              simp only [Value.slice.injEq] at hxe hye
              obtain ⟨b1, o1, hx1, hbl1, x0, x1, x2, x3⟩ := hxat q x hx
              obtain ⟨b2, o2, hy1, hbl2, y0, y1, y2, y3⟩ := hyat q y hy
              obtain rfl : xa = some ⟨b1, o1, none⟩ := hxe.1.trans hx1
              obtain rfl : ya = some ⟨b2, o2, none⟩ := hye.1.trans hy1
              replace x0 := hE5.keep x0
              replace x1 := hE5.keep x1
              replace x2 := hE5.keep x2
              replace x3 := hE5.keep x3
              replace y0 := hE5.keep y0
              replace y1 := hE5.keep y1
              replace y2 := hE5.keep y2
              replace y3 := hE5.keep y3
              have hqr := neq49r x y
              have HXY := Lib.hid (And.intro hx hy)
              clear hx hy hE5 hxe hye hxat hyat hx1 hy1
              go_wp2_with fail
              go_quiet (fail)
              have hE6 : Ext wr (wr.drewN nq) := _root_.Go.below_drewN (Below.refl _ _) nq
              have HE6 := Lib.hid (HE5.out.trans hE6)
              generalize wr.drewN nq = W5 at hE6 HE6 ⊢
              clear x0 x1 x2 x3 y0 y1 y2 y3 hqr hE6
              cases hr : recB x y with
              | true =>
                go_wp2_with fail
                go_roundw
                case rel =>
                  refine ⟨q + 1, by omega, by omega, by go_num, HE6.out, fun j a c hj ha hc => ?_⟩
                  rcases (by omega : j < q ∨ j = q) with h | rfl
                  · exact HJ.out j a c h ha hc
                  · rw [HXY.out.1] at ha; rw [HXY.out.2] at hc; cases ha; cases hc; exact hr
                case measure => simp [intOf]; omega
              | false =>
                have hbad : compatAll ra rb = false := compatAll_false (k := k) (x := xs) (y := ys) (by
                  have := HLA.out.1
                  rw [List.getElem?_eq_getElem (by omega), ← HXS.out.1, List.getD_eq_getElem?_getD, List.getElem?_eq_getElem (by omega)]; rfl) (by
                  have := HLA.out.2
                  rw [List.getElem?_eq_getElem (by omega), ← HXS.out.2, List.getD_eq_getElem?_getD, List.getElem?_eq_getElem (by omega)]; rfl) (compat_false HXY.out.1 HXY.out.2 hr)
                have hm : mergeE N a b = 8 := by rw [HME.out, hbad]; rfl
                have hl0 : mergeL N a b = [] := by unfold mergeL; rw [hm]; rfl
                have HMM := Lib.hid (And.intro hm hl0)
                clear hbad hm hl0
                go_wp2_with fail
                go_ret2
                exact mergeRPost_none HMM.out.1 HMM.out.2 (HE4.out.trans HE6.out)
            · have hcp : compat xs ys = true := compat_true (fun j x y hx hy => HJ.out j x y (by
                have := (List.getElem?_eq_some_iff.1 hx).1
                have := (List.getElem?_eq_some_iff.1 hy).1
                omega) hx hy)
              have HCP := Lib.hid hcp
              have HOr := Lib.hid (HOp.out.ext hE5)
              have HS3r := Lib.hid (HS3.out.ext hE5)
              have HS4r := Lib.hid (HS4.out.ext hE5)
              have HEr := Lib.hid (HE4.out.trans hE5)
              have hkl : (mergeRows ra rb)[k]? = some (longer xs ys) := by
                rw [← HXS.out.1, ← HXS.out.2]
                refine mergeRows_get ra rb k _ _ ?_ ?_
                · have := HLA.out.1
                  rw [List.getElem?_eq_getElem (by omega), List.getD_eq_getElem?_getD, List.getElem?_eq_getElem (by omega)]; rfl
                · have := HLA.out.2
                  rw [List.getElem?_eq_getElem (by omega), List.getD_eq_getElem?_getD, List.getElem?_eq_getElem (by omega)]; rfl
              have HKL := Lib.hid (take_succ_flat hkl)
              have hml := HML.out k
              have hmsz := HEr.out.size
              clear hcp hE5 hkl
              by_cases h1 : q < xs.length
              · have h1z : (q : Int) < xs.length := by omega
                have h2z : ¬ ((q : Int) < ys.length) := by omega
                by_cases hl : xs.length < ys.length
                · have hlz : (xs.length : Int) < ys.length := by omega
                  have HLO : RowKit.Hid (longer xs ys = ys) := Lib.hid (by unfold longer; rw [if_pos hl])
                  go_wp2_with (at_builtin; refine wpList_appS rfl (.tmp 73) (.tmp 74) rfl w.heap.size _ _ _ ys HOr.out rfl rfl HS4r.out (by omega) hmsz ?_)
                  intro v' w5 hO5 _ hb5
                  have HO5 := Lib.hid hO5
                  have HE5 := Lib.hid (Below.trans (B := w.heap.size) HEr.out hb5)
                  obtain ⟨a5, m5, c5, rfl⟩ := OwnR.shape3 hO5
                  clear hO5 hb5
                  go_wp2_with fail
                  go_roundw
                  case rel => exact ⟨k + 1, by omega, by go_num, HE5.out, by rw [HKL.out, HLO.out]; exact HO5.out, fun j hj => by
                    rcases (by omega : j < k ∨ j = k) with h | rfl
                    · exact HC.out j h
                    · rw [HXS.out.1, HXS.out.2]; exact HCP.out⟩
                  case measure => simp [intOf]; omega
                · have hlz : ¬ ((xs.length : Int) < ys.length) := by omega
                  have HLO : RowKit.Hid (longer xs ys = xs) := Lib.hid (by unfold longer; rw [if_neg hl])
                  go_wp2_with (at_builtin; refine wpList_appS rfl (.tmp 73) (.tmp 74) rfl w.heap.size _ _ _ xs HOr.out rfl rfl HS3r.out (by omega) hmsz ?_)
                  intro v' w5 hO5 _ hb5
                  have HO5 := Lib.hid hO5
                  have HE5 := Lib.hid (Below.trans (B := w.heap.size) HEr.out hb5)
                  obtain ⟨a5, m5, c5, rfl⟩ := OwnR.shape3 hO5
                  clear hO5 hb5
                  go_wp2_with fail
                  go_roundw
                  case rel => exact ⟨k + 1, by omega, by go_num, HE5.out, by rw [HKL.out, HLO.out]; exact HO5.out, fun j hj => by
                    rcases (by omega : j < k ∨ j = k) with h | rfl
                    · exact HC.out j h
                    · rw [HXS.out.1, HXS.out.2]; exact HCP.out⟩
                  case measure => simp [intOf]; omega
              · have h1z : ¬ ((q : Int) < xs.length) := by omega
                by_cases hl : xs.length < ys.length
                · have hlz : (xs.length : Int) < ys.length := by omega
                  have HLO : RowKit.Hid (longer xs ys = ys) := Lib.hid (by unfold longer; rw [if_pos hl])
                  go_wp2_with (at_builtin; refine wpList_appS rfl (.tmp 73) (.tmp 74) rfl w.heap.size _ _ _ ys HOr.out rfl rfl HS4r.out (by omega) hmsz ?_)
                  intro v' w5 hO5 _ hb5
                  have HO5 := Lib.hid hO5
                  have HE5 := Lib.hid (Below.trans (B := w.heap.size) HEr.out hb5)
                  obtain ⟨a5, m5, c5, rfl⟩ := OwnR.shape3 hO5
                  clear hO5 hb5
                  go_wp2_with fail
                  go_roundw
                  case rel => exact ⟨k + 1, by omega, by go_num, HE5.out, by rw [HKL.out, HLO.out]; exact HO5.out, fun j hj => by
                    rcases (by omega : j < k ∨ j = k) with h | rfl
                    · exact HC.out j h
                    · rw [HXS.out.1, HXS.out.2]; exact HCP.out⟩
                  case measure => simp [intOf]; omega
                · have hlz : ¬ ((xs.length : Int) < ys.length) := by omega
                  have HLO : RowKit.Hid (longer xs ys = xs) := Lib.hid (by unfold longer; rw [if_neg hl])
                  go_wp2_with (at_builtin; refine wpList_appS rfl (.tmp 73) (.tmp 74) rfl w.heap.size _ _ _ xs HOr.out rfl rfl HS3r.out (by omega) hmsz ?_)
                  intro v' w5 hO5 _ hb5
                  have HO5 := Lib.hid hO5
                  have HE5 := Lib.hid (Below.trans (B := w.heap.size) HEr.out hb5)
                  obtain ⟨a5, m5, c5, rfl⟩ := OwnR.shape3 hO5
                  clear hO5 hb5
                  go_wp2_with fail
                  go_roundw
                  case rel => exact ⟨k + 1, by omega, by go_num, HE5.out, by rw [HKL.out, HLO.out]; exact HO5.out, fun j hj => by
                    rcases (by omega : j < k ∨ j = k) with h | rfl
                    · exact HC.out j h
                    · rw [HXS.out.1, HXS.out.2]; exact HCP.out⟩
                  case measure => simp [intOf]; omega
        · have hltz : ¬ ((k : Int) < N) := by omega
          obtain rfl : k = N := by omega
          have hfl : ((mergeRows ra rb).take k).flatten = (mergeRows ra rb).flatten := take_flat (fun s xs hs hx => HM.out.high hx (by omega))
          have hm : mergeE k a b = 0 := by
            rw [HME.out, compatAll_true (fun j x y hx hy => ?_)]
            · rfl
            · rcases Nat.lt_or_ge j k with h | h
              · have := HC.out j h
                rwa [getD_some hx, getD_some hy] at this
              · have := HBA.out.1.high hx (by omega)
                rw [this]; rfl
          have hl0 : mergeL k a b = ((mergeRows ra rb).take k).flatten := by unfold mergeL; rw [if_pos hm, HR.out.1, HR.out.2, hfl]
          have HMM := Lib.hid (And.intro hm hl0)
          clear hfl hm hl0
          go_wp2_with fail
          go_ret2
          exact ⟨HE.out, _, by rw [HMM.out.1]; rfl, by rw [HMM.out.2]; exact HO.out.slR⟩
    · have hne : ((sortedP n b).2.2 != 0) = true := by simpa using he2
      have hm : mergeE n a b = (sortedP n b).2.2 := by unfold mergeE; rw [if_neg (fun q => q HZ1.out), if_pos he2]
      have hl : mergeL n a b = [] := by unfold mergeL; rw [hm, if_neg he2]
      have HM := Lib.hid (And.intro hm hl)
      clear hm hl he2
      generalize (sortedP n b).2.2 = E at *
      generalize (sortedP n b).2.1 = I at *
      go_wp2_with fail
      go_ret2
      exact mergeRPost_none HM.out.1 HM.out.2 HE2.out
  · have hne : ((sortedP n a).2.2 != 0) = true := by simpa using he1
    have hm : mergeE n a b = (sortedP n a).2.2 := by unfold mergeE; rw [if_pos he1]
    have hl : mergeL n a b = [] := by unfold mergeL; rw [hm, if_neg he1]
    have HM := Lib.hid (And.intro hm hl)
    clear hm hl he1
    generalize (sortedP n a).2.2 = E at *
    generalize (sortedP n a).2.1 = I at *
    go_wp2_with fail
    go_ret2
    exact mergeRPost_none HM.out.1 HM.out.2 HE1.out
end Go.Proofs.YtgjahnomafpnfaaGreatDoor

/- The law PostMerges: its walk. -/
namespace Go.Proofs.YtgjahnomafpnfaaGreatDoor
open Go.RowKit
set_option maxHeartbeats 1600000 in
set_option maxRecDepth 100000 in
theorem PostMerges_any {B : Nat} {w : World} (hL : Laid B w) (n : Int) (va vb : Value) (a b : List Rec) (ha : SlR w va a) (hb : SlR w vb b) :
    Calls Tryz.prog 11 #[.int .i64 n, va, vb] w fun e w' => e = .returned (.bool true) ∧ Ext w w' := by
  have HFa := Lib.hid (Few_same va a 60 (by omega) w ha)
  have HFb := Lib.hid (Few_same vb b 60 (by omega) w hb)
  have HA := Lib.hid ha
  have HB := Lib.hid hb
  have HAL := Lib.hid (fun (W : World) (h : Ext w W) => alive_any (hL.ext h))
  clear hL ha hb
  by_cases f1 : fewB a 60 = true
  · by_cases f2 : fewB b 60 = true
    · rw [f1] at HFa
      rw [f2] at HFb
      have hla := ((fewB_iff _ _).1 f1).1
      have hlb := ((fewB_iff _ _).1 f2).1
      have HTA := Lib.hid (fun x hx => Nat.le_trans (((fewB_iff _ _).1 f1).2 x hx) (by omega : 300 ≤ 1000000))
      have HTB := Lib.hid (fun x hx => Nat.le_trans (((fewB_iff _ _).1 f2).2 x hx) (by omega : 300 ≤ 1000000))
      clear f1 f2
      go_enter Tryz.func11, Tryz.ntmps11
      go_wp2_with (first | (go_at_call_of 24 va; refine HFa.out.mono ?_; rintro e w' ⟨rfl, rfl⟩) | (go_at_call_of 24 vb; refine HFb.out.mono ?_; rintro e w' ⟨rfl, rfl⟩))
      refine (Merge_any n va vb a b w HA.out HB.out (by omega) (by omega)).mono ?_
      rintro e w1 ⟨hE1, v1, rfl, hs1, _⟩
      have HE1 := Lib.hid hE1
      have HS1 := Lib.hid hs1
      clear hE1 hs1
      go_wp2_with fail
      refine (MergeR_any n va vb a b w1 (HA.out.ext HE1.out) (HB.out.ext HE1.out) (by omega) (by omega) HTA.out HTB.out).mono ?_
      rintro e w2 ⟨hE2, v2, rfl, hs2⟩
      have HE2 := Lib.hid (HE1.out.trans hE2)
      have HS2 := Lib.hid hs2
      have HS1b := Lib.hid (HS1.out.ext hE2)
      have hll := mergeL_le n a b
      clear hE2 hs2
      generalize mergeE n a b = E at *
      generalize mergeL n a b = L at *
      go_wp2_with fail
      refine (HAL.out w2 HE2.out).mono ?_
      rintro e w3 ⟨rfl, hE3⟩
      have HE3 := Lib.hid (HE2.out.trans hE3)
      have HS1c := Lib.hid (HS1b.out.ext hE3)
      have HS2c := Lib.hid (HS2.out.ext hE3)
      clear hE3
      go_wp2_with fail
      refine (Same_any v1 v2 L L w3 HS1c.out HS2c.out (by omega) (by omega)).mono ?_
      rintro e w4 ⟨rfl, hE4⟩
      rw [sameB_self]
      have HE4 := Lib.hid (HE3.out.trans hE4)
      clear hE4
      go_wp2_with fail
      go_ret
      exact ⟨rfl, HE4.out⟩
    · have f2' := fewB_no f2
      rw [f1] at HFa
      rw [f2'] at HFb
      go_enter Tryz.func11, Tryz.ntmps11
      go_wp2_with (first | (go_at_call_of 24 va; refine HFa.out.mono ?_; rintro e w' ⟨rfl, rfl⟩) | (go_at_call_of 24 vb; refine HFb.out.mono ?_; rintro e w' ⟨rfl, rfl⟩))
      refine (HAL.out w (Ext.refl _)).mono ?_
      rintro e w1 ⟨rfl, hE⟩
      go_wp2_with fail
      go_ret
      exact ⟨rfl, hE⟩
  · have f1' := fewB_no f1
    rw [f1'] at HFa
    go_enter Tryz.func11, Tryz.ntmps11
    go_wp2_with (first | (go_at_call_of 24 va; refine HFa.out.mono ?_; rintro e w' ⟨rfl, rfl⟩) | (go_at_call_of 24 vb; refine HFb.out.mono ?_; rintro e w' ⟨rfl, rfl⟩))
    refine (HAL.out w (Ext.refl _)).mono ?_
    rintro e w1 ⟨rfl, hE⟩
    go_wp2_with fail
    go_ret
    exact ⟨rfl, hE⟩
end Go.Proofs.YtgjahnomafpnfaaGreatDoor

/- The reference's Until, Lacks, StockOf and their like of the program. -/
namespace Go.Proofs.YtgjahnomafpnfaaGreatDoor
open Go.RowKit
/-- A row of filtered records. -/
theorem upTo_snoc (hour : Int) (l : List Rec) (k : Nat) (x : Rec) (hx : l[k]? = some x) : upTo hour (l.take (k + 1)) = if decide (x.hr ≤ hour) = true then upTo hour (l.take k) ++ [x] else upTo hour (l.take k) := by
  have := filter_take (fun x => !laterB hour x) l k x hx
  unfold upTo
  rw [this, later_not]
set_option maxHeartbeats 800000 in
set_option maxRecDepth 100000 in
theorem UntilR_any (n : Int) (v : Value) (l : List Rec) (hour : Int) (w : World) (hv : SlR w v l) (hl : l.length ≤ 100000) (ht : ∀ x ∈ l, x.txt.size ≤ 1000000) :
    Calls Tryz.prog 49 #[.int .i64 n, v, .int .i64 hour] w fun e w' => Ext w w' ∧ ∃ v', e = .returned (.tuple #[v', .int .i64 (checkP n l).2]) ∧ SlR w' v' (if (checkP n l).2 = 0 then upTo hour l else []) := by
  have HCR := Lib.hid (CheckRecordsR_any n v l w hv hl ht)
  obtain ⟨ao, cap, rfl, hc⟩ := hv.open
  have HC := Lib.hid hc
  clear hv hc ht
  by_cases he : (checkP n l).2 = 0
  · rw [if_pos he, he]
    rw [he] at HCR
    clear he
    generalize (checkP n l).1 = C1 at *
    go_enter Tryz.func49, Tryz.ntmps49
    go_wp2_with fail
    refine HCR.out.mono ?_
    rintro e w1 ⟨rfl, hE1⟩
    have HE1 := Lib.hid hE1
    clear hE1 HCR
    go_wp2_with fail
    go_loopw [10, 11] (fun o i wr => ∃ k : Nat, k ≤ l.length ∧ i = .int .i64 k ∧ Ext w wr ∧ OwnR wr w.heap.size o (upTo hour (l.take k))) (fun _ i _ => l.length - (intOf i).toNat)
    case atStart => exact ⟨0, by omega, rfl, HE1.out, World.ownsRow_nil _ _ _ _⟩
    case round =>
      obtain ⟨k, hk, rfl, hE, hO⟩ := hrel
      obtain ⟨a, m, c, rfl⟩ := OwnR.shape3 hO
      have HE := Lib.hid hE
      have HO := Lib.hid hO
      clear hO
      by_cases hlt : k < l.length
      · obtain ⟨x, hx⟩ : ∃ x, l[k]? = some x := ⟨_, List.getElem?_eq_getElem hlt⟩
        obtain ⟨b, off, rfl, hb, x0, x1, x2, x3⟩ := HC.out k x hx
        replace x0 := hE.keep x0
        replace x1 := hE.keep x1
        replace x2 := hE.keep x2
        replace x3 := hE.keep x3
        have hltz : (k : Int) < l.length := by omega
        have HF := Lib.hid (upTo_snoc hour l k x hx)
        have hlo : (upTo hour (l.take k)).length ≤ k := by
          have := upTo_le hour (l.take k)
          rw [List.length_take] at this
          omega
        clear hx
        by_cases hs : x.hr ≤ hour
        · have hF2 : RowKit.Hid (upTo hour (l.take (k + 1)) = upTo hour (l.take k) ++ [x]) := Lib.hid (HF.out.trans (by rw [if_pos (by simp [hs])]))
          have hEa := Ext.alloc wr (.cells #[.int .i64 x.st, .int .i64 x.num, .int .i64 x.hr, .string x.txt] 49)
          have hOa := HO.out.ext hEa
          have HOa := Lib.hid hOa
          have HEa := Lib.hid (hE.trans hEa)
          clear hEa hOa hE
          go_wp2_with (at_builtin; refine wpList_app23 rfl (.tmp 34) (.tmp 39) rfl w.heap.size _ (upTo hour (l.take k)) HOa.out x wr.heap.size 1 1 rfl rfl rfl (fun j u hu => by have := cells_new wr (flat [x]) 49 wr.heap.size rfl j u hu; rwa [addr_add] at this) (by omega) (by have := HEa.out.size; exact this) ?_)
          intro v' w5 hO5 hb5
          have HO5 := Lib.hid hO5
          have HE5 := Lib.hid (Below.trans (B := w.heap.size) HEa.out hb5)
          obtain ⟨a5, m5, c5, rfl⟩ := OwnR.shape3 hO5
          clear hO5 hb5
          go_wp2_with fail
          go_roundw
          case rel => exact ⟨k + 1, by omega, by go_num, HE5.out, by rw [hF2.out]; exact HO5.out⟩
          case measure => simp [intOf]; omega
        · have hF2 : RowKit.Hid (upTo hour (l.take (k + 1)) = upTo hour (l.take k)) := Lib.hid (HF.out.trans (by rw [if_neg (by simp [hs])]))
          clear hE
          go_wp2_with fail
          go_roundw
          case rel => exact ⟨k + 1, by omega, by go_num, HE.out, by rw [hF2.out]; exact HO.out⟩
          case measure => simp [intOf]; omega
      · have hltz : ¬ ((k : Int) < l.length) := by omega
        have hfin : RowKit.Hid (upTo hour (l.take k) = upTo hour l) := Lib.hid (by rw [List.take_of_length_le (by omega)])
        clear hE
        go_wp2_with fail
        go_ret2
        exact ⟨HE.out, _, rfl, by rw [← hfin.out]; exact HO.out.slR⟩
  · have hne : ((checkP n l).2 != 0) = true := by simpa using he
    rw [if_neg he]
    clear he
    generalize (checkP n l).2 = E at *
    generalize (checkP n l).1 = C1 at *
    go_enter Tryz.func49, Tryz.ntmps49
    go_wp2_with fail
    refine HCR.out.mono ?_
    rintro e w1 ⟨rfl, hE1⟩
    have HE1 := Lib.hid hE1
    clear hE1 HCR
    go_wp2_with fail
    go_ret2
    exact ⟨HE1.out, _, rfl, .inl ⟨rfl, rfl⟩⟩
/-- What somebody with a stock lacks. -/
def lacksL (s0 s1 s2 s3 s4 : Int) (l : List Rec) : List Rec := l.filter fun x => !hasB s0 s1 s2 s3 s4 x
theorem lacksL_snoc (s0 s1 s2 s3 s4 : Int) (l : List Rec) (k : Nat) (x : Rec) (hx : l[k]? = some x) : lacksL s0 s1 s2 s3 s4 (l.take (k + 1)) = if decide (haveOf s0 s1 s2 s3 s4 x.st < x.num) = true then lacksL s0 s1 s2 s3 s4 (l.take k) ++ [x] else lacksL s0 s1 s2 s3 s4 (l.take k) := by
  have := filter_take (fun x => !hasB s0 s1 s2 s3 s4 x) l k x hx
  unfold lacksL
  rw [this]
  have e : (!hasB s0 s1 s2 s3 s4 x) = decide (haveOf s0 s1 s2 s3 s4 x.st < x.num) := by
    unfold hasB
    by_cases h : haveOf s0 s1 s2 s3 s4 x.st < x.num
    · rw [decide_eq_true h, decide_eq_false (by omega)]; rfl
    · rw [decide_eq_false h, decide_eq_true (by omega)]; rfl
  rw [e]
theorem stock_cell (w : World) (s0 s1 s2 s3 s4 : Int) (s : Nat) (hs : s < 5) : (w.alloc (.cells #[.int .i64 s0, .int .i64 s1, .int .i64 s2, .int .i64 s3, .int .i64 s4] 26)).cell? ⟨w.heap.size, s, none⟩ = some (.int .i64 (haveOf s0 s1 s2 s3 s4 s)) := by
  rw [World.cell?_alloc_new]
  match s, hs with | 0, _ | 1, _ | 2, _ | 3, _ | 4, _ => rfl
set_option maxHeartbeats 800000 in
set_option maxRecDepth 100000 in
theorem lacksR_any (v : Value) (l : List Rec) (s0 s1 s2 s3 s4 : Int) (w : World) (hv : SlR w v l) (hl : l.length ≤ 100000) (hst : ∀ x ∈ l, 0 ≤ x.st ∧ x.st < 5) :
    Calls Tryz.prog 111 #[v, .agg #[.int .i64 s0, .int .i64 s1, .int .i64 s2, .int .i64 s3, .int .i64 s4]] w fun e w' => ∃ v', e = .returned v' ∧ SlR w' v' (lacksL s0 s1 s2 s3 s4 l) ∧ Ext w w' := by
  obtain ⟨ao, cap, rfl, hc⟩ := hv.open
  have HC := Lib.hid hc
  have HT := Lib.hid hst
  have HE0 := Lib.hid (Ext.alloc w (.cells #[.int .i64 s0, .int .i64 s1, .int .i64 s2, .int .i64 s3, .int .i64 s4] 26))
  have HS := Lib.hid (stock_cell w s0 s1 s2 s3 s4)
  clear hv hc hst
  go_enter Tryz.func111, Tryz.ntmps111
  go_wp2_with fail
  generalize w.alloc (.cells #[.int .i64 s0, .int .i64 s1, .int .i64 s2, .int .i64 s3, .int .i64 s4] 26) = W at HE0 HS ⊢
  go_loopw [5, 6] (fun o i wr => ∃ k : Nat, k ≤ l.length ∧ i = .int .i64 k ∧ Ext W wr ∧ OwnR wr W.heap.size o (lacksL s0 s1 s2 s3 s4 (l.take k))) (fun _ i _ => l.length - (intOf i).toNat)
  case atStart => exact ⟨0, by omega, rfl, Ext.refl _, World.ownsRow_nil _ _ _ _⟩
  case round =>
    obtain ⟨k, hk, rfl, hE, hO⟩ := hrel
    obtain ⟨a, m, c, rfl⟩ := OwnR.shape3 hO
    have HE := Lib.hid hE
    have HO := Lib.hid hO
    clear hO
    by_cases hlt : k < l.length
    · obtain ⟨x, hx⟩ : ∃ x, l[k]? = some x := ⟨_, List.getElem?_eq_getElem hlt⟩
      obtain ⟨b, off, rfl, hb, x0, x1, x2, x3⟩ := HC.out k x hx
      replace x0 := (HE0.out.trans hE).keep x0
      replace x1 := (HE0.out.trans hE).keep x1
      replace x2 := (HE0.out.trans hE).keep x2
      replace x3 := (HE0.out.trans hE).keep x3
      have hst := HT.out x (List.mem_of_getElem? hx)
      have hltz : (k : Int) < l.length := by omega
      have HF := Lib.hid (lacksL_snoc s0 s1 s2 s3 s4 l k x hx)
      have hlo : (lacksL s0 s1 s2 s3 s4 (l.take k)).length ≤ k := by
        have := List.length_filter_le (fun x => !hasB s0 s1 s2 s3 s4 x) (l.take k)
        rw [List.length_take] at this
        unfold lacksL; omega
      obtain ⟨st, num, hr, txt⟩ := x
      simp only at hst x0 x1 x2 x3
      obtain ⟨s, rfl⟩ : ∃ s : Nat, st = s := ⟨st.toNat, by omega⟩
      have hs5 : s < 5 := by omega
      have hs5z : (s : Int) < 5 := by omega
      have hcell := hE.keep (HS.out s hs5)
      simp only at HF
      clear hx hst
      generalize haveOf s0 s1 s2 s3 s4 s = H at *
      by_cases hs : H < num
      · have hF2 : RowKit.Hid (lacksL s0 s1 s2 s3 s4 (l.take (k + 1)) = lacksL s0 s1 s2 s3 s4 (l.take k) ++ [⟨s, num, hr, txt⟩]) := Lib.hid (HF.out.trans (by rw [if_pos (by simp [hs])]))
        clear HF
        go_wp2_with fail
        go_quiet (fail)
        have hE6 : Ext wr (wr.drewN nq) := _root_.Go.below_drewN (Below.refl _ _) nq
        replace x0 := hE6.keep x0
        replace x1 := hE6.keep x1
        replace x2 := hE6.keep x2
        replace x3 := hE6.keep x3
        have HO6 := Lib.hid (HO.out.ext hE6)
        replace hE := hE.trans hE6
        generalize wr.drewN nq = wr6 at hE hE6 HO6 x0 x1 x2 x3 ⊢
        have hEa := Ext.alloc wr6 (.cells #[.int .i64 s, .int .i64 num, .int .i64 hr, .string txt] 49)
        have hOa := HO6.out.ext hEa
        have HOa := Lib.hid hOa
        have HEa := Lib.hid (hE.trans hEa)
        clear hEa hOa hE hE6 hcell
        go_wp2_with (at_builtin; refine wpList_app23 rfl (.tmp 27) (.tmp 32) rfl W.heap.size _ (lacksL s0 s1 s2 s3 s4 (l.take k)) HOa.out ⟨s, num, hr, txt⟩ wr6.heap.size 1 1 rfl rfl rfl (fun j u hu => by have := cells_new wr6 (flat [⟨s, num, hr, txt⟩]) 49 wr6.heap.size rfl j u hu; rwa [addr_add] at this) (by omega) (by have := HEa.out.size; exact this) ?_)
        intro v' w5 hO5 hb5
        have HO5 := Lib.hid hO5
        have HE5 : RowKit.Hid (Ext W w5) := Lib.hid (Below.trans (B := W.heap.size) HEa.out hb5)
        obtain ⟨a5, m5, c5, rfl⟩ := OwnR.shape3 hO5
        clear hO5 hb5
        go_wp2_with fail
        go_roundw
        case rel => exact ⟨k + 1, by omega, by go_num, HE5.out, by rw [hF2.out]; exact HO5.out⟩
        case measure => simp [intOf]; omega
      · have hF2 : RowKit.Hid (lacksL s0 s1 s2 s3 s4 (l.take (k + 1)) = lacksL s0 s1 s2 s3 s4 (l.take k)) := Lib.hid (HF.out.trans (by rw [if_neg (by simp [hs])]))
        clear HF
        go_wp2_with fail
        go_quiet (fail)
        have hE6 : Ext wr (wr.drewN nq) := _root_.Go.below_drewN (Below.refl _ _) nq
        have HO6 := Lib.hid (HO.out.ext hE6)
        have HE6 := Lib.hid (hE.trans hE6)
        generalize wr.drewN nq = wr6 at HE6 HO6 ⊢
        clear hE hE6 x0 x1 x2 x3 hcell
        go_wp2_with fail
        go_roundw
        case rel => exact ⟨k + 1, by omega, by go_num, HE6.out, by rw [hF2.out]; exact HO6.out⟩
        case measure => simp [intOf]; omega
    · have hltz : ¬ ((k : Int) < l.length) := by omega
      have hfin : RowKit.Hid (lacksL s0 s1 s2 s3 s4 (l.take k) = lacksL s0 s1 s2 s3 s4 l) := Lib.hid (by rw [List.take_of_length_le (by omega)])
      clear hE
      go_wp2_with fail
      go_ret
      exact ⟨_, rfl, by rw [← hfin.out]; exact HO.out.slR, HE0.out.trans HE.out⟩
theorem check_ok {n : Int} {l : List Rec} (h : (checkP n l).2 = 0) : ∀ x ∈ l, 0 ≤ x.st ∧ x.st < 5 := by
  rw [← check_same] at h
  obtain ⟨hn, hb, hf⟩ := sorted_book h
  intro x hx
  rw [← hf] at hx
  obtain ⟨r, hr, hxr⟩ := List.mem_flatten.1 hx
  exact (hb.recs hn.2 r hr x hxr).1
set_option maxHeartbeats 800000 in
set_option maxRecDepth 100000 in
theorem LacksR_any (n : Int) (v : Value) (l : List Rec) (s0 s1 s2 s3 s4 : Int) (w : World) (hv : SlR w v l) (hl : l.length ≤ 100000) (ht : ∀ x ∈ l, x.txt.size ≤ 1000000) :
    Calls Tryz.prog 53 #[.int .i64 n, v, .agg #[.int .i64 s0, .int .i64 s1, .int .i64 s2, .int .i64 s3, .int .i64 s4]] w fun e w' => Ext w w' ∧ ∃ v', e = .returned (.tuple #[v', .int .i64 (checkP n l).2]) ∧ SlR w' v' (if (checkP n l).2 = 0 then lacksL s0 s1 s2 s3 s4 l else []) := by
  have HE0 := Lib.hid (Ext.alloc w (.cells #[.int .i64 s0, .int .i64 s1, .int .i64 s2, .int .i64 s3, .int .i64 s4] 26))
  have HV := Lib.hid (hv.ext HE0.out)
  have HCR := Lib.hid (CheckRecordsR_any n v l _ HV.out hl ht)
  have HS := Lib.hid (stock_cell w s0 s1 s2 s3 s4)
  have HK := Lib.hid (check_ok (n := n) (l := l))
  obtain ⟨ao, cap, rfl⟩ := hv.shape
  clear hv ht
  by_cases he : (checkP n l).2 = 0
  · rw [if_pos he, he]
    have HK2 := Lib.hid (HK.out he)
    rw [he] at HCR
    clear he HK
    generalize (checkP n l).1 = C1 at *
    go_enter Tryz.func53, Tryz.ntmps53
    go_wp2_with fail
    generalize w.alloc (.cells #[.int .i64 s0, .int .i64 s1, .int .i64 s2, .int .i64 s3, .int .i64 s4] 26) = W0 at HE0 HV HCR HS ⊢
    refine HCR.out.mono ?_
    rintro e w1 ⟨rfl, hE1⟩
    replace hE1 : Ext W0 w1 := hE1
    have HE1 := Lib.hid (HE0.out.trans hE1)
    have HE1b : RowKit.Hid (Ext _ w1) := Lib.hid hE1
    have z0 := hE1.keep (HS.out 0 (by omega))
    have z1 := hE1.keep (HS.out 1 (by omega))
    have z2 := hE1.keep (HS.out 2 (by omega))
    have z3 := hE1.keep (HS.out 3 (by omega))
    have z4 := hE1.keep (HS.out 4 (by omega))
    rw [show haveOf s0 s1 s2 s3 s4 ((0 : Nat) : Int) = s0 from rfl] at z0
    rw [show haveOf s0 s1 s2 s3 s4 ((1 : Nat) : Int) = s1 from rfl] at z1
    rw [show haveOf s0 s1 s2 s3 s4 ((2 : Nat) : Int) = s2 from rfl] at z2
    rw [show haveOf s0 s1 s2 s3 s4 ((3 : Nat) : Int) = s3 from rfl] at z3
    rw [show haveOf s0 s1 s2 s3 s4 ((4 : Nat) : Int) = s4 from rfl] at z4
    clear hE1 HCR HS
    have hEv : Ext W0 w1 := HE1b.out
    go_wp2_with fail
    refine (lacksR_any _ l s0 s1 s2 s3 s4 w1 (HV.out.ext hEv) hl HK2.out).mono ?_
    clear hEv
    rintro e w2 ⟨v2, rfl, hs2, hE2⟩
    have HS2 := Lib.hid hs2
    have HE2 : RowKit.Hid (Ext w w2) := Lib.hid (HE1.out.trans hE2)
    obtain ⟨a2, m2, c2, rfl⟩ : ∃ a m c, v2 = .slice a m c := by
      obtain ⟨a, c, e⟩ := HS2.out.shape
      exact ⟨a, _, c, e⟩
    clear hs2 hE2
    go_wp2_with fail
    go_ret2
    exact ⟨HE2.out, _, rfl, HS2.out⟩
  · have hne : ((checkP n l).2 != 0) = true := by simpa using he
    rw [if_neg he]
    clear he HK
    generalize (checkP n l).2 = E at *
    generalize (checkP n l).1 = C1 at *
    go_enter Tryz.func53, Tryz.ntmps53
    go_wp2_with fail
    generalize w.alloc (.cells #[.int .i64 s0, .int .i64 s1, .int .i64 s2, .int .i64 s3, .int .i64 s4] 26) = W0 at HE0 HV HCR HS ⊢
    refine HCR.out.mono ?_
    rintro e w1 ⟨rfl, hE1⟩
    replace hE1 : Ext W0 w1 := hE1
    have HE1 := Lib.hid (HE0.out.trans hE1)
    have HE1b : RowKit.Hid (Ext _ w1) := Lib.hid hE1
    have z0 := hE1.keep (HS.out 0 (by omega))
    have z1 := hE1.keep (HS.out 1 (by omega))
    have z2 := hE1.keep (HS.out 2 (by omega))
    have z3 := hE1.keep (HS.out 3 (by omega))
    have z4 := hE1.keep (HS.out 4 (by omega))
    rw [show haveOf s0 s1 s2 s3 s4 ((0 : Nat) : Int) = s0 from rfl] at z0
    rw [show haveOf s0 s1 s2 s3 s4 ((1 : Nat) : Int) = s1 from rfl] at z1
    rw [show haveOf s0 s1 s2 s3 s4 ((2 : Nat) : Int) = s2 from rfl] at z2
    rw [show haveOf s0 s1 s2 s3 s4 ((3 : Nat) : Int) = s3 from rfl] at z3
    rw [show haveOf s0 s1 s2 s3 s4 ((4 : Nat) : Int) = s4 from rfl] at z4
    clear hE1 HCR HS
    clear z0 z1 z2 z3 z4
    go_wp2_with fail
    go_ret2
    exact ⟨HE1.out, _, rfl, .inl ⟨rfl, rfl⟩⟩
set_option maxHeartbeats 800000 in
set_option maxRecDepth 100000 in
theorem Lacks_any (n : Int) (v : Value) (l : List Rec) (s0 s1 s2 s3 s4 : Int) (w : World) (hv : SlR w v l) (hl : l.length ≤ 100000) :
    Calls Tryz.prog 52 #[.int .i64 n, v, .agg #[.int .i64 s0, .int .i64 s1, .int .i64 s2, .int .i64 s3, .int .i64 s4]] w fun e w' => Ext w w' ∧ ∃ v', e = .returned (.tuple #[v', .int .i64 (checkP n l).2]) ∧ SlR w' v' (if (checkP n l).2 = 0 then lacksL s0 s1 s2 s3 s4 l else []) := by
  have HE0 := Lib.hid (Ext.alloc w (.cells #[.int .i64 s0, .int .i64 s1, .int .i64 s2, .int .i64 s3, .int .i64 s4] 26))
  have HV := Lib.hid (hv.ext HE0.out)
  have HCR := Lib.hid (CheckRecords_any n v l _ HV.out hl)
  rw [check_same] at HCR
  have HS := Lib.hid (stock_cell w s0 s1 s2 s3 s4)
  have HK := Lib.hid (check_ok (n := n) (l := l))
  obtain ⟨ao, cap, rfl⟩ := hv.shape
  clear hv
  by_cases he : (checkP n l).2 = 0
  · rw [if_pos he, he]
    have HK2 := Lib.hid (HK.out he)
    rw [he] at HCR
    clear he HK
    generalize (checkP n l).1 = C1 at *
    go_enter Tryz.func52, Tryz.ntmps52
    go_wp2_with fail
    generalize w.alloc (.cells #[.int .i64 s0, .int .i64 s1, .int .i64 s2, .int .i64 s3, .int .i64 s4] 26) = W0 at HE0 HV HCR HS ⊢
    refine HCR.out.mono ?_
    rintro e w1 ⟨rfl, hE1⟩
    replace hE1 : Ext W0 w1 := hE1
    have HE1 := Lib.hid (HE0.out.trans hE1)
    have HE1b : RowKit.Hid (Ext _ w1) := Lib.hid hE1
    have z0 := hE1.keep (HS.out 0 (by omega))
    have z1 := hE1.keep (HS.out 1 (by omega))
    have z2 := hE1.keep (HS.out 2 (by omega))
    have z3 := hE1.keep (HS.out 3 (by omega))
    have z4 := hE1.keep (HS.out 4 (by omega))
    rw [show haveOf s0 s1 s2 s3 s4 ((0 : Nat) : Int) = s0 from rfl] at z0
    rw [show haveOf s0 s1 s2 s3 s4 ((1 : Nat) : Int) = s1 from rfl] at z1
    rw [show haveOf s0 s1 s2 s3 s4 ((2 : Nat) : Int) = s2 from rfl] at z2
    rw [show haveOf s0 s1 s2 s3 s4 ((3 : Nat) : Int) = s3 from rfl] at z3
    rw [show haveOf s0 s1 s2 s3 s4 ((4 : Nat) : Int) = s4 from rfl] at z4
    clear hE1 HCR HS
    have hEv : Ext W0 w1 := HE1b.out
    go_wp2_with fail
    refine (lacks_any _ l s0 s1 s2 s3 s4 w1 (HV.out.ext hEv) HK2.out (by omega)).mono ?_
    clear hEv
    rintro e w2 ⟨v2, rfl, hs2, hE2⟩
    have HS2 := Lib.hid hs2.slR
    have HE2 : RowKit.Hid (Ext w w2) := Lib.hid (HE1.out.trans hE2)
    obtain ⟨a2, m2, c2, rfl⟩ : ∃ a m c, v2 = .slice a m c := by
      obtain ⟨a, c, e⟩ := HS2.out.shape
      exact ⟨a, _, c, e⟩
    clear hs2 hE2
    go_wp2_with fail
    go_ret2
    exact ⟨HE2.out, _, rfl, HS2.out⟩
  · have hne : ((checkP n l).2 != 0) = true := by simpa using he
    rw [if_neg he]
    clear he HK
    generalize (checkP n l).2 = E at *
    generalize (checkP n l).1 = C1 at *
    go_enter Tryz.func52, Tryz.ntmps52
    go_wp2_with fail
    generalize w.alloc (.cells #[.int .i64 s0, .int .i64 s1, .int .i64 s2, .int .i64 s3, .int .i64 s4] 26) = W0 at HE0 HV HCR HS ⊢
    refine HCR.out.mono ?_
    rintro e w1 ⟨rfl, hE1⟩
    replace hE1 : Ext W0 w1 := hE1
    have HE1 := Lib.hid (HE0.out.trans hE1)
    have HE1b : RowKit.Hid (Ext _ w1) := Lib.hid hE1
    have z0 := hE1.keep (HS.out 0 (by omega))
    have z1 := hE1.keep (HS.out 1 (by omega))
    have z2 := hE1.keep (HS.out 2 (by omega))
    have z3 := hE1.keep (HS.out 3 (by omega))
    have z4 := hE1.keep (HS.out 4 (by omega))
    rw [show haveOf s0 s1 s2 s3 s4 ((0 : Nat) : Int) = s0 from rfl] at z0
    rw [show haveOf s0 s1 s2 s3 s4 ((1 : Nat) : Int) = s1 from rfl] at z1
    rw [show haveOf s0 s1 s2 s3 s4 ((2 : Nat) : Int) = s2 from rfl] at z2
    rw [show haveOf s0 s1 s2 s3 s4 ((3 : Nat) : Int) = s3 from rfl] at z3
    rw [show haveOf s0 s1 s2 s3 s4 ((4 : Nat) : Int) = s4 from rfl] at z4
    clear hE1 HCR HS
    clear z0 z1 z2 z3 z4
    go_wp2_with fail
    go_ret2
    exact ⟨HE1.out, _, rfl, .inl ⟨rfl, rfl⟩⟩
/-- How many records there are of each station. -/
def cntL (l : List Rec) (s : Nat) : Nat := (ofL l (s : Int)).length
theorem cntL_snoc (l : List Rec) (k : Nat) (x : Rec) (hx : l[k]? = some x) (s j : Nat) (hs : x.st = s) : cntL (l.take (k + 1)) j = if j = s then cntL (l.take k) j + 1 else cntL (l.take k) j := by
  have := filter_take (fun x => x.st == (j : Int)) l k x hx
  unfold cntL ofL
  rw [this, hs]
  by_cases e : j = s
  · subst e
    rw [if_pos (by simp), if_pos rfl]; simp
  · rw [if_neg (by simp; omega), if_neg e]
theorem cntL_le (l : List Rec) (s : Nat) : cntL l s ≤ l.length := by unfold cntL ofL; exact List.length_filter_le _ _
def cntV (l : List Rec) : Value := .agg #[.int .i64 (cntL l 0), .int .i64 (cntL l 1), .int .i64 (cntL l 2), .int .i64 (cntL l 3), .int .i64 (cntL l 4)]
structure CtRel (w wr : World) (f : Nat → Nat) : Prop where
  below : Below w.heap.size w wr
  size : w.heap.size + 2 ≤ wr.heap.size
  cells : ∀ j, j < 5 → wr.cell? ⟨w.heap.size + 1, j, none⟩ = some (.int .i64 (f j))
  free : ∀ j, wr.frozen? ⟨w.heap.size + 1, j, none⟩ = false
  res : ∀ j, j < 5 → wr.cell? ⟨w.heap.size, j, none⟩ = some (.int .i64 0) ∧ wr.frozen? ⟨w.heap.size, j, none⟩ = false
theorem ctRel_start (w : World) (f : Nat → Nat) (hf : ∀ j, f j = 0) : CtRel w ((w.alloc zeroS).alloc zeroS) f := by
  have h := stRel_start w f
  refine ⟨h.below, by have := h.size; omega, fun j hj => ?_, h.free, h.res⟩
  have := h.cells j hj
  rw [hf j]
  simpa [part] using this
theorem CtRel.step {w wr : World} {f g : Nat → Nat} (h : CtRel w wr f) {k : Nat} (hk : k < 5) {v : Int} (hv : v = (g k : Int)) (hg : ∀ j, j ≠ k → g j = f j) : CtRel w (wr.setCell ⟨w.heap.size + 1, k, none⟩ (.int .i64 v)) g := by
  subst hv
  refine ⟨h.below.setCell (by simp) _, by simpa using h.size, fun j hj => ?_, fun j => by rw [World.frozen?_setCell]; exact h.free j, fun j hj => ⟨?_, by rw [World.frozen?_setCell]; exact (h.res j hj).2⟩⟩
  · by_cases e : j = k
    · subst e
      exact World.cell?_setCell_same _ _ _ (h.cells j hj)
    · rw [World.cell?_setCell_other _ _ _ _ (fun e' => e (by have := congrArg Addr.off e'; exact this.symm)), hg j e]
      exact h.cells j hj
  · rw [World.cell?_setCell_far _ _ _ _ (by simp)]
    exact (h.res j hj).1
set_option maxHeartbeats 800000 in
set_option maxRecDepth 100000 in
theorem stockR_any (v : Value) (l : List Rec) (w : World) (hv : SlR w v l) (hl : l.length ≤ 100000) (hst : ∀ x ∈ l, 0 ≤ x.st ∧ x.st < 5) :
    Calls Tryz.prog 109 #[v] w fun e w' => e = .returned (cntV l) ∧ Ext w w' := by
  obtain ⟨ao, cap, rfl, hc⟩ := hv.open
  have HC := Lib.hid hc
  have HT := Lib.hid hst
  clear hv hc hst
  go_enter Tryz.func109, Tryz.ntmps109
  go_wp2_with fail
  go_loopw [4] (fun i wr => ∃ k : Nat, k ≤ l.length ∧ i = .int .i64 k ∧ CtRel w wr (cntL (l.take k))) (fun i _ => l.length - (intOf i).toNat)
  case atStart => exact ⟨0, by omega, rfl, ctRel_start w _ (fun j => by simp [cntL, ofL])⟩
  case round =>
    obtain ⟨k, hk, rfl, hR⟩ := hrel
    have HR := Lib.hid hR
    clear hR
    by_cases hlt : k < l.length
    · have hltz : (k : Int) < l.length := by omega
      obtain ⟨x, hx⟩ : ∃ x, l[k]? = some x := ⟨_, List.getElem?_eq_getElem hlt⟩
      obtain ⟨b, off, rfl, hb, x0, x1, x2, x3⟩ := HC.out k x hx
      replace x0 := Ext.keep HR.out.below x0
      have hs := HT.out x (List.mem_of_getElem? hx)
      obtain ⟨s, hsx⟩ : ∃ s : Nat, x.st = s := ⟨x.st.toNat, by omega⟩
      rw [hsx] at x0
      have hs5 : s < 5 := by omega
      have hs5z : (s : Int) < 5 := by omega
      have HN := Lib.hid (fun j => cntL_snoc l k x hx s j hsx)
      have hc := HR.out.cells s hs5
      have hf := HR.out.free s
      have hle := cntL_le (l.take k) s
      have hlk : (l.take k).length ≤ k := by rw [List.length_take]; omega
      clear hx hs hsx x1 x2 x3
      go_wp2_with fail
      refine ⟨⟨k + 1, by omega, by go_num, HR.out.step hs5 (by rw [HN.out s, if_pos rfl]; push_cast; rfl) (fun j hj => by rw [HN.out j, if_neg hj])⟩, ?_⟩
      simp [intOf]; omega
    · have hltz : ¬ ((k : Int) < l.length) := by omega
      have hfin : l.take k = l := List.take_of_length_le (by omega)
      have s0 := HR.out.cells 0 (by omega)
      have s1 := HR.out.cells 1 (by omega)
      have s2 := HR.out.cells 2 (by omega)
      have s3 := HR.out.cells 3 (by omega)
      have s4 := HR.out.cells 4 (by omega)
      have r0 := HR.out.res 0 (by omega)
      have r1 := HR.out.res 1 (by omega)
      have r2 := HR.out.res 2 (by omega)
      have r3 := HR.out.res 3 (by omega)
      have r4 := HR.out.res 4 (by omega)
      rw [hfin] at s0 s1 s2 s3 s4
      clear hfin
      go_wp2
      refine bodyPost_ret (v := .agg #[.int .i64 (cntL l 0), .int .i64 (cntL l 1), .int .i64 (cntL l 2), .int .i64 (cntL l 3), .int .i64 (cntL l 4)]) ?_ rfl ⟨rfl, ?_⟩
      · simp [results, Tryz.results109, go_sem, *]
      · exact ((((HR.out.below.setCell (Nat.le_refl _) _).setCell (Nat.le_refl _) _).setCell (Nat.le_refl _) _).setCell (Nat.le_refl _) _).setCell (Nat.le_refl _) _
end Go.Proofs.YtgjahnomafpnfaaGreatDoor

/- StockOf, the reference's and the program's. -/
namespace Go.Proofs.YtgjahnomafpnfaaGreatDoor
open Go.RowKit
theorem cntV_eq (l : List Rec) : cntV l = .agg #[.int .i64 (cntL l 0), .int .i64 (cntL l 1), .int .i64 (cntL l 2), .int .i64 (cntL l 3), .int .i64 (cntL l 4)] := rfl
abbrev zeroV : Value := .agg #[.int .i64 0, .int .i64 0, .int .i64 0, .int .i64 0, .int .i64 0]
/-- The cells of a stock in memory. -/
structure StkX (w : World) (X : Nat) (a b c d e : Int) : Prop where
  c0 : w.cell? ⟨X, 0, none⟩ = some (.int .i64 a)
  c1 : w.cell? ⟨X, 1, none⟩ = some (.int .i64 b)
  c2 : w.cell? ⟨X, 2, none⟩ = some (.int .i64 c)
  c3 : w.cell? ⟨X, 3, none⟩ = some (.int .i64 d)
  c4 : w.cell? ⟨X, 4, none⟩ = some (.int .i64 e)
  f : ∀ j, w.frozen? ⟨X, j, none⟩ = false
  lt : X < w.heap.size
theorem StkX.new (w : World) (a b c d e : Int) : StkX (w.alloc (.cells #[.int .i64 a, .int .i64 b, .int .i64 c, .int .i64 d, .int .i64 e] 26)) w.heap.size a b c d e :=
  ⟨by rw [World.cell?_alloc_new]; rfl, by rw [World.cell?_alloc_new]; rfl, by rw [World.cell?_alloc_new]; rfl, by rw [World.cell?_alloc_new]; rfl, by rw [World.cell?_alloc_new]; rfl, fun j => World.frozen?_alloc_new w _ _ j, by simp⟩
theorem StkX.ext {w w' : World} {X : Nat} {a b c d e : Int} (h : StkX w X a b c d e) (hE : Ext w w') : StkX w' X a b c d e :=
  ⟨hE.keep h.c0, hE.keep h.c1, hE.keep h.c2, hE.keep h.c3, hE.keep h.c4, fun j => (Below.frozen (p := ⟨X, j, none⟩) hE h.lt).trans (h.f j), Nat.lt_of_lt_of_le h.lt hE.size⟩
set_option maxHeartbeats 800000 in
set_option maxRecDepth 100000 in
theorem StockOfR_any (n : Int) (v : Value) (l : List Rec) (w : World) (hv : SlR w v l) (hl : l.length ≤ 100000) (ht : ∀ x ∈ l, x.txt.size ≤ 1000000) :
    Calls Tryz.prog 51 #[.int .i64 n, v] w fun e w' => e = .returned (.tuple #[if (checkP n l).2 = 0 then cntV l else zeroV, .int .i64 (checkP n l).2]) ∧ Ext w w' := by
  have HE0 := Lib.hid (Ext.alloc w (.cells #[.int .i64 0, .int .i64 0, .int .i64 0, .int .i64 0, .int .i64 0] 26))
  have HZ0 := Lib.hid (StkX.new w 0 0 0 0 0)
  have HV := Lib.hid (hv.ext HE0.out)
  have HCR := Lib.hid (CheckRecordsR_any n v l _ HV.out hl ht)
  have HK := Lib.hid (check_ok (n := n) (l := l))
  obtain ⟨ao, cap, rfl⟩ := hv.shape
  clear hv ht
  by_cases he : (checkP n l).2 = 0
  · rw [if_pos he, he]
    have HK2 := Lib.hid (HK.out he)
    rw [he] at HCR
    clear he HK
    generalize (checkP n l).1 = C1 at *
    go_enter Tryz.func51, Tryz.ntmps51
    go_wp2_with fail
    refine HCR.out.mono ?_
    rintro e w1 ⟨rfl, hE1⟩
    have HE1 := Lib.hid (HE0.out.trans hE1)
    have HV1 := Lib.hid (HV.out.ext hE1)
    have HZ1 := Lib.hid (HZ0.out.ext hE1)
    clear hE1 HCR
    go_wp2_with fail
    refine (stockR_any _ l w1 HV1.out hl HK2.out).mono ?_
    rintro e w2 ⟨rfl, hE2⟩
    rw [cntV_eq]
    have HE2 := Lib.hid (HE1.out.trans hE2)
    have HZ := Lib.hid (HZ1.out.ext hE2)
    clear hE2
    have z0 := HZ.out.c0
    have z1 := HZ.out.c1
    have z2 := HZ.out.c2
    have z3 := HZ.out.c3
    have z4 := HZ.out.c4
    have f0 := HZ.out.f 0
    have f1 := HZ.out.f 1
    have f2 := HZ.out.f 2
    have f3 := HZ.out.f 3
    have f4 := HZ.out.f 4
    go_wp2_with fail
    refine bodyPost_ret (v := .tuple #[.agg #[.int .i64 (cntL l 0), .int .i64 (cntL l 1), .int .i64 (cntL l 2), .int .i64 (cntL l 3), .int .i64 (cntL l 4)], .int .i64 0]) ?_ rfl ⟨rfl, ?_⟩
    · simp [results, Tryz.results51, go_sem, *]
    · exact ((((HE2.out.setCell (Nat.le_refl _) _).setCell (Nat.le_refl _) _).setCell (Nat.le_refl _) _).setCell (Nat.le_refl _) _).setCell (Nat.le_refl _) _
  · have hne : ((checkP n l).2 != 0) = true := by simpa using he
    rw [if_neg he]
    clear he HK
    generalize (checkP n l).2 = E at *
    generalize (checkP n l).1 = C1 at *
    go_enter Tryz.func51, Tryz.ntmps51
    go_wp2_with fail
    refine HCR.out.mono ?_
    rintro e w1 ⟨rfl, hE1⟩
    have HE1 := Lib.hid (HE0.out.trans hE1)
    have HZ := Lib.hid (HZ0.out.ext hE1)
    clear hE1 HCR
    have z0 := HZ.out.c0
    have z1 := HZ.out.c1
    have z2 := HZ.out.c2
    have z3 := HZ.out.c3
    have z4 := HZ.out.c4
    have f0 := HZ.out.f 0
    have f1 := HZ.out.f 1
    have f2 := HZ.out.f 2
    have f3 := HZ.out.f 3
    have f4 := HZ.out.f 4
    go_wp2_with fail
    refine bodyPost_ret (v := .tuple #[zeroV, .int .i64 E]) ?_ rfl ⟨rfl, ?_⟩
    · simp [results, Tryz.results51, go_sem, *]
    · exact ((((HE1.out.setCell (Nat.le_refl _) _).setCell (Nat.le_refl _) _).setCell (Nat.le_refl _) _).setCell (Nat.le_refl _) _).setCell (Nat.le_refl _) _
theorem RowR.own_lt {w : World} {base : Nat} {r : Option Nat} {v : Value} {xs : List Rec} (h : RowR w base r v xs) (hb : base ≤ w.heap.size) : ∀ g, v.ownBlock = some g → g < w.heap.size := by
  intro g hg
  rcases h with ⟨h, _⟩ | ⟨⟨g', h1, h2, _⟩, _⟩
  · exact (h.lt g hg).2
  · rw [h1] at hg
    simp [Value.ownBlock] at hg
    omega
/-- A shelf in a new block. -/
theorem shelf_new {w : World} {base : Nat} {rs : List (Option Nat)} {v0 v1 v2 v3 v4 : Value} {rows : List (List Rec)} (h : Rows5 w base rs [v0, v1, v2, v3, v4] rows) : ShelfX (w.alloc (.cells #[v0, v1, v2, v3, v4] 126)) base w.heap.size 0 rs [v0, v1, v2, v3, v4] rows := by
  refine ⟨h.ext (Ext.alloc _ _), by simp, fun k v hv => ?_, fun k _ => World.frozen?_alloc_new w _ _ _, fun k v hv e => ?_⟩
  · rw [World.cell?_alloc_new, Nat.zero_add]
    simpa using hv
  · have hk := (List.getElem?_eq_some_iff.1 hv).1
    have hk5 : k < 5 := by simpa using hk
    have := (h.row k (rs[k]'(by rw [h.ls]; exact hk5)) v (rows[k]'(by rw [h.lr]; exact hk5)) (List.getElem?_eq_getElem _) hv (List.getElem?_eq_getElem _)).own_lt h.le _ e
    omega
theorem cnt_rows {n : Int} {l : List Rec} (h : (sortedP n l).2.2 = 0) : stockV (sortedP n l).1 = cntV l := by
  obtain ⟨_, hb, hf⟩ := sorted_book h
  have k := fun s hs => congrArg List.length (hb.of s hs)
  rw [hf] at k
  have k0 := k 0 (by omega)
  have k1 := k 1 (by omega)
  have k2 := k 2 (by omega)
  have k3 := k 3 (by omega)
  have k4 := k 4 (by omega)
  unfold stockV cntV cntL
  rw [k0, k1, k2, k3, k4]
set_option maxHeartbeats 800000 in
set_option maxRecDepth 100000 in
theorem StockOf_any (n : Int) (v : Value) (l : List Rec) (w : World) (hv : SlR w v l) (hl : l.length ≤ 100000) :
    Calls Tryz.prog 50 #[.int .i64 n, v] w fun e w' => e = .returned (.tuple #[if (checkP n l).2 = 0 then cntV l else zeroV, .int .i64 (checkP n l).2]) ∧ Ext w w' := by
  have HE0 := Lib.hid (Ext.alloc w (.cells #[.int .i64 0, .int .i64 0, .int .i64 0, .int .i64 0, .int .i64 0] 26))
  have HZ0 := Lib.hid (StkX.new w 0 0 0 0 0)
  have HV := Lib.hid (hv.ext HE0.out)
  have HCR := Lib.hid (sorted_any n v l _ HV.out hl)
  have HK := Lib.hid (cnt_rows (n := n) (l := l))
  have hcs : (sortedP n l).2.2 = (checkP n l).2 := by rw [check_same]
  obtain ⟨ao, cap, rfl⟩ := hv.shape
  clear hv
  by_cases he : (checkP n l).2 = 0
  · rw [if_pos he, he]
    rw [he] at hcs
    have HK2 := Lib.hid (HK.out hcs)
    have HC0 := Lib.hid hcs
    clear he HK hcs
    go_enter Tryz.func50, Tryz.ntmps50
    go_wp2_with fail
    refine HCR.out.mono ?_
    rintro e w1 ⟨rs, v0, v1, v2, v3, v4, rfl, h5, hb⟩
    rw [HC0.out]
    generalize (sortedP n l).2.1 = C1
    have HE1 := Lib.hid (HE0.out.trans hb)
    have HZ1 := Lib.hid (HZ0.out.ext hb)
    have HSh := Lib.hid (shelf_new h5)
    obtain ⟨⟨a0, n0, c0, rfl⟩, ⟨a1, n1, c1, rfl⟩, ⟨a2, n2, c2, rfl⟩, ⟨a3, n3, c3, rfl⟩, ⟨a4, n4, c4, rfl⟩⟩ := h5.shapes
    clear hb HCR h5
    go_wp2_with fail
    refine (stock_rows w1.heap.size 0 _ rs _ _ _ HSh.out).mono ?_
    rintro e w2 ⟨rfl, hE2⟩
    rw [HK2.out]
    rw [cntV_eq]
    have hE12 := (Ext.alloc w1 (.cells #[.slice a0 n0 c0, .slice a1 n1 c1, .slice a2 n2 c2, .slice a3 n3 c3, .slice a4 n4 c4] 126)).trans hE2
    have HE2 := Lib.hid (HE1.out.trans hE12)
    have HZ := Lib.hid (HZ1.out.ext hE12)
    clear hE2 hE12
    have z0 := HZ.out.c0
    have z1 := HZ.out.c1
    have z2 := HZ.out.c2
    have z3 := HZ.out.c3
    have z4 := HZ.out.c4
    have f0 := HZ.out.f 0
    have f1 := HZ.out.f 1
    have f2 := HZ.out.f 2
    have f3 := HZ.out.f 3
    have f4 := HZ.out.f 4
    go_wp2_with fail
    refine bodyPost_ret (v := .tuple #[.agg #[.int .i64 (cntL l 0), .int .i64 (cntL l 1), .int .i64 (cntL l 2), .int .i64 (cntL l 3), .int .i64 (cntL l 4)], .int .i64 0]) ?_ rfl ⟨rfl, ?_⟩
    · simp [results, Tryz.results50, go_sem, *]
    · exact ((((HE2.out.setCell (Nat.le_refl _) _).setCell (Nat.le_refl _) _).setCell (Nat.le_refl _) _).setCell (Nat.le_refl _) _).setCell (Nat.le_refl _) _
  · have hne : ((sortedP n l).2.2 != 0) = true := by rw [hcs]; simpa using he
    rw [if_neg he]
    rw [← hcs]
    clear he HK hcs
    go_enter Tryz.func50, Tryz.ntmps50
    go_wp2_with fail
    refine HCR.out.mono ?_
    rintro e w1 ⟨rs, v0, v1, v2, v3, v4, rfl, h5, hb⟩
    have hE12 := Ext.trans (show Ext _ w1 from hb) (Ext.alloc w1 (.cells #[v0, v1, v2, v3, v4] 126))
    have HE1 := Lib.hid (HE0.out.trans hE12)
    have HZ := Lib.hid (HZ0.out.ext hE12)
    obtain ⟨⟨a0, n0, c0, rfl⟩, ⟨a1, n1, c1, rfl⟩, ⟨a2, n2, c2, rfl⟩, ⟨a3, n3, c3, rfl⟩, ⟨a4, n4, c4, rfl⟩⟩ := h5.shapes
    clear hb HCR h5 hE12
    have z0 := HZ.out.c0
    have z1 := HZ.out.c1
    have z2 := HZ.out.c2
    have z3 := HZ.out.c3
    have z4 := HZ.out.c4
    have f0 := HZ.out.f 0
    have f1 := HZ.out.f 1
    have f2 := HZ.out.f 2
    have f3 := HZ.out.f 3
    have f4 := HZ.out.f 4
    go_wp2_with fail
    refine bodyPost_ret (v := .tuple #[zeroV, .int .i64 (sortedP n l).2.2]) ?_ rfl ⟨rfl, ?_⟩
    · simp [results, Tryz.results50, go_sem, *]
    · exact ((((HE1.out.setCell (Nat.le_refl _) _).setCell (Nat.le_refl _) _).setCell (Nat.le_refl _) _).setCell (Nat.le_refl _) _).setCell (Nat.le_refl _) _
end Go.Proofs.YtgjahnomafpnfaaGreatDoor

/- Rules for a region whose frame is a variable: what an operand holds, what an operation gives. -/
namespace Go.Proofs.YtgjahnomafpnfaaGreatDoor
open Go.RowKit
/-- Does operation i wait for operation j itself? -/
def direct (ops : Array Oper) (i j : Nat) : Bool := (ops[i]?).any fun o => o.after.any fun e => Region.binds .any e && e.on == j
theorem direct_anc {ops : Array Oper} {f i j : Nat} (h : direct ops i j = true) : anc ops (f + 1) i j = true := by
  unfold direct at h
  unfold anc
  cases ho : ops[i]? with
  | none => rw [ho] at h; cases h
  | some o =>
    rw [ho, Option.any_some, Array.any_eq_true'] at h
    rw [Option.any_some, Array.any_eq_true']
    obtain ⟨e, he, h⟩ := h
    refine ⟨e, he, ?_⟩
    rw [Bool.and_eq_true] at h ⊢
    exact ⟨h.1, by rw [h.2]; rfl⟩
/-- The check of a region's text, quick: every operation looks only at what it waits for itself. -/
def drawnFast (ops : Array Oper) (size : Nat) : Bool :=
  (List.range ops.size).all (fun i => (ops[i]?).any fun o =>
    (match o.op with | .select .. => false | _ => true) && o.after.all (fun e => !Region.binds .any e || decide (e.on < i)) &&
    (o.dst.any fun d => decide (d < size)) && (List.range i).all (fun j => (ops[j]?).any fun q => q.dst != o.dst) &&
    (List.range ops.size).all (fun j => (ops[j]?).any fun q => q.dst.all fun d => !(o.looksAt ops).contains d || (j != i && direct ops i j)))
theorem drawnFast_ok {ops : Array Oper} {size : Nat} (h : drawnFast ops size = true) : drawnOk ops ops.size size = true := by
  unfold drawnFast at h
  unfold drawnOk
  rw [List.all_eq_true] at h
  rw [Bool.and_eq_true, decide_eq_true_eq, List.all_eq_true]
  refine ⟨Nat.le_refl _, fun i hi => ?_⟩
  have h1 := h i hi
  have hlt := List.mem_range.1 hi
  obtain ⟨f, hf⟩ : ∃ f, ops.size = f + 1 := ⟨ops.size - 1, by omega⟩
  cases ho : ops[i]? with
  | none => rw [ho] at h1; cases h1
  | some o =>
    rw [ho, Option.any_some] at h1
    rw [Option.any_some]
    rw [Bool.and_eq_true, Bool.and_eq_true, Bool.and_eq_true, Bool.and_eq_true] at h1
    obtain ⟨⟨⟨⟨a1, a2⟩, a3⟩, a4⟩, a5⟩ := h1
    have hd : decide (i < ops.size) = true := decide_eq_true hlt
    rw [Bool.and_eq_true, Bool.and_eq_true, Bool.and_eq_true, hd]
    refine ⟨⟨⟨a1, a2⟩, ?_⟩, rfl⟩
    rw [Bool.not_true, Bool.false_or, Bool.and_eq_true, Bool.and_eq_true]
    refine ⟨⟨a3, a4⟩, ?_⟩
    rw [List.all_eq_true] at a5 ⊢
    intro j hj
    have h5 := a5 j hj
    cases hq : ops[j]? with
    | none => rw [hq] at h5; cases h5
    | some q =>
      rw [hq, Option.any_some] at h5
      rw [Option.any_some]
      cases hqd : q.dst with
      | none => rfl
      | some d =>
        rw [hqd, Option.all_some, Bool.or_eq_true, Bool.and_eq_true] at h5
        rw [Option.all_some, Bool.or_eq_true, Bool.and_eq_true]
        rcases h5 with h6 | ⟨h6, h7⟩
        · exact .inl h6
        · refine .inr ⟨h6, ?_⟩
          rw [hf]
          exact direct_anc h7
section
variable {P : Program} {ops : Array Oper} {o : Oper} {a : Act} {w : World} {X : Value}
theorem sz_put {d n : Nat} (h : a.tmps.size = n) : (a.put (some d) X).tmps.size = n := by
  show (a.tmps.setIfInBounds d X).size = n
  rw [Array.size_setIfInBounds]; exact h
theorem ev_hit {d n : Nat} (hs : a.tmps.size = n) (h : d < n) : (a.put (some d) X).eval (.tmp d) = X := by
  show (a.tmps.setIfInBounds d X).getD d undef = X
  rw [Array.getD_eq_getD_getElem?, Array.getElem?_setIfInBounds_self_of_lt (by omega)]
  rfl
theorem ev_skip {d t : Nat} {v : Value} (hne : d ≠ t) (h : a.eval (.tmp t) = v) : (a.put (some d) X).eval (.tmp t) = v := by
  show (a.tmps.setIfInBounds d X).getD t undef = v
  rw [Array.getD_eq_getD_getElem?, Array.getElem?_setIfInBounds_ne hne, ← Array.getD_eq_getD_getElem?]
  exact h
theorem with_frame {c : Code} {Q : Exit → Act → World → Prop} (h : ∀ A, A = a → c.wp P Q A w) : c.wp P Q a w := h a rfl
theorem want_none (h : o.guard = none) : Region.wanted o (yielded ops a.tmps) = true := by unfold Region.wanted; rw [h]
theorem want_some {g t n : Nat} {want : Bool} (hg : o.guard = some (g, want)) (hd : (ops[g]?).bind (·.dst) = some t) (hn : a.tmps.size = n) (ht : t < n) (he : a.eval (.tmp t) = .bool want) : Region.wanted o (yielded ops a.tmps) = true := by
  have hs : t < a.tmps.size := by omega
  unfold Region.wanted
  rw [hg]
  have h1 : a.tmps[t]? = some (.bool want) := by
    have h2 : a.tmps.getD t undef = .bool want := he
    rw [Array.getD_eq_getD_getElem?, Array.getElem?_eq_getElem hs] at h2
    rw [Array.getElem?_eq_getElem hs]
    exact congrArg some h2
  have h3 : yielded ops a.tmps g = some want := by
    unfold yielded
    rw [hd]
    simp only [Option.bind_some, h1]
  simp only [h3, beq_self_eq_true]
theorem seq_pureD {E : World → World → Prop} {Φ : Nat → Option (Value → World → Prop)} {w0 : World} {T : Act → World → Prop} {ν : Nat → Value} {i d j : Nat} {rest : List Oper} (hj : i + 1 = j) (X : Value) (h0 : Φ i = none) (hd : o.dst = some d) (h : ∀ w', E w0 w' → factsOf ops Φ ν i w' → pureG P ops o a w' X) (hr : Seq E P ops Φ w0 T ν j rest (a.put (some d) X)) : Seq E P ops Φ w0 T ν i (o :: rest) a :=
  Seq.pure X h0 h (by rw [hd, hj]; exact hr)
theorem seq_effD {E : World → World → Prop} {Φ : Nat → Option (Value → World → Prop)} {w0 : World} {T : Act → World → Prop} {ν : Nat → Value} {i d j : Nat} {rest : List Oper} (hj : i + 1 = j) (φ : Value → World → Prop) (h0 : Φ i = some φ) (hd : o.dst = some d) (h : ∀ w', E w0 w' → factsOf ops Φ ν i w' → giveG P ops o a w' (fun v w'' => φ v w'' ∧ E w' w'')) (hr : Seq E P ops Φ w0 T ν j rest (a.put (some d) (ν i))) : Seq E P ops Φ w0 T ν i (o :: rest) a :=
  Seq.eff φ h0 h (by rw [hd, hj]; exact hr)
theorem pg_move {x : Operand} (hw : Region.wanted o (yielded ops a.tmps) = true) (ho : o.op = .move x) (hx : a.eval x = X) : pureG P ops o a w X := by
  unfold pureG
  rw [if_pos hw]
  unfold execOp
  simp only [ho, hx]
  rfl
theorem pg_pick {c x y : Operand} {b : Bool} (hw : Region.wanted o (yielded ops a.tmps) = true) (ho : o.op = .pick c x y) (hc : a.eval c = .bool b) (hx : (if b then a.eval x else a.eval y) = X) : pureG P ops o a w X := by
  unfold pureG
  rw [if_pos hw]
  unfold execOp
  subst hx
  simp only [ho, hc, asBool, Sem.run_bind, Sem.run_pure, Result.andThen_ok]
theorem pg_pickF {c x y : Operand} (hw : Region.wanted o (yielded ops a.tmps) = true) (ho : o.op = .pick c x y) (hc : a.eval c = .bool false) (hx : a.eval y = X) : pureG P ops o a w X := pg_pick (b := false) hw ho hc hx
theorem pg_bin {op : BinOp} {t t2 : TypeId} {x y : Operand} {u v : Value} (hw : Region.wanted o (yielded ops a.tmps) = true) (ho : o.op = .binOp op t x y t2) (hx : a.eval x = u) (hy : a.eval y = v)
    (hq : (eqGuard op t x y u v).run P w = .ok () w) (hb : (binOp op t u v).run P w = .ok X w) : pureG P ops o a w X := by
  unfold pureG
  rw [if_pos hw]
  unfold execOp
  simp only [ho, hx, hy, Sem.run_bind, hq, hb, Result.andThen_ok]
  rfl
theorem pg_load {t : TypeId} {x : Operand} {u : Value} (hw : Region.wanted o (yielded ops a.tmps) = true) (ho : o.op = .load t x) (hx : a.eval x = u) (h : (Instr.loadAt t u).run P w = .ok X w) : pureG P ops o a w X := by
  unfold pureG
  rw [if_pos hw]
  unfold execOp
  simp only [ho, hx, Sem.run_bind, h, Result.andThen_ok]
  rfl
theorem gv_call {f : FuncId} {us : Array Value} {R : Value → World → Prop} (hw : Region.wanted o (yielded ops a.tmps) = true) (he : (execOp a.eval o).run P w = .ok (.enter f us) w)
    (h : Calls P f us w fun e w' => ∃ v, e = .returned v ∧ R v w') : giveG P ops o a w R := by
  unfold giveG
  rw [if_pos hw]
  unfold Oper.wp
  rw [he]
  refine h.mono ?_
  rintro e w' ⟨v, rfl, hr⟩
  exact ⟨v, rfl, hr⟩
end
theorem neqS (t : ByteArray) (w : World) : (binOp .neq 9 (.string t) (.string t)).run Tryz.prog w = .ok (.bool false) w := by simp [go_sem, binOp, Op.stringOp]
theorem neqE (i : Int) (w : World) : (binOp .neq 38 (.int .i64 i) (.int .i64 i)).run Tryz.prog w = .ok (.bool false) w := by simp [go_sem, binOp]
theorem neqI (i : Int) (w : World) : (binOp .neq 3 (.int .i64 i) (.int .i64 i)).run Tryz.prog w = .ok (.bool false) w := by simp [go_sem, binOp]
theorem egS (x y : Operand) (a b : ByteArray) (w : World) : (eqGuard .neq 9 x y (.string a) (.string b)).run Tryz.prog w = .ok () w := rfl
theorem egE (t : TypeId) (x y : Operand) (a b : Int) (w : World) : (eqGuard .neq t x y (.int .i64 a) (.int .i64 b)).run Tryz.prog w = .ok () w := rfl
theorem eg49 (x y : Operand) (a b : Array Value) (w : World) : (eqGuard .neq 49 x y (.agg a) (.agg b)).run Tryz.prog w = .ok () w := run_eqGuard_agg _ _ _ _ _ _ _ (by kernel_rfl)
theorem eg94 (x y : Operand) (a b : Array Value) (w : World) : (eqGuard .neq 94 x y (.agg a) (.agg b)).run Tryz.prog w = .ok () w := run_eqGuard_agg _ _ _ _ _ _ _ (by kernel_rfl)
theorem ld49 {w : World} {X : Nat} {x : Rec} (h : BoxR w X x) : (Instr.loadAt 49 (.pointer (some ⟨X, 0, none⟩))).run Tryz.prog w = .ok (.agg #[.int .i64 x.st, .int .i64 x.num, .int .i64 x.hr, .string x.txt]) w := by
  have c0 := h.c0
  have c1 := h.c1
  have c2 := h.c2
  have c3 := h.c3
  simp [go_sem, c0, c1, c2, c3]
theorem ex_call61 (ρ : Operand → Value) (h1 : ρ (.func 61) = .func (.func 61) #[] #[]) {x0 : Operand} {u0 : Value} (h2 : ρ x0 = u0) {o : Oper} (ho : o.op = .call { callee := .value (.func 61), args := #[x0], argTypes := #[94] }) (w : World) : (execOp ρ o).run Tryz.prog w = .ok (.enter 61 #[u0]) w := by
  unfold execOp
  simp [ho, resolve, h1, h2, go_sem]
theorem ex_call62 (ρ : Operand → Value) (h1 : ρ (.func 62) = .func (.func 62) #[] #[]) {x0 : Operand} {u0 : Value} (h2 : ρ x0 = u0) {o : Oper} (ho : o.op = .call { callee := .value (.func 62), args := #[x0], argTypes := #[94] }) (w : World) : (execOp ρ o).run Tryz.prog w = .ok (.enter 62 #[u0]) w := by
  unfold execOp
  simp [ho, resolve, h1, h2, go_sem]
theorem ex_call63 (ρ : Operand → Value) (h1 : ρ (.func 63) = .func (.func 63) #[] #[]) {x0 x1 : Operand} {u0 u1 : Value} (h2 : ρ x0 = u0) (h3 : ρ x1 = u1) {o : Oper} (ho : o.op = .call { callee := .value (.func 63), args := #[x0, x1], argTypes := #[3, 49] }) (w : World) : (execOp ρ o).run Tryz.prog w = .ok (.enter 63 #[u0, u1]) w := by
  unfold execOp
  simp [ho, resolve, h1, h2, h3, go_sem]
theorem ex_call64 (ρ : Operand → Value) (h1 : ρ (.func 64) = .func (.func 64) #[] #[]) {x0 x1 : Operand} {u0 u1 : Value} (h2 : ρ x0 = u0) (h3 : ρ x1 = u1) {o : Oper} (ho : o.op = .call { callee := .value (.func 64), args := #[x0, x1], argTypes := #[3, 49] }) (w : World) : (execOp ρ o).run Tryz.prog w = .ok (.enter 64 #[u0, u1]) w := by
  unfold execOp
  simp [ho, resolve, h1, h2, h3, go_sem]
end Go.Proofs.YtgjahnomafpnfaaGreatDoor

/- Books and the one order: no program in sight. -/
namespace Go.Proofs.YtgjahnomafpnfaaGreatDoor
open Go.RowKit
theorem leR_iff (a b : Rec) : leR a b ↔ (a.hr < b.hr ∨ (a.hr = b.hr ∧ (a.st < b.st ∨ (a.st = b.st ∧ a.num ≤ b.num)))) := ordC_nonneg a b
theorem leR_refl (a : Rec) : leR a a := by rw [leR_iff]; omega
theorem leR_total (a b : Rec) : leR a b ∨ leR b a := by rw [leR_iff, leR_iff]; omega
/-- Records with different refs. -/
def Refs (xs : List Rec) : Prop := ∀ (i j : Nat) x y, xs[i]? = some x → xs[j]? = some y → x.st = y.st → x.num = y.num → i = j
theorem Refs.eq {xs : List Rec} (h : Refs xs) {x y : Rec} (hx : x ∈ xs) (hy : y ∈ xs) (h1 : x.st = y.st) (h2 : x.num = y.num) : x = y := by
  obtain ⟨i, hi⟩ := List.getElem?_of_mem hx
  obtain ⟨j, hj⟩ := List.getElem?_of_mem hy
  have := h i j x y hi hj h1 h2
  subst this
  rw [hi] at hj; exact Option.some.inj hj
theorem flatten_get_mem {rows : List (List Rec)} {x : Rec} (h : x ∈ rows.flatten) : ∃ (s : Nat) (xs : List Rec) (k : Nat), rows[s]? = some xs ∧ xs[k]? = some x := by
  obtain ⟨xs, h1, h2⟩ := List.mem_flatten.1 h
  obtain ⟨s, hs⟩ := List.getElem?_of_mem h1
  obtain ⟨k, hk⟩ := List.getElem?_of_mem h2
  exact ⟨s, xs, k, hs, hk⟩
theorem nodup_flatten {n : Int} : ∀ (rows : List (List Rec)) (s : Nat), (∀ (t : Nat) xs, rows[t]? = some xs → RowOk n (s + t) xs) → rows.flatten.Pairwise (fun x y => ¬ (x.st = y.st ∧ x.num = y.num))
  | [], _, _ => by simp
  | r :: rows, s, h => by
    rw [List.flatten_cons, List.pairwise_append]
    refine ⟨?_, nodup_flatten rows (s + 1) (fun t xs ht => by have := h (t + 1) xs (by simpa using ht); rwa [show s + (t + 1) = s + 1 + t from by omega] at this), fun x hx y hy => ?_⟩
    · have h0 := h 0 r rfl
      rw [List.pairwise_iff_getElem]
      intro i j hi hj hij
      have a := h0.at_ i _ (List.getElem?_eq_getElem hi)
      have b := h0.at_ j _ (List.getElem?_eq_getElem hj)
      rintro ⟨_, e⟩
      omega
    · obtain ⟨t, ys, k, ht, hk⟩ := flatten_get_mem hy
      obtain ⟨i, hi⟩ := List.getElem?_of_mem hx
      have a := (h 0 r rfl).at_ i x hi
      have b := (h (t + 1) ys (by simpa using ht)).at_ k y hk
      rintro ⟨e, _⟩
      omega
theorem Book.refs {n : Int} {rows : List (List Rec)} (h : Book n rows) : Refs rows.flatten := by
  have hp := nodup_flatten rows 0 (fun t xs ht => by rw [Nat.zero_add]; exact h.row t xs ht)
  rw [List.pairwise_iff_getElem] at hp
  intro i j x y hi hj h1 h2
  obtain ⟨hil, rfl⟩ := List.getElem?_eq_some_iff.1 hi
  obtain ⟨hjl, rfl⟩ := List.getElem?_eq_some_iff.1 hj
  rcases Nat.lt_trichotomy i j with q | q | q
  · exact absurd ⟨h1, h2⟩ (hp i j hil hjl q)
  · exact q
  · exact absurd ⟨h1.symm, h2.symm⟩ (hp j i hjl hil q)
theorem book_refs {n : Int} {l : List Rec} (h : (sortedP n l).2.2 = 0) : Refs l := by
  obtain ⟨_, b, f⟩ := sorted_book h
  have := b.refs
  rwa [f] at this
theorem Refs.nodup {xs : List Rec} (h : Refs xs) : xs.Nodup := by
  rw [List.Nodup, List.pairwise_iff_getElem]
  intro i j hi hj hij e
  have := h i j _ _ (List.getElem?_eq_getElem hi) (List.getElem?_eq_getElem hj) (by rw [e]) (by rw [e])
  omega
/-- Two orders of the same book are the same. -/
theorem inOrder_one {xs ys zs : List Rec} (hr : Refs xs) (h : InOrder xs ys) (k : InOrder xs zs) : ys = zs := by
  have hl1 := h.1.length_eq
  have hl2 := k.1.length_eq
  refine List.Perm.eq_of_pairwise (le := leR) (fun a b ha hb h1 h2 => ?_) ?_ ?_ (h.1.trans k.1.symm)
  · have ha' := h.1.mem_iff.1 ha
    have hb' := k.1.mem_iff.1 hb
    rw [leR_iff] at h1 h2
    exact hr.eq ha' hb' (by omega) (by omega)
  · rw [List.pairwise_iff_getElem]
    intro i j hi hj hij
    exact h.2 i j _ _ (Nat.zero_le _) hij (by omega) (List.getElem?_eq_getElem hi) (List.getElem?_eq_getElem hj)
  · rw [List.pairwise_iff_getElem]
    intro i j hi hj hij
    exact k.2 i j _ _ (Nat.zero_le _) hij (by omega) (List.getElem?_eq_getElem hi) (List.getElem?_eq_getElem hj)
/-- The order of what was until an hour is the beginning of the order. -/
theorem order_until {xs ys zs : List Rec} (hr : Refs xs) (h : InOrder xs ys) (hour : Int) (k : InOrder (upTo hour xs) zs) : zs.length ≤ ys.length ∧ ys.take zs.length = zs := by
  have hs : ∀ (j k : Nat) y z, j < k → ys[j]? = some y → ys[k]? = some z → y.hr ≤ z.hr := fun j k y z hjk hj hk => by
    have := h.2 j k y z (Nat.zero_le _) hjk (by have := (List.getElem?_eq_some_iff.1 hk).1; rw [h.1.length_eq] at this; exact this) hj hk
    rw [leR_iff] at this
    omega
  obtain ⟨m, hm⟩ := upTo_pre hour ys hs
  have hp : (upTo hour ys).Perm (upTo hour xs) := h.1.filter _
  have hlen : zs.length = (upTo hour ys).length := by rw [k.1.length_eq, hp.length_eq]
  have hr' : Refs (upTo hour xs) := by
    intro i j x y hi hj h1 h2
    have nd : (upTo hour xs).Nodup := (List.filter_sublist (l := xs) (p := fun x => !laterB hour x)).nodup hr.nodup
    have e : x = y := hr.eq ((List.mem_filter.1 (List.mem_of_getElem? hi)).1) ((List.mem_filter.1 (List.mem_of_getElem? hj)).1) h1 h2
    subst e
    obtain ⟨a, ha⟩ := List.getElem?_eq_some_iff.1 hi
    obtain ⟨b, hb⟩ := List.getElem?_eq_some_iff.1 hj
    exact (List.getElem_inj (h₀ := a) (h₁ := b) nd).1 (ha.trans hb.symm)
  have e : upTo hour ys = zs := by
    refine inOrder_one hr' ⟨hp, fun p q x y _ hpq hq hx hy => ?_⟩ k
    rw [hm] at hx hy
    rw [List.getElem?_take] at hx hy
    split at hy
    · rw [if_pos (by omega)] at hx
      exact h.2 p q x y (Nat.zero_le _) hpq (by have := (List.getElem?_eq_some_iff.1 hy).1; rw [h.1.length_eq] at this; exact this) hx hy
    · cases hy
  have hle : (upTo hour ys).length ≤ ys.length := List.length_filter_le _ _
  refine ⟨by omega, ?_⟩
  rw [← e]
  have hml : (upTo hour ys).length = min m ys.length := by rw [hm, List.length_take]
  rcases Nat.le_total m ys.length with q | q
  · rw [hml, Nat.min_eq_left q, ← hm]
  · rw [hml, Nat.min_eq_right q, List.take_length, hm, List.take_of_length_le q]
end Go.Proofs.YtgjahnomafpnfaaGreatDoor
