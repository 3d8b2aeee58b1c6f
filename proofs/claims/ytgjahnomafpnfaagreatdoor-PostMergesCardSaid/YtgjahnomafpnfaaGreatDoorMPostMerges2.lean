/- Lemmas and walks that this claim needs, in one text out of several; each states its own conditions. -/
import Derived.Test.YtgjahnomafpnfaaGreatDoorMPostMerges1
import Derived.Test.YtgjahnomafpnfaaGreatDoorMB2
import Derived.Test.YtgjahnomafpnfaaGreatDoorMB3
import Derived.Test.YtgjahnomafpnfaaGreatDoorMB8
set_option linter.unusedVariables false
set_option linter.unusedSimpArgs false
/- Merge: the walk. -/
namespace Go.Proofs.YtgjahnomafpnfaaGreatDoor
open Go.RowKit
def mixR (ra rb : List (List Rec)) (k j : Nat) : List Rec := if j < k then longer (ra.getD j []) (rb.getD j []) else ra.getD j []
/-- What Merge comes to. -/
def MergePost (n : Int) (a b : List Rec) (w : World) (e : Ending) (w' : World) : Prop :=
  Ext w w' ∧ ∃ v, e = .returned (.tuple #[v, .int .i64 (mergeE n a b)]) ∧ SlR w' v (mergeL n a b) ∧ ((v = .slice none 0 0 ∧ mergeL n a b = []) ∨ OwnR w' w.heap.size v (mergeL n a b))
theorem mergePost_none {n : Int} {a b : List Rec} {w w' : World} {E : Int} (h : mergeE n a b = E) (hl : mergeL n a b = []) (hE : Ext w w') : MergePost n a b w (.returned (.tuple #[.slice none 0 0, .int .i64 E])) w' :=
  ⟨hE, .slice none 0 0, by rw [h], by rw [hl]; exact .inl ⟨rfl, rfl⟩, .inl ⟨rfl, hl⟩⟩
theorem mergePost_some {n : Int} {a b : List Rec} {w w1 w' : World} {v : Value} (h : mergeE n a b = 0) (hO : OwnR w' w1.heap.size v (mergeL n a b)) (hE : Ext w w1) (hb : Below w1.heap.size w1 w') : MergePost n a b w (.returned (.tuple #[v, .int .i64 0])) w' :=
  ⟨hE.trans hb, v, by rw [h], hO.slR, .inr (owns_mono hO hE.size)⟩
theorem five_cells (w : World) (v0 v1 v2 v3 v4 : Value) : ∀ j, j < 5 → (w.alloc (.cells #[v0, v1, v2, v3, v4] 126)).cell? ⟨w.heap.size, j, none⟩ = some ([v0, v1, v2, v3, v4].getD j undef) ∧ (w.alloc (.cells #[v0, v1, v2, v3, v4] 126)).frozen? ⟨w.heap.size, j, none⟩ = false := by
  intro j hj
  refine ⟨?_, World.frozen?_alloc_new w _ _ j⟩
  rw [World.cell?_alloc_new]
  match j, hj with
  | 0, _ => rfl
  | 1, _ => rfl
  | 2, _ => rfl
  | 3, _ => rfl
  | 4, _ => rfl
theorem rows_total : ∀ (rows : List (List Rec)) (j : Nat), (rows.getD j []).length ≤ rows.flatten.length
  | [], j => by simp
  | r :: rows, 0 => by simp
  | r :: rows, j + 1 => by
    have := rows_total rows j
    rw [List.getD_cons_succ, List.flatten_cons, List.length_append]; omega
theorem sorted_total {n : Int} {l : List Rec} (h : (sortedP n l).2.2 = 0) (hl : l.length ≤ 100000) (j : Nat) : ((sortedP n l).1.getD j []).length ≤ 100000 := by
  have := rows_total (sortedP n l).1 j
  rw [(sorted_book h).2.2] at this
  omega
theorem sorted_rows {n : Int} {l : List Rec} (h : (sortedP n l).2.2 = 0) (hl : l.length ≤ 100000) : ∀ r ∈ (sortedP n l).1, r.length ≤ 1000000 := by
  intro r hr
  obtain ⟨j, hj⟩ := List.getElem?_of_mem hr
  have := sorted_total h hl j
  rw [getD_some hj] at this
  omega
theorem mrel_start {W : World} {X : Nat} {va vb : List Value} {ra rb : List (List Rec)} (h1 : ∀ j, j < 5 → W.cell? ⟨X, j, none⟩ = some (va.getD j undef)) (h2 : ∀ j, j < 5 → W.frozen? ⟨X, j, none⟩ = false) : MRel W W X va vb ra rb 0 :=
  ⟨by omega, FrB.refl _ _, fun j hj => by unfold mixV; rw [if_neg (by omega)]; exact h1 j hj, h2, fun j hj => by omega⟩
theorem mpair_of {w w1 w2 : World} {rsa rsb : List (Option Nat)} {v0 v1 v2 v3 v4 u0 u1 u2 u3 u4 : Value} {ra rb : List (List Rec)} (hf1 : Rows5 w1 w.heap.size rsa [v0, v1, v2, v3, v4] ra) {W1 : World} (hf2 : Rows5 w2 W1.heap.size rsb [u0, u1, u2, u3, u4] rb) (hb1 : Below w.heap.size w w1) (hb2 : Below W1.heap.size W1 w2)
    {a : Option Addr} {l c : Nat} (hW1 : W1 = w1.alloc (.cells #[v0, v1, v2, v3, v4] 126)) (hc0 : W1.cell? ⟨w1.heap.size, 0, none⟩ = some (.slice a l c)) (hy : ∀ j, j < 5 → (w2.alloc (.cells #[u0, u1, u2, u3, u4] 126)).cell? ⟨w2.heap.size, j, none⟩ = some ([u0, u1, u2, u3, u4].getD j undef) ∧ (w2.alloc (.cells #[u0, u1, u2, u3, u4] 126)).frozen? ⟨w2.heap.size, j, none⟩ = false)
    (hra : ∀ r ∈ ra, r.length ≤ 1000000) (hrb : ∀ r ∈ rb, r.length ≤ 1000000) : MPair (w2.alloc (.cells #[u0, u1, u2, u3, u4] 126)) w1.heap.size w2.heap.size [v0, v1, v2, v3, v4] [u0, u1, u2, u3, u4] ra rb := by
  have hsz : W1.heap.size = w1.heap.size + 1 := by rw [hW1]; simp
  have hs2 := hb2.size
  have hE1 : Ext w1 W1 := hW1 ▸ Ext.alloc _ _
  have hE2 : Ext w2 (w2.alloc (.cells #[u0, u1, u2, u3, u4] 126)) := Ext.alloc _ _
  refine ⟨by simp; omega, by simp, by omega, hf1.lr, hf2.lr, fun j hj => ?_, fun j hj => ?_, fun j hj => (hy j hj).1⟩
  · exact hf1.away hra ⟨fun g hg e => by have := (hf1.ge g hg).2; omega, .inl hb1.size⟩ (hE1.trans (Ext.trans hb2 hE2)) hj
  · exact hf2.away hrb ⟨fun g hg e => by have := (hf2.ge g hg).1; omega, .inr ⟨a, l, c, Ext.keep hb2 hc0⟩⟩ hE2 hj
set_option maxHeartbeats 1600000 in
set_option maxRecDepth 100000 in
theorem Merge_any (n : Int) (v u : Value) (a b : List Rec) (w : World) (hv : SlR w v a) (hu : SlR w u b) (ha : a.length ≤ 100000) (hb : b.length ≤ 100000) :
    Calls Tryz.prog 44 #[.int .i64 n, v, u] w (MergePost n a b w) := by
  obtain ⟨av, cv, e1⟩ := hv.shape
  obtain ⟨au, cu, e2⟩ := hu.shape
  subst e1 e2
  have HS1 := Lib.hid (sorted_any n _ a w hv ha)
  have HU := Lib.hid hu
  clear hv hu
  go_enter Tryz.func44, Tryz.ntmps44
  go_wp2_with fail
  go_step3
  go_wp2_with fail
  refine HS1.out.mono ?_
  rintro e w1 ⟨rsa, v0, v1, v2, v3, v4, rfl, hf1, hb1⟩
  obtain ⟨⟨a0, n0, c0, rfl⟩, ⟨a1, n1, c1, rfl⟩, ⟨a2, n2, c2, rfl⟩, ⟨a3, n3, c3, rfl⟩, ⟨a4, n4, c4, rfl⟩⟩ := hf1.shapes
  have HF1 := Lib.hid hf1
  have HB1 := Lib.hid hb1
  have HE1 := Lib.hid (Ext.alloc w1 (.cells #[.slice a0 n0 c0, .slice a1 n1 c1, .slice a2 n2 c2, .slice a3 n3 c3, .slice a4 n4 c4] 126))
  have HX0 := Lib.hid (five_cells w1 (.slice a0 n0 c0) (.slice a1 n1 c1) (.slice a2 n2 c2) (.slice a3 n3 c3) (.slice a4 n4 c4))
  have HS2 := Lib.hid (sorted_any n _ b (w1.alloc (.cells #[.slice a0 n0 c0, .slice a1 n1 c1, .slice a2 n2 c2, .slice a3 n3 c3, .slice a4 n4 c4] 126)) ((HU.out.ext hb1).ext HE1.out) hb)
  clear hf1 hb1
  by_cases he1 : (sortedP n a).2.2 = 0
  · have HZ1 := Lib.hid he1
    rw [he1]
    clear he1
    go_wp2_with fail
    refine HS2.out.mono ?_
    rintro e w2 ⟨rsb, u0, u1, u2, u3, u4, rfl, hf2, hb2⟩
    obtain ⟨⟨d0, m0, k0, rfl⟩, ⟨d1, m1, k1, rfl⟩, ⟨d2, m2, k2, rfl⟩, ⟨d3, m3, k3, rfl⟩, ⟨d4, m4, k4, rfl⟩⟩ := hf2.shapes
    have HF2 := Lib.hid hf2
    have HB2 := Lib.hid hb2
    have HE2 := Lib.hid (Ext.alloc w2 (.cells #[.slice d0 m0 k0, .slice d1 m1 k1, .slice d2 m2 k2, .slice d3 m3 k3, .slice d4 m4 k4] 126))
    have HY0 := Lib.hid (five_cells w2 (.slice d0 m0 k0) (.slice d1 m1 k1) (.slice d2 m2 k2) (.slice d3 m3 k3) (.slice d4 m4 k4))
    clear hf2 hb2
    by_cases he2 : (sortedP n b).2.2 = 0
    · have HZ2 := Lib.hid he2
      rw [he2]
      clear he2
      go_wp2_with fail
      have hP : MPair (w2.alloc (.cells #[.slice d0 m0 k0, .slice d1 m1 k1, .slice d2 m2 k2, .slice d3 m3 k3, .slice d4 m4 k4] 126)) w1.heap.size w2.heap.size [.slice a0 n0 c0, .slice a1 n1 c1, .slice a2 n2 c2, .slice a3 n3 c3, .slice a4 n4 c4] [.slice d0 m0 k0, .slice d1 m1 k1, .slice d2 m2 k2, .slice d3 m3 k3, .slice d4 m4 k4] (sortedP n a).1 (sortedP n b).1 :=
        mpair_of HF1.out HF2.out HB1.out HB2.out rfl (HX0.out 0 (by omega)).1 HY0.out (sorted_rows HZ1.out ha) (sorted_rows HZ2.out hb)
      have hR : MRel (w2.alloc (.cells #[.slice d0 m0 k0, .slice d1 m1 k1, .slice d2 m2 k2, .slice d3 m3 k3, .slice d4 m4 k4] 126)) (w2.alloc (.cells #[.slice d0 m0 k0, .slice d1 m1 k1, .slice d2 m2 k2, .slice d3 m3 k3, .slice d4 m4 k4] 126)) w1.heap.size [.slice a0 n0 c0, .slice a1 n1 c1, .slice a2 n2 c2, .slice a3 n3 c3, .slice a4 n4 c4] [.slice d0 m0 k0, .slice d1 m1 k1, .slice d2 m2 k2, .slice d3 m3 k3, .slice d4 m4 k4] (sortedP n a).1 (sortedP n b).1 0 :=
        mrel_start (fun j hj => (Ext.trans HB2.out HE2.out).keep (HX0.out j hj).1) (fun j hj => ((Ext.trans HB2.out HE2.out).frozen (p := ⟨w1.heap.size, j, none⟩) (by simp)).trans (HX0.out j hj).2)
      have hEW : Ext w (w2.alloc (.cells #[.slice d0 m0 k0, .slice d1 m1 k1, .slice d2 m2 k2, .slice d3 m3 k3, .slice d4 m4 k4] 126)) := HB1.out.trans ((HE1.out.trans (Ext.trans HB2.out HE2.out)).mono (Below.size HB1.out))
      have hXw : w.heap.size ≤ w1.heap.size := Below.size HB1.out
      have HP := Lib.hid hP
      have HR := Lib.hid hR
      have HEW := Lib.hid hEW
      have HRT := Lib.hid (And.intro (sorted_total HZ1.out ha) (sorted_total HZ2.out hb))
      clear hP hR hEW
      go_step3
      go_wp2_with fail
      generalize hW : w2.alloc (.cells #[.slice d0 m0 k0, .slice d1 m1 k1, .slice d2 m2 k2, .slice d3 m3 k3, .slice d4 m4 k4] 126) = W at HP HR HEW ⊢
      clear hW HE2 HY0 HF1 HF2 HB1 HB2 HE1 HX0 HS2
      generalize w1.heap.size = X at *
      generalize w2.heap.size = Y at *
      generalize hra : (sortedP n a).1 = ra at *
      generalize hrb : (sortedP n b).1 = rb at *
      generalize (sortedP n a).2.1 = ia at *
      generalize (sortedP n b).2.1 = ib at *
      have HRA := Lib.hid (And.intro hra hrb)
      clear hra hrb
      generalize hva : [Value.slice a0 n0 c0, .slice a1 n1 c1, .slice a2 n2 c2, .slice a3 n3 c3, .slice a4 n4 c4] = va at HP HR
      generalize hvb : [Value.slice d0 m0 k0, .slice d1 m1 k1, .slice d2 m2 k2, .slice d3 m3 k3, .slice d4 m4 k4] = vb at HP HR
      clear hva hvb
      go_loopg [10, 35] 5 (fun g e i wx => ∃ k : Nat, k + g = 5 ∧ e = .int .i64 0 ∧ i = .int .i64 k ∧ MRel W wx X va vb ra rb k)
      case atStart => exact ⟨0, by omega, rfl, rfl, HR.out⟩
      case round =>
        obtain ⟨k, hkg, rfl, rfl, hR⟩ := hrel
        have HR2 := Lib.hid hR
        clear hR
        cases gk with
        | zero =>
          have hk5 : ¬ ((k : Int) < 5) := by omega
          obtain rfl : k = 5 := by omega
          have hm : mergeE n a b = 0 := by
            rw [mergeE_of HZ1.out HZ2.out, HRA.out.1, HRA.out.2, compatAll_true (fun j x y hx hy => ?_)]
            · rfl
            · have := HR2.out.ok j (by have := (List.getElem?_eq_some_iff.1 hx).1; rw [HP.out.la] at this; exact this)
              rwa [getD_some hx, getD_some hy] at this
          have hl0 : mergeL n a b = (mergeRows ra rb).flatten := by unfold mergeL; rw [if_pos hm, HRA.out.1, HRA.out.2]
          have hrows : mergeRows ra rb = [longer (ra.getD 0 []) (rb.getD 0 []), longer (ra.getD 1 []) (rb.getD 1 []), longer (ra.getD 2 []) (rb.getD 2 []), longer (ra.getD 3 []) (rb.getD 3 []), longer (ra.getD 4 []) (rb.getD 4 [])] := by
            obtain ⟨r0, r1, r2, r3, r4, e⟩ := len5 HP.out.la
            obtain ⟨s0, s1, s2, s3, s4, e'⟩ := len5 HP.out.lb
            rw [e, e']; rfl
          have htot : ∀ j, (longer (ra.getD j []) (rb.getD j [])).length ≤ 100000 := fun j => by
            unfold longer
            split
            · exact HRT.out.2 j
            · exact HRT.out.1 j
          have t0 := htot 0
          have t1 := htot 1
          have t2 := htot 2
          have t3 := htot 3
          have t4 := htot 4
          have hcell : ∀ (j : Nat) v, [mixV ra rb va vb 5 0, mixV ra rb va vb 5 1, mixV ra rb va vb 5 2, mixV ra rb va vb 5 3, mixV ra rb va vb 5 4][j]? = some v → wr.cell? ⟨X, 0 + j, none⟩ = some v := by
            intro j v hv
            rw [Nat.zero_add]
            rcases (by have := (List.getElem?_eq_some_iff.1 hv).1; simp at this; omega : j = 0 ∨ j = 1 ∨ j = 2 ∨ j = 3 ∨ j = 4) with rfl | rfl | rfl | rfl | rfl
            all_goals
              simp only [List.getElem?_cons_zero, List.getElem?_cons_succ, Option.some.injEq] at hv
              rw [← hv]
              exact HR2.out.cx _ (by omega)
          have hAll := all_sl X 0 _ _ _ _ _ _ _ _ _ _ wr (Nat.lt_of_lt_of_le HP.out.xlt HR2.out.fr.size) (HR2.out.done HP.out (j := 0) (by omega)) (HR2.out.done HP.out (j := 1) (by omega)) (HR2.out.done HP.out (j := 2) (by omega)) (HR2.out.done HP.out (j := 3) (by omega)) (HR2.out.done HP.out (j := 4) (by omega)) hcell (by omega)
          rw [← hrows, ← hl0] at hAll
          have HA := Lib.hid hAll
          have HM := Lib.hid hm
          have HEF : RowKit.Hid (Ext w wr) := Lib.hid (Below.trans (B := w.heap.size) HEW.out (HR2.out.fr.below (HEW.out.size) (fun j hj => by rw [hj]; exact hXw)))
          clear hm hl0 hrows htot t0 t1 t2 t3 t4 hcell hAll
          go_wp2_with fail
          refine HA.out.mono ?_
          rintro e W6 ⟨v6, rfl, hO, hb6⟩
          obtain ⟨q6, l6, c6, rfl⟩ := OwnR.shape3 hO
          have HO := Lib.hid hO
          have HB6 := Lib.hid hb6
          clear hO hb6
          go_wp2_with fail
          rw [Exit.noGoto_ret]
          go_ret2
          exact mergePost_some HM.out HO.out HEF.out HB6.out
        | succ g =>
          have hk5 : (k : Int) < 5 := by omega
          have hk5n : k < 5 := by omega
          have hk0 : (0 : Int) ≤ (k : Int) := by omega
          have hcx := HR2.out.cx k hk5n
          have hfx := HR2.out.fx k hk5n
          obtain ⟨hsa, hsb, hcy⟩ := mixV_sl HR2.out HP.out hk5n
          rw [show mixV ra rb va vb k k = va.getD k undef from by unfold mixV; rw [if_neg (by omega)]] at hcx
          have hvbs : RowKit.Hid (vb.getD k undef = vb.getD k undef) := Lib.hid rfl
          obtain ⟨xo, xc, hxe, hxat⟩ := hsa.open
          obtain ⟨yo, yc, hye, hyat⟩ := hsb.open
          generalize hvk : vb.getD k undef = vk at *
          rw [hxe] at hcx
          subst hye
          have HVK := Lib.hid hvk
          have HXA := Lib.hid hxat
          have HYA := Lib.hid hyat
          have hlx : (ra.getD k []).length ≤ 1000000 := by have := HRT.out.1 k; omega
          have hly : (rb.getD k []).length ≤ 1000000 := by have := HRT.out.2 k; omega
          clear hsa hsb hxe hvk hxat hyat hvbs
          generalize hxs : ra.getD k [] = xs at *
          generalize hys : rb.getD k [] = ys at *
          have HXS := Lib.hid (And.intro hxs hys)
          clear hxs hys
          go_wp2_with fail
          go_quiet (fail)
          have hE3 : Ext wr (wr.drewN nq) := _root_.Go.below_drewN (Below.refl _ _) nq
          generalize wr.drewN nq = W3 at hE3 ⊢
          have HR3 := Lib.hid (HR2.out.ext HP.out.xlt hE3)
          have HE3 := Lib.hid hE3
          have hcx3 := hE3.keep hcx
          have hcy3 := hE3.keep hcy
          clear hE3 hcx hcy HR2
          have hmin : (min (xs.length : Int) (ys.length : Int)) = ((min xs.length ys.length : Nat) : Int) := by omega
          have hmx : min xs.length ys.length ≤ xs.length := Nat.min_le_left _ _
          have hmy : min xs.length ys.length ≤ ys.length := Nat.min_le_right _ _
          have hmor : min xs.length ys.length = xs.length ∨ min xs.length ys.length = ys.length := by omega
          go_wp2_with fail
          simp only [hmin]
          clear hmin
          generalize min xs.length ys.length = M at hmx hmy hmor ⊢
          go_loopg [10, 47] M (fun g2 e s wx => ∃ q : Nat, q + g2 = M ∧ e = .int .i64 0 ∧ s = .int .i64 q ∧ Ext W3 wx ∧ ∀ (j : Nat) x y, j < q → xs[j]? = some x → ys[j]? = some y → recB x y = true)
          case atStart => exact ⟨0, by omega, rfl, rfl, Ext.refl _, fun j x y h => by omega⟩
          case round =>
            obtain ⟨q, hqg, rfl, rfl, hE4, hj⟩ := hrel
            have HJ := Lib.hid hj
            have HE4 := Lib.hid hE4
            have hcx4 := hE4.keep hcx3
            have hcy4 := hE4.keep hcy3
            have hfx4 := (HR3.out.ext HP.out.xlt hE4).fx k hk5n
            clear hj hE4 hcx3 hcy3 hfx
            cases gk with
            | zero =>
              have hqM : ¬ ((q : Int) < M) := by omega
              have hcmp : compat xs ys = true := compat_true (fun j x y hx hy => HJ.out j x y (by
                have := (List.getElem?_eq_some_iff.1 hx).1
                have := (List.getElem?_eq_some_iff.1 hy).1
                omega) hx hy)
              have HCM := Lib.hid hcmp
              have HR4 := Lib.hid (HR3.out.ext HP.out.xlt HE4.out)
              clear hcmp
              go_wp2_with fail
              go_quiet (fail)
              have hE5 : Ext wr (wr.drewN nq) := _root_.Go.below_drewN (Below.refl _ _) nq
              have hcx5 := hE5.keep hcx4
              have hcy5 := hE5.keep hcy4
              have HR5 := Lib.hid (HR4.out.ext HP.out.xlt hE5)
              have hfx5 := HR5.out.fx k hk5n
              generalize wr.drewN nq = W5 at hE5 hcx5 hcy5 hfx5 HR5 ⊢
              clear hcx4 hcy4 hfx4 hE5 HR4
              by_cases hl : xs.length < ys.length
              · have hlz : (xs.length : Int) < ys.length := by omega
                have hS := HR5.out.take hk5n (by rw [HXS.out.1, HXS.out.2]; exact HCM.out) (by rw [HXS.out.1, HXS.out.2]; exact hl)
                rw [HVK.out] at hS
                have HS5 := Lib.hid hS
                clear hS
                go_wp2_with fail
                go_roundg g
                case measure => omega
                case rel => exact ⟨k + 1, by omega, rfl, by go_num, HS5.out⟩
              · have hlz : ¬ ((xs.length : Int) < ys.length) := by omega
                have hS := HR5.out.stay hk5n (by rw [HXS.out.1, HXS.out.2]; exact HCM.out) (by rw [HXS.out.1, HXS.out.2]; exact hl)
                have HS5 := Lib.hid hS
                clear hS
                go_wp2_with fail
                go_roundg g
                case measure => omega
                case rel => exact ⟨k + 1, by omega, rfl, by go_num, HS5.out⟩
            | succ g2 =>
              have hqM : (q : Int) < M := by omega
              obtain ⟨x, hx⟩ : ∃ x, xs[q]? = some x := ⟨_, List.getElem?_eq_getElem (by omega)⟩
              obtain ⟨y, hy⟩ : ∃ y, ys[q]? = some y := ⟨_, List.getElem?_eq_getElem (by omega)⟩
              obtain ⟨b1, o1, rfl, hbl1, x0, x1, x2, x3⟩ := HXA.out q x hx
              obtain ⟨b2, o2, rfl, hbl2, y0, y1, y2, y3⟩ := HYA.out q y hy
              have hEE := HE3.out.trans HE4.out
              replace x0 := hEE.keep x0
              replace x1 := hEE.keep x1
              replace x2 := hEE.keep x2
              replace x3 := hEE.keep x3
              replace y0 := hEE.keep y0
              replace y1 := hEE.keep y1
              replace y2 := hEE.keep y2
              replace y3 := hEE.keep y3
              have hqx : (q : Int) < xs.length := by omega
              have hqy : (q : Int) < ys.length := by omega
              have hqr := neq49r x y
              have HXY := Lib.hid (And.intro hx hy)
              clear hx hy hEE
              go_wp2_with fail
              go_quiet (fail)
              have hE5 : Ext wr (wr.drewN nq) := _root_.Go.below_drewN (Below.refl _ _) nq
              have HE5 := Lib.hid (HE4.out.trans hE5)
              generalize wr.drewN nq = W5 at hE5 HE5 ⊢
              clear x0 x1 x2 x3 y0 y1 y2 y3 hqr hcx4 hcy4 hfx4 hE5
              cases hr : recB x y with
              | true =>
                go_wp2_with fail
                go_roundg g2
                case measure => omega
                case rel =>
                  refine ⟨q + 1, by omega, rfl, by go_num, HE5.out, fun j a c hj ha hc => ?_⟩
                  rcases (by omega : j < q ∨ j = q) with h | rfl
                  · exact HJ.out j a c h ha hc
                  · rw [HXY.out.1] at ha; rw [HXY.out.2] at hc; cases ha; cases hc; exact hr
              | false =>
                have hbad : compatAll ra rb = false := compatAll_false (k := k) (x := xs) (y := ys) (by
                  have := HP.out.la
                  rw [List.getElem?_eq_getElem (by omega), ← HXS.out.1, List.getD_eq_getElem?_getD, List.getElem?_eq_getElem (by omega)]; rfl) (by
                  have := HP.out.lb
                  rw [List.getElem?_eq_getElem (by omega), ← HXS.out.2, List.getD_eq_getElem?_getD, List.getElem?_eq_getElem (by omega)]; rfl) (compat_false HXY.out.1 HXY.out.2 hr)
                have hm : mergeE n a b = 8 := by
                  rw [mergeE_of HZ1.out HZ2.out, HRA.out.1, HRA.out.2, hbad]; rfl
                have hl0 : mergeL n a b = [] := by unfold mergeL; rw [hm]; rfl
                have HM := Lib.hid (And.intro hm hl0)
                have HEF : RowKit.Hid (Ext w W5) := Lib.hid (Below.trans (B := w.heap.size) HEW.out ((HR3.out.fr.below (HEW.out.size) (fun j hj => by rw [hj]; exact hXw)).trans (HE5.out.mono (Nat.le_trans HEW.out.size HR3.out.fr.size))))
                clear hm hl0 hbad
                go_wp2_with fail
                rw [Exit.noGoto_ret]
                go_ret2
                exact mergePost_none HM.out.1 HM.out.2 HEF.out
    · have hne : ((sortedP n b).2.2 != 0) = true := by simpa using he2
      have hm : mergeE n a b = (sortedP n b).2.2 := by unfold mergeE; rw [if_neg (fun q => q HZ1.out), if_pos he2]
      have hl : mergeL n a b = [] := by unfold mergeL; rw [hm, if_neg he2]
      have HM := Lib.hid (And.intro hm hl)
      clear hm hl he2
      generalize (sortedP n b).2.2 = E at *
      go_wp2_with fail
      rw [Exit.noGoto_ret]
      go_ret2
      exact mergePost_none HM.out.1 HM.out.2 (HB1.out.trans ((HE1.out.trans (Ext.trans HB2.out HE2.out)).mono (Below.size HB1.out)))
  · have hne : ((sortedP n a).2.2 != 0) = true := by simpa using he1
    have hm : mergeE n a b = (sortedP n a).2.2 := by unfold mergeE; rw [if_pos he1]
    have hl : mergeL n a b = [] := by unfold mergeL; rw [hm, if_neg he1]
    have HM := Lib.hid (And.intro hm hl)
    clear hm hl he1
    generalize (sortedP n a).2.2 = E at *
    go_wp2_with fail
    rw [Exit.noGoto_ret]
    go_ret2
    exact mergePost_none HM.out.1 HM.out.2 (HB1.out.trans (HE1.out.mono (Below.size HB1.out)))
end Go.Proofs.YtgjahnomafpnfaaGreatDoor

/- The reference's Merge. -/
namespace Go.Proofs.YtgjahnomafpnfaaGreatDoor
open Go.RowKit
theorem ofL_app (a b : List Rec) (s : Int) : ofL (a ++ b) s = ofL a s ++ ofL b s := List.filter_append ..
theorem ofL_row {n : Int} {t : Nat} {xs : List Rec} (h : RowOk n t xs) (s : Int) : ofL xs s = if s = (t : Int) then xs else [] := by
  unfold ofL
  by_cases e : s = (t : Int)
  · rw [if_pos e, List.filter_eq_self]
    intro x hx
    obtain ⟨k, hk⟩ := List.getElem?_of_mem hx
    have := (h.at_ k x hk).1
    simp [this, e]
  · rw [if_neg e, List.filter_eq_nil_iff]
    intro x hx
    obtain ⟨k, hk⟩ := List.getElem?_of_mem hx
    have := (h.at_ k x hk).1
    simp [this]; omega
theorem Book.of {n : Int} {rows : List (List Rec)} (h : Book n rows) (s : Nat) (hs : s < 5) : ofL rows.flatten s = rows.getD s [] := by
  obtain ⟨r0, r1, r2, r3, r4, rfl⟩ := len5 h.len
  have R := fun (t : Nat) xs e => ofL_row (h.row t xs e) (s : Int)
  have e0 := R 0 r0 rfl
  have e1 := R 1 r1 rfl
  have e2 := R 2 r2 rfl
  have e3 := R 3 r3 rfl
  have e4 := R 4 r4 rfl
  simp only [List.flatten_cons, List.flatten_nil, ofL_app, e0, e1, e2, e3, e4]
  rcases (by omega : s = 0 ∨ s = 1 ∨ s = 2 ∨ s = 3 ∨ s = 4) with rfl | rfl | rfl | rfl | rfl <;> simp [ofL]
theorem Book.high {n : Int} {rows : List (List Rec)} (h : Book n rows) {s : Nat} {xs : List Rec} (hx : rows[s]? = some xs) (hs : n ≤ (s : Int)) : xs = [] := by
  cases xs with
  | nil => rfl
  | cons y ys =>
    have := (h.row s _ hx).at_ 0 y rfl
    have hf := formedB_st this.2.2
    omega
theorem take_flat {rows : List (List Rec)} {k : Nat} (h : ∀ (s : Nat) xs, k ≤ s → rows[s]? = some xs → xs = []) : (rows.take k).flatten = rows.flatten := by
  conv => rhs; rw [← List.take_append_drop k rows, List.flatten_append]
  have : (rows.drop k).flatten = [] := by
    rw [List.flatten_eq_nil_iff]
    intro xs hx
    obtain ⟨i, hi⟩ := List.getElem?_of_mem hx
    rw [List.getElem?_drop] at hi
    exact h (k + i) xs (by omega) hi
  rw [this, List.append_nil]
theorem take_succ_flat {rows : List (List Rec)} {k : Nat} {xs : List Rec} (h : rows[k]? = some xs) : (rows.take (k + 1)).flatten = (rows.take k).flatten ++ xs := by
  rw [List.take_add_one, h, List.flatten_append]; simp
theorem mergeRows_le' : ∀ (xs ys : List (List Rec)), (mergeRows xs ys).flatten.length ≤ xs.flatten.length + ys.flatten.length
  | [], _ => by simp [mergeRows]
  | _ :: _, [] => by simp [mergeRows]
  | x :: xs, y :: ys => by
    have := mergeRows_le' xs ys
    simp only [mergeRows, List.flatten_cons, List.length_append]
    have h : (longer x y).length ≤ x.length + y.length := by unfold longer; split <;> omega
    omega
theorem take_flat_le (rows : List (List Rec)) (k : Nat) : (rows.take k).flatten.length ≤ rows.flatten.length := by
  conv => rhs; rw [← List.take_append_drop k rows, List.flatten_append, List.length_append]
  omega
def MergeRPost (n : Int) (a b : List Rec) (w : World) (e : Ending) (w' : World) : Prop :=
  Ext w w' ∧ ∃ v, e = .returned (.tuple #[v, .int .i64 (mergeE n a b)]) ∧ SlR w' v (mergeL n a b)
theorem mergeRPost_none {n : Int} {a b : List Rec} {w w' : World} {E : Int} (h : mergeE n a b = E) (hl : mergeL n a b = []) (hE : Ext w w') : MergeRPost n a b w (.returned (.tuple #[.slice none 0 0, .int .i64 E])) w' :=
  ⟨hE, .slice none 0 0, by rw [h], by rw [hl]; exact .inl ⟨rfl, rfl⟩⟩
set_option maxHeartbeats 1600000 in
set_option maxRecDepth 100000 in
theorem MergeR_any (n : Int) (v u : Value) (a b : List Rec) (w : World) (hv : SlR w v a) (hu : SlR w u b) (ha : a.length ≤ 10000) (hb : b.length ≤ 10000) (hta : ∀ x ∈ a, x.txt.size ≤ 1000000) (htb : ∀ x ∈ b, x.txt.size ≤ 1000000) :
    Calls Tryz.prog 65 #[.int .i64 n, v, u] w (MergeRPost n a b w) := by
  have hk1 := CheckRecordsR_any n v a w hv (by omega) hta
  have hk2 := fun (W : World) (h : Ext w W) => CheckRecordsR_any n u b W (hu.ext h) (by omega) htb
  rw [← check_same] at hk1 hk2
  have HK1 := Lib.hid hk1
  have HK2 := Lib.hid hk2
  have HV := Lib.hid hv
  have HU := Lib.hid hu
  clear hv hu hta htb hk1 hk2
  go_enter Tryz.func65, Tryz.ntmps65
  go_wp2_with fail
  refine HK1.out.mono ?_
  rintro e w1 ⟨rfl, hE1⟩
  have HE1 := Lib.hid hE1
  clear hE1
  by_cases he1 : (sortedP n a).2.2 = 0
  · have HZ1 := Lib.hid he1
    rw [he1]
    clear he1
    generalize (sortedP n a).2.1 = ia at *
    go_wp2_with fail
    refine (HK2.out w1 HE1.out).mono ?_
    rintro e w2 ⟨rfl, hE2⟩
    have HE2 := Lib.hid (HE1.out.trans hE2)
    clear hE2
    by_cases he2 : (sortedP n b).2.2 = 0
    · have HZ2 := Lib.hid he2
      rw [he2]
      clear he2
      generalize (sortedP n b).2.1 = ib at *
      obtain ⟨hn, ba, fa⟩ := sorted_book HZ1.out
      obtain ⟨_, bb, fb⟩ := sorted_book HZ2.out
      obtain ⟨N, rfl⟩ : ∃ N : Nat, n = (N : Int) := ⟨n.toNat, by omega⟩
      have hN : 2 ≤ N ∧ N ≤ 5 := by omega
      have hN2 := hN.2
      have HBA := Lib.hid (And.intro ba fa)
      have HBB := Lib.hid (And.intro bb fb)
      have hoa := fun (s : Nat) (hs : s < 5) => ba.of s hs
      have hob := fun (s : Nat) (hs : s < 5) => bb.of s hs
      rw [fa] at hoa
      rw [fb] at hob
      have HOA := Lib.hid hoa
      have HOB := Lib.hid hob
      have HM := Lib.hid (ba.merge bb)
      have hme : mergeE N a b = if compatAll (sortedP N a).1 (sortedP N b).1 then 0 else 8 := mergeE_of HZ1.out HZ2.out
      have HME := Lib.hid hme
      have HLA := Lib.hid (And.intro ba.len bb.len)
      have hml := mergeRows_le' (sortedP N a).1 (sortedP N b).1
      rw [fa, fb] at hml
      have HML := Lib.hid (fun k => Nat.le_trans (take_flat_le (mergeRows (sortedP N a).1 (sortedP N b).1) k) hml)
      clear ba fa bb fb hoa hob hme hn hN hml
      generalize hra : (sortedP N a).1 = ra at *
      generalize hrb : (sortedP N b).1 = rb at *
      have HR := Lib.hid (And.intro hra hrb)
      clear hra hrb
      go_wp2_with fail
      go_loopw [12, 13] (fun o s wr => ∃ k : Nat, k ≤ N ∧ s = .int .i64 k ∧ Ext w wr ∧ OwnR wr w.heap.size o (((mergeRows ra rb).take k).flatten) ∧ ∀ j, j < k → compat (ra.getD j []) (rb.getD j []) = true) (fun _ s _ => N - (intOf s).toNat)
      case atStart => exact ⟨0, by omega, rfl, HE2.out, World.ownsRow_nil _ _ _ _, fun j h => by omega⟩
      case round =>
        obtain ⟨k, hk, rfl, hE, hO, hcmp⟩ := hrel
        obtain ⟨oa, om, oc, rfl⟩ := OwnR.shape3 hO
        have HE := Lib.hid hE
        have HO := Lib.hid hO
        have HC := Lib.hid hcmp
        clear hE hO hcmp
        by_cases hlt : k < N
        · have hltz : (k : Int) < N := by omega
          have HF1 := Lib.hid (fun (W : World) (h : Ext w W) => ofR_any v a k W (HV.out.ext h) (by omega))
          have HF2 := Lib.hid (fun (W : World) (h : Ext w W) => ofR_any u b k W (HU.out.ext h) (by omega))
          have hxe := HOA.out k (by omega)
          have hye := HOB.out k (by omega)
          rw [hxe] at HF1
          rw [hye] at HF2
          have hlx : (ra.getD k []).length ≤ 10000 := by rw [← hxe]; exact Nat.le_trans (List.length_filter_le _ _) ha
          have hly : (rb.getD k []).length ≤ 10000 := by rw [← hye]; exact Nat.le_trans (List.length_filter_le _ _) hb
          clear hxe hye
          generalize hxs : ra.getD k [] = xs at *
          generalize hys : rb.getD k [] = ys at *
          have HXS := Lib.hid (And.intro hxs hys)
          clear hxs hys
          go_wp2_with fail
          refine (HF1.out wr HE.out).mono ?_
          rintro e w3 ⟨v3, rfl, hO3, hE3⟩
          have HE3 := Lib.hid (HE.out.trans hE3)
          have HO3 := Lib.hid hO3.slR
          have HOo := Lib.hid (HO.out.ext hE3)
          obtain ⟨xa, xc, rfl⟩ := OwnR.shape hO3
          clear hO3 hE3
          go_wp2_with fail
          refine (HF2.out w3 HE3.out).mono ?_
          rintro e w4 ⟨v4, rfl, hO4, hE4⟩
          have HE4 := Lib.hid (HE3.out.trans hE4)
          have HS4 := Lib.hid hO4.slR
          have HS3 := Lib.hid (HO3.out.ext hE4)
          have HOp := Lib.hid (HOo.out.ext hE4)
          obtain ⟨ya, yc, rfl⟩ := OwnR.shape hO4
          clear hO4 hE4
          go_wp2_with fail
          go_loopw [16] (fun i wx => ∃ q : Nat, q ≤ xs.length ∧ q ≤ ys.length ∧ i = .int .i64 q ∧ Ext w4 wx ∧ ∀ (j : Nat) x y, j < q → xs[j]? = some x → ys[j]? = some y → recB x y = true) (fun i _ => xs.length - (intOf i).toNat)
          case atStart => exact ⟨0, by omega, by omega, rfl, Ext.refl _, fun j x y h => by omega⟩
          case round =>
            obtain ⟨q, hqx, hqy, rfl, hE5, hj⟩ := hrel
            have HJ := Lib.hid hj
            have HE5 := Lib.hid hE5
            clear hj
            by_cases hin : q < xs.length ∧ q < ys.length
            · obtain ⟨h1, h2⟩ := hin
              have h1z : (q : Int) < xs.length := by omega
              have h2z : (q : Int) < ys.length := by omega
              obtain ⟨x, hx⟩ : ∃ x, xs[q]? = some x := ⟨_, List.getElem?_eq_getElem (by omega)⟩
              obtain ⟨y, hy⟩ : ∃ y, ys[q]? = some y := ⟨_, List.getElem?_eq_getElem (by omega)⟩
              obtain ⟨xo, xc', hxe, hxat⟩ := HS3.out.open
              obtain ⟨yo, yc', hye, hyat⟩ := HS4.out.open
              simp only [Value.slice.injEq] at hxe hye
              obtain ⟨b1, o1, hx1, hbl1, x0, x1, x2, x3⟩ := hxat q x hx
              obtain ⟨b2, o2, hy1, hbl2, y0, y1, y2, y3⟩ := hyat q y hy
              obtain rfl : xa = some ⟨b1, o1, none⟩ := hxe.1.trans hx1
              obtain rfl : ya = some ⟨b2, o2, none⟩ := hye.1.trans hy1
              replace x0 := hE5.keep x0
              replace x1 := hE5.keep x1
              replace x2 := hE5.keep x2
              replace x3 := hE5.keep x3
              replace y0 := hE5.keep y0
              replace y1 := hE5.keep y1
              replace y2 := hE5.keep y2
              replace y3 := hE5.keep y3
              have hqr := neq49r x y
              have HXY := Lib.hid (And.intro hx hy)
              clear hx hy hE5 hxe hye hxat hyat hx1 hy1
              go_wp2_with fail
              go_quiet (fail)
              have hE6 : Ext wr (wr.drewN nq) := _root_.Go.below_drewN (Below.refl _ _) nq
              have HE6 := Lib.hid (HE5.out.trans hE6)
              generalize wr.drewN nq = W5 at hE6 HE6 ⊢
              clear x0 x1 x2 x3 y0 y1 y2 y3 hqr hE6
              cases hr : recB x y with
              | true =>
                go_wp2_with fail
                go_roundw
                case rel =>
                  refine ⟨q + 1, by omega, by omega, by go_num, HE6.out, fun j a c hj ha hc => ?_⟩
                  rcases (by omega : j < q ∨ j = q) with h | rfl
                  · exact HJ.out j a c h ha hc
                  · rw [HXY.out.1] at ha; rw [HXY.out.2] at hc; cases ha; cases hc; exact hr
                case measure => simp [intOf]; omega
              | false =>
                have hbad : compatAll ra rb = false := compatAll_false (k := k) (x := xs) (y := ys) (by
                  have := HLA.out.1
                  rw [List.getElem?_eq_getElem (by omega), ← HXS.out.1, List.getD_eq_getElem?_getD, List.getElem?_eq_getElem (by omega)]; rfl) (by
                  have := HLA.out.2
                  rw [List.getElem?_eq_getElem (by omega), ← HXS.out.2, List.getD_eq_getElem?_getD, List.getElem?_eq_getElem (by omega)]; rfl) (compat_false HXY.out.1 HXY.out.2 hr)
                have hm : mergeE N a b = 8 := by rw [HME.out, hbad]; rfl
                have hl0 : mergeL N a b = [] := by unfold mergeL; rw [hm]; rfl
                have HMM := Lib.hid (And.intro hm hl0)
                clear hbad hm hl0
                go_wp2_with fail
                go_ret2
                exact mergeRPost_none HMM.out.1 HMM.out.2 (HE4.out.trans HE6.out)
            · have hcp : compat xs ys = true := compat_true (fun j x y hx hy => HJ.out j x y (by
                have := (List.getElem?_eq_some_iff.1 hx).1
                have := (List.getElem?_eq_some_iff.1 hy).1
                omega) hx hy)
              have HCP := Lib.hid hcp
              have HOr := Lib.hid (HOp.out.ext hE5)
              have HS3r := Lib.hid (HS3.out.ext hE5)
              have HS4r := Lib.hid (HS4.out.ext hE5)
              have HEr := Lib.hid (HE4.out.trans hE5)
              have hkl : (mergeRows ra rb)[k]? = some (longer xs ys) := by
                rw [← HXS.out.1, ← HXS.out.2]
                refine mergeRows_get ra rb k _ _ ?_ ?_
                · have := HLA.out.1
                  rw [List.getElem?_eq_getElem (by omega), List.getD_eq_getElem?_getD, List.getElem?_eq_getElem (by omega)]; rfl
                · have := HLA.out.2
                  rw [List.getElem?_eq_getElem (by omega), List.getD_eq_getElem?_getD, List.getElem?_eq_getElem (by omega)]; rfl
              have HKL := Lib.hid (take_succ_flat hkl)
              have hml := HML.out k
              have hmsz := HEr.out.size
              clear hcp hE5 hkl
              by_cases h1 : q < xs.length
              · have h1z : (q : Int) < xs.length := by omega
                have h2z : ¬ ((q : Int) < ys.length) := by omega
                by_cases hl : xs.length < ys.length
                · have hlz : (xs.length : Int) < ys.length := by omega
                  have HLO : RowKit.Hid (longer xs ys = ys) := Lib.hid (by unfold longer; rw [if_pos hl])
                  go_wp2_with (at_builtin; refine wpList_appS rfl (.tmp 73) (.tmp 74) rfl w.heap.size _ _ _ ys HOr.out rfl rfl HS4r.out (by omega) hmsz ?_)
                  intro v' w5 hO5 _ hb5
                  have HO5 := Lib.hid hO5
                  have HE5 := Lib.hid (Below.trans (B := w.heap.size) HEr.out hb5)
                  obtain ⟨a5, m5, c5, rfl⟩ := OwnR.shape3 hO5
                  clear hO5 hb5
                  go_wp2_with fail
                  go_roundw
                  case rel => exact ⟨k + 1, by omega, by go_num, HE5.out, by rw [HKL.out, HLO.out]; exact HO5.out, fun j hj => by
                    rcases (by omega : j < k ∨ j = k) with h | rfl
                    · exact HC.out j h
                    · rw [HXS.out.1, HXS.out.2]; exact HCP.out⟩
                  case measure => simp [intOf]; omega
                · have hlz : ¬ ((xs.length : Int) < ys.length) := by omega
                  have HLO : RowKit.Hid (longer xs ys = xs) := Lib.hid (by unfold longer; rw [if_neg hl])
                  go_wp2_with (at_builtin; refine wpList_appS rfl (.tmp 73) (.tmp 74) rfl w.heap.size _ _ _ xs HOr.out rfl rfl HS3r.out (by omega) hmsz ?_)
                  intro v' w5 hO5 _ hb5
                  have HO5 := Lib.hid hO5
                  have HE5 := Lib.hid (Below.trans (B := w.heap.size) HEr.out hb5)
                  obtain ⟨a5, m5, c5, rfl⟩ := OwnR.shape3 hO5
                  clear hO5 hb5
                  go_wp2_with fail
                  go_roundw
                  case rel => exact ⟨k + 1, by omega, by go_num, HE5.out, by rw [HKL.out, HLO.out]; exact HO5.out, fun j hj => by
                    rcases (by omega : j < k ∨ j = k) with h | rfl
                    · exact HC.out j h
                    · rw [HXS.out.1, HXS.out.2]; exact HCP.out⟩
                  case measure => simp [intOf]; omega
              · have h1z : ¬ ((q : Int) < xs.length) := by omega
                by_cases hl : xs.length < ys.length
                · have hlz : (xs.length : Int) < ys.length := by omega
                  have HLO : RowKit.Hid (longer xs ys = ys) := Lib.hid (by unfold longer; rw [if_pos hl])
                  go_wp2_with (at_builtin; refine wpList_appS rfl (.tmp 73) (.tmp 74) rfl w.heap.size _ _ _ ys HOr.out rfl rfl HS4r.out (by omega) hmsz ?_)
                  intro v' w5 hO5 _ hb5
                  have HO5 := Lib.hid hO5
                  have HE5 := Lib.hid (Below.trans (B := w.heap.size) HEr.out hb5)
                  obtain ⟨a5, m5, c5, rfl⟩ := OwnR.shape3 hO5
                  clear hO5 hb5
                  go_wp2_with fail
                  go_roundw
                  case rel => exact ⟨k + 1, by omega, by go_num, HE5.out, by rw [HKL.out, HLO.out]; exact HO5.out, fun j hj => by
                    rcases (by omega : j < k ∨ j = k) with h | rfl
                    · exact HC.out j h
                    · rw [HXS.out.1, HXS.out.2]; exact HCP.out⟩
                  case measure => simp [intOf]; omega
                · have hlz : ¬ ((xs.length : Int) < ys.length) := by omega
                  have HLO : RowKit.Hid (longer xs ys = xs) := Lib.hid (by unfold longer; rw [if_neg hl])
                  go_wp2_with (at_builtin; refine wpList_appS rfl (.tmp 73) (.tmp 74) rfl w.heap.size _ _ _ xs HOr.out rfl rfl HS3r.out (by omega) hmsz ?_)
                  intro v' w5 hO5 _ hb5
                  have HO5 := Lib.hid hO5
                  have HE5 := Lib.hid (Below.trans (B := w.heap.size) HEr.out hb5)
                  obtain ⟨a5, m5, c5, rfl⟩ := OwnR.shape3 hO5
                  clear hO5 hb5
                  go_wp2_with fail
                  go_roundw
                  case rel => exact ⟨k + 1, by omega, by go_num, HE5.out, by rw [HKL.out, HLO.out]; exact HO5.out, fun j hj => by
                    rcases (by omega : j < k ∨ j = k) with h | rfl
                    · exact HC.out j h
                    · rw [HXS.out.1, HXS.out.2]; exact HCP.out⟩
                  case measure => simp [intOf]; omega
        · have hltz : ¬ ((k : Int) < N) := by omega
          obtain rfl : k = N := by omega
          have hfl : ((mergeRows ra rb).take k).flatten = (mergeRows ra rb).flatten := take_flat (fun s xs hs hx => HM.out.high hx (by omega))
          have hm : mergeE k a b = 0 := by
            rw [HME.out, compatAll_true (fun j x y hx hy => ?_)]
            · rfl
            · rcases Nat.lt_or_ge j k with h | h
              · have := HC.out j h
                rwa [getD_some hx, getD_some hy] at this
              · have := HBA.out.1.high hx (by omega)
                rw [this]; rfl
          have hl0 : mergeL k a b = ((mergeRows ra rb).take k).flatten := by unfold mergeL; rw [if_pos hm, HR.out.1, HR.out.2, hfl]
          have HMM := Lib.hid (And.intro hm hl0)
          clear hfl hm hl0
          go_wp2_with fail
          go_ret2
          exact ⟨HE.out, _, by rw [HMM.out.1]; rfl, by rw [HMM.out.2]; exact HO.out.slR⟩
    · have hne : ((sortedP n b).2.2 != 0) = true := by simpa using he2
      have hm : mergeE n a b = (sortedP n b).2.2 := by unfold mergeE; rw [if_neg (fun q => q HZ1.out), if_pos he2]
      have hl : mergeL n a b = [] := by unfold mergeL; rw [hm, if_neg he2]
      have HM := Lib.hid (And.intro hm hl)
      clear hm hl he2
      generalize (sortedP n b).2.2 = E at *
      generalize (sortedP n b).2.1 = I at *
      go_wp2_with fail
      go_ret2
      exact mergeRPost_none HM.out.1 HM.out.2 HE2.out
  · have hne : ((sortedP n a).2.2 != 0) = true := by simpa using he1
    have hm : mergeE n a b = (sortedP n a).2.2 := by unfold mergeE; rw [if_pos he1]
    have hl : mergeL n a b = [] := by unfold mergeL; rw [hm, if_neg he1]
    have HM := Lib.hid (And.intro hm hl)
    clear hm hl he1
    generalize (sortedP n a).2.2 = E at *
    generalize (sortedP n a).2.1 = I at *
    go_wp2_with fail
    go_ret2
    exact mergeRPost_none HM.out.1 HM.out.2 HE1.out
end Go.Proofs.YtgjahnomafpnfaaGreatDoor

/- Until, Lacks, StockOf: the walks. -/
namespace Go.Proofs.YtgjahnomafpnfaaGreatDoor
open Go.RowKit
/-- What Until comes to. -/
def UntilPost (n : Int) (xs : List Rec) (hour : Int) (w : World) (e : Ending) (w' : World) : Prop :=
  Ext w w' ∧ ∃ v, e = .returned (.tuple #[v, .int .i64 (sortedP n xs).2.2]) ∧ SlW w' w.heap.size v (if (sortedP n xs).2.2 = 0 then upTo hour xs else [])
theorem SlW.mono {w : World} {base b' : Nat} {v : Value} {xs : List Rec} (h : SlW w base v xs) (hb : b' ≤ base) : SlW w b' v xs := by
  rcases h with q | ⟨g, cap, q1, q2, q3⟩
  · exact .inl q
  · exact .inr ⟨g, cap, q1, by omega, q3⟩
set_option maxHeartbeats 800000 in
set_option maxRecDepth 100000 in
theorem Until_any (n : Int) (v : Value) (xs : List Rec) (hour : Int) (w : World) (h : SlR w v xs) (hn : xs.length ≤ 100000) :
    Calls Tryz.prog 28 #[.int .i64 n, v, .int .i64 hour] w (UntilPost n xs hour w) := by
  obtain ⟨a, m, c, rfl⟩ : ∃ a m c, v = .slice a m c := by
    obtain ⟨a, c, e⟩ := h.shape
    exact ⟨a, _, c, e⟩
  have hE : Ext w (w.alloc (.cells #[.int .i64 hour] 3)) := Ext.alloc _ _
  have HE := Lib.hid hE
  have HH := Lib.hid h
  have hc0 : (w.alloc (.cells #[.int .i64 hour] 3)).cell? ⟨w.heap.size, 0, none⟩ = some (.int .i64 hour) := by rw [World.cell?_alloc_new]; rfl
  have HC0 := Lib.hid hc0
  have hz : (w.alloc (.cells #[.int .i64 hour] 3)).heap.size = w.heap.size + 1 := by simp
  have HZ := Lib.hid hz
  clear h hE hc0 hz
  go_enter Tryz.func28, Tryz.ntmps28
  go_wp2_with fail
  generalize w.alloc (.cells #[.int .i64 hour] 3) = w1 at HE HC0 HZ ⊢
  refine (CheckRecords_any n _ xs w1 (HH.out.ext HE.out) hn).mono ?_
  rintro e w2 ⟨rfl, hb2⟩
  have HB2 := Lib.hid hb2
  by_cases he : (sortedP n xs).2.2 = 0
  · have hc := Clone_any _ xs w2 ((HH.out.ext HE.out).ext hb2) (by omega)
    have HC := Lib.hid hc
    have HQ : RowKit.Hid ((sortedP n xs).2.2 = 0) := Lib.hid he
    rw [he]
    clear hc hb2 he
    go_wp2_with fail
    refine HC.out.mono ?_
    rintro e w3 ⟨v3, rfl, ho, hb3⟩
    obtain ⟨a3, m3, c3, rfl⟩ := OwnR.shape3 ho
    have hw := (OwnR.slW ho).mono (show w.heap.size + 1 ≤ w2.heap.size by have := HB2.out.size; have := HZ.out; omega)
    have hb13 : Below (w.heap.size + 1) w1 w3 := by
      have := HZ.out
      rw [← this]
      exact Below.trans (B := w1.heap.size) HB2.out (hb3.mono HB2.out.size)
    have HW := Lib.hid (And.intro hw hb13)
    have HB3 := Lib.hid hb3
    clear ho hw hb13 hb3
    go_wp2_with fail
    refine (DeleteFunc_any (w.heap.size + 1) w1 86 enters86 (.pointer (some ⟨w.heap.size, 0, none⟩)) (laterB hour) _ xs (fun wr x hxm hB hbr => later_any w.heap.size hour x wr ((hbr.cell (p := ⟨w.heap.size, 0, none⟩) (by simp)).trans HC0.out)) w3 HW.out.1 (by have := HW.out.2.size; have := HZ.out; omega) HW.out.2 (by omega)).mono ?_
    rintro e w4 ⟨v4, rfl, h4, hb4⟩
    obtain ⟨a4, m4, c4, rfl⟩ := h4.shape3
    have H4 := Lib.hid (And.intro h4 hb4)
    clear h4 hb4
    go_wp2_with fail
    go_ret2
    refine ⟨?_, _, by rw [HQ.out]; rfl, ?_⟩
    · have := HZ.out
      exact Ext.trans HE.out (by
        show Below w1.heap.size w1 w4
        rw [HZ.out]
        exact HW.out.2.trans (H4.out.2))
    · rw [if_pos HQ.out]
      exact H4.out.1.mono (by omega)
  · have hne : ((sortedP n xs).2.2 != 0) = true := by simpa using he
    have HQ : RowKit.Hid ((sortedP n xs).2.2 ≠ 0) := Lib.hid he
    clear hb2 he
    generalize hE2 : (sortedP n xs).2.2 = E at *
    have HE2 := Lib.hid hE2
    clear hE2
    go_wp2_with fail
    go_ret2
    refine ⟨Ext.trans HE.out HB2.out, .slice none 0 0, by rw [HE2.out]; rfl, ?_⟩
    rw [HE2.out, if_neg HQ.out]
    exact .inl ⟨rfl, rfl⟩
end Go.Proofs.YtgjahnomafpnfaaGreatDoor

/- The law PostMerging: its walk. -/
namespace Go.Proofs.YtgjahnomafpnfaaGreatDoor
open Go.RowKit
theorem mergeRows_le : ∀ (xs ys : List (List Rec)), (mergeRows xs ys).flatten.length ≤ xs.flatten.length + ys.flatten.length
  | [], _ => by simp [mergeRows]
  | _ :: _, [] => by simp [mergeRows]
  | x :: xs, y :: ys => by
    have := mergeRows_le xs ys
    simp only [mergeRows, List.flatten_cons, List.length_append]
    have h : (longer x y).length ≤ x.length + y.length := by unfold longer; split <;> omega
    omega
theorem mergeL_le (n : Int) (a b : List Rec) : (mergeL n a b).length ≤ a.length + b.length := by
  unfold mergeL
  split
  · rename_i h
    obtain ⟨h1, h2, _⟩ := mergeE_ok h
    have := mergeRows_le (sortedP n a).1 (sortedP n b).1
    rw [(sorted_book h1).2.2, (sorted_book h2).2.2] at this
    exact this
  · simp
theorem upTo_le (hour : Int) (a : List Rec) : (upTo hour a).length ≤ a.length := List.length_filter_le _ _
theorem sameB_self (a : List Rec) : sameB a a = true := (sameB_iff a a).2 rfl
theorem Few_same (v : Value) (xs : List Rec) (most : Nat) (hm : most ≤ 1000) (w : World) (hv : SlR w v xs) :
    Calls Tryz.prog 24 #[v, .int .i64 most] w fun e w' => e = .returned (.bool (fewB xs most)) ∧ w = w' := (Few_any v xs most hm w hv).mono fun _ _ ⟨h, h'⟩ => ⟨h, h'.symm⟩
theorem fewB_no {xs : List Rec} {m : Nat} (h : ¬ fewB xs m = true) : fewB xs m = false := by simpa using h
set_option maxHeartbeats 1600000 in
set_option maxRecDepth 100000 in
theorem PostMerging_any {B : Nat} {w : World} (hL : Laid B w) (n : Int) (va vb vc : Value) (a b c : List Rec) (hour : Int) (ha : SlR w va a) (hb : SlR w vb b) (hc : SlR w vc c) :
    Calls Tryz.prog 14 #[.int .i64 n, va, vb, vc, .int .i64 hour] w fun e w' => e = .returned (.bool true) ∧ Ext w w' := by
  have HFa := Lib.hid (Few_same va a 40 (by omega) w ha)
  have HFb := Lib.hid (Few_same vb b 40 (by omega) w hb)
  have HFc := Lib.hid (Few_same vc c 40 (by omega) w hc)
  have HA := Lib.hid ha
  have HB := Lib.hid hb
  have HC := Lib.hid hc
  have HAL := Lib.hid (fun (W : World) (h : Ext w W) => alive_any (hL.ext h))
  clear hL ha hb hc
  by_cases f1 : fewB a 40 = true
  · by_cases f2 : fewB b 40 = true
    · by_cases f3 : fewB c 40 = true
      · rw [f1] at HFa
        rw [f2] at HFb
        rw [f3] at HFc
        have hla := ((fewB_iff _ _).1 f1).1
        have hlb := ((fewB_iff _ _).1 f2).1
        have hlc := ((fewB_iff _ _).1 f3).1
        clear f1 f2 f3
        go_enter Tryz.func14, Tryz.ntmps14
        go_wp2_with (first | (go_at_call_of 24 va; refine HFa.out.mono ?_; rintro e w' ⟨rfl, rfl⟩) | (go_at_call_of 24 vb; refine HFb.out.mono ?_; rintro e w' ⟨rfl, rfl⟩) | (go_at_call_of 24 vc; refine HFc.out.mono ?_; rintro e w' ⟨rfl, rfl⟩))
        refine (CheckRecords_any n va a w HA.out (by omega)).mono ?_
        rintro e w1 ⟨rfl, hb1⟩
        have HE1 : RowKit.Hid (Ext w w1) := Lib.hid hb1
        clear hb1
        by_cases he : (sortedP n a).2.2 = 0
        · have HQ : RowKit.Hid ((sortedP n a).2.2 = 0) := Lib.hid he
          rw [he]
          clear he
          have HM1 := Lib.hid (merge_self HQ.out)
          have HM3 := Lib.hid (merge_until HQ.out hour)
          have hul := upTo_le hour a
          go_wp2_with fail
          refine (Merge_any n va va a a w1 (HA.out.ext HE1.out) (HA.out.ext HE1.out) (by omega) (by omega)).mono ?_
          rintro e w2 ⟨hE2, v2, rfl, hs2, _⟩
          rw [HM1.out.1]
          rw [HM1.out.2] at hs2
          have HE2 := Lib.hid (HE1.out.trans hE2)
          have HS2 := Lib.hid hs2
          clear hE2 hs2
          go_wp2_with fail
          refine (Until_any n va a hour w2 (HA.out.ext HE2.out) (by omega)).mono ?_
          rintro e w3 ⟨hE3, v3, rfl, hs3⟩
          rw [HQ.out]
          rw [if_pos HQ.out] at hs3
          have HE3 := Lib.hid (HE2.out.trans hE3)
          have HS3 := Lib.hid hs3.slR
          have HS2b := Lib.hid (HS2.out.ext hE3)
          clear hE3 hs3
          go_wp2_with fail
          refine (Merge_any n v3 va (upTo hour a) a w3 HS3.out (HA.out.ext HE3.out) (by omega) (by omega)).mono ?_
          rintro e w4 ⟨hE4, v4, rfl, hs4, _⟩
          rw [HM3.out.1]
          rw [HM3.out.2] at hs4
          have HE4 := Lib.hid (HE3.out.trans hE4)
          have HS4 := Lib.hid hs4
          have HS2c := Lib.hid (HS2b.out.ext hE4)
          clear hE4 hs4
          go_wp2_with fail
          refine (Same_any v2 va a a w4 HS2c.out (HA.out.ext HE4.out) (by omega) (by omega)).mono ?_
          rintro e w5 ⟨rfl, hE5⟩
          rw [sameB_self]
          have HE5 := Lib.hid (HE4.out.trans hE5)
          have HS4b := Lib.hid (HS4.out.ext hE5)
          clear hE5
          go_wp2_with fail
          refine (Same_any v4 va a a w5 HS4b.out (HA.out.ext HE5.out) (by omega) (by omega)).mono ?_
          rintro e w6 ⟨rfl, hE6⟩
          rw [sameB_self]
          have HE6 := Lib.hid (HE5.out.trans hE6)
          clear hE6
          go_wp2_with fail
          refine (Merge_any n va vb a b w6 (HA.out.ext HE6.out) (HB.out.ext HE6.out) (by omega) (by omega)).mono ?_
          rintro e w7 ⟨hE7, v7, rfl, hs7, _⟩
          have HE7 := Lib.hid (HE6.out.trans hE7)
          have HS7 := Lib.hid hs7
          clear hE7 hs7
          go_wp2_with fail
          refine (Merge_any n vb va b a w7 (HB.out.ext HE7.out) (HA.out.ext HE7.out) (by omega) (by omega)).mono ?_
          rintro e w8 ⟨hE8, v8, rfl, hs8, _⟩
          rw [← (merge_comm n a b).2] at hs8
          have HE8 := Lib.hid (HE7.out.trans hE8)
          have HS8 := Lib.hid hs8
          have HS7b := Lib.hid (HS7.out.ext hE8)
          have hmc := (merge_comm n a b).1
          have hll := mergeL_le n a b
          have hll2 := mergeL_le n b c
          clear hE8 hs8
          by_cases h1 : mergeE n a b = 0
          · have h2 : mergeE n b a = 0 := hmc.1 h1
            have HM7 := Lib.hid h1
            rw [h1, h2]
            clear h1 h2 hmc
            go_wp2_with fail
            refine (Same_any v7 v8 _ _ w8 HS7b.out HS8.out (by omega) (by omega)).mono ?_
            rintro e w9 ⟨rfl, hE9⟩
            rw [sameB_self]
            have HE9 := Lib.hid (HE8.out.trans hE9)
            have HS7c := Lib.hid (HS7b.out.ext hE9)
            clear hE9
            go_wp2_with fail
            refine (Merge_any n vb vc b c w9 (HB.out.ext HE9.out) (HC.out.ext HE9.out) (by omega) (by omega)).mono ?_
            rintro e w10 ⟨hE10, v10, rfl, hs10, _⟩
            have HE10 := Lib.hid (HE9.out.trans hE10)
            have HS10 := Lib.hid hs10
            have HS7d := Lib.hid (HS7c.out.ext hE10)
            clear hE10 hs10
            by_cases h3 : mergeE n b c = 0
            · have HM10 := Lib.hid h3
              have HT := Lib.hid (merge_three HM7.out h3)
              rw [h3]
              clear h3
              go_wp2_with fail
              refine (Merge_any n v7 vc (mergeL n a b) c w10 HS7d.out (HC.out.ext HE10.out) (by omega) (by omega)).mono ?_
              rintro e w11 ⟨hE11, v11, rfl, hs11, _⟩
              have HE11 := Lib.hid (HE10.out.trans hE11)
              have HS11 := Lib.hid hs11
              have HS10b := Lib.hid (HS10.out.ext hE11)
              clear hE11 hs11
              go_wp2_with fail
              refine (Merge_any n va v10 a (mergeL n b c) w11 (HA.out.ext HE11.out) HS10b.out (by omega) (by omega)).mono ?_
              rintro e w12 ⟨hE12, v12, rfl, hs12, _⟩
              rw [← HT.out.1]
              rw [← HT.out.2] at hs12
              have HE12 := Lib.hid (HE11.out.trans hE12)
              have HS12 := Lib.hid hs12
              have HS11b := Lib.hid (HS11.out.ext hE12)
              have hl11 := mergeL_le n (mergeL n a b) c
              clear hE12 hs12
              generalize mergeE n (mergeL n a b) c = E at *
              go_wp2_with fail
              refine (HAL.out w12 HE12.out).mono ?_
              rintro e w13 ⟨rfl, hE13⟩
              have HE13 := Lib.hid (HE12.out.trans hE13)
              have HS12b := Lib.hid (HS12.out.ext hE13)
              have HS11c := Lib.hid (HS11b.out.ext hE13)
              clear hE13
              go_wp2_with fail
              refine (Same_any v11 v12 _ _ w13 HS11c.out HS12b.out (by omega) (by omega)).mono ?_
              rintro e w14 ⟨rfl, hE14⟩
              rw [sameB_self]
              have HE14 := Lib.hid (HE13.out.trans hE14)
              clear hE14
              go_wp2_with fail
              go_ret
              exact ⟨rfl, HE14.out⟩
            · have hne : (mergeE n b c != 0) = true := by simpa using h3
              clear h3
              generalize mergeE n b c = E at *
              go_wp2_with fail
              refine (HAL.out w10 HE10.out).mono ?_
              rintro e w13 ⟨rfl, hE13⟩
              have HE13 := Lib.hid (HE10.out.trans hE13)
              clear hE13
              go_wp2_with fail
              go_ret
              exact ⟨rfl, HE13.out⟩
          · have h2 : ¬ mergeE n b a = 0 := fun q => h1 (hmc.2 q)
            have hne1 : (mergeE n a b == 0) = false := by simpa using h1
            have hne2 : (mergeE n b a == 0) = false := by simpa using h2
            have hne3 : (mergeE n a b != 0) = true := by simpa using h1
            clear h1 h2 hmc
            generalize mergeE n a b = E1 at *
            generalize mergeE n b a = E2 at *
            go_wp2_with fail
            refine (Same_any v7 v8 _ _ w8 HS7b.out HS8.out (by omega) (by omega)).mono ?_
            rintro e w9 ⟨rfl, hE9⟩
            rw [sameB_self]
            have HE9 := Lib.hid (HE8.out.trans hE9)
            clear hE9
            go_wp2_with fail
            refine (Merge_any n vb vc b c w9 (HB.out.ext HE9.out) (HC.out.ext HE9.out) (by omega) (by omega)).mono ?_
            rintro e w10 ⟨hE10, v10, rfl, hs10, _⟩
            have HE10 := Lib.hid (HE9.out.trans hE10)
            clear hE10 hs10
            go_wp2_with fail
            refine (HAL.out w10 HE10.out).mono ?_
            rintro e w13 ⟨rfl, hE13⟩
            have HE13 := Lib.hid (HE10.out.trans hE13)
            clear hE13
            go_wp2_with fail
            go_ret
            exact ⟨rfl, HE13.out⟩
        · have hne : ((sortedP n a).2.2 != 0) = true := by simpa using he
          clear he
          generalize (sortedP n a).2.2 = E at *
          generalize (sortedP n a).2.1 = E2 at *
          go_wp2_with fail
          refine (HAL.out w1 HE1.out).mono ?_
          rintro e w13 ⟨rfl, hE13⟩
          have HE13 := Lib.hid (HE1.out.trans hE13)
          clear hE13
          go_wp2_with fail
          go_ret
          exact ⟨rfl, HE13.out⟩
      · have f3' := fewB_no f3
        rw [f1] at HFa
        rw [f2] at HFb
        rw [f3'] at HFc
        go_enter Tryz.func14, Tryz.ntmps14
        go_wp2_with (first | (go_at_call_of 24 va; refine HFa.out.mono ?_; rintro e w' ⟨rfl, rfl⟩) | (go_at_call_of 24 vb; refine HFb.out.mono ?_; rintro e w' ⟨rfl, rfl⟩) | (go_at_call_of 24 vc; refine HFc.out.mono ?_; rintro e w' ⟨rfl, rfl⟩))
        refine (HAL.out w (Ext.refl _)).mono ?_
        rintro e w1 ⟨rfl, hE⟩
        go_wp2_with fail
        go_ret
        exact ⟨rfl, hE⟩
    · have f2' := fewB_no f2
      rw [f1] at HFa
      rw [f2'] at HFb
      go_enter Tryz.func14, Tryz.ntmps14
      go_wp2_with (first | (go_at_call_of 24 va; refine HFa.out.mono ?_; rintro e w' ⟨rfl, rfl⟩) | (go_at_call_of 24 vb; refine HFb.out.mono ?_; rintro e w' ⟨rfl, rfl⟩) | (go_at_call_of 24 vc; refine HFc.out.mono ?_; rintro e w' ⟨rfl, rfl⟩))
      refine (HAL.out w (Ext.refl _)).mono ?_
      rintro e w1 ⟨rfl, hE⟩
      go_wp2_with fail
      go_ret
      exact ⟨rfl, hE⟩
  · have f1' := fewB_no f1
    rw [f1'] at HFa
    go_enter Tryz.func14, Tryz.ntmps14
    go_wp2_with (first | (go_at_call_of 24 va; refine HFa.out.mono ?_; rintro e w' ⟨rfl, rfl⟩) | (go_at_call_of 24 vb; refine HFb.out.mono ?_; rintro e w' ⟨rfl, rfl⟩) | (go_at_call_of 24 vc; refine HFc.out.mono ?_; rintro e w' ⟨rfl, rfl⟩))
    refine (HAL.out w (Ext.refl _)).mono ?_
    rintro e w1 ⟨rfl, hE⟩
    go_wp2_with fail
    go_ret
    exact ⟨rfl, hE⟩
end Go.Proofs.YtgjahnomafpnfaaGreatDoor

/- The law PostMerges: its walk. -/
namespace Go.Proofs.YtgjahnomafpnfaaGreatDoor
open Go.RowKit
set_option maxHeartbeats 1600000 in
set_option maxRecDepth 100000 in
theorem PostMerges_any {B : Nat} {w : World} (hL : Laid B w) (n : Int) (va vb : Value) (a b : List Rec) (ha : SlR w va a) (hb : SlR w vb b) :
    Calls Tryz.prog 11 #[.int .i64 n, va, vb] w fun e w' => e = .returned (.bool true) ∧ Ext w w' := by
  have HFa := Lib.hid (Few_same va a 60 (by omega) w ha)
  have HFb := Lib.hid (Few_same vb b 60 (by omega) w hb)
  have HA := Lib.hid ha
  have HB := Lib.hid hb
  have HAL := Lib.hid (fun (W : World) (h : Ext w W) => alive_any (hL.ext h))
  clear hL ha hb
  by_cases f1 : fewB a 60 = true
  · by_cases f2 : fewB b 60 = true
    · rw [f1] at HFa
      rw [f2] at HFb
      have hla := ((fewB_iff _ _).1 f1).1
      have hlb := ((fewB_iff _ _).1 f2).1
      have HTA := Lib.hid (fun x hx => Nat.le_trans (((fewB_iff _ _).1 f1).2 x hx) (by omega : 300 ≤ 1000000))
      have HTB := Lib.hid (fun x hx => Nat.le_trans (((fewB_iff _ _).1 f2).2 x hx) (by omega : 300 ≤ 1000000))
      clear f1 f2
      go_enter Tryz.func11, Tryz.ntmps11
      go_wp2_with (first | (go_at_call_of 24 va; refine HFa.out.mono ?_; rintro e w' ⟨rfl, rfl⟩) | (go_at_call_of 24 vb; refine HFb.out.mono ?_; rintro e w' ⟨rfl, rfl⟩))
      refine (Merge_any n va vb a b w HA.out HB.out (by omega) (by omega)).mono ?_
      rintro e w1 ⟨hE1, v1, rfl, hs1, _⟩
      have HE1 := Lib.hid hE1
      have HS1 := Lib.hid hs1
      clear hE1 hs1
      go_wp2_with fail
      refine (MergeR_any n va vb a b w1 (HA.out.ext HE1.out) (HB.out.ext HE1.out) (by omega) (by omega) HTA.out HTB.out).mono ?_
      rintro e w2 ⟨hE2, v2, rfl, hs2⟩
      have HE2 := Lib.hid (HE1.out.trans hE2)
      have HS2 := Lib.hid hs2
      have HS1b := Lib.hid (HS1.out.ext hE2)
      have hll := mergeL_le n a b
      clear hE2 hs2
      generalize mergeE n a b = E at *
      generalize mergeL n a b = L at *
      go_wp2_with fail
      refine (HAL.out w2 HE2.out).mono ?_
      rintro e w3 ⟨rfl, hE3⟩
      have HE3 := Lib.hid (HE2.out.trans hE3)
      have HS1c := Lib.hid (HS1b.out.ext hE3)
      have HS2c := Lib.hid (HS2.out.ext hE3)
      clear hE3
      go_wp2_with fail
      refine (Same_any v1 v2 L L w3 HS1c.out HS2c.out (by omega) (by omega)).mono ?_
      rintro e w4 ⟨rfl, hE4⟩
      rw [sameB_self]
      have HE4 := Lib.hid (HE3.out.trans hE4)
      clear hE4
      go_wp2_with fail
      go_ret
      exact ⟨rfl, HE4.out⟩
    · have f2' := fewB_no f2
      rw [f1] at HFa
      rw [f2'] at HFb
      go_enter Tryz.func11, Tryz.ntmps11
      go_wp2_with (first | (go_at_call_of 24 va; refine HFa.out.mono ?_; rintro e w' ⟨rfl, rfl⟩) | (go_at_call_of 24 vb; refine HFb.out.mono ?_; rintro e w' ⟨rfl, rfl⟩))
      refine (HAL.out w (Ext.refl _)).mono ?_
      rintro e w1 ⟨rfl, hE⟩
      go_wp2_with fail
      go_ret
      exact ⟨rfl, hE⟩
  · have f1' := fewB_no f1
    rw [f1'] at HFa
    go_enter Tryz.func11, Tryz.ntmps11
    go_wp2_with (first | (go_at_call_of 24 va; refine HFa.out.mono ?_; rintro e w' ⟨rfl, rfl⟩) | (go_at_call_of 24 vb; refine HFb.out.mono ?_; rintro e w' ⟨rfl, rfl⟩))
    refine (HAL.out w (Ext.refl _)).mono ?_
    rintro e w1 ⟨rfl, hE⟩
    go_wp2_with fail
    go_ret
    exact ⟨rfl, hE⟩
end Go.Proofs.YtgjahnomafpnfaaGreatDoor
