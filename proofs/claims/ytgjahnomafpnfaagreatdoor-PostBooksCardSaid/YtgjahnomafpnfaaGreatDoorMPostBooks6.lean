/- Lemmas and walks that this claim needs, in one text out of several; each states its own conditions. -/
import Derived.Test.YtgjahnomafpnfaaGreatDoorMPostBooks5
import Derived.Test.YtgjahnomafpnfaaGreatDoorMB3
import Derived.Test.YtgjahnomafpnfaaGreatDoorMPostBooks1
set_option linter.unusedVariables false
set_option linter.unusedSimpArgs false
/- slices.symMergeCmpFunc, stableCmpFunc, SortStableFunc at records, of any number. -/
namespace Go.Proofs.YtgjahnomafpnfaaGreatDoor
open Go.RowKit
theorem symMerge_any (B : Nat) (w0 : World) (g cap : Nat) : ∀ (d a m b : Nat) (zs : List Rec) (w : World), b - a ≤ d → RowW B w0 w g zs → a < m → m < b → b ≤ zs.length → zs.length ≤ 1000000 → SortedOn a m zs → SortedOn m b zs →
    Calls Tryz.prog 193 #[.slice (some ⟨g, 0, none⟩) zs.length cap, .int .i64 a, .int .i64 m, .int .i64 b, .func (.func 79) #[] #[]] w (SymPost B w0 g a b zs)
  | 0, a, m, b, zs, w, hd, _, h1, h2, _, _, _, _ => by omega
  | d + 1, a, m, b, zs, w, hd, hR, h1, h2, hb, hn, s1, s2 => by
    by_cases e1 : m = a + 1
    · exact sym_up B w0 g cap a m b zs w hR e1 h2 hb hn s2
    · by_cases e2 : b = m + 1
      · exact sym_dn B w0 g cap a m b zs w hR (by omega) e2 hb hn s1
      · refine sym_main B w0 g cap a m b zs w hR (by omega) (by omega) hb hn s1 s2 (fun a' m' b' zs' w' hlt hl hR' q1 q2 q3 t1 t2 => ?_)
        have := symMerge_any B w0 g cap d a' m' b' zs' w' (by omega) hR' q1 q2 (by omega) (by omega) t1 t2
        rwa [hl] at this
/-- Blocks of bs records are in order. -/
def Bks (bs n : Nat) (zs : List Rec) : Prop := ∀ c, bs ∣ c → SortedOn c (min (c + bs) n) zs
/-- Blocks of bs records from a on; ahead of it blocks of cs. -/
structure Mix (cs bs n a : Nat) (zs : List Rec) : Prop where
  dv : cs ∣ a
  lo : ∀ c, c < a → cs ∣ c → SortedOn c (c + cs) zs
  hi : ∀ c, a ≤ c → bs ∣ c → SortedOn c (min (c + bs) n) zs
theorem dvd_gap {cs a c : Nat} (h1 : cs ∣ a) (h2 : cs ∣ c) (h : c < a) : c + cs ≤ a := by
  have h3 : cs ∣ a - c := Nat.dvd_sub h1 h2
  have := Nat.le_of_dvd (by omega) h3
  omega
theorem Mix.step {cs bs n a : Nat} {zs ys : List Rec} (h : Mix cs bs n a zs) (hbc : bs ∣ cs) (hc0 : 0 < cs) (hM : Moved a (a + cs) zs ys) (hS : SortedOn a (a + cs) ys) : Mix cs bs n (a + cs) ys := by
  refine ⟨Nat.dvd_add h.dv (Nat.dvd_refl _), fun c hc hd => ?_, fun c hc hd => ?_⟩
  · rcases Nat.lt_or_ge c a with q | q
    · have := dvd_gap h.dv hd q
      exact (h.lo c q hd).same (fun k _ hk => hM.pre k (by omega))
    · have : c = a := by
        rcases Nat.lt_or_ge a c with g | g
        · have := dvd_gap hd h.dv g; omega
        · omega
      rw [this]; exact hS
  · exact (h.hi c (by omega) hd).same (fun k hk _ => hM.post k (by omega))
theorem Mix.last {cs bs n a : Nat} {zs ys : List Rec} (h : Mix cs bs n a zs) (hbc : bs ∣ cs) (hc0 : 0 < cs) (han : n < a + cs) (hM : Moved a n zs ys) (hS : SortedOn a n ys) (hln : n = zs.length) : Bks cs n ys := by
  intro c hd
  rcases Nat.lt_or_ge c a with q | q
  · have := dvd_gap h.dv hd q
    exact ((h.lo c q hd).sub (Nat.le_refl _) (Nat.min_le_left _ _)).same (fun k _ hk => hM.pre k (by omega))
  · rcases Nat.lt_or_ge a c with g | g
    · have := dvd_gap hd h.dv g
      intro p q' x y h1 h2 h3; omega
    · obtain rfl : c = a := by omega
      exact hS.sub (Nat.le_refl _) (by omega)
theorem Bks.mix {bs n : Nat} {zs : List Rec} (h : Bks bs n zs) (cs : Nat) : Mix cs bs n 0 zs := ⟨Nat.dvd_zero _, fun c hc => by omega, fun c _ hd => h c hd⟩
set_option maxHeartbeats 1600000 in
set_option maxRecDepth 100000 in
theorem stable_all (B : Nat) (w0 : World) (g cap : Nat) (zs : List Rec) (w : World) (hR : RowW B w0 w g zs) (hn : zs.length ≤ 1000000) :
    Calls Tryz.prog 174 #[.slice (some ⟨g, 0, none⟩) zs.length cap, .int .i64 zs.length, .func (.func 79) #[] #[]] w fun e w' => e = .returned (.tuple #[]) ∧ ∃ zs', RowW B w0 w' g zs' ∧ zs'.Perm zs ∧ SortedOn 0 zs.length zs' := by
  have HR := Lib.hid hR
  clear hR
  generalize hN : zs.length = N at *
  have HN := Lib.hid hN
  clear hN
  go_enter Tryz.func174, Tryz.ntmps174
  go_wp2
  go_loopw [7, 8] (fun x y wr => ∃ (a : Nat) (ys : List Rec), x = .int .i64 a ∧ y = .int .i64 (a + 20 : Nat) ∧ a ≤ N ∧ RowW B w0 wr g ys ∧ ys.Perm zs ∧ 20 ∣ a ∧ ∀ c, c < a → 20 ∣ c → SortedOn c (c + 20) ys) (fun x _ _ => N - (intOf x).toNat)
  case atStart => exact ⟨0, zs, rfl, rfl, by omega, HR.out, .refl _, Nat.dvd_zero _, fun c hc => by omega⟩
  case round =>
    obtain ⟨a, ys, rfl, rfl, ha, hR, hP, hD, hB⟩ := hrel
    have hyl : ys.length = N := hP.length_eq.trans HN.out
    have HY := Lib.hid hyl
    have H := Lib.hid (And.intro hR (And.intro hP (And.intro hD hB)))
    clear hR hP hD hB
    by_cases hlt : a + 20 ≤ N
    · have hltz : ((a + 20 : Nat) : Int) ≤ N := by omega
      have HC := Lib.hid (insertion_any B w0 g cap a (a + 20) ys wr H.out.1 (by omega) (by omega) (by omega))
      rw [hyl] at HC
      have hwb : IntKind.i64.wrap (((a + 20 : Nat) : Int) + 20) = ((a + 20 + 20 : Nat) : Int) := by rw [IntWalk.i64_in _ (by omega)]; omega
      clear hyl
      generalize hA : a + 20 = A at *
      have HA := Lib.hid hA
      clear hA
      go_wp2_with fail
      refine HC.out.mono ?_
      rintro e w1 ⟨rfl, us, h1, h2, h3⟩
      have H2 := Lib.hid (And.intro h1 (And.intro h2 h3))
      clear h1 h2 h3
      go_wp2_with fail
      go_roundw
      case rel =>
        refine ⟨A, us, rfl, by simp, by omega, H2.out.1, H2.out.2.1.perm.trans H.out.2.1, ?_, fun c hc hd => ?_⟩
        · rw [← HA.out]; exact Nat.dvd_add H.out.2.2.1 (Nat.dvd_refl _)
        · have hAo := HA.out
          rcases Nat.lt_or_ge c a with q | q
          · have := dvd_gap H.out.2.2.1 hd q
            exact (H.out.2.2.2 c q hd).same (fun k _ hk => H2.out.2.1.pre k (by omega))
          · have : c = a := by
              rcases Nat.lt_or_ge a c with k | k
              · have := dvd_gap hd H.out.2.2.1 k; omega
              · omega
            rw [this, hAo]; exact H2.out.2.2
      case measure => have := HA.out; simp [intOf]; omega
    · have hltz : ¬ (((a + 20 : Nat) : Int) ≤ N) := by omega
      have HC := Lib.hid (insertion_any B w0 g cap a N ys wr H.out.1 (by omega) (by omega) (by omega))
      rw [hyl] at HC
      clear hyl
      go_wp2_with fail
      refine HC.out.mono ?_
      rintro e w1 ⟨rfl, us, h1, h2, h3⟩
      have hbk : Bks 20 N us := by
        intro c hd
        rcases Nat.lt_or_ge c a with q | q
        · have := dvd_gap H.out.2.2.1 hd q
          exact ((H.out.2.2.2 c q hd).sub (Nat.le_refl _) (Nat.min_le_left _ _)).same (fun k _ hk => h2.pre k (by omega))
        · rcases Nat.lt_or_ge a c with k | k
          · have := dvd_gap hd H.out.2.2.1 k
            intro p q' x y p1 p2 p3
            have : min (c + 20) N ≤ N := Nat.min_le_right _ _
            omega
          · obtain rfl : c = a := by omega
            exact h3.sub (Nat.le_refl _) (Nat.min_le_right _ _)
      have H2 := Lib.hid (And.intro h1 (And.intro (h2.perm.trans H.out.2.1) hbk))
      clear h1 h2 h3 hbk
      go_wp2_with fail
      go_loopw [6] (fun x wr2 => ∃ (bs : Nat) (ys : List Rec), x = .int .i64 bs ∧ 20 ≤ bs ∧ bs ≤ 2 * N + 20 ∧ RowW B w0 wr2 g ys ∧ ys.Perm zs ∧ Bks bs N ys) (fun x _ => 2 * N + 20 - (intOf x).toNat)
      case atStart => exact ⟨20, us, rfl, by omega, by omega, H2.out.1, H2.out.2.1, H2.out.2.2⟩
      case round =>
        obtain ⟨bs, ys, rfl, hb20, hbN, hR, hP, hB⟩ := hrel
        have H3 := Lib.hid (And.intro hR (And.intro hP hB))
        have hyl := Lib.hid (hP.length_eq.trans HN.out)
        clear hR hP hB
        have hw2 : IntKind.i64.wrap (2 * (bs : Int)) = ((2 * bs : Nat) : Int) := by rw [IntWalk.i64_in _ (by omega)]; omega
        have hw3 : IntKind.i64.wrap ((bs : Int) * 2) = ((2 * bs : Nat) : Int) := by rw [IntWalk.i64_in _ (by omega)]; omega
        by_cases hlb : bs < N
        · have hlbz : (bs : Int) < N := by omega
          generalize hcs : 2 * bs = cs at *
          have HCS := Lib.hid hcs
          clear hcs
          go_wp2_with fail
          go_loopw [7, 8] (fun x y wr3 => ∃ (a : Nat) (ys : List Rec), x = .int .i64 a ∧ y = .int .i64 (a + cs : Nat) ∧ a ≤ N ∧ RowW B w0 wr3 g ys ∧ ys.Perm zs ∧ Mix cs bs N a ys) (fun x _ _ => N - (intOf x).toNat)
          case atStart => exact ⟨0, ys, rfl, by simp, by omega, H3.out.1, H3.out.2.1, H3.out.2.2.mix cs⟩
          case round =>
            obtain ⟨a, ts, rfl, rfl, ha, hR, hP, hM⟩ := hrel
            have htl := hP.length_eq.trans HN.out
            have H4 := Lib.hid (And.intro hR (And.intro hP hM))
            clear hR hP hM
            have hcsb : cs = 2 * bs := HCS.out.symm
            have hw4 : IntKind.i64.wrap ((a : Int) + bs) = ((a + bs : Nat) : Int) := by rw [IntWalk.i64_in _ (by omega)]; omega
            have hs1 : SortedOn a (min (a + bs) N) ts := H4.out.2.2.hi a (Nat.le_refl _) (Nat.dvd_trans ⟨2, by omega⟩ H4.out.2.2.dv)
            have hs2 : SortedOn (a + bs) (min (a + bs + bs) N) ts := H4.out.2.2.hi (a + bs) (by omega) (Nat.dvd_add (Nat.dvd_trans ⟨2, by omega⟩ H4.out.2.2.dv) (Nat.dvd_refl _))
            have hdv : bs ∣ cs := ⟨2, by omega⟩
            have HDV := Lib.hid hdv
            have hpos : 0 < bs := by omega
            have hcsi : (cs : Int) = 2 * bs := by omega
            have HCSI := Lib.hid hcsi
            have hw5 : IntKind.i64.wrap (((a + cs : Nat) : Int) + cs) = ((a + cs + cs : Nat) : Int) := by rw [IntWalk.i64_in _ (by omega)]; omega
            by_cases hlt : a + cs ≤ N
            · have hltz : ((a + cs : Nat) : Int) ≤ N := by omega
              have HC := Lib.hid (symMerge_any B w0 g cap (a + cs - a) a (a + bs) (a + cs) ts _ (Nat.le_refl _) H4.out.1 (by omega) (by omega) (by omega) (by omega) (hs1.sub (Nat.le_refl _) (by omega)) (hs2.sub (Nat.le_refl _) (by omega)))
              rw [htl] at HC
              clear htl hcsb hs1 hs2 hdv hcsi
              generalize hA : a + cs = A at *
              have HA := Lib.hid hA
              generalize hM : a + bs = M at *
              have HM := Lib.hid hM
              clear hA hM
              go_wp2_with fail
              refine HC.out.mono ?_
              rintro e w2 ⟨rfl, vs, h1, h2, h3⟩
              have H5 : RowKit.Hid (RowW B w0 w2 g vs ∧ vs.Perm zs ∧ Mix cs bs N A vs) := Lib.hid ⟨h1, h2.perm.trans H4.out.2.1, by
                rw [← HA.out]
                exact H4.out.2.2.step HDV.out (by have := HCSI.out; omega) (by rw [HA.out]; exact h2) (by rw [HA.out]; exact h3)⟩
              clear h1 h2 h3
              go_wp2_with fail
              go_roundw
              case rel => exact ⟨A, vs, rfl, by simp, by omega, H5.out⟩
              case measure => have := HA.out; have := HCSI.out; simp [intOf]; omega
            · have hltz : ¬ (((a + cs : Nat) : Int) ≤ N) := by omega
              by_cases hm : a + bs < N
              · have hmz : ((a + bs : Nat) : Int) < N := by omega
                have HC := Lib.hid (symMerge_any B w0 g cap (N - a) a (a + bs) N ts _ (Nat.le_refl _) H4.out.1 (by omega) (by omega) (by omega) (by omega) (hs1.sub (Nat.le_refl _) (by omega)) (hs2.sub (Nat.le_refl _) (by omega)))
                rw [htl] at HC
                have HTL := Lib.hid htl
                clear htl hcsb hs1 hs2 hdv hcsi
                generalize hA : a + cs = A at *
                have HA := Lib.hid hA
                generalize hM : a + bs = M at *
                have HM := Lib.hid hM
                clear hA hM
                go_wp2_with fail
                refine HC.out.mono ?_
                rintro e w2 ⟨rfl, vs, h1, h2, h3⟩
                have H5 : RowKit.Hid (RowW B w0 w2 g vs ∧ vs.Perm zs ∧ Bks cs N vs) := Lib.hid ⟨h1, h2.perm.trans H4.out.2.1, H4.out.2.2.last HDV.out (by have := HCSI.out; omega) (by have := HA.out; omega) h2 h3 HTL.out.symm⟩
                clear h1 h2 h3
                go_wp2_with fail
                go_roundw
                case rel => exact ⟨cs, vs, rfl, by have := HCSI.out; omega, by have := HCSI.out; omega, H5.out⟩
                case measure => have := HCSI.out; simp [intOf]; omega
              · have hmz : ¬ (((a + bs : Nat) : Int) < N) := by omega
                have H5 : RowKit.Hid (Bks cs N ts) := Lib.hid (H4.out.2.2.last hdv (by omega) (by omega) (Moved.refl a N ts) (hs1.sub (Nat.le_refl _) (by omega)) htl.symm)
                clear htl hcsb hs1 hs2 hdv hcsi
                generalize hA : a + cs = A at *
                generalize hM : a + bs = M at *
                clear hA hM
                go_wp2_with fail
                go_roundw
                case rel => exact ⟨cs, ts, rfl, by have := HCSI.out; omega, by have := HCSI.out; omega, H4.out.1, H4.out.2.1, H5.out⟩
                case measure => have := HCSI.out; simp [intOf]; omega
        · have hlbz : ¬ ((bs : Int) < N) := by omega
          have hfin : SortedOn 0 N ys := by
            have := H3.out.2.2 0 (Nat.dvd_zero _)
            rwa [Nat.zero_add, Nat.min_eq_right (by omega)] at this
          have HF := Lib.hid hfin
          clear hfin
          go_wp2_with fail
          refine bodyPost_end (results_none rfl _ _ _) rfl ⟨rfl, ys, H3.out.1, H3.out.2.1, HF.out⟩
set_option maxHeartbeats 400000 in
set_option maxRecDepth 100000 in
theorem sortStable_all (B : Nat) (w0 : World) (g cap : Nat) (zs : List Rec) (w : World) (hR : RowW B w0 w g zs) (hn : zs.length ≤ 1000000) :
    Calls Tryz.prog 144 #[.slice (some ⟨g, 0, none⟩) zs.length cap, .func (.func 79) #[] #[]] w fun e w' => e = .returned (.tuple #[]) ∧ ∃ zs', RowW B w0 w' g zs' ∧ zs'.Perm zs ∧ SortedOn 0 zs.length zs' := by
  have HR := Lib.hid (stable_all B w0 g cap zs w hR hn)
  clear hR
  go_enter Tryz.func144, Tryz.ntmps144
  go_wp2_with fail
  refine HR.out.mono ?_
  rintro e w1 ⟨rfl, h⟩
  have H := Lib.hid h
  clear h
  go_wp2
  refine bodyPost_end (results_none rfl _ _ _) rfl ⟨rfl, H.out⟩
set_option maxHeartbeats 400000 in
set_option maxRecDepth 100000 in
theorem ordered_all (v : Value) (xs : List Rec) (w : World) (h : SlR w v xs) (hn : xs.length ≤ 1000000) :
    Calls Tryz.prog 78 #[v, .func (.func 79) #[] #[]] w fun e w' => ∃ v' ys, e = .returned v' ∧ InOrder xs ys ∧ SlW w' w.heap.size v' ys ∧ Below w.heap.size w w' := by
  obtain ⟨a, m, c, rfl⟩ : ∃ a m c, v = .slice a m c := by
    obtain ⟨a, c, e⟩ := h.shape
    exact ⟨a, _, c, e⟩
  have HC := Lib.hid (Clone_any _ xs w h (by omega))
  clear h
  go_enter Tryz.func78, Tryz.ntmps78
  go_wp2_with fail
  refine HC.out.mono ?_
  rintro e w1 ⟨v1, rfl, ho, hb⟩
  rcases ho.2 with ⟨rfl, h0⟩ | ⟨g, cap, cur, rfl, h2, h3, h4, h5, h6, h7⟩
  · obtain rfl := List.eq_nil_of_length_eq_zero h0
    go_wp2_with fail
    refine (sortStable_nil w1).mono ?_
    rintro e w2 ⟨rfl, rfl⟩
    go_wp2
    go_ret
    exact ⟨_, [], rfl, ⟨.refl _, fun p q _ _ _ _ h3 => by simp at h3⟩, .inl ⟨rfl, rfl⟩, hb⟩
  · have HR := Lib.hid (sortStable_all w.heap.size w g cap xs w1 (OwnR.rowW ho hb) hn)
    clear ho h7 h6 h3
    go_wp2_with fail
    refine HR.out.mono ?_
    rintro e w2 ⟨rfl, ys, k1, k2, k3⟩
    have H := Lib.hid (And.intro k1 (And.intro k2 k3))
    clear k1 k2 k3
    go_wp2
    go_ret
    have hl := H.out.2.1.length_eq
    exact ⟨_, ys, rfl, ⟨H.out.2.1, H.out.2.2⟩, by rw [← hl]; exact H.out.1.slW (by omega) h5, H.out.1.below⟩
/-- What Order comes to. -/
def OrderPost (n : Int) (xs : List Rec) (w : World) (e : Ending) (w' : World) : Prop :=
  Below w.heap.size w w' ∧ (((sortedP n xs).2.2 ≠ 0 ∧ e = .returned (.tuple #[.slice none 0 0, .int .i64 (sortedP n xs).2.2])) ∨
      ((sortedP n xs).2.2 = 0 ∧ ∃ v' ys, e = .returned (.tuple #[v', .int .i64 0]) ∧ InOrder xs ys ∧ SlW w' w.heap.size v' ys))
set_option maxHeartbeats 400000 in
set_option maxRecDepth 100000 in
theorem Order_all (n : Int) (v : Value) (xs : List Rec) (w : World) (h : SlR w v xs) (hn : xs.length ≤ 100000) :
    Calls Tryz.prog 25 #[.int .i64 n, v] w (OrderPost n xs w) := by
  obtain ⟨a, m, c, rfl⟩ : ∃ a m c, v = .slice a m c := by
    obtain ⟨a, c, e⟩ := h.shape
    exact ⟨a, _, c, e⟩
  have HC := Lib.hid (CheckRecords_any n _ xs w h (by omega))
  go_enter Tryz.func25, Tryz.ntmps25
  go_wp2_with fail
  refine HC.out.mono ?_
  rintro e w1 ⟨rfl, hb⟩
  have HO := Lib.hid (ordered_all _ xs w1 (h.ext hb) (by omega))
  have hz := hb.size
  have HB := Lib.hid hb
  clear h hb
  by_cases he : (sortedP n xs).2.2 = 0
  · rw [he]
    go_wp2_with fail
    refine HO.out.mono ?_
    rintro e w2 ⟨v2, ys, rfl, k1, k2, k3⟩
    obtain ⟨a2, m2, c2, rfl⟩ := k2.shape3
    have H := Lib.hid (And.intro k1 (And.intro k2 k3))
    clear k1 k2 k3
    go_wp2
    go_ret2
    refine ⟨HB.out.trans (H.out.2.2.mono hz), .inr ⟨he, _, ys, rfl, H.out.1, ?_⟩⟩
    rcases H.out.2.1 with q | ⟨g, cap, q1, q2, q3⟩
    · exact .inl q
    · exact .inr ⟨g, cap, q1, by omega, q3⟩
  · generalize hq : (sortedP n xs).2.2 = e2 at he ⊢
    have hne : (e2 != 0) = true := by simpa using he
    go_wp2
    go_ret2
    exact ⟨HB.out, .inl ⟨by rw [hq]; exact he, by rw [hq]; rfl⟩⟩
end Go.Proofs.YtgjahnomafpnfaaGreatDoor

/- The law PostBooks. -/
namespace Go.Proofs.YtgjahnomafpnfaaGreatDoor
open Go.RowKit
theorem Order_book (n : Int) (v : Value) (l : List Rec) (w : World) (h : SlR w v l) (hn : l.length ≤ 100000) : Calls Tryz.prog 25 #[.int .i64 n, v] w (OrderRPost n l w) := by
  refine (Order_all n v l w h hn).mono ?_
  rintro e w' ⟨hb, q⟩
  rw [check_same] at q
  refine ⟨hb, ?_⟩
  rcases q with ⟨h1, rfl⟩ | ⟨h1, v', ys, rfl, h2, h3⟩
  · exact ⟨_, [], rfl, .inl ⟨rfl, rfl⟩, fun h => absurd h h1, fun _ => rfl⟩
  · exact ⟨v', ys, by rw [h1], h3.slR, fun _ => h2, fun h => absurd h1 h⟩
theorem order_same {n : Int} {l ys zs : List Rec} (h1 : (checkP n l).2 = 0 → InOrder l ys) (h2 : (checkP n l).2 ≠ 0 → ys = []) (k1 : (checkP n l).2 = 0 → InOrder l zs) (k2 : (checkP n l).2 ≠ 0 → zs = []) : ys = zs := by
  by_cases he : (checkP n l).2 = 0
  · have hr : Refs l := by
      rw [← check_same] at he
      exact book_refs he
    exact inOrder_one hr (h1 he) (k1 he)
  · rw [h2 he, k2 he]
theorem order_len {n : Int} {l ys : List Rec} (h1 : (checkP n l).2 = 0 → InOrder l ys) (h2 : (checkP n l).2 ≠ 0 → ys = []) : ys.length ≤ l.length := by
  by_cases he : (checkP n l).2 = 0
  · exact Nat.le_of_eq (h1 he).1.length_eq
  · rw [h2 he]; simp
theorem stock_shape (n : Int) (l : List Rec) : ∃ a b c d e : Int, (if (checkP n l).2 = 0 then cntV l else zeroV) = .agg #[.int .i64 a, .int .i64 b, .int .i64 c, .int .i64 d, .int .i64 e] := by
  by_cases he : (checkP n l).2 = 0
  · rw [if_pos he]; exact ⟨_, _, _, _, _, rfl⟩
  · rw [if_neg he]; exact ⟨_, _, _, _, _, rfl⟩
theorem Until_book (n : Int) (v : Value) (l : List Rec) (hour : Int) (w : World) (h : SlR w v l) (hn : l.length ≤ 100000) :
    Calls Tryz.prog 28 #[.int .i64 n, v, .int .i64 hour] w fun e w' => Ext w w' ∧ ∃ v', e = .returned (.tuple #[v', .int .i64 (checkP n l).2]) ∧ SlR w' v' (if (checkP n l).2 = 0 then upTo hour l else []) := by
  refine (Until_any n v l hour w h hn).mono ?_
  rintro e w' ⟨hb, v', rfl, hs⟩
  rw [check_same] at hs ⊢
  exact ⟨hb, v', rfl, hs.slR⟩
theorem Check_book (n : Int) (v : Value) (l : List Rec) (w : World) (hv : SlR w v l) (hl : l.length ≤ 100000) :
    Calls Tryz.prog 26 #[.int .i64 n, v] w fun e w' => e = .returned (.tuple #[.int .i64 (checkP n l).1, .int .i64 (checkP n l).2]) ∧ Ext w w' := by
  have := CheckRecords_any n v l w hv hl
  rw [check_same] at this
  exact this
theorem run_equalIn_self {P : Program} (w : World) (d : Nat) (t e : TypeId) (n : Nat) (ht : P.underlying t = some (.array n e)) (he : P.underlying e = some (.int .i64)) (hsz : ∀ w, (sizeOf e).run P w = .ok 1 w)
    (xs : List Int) (hx : xs.length = n) :
    (Op.equalIn (d + 2) t (.agg (xs.map fun z => Value.int .i64 z).toArray) (.agg (xs.map fun z => Value.int .i64 z).toArray)).run P w = .ok true w := by
  rw [Op.equalIn]
  simp only [Sem.run_bind, run_underlying ht, Result.andThen_ok, hsz, Std.Legacy.Range.forIn_eq_forIn_range', Std.Legacy.Range.size, Nat.sub_zero, Nat.add_sub_cancel, Nat.div_one]
  have hl : ∀ i ∈ List.range' 0 n 1, i < n := fun i hi => by simpa using (List.mem_range'_1.1 hi).2
  generalize List.range' 0 n 1 = l at hl ⊢
  induction l with
  | nil => simp
  | cons i l ih =>
    have hi : i < n := hl i (by simp)
    have px : (_root_.Go.part e (xs.map fun z => Value.int .i64 z).toArray (i * 1)).run P w = .ok (.int .i64 (xs.getD i 0)) w := by
      simp [_root_.Go.part, isAgg, run_underlying he, List.getD, List.getElem?_eq_getElem (show i < xs.length by omega)]
    have pe : (Op.equalIn (d + 1) e (.int .i64 (xs.getD i 0)) (.int .i64 (xs.getD i 0))).run P w = .ok true w := by
      rw [run_equalIn_int w d e .i64 .i64 _ _ he]
      simp
    simp only [List.forIn_cons, Sem.run_bind, px, pe, Result.andThen_ok]
    simp only [Bool.not_true, Bool.false_eq_true, if_false, Sem.run_pure, Result.andThen_ok]
    exact ih fun j hj => hl j (by simp [hj])
theorem sizeOf3 (w : World) : (sizeOf 3).run Tryz.prog w = .ok 1 w := by
  cases h : Tryz.prog.info? 3 with
  | none => have := info3; rw [h] at this; cases this
  | some i =>
    have h2 := info3
    rw [h] at h2
    simp at h2
    simp [sizeOf, typeInfo, h, h2]
theorem eqIn_stock (t0 t1 t2 t3 t4 : Int) (w : World) : (Op.equalIn 9999 24 (.agg #[.int .i64 t0, .int .i64 t1, .int .i64 t2, .int .i64 t3, .int .i64 t4]) (.agg #[.int .i64 t0, .int .i64 t1, .int .i64 t2, .int .i64 t3, .int .i64 t4])).run Tryz.prog w = .ok true w :=
  run_equalIn_self w 9997 24 3 5 Tryz.underlying24 Tryz.underlying3 sizeOf3 [t0, t1, t2, t3, t4] rfl
set_option maxHeartbeats 1600000 in
set_option maxRecDepth 100000 in
theorem PostBooks_any {B : Nat} {w : World} (hL : Laid B w) (n : Int) (v : Value) (l : List Rec) (hour s0 s1 s2 s3 s4 : Int) (hv : SlR w v l) :
    Calls Tryz.prog 8 #[.int .i64 n, v, .int .i64 hour, .agg #[.int .i64 s0, .int .i64 s1, .int .i64 s2, .int .i64 s3, .int .i64 s4]] w fun e w' => e = .returned (.bool true) ∧ Ext w w' := by
  have HAL := Lib.hid (fun (W : World) (h : Ext w W) => alive_any (hL.ext h))
  have HE0 := Lib.hid (Ext.alloc w (.cells #[.int .i64 s0, .int .i64 s1, .int .i64 s2, .int .i64 s3, .int .i64 s4] 26))
  have HX0 := Lib.hid (StkX.new w s0 s1 s2 s3 s4)
  have HV := Lib.hid (hv.ext HE0.out)
  have HF := Lib.hid (Few_same v l 60 (by omega) _ HV.out)
  obtain ⟨ao, cap, rfl⟩ := hv.shape
  clear hL hv
  by_cases f1 : fewB l 60 = true
  · rw [f1] at HF
    have hff := (fewB_iff _ _).1 f1
    have hl := hff.1
    have HT : RowKit.Hid (∀ x ∈ l, x.txt.size ≤ 1000000) := Lib.hid (fun x hx => Nat.le_trans (hff.2 x hx) (by omega))
    clear f1 hff
    obtain ⟨E, hE⟩ : ∃ E, (checkP n l).2 = E := ⟨_, rfl⟩
    obtain ⟨C, hC⟩ : ∃ C, (checkP n l).1 = C := ⟨_, rfl⟩
    obtain ⟨t0, t1, t2, t3, t4, hst⟩ := stock_shape n l
    obtain ⟨U, hU⟩ : ∃ U, (if (checkP n l).2 = 0 then upTo hour l else []) = U := ⟨_, rfl⟩
    obtain ⟨A, hA⟩ : ∃ A, (if (checkP n l).2 = 0 then lacksL s0 s1 s2 s3 s4 l else []) = A := ⟨_, rfl⟩
    have hUl : U.length ≤ 60 := by
      rw [← hU]; split
      · exact Nat.le_trans (upTo_le _ _) hl
      · simp
    have hAl : A.length ≤ 60 := by
      rw [← hA]; split
      · exact Nat.le_trans (List.length_filter_le _ _) hl
      · simp
    have K1 := Lib.hid (fun W h => Check_book n (.slice ao l.length cap) l W h (by omega))
    have K2 := Lib.hid (fun W h => CheckRecordsR_any n (.slice ao l.length cap) l W h (by omega) HT.out)
    have K3 := Lib.hid (fun W h => Order_book n (.slice ao l.length cap) l W h (by omega))
    have K4 := Lib.hid (fun W h => OrderR_any n (.slice ao l.length cap) l W h (by omega) HT.out)
    have K5 := Lib.hid (fun W h => Until_book n (.slice ao l.length cap) l hour W h (by omega))
    have K6 := Lib.hid (fun W h => UntilR_any n (.slice ao l.length cap) l hour W h (by omega) HT.out)
    have K7 := Lib.hid (fun W h => StockOf_any n (.slice ao l.length cap) l W h (by omega))
    have K8 := Lib.hid (fun W h => StockOfR_any n (.slice ao l.length cap) l W h (by omega) HT.out)
    have K9 := Lib.hid (fun W h => Lacks_any n (.slice ao l.length cap) l s0 s1 s2 s3 s4 W h (by omega))
    have K10 := Lib.hid (fun W h => LacksR_any n (.slice ao l.length cap) l s0 s1 s2 s3 s4 W h (by omega) HT.out)
    have KO := Lib.hid (fun ys zs => order_same (n := n) (l := l) (ys := ys) (zs := zs))
    have KL := Lib.hid (fun ys => order_len (n := n) (l := l) (ys := ys))
    unfold OrderRPost at K3 K4
    rw [hst] at K7 K8
    rw [hU] at K5 K6
    rw [hA] at K9 K10
    rw [hE] at K1 K2 K3 K4 K5 K6 K7 K8 K9 K10 KO KL
    rw [hC] at K1 K2
    clear hE hC hst hU hA
    go_enter Tryz.func8, Tryz.ntmps8
    go_wp2_with (go_at_call 24; refine HF.out.mono ?_; rintro e w' ⟨rfl, rfl⟩)
    refine (K1.out _ HV.out).mono ?_
    rintro e w1 ⟨rfl, hE1⟩
    have HE1 : RowKit.Hid (Ext w w1) := Lib.hid (Ext.trans HE0.out hE1)
    have HV1 := Lib.hid (HV.out.ext hE1)
    have HX1 := Lib.hid (HX0.out.ext hE1)
    clear hE1
    go_wp2_with fail
    refine (K2.out _ HV1.out).mono ?_
    rintro e w2 ⟨rfl, hE2⟩
    have HE2 : RowKit.Hid (Ext w w2) := Lib.hid (Ext.trans HE1.out hE2)
    have HV2 := Lib.hid (HV1.out.ext hE2)
    have HX2 := Lib.hid (HX1.out.ext hE2)
    clear hE2
    go_wp2_with fail
    refine (K3.out _ HV2.out).mono ?_
    rintro e w3 ⟨hE3, v3, ys, rfl, hs3, i3, j3⟩
    have HE3 : RowKit.Hid (Ext w w3) := Lib.hid (Ext.trans HE2.out hE3)
    have HV3 := Lib.hid (HV2.out.ext hE3)
    have HX3 := Lib.hid (HX2.out.ext hE3)
    have hyl := KL.out ys i3 j3
    have HI3 := Lib.hid (And.intro i3 j3)
    obtain ⟨a3, c3, rfl⟩ := hs3.shape
    have HY3 := Lib.hid hs3
    clear hE3 hs3 i3 j3
    go_wp2_with fail
    refine (K4.out _ HV3.out).mono ?_
    rintro e w4 ⟨hE4, v4, zs, rfl, hs4, i4, j4⟩
    have HE4 : RowKit.Hid (Ext w w4) := Lib.hid (Ext.trans HE3.out hE4)
    have HV4 := Lib.hid (HV3.out.ext hE4)
    have HX4 := Lib.hid (HX3.out.ext hE4)
    have HY4 := Lib.hid (HY3.out.ext hE4)
    obtain rfl : zs = ys := KO.out zs ys i4 j4 HI3.out.1 HI3.out.2
    obtain ⟨a4, c4, rfl⟩ := hs4.shape
    have HZ4 := Lib.hid hs4
    clear hE4 hs4 i4 j4
    go_wp2_with fail
    refine (K5.out _ HV4.out).mono ?_
    rintro e w5 ⟨hE5, v5, rfl, hs5⟩
    have HE5 : RowKit.Hid (Ext w w5) := Lib.hid (Ext.trans HE4.out hE5)
    have HV5 := Lib.hid (HV4.out.ext hE5)
    have HX5 := Lib.hid (HX4.out.ext hE5)
    have HY5 := Lib.hid (HY4.out.ext hE5)
    have HZ5 := Lib.hid (HZ4.out.ext hE5)
    obtain ⟨a5, c5, rfl⟩ := hs5.shape
    have HU5 := Lib.hid hs5
    clear hE5 hs5
    go_wp2_with fail
    refine (K6.out _ HV5.out).mono ?_
    rintro e w6 ⟨hE6, v6, rfl, hs6⟩
    have HE6 : RowKit.Hid (Ext w w6) := Lib.hid (Ext.trans HE5.out hE6)
    have HV6 := Lib.hid (HV5.out.ext hE6)
    have HX6 := Lib.hid (HX5.out.ext hE6)
    have HY6 := Lib.hid (HY5.out.ext hE6)
    have HZ6 := Lib.hid (HZ5.out.ext hE6)
    have HU6 := Lib.hid (HU5.out.ext hE6)
    obtain ⟨a6, c6, rfl⟩ := hs6.shape
    have HT6 := Lib.hid hs6
    clear hE6 hs6
    go_wp2_with fail
    refine (K7.out _ HV6.out).mono ?_
    rintro e w7 ⟨rfl, hE7⟩
    have HE7 : RowKit.Hid (Ext w w7) := Lib.hid (Ext.trans HE6.out hE7)
    have HV7 := Lib.hid (HV6.out.ext hE7)
    have HX7 := Lib.hid (HX6.out.ext hE7)
    have HY7 := Lib.hid (HY6.out.ext hE7)
    have HZ7 := Lib.hid (HZ6.out.ext hE7)
    have HU7 := Lib.hid (HU6.out.ext hE7)
    have HT7 := Lib.hid (HT6.out.ext hE7)
    clear hE7
    have hA7 := (Ext.alloc w7 (.cells #[.int .i64 t0, .int .i64 t1, .int .i64 t2, .int .i64 t3, .int .i64 t4] 26))
    have HP7 := Lib.hid (StkX.new w7 t0 t1 t2 t3 t4)
    have HV7b := Lib.hid (HV7.out.ext hA7)
    have HX7b := Lib.hid (HX7.out.ext hA7)
    have HY7b := Lib.hid (HY7.out.ext hA7)
    have HZ7b := Lib.hid (HZ7.out.ext hA7)
    have HU7b := Lib.hid (HU7.out.ext hA7)
    have HT7b := Lib.hid (HT7.out.ext hA7)
    have HE7b := Lib.hid (Ext.trans HE7.out hA7)
    clear hA7
    go_wp2_with fail
    refine (K8.out _ HV7b.out).mono ?_
    rintro e w8 ⟨rfl, hE8⟩
    have HE8 : RowKit.Hid (Ext w w8) := Lib.hid (Ext.trans HE7b.out hE8)
    have HV8 := Lib.hid (HV7b.out.ext hE8)
    have HX8 := Lib.hid (HX7b.out.ext hE8)
    have HY8 := Lib.hid (HY7b.out.ext hE8)
    have HZ8 := Lib.hid (HZ7b.out.ext hE8)
    have HU8 := Lib.hid (HU7b.out.ext hE8)
    have HT8 := Lib.hid (HT7b.out.ext hE8)
    have HP8 := Lib.hid (HP7.out.ext hE8)
    clear hE8
    have hA8 := (Ext.alloc w8 (.cells #[.int .i64 t0, .int .i64 t1, .int .i64 t2, .int .i64 t3, .int .i64 t4] 26))
    have HQ8 := Lib.hid (StkX.new w8 t0 t1 t2 t3 t4)
    have HV8b := Lib.hid (HV8.out.ext hA8)
    have HX8b := Lib.hid (HX8.out.ext hA8)
    have HY8b := Lib.hid (HY8.out.ext hA8)
    have HZ8b := Lib.hid (HZ8.out.ext hA8)
    have HU8b := Lib.hid (HU8.out.ext hA8)
    have HT8b := Lib.hid (HT8.out.ext hA8)
    have HP8b := Lib.hid (HP8.out.ext hA8)
    have HE8b := Lib.hid (Ext.trans HE8.out hA8)
    clear hA8
    have x0 := (HX8b.out).c0
    have x1 := (HX8b.out).c1
    have x2 := (HX8b.out).c2
    have x3 := (HX8b.out).c3
    have x4 := (HX8b.out).c4
    go_wp2_with fail
    refine (K9.out _ HV8b.out).mono ?_
    rintro e w9 ⟨hE9, v9, rfl, hs9⟩
    have HE9 : RowKit.Hid (Ext w w9) := Lib.hid (Ext.trans HE8b.out hE9)
    have HV9 := Lib.hid (HV8b.out.ext hE9)
    have HX9 := Lib.hid (HX8b.out.ext hE9)
    have HY9 := Lib.hid (HY8b.out.ext hE9)
    have HZ9 := Lib.hid (HZ8b.out.ext hE9)
    have HU9 := Lib.hid (HU8b.out.ext hE9)
    have HT9 := Lib.hid (HT8b.out.ext hE9)
    have HP9 := Lib.hid (HP8b.out.ext hE9)
    have HQ9 := Lib.hid (HQ8.out.ext hE9)
    obtain ⟨a9, c9, rfl⟩ := hs9.shape
    have HA9 := Lib.hid hs9
    clear hE9 hs9
    clear x0 x1 x2 x3 x4
    have x0 := (HX9.out).c0
    have x1 := (HX9.out).c1
    have x2 := (HX9.out).c2
    have x3 := (HX9.out).c3
    have x4 := (HX9.out).c4
    go_wp2_with fail
    refine (K10.out _ HV9.out).mono ?_
    rintro e w10 ⟨hE10, v10, rfl, hs10⟩
    have HE10 : RowKit.Hid (Ext w w10) := Lib.hid (Ext.trans HE9.out hE10)
    have HV10 := Lib.hid (HV9.out.ext hE10)
    have HX10 := Lib.hid (HX9.out.ext hE10)
    have HY10 := Lib.hid (HY9.out.ext hE10)
    have HZ10 := Lib.hid (HZ9.out.ext hE10)
    have HU10 := Lib.hid (HU9.out.ext hE10)
    have HT10 := Lib.hid (HT9.out.ext hE10)
    have HP10 := Lib.hid (HP9.out.ext hE10)
    have HQ10 := Lib.hid (HQ9.out.ext hE10)
    have HA10 := Lib.hid (HA9.out.ext hE10)
    obtain ⟨a10, c10, rfl⟩ := hs10.shape
    have HB10 := Lib.hid hs10
    clear hE10 hs10
    clear x0 x1 x2 x3 x4
    go_wp2_with fail
    refine (HAL.out _ HE10.out).mono ?_
    rintro e w11 ⟨rfl, hE11⟩
    have HE11 : RowKit.Hid (Ext w w11) := Lib.hid (Ext.trans HE10.out hE11)
    have HV11 := Lib.hid (HV10.out.ext hE11)
    have HX11 := Lib.hid (HX10.out.ext hE11)
    have HY11 := Lib.hid (HY10.out.ext hE11)
    have HZ11 := Lib.hid (HZ10.out.ext hE11)
    have HU11 := Lib.hid (HU10.out.ext hE11)
    have HT11 := Lib.hid (HT10.out.ext hE11)
    have HP11 := Lib.hid (HP10.out.ext hE11)
    have HQ11 := Lib.hid (HQ10.out.ext hE11)
    have HA11 := Lib.hid (HA10.out.ext hE11)
    have HB11 := Lib.hid (HB10.out.ext hE11)
    clear hE11
    go_wp2_with fail
    refine (Same_any _ _ zs zs _ HY11.out HZ11.out (by omega) (by omega)).mono ?_
    rintro e w12 ⟨rfl, hE12⟩
    have HE12 : RowKit.Hid (Ext w w12) := Lib.hid (Ext.trans HE11.out hE12)
    have HV12 := Lib.hid (HV11.out.ext hE12)
    have HX12 := Lib.hid (HX11.out.ext hE12)
    have HY12 := Lib.hid (HY11.out.ext hE12)
    have HZ12 := Lib.hid (HZ11.out.ext hE12)
    have HU12 := Lib.hid (HU11.out.ext hE12)
    have HT12 := Lib.hid (HT11.out.ext hE12)
    have HP12 := Lib.hid (HP11.out.ext hE12)
    have HQ12 := Lib.hid (HQ11.out.ext hE12)
    have HA12 := Lib.hid (HA11.out.ext hE12)
    have HB12 := Lib.hid (HB11.out.ext hE12)
    clear hE12
    rw [sameB_self]
    go_wp2_with fail
    refine (Same_any _ _ U U _ HU12.out HT12.out (by omega) (by omega)).mono ?_
    rintro e w13 ⟨rfl, hE13⟩
    have HE13 : RowKit.Hid (Ext w w13) := Lib.hid (Ext.trans HE12.out hE13)
    have HV13 := Lib.hid (HV12.out.ext hE13)
    have HX13 := Lib.hid (HX12.out.ext hE13)
    have HY13 := Lib.hid (HY12.out.ext hE13)
    have HZ13 := Lib.hid (HZ12.out.ext hE13)
    have HU13 := Lib.hid (HU12.out.ext hE13)
    have HT13 := Lib.hid (HT12.out.ext hE13)
    have HP13 := Lib.hid (HP12.out.ext hE13)
    have HQ13 := Lib.hid (HQ12.out.ext hE13)
    have HA13 := Lib.hid (HA12.out.ext hE13)
    have HB13 := Lib.hid (HB12.out.ext hE13)
    clear hE13
    rw [sameB_self]
    have heq := fun ww => eqIn_stock t0 t1 t2 t3 t4 ww
    have p0 := (HP13.out).c0
    have p1 := (HP13.out).c1
    have p2 := (HP13.out).c2
    have p3 := (HP13.out).c3
    have p4 := (HP13.out).c4
    have q0 := (HQ13.out).c0
    have q1 := (HQ13.out).c1
    have q2 := (HQ13.out).c2
    have q3 := (HQ13.out).c3
    have q4 := (HQ13.out).c4
    go_wp2_with fail
    clear heq p0 q0 p1 q1 p2 q2 p3 q3 p4 q4
    refine (Same_any _ _ A A _ HA13.out HB13.out (by omega) (by omega)).mono ?_
    rintro e w14 ⟨rfl, hE14⟩
    have HE14 : RowKit.Hid (Ext w w14) := Lib.hid (Ext.trans HE13.out hE14)
    have HV14 := Lib.hid (HV13.out.ext hE14)
    have HX14 := Lib.hid (HX13.out.ext hE14)
    have HY14 := Lib.hid (HY13.out.ext hE14)
    have HZ14 := Lib.hid (HZ13.out.ext hE14)
    have HU14 := Lib.hid (HU13.out.ext hE14)
    have HT14 := Lib.hid (HT13.out.ext hE14)
    have HP14 := Lib.hid (HP13.out.ext hE14)
    have HQ14 := Lib.hid (HQ13.out.ext hE14)
    have HA14 := Lib.hid (HA13.out.ext hE14)
    have HB14 := Lib.hid (HB13.out.ext hE14)
    clear hE14
    rw [sameB_self]
    go_wp2_with fail
    go_ret
    exact ⟨rfl, HE14.out⟩
  · have f1' := fewB_no f1
    rw [f1'] at HF
    clear f1 f1'
    go_enter Tryz.func8, Tryz.ntmps8
    go_wp2_with (go_at_call 24; refine HF.out.mono ?_; rintro e w' ⟨rfl, rfl⟩)
    refine (HAL.out _ HE0.out).mono ?_
    rintro e w1 ⟨rfl, hE1⟩
    have HE1 := Lib.hid (HE0.out.trans hE1)
    clear hE1
    go_wp2_with fail
    go_ret
    exact ⟨rfl, HE1.out⟩
end Go.Proofs.YtgjahnomafpnfaaGreatDoor
