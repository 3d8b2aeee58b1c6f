/- Lemmas and walks that this claim needs, in one text out of several; each states its own conditions. -/
import Derived.Test.YtgjahnomafpnfaaGreatDoorMB8
import Derived.Laws.BytesArg
import Derived.Test.YtgjahnomafpnfaaGreatDoorMPostBooks1
set_option linter.unusedVariables false
set_option linter.unusedSimpArgs false
/- The reference's many, formed, CheckRecord. -/
namespace Go.Proofs.YtgjahnomafpnfaaGreatDoor
open Go.RowKit
set_option maxHeartbeats 400000 in
set_option maxRecDepth 100000 in
theorem manyR_any (n : Int) (w : World) : Calls Tryz.prog 107 #[.int .i64 n] w fun e w' => e = .returned (.bool (inB n 2 5)) ∧ w' = w := by
  by_cases h1 : 2 ≤ n
  · by_cases h2 : n ≤ 5
    · rw [(inB_iff n 2 5).2 ⟨h1, h2⟩]
      go_enter Tryz.func107, Tryz.ntmps107
      go_wp2
      go_ret
      exact ⟨rfl, rfl⟩
    · rw [show inB n 2 5 = false from by unfold inB; simp; omega]
      go_enter Tryz.func107, Tryz.ntmps107
      go_wp2
      go_ret
      exact ⟨rfl, rfl⟩
  · rw [show inB n 2 5 = false from by unfold inB; simp; omega]
    go_enter Tryz.func107, Tryz.ntmps107
    go_wp2
    go_ret
    exact ⟨rfl, rfl⟩
def headB (n : Int) (x : Rec) : Bool := inB x.st 0 (n - 1) && inB x.num 1 400 && inB x.hr 0 1000000 && inB (x.txt.size : Int) 1 200
theorem headB_iff (n : Int) (x : Rec) : headB n x = true ↔ (0 ≤ x.st ∧ x.st < n) ∧ (1 ≤ x.num ∧ x.num ≤ 400) ∧ (0 ≤ x.hr ∧ x.hr ≤ 1000000) ∧ (0 < x.txt.size ∧ x.txt.size ≤ 200) := by
  simp only [headB, Bool.and_eq_true, inB_iff]
  omega
theorem formedB_head (n : Int) (x : Rec) : formedB n x = (headB n x && x.txt.data.toList.all okByte) := by
  unfold formedB headB writtenB
  simp only [Bool.and_assoc]
theorem formedB_no {n : Int} {x : Rec} (h : headB n x = false) : formedB n x = false := by rw [formedB_head, h]; rfl
theorem formedB_yes {n : Int} {x : Rec} (h : headB n x = true) : formedB n x = x.txt.data.toList.all okByte := by rw [formedB_head, h]; rfl
set_option maxHeartbeats 1600000 in
set_option maxRecDepth 100000 in
theorem formedR_any (n : Int) (x : Rec) (w : World) (ht : x.txt.size ≤ 1000000) : Calls Tryz.prog 120 #[.int .i64 n, rv x] w fun e w' => e = .returned (.bool (formedB n x)) ∧ Ext w w' := by
  obtain ⟨st, num, hr, txt⟩ := x
  have HE := Lib.hid (Ext.alloc w (.cells #[.int .i64 st, .int .i64 num, .int .i64 hr, .string txt] 49))
  simp only at ht
  cases hh : headB n ⟨st, num, hr, txt⟩
  · rw [formedB_no hh]
    have hc : st < 0 ∨ n ≤ st ∨ num < 1 ∨ 400 < num ∨ hr < 0 ∨ 1000000 < hr ∨ (txt.size : Int) ≤ 0 ∨ 200 < (txt.size : Int) := by
      have := headB_iff n ⟨st, num, hr, txt⟩
      simp only [hh, Bool.false_eq_true, false_iff] at this
      omega
    clear hh
    by_cases h1 : st < 0
    · clear hc
      go_enter Tryz.func120, Tryz.ntmps120
      go_wp2
      go_loopw [5, 6] (fun vo vi wr => ∃ k : Nat, k ≤ txt.size ∧ vi = .int .i64 k ∧ vo = .bool false ∧ w.alloc (.cells #[.int .i64 st, .int .i64 num, .int .i64 hr, .string txt] 49) = wr) (fun _ vi _ => txt.size - (intOf vi).toNat)
      case atStart => exact ⟨0, by omega, rfl, by first | rfl | (rw [decide_eq_false (by omega)]), rfl⟩
      case round =>
        obtain ⟨k, hk, rfl, rfl, rfl⟩ := hrel
        by_cases hlt : k < txt.size
        · have hlt' : (k : Int) < txt.size := by omega
          first
            | (exfalso; omega)
            | (go_wp2
               go_roundw
               case rel => exact ⟨k + 1, by omega, by go_num, rfl, trivial⟩
               case measure => simp [intOf]; omega)
        · obtain rfl : k = txt.size := by omega
          go_wp2
          go_ret
          exact ⟨rfl, HE.out⟩
    by_cases h2 : n ≤ st
    · clear hc
      go_enter Tryz.func120, Tryz.ntmps120
      go_wp2
      go_loopw [5, 6] (fun vo vi wr => ∃ k : Nat, k ≤ txt.size ∧ vi = .int .i64 k ∧ vo = .bool false ∧ w.alloc (.cells #[.int .i64 st, .int .i64 num, .int .i64 hr, .string txt] 49) = wr) (fun _ vi _ => txt.size - (intOf vi).toNat)
      case atStart => exact ⟨0, by omega, rfl, by first | rfl | (rw [decide_eq_false (by omega)]), rfl⟩
      case round =>
        obtain ⟨k, hk, rfl, rfl, rfl⟩ := hrel
        by_cases hlt : k < txt.size
        · have hlt' : (k : Int) < txt.size := by omega
          first
            | (exfalso; omega)
            | (go_wp2
               go_roundw
               case rel => exact ⟨k + 1, by omega, by go_num, rfl, trivial⟩
               case measure => simp [intOf]; omega)
        · obtain rfl : k = txt.size := by omega
          go_wp2
          go_ret
          exact ⟨rfl, HE.out⟩
    by_cases h3 : num < 1
    · clear hc
      go_enter Tryz.func120, Tryz.ntmps120
      go_wp2
      go_loopw [5, 6] (fun vo vi wr => ∃ k : Nat, k ≤ txt.size ∧ vi = .int .i64 k ∧ vo = .bool false ∧ w.alloc (.cells #[.int .i64 st, .int .i64 num, .int .i64 hr, .string txt] 49) = wr) (fun _ vi _ => txt.size - (intOf vi).toNat)
      case atStart => exact ⟨0, by omega, rfl, by first | rfl | (rw [decide_eq_false (by omega)]), rfl⟩
      case round =>
        obtain ⟨k, hk, rfl, rfl, rfl⟩ := hrel
        by_cases hlt : k < txt.size
        · have hlt' : (k : Int) < txt.size := by omega
          first
            | (exfalso; omega)
            | (go_wp2
               go_roundw
               case rel => exact ⟨k + 1, by omega, by go_num, rfl, trivial⟩
               case measure => simp [intOf]; omega)
        · obtain rfl : k = txt.size := by omega
          go_wp2
          go_ret
          exact ⟨rfl, HE.out⟩
    by_cases h4 : 400 < num
    · clear hc
      go_enter Tryz.func120, Tryz.ntmps120
      go_wp2
      go_loopw [5, 6] (fun vo vi wr => ∃ k : Nat, k ≤ txt.size ∧ vi = .int .i64 k ∧ vo = .bool false ∧ w.alloc (.cells #[.int .i64 st, .int .i64 num, .int .i64 hr, .string txt] 49) = wr) (fun _ vi _ => txt.size - (intOf vi).toNat)
      case atStart => exact ⟨0, by omega, rfl, by first | rfl | (rw [decide_eq_false (by omega)]), rfl⟩
      case round =>
        obtain ⟨k, hk, rfl, rfl, rfl⟩ := hrel
        by_cases hlt : k < txt.size
        · have hlt' : (k : Int) < txt.size := by omega
          first
            | (exfalso; omega)
            | (go_wp2
               go_roundw
               case rel => exact ⟨k + 1, by omega, by go_num, rfl, trivial⟩
               case measure => simp [intOf]; omega)
        · obtain rfl : k = txt.size := by omega
          go_wp2
          go_ret
          exact ⟨rfl, HE.out⟩
    by_cases h5 : hr < 0
    · clear hc
      go_enter Tryz.func120, Tryz.ntmps120
      go_wp2
      go_loopw [5, 6] (fun vo vi wr => ∃ k : Nat, k ≤ txt.size ∧ vi = .int .i64 k ∧ vo = .bool false ∧ w.alloc (.cells #[.int .i64 st, .int .i64 num, .int .i64 hr, .string txt] 49) = wr) (fun _ vi _ => txt.size - (intOf vi).toNat)
      case atStart => exact ⟨0, by omega, rfl, by first | rfl | (rw [decide_eq_false (by omega)]), rfl⟩
      case round =>
        obtain ⟨k, hk, rfl, rfl, rfl⟩ := hrel
        by_cases hlt : k < txt.size
        · have hlt' : (k : Int) < txt.size := by omega
          first
            | (exfalso; omega)
            | (go_wp2
               go_roundw
               case rel => exact ⟨k + 1, by omega, by go_num, rfl, trivial⟩
               case measure => simp [intOf]; omega)
        · obtain rfl : k = txt.size := by omega
          go_wp2
          go_ret
          exact ⟨rfl, HE.out⟩
    by_cases h6 : 1000000 < hr
    · clear hc
      go_enter Tryz.func120, Tryz.ntmps120
      go_wp2
      go_loopw [5, 6] (fun vo vi wr => ∃ k : Nat, k ≤ txt.size ∧ vi = .int .i64 k ∧ vo = .bool false ∧ w.alloc (.cells #[.int .i64 st, .int .i64 num, .int .i64 hr, .string txt] 49) = wr) (fun _ vi _ => txt.size - (intOf vi).toNat)
      case atStart => exact ⟨0, by omega, rfl, by first | rfl | (rw [decide_eq_false (by omega)]), rfl⟩
      case round =>
        obtain ⟨k, hk, rfl, rfl, rfl⟩ := hrel
        by_cases hlt : k < txt.size
        · have hlt' : (k : Int) < txt.size := by omega
          first
            | (exfalso; omega)
            | (go_wp2
               go_roundw
               case rel => exact ⟨k + 1, by omega, by go_num, rfl, trivial⟩
               case measure => simp [intOf]; omega)
        · obtain rfl : k = txt.size := by omega
          go_wp2
          go_ret
          exact ⟨rfl, HE.out⟩
    by_cases h7 : (txt.size : Int) ≤ 0
    · clear hc
      go_enter Tryz.func120, Tryz.ntmps120
      go_wp2
      go_loopw [5, 6] (fun vo vi wr => ∃ k : Nat, k ≤ txt.size ∧ vi = .int .i64 k ∧ vo = .bool false ∧ w.alloc (.cells #[.int .i64 st, .int .i64 num, .int .i64 hr, .string txt] 49) = wr) (fun _ vi _ => txt.size - (intOf vi).toNat)
      case atStart => exact ⟨0, by omega, rfl, by first | rfl | (rw [decide_eq_false (by omega)]), rfl⟩
      case round =>
        obtain ⟨k, hk, rfl, rfl, rfl⟩ := hrel
        by_cases hlt : k < txt.size
        · have hlt' : (k : Int) < txt.size := by omega
          first
            | (exfalso; omega)
            | (go_wp2
               go_roundw
               case rel => exact ⟨k + 1, by omega, by go_num, rfl, trivial⟩
               case measure => simp [intOf]; omega)
        · obtain rfl : k = txt.size := by omega
          go_wp2
          go_ret
          exact ⟨rfl, HE.out⟩
    have h8 : 200 < (txt.size : Int) := by omega
    clear hc
    go_enter Tryz.func120, Tryz.ntmps120
    go_wp2
    go_loopw [5, 6] (fun vo vi wr => ∃ k : Nat, k ≤ txt.size ∧ vi = .int .i64 k ∧ vo = .bool false ∧ w.alloc (.cells #[.int .i64 st, .int .i64 num, .int .i64 hr, .string txt] 49) = wr) (fun _ vi _ => txt.size - (intOf vi).toNat)
    case atStart => exact ⟨0, by omega, rfl, by first | rfl | (rw [decide_eq_false (by omega)]), rfl⟩
    case round =>
      obtain ⟨k, hk, rfl, rfl, rfl⟩ := hrel
      by_cases hlt : k < txt.size
      · have hlt' : (k : Int) < txt.size := by omega
        first
          | (exfalso; omega)
          | (go_wp2
             go_roundw
             case rel => exact ⟨k + 1, by omega, by go_num, rfl, trivial⟩
             case measure => simp [intOf]; omega)
      · obtain rfl : k = txt.size := by omega
        go_wp2
        go_ret
        exact ⟨rfl, HE.out⟩
  · rw [formedB_yes hh]
    have hc := (headB_iff n ⟨st, num, hr, txt⟩).1 hh
    simp only at hc
    obtain ⟨⟨c1, c2⟩, ⟨c3, c4⟩, ⟨c5, c6⟩, ⟨c7, c8⟩⟩ := hc
    have c7' : (0 : Int) < txt.size := by omega
    have c8' : (txt.size : Int) ≤ 200 := by omega
    clear hh
    go_enter Tryz.func120, Tryz.ntmps120
    go_wp2
    go_loopw [5, 6] (fun vo vi wr => ∃ k : Nat, k ≤ txt.size ∧ vi = .int .i64 k ∧ vo = .bool ((txt.data.toList.take k).all okByte) ∧ w.alloc (.cells #[.int .i64 st, .int .i64 num, .int .i64 hr, .string txt] 49) = wr) (fun _ vi _ => txt.size - (intOf vi).toNat)
    case atStart => exact ⟨0, by omega, rfl, rfl, rfl⟩
    case round =>
      obtain ⟨k, hk, rfl, rfl, rfl⟩ := hrel
      by_cases hlt : k < txt.size
      · have hlt' : (k : Int) < txt.size := by omega
        have hc : txt.data.toList[k]? = some (txt[k]'hlt) := by rw [Array.getElem?_toList]; exact Array.getElem?_eq_getElem hlt
        have hstep : (txt.data.toList.take (k + 1)).all okByte = ((txt.data.toList.take k).all okByte && okByte (txt[k]'hlt)) := by rw [List.take_add_one, hc]; simp
        clear hc
        cases hb : (txt.data.toList.take k).all okByte
        · rw [hb] at hstep
          go_wp2
          go_roundw
          case rel => exact ⟨k + 1, by omega, by go_num, by rw [hstep]; rfl, trivial⟩
          case measure => simp [intOf]; omega
        · rw [hb] at hstep
          go_wp2
          all_goals
            go_roundw
            case rel =>
              refine ⟨k + 1, by omega, by go_num, congrArg Value.bool ?_, trivial⟩
              rw [hstep, Bool.true_and, Bool.eq_iff_iff]
              unfold okByte inB
              simp only [Bool.and_eq_true, decide_eq_true_eq, Bool.false_eq_true]
              first
                | omega
                | (constructor
                   · intro h; cases h
                   · intro h; exfalso; omega)
            case measure => simp [intOf]; omega
      · obtain rfl : k = txt.size := by omega
        rw [show txt.data.toList.take txt.size = txt.data.toList from List.take_of_length_le (by rw [Array.length_toList]; exact Nat.le_refl _)]
        go_wp2
        go_ret
        exact ⟨rfl, HE.out⟩
set_option maxHeartbeats 800000 in
set_option maxRecDepth 100000 in
theorem CheckRecordR_any (n : Int) (x : Rec) (w : World) (ht : x.txt.size ≤ 1000000) : Calls Tryz.prog 64 #[.int .i64 n, rv x] w fun e w' => e = .returned (.int .i64 (checkE n x)) ∧ Ext w w' := by
  have HF := Lib.hid (fun w => formedR_any n x w ht)
  have hE1 : Ext w (w.alloc (.cells #[.int .i64 x.st, .int .i64 x.num, .int .i64 x.hr, .string x.txt] 49)) := Ext.alloc _ _
  have HE1 := Lib.hid hE1
  clear hE1
  unfold checkE
  cases h1 : inB n 2 5 <;> cases h2 : formedB n x <;>
    (have H1 := Lib.hid h1
     have H2 := Lib.hid h2
     clear h1 h2
     go_enter Tryz.func64, Tryz.ntmps64
     go_wp2_with (first | (go_at_call 107; refine (manyR_any _ _).mono ?_; rw [H1.out]; rintro e w' ⟨rfl, rfl⟩) | (go_at_call 120; refine (HF.out _).mono ?_; rw [H2.out]; rintro e w' ⟨rfl, hE2⟩))
     go_ret
     exact ⟨rfl, HE1.out.trans hE2⟩)
end Go.Proofs.YtgjahnomafpnfaaGreatDoor

/- (*Disk).Crash. -/
namespace Go.Proofs.YtgjahnomafpnfaaGreatDoor
open Go.RowKit
/-- What a crash leaves of a sector that was being written: the first c bytes are new. -/
def mixS (c : Nat) (s t : Sec) : Sec := s.take c ++ t.drop c
theorem mixS_length {c : Nat} {s t : Sec} (hs : s.length = 64) (ht : t.length = 64) (hc : c ≤ 64) : (mixS c s t).length = 64 := by simp [mixS]; omega
def clampN (c : Int) : Nat := (min (max c 0) 64).toNat
theorem clampN_le (c : Int) : clampN c ≤ 64 := by unfold clampN; omega
def crashStep (K : List Sec) (x : (Nat × Sec) × Int) : List Sec := K.set x.1.1 (mixS (clampN x.2) x.1.2 (K.getD x.1.1 []))
def crashK (kept : List Sec) (xs : List ((Nat × Sec) × Int)) : List Sec := xs.foldl crashStep kept
theorem crashK_snoc (kept : List Sec) (xs : List ((Nat × Sec) × Int)) (k : Nat) (x : (Nat × Sec) × Int) (h : xs[k]? = some x) : crashK kept (xs.take (k + 1)) = crashStep (crashK kept (xs.take k)) x := by
  rw [List.take_add_one, h]
  simp [crashK]
theorem take_end {α : Type} (xs : List α) (k : Nat) (h : xs.length ≤ k) : xs.take (k + 1) = xs.take k := by rw [List.take_of_length_le h, List.take_of_length_le (by omega)]
def crashP (m : Dk) (keep : List Int) : Dk := { m with kept := crashK m.kept (m.writes.zip keep), now := crashK m.kept (m.writes.zip keep), writes := [], stops := false, down := false }
theorem SlI.frB {w w' : World} {v : Value} {xs : List Int} (h : SlI w v xs) {S : Nat → Prop} (hF : FrB S w w') (hn : ∀ g, v.ownBlock = some g → ¬ S g) : SlI w' v xs := by
  rcases h with h | ⟨b, off, cap, h1, h2, h3, h4, h5⟩
  · exact .inl h
  · exact .inr ⟨b, off, cap, h1, h2, h3, Nat.lt_of_lt_of_le h4 hF.size, fun j u hu => (hF.cell h4 (hn b (by rw [h1]; rfl))).trans (h5 j u hu)⟩
theorem SlI.at {w : World} {a : Option Addr} {c : Nat} {xs : List Int} (h : SlI w (.slice a xs.length c) xs) {k : Nat} {x : Int} (hk : xs[k]? = some x) : ∃ q off, a = some ⟨q, off, none⟩ ∧ w.cell? ⟨q, off + k, none⟩ = some (.int .i64 x) := by
  obtain ⟨ao, cap, h1, h2⟩ := h.open
  simp only [Value.slice.injEq] at h1
  obtain ⟨b, off, h3, h4⟩ := h2 k x hk
  exact ⟨b, off, h1.1.trans h3, h4⟩
section
variable {w : World} {base n D N K : Nat} {wv : Value} {m : Dk}
theorem range_setPart {w : World} {g i k : Nat} {l : List Sec} (hl : ∀ s ∈ l, s.length = 64) (h : w.rangeAt g 0 (flatS l)) (ht : w.there g 0 (k * 64)) (hk : l.length = k) (s : Sec) (hs : s.length = 64) (hi : i < k) (c : Nat) (hc : c ≤ 64) : (w.setCells g (i * 64) (scells (s.take c))).rangeAt g 0 (flatS (l.set i (mixS c s (l.getD i [])))) := by
  have hi' : l[i]? = some (l.getD i []) := by rw [List.getD_eq_getElem?_getD, List.getElem?_eq_getElem (by omega)]; rfl
  have ho := hl _ (List.mem_of_getElem? hi')
  have hm := mixS_length hs ho hc
  generalize l.getD i [] = old at hi' ho hm ⊢
  intro j v hv
  rw [flatS_set l hl i _ hm (by omega) j] at hv
  rw [Nat.zero_add]
  split at hv
  · rename_i hj
    by_cases hjc : j - i * 64 < c
    · have hl : j - i * 64 < (scells (s.take c)).length := by rw [scells_length, List.length_take]; omega
      have := World.cell?_setCells_in g (scells (s.take c)) (i * 64) w (fun q hq => by
        rw [scells_length, List.length_take] at hq
        have := (ht (i * 64 + q) (by omega)).1
        rwa [Nat.zero_add] at this) (j - i * 64) hl
      rw [show i * 64 + (j - i * 64) = j from by omega] at this
      rw [this, ← hv, ← List.getElem?_eq_getElem hl]
      simp only [mixS, scells, List.map_append]
      rw [List.getElem?_append_left (by simp; omega)]
    · rw [World.cell?_setCells_out g (scells (s.take c)) (i * 64) w ⟨g, j, none⟩ (fun _ _ => by rw [scells_length, List.length_take, hs]; show j < i * 64 ∨ i * 64 + min c 64 ≤ j; omega)]
      have := h j v (by
        rw [show j = i * 64 + (j - i * 64) from by omega, flatS_get l hl i (j - i * 64) old hi' (by omega), ← hv]
        simp only [mixS, scells, List.map_append, List.map_drop]
        rw [List.getElem?_append_right (by simp; omega), List.getElem?_drop]
        congr 1
        simp; omega)
      rwa [Nat.zero_add] at this
  · rename_i hj
    rw [World.cell?_setCells_out g (scells (s.take c)) (i * 64) w ⟨g, j, none⟩ (fun _ _ => by rw [scells_length, List.length_take, hs]; show j < i * 64 ∨ i * 64 + min c 64 ≤ j; omega)]
    simpa using h j v hv
/-- The first bytes of a sector are written. -/
theorem DkX.setKeptPart (h : DkX w base n D N K wv m) (i : Nat) (s : Sec) (hs : s.length = 64) (hi : i < n) (c : Nat) (hc : c ≤ 64) : DkX (w.setCells K (i * 64) (scells (s.take c))) base n D N K wv { m with kept := m.kept.set i (mixS c s (m.kept.getD i [])) } := by
  have hF := FrB.setCells (fun j => j = K) w K (i * 64) (scells (s.take c)) rfl
  have kD := fun o => hF.cell (o := o) h.lt.1 h.ne.2.1
  have hi' : m.kept[i]? = some (m.kept.getD i []) := by rw [List.getD_eq_getElem?_getD, List.getElem?_eq_getElem (by have := h.ok.kept; omega)]; rfl
  refine ⟨⟨h.ok.now, by simpa using h.ok.kept, h.ok.nows, fun x hx => ?_, h.ok.ats, h.ok.pos, h.ok.most, h.ok.calls, h.ok.i64⟩, (kD 0).trans h.c0, (kD 1).trans h.c1, (kD 2).trans h.c2, (kD 3).trans h.c3, (kD 4).trans h.c4, (kD 5).trans h.c5, fun i hi => (hF.frozen h.lt.1 h.ne.2.1).trans (h.free i hi),
    fun j v hv => (hF.cell h.lt.2.1 h.ne.2.2).trans (h.rn j v hv), fun j hj => ?_, range_setPart h.ok.kepts h.rk h.tk h.ok.kept s hs hi c hc, World.there_setCells h.tk _ _ _, owns_setCells h.row h.off.2.2 _ _, h.ge, by rw [size_setCells]; exact h.lt, h.ne, h.off, by rw [size_setCells]; exact h.le⟩
  · rcases List.mem_or_eq_of_mem_set hx with q | q
    · exact h.ok.kepts x q
    · rw [q]; exact mixS_length hs (h.ok.kepts _ (List.mem_of_getElem? hi')) hc
  · rw [hF.cell h.lt.2.1 h.ne.2.2, hF.frozen h.lt.2.1 h.ne.2.2]; exact h.tn j hj
/-- All sectors are written. -/
theorem DkX.setNowAll (h : DkX w base n D N K wv m) : DkX (w.setCells N 0 (flatS m.kept)) base n D N K wv { m with now := m.kept } := by
  have hF := FrB.setCells (fun j => j = N) w N 0 (flatS m.kept) rfl
  have kD := fun o => hF.cell (o := o) h.lt.1 h.ne.1
  have hlen := flatS_length m.kept h.ok.kepts
  rw [h.ok.kept] at hlen
  refine ⟨⟨h.ok.kept, h.ok.kept, h.ok.kepts, h.ok.kepts, h.ok.ats, h.ok.pos, h.ok.most, h.ok.calls, h.ok.i64⟩, (kD 0).trans h.c0, (kD 1).trans h.c1, (kD 2).trans h.c2, (kD 3).trans h.c3, (kD 4).trans h.c4, (kD 5).trans h.c5, fun i hi => (hF.frozen h.lt.1 h.ne.1).trans (h.free i hi),
    World.rangeAt_setCells_same _ _ _ _ (by rw [hlen]; exact h.tn), World.there_setCells h.tn _ _ _, fun j v hv => (hF.cell h.lt.2.2 (Ne.symm h.ne.2.2)).trans (h.rk j v hv), fun j hj => ?_, owns_setCells h.row h.off.2.1 _ _, h.ge, by rw [size_setCells]; exact h.lt, h.ne, h.off, by rw [size_setCells]; exact h.le⟩
  rw [hF.cell h.lt.2.2 (Ne.symm h.ne.2.2), hF.frozen h.lt.2.2 (Ne.symm h.ne.2.2)]; exact h.tk j hj
end
theorem wpList_copyV {ops : Array Oper} {rest : List Oper} {o : Oper} {a : Act} {w : World} {Q : Exit → Act → World → Prop} (hg : o.guard = none) (d s : Operand) (t t' : TypeId)
    (ho : o.op = .call { callee := .builtin .copy, args := #[d, s], argTypes := #[t, t'] }) (v u : Value) (hd : a.eval d = v) (hs : a.eval s = u) {v' : Value} {w' : World}
    (hr : (Builtin.copy_ #[t, t'] o.type #[v, u]).run Tryz.prog w = .ok v' w') (h : wpList Tryz.prog ops Q rest (a.put o.dst v') w') : wpList Tryz.prog ops Q (o :: rest) a w := by
  refine wpList_plain hg fun K hK => ?_
  unfold Oper.wp execOp
  simp only [ho, resolve, invoke, builtin, Sem.run_bind, Sem.run_pure, Result.andThen_ok, List.map_toArray, List.map_cons, List.map_nil, hd, hs, hr]
  exact hK _ _ h
/-- A copy of elements of several cells. -/
theorem run_copy_wide (w : World) (dT sT ty elem : TypeId) (b o dLen dCap : Nat) (a : Addr) (sLen sCap sz : Nat) (cs : List Value)
    (hu : Tryz.prog.underlying dT = some (.slice elem)) (hs : (Tryz.prog.info? elem).map (·.size) = some sz) (hn : cs.length = Nat.min sLen dLen * sz)
    (hsrc : ∀ j v, cs[j]? = some v → w.cell? (a.add j) = some v) (ht : w.there b o cs.length) (h1 : ∀ v ∈ cs, v.oneCell' = true) :
    (Builtin.copy_ #[dT, sT] ty #[.slice (some ⟨b, o, none⟩) dLen dCap, .slice (some a) sLen sCap]).run Tryz.prog w = .ok (goInt (Nat.min sLen dLen)) (w.setCells b o cs) := by
  have hl := run_loadCells_list (P := Tryz.prog) w a cs hsrc
  have hst := run_storeCells_cells (P := Tryz.prog) b o cs 0 w (fun j hj => (by simpa using (ht j hj).1)) (fun j hj => (by simpa using (ht j hj).2)) h1
  cases hq : Tryz.prog.info? elem with
  | none => simp [hq] at hs
  | some i =>
    have hi : i.size = sz := by simpa [hq] using hs
    simp [Builtin.copy_, run_underlying hu, Builtin.lenOf, Builtin.firstCells, sizeOf, typeInfo, hq, hi, ← hn, hl, hst]
theorem info157s : (Tryz.prog.info? 157).map (·.size) = some 64 := by kernel_rfl
theorem flatS_oneCell (l : List Sec) : ∀ u ∈ flatS l, u.oneCell' = true := by
  intro u hu
  obtain ⟨s, _, h⟩ := List.mem_flatMap.1 hu
  exact scells_oneCell s u h
set_option maxHeartbeats 800000 in
set_option maxRecDepth 100000 in
theorem Crash_any {w : World} {base n D N K : Nat} {wv : Value} {m : Dk} (h : DkX w base n D N K wv m) (v : Value) (keep : List Int) (hv : SlI w v keep) (hvS : ∀ g, v.ownBlock = some g → ¬ dkS D N K wv g) (hn : m.writes.length ≤ 1000000) :
    Calls Tryz.prog 39 #[.pointer (some ⟨D, 0, none⟩), v] w fun e w' => e = .returned (.tuple #[]) ∧ DkStep w w' base n D N K wv (.slice none 0 0) (crashP m keep) := by
  obtain ⟨ao, cap, rfl, hws⟩ := h.writes_at
  obtain ⟨av, cv, rfl, _⟩ := hv.open
  have c2 := h.c2
  have HX1 := Lib.hid h
  have HWS := Lib.hid hws
  have HV := Lib.hid (And.intro hv hvS)
  clear h hws hv hvS
  go_enter Tryz.func39, Tryz.ntmps39
  go_wp2
  go_loopw [4, 5, 13] (fun _ _ i wr => ∃ k : Nat, k ≤ m.writes.length ∧ i = .int .i64 k ∧ DkX wr base n D N K (.slice ao m.writes.length cap) { m with kept := crashK m.kept ((m.writes.zip keep).take k) } ∧ FrB (fun j => j = K) w wr) (fun _ _ i _ => m.writes.length - (intOf i).toNat)
  case atStart => exact ⟨0, by omega, rfl, HX1.out, FrB.refl _ _⟩
  case round =>
    obtain ⟨k, hk, rfl, hX, hF⟩ := hrel
    have HX := Lib.hid hX
    have HF := Lib.hid hF
    by_cases hlt : k < m.writes.length
    · obtain ⟨p, hp⟩ : ∃ p, m.writes[k]? = some p := ⟨_, List.getElem?_eq_getElem hlt⟩
      obtain ⟨q, rfl, hrq, hq, hqn⟩ := HWS.out k p hp
      have hrr : wr.rangeAt q (k * 65) (pcells p) := fun j u hu => (HF.out.cell hq (fun e => hqn (.inr (.inr e)))).trans (hrq j u hu)
      have hp2 := HX1.out.ok.ats p (List.mem_of_getElem? hp)
      have hpl := pcells_length hp2.2
      have hlt' : (k : Int) < m.writes.length := by omega
      obtain ⟨w2, l1, l2, l3, l4⟩ := laid_new wr (pcells p) (#[.int .i64 0] ++ Array.replicate 64 (.int .u8 0)) 159 (by rw [hpl]; simp) (pcells_oneCell p)
      clear hX hF hrq
      by_cases hkl : k < keep.length
      · obtain ⟨x, hx⟩ : ∃ x, keep[k]? = some x := ⟨_, List.getElem?_eq_getElem hkl⟩
        have hkl' : (k : Int) < keep.length := by omega
        go_wp2_with (first | (refine wpList_load_mid rfl 159 (.tmp 16) rfl q (k * 65) rfl (pcells p) _ hrr Tryz.underlying159 rfl (size159 _ hpl) ?_) | (refine wpList_allocV rfl 159 rfl _ (run_alloc159 _) ?_))
        have HX2 := Lib.hid (HX.out.ext l2)
        have L2 := Lib.hid l2
        have r0 : w2.cell? ⟨wr.heap.size, 0, none⟩ = some (.int .i64 p.1) := l3 0 _ rfl
        have r1 : w2.rangeAt wr.heap.size 1 (scells p.2) := fun j u hu => by have := l3 (j + 1) u (by simpa [pcells] using hu); rwa [Nat.zero_add, Nat.add_comm] at this
        have d1 := HX2.out.c1
        have hvK : ∀ g, (Value.slice av keep.length cv).ownBlock = some g → ¬ g = K := fun g hg e => HV.out.2 g hg (.inr (.inr (.inl e)))
        obtain ⟨kb, ko, rfl, k5⟩ := SlI.at ((HV.out.1.frB HF.out hvK).ext l2) hx
        have HC := Lib.hid (clampN_le x)
        have hatz : (p.1 : Int) < n := by omega
        clear l1 l2 l3 hvK
        refine wp_drawn 16 (by kernel_rfl) (by kernel_rfl) (fun _ => none) (fun j φ hφ => by cases hφ) ?_
        intro ν
        simp only [List.take_succ_cons, List.take_zero]
        iterate 15 (refine Seq.pure ?_ rfl (fun w' hw hf => ?_) ?_; rotate_left; (· (have e1 := hw.keep (w := World.drew _) d1; have e0 := hw.keep (w := World.drew _) r0; have e5 := hw.keep (w := World.drew _) k5; unfold pureG; go_simp; with_reducible rfl)); simp only [Act.put, List.setIfInBounds_toArray, List.set_cons_zero, List.set_cons_succ, Nat.reduceAdd, Nat.zero_add])
        have hcx : min (max x 0) 64 = ((clampN x : Nat) : Int) := by unfold clampN; omega
        rw [hcx]
        clear hcx
        obtain ⟨c, hcc⟩ : ∃ c, clampN x = c := ⟨_, rfl⟩
        rw [hcc] at HC ⊢
        have hc64 := HC.out
        have hc64' : (c : Int) ≤ 64 := by omega
        iterate 1 (refine Seq.pure ?_ rfl (fun w' hw hf => ?_) ?_; rotate_left; (· (skip; unfold pureG; go_simp; with_reducible rfl)); simp only [Act.put, List.setIfInBounds_toArray, List.set_cons_zero, List.set_cons_succ, Nat.reduceAdd, Nat.zero_add])
        refine Seq.nil fun w3 hw3 hf3 => tail_one (i := 16) (by kernel_rfl) rfl (by kernel_rfl) rfl ?_
        have HX3 := Lib.hid (HX2.out.ext ((Ext.drew w2).trans hw3))
        have hcl : (scells (p.2.take c)).length = c := by rw [scells_length, List.length_take, hp2.2]; omega
        have htk : ∀ j, j < c → (w3.cell? ⟨K, p.1 * 64 + j, none⟩).isSome = true ∧ w3.frozen? ⟨K, p.1 * 64 + j, none⟩ = false := fun j hj => by have := HX3.out.tk (p.1 * 64 + j) (by omega); rwa [Nat.zero_add] at this
        refine wpList_copyV rfl (.tmp 29) (.tmp 37) 69 69 rfl _ _ rfl rfl (run_copy_cells (P := Tryz.prog) w3 69 69 _ 5 K (p.1 * 64) 64 64 ⟨wr.heap.size, 1, none⟩ c 64 (scells (p.2.take c)) Tryz.underlying69 info5 (by rw [hcl]; exact (Nat.min_eq_left hc64).symm) (fun j u hu => ?_) (fun j hj => (htk j (by omega)).1) (fun j hj => (htk j (by omega)).2) (scells_oneCell _)) ?_
        · rw [Addr.add_mid]
          refine hw3.keep (w := World.drew _) (r1 j u ?_)
          unfold scells at hu ⊢
          rw [List.map_take, List.getElem?_take] at hu
          split at hu
          · exact hu
          · cases hu
        have HX4 := Lib.hid (HX3.out.setKeptPart p.1 p.2 hp2.2 hp2.1 c hc64)
        have HF4 := Lib.hid (((HF.out.trans (FrB.ext L2.out) (S' := fun _ => False) (fun _ _ e => e.elim)).trans (FrB.ext ((Ext.drew w2).trans hw3)) (S' := fun _ => False) (fun _ _ e => e.elim)).trans (FrB.setCells (fun j => j = K) w3 K (p.1 * 64) (scells (p.2.take c)) rfl) (fun _ _ e => e))
        simp only [Act.put]
        generalize w3.setCells K (p.1 * 64) (scells (p.2.take c)) = w4 at HX4 HF4
        go_wp2
        go_roundw
        case rel =>
          have := HX4.out
          rw [← hcc] at this
          refine ⟨k + 1, by omega, by go_num, ?_, HF4.out⟩
          rw [crashK_snoc _ _ _ (p, x) (by rw [List.getElem?_zip_eq_some]; exact ⟨hp, hx⟩)]
          exact this
        case measure => simp [intOf]; omega
      · have hkl' : ¬ ((k : Int) < keep.length) := by omega
        go_wp2_with (first | (refine wpList_load_mid rfl 159 (.tmp 16) rfl q (k * 65) rfl (pcells p) _ hrr Tryz.underlying159 rfl (size159 _ hpl) ?_) | (refine wpList_allocV rfl 159 rfl _ (run_alloc159 _) ?_))
        go_roundw
        case rel =>
          refine ⟨k + 1, by omega, by go_num, ?_, HF.out.trans (FrB.ext l2) (S' := fun _ => False) (fun _ _ e => e.elim)⟩
          rw [take_end _ _ (by rw [List.length_zip]; omega)]
          exact HX.out.ext l2
        case measure => simp [intOf]; omega
    · obtain rfl : k = m.writes.length := by omega
      have hXe := hX
      rw [List.take_of_length_le (by rw [List.length_zip]; omega)] at hXe
      have c0 := hXe.c0
      have c1 := hXe.c1
      have HXe := Lib.hid hXe
      clear hX hF hXe
      go_wp2_with fail
      refine wp_drawn 8 (by kernel_rfl) (by kernel_rfl) (fun _ => none) (fun j φ hφ => by cases hφ) ?_
      intro ν
      simp only [List.take_succ_cons, List.take_zero]
      iterate 8 (refine Seq.pure ?_ rfl (fun w' hw hf => ?_) ?_; rotate_left; (· (have e0 := hw.keep (w := World.drew _) c0; have e1 := hw.keep (w := World.drew _) c1; unfold pureG; go_simp; with_reducible rfl)); simp only [Act.put, List.setIfInBounds_toArray, List.set_cons_zero, List.set_cons_succ, Nat.reduceAdd, Nat.zero_add])
      refine Seq.nil fun w3 hw3 hf3 => tail_one (i := 8) (by kernel_rfl) rfl (by kernel_rfl) rfl ?_
      have HX3 := Lib.hid (HXe.out.ext ((Ext.drew wr).trans hw3))
      obtain ⟨M, hM⟩ : ∃ M, crashK m.kept (m.writes.zip keep) = M := ⟨_, rfl⟩
      rw [hM] at HX3
      have hlen : (flatS M).length = n * 64 := by rw [flatS_length M HX3.out.ok.kepts]; exact congrArg (· * 64) HX3.out.ok.kept
      refine wpList_copyV rfl (.tmp 43) (.tmp 47) 152 152 rfl _ _ rfl rfl (run_copy_wide w3 152 152 _ 157 N 0 n n ⟨K, 0, none⟩ n n 64 (flatS M) Tryz.underlying152 info157s (by rw [hlen]; exact congrArg (· * 64) (Nat.min_self n).symm) (fun j u hu => by rw [Addr.add_mid]; exact HX3.out.rk j u hu) (by rw [hlen]; exact HX3.out.tn) (flatS_oneCell _)) ?_
      have HX4 := Lib.hid HX3.out.setNowAll
      have HF4 := Lib.hid ((HF.out.trans (FrB.ext ((Ext.drew wr).trans hw3)) (S' := fun _ => False) (fun _ _ e => e.elim) |>.mono (S' := dkS D N K (.slice ao m.writes.length cap)) (fun _ _ e => .inr (.inr (.inl e)))).trans (FrB.setCells (dkS D N K (.slice ao m.writes.length cap)) w3 N 0 (flatS M) (.inr (.inl rfl))) (fun _ _ e => e))
      simp only [Act.put] at HX4 ⊢
      generalize w3.setCells N 0 (flatS M) = w4 at HX4 HF4 ⊢
      have c2 := HX4.out.c2
      have c3 := HX4.out.c3
      have c5 := HX4.out.c5
      have f2 := HX4.out.free 2 (by omega)
      have f3 := HX4.out.free 3 (by omega)
      have f5 := HX4.out.free 5 (by omega)
      go_wp2
      refine bodyPost_end (results_none rfl _ _ _) rfl ⟨rfl, ?_, ?_, fun j hj => by cases hj⟩
      · have := ((HX4.out.setWrites (.slice none 0 0) [] (World.ownsRow_nil _ _ _ _) (by simp [Value.ownBlock]) (fun p hp => by cases hp)).setStops false (fun e => by cases e)).setDown false
        unfold crashP
        rw [hM]
        exact this
      · exact ((HF4.out.trans (FrB.setCell (dkS D N K _) _ _ _ (.inl rfl)) (fun _ _ e => e)).trans (FrB.setCell (dkS D N K _) _ _ _ (.inl rfl)) (fun _ _ e => e)).trans (FrB.setCell (dkS D N K _) _ _ _ (.inl rfl)) (fun _ _ e => e)
end Go.Proofs.YtgjahnomafpnfaaGreatDoor

/- The reference's Digits and Row. -/
namespace Go.Proofs.YtgjahnomafpnfaaGreatDoor
open Go.RowKit
theorem itoaB_nat (n : Nat) : itoaB (n : Int) = ⟨(Lib.decDigits n).toArray⟩ := by unfold itoaB; rw [Lib.itoa_nonneg]
theorem itoaB_small (n : Nat) (h : n < 10) : itoaB (n : Int) = ⟨#[UInt8.ofNat (48 + n)]⟩ := by rw [itoaB_nat, Lib.decDigits, dif_pos h]
theorem itoaB_big (n : Nat) (h : ¬ n < 10) : itoaB (n : Int) = itoaB ((n / 10 : Nat) : Int) ++ itoaB ((n % 10 : Nat) : Int) := by
  rw [itoaB_nat, Lib.decDigits, dif_neg h, itoaB_small (n % 10) (by omega), itoaB_nat]
  apply ByteArray.ext
  rw [ByteArray.data_append]
  simp
theorem conv_one (n : Nat) (h : n < 10) (w : World) : (convert 69 9 (.slice (some ⟨w.heap.size, 0, none⟩) 1 1)).run Tryz.prog (w.alloc (.cells #[.int .u8 (48 + n)] 5)) = .ok (.string ⟨#[UInt8.ofNat (48 + n)]⟩) (w.alloc (.cells #[.int .u8 (48 + n)] 5)) := by
  rw [run_convert_bytes_arg (P := Tryz.prog) (w.alloc (.cells #[.int .u8 (48 + n)] 5)) 69 5 Tryz.underlying69 Tryz.underlying5 w.heap.size 0 1 1 [(48 + n : Int)] rfl (fun i hi => by
    obtain rfl : i = 0 := by omega
    rw [World.cell?_alloc_new]; rfl) 9 Tryz.underlying9]
  rfl
set_option maxHeartbeats 800000 in
set_option maxRecDepth 100000 in
theorem Digits_any : ∀ (n : Nat) (w : World), n ≤ 9000000000000000000 → Calls Tryz.prog 114 #[.int .i64 n] w fun e w' => e = .returned (.string (itoaB n)) ∧ Ext w w' := by
  intro n
  induction n using Nat.strongRecOn with
  | _ n ih =>
    intro w hn
    by_cases h : n < 10
    · rw [itoaB_small n h]
      have h' : (n : Int) < 10 := by omega
      have hcv := conv_one n h w
      generalize UInt8.ofNat (48 + n) = c at hcv ⊢
      have HE := Lib.hid (Ext.alloc w (.cells #[.int .u8 (48 + n)] 5))
      clear ih
      go_enter Tryz.func114, Tryz.ntmps114
      go_wp2
      go_ret
      exact ⟨rfl, HE.out⟩
    · rw [itoaB_big n h]
      have h' : ¬ ((n : Int) < 10) := by omega
      have h1 := fun w => ih (n / 10) (by omega) w (by omega)
      have h2 := fun w => ih (n % 10) (by omega) w (by omega)
      have z1 := itoaB_size ((n / 10 : Nat) : Int) (by omega) (by omega)
      have z2 := itoaB_size ((n % 10 : Nat) : Int) (by omega) (by omega)
      generalize itoaB ((n / 10 : Nat) : Int) = D1 at *
      generalize itoaB ((n % 10 : Nat) : Int) = D2 at *
      rw [show ((n / 10 : Nat) : Int) = (n : Int) / 10 from by omega] at h1
      rw [show ((n % 10 : Nat) : Int) = (n : Int) % 10 from by omega] at h2
      have H1 := Lib.hid h1
      have H2 := Lib.hid h2
      clear ih h1 h2
      go_enter Tryz.func114, Tryz.ntmps114
      go_wp2_with fail
      refine (H1.out _).mono ?_
      rintro e w1 ⟨rfl, hE1⟩
      have HE1 := Lib.hid hE1
      clear hE1
      go_wp2_with fail
      refine (H2.out _).mono ?_
      rintro e w2 ⟨rfl, hE2⟩
      have HE2 := Lib.hid (HE1.out.trans hE2)
      clear hE2
      have z3 : D1.size + D2.size ≤ 4294967281 := by omega
      go_wp2
      go_ret
      exact ⟨rfl, HE2.out⟩
def rowB (word : ByteArray) (gs : List Int) : ByteArray := gs.foldl (fun s n => s ++ sp ++ itoaB n) word
theorem rowB_snoc (word : ByteArray) (gs : List Int) (k : Nat) (g : Int) (hg : gs[k]? = some g) : rowB word (gs.take (k + 1)) = rowB word (gs.take k) ++ sp ++ itoaB g := by
  rw [List.take_add_one, hg]; simp [rowB]
theorem rowB_size (gs : List Int) (hg : ∀ g ∈ gs, 0 ≤ g ∧ g ≤ 9000000000000000000) : ∀ (word : ByteArray), (rowB word gs).size ≤ word.size + gs.length * 22 := by
  induction gs with
  | nil => intro word; simp [rowB]
  | cons g gs ih =>
    intro word
    have h1 := ih (fun x hx => hg x (List.mem_cons_of_mem _ hx)) (word ++ sp ++ itoaB g)
    have h2 := hg g (List.mem_cons_self ..)
    have h3 := itoaB_size g (by omega) (by omega)
    have h4 : (word ++ sp ++ itoaB g).size = word.size + 1 + (itoaB g).size := by rw [ByteArray.size_append, ByteArray.size_append]; rfl
    have h5 : rowB word (g :: gs) = rowB (word ++ sp ++ itoaB g) gs := rfl
    rw [h5, List.length_cons]
    omega
set_option maxHeartbeats 800000 in
set_option maxRecDepth 100000 in
theorem Row_any (word : ByteArray) (v : Value) (gs : List Int) (w : World) (hv : SlI w v gs) (hg : ∀ g ∈ gs, 0 ≤ g ∧ g ≤ 9000000000000000000) (hl : gs.length ≤ 1000000) (hwd : word.size ≤ 1000000) : Calls Tryz.prog 113 #[.string word, v] w fun e w' => e = .returned (.string (rowB word gs)) ∧ Ext w w' := by
  obtain ⟨ao, cap, rfl, _⟩ := hv.open
  have HV := Lib.hid hv
  clear hv
  go_enter Tryz.func113, Tryz.ntmps113
  go_wp2
  go_loopw [0, 5] (fun vo vi wr => ∃ k : Nat, k ≤ gs.length ∧ vi = .int .i64 k ∧ vo = .string (rowB word (gs.take k)) ∧ Ext w wr) (fun _ vi _ => gs.length - (intOf vi).toNat)
  case atStart => exact ⟨0, by omega, rfl, rfl, Ext.refl _⟩
  case round =>
    obtain ⟨k, hk, rfl, rfl, hE⟩ := hrel
    have HE := Lib.hid hE
    by_cases hlt : k < gs.length
    · have hlt' : (k : Int) < gs.length := by omega
      obtain ⟨g, hgk⟩ : ∃ g, gs[k]? = some g := ⟨_, List.getElem?_eq_getElem hlt⟩
      obtain ⟨kb, ko, rfl, hc⟩ := SlI.at (HV.out.ext hE) hgk
      have hg2 := hg g (List.mem_of_getElem? hgk)
      obtain ⟨m, rfl⟩ : ∃ m : Nat, g = (m : Int) := ⟨g.toNat, by omega⟩
      have hs := rowB_snoc word gs k _ hgk
      have HD := Lib.hid (fun w => Digits_any m w (by omega))
      have z1 := rowB_size (gs.take k) (fun x hx => hg x (List.mem_of_mem_take hx)) word
      have z2 := itoaB_size (m : Int) (by omega) (by omega)
      have z3 : (gs.take k).length ≤ 1000000 := by rw [List.length_take]; omega
      generalize rowB word (gs.take k) = A at *
      generalize itoaB (m : Int) = D at *
      have z4 : A.size + 1 ≤ 4294967281 := by omega
      have z5 : A.size + 1 + D.size ≤ 4294967281 := by omega
      clear hE z3
      go_wp2_with fail
      refine (HD.out _).mono ?_
      rintro e w1 ⟨rfl, hE1⟩
      have HE1 := Lib.hid (HE.out.trans hE1)
      clear hE1
      go_wp2
      go_roundw
      case rel => exact ⟨k + 1, by omega, by go_num, by rw [hs]; rfl, HE1.out⟩
      case measure => simp [intOf]; omega
    · obtain rfl : k = gs.length := by omega
      rw [show gs.take gs.length = gs from List.take_length]
      clear hE
      go_wp2
      go_ret
      exact ⟨rfl, HE.out⟩
end Go.Proofs.YtgjahnomafpnfaaGreatDoor

/- WriteRecord, of the program and of the reference. -/
namespace Go.Proofs.YtgjahnomafpnfaaGreatDoor
open Go.RowKit
/-- What WriteRecord answers. -/
def writeB (n : Int) (x : Rec) : ByteArray := if checkE n x = 0 then lineB x else ⟨#[]⟩
theorem checkE_bounds {n : Int} {x : Rec} (h : checkE n x = 0) : (2 ≤ n ∧ n ≤ 5) ∧ formedB n x = true := by
  unfold checkE at h
  split at h
  · rename_i hh
    rw [Bool.and_eq_true, inB_iff] at hh
    exact hh
  · cases h
theorem formedB_bounds {n : Int} {x : Rec} (h : formedB n x = true) : (0 ≤ x.st ∧ x.st < n) ∧ (1 ≤ x.num ∧ x.num ≤ 400) ∧ (0 ≤ x.hr ∧ x.hr ≤ 1000000) ∧ (0 < x.txt.size ∧ x.txt.size ≤ 200) := by
  rw [formedB_head, Bool.and_eq_true] at h
  exact (headB_iff n x).1 h.1
theorem checkE_two (n : Int) (x : Rec) : checkE n x = 0 ∨ checkE n x = 1 := by
  unfold checkE
  split
  · exact .inl rfl
  · exact .inr rfl
set_option maxHeartbeats 800000 in
set_option maxRecDepth 100000 in
theorem WriteRecord_any {B : Nat} {w : World} (hL : Laid B w) (n : Int) (x : Rec) (hn : -9223372036854775808 ≤ n ∧ n ≤ 9223372036854775807) : Calls Tryz.prog 55 #[.int .i64 n, rv x] w fun e w' => e = .returned (.tuple #[.string (writeB n x), .int .i64 (checkE n x)]) ∧ Ext w w' := by
  have HC := Lib.hid (fun w => CheckRecord_any n x w)
  have hE := Ext.alloc w (.cells #[.int .i64 x.st, .int .i64 x.num, .int .i64 x.hr, .string x.txt] 49)
  have HE := Lib.hid hE
  have HL := Lib.hid hL
  clear hL hE
  rcases checkE_two n x with h | h
  · have hb := checkE_bounds h
    have hb2 := formedB_bounds hb.2
    have HLn := Lib.hid (fun (w : World) (h : Laid B w) => line_any h x (by omega) (by omega) (by omega) (by omega))
    unfold writeB
    rw [h, if_pos rfl]
    rw [h] at HC
    clear hb hb2 h
    go_enter Tryz.func55, Tryz.ntmps55
    go_wp2_with fail
    refine (HC.out _).mono ?_
    rintro e w1 ⟨rfl, hE1⟩
    have HE1 := Lib.hid (HE.out.trans hE1)
    obtain ⟨c0, c1, c2, c3⟩ := rec_new (y := x) hE1
    have HLl := Lib.hid (HLn.out w1 (HL.out.ext HE1.out))
    clear hE1
    go_wp2_with fail
    refine HLl.out.mono ?_
    rintro e w2 ⟨rfl, hE2⟩
    go_wp2
    go_ret2
    exact ⟨rfl, HE1.out.trans hE2⟩
  · unfold writeB
    rw [h, if_neg (by decide)]
    rw [h] at HC
    clear h
    go_enter Tryz.func55, Tryz.ntmps55
    go_wp2_with fail
    refine (HC.out _).mono ?_
    rintro e w1 ⟨rfl, hE1⟩
    go_wp2
    go_ret2
    exact ⟨rfl, HE.out.trans hE1⟩
theorem rowB_line (x : Rec) : rowB (itoaB x.st) [x.num, x.hr] ++ sp ++ x.txt = lineB x := rfl
set_option maxHeartbeats 800000 in
set_option maxRecDepth 100000 in
theorem WriteRecordR_any (n : Int) (x : Rec) (w : World) (ht : x.txt.size ≤ 1000000) : Calls Tryz.prog 56 #[.int .i64 n, rv x] w fun e w' => e = .returned (.tuple #[.string (writeB n x), .int .i64 (checkE n x)]) ∧ Ext w w' := by
  have HC := Lib.hid (fun w => CheckRecordR_any n x w ht)
  have hE := Ext.alloc w (.cells #[.int .i64 x.st, .int .i64 x.num, .int .i64 x.hr, .string x.txt] 49)
  have HE := Lib.hid hE
  clear hE
  rcases checkE_two n x with h | h
  · have hb := checkE_bounds h
    have hb2 := formedB_bounds hb.2
    unfold writeB
    rw [h, if_pos rfl]
    rw [h] at HC
    have hb1 := hb.1
    clear hb h
    obtain ⟨st, num, hr, txt⟩ := x
    simp only at hb2 ht
    obtain ⟨k, rfl⟩ : ∃ k : Nat, st = (k : Int) := ⟨st.toNat, by omega⟩
    have z1 := itoaB_size (k : Int) (by omega) (by omega)
    have z2 := rowB_size [num, hr] (by intro g hg; simp only [List.mem_cons, List.not_mem_nil, or_false] at hg; rcases hg with rfl | rfl <;> omega) (itoaB (k : Int))
    rw [← rowB_line]
    simp only at z2 ⊢
    have HD := Lib.hid (fun w => Digits_any k w (by omega))
    have HR := Lib.hid (fun (w : World) (v : Value) (hv : SlI w v [num, hr]) => Row_any (itoaB (k : Int)) v [num, hr] w hv (by intro g hg; simp only [List.mem_cons, List.not_mem_nil, or_false] at hg; rcases hg with rfl | rfl <;> omega) (by simp) (by omega))
    simp only [List.length_cons, List.length_nil] at z2
    have z3 : (rowB (itoaB (k : Int)) [num, hr]).size ≤ 100 := by omega
    generalize rowB (itoaB (k : Int)) [num, hr] = R at *
    generalize itoaB (k : Int) = D at *
    have hsp : sp.size = 1 := rfl
    go_enter Tryz.func56, Tryz.ntmps56
    go_wp2_with fail
    refine (HC.out _).mono ?_
    rintro e w1 ⟨rfl, hE1⟩
    have HE1 := Lib.hid (HE.out.trans hE1)
    obtain ⟨c0, c1, c2, c3⟩ := rec_new (y := ⟨(k : Int), num, hr, txt⟩) hE1
    simp only at c0 c1 c2 c3
    clear hE1
    go_wp2_with fail
    refine wp_drawn 14 (by kernel_rfl) (by kernel_rfl) (fun i => match i with
      | 2 => some fun v _ => v = .string D
      | 7 => some fun v w => ∃ g, v = .slice (some ⟨g, 0, none⟩) 2 2 ∧ SlI w v [num, hr]
      | 8 => some fun v _ => v = .string R
      | 9 => some fun v _ => v = .string (R ++ sp)
      | 12 => some fun v _ => v = .string (R ++ sp ++ txt)
      | 13 => some fun v _ => v = .string (R ++ sp ++ txt)
      | _ => none) ?_ ?_
    · intro j φ hφ v w1 w2 h1 h2
      split at hφ <;> cases hφ
      all_goals first
        | exact h1
        | (obtain ⟨g, h3, h4⟩ := h1; exact ⟨g, h3, h4.ext h2⟩)
    intro ν
    simp only [List.take_succ_cons, List.take_zero]
    iterate 2 (refine Seq.pure ?_ rfl (fun w' hw hf => ?_) ?_; rotate_left; (· (have k0 := hw.keep (w := World.drew _) c0; have k1 := hw.keep (w := World.drew _) c1; have k2 := hw.keep (w := World.drew _) c2; have k3 := hw.keep (w := World.drew _) c3; unfold pureG; go_simp; with_reducible rfl)); simp only [Act.put, List.setIfInBounds_toArray, List.set_cons_zero, List.set_cons_succ, Nat.reduceAdd, Nat.zero_add])
    refine Seq.eff _ rfl (fun w' hw hf => giveG_of rfl (by simp) fun K hK => ?_) ?_
    · go_simp
      refine (HD.out _).mono ?_
      rintro e w2 ⟨rfl, hb⟩
      exact hK _ _ ⟨rfl, hb⟩
    simp only [Act.put, List.setIfInBounds_toArray, List.set_cons_zero, List.set_cons_succ, Nat.reduceAdd, Nat.zero_add]
    iterate 4 (refine Seq.pure ?_ rfl (fun w' hw hf => ?_) ?_; rotate_left; (· (have k0 := hw.keep (w := World.drew _) c0; have k1 := hw.keep (w := World.drew _) c1; have k2 := hw.keep (w := World.drew _) c2; have k3 := hw.keep (w := World.drew _) c3; unfold pureG; go_simp; with_reducible rfl)); simp only [Act.put, List.setIfInBounds_toArray, List.set_cons_zero, List.set_cons_succ, Nat.reduceAdd, Nat.zero_add])
    refine Seq.eff _ rfl (fun w' hw hf => giveG_of rfl (by simp) fun K hK => ?_) ?_
    · go_simp
      refine hK _ _ ⟨⟨_, rfl, .inr ⟨w'.heap.size, 0, 2, rfl, by simp, by decide, by simp, fun j g hj => ?_⟩⟩, Ext.alloc _ _⟩
      have := rangeAt_new w' #[.int .i64 num, .int .i64 hr] 3 w'.heap.size rfl j (.int .i64 g) (by
        match j, hj with
        | 0, hj => cases hj; rfl
        | 1, hj => cases hj; rfl)
      exact this
    simp only [Act.put, List.setIfInBounds_toArray, List.set_cons_zero, List.set_cons_succ, Nat.reduceAdd, Nat.zero_add]
    refine Seq.eff _ rfl (fun w' hw hf => giveG_of rfl (by simp) fun K hK => ?_) ?_
    · obtain ⟨g, h7, h8⟩ := hf 7 _ rfl (by kernel_rfl)
      have h2 := hf 2 _ rfl (by kernel_rfl)
      rw [h7] at h8
      simp only [h7, h2] at hK ⊢
      go_simp
      refine (HR.out _ _ h8).mono ?_
      rintro e w2 ⟨rfl, hb⟩
      exact hK _ _ ⟨rfl, hb⟩
    simp only [Act.put, List.setIfInBounds_toArray, List.set_cons_zero, List.set_cons_succ, Nat.reduceAdd, Nat.zero_add]
    refine Seq.eff _ rfl (fun w' hw hf => giveG_of rfl (by simp) fun K hK => ?_) ?_
    · have h8 := hf 8 _ rfl (by kernel_rfl)
      simp only [h8] at hK ⊢
      go_simp
      first | (rw [if_neg (by omega)]; exact hK _ _ ⟨rfl, Ext.refl _⟩) | exact hK _ _ ⟨rfl, Ext.refl _⟩
    simp only [Act.put, List.setIfInBounds_toArray, List.set_cons_zero, List.set_cons_succ, Nat.reduceAdd, Nat.zero_add]
    iterate 2 (refine Seq.pure ?_ rfl (fun w' hw hf => ?_) ?_; rotate_left; (· (have k0 := hw.keep (w := World.drew _) c0; have k1 := hw.keep (w := World.drew _) c1; have k2 := hw.keep (w := World.drew _) c2; have k3 := hw.keep (w := World.drew _) c3; unfold pureG; go_simp; with_reducible rfl)); simp only [Act.put, List.setIfInBounds_toArray, List.set_cons_zero, List.set_cons_succ, Nat.reduceAdd, Nat.zero_add])
    refine Seq.eff _ rfl (fun w' hw hf => giveG_of rfl (by simp) fun K hK => ?_) ?_
    · have h9 := hf 9 _ rfl (by kernel_rfl)
      simp only [h9] at hK ⊢
      go_simp
      first | (rw [if_neg (by omega)]; exact hK _ _ ⟨rfl, Ext.refl _⟩) | exact hK _ _ ⟨rfl, Ext.refl _⟩
    simp only [Act.put, List.setIfInBounds_toArray, List.set_cons_zero, List.set_cons_succ, Nat.reduceAdd, Nat.zero_add]
    refine Seq.eff _ rfl (fun w' hw hf => giveG_of rfl (by simp) fun K hK => ?_) ?_
    · have h12 := hf 12 _ rfl (by kernel_rfl)
      simp only [h12] at hK ⊢
      go_simp
      first | (rw [if_neg (by omega)]; exact hK _ _ ⟨rfl, Ext.refl _⟩) | exact hK _ _ ⟨rfl, Ext.refl _⟩
    simp only [Act.put, List.setIfInBounds_toArray, List.set_cons_zero, List.set_cons_succ, Nat.reduceAdd, Nat.zero_add]
    refine Seq.nil fun w' hw hf => tail_one (i := 14) (by kernel_rfl) rfl (by kernel_rfl) rfl ?_
    have h13 := hf 13 _ (by omega) rfl
    have HE3 := Lib.hid (HE1.out.trans ((Ext.drew w1).trans hw))
    rw [h13]
    clear hf hw
    go_wp2
    go_ret2
    exact ⟨rfl, HE3.out⟩
  · unfold writeB
    rw [h, if_neg (by decide)]
    rw [h] at HC
    clear h
    go_enter Tryz.func56, Tryz.ntmps56
    go_wp2_with fail
    refine (HC.out _).mono ?_
    rintro e w1 ⟨rfl, hE1⟩
    go_wp2
    go_ret2
    exact ⟨rfl, HE.out.trans hE1⟩
end Go.Proofs.YtgjahnomafpnfaaGreatDoor

/- Operations of a script in memory; brief. -/
namespace Go.Proofs.YtgjahnomafpnfaaGreatDoor
open Go.RowKit
/-- Records that can be read one by one. -/
def SlE (w : World) (v : Value) (l : List Rec) : Prop :=
  ∃ ao cap, v = .slice ao l.length cap ∧ ∀ (i : Nat) (x : Rec), l[i]? = some x → ∃ b off, ao = some ⟨b, off, none⟩ ∧ b < w.heap.size ∧
    w.cell? ⟨b, off + i * 4, none⟩ = some (.int .i64 x.st) ∧ w.cell? ⟨b, off + i * 4 + 1, none⟩ = some (.int .i64 x.num) ∧ w.cell? ⟨b, off + i * 4 + 2, none⟩ = some (.int .i64 x.hr) ∧ w.cell? ⟨b, off + i * 4 + 3, none⟩ = some (.string x.txt)
theorem SlR.e {w : World} {v : Value} {l : List Rec} (h : SlR w v l) : SlE w v l := h.open
theorem SlE.ext {w w' : World} {v : Value} {l : List Rec} (h : SlE w v l) (hE : Ext w w') : SlE w' v l := by
  obtain ⟨ao, cap, h1, h2⟩ := h
  exact ⟨ao, cap, h1, fun i x hx => by
    obtain ⟨b, off, e, hb, c0, c1, c2, c3⟩ := h2 i x hx
    exact ⟨b, off, e, Nat.lt_of_lt_of_le hb hE.size, hE.keep c0, hE.keep c1, hE.keep c2, hE.keep c3⟩⟩
/-- Numbers that can be read one by one. -/
def SlN (w : World) (v : Value) (gs : List Int) : Prop :=
  ∃ ao cap, v = .slice ao gs.length cap ∧ ∀ (j : Nat) g, gs[j]? = some g → ∃ b off, ao = some ⟨b, off, none⟩ ∧ w.cell? ⟨b, off + j, none⟩ = some (.int .i64 g)
theorem SlN.ext {w w' : World} {v : Value} {gs : List Int} (h : SlN w v gs) (hE : Ext w w') : SlN w' v gs := by
  obtain ⟨ao, cap, h1, h2⟩ := h
  exact ⟨ao, cap, h1, fun j g hg => by
    obtain ⟨b, off, e, c⟩ := h2 j g hg
    exact ⟨b, off, e, hE.keep c⟩⟩
/-- An operation of a script. -/
structure OpR where
  kind : Nat
  txt : ByteArray
  hr : Int
  num : Int
  la : Option Addr
  lc : Nat
  letter : List Rec
  s0 : Int
  s1 : Int
  s2 : Int
  s3 : Int
  s4 : Int
  ka : Option Addr
  kc : Nat
  keep : List Int
  deriving Inhabited
abbrev OpR.lv (o : OpR) : Value := .slice o.la o.letter.length o.lc
abbrev OpR.kv (o : OpR) : Value := .slice o.ka o.keep.length o.kc
def ocells (o : OpR) : List Value := [.int .u8 o.kind, .string o.txt, .int .i64 o.hr, .int .i64 o.num, (.slice o.la o.letter.length o.lc), .int .i64 o.s0, .int .i64 o.s1, .int .i64 o.s2, .int .i64 o.s3, .int .i64 o.s4, (.slice o.ka o.keep.length o.kc)]
abbrev opv (o : OpR) : Value := .agg #[.int .u8 o.kind, .string o.txt, .int .i64 o.hr, .int .i64 o.num, (.slice o.la o.letter.length o.lc), .int .i64 o.s0, .int .i64 o.s1, .int .i64 o.s2, .int .i64 o.s3, .int .i64 o.s4, (.slice o.ka o.keep.length o.kc)]
def i64B (x : Int) : Prop := -9223372036854775808 ≤ x ∧ x ≤ 9223372036854775807
/-- An operation, whose slices can be read. -/
structure OpOk (w : World) (o : OpR) : Prop where
  kind : o.kind < 256
  letter : SlE w o.lv o.letter
  keep : SlN w o.kv o.keep
  hr : i64B o.hr
  num : i64B o.num
  st : i64B o.s0 ∧ i64B o.s1 ∧ i64B o.s2 ∧ i64B o.s3 ∧ i64B o.s4
  recs : ∀ x ∈ o.letter, i64B x.st ∧ i64B x.num ∧ i64B x.hr
  sz : o.txt.size ≤ maxLen
theorem OpOk.ext {w w' : World} {o : OpR} (h : OpOk w o) (hE : Ext w w') : OpOk w' o := ⟨h.kind, h.letter.ext hE, h.keep.ext hE, h.hr, h.num, h.st, h.recs, h.sz⟩
/-- A script. -/
def SlO (w : World) (v : Value) (ops : List OpR) : Prop :=
  ∃ ao cap, v = .slice ao ops.length cap ∧ ops.length ≤ maxLen ∧ ∀ (i : Nat) (o : OpR), ops[i]? = some o → OpOk w o ∧ ∃ b off, ao = some ⟨b, off, none⟩ ∧ b < w.heap.size ∧ ∀ (j : Nat) u, (ocells o)[j]? = some u → w.cell? ⟨b, off + i * 11 + j, none⟩ = some u
theorem SlO.ext {w w' : World} {v : Value} {ops : List OpR} (h : SlO w v ops) (hE : Ext w w') : SlO w' v ops := by
  obtain ⟨ao, cap, h1, h0, h2⟩ := h
  exact ⟨ao, cap, h1, h0, fun i o ho => by
    obtain ⟨k, b, off, e, hb, c⟩ := h2 i o ho
    exact ⟨k.ext hE, b, off, e, Nat.lt_of_lt_of_le hb hE.size, fun j u hu => hE.keep (c j u hu)⟩⟩
/-- The block of a copy of an operation. -/
structure BoxO (w : World) (X : Nat) (o : OpR) : Prop where
  c : ∀ (j : Nat) u, (ocells o)[j]? = some u → w.cell? ⟨X, j, none⟩ = some u
theorem BoxO.new (w : World) (o : OpR) : BoxO (w.alloc (.cells #[.int .u8 o.kind, .string o.txt, .int .i64 o.hr, .int .i64 o.num, (.slice o.la o.letter.length o.lc), .int .i64 o.s0, .int .i64 o.s1, .int .i64 o.s2, .int .i64 o.s3, .int .i64 o.s4, (.slice o.ka o.keep.length o.kc)] 29)) w.heap.size o :=
  ⟨fun j u hu => by rw [World.cell?_alloc_new]; simpa [ocells] using hu⟩
theorem BoxO.ext {w w' : World} {X : Nat} {o : OpR} (h : BoxO w X o) (hE : Ext w w') : BoxO w' X o := ⟨fun j u hu => hE.keep (h.c j u hu)⟩
set_option maxHeartbeats 400000 in
set_option maxRecDepth 100000 in
theorem Few_e (v : Value) (xs : List Rec) (most : Nat) (hm : most ≤ 1000) (w : World) (hv : SlE w v xs) :
    Calls Tryz.prog 24 #[v, .int .i64 most] w fun e w' => e = .returned (.bool (fewB xs most)) ∧ w = w' := by
  obtain ⟨ao, cap, rfl, hc⟩ := hv
  have HC := Lib.hid hc
  clear hc
  by_cases hl : xs.length ≤ most
  · have hl' : ¬ ((most : Int) < xs.length) := by omega
    go_enter Tryz.func24, Tryz.ntmps24
    go_wp2
    go_loop [5] (fun i => ∃ k : Nat, k ≤ xs.length ∧ i = .int .i64 k ∧ ∀ (j : Nat) x, j < k → xs[j]? = some x → x.txt.size ≤ 300) (fun i => xs.length - (intOf i).toNat)
    case atStart => exact ⟨0, by omega, rfl, fun j x h => by omega⟩
    case round =>
      obtain ⟨k, hk, rfl, hj⟩ := hrel
      have HJ := Lib.hid hj
      clear hj
      by_cases hlt : k < xs.length
      · obtain ⟨x, hx⟩ : ∃ x, xs[k]? = some x := ⟨_, List.getElem?_eq_getElem hlt⟩
        obtain ⟨b, off, rfl, hb, x0, x1, x2, x3⟩ := HC.out k x hx
        have hlt' : (k : Int) < xs.length := by omega
        have HX := Lib.hid hx
        clear hx x0 x1 x2
        by_cases hs : 300 < x.txt.size
        · have hs' : (300 : Int) < x.txt.size := by omega
          go_wp2
          go_ret
          refine ⟨ret_bool ?_, rfl⟩
          symm
          rw [Bool.eq_false_iff, Ne, fewB_iff]
          intro q
          have := q.2 x (List.mem_of_getElem? HX.out)
          omega
        · have hs' : ¬ ((300 : Int) < x.txt.size) := by omega
          go_wp2
          go_round
          case rel =>
            refine ⟨k + 1, by omega, by go_num, fun j y hj hy => ?_⟩
            rcases (by omega : j < k ∨ j = k) with q | rfl
            · exact HJ.out j y q hy
            · rw [HX.out] at hy; cases hy; omega
          case measure => simp [intOf]; omega
      · have hlt' : ¬ ((k : Int) < xs.length) := by omega
        go_wp2
        go_ret
        refine ⟨ret_bool ?_, rfl⟩
        symm
        rw [fewB_iff]
        refine ⟨hl, fun x hx => ?_⟩
        obtain ⟨j, hj⟩ := List.getElem?_of_mem hx
        exact HJ.out j x (by have := (List.getElem?_eq_some_iff.1 hj).1; omega) hj
  · have hl' : (most : Int) < xs.length := by omega
    have he : fewB xs most = false := by
      rw [Bool.eq_false_iff, Ne, fewB_iff]
      exact fun q => hl q.1
    rw [he]
    go_enter Tryz.func24, Tryz.ntmps24
    go_wp2
    go_ret
    exact ⟨rfl, rfl⟩
/-- Is a script small? -/
def okO (o : OpR) : Bool := decide (o.txt.size ≤ 400) && (decide (o.keep.length ≤ 200) && fewB o.letter 12)
def briefB (ops : List OpR) : Bool := ops.all okO && decide (ops.length ≤ 40)
theorem briefB_iff (ops : List OpR) : briefB ops = true ↔ (∀ o ∈ ops, o.txt.size ≤ 400 ∧ o.keep.length ≤ 200 ∧ fewB o.letter 12 = true) ∧ ops.length ≤ 40 := by simp [briefB, okO]
set_option maxHeartbeats 1600000 in
set_option maxRecDepth 100000 in
theorem brief_any (v : Value) (ops : List OpR) (w : World) (hv : SlO w v ops) :
    Calls Tryz.prog 17 #[v] w fun e w' => e = .returned (.bool (briefB ops)) ∧ Ext w w' := by
  obtain ⟨ao, cap, rfl, hml, hc⟩ := hv
  unfold maxLen at hml
  have HC := Lib.hid hc
  clear hc
  go_enter Tryz.func17, Tryz.ntmps17
  go_wp2_with fail
  go_loopw [7] (fun i wr => ∃ k : Nat, k ≤ ops.length ∧ i = .int .i64 k ∧ Ext w wr ∧ ∀ (j : Nat) o, j < k → ops[j]? = some o → okO o = true) (fun i _ => ops.length - (intOf i).toNat)
  case atStart => exact ⟨0, by omega, rfl, Ext.refl _, fun j o h => by omega⟩
  case round =>
    obtain ⟨k, hk, rfl, hE, hj⟩ := hrel
    have HJ := Lib.hid hj
    have HE := Lib.hid hE
    clear hj
    by_cases hlt : k < ops.length
    · obtain ⟨o, ho⟩ : ∃ o, ops[k]? = some o := ⟨_, List.getElem?_eq_getElem hlt⟩
      obtain ⟨hok, b, off, rfl, hb, hcell⟩ := HC.out k o ho
      have c := fun (j : Nat) u h => hE.keep (hcell j u h)
      have x0 := c 0 _ rfl
      have x1 := c 1 _ rfl
      have x2 := c 2 _ rfl
      have x3 := c 3 _ rfl
      have x4 := c 4 _ rfl
      have x5 := c 5 _ rfl
      have x6 := c 6 _ rfl
      have x7 := c 7 _ rfl
      have x8 := c 8 _ rfl
      have x9 := c 9 _ rfl
      have x10 := c 10 _ rfl
      simp only [Nat.add_zero] at x0
      have hltz : (k : Int) < ops.length := by omega
      have HX := Lib.hid ho
      have HF := Lib.hid (fun (W : World) (h : Ext wr W) => Few_e (.slice o.la o.letter.length o.lc) o.letter 12 (by omega) W ((hok.letter.ext hE).ext h))
      clear ho c hcell hE hok
      have HEa := Lib.hid (Ext.alloc wr (.cells #[.int .u8 o.kind, .string o.txt, .int .i64 o.hr, .int .i64 o.num, .slice o.la o.letter.length o.lc, .int .i64 o.s0, .int .i64 o.s1, .int .i64 o.s2, .int .i64 o.s3, .int .i64 o.s4, .slice o.ka o.keep.length o.kc] 29))
      by_cases h1 : o.txt.size ≤ 400
      · have h1z : ¬ ((400 : Int) < o.txt.size) := by omega
        by_cases h2 : o.keep.length ≤ 200
        · have h2z : ¬ ((200 : Int) < o.keep.length) := by omega
          cases h3 : fewB o.letter 12 with
          | true =>
            have HF2 := Lib.hid (HF.out _ HEa.out)
            rw [h3] at HF2
            go_wp2_with (first | (go_at_call 24; refine HF2.out.mono ?_; rintro e w' ⟨rfl, rfl⟩))
            go_roundw
            case rel =>
              refine ⟨k + 1, by omega, by go_num, HE.out.trans HEa.out, fun j p hj hp => ?_⟩
              rcases (by omega : j < k ∨ j = k) with q | rfl
              · exact HJ.out j p q hp
              · rw [HX.out] at hp; cases hp; simp [okO, h1, h2, h3]
            case measure => simp [intOf]; omega
          | false =>
            have HF2 := Lib.hid (HF.out _ HEa.out)
            rw [h3] at HF2
            have hbad : RowKit.Hid (briefB ops = false) := Lib.hid (by
              unfold briefB
              rw [Bool.and_eq_false_iff]; left
              rw [List.all_eq_false]
              exact ⟨o, List.mem_of_getElem? HX.out, by simp [okO, h3]⟩)
            go_wp2_with (first | (go_at_call 24; refine HF2.out.mono ?_; rintro e w' ⟨rfl, rfl⟩))
            go_ret
            exact ⟨ret_bool hbad.out.symm, HE.out.trans HEa.out⟩
        · have h2z : (200 : Int) < o.keep.length := by omega
          have hbad : RowKit.Hid (briefB ops = false) := Lib.hid (by
            unfold briefB
            rw [Bool.and_eq_false_iff]; left
            rw [List.all_eq_false]
            exact ⟨o, List.mem_of_getElem? HX.out, by simp [okO, h2]⟩)
          go_wp2_with fail
          go_ret
          exact ⟨ret_bool hbad.out.symm, HE.out.trans HEa.out⟩
      · have h1z : (400 : Int) < o.txt.size := by omega
        have hbad : RowKit.Hid (briefB ops = false) := Lib.hid (by
          unfold briefB
          rw [Bool.and_eq_false_iff]; left
          rw [List.all_eq_false]
          exact ⟨o, List.mem_of_getElem? HX.out, by simp [okO, h1]⟩)
        go_wp2_with fail
        go_ret
        exact ⟨ret_bool hbad.out.symm, HE.out.trans HEa.out⟩
    · have hltz : ¬ ((k : Int) < ops.length) := by omega
      have hall : RowKit.Hid (briefB ops = decide (ops.length ≤ 40)) := Lib.hid (by
        unfold briefB
        have : ops.all okO = true := List.all_eq_true.2 fun o ho => by
          obtain ⟨j, hj⟩ := List.getElem?_of_mem ho
          exact HJ.out j o (by have := (List.getElem?_eq_some_iff.1 hj).1; omega) hj
        rw [this, Bool.true_and])
      clear hE
      by_cases h40 : ops.length ≤ 40
      · have h40z : (ops.length : Int) ≤ 40 := by omega
        go_wp2_with fail
        go_ret
        exact ⟨ret_bool (by rw [hall.out, decide_eq_true h40]), HE.out⟩
      · have h40z : ¬ ((ops.length : Int) ≤ 40) := by omega
        go_wp2_with fail
        go_ret
        exact ⟨ret_bool (by rw [hall.out, decide_eq_false h40]), HE.out⟩
end Go.Proofs.YtgjahnomafpnfaaGreatDoor

/- What a disk's entries read as: no program in sight. -/
namespace Go.Proofs.YtgjahnomafpnfaaGreatDoor
open Go.RowKit
/-- A piece of an entry: its bytes, how many were left with them, is there one? -/
def pieceP (now : List Sec) (a : Nat) (mark : UInt8) : List UInt8 × Nat × Bool :=
  if now.length ≤ a ∨ (now.getD a []).getD 0 0 ≠ mark ∨ (now.getD a []).getD 63 0 ≠ 3 then ([], 0, false)
  else (((now.getD a []).drop 4).take (min 59 (((now.getD a []).getD 1 0).toNat * 65536 + ((now.getD a []).getD 2 0).toNat * 256 + ((now.getD a []).getD 3 0).toNat)),
    ((now.getD a []).getD 1 0).toNat * 65536 + ((now.getD a []).getD 2 0).toNat * 256 + ((now.getD a []).getD 3 0).toNat,
    decide (0 < ((now.getD a []).getD 1 0).toNat * 65536 + ((now.getD a []).getD 2 0).toNat * 256 + ((now.getD a []).getD 3 0).toNat))
def entryGo (now : List Sec) : Nat → Nat → List UInt8 → Nat → Bool → List UInt8 → List UInt8 × Nat × Bool
  | 0, a, _, _, ok, out => (out, a + 1, ok)
  | k + 1, a, s, left, ok, out =>
    if ok = true ∧ s.length < left then entryGo now k (a + 1) (pieceP now (a + 1) 2).1 (pieceP now (a + 1) 2).2.1 ((pieceP now (a + 1) 2).2.2 && (pieceP now (a + 1) 2).2.1 == left - s.length) (out ++ (pieceP now (a + 1) 2).1)
    else (out, a + 1, ok)
/-- The entry that begins at a sector, the sector behind it, is there one? -/
def entryP (now : List Sec) (a : Nat) : List UInt8 × Nat × Bool := entryGo now (pieceP now a 1).2.1 a (pieceP now a 1).1 (pieceP now a 1).2.1 (pieceP now a 1).2.2 (pieceP now a 1).1
theorem pieceP_none {now : List Sec} {a : Nat} {mark : UInt8} (h : now.length ≤ a ∨ (now.getD a []).getD 0 0 ≠ mark ∨ (now.getD a []).getD 63 0 ≠ 3) : pieceP now a mark = ([], 0, false) := by unfold pieceP; rw [if_pos h]
theorem pieceP_zero {now : List Sec} {a : Nat} {mark : UInt8} (h : now.length ≤ a ∨ now.getD a [] = zsec) (hm : mark ≠ 0) : pieceP now a mark = ([], 0, false) := by
  refine pieceP_none ?_
  rcases h with h | h
  · exact .inl h
  · right; left; rw [h]; exact fun e => hm (by rw [← e]; rfl)
theorem entryP_none {now : List Sec} {a : Nat} (h : pieceP now a 1 = ([], 0, false)) : entryP now a = ([], a + 1, false) := by
  unfold entryP; rw [h]; rfl
theorem ofNat_toNat_mod (n : Nat) : (UInt8.ofNat n).toNat = n % 256 := by rw [UInt8.toNat_ofNat']
/-- What is written is read. -/
theorem piece_read {now : List Sec} {a : Nat} {mark : UInt8} {l : List UInt8} (h : now[a]? = some (sectorOf mark l)) (h0 : 0 < l.length) (hl : l.length < 16777216) : pieceP now a mark = (l.take 59, l.length, true) := by
  have ha := (List.getElem?_eq_some_iff.1 h).1
  have hg : now.getD a [] = sectorOf mark l := by rw [List.getD_eq_getElem?_getD, h]; rfl
  have e1 : (sectorOf mark l).getD 1 0 = UInt8.ofNat (l.length / 65536) := rfl
  have e2 : (sectorOf mark l).getD 2 0 = UInt8.ofNat (l.length / 256) := rfl
  have e3 : (sectorOf mark l).getD 3 0 = UInt8.ofNat l.length := rfl
  have e63 : (sectorOf mark l).getD 63 0 = 3 := by
    unfold sectorOf
    rw [List.getD_eq_getElem?_getD, List.getElem?_append_right (by simp; omega)]
    have : 63 - ([mark, UInt8.ofNat (l.length / 65536), UInt8.ofNat (l.length / 256), UInt8.ofNat l.length] ++ (List.take 59 l ++ List.replicate (59 - l.length) 0)).length = 0 := by simp; omega
    rw [this]; rfl
  have hleft : (UInt8.ofNat (l.length / 65536)).toNat * 65536 + (UInt8.ofNat (l.length / 256)).toNat * 256 + (UInt8.ofNat l.length).toNat = l.length := by
    rw [ofNat_toNat_mod, ofNat_toNat_mod, ofNat_toNat_mod]; omega
  unfold pieceP
  rw [if_neg, hg, e1, e2, e3, hleft]
  · congr 1
    · have : (sectorOf mark l).drop 4 = (l.take 59 ++ List.replicate (59 - l.length) 0) ++ [3] := rfl
      rw [this]
      rcases Nat.le_total l.length 59 with q | q
      · rw [Nat.min_eq_right q, List.append_assoc, List.take_append_of_le_length (by simp; omega), List.take_of_length_le (by simp; omega)]
      · rw [Nat.min_eq_left q, List.append_assoc, List.take_append_of_le_length (by simp; omega), List.take_of_length_le (by simp; omega)]
    · rw [decide_eq_true h0]
  · rw [hg, e63]
    rintro (q | q | q)
    · omega
    · exact q rfl
    · exact q rfl
theorem pieceP_pos {now : List Sec} (hs : ∀ x ∈ now, x.length = 64) {a : Nat} {mark : UInt8} (h : (pieceP now a mark).2.2 = true) : 0 < (pieceP now a mark).1.length ∧ (pieceP now a mark).1.length ≤ (pieceP now a mark).2.1 := by
  unfold pieceP at h ⊢
  split at h
  · cases h
  · rename_i hn
    rw [if_neg hn]
    simp only [decide_eq_true_eq] at h
    have ha : a < now.length := by
      rcases Nat.lt_or_ge a now.length with q | q
      · exact q
      · exact absurd (.inl q) hn
    have hl : (now.getD a []).length = 64 := by
      rw [List.getD_eq_getElem?_getD, List.getElem?_eq_getElem ha]
      exact hs _ (List.getElem_mem ha)
    simp only [List.length_take, List.length_drop, hl]
    omega
theorem entryGo_fuel (now : List Sec) (hs : ∀ x ∈ now, x.length = 64) : ∀ (k k' a : Nat) (s : List UInt8) (left : Nat) (ok : Bool) (out : List UInt8), (ok = true → 0 < s.length ∧ left ≤ s.length + k ∧ left ≤ s.length + k') → entryGo now k a s left ok out = entryGo now k' a s left ok out
  | 0, 0, _, _, _, _, _, _ => rfl
  | 0, k' + 1, a, s, left, ok, out, h => by
    unfold entryGo
    rw [if_neg]
    rintro ⟨q1, q2⟩
    have := h q1; omega
  | k + 1, 0, a, s, left, ok, out, h => by
    conv => lhs; unfold entryGo
    rw [if_neg]
    · rfl
    rintro ⟨q1, q2⟩
    have := h q1; omega
  | k + 1, k' + 1, a, s, left, ok, out, h => by
    unfold entryGo
    split
    · rename_i hc
      refine entryGo_fuel now hs k k' _ _ _ _ _ fun q => ?_
      simp only [Bool.and_eq_true, beq_iff_eq] at q
      have h1 := h hc.1
      have h2 := pieceP_pos hs q.1
      omega
    · rfl
/-- The sectors of an entry lie from a sector on. -/
def laidAt (now : List Sec) (a : Nat) (ps : List Sec) : Prop := ∀ (i : Nat) p, ps[i]? = some p → now[a + i]? = some p
theorem laidAt.tail {now : List Sec} {a : Nat} {p : Sec} {ps : List Sec} (h : laidAt now a (p :: ps)) : now[a]? = some p ∧ laidAt now (a + 1) ps :=
  ⟨h 0 p rfl, fun i q hq => by rw [show a + 1 + i = a + (i + 1) from by omega]; exact h (i + 1) q (by simpa using hq)⟩
theorem piecesGo_cons (k : Nat) (mark : UInt8) (l : List UInt8) (h : 0 < l.length) : piecesGo (k + 1) mark l = sectorOf mark l :: piecesGo k 2 (l.drop 59) := by
  conv => lhs; unfold piecesGo
  rw [if_neg (by simpa using List.ne_nil_of_length_pos h)]
/-- Reading on behind a piece. -/
theorem entryGo_read {now : List Sec} : ∀ (k j : Nat) (l : List UInt8) (a : Nat) (mark : UInt8) (out : List UInt8), 0 < l.length → l.length < 16777216 → l.length ≤ k → l.length ≤ j → laidAt now a (piecesGo k mark l) →
    entryGo now j a (l.take 59) l.length true out = (out ++ l.drop 59, a + (piecesGo k mark l).length, true)
  | 0, _, l, _, _, _, h0, _, hk, _, _ => by omega
  | k + 1, 0, l, _, _, _, h0, _, _, hj, _ => by omega
  | k + 1, j + 1, l, a, mark, out, h0, hl, hk, hj, hL => by
    rw [piecesGo_cons k mark l h0] at hL ⊢
    obtain ⟨h1, h2⟩ := hL.tail
    unfold entryGo
    by_cases hlt : 59 < l.length
    · rw [if_pos ⟨rfl, by rw [List.length_take]; omega⟩]
      have hd : 0 < (l.drop 59).length := by rw [List.length_drop]; omega
      obtain ⟨k', rfl⟩ : ∃ k', k = k' + 1 := ⟨k - 1, by omega⟩
      have hp : pieceP now (a + 1) 2 = ((l.drop 59).take 59, (l.drop 59).length, true) := by
        rw [piecesGo_cons k' 2 _ hd] at h2
        exact piece_read h2.tail.1 hd (by rw [List.length_drop]; omega)
      rw [hp]
      simp only [Bool.true_and]
      have hb : ((l.drop 59).length == l.length - (l.take 59).length) = true := by rw [beq_iff_eq, List.length_drop, List.length_take]; omega
      rw [hb, entryGo_read (k' + 1) j (l.drop 59) (a + 1) 2 _ hd (by rw [List.length_drop]; omega) (by rw [List.length_drop]; omega) (by rw [List.length_drop]; omega) h2]
      refine Prod.ext ?_ (Prod.ext ?_ rfl)
      · simp only [List.append_assoc]
        rw [← List.take_append_drop 59 (l.drop 59)]
        simp
      · simp only [List.length_cons]; omega
    · rw [if_neg (by rintro ⟨_, q⟩; rw [List.length_take] at q; omega)]
      have hd : l.drop 59 = [] := List.drop_of_length_le (by omega)
      rw [hd]
      have : piecesGo k 2 [] = [] := by cases k <;> rfl
      rw [this]
      simp
theorem entry_read {now : List Sec} {a : Nat} {l : List UInt8} (h0 : 0 < l.length) (hl : l.length < 16777216) (hL : laidAt now a (piecesL l)) : entryP now a = (l, a + (piecesL l).length, true) := by
  unfold piecesL at hL ⊢
  obtain ⟨k, hk⟩ : ∃ k, l.length = k + 1 := ⟨l.length - 1, by omega⟩
  have hp : pieceP now a 1 = (l.take 59, l.length, true) := by
    rw [hk, piecesGo_cons k 1 l h0] at hL
    exact piece_read hL.tail.1 h0 hl
  unfold entryP
  rw [hp]
  simp only
  rw [entryGo_read l.length l.length l a 1 (l.take 59) h0 hl (Nat.le_refl _) (Nat.le_refl _) hL, List.take_append_drop]
end Go.Proofs.YtgjahnomafpnfaaGreatDoor

/- What stations take of letters, and that they are books: no program in sight. -/
namespace Go.Proofs.YtgjahnomafpnfaaGreatDoor
open Go.RowKit
theorem refLt_iff (x y : Rec) : refLt x y = true ↔ (x.st < y.st ∨ (x.st = y.st ∧ x.num < y.num)) := by
  unfold refLt or2 cmpI
  simp only [decide_eq_true_eq]
  repeat' split
  all_goals omega
/-- The refs of a letter rise. -/
def Rising (xs : List Rec) : Prop := xs.Pairwise fun x y => refLt x y = true
theorem rising_snoc {acc : List Rec} {x : Rec} (h : Rising acc) (hl : acc = [] ∨ ∃ y, acc.getLast? = some y ∧ refLt y x = true) : Rising (acc ++ [x]) := by
  unfold Rising at *
  rw [List.pairwise_append]
  refine ⟨h, List.pairwise_singleton _ _, fun a ha b hb => ?_⟩
  rw [List.mem_singleton] at hb
  subst hb
  rcases hl with rfl | ⟨y, hy, hlt⟩
  · cases ha
  · obtain ⟨i, hi⟩ := List.getElem?_of_mem ha
    rw [List.getLast?_eq_getElem?] at hy
    have hil := (List.getElem?_eq_some_iff.1 hi).1
    rcases Nat.lt_or_ge i (acc.length - 1) with g | g
    · rw [List.pairwise_iff_getElem] at h
      obtain ⟨h1, e1⟩ := List.getElem?_eq_some_iff.1 hi
      obtain ⟨h2, e2⟩ := List.getElem?_eq_some_iff.1 hy
      have := h i (acc.length - 1) h1 h2 g
      rw [e1, e2] at this
      rw [refLt_iff] at *
      omega
    · obtain rfl : i = acc.length - 1 := by omega
      rw [hi] at hy; cases hy; exact hlt
theorem recsP_rising {n : Int} : ∀ (ls : List ByteArray) (acc xs : List Rec), Rising acc → recsP n acc ls = some xs → Rising xs
  | [], acc, xs, h, e => by simp only [recsP, Option.some.injEq] at e; rw [← e]; exact h
  | s :: ls, acc, xs, h, e => by
    unfold recsP at e
    split at e
    · cases e
    · split at e
      · rename_i hc
        exact recsP_rising ls _ xs (rising_snoc h hc) e
      · cases e
theorem parseP_rising {n : Nat} {m : ByteArray} {xs : List Rec} (h : parseP n m = some (.post xs)) : Rising xs := by
  unfold parseP bodyP haveP postP at h
  repeat' split at h
  all_goals first | cases h | skip
  rename_i hr _
  exact recsP_rising _ _ _ List.Pairwise.nil hr
/-! ### Adding to rows -/
theorem addRow_len (rows : List (List Rec)) (x : Rec) : (addRow rows x).length = rows.length := by simp [addRow]
theorem addAll_length : ∀ (xs : List Rec) (rows : List (List Rec)), (addAll rows xs).length = rows.length
  | [], _ => rfl
  | x :: xs, rows => by
    show (addAll (addRow rows x) xs).length = _
    rw [addAll_length xs, addRow_len]
theorem addRow_get (rows : List (List Rec)) (x : Rec) (s : Nat) (hs : s < rows.length) : (addRow rows x).getD s [] = if s = x.st.toNat then rows.getD s [] ++ [x] else rows.getD s [] := by
  by_cases h : s = x.st.toNat
  · subst h
    rw [if_pos rfl]
    obtain ⟨ys, hys⟩ : ∃ ys, rows[x.st.toNat]? = some ys := ⟨_, List.getElem?_eq_getElem hs⟩
    rw [getD_some (addRow_same hys), getD_some hys]
  · rw [if_neg h, List.getD_eq_getElem?_getD, addRow_other h, ← List.getD_eq_getElem?_getD]
/-- A row grows at its end. -/
theorem addAll_pre : ∀ (xs : List Rec) (rows : List (List Rec)) (s : Nat), s < rows.length → rows.getD s [] <+: (addAll rows xs).getD s []
  | [], rows, s, _ => List.prefix_refl _
  | x :: xs, rows, s, hs => by
    show _ <+: (addAll (addRow rows x) xs).getD s []
    refine List.IsPrefix.trans ?_ (addAll_pre xs (addRow rows x) s (by rw [addRow_len]; exact hs))
    rw [addRow_get rows x s hs]
    split
    · exact List.prefix_append _ _
    · exact List.prefix_refl _
theorem addAll_same : ∀ (xs : List Rec) (rows : List (List Rec)) (s : Nat), s < rows.length → (∀ x ∈ xs, x.st.toNat ≠ s) → (addAll rows xs).getD s [] = rows.getD s []
  | [], rows, s, _, _ => rfl
  | x :: xs, rows, s, hs, h => by
    show (addAll (addRow rows x) xs).getD s [] = _
    rw [addAll_same xs (addRow rows x) s (by rw [addRow_len]; exact hs) (fun y hy => h y (List.mem_cons_of_mem _ hy)), addRow_get rows x s hs, if_neg (fun e => h x List.mem_cons_self e.symm)]
theorem addAll_sum : ∀ (xs : List Rec) (rows : List (List Rec)), (∀ x ∈ xs, x.st.toNat < rows.length) → (addAll rows xs).flatten.length = rows.flatten.length + xs.length
  | [], rows, _ => rfl
  | x :: xs, rows, h => by
    show (addAll (addRow rows x) xs).flatten.length = _
    rw [addAll_sum xs (addRow rows x) (fun y hy => by rw [addRow_len]; exact h y (List.mem_cons_of_mem _ hy))]
    have : (addRow rows x).flatten.length = rows.flatten.length + 1 := by
      have hx := h x List.mem_cons_self
      unfold addRow
      rw [List.length_flatten, List.length_flatten, List.map_set]
      have e := List.getElem?_eq_getElem hx
      rw [getD_some e, List.length_append, List.length_singleton]
      have key : ∀ (l : List Nat) (i : Nat) (v : Nat), l[i]? = some v → (l.set i (v + 1)).sum = l.sum + 1 := by
        intro l
        induction l with
        | nil => intro i v h; simp at h
        | cons a l ih =>
          intro i v h
          cases i with
          | zero => simp at h; subst h; simp; omega
          | succ i => simp only [List.set_cons_succ, List.sum_cons]; rw [ih i v (by simpa using h)]; omega
      exact key _ _ _ (by rw [List.getElem?_map, e]; rfl)
    rw [this, List.length_cons]; omega
theorem prefix_get {α : Type} {xs ys : List α} (h : xs <+: ys) {i : Nat} (hi : i < xs.length) : ys[i]? = xs[i]? := by
  obtain ⟨t, rfl⟩ := h
  exact List.getElem?_append_left hi
theorem prefix_getD {α : Type} {xs ys : List α} (h : xs <+: ys) {i : Nat} {d : α} (hi : i < xs.length) : ys.getD i d = xs.getD i d := by
  rw [List.getD_eq_getElem?_getD, List.getD_eq_getElem?_getD, prefix_get h hi]
/-! ### Letters -/
theorem told_acc {me : Int} : ∀ (xs : List Rec) (rows : List (List Rec)) (acc added : List Rec), toldGo me rows acc xs = some added → ∃ t, added = acc ++ t
  | [], rows, acc, added, h => by
    simp only [toldGo, Option.some.injEq] at h
    exact ⟨[], by simp [h]⟩
  | y :: xs, rows, acc, added, h => by
    unfold toldGo at h
    repeat' split at h
    all_goals first | cases h | skip
    · exact told_acc xs _ _ _ h
    · obtain ⟨t, ht⟩ := told_acc xs _ _ _ h
      exact ⟨y :: t, by rw [ht]; simp⟩
    · exact told_acc xs _ _ _ h
theorem told_skip {me : Int} : ∀ (xs : List Rec) (rows : List (List Rec)) (acc added : List Rec), rows.length = 5 → (∀ x ∈ xs, 0 ≤ x.st ∧ x.st < 5 ∧ 1 ≤ x.num) → ∀ (x : Rec), x.st.toNat < rows.length → ((rows.getD x.st.toNat []).length : Int) + 1 < x.num → (∀ y ∈ xs, y.st = x.st → x.num < y.num) → 0 ≤ x.st →
    toldGo me rows acc xs = some added → ∀ new, added = acc ++ new → (addAll rows new).getD x.st.toNat [] = rows.getD x.st.toNat []
  | [], rows, acc, added, _, _, x, _, _, _, _, h, new, e => by
    simp only [toldGo, Option.some.injEq] at h
    rw [← h] at e
    have : new = [] := by simpa using e
    subst this; rfl
  | y :: xs, rows, acc, added, hl, hx, x, hs, hlen, hy, hx0, h, new, e => by
    have hxs : ∀ z ∈ xs, 0 ≤ z.st ∧ z.st < 5 ∧ 1 ≤ z.num := fun z hz => hx z (List.mem_cons_of_mem _ hz)
    have hy0 := hx y List.mem_cons_self
    have hys : ∀ z ∈ xs, z.st = x.st → x.num < z.num := fun z hz => hy z (List.mem_cons_of_mem _ hz)
    have hyx := hy y List.mem_cons_self
    unfold toldGo at h
    split at h
    · split at h
      · exact told_skip xs rows acc added hl hxs x hs hlen hys hx0 h new e
      · cases h
    · split at h
      · cases h
      · split at h
        · rename_i h3
          split at h
          · have hne : y.st ≠ x.st := fun q => by
              have := hyx q
              rw [q] at h3
              omega
            have hrow : (addRow rows y).getD x.st.toNat [] = rows.getD x.st.toNat [] := by rw [addRow_get rows y _ hs, if_neg (by omega)]
            have hm : ∃ new', new = y :: new' := by
              obtain ⟨t, ht⟩ := told_acc xs (addRow rows y) (acc ++ [y]) added h
              rw [ht, List.append_assoc] at e
              have := List.append_cancel_left e
              exact ⟨t, by rw [← this]; rfl⟩
            obtain ⟨new', rfl⟩ := hm
            have := told_skip xs (addRow rows y) (acc ++ [y]) added (by rw [addRow_len]; exact hl) hxs x (by rw [addRow_len]; exact hs) (by rw [hrow]; exact hlen) hys hx0 h new' (by rw [e]; simp)
            rw [hrow] at this
            exact this
          · cases h
        · exact told_skip xs rows acc added hl hxs x hs hlen hys hx0 h new e
/-- What a letter adds, and that it adds nothing when it is heard again. -/
theorem told_again {me : Int} : ∀ (xs : List Rec) (rows : List (List Rec)) (acc added : List Rec), rows.length = 5 → (∀ x ∈ xs, 0 ≤ x.st ∧ x.st < 5 ∧ 1 ≤ x.num) → Rising xs → toldGo me rows acc xs = some added →
    ∃ new, added = acc ++ new ∧ (∀ x ∈ new, x ∈ xs) ∧ ∀ acc', toldGo me (addAll rows new) acc' xs = some acc'
  | [], rows, acc, added, _, _, _, h => by
    simp only [toldGo, Option.some.injEq] at h
    exact ⟨[], by simp [h], by simp, fun acc' => rfl⟩
  | x :: xs, rows, acc, added, hl, hx, hr, h => by
    have hx0 := hx x List.mem_cons_self
    have hxs : ∀ y ∈ xs, 0 ≤ y.st ∧ y.st < 5 ∧ 1 ≤ y.num := fun y hy => hx y (List.mem_cons_of_mem _ hy)
    unfold Rising at hr
    rw [List.pairwise_cons] at hr
    have hslt : x.st.toNat < rows.length := by omega
    unfold toldGo at h
    by_cases h1 : x.num ≤ ((rows.getD x.st.toNat []).length : Int)
    · rw [if_pos h1] at h
      split at h
      · rename_i heq
        obtain ⟨new, e1, e2, e3⟩ := told_again xs rows acc added hl hxs hr.2 h
        refine ⟨new, e1, fun y hy => List.mem_cons_of_mem _ (e2 y hy), fun acc' => ?_⟩
        have hp := addAll_pre new rows x.st.toNat hslt
        unfold toldGo
        rw [if_pos (by have := hp.length_le; omega)]
        have hg : ((addAll rows new).getD x.st.toNat []).getD (x.num - 1).toNat default = (rows.getD x.st.toNat []).getD (x.num - 1).toNat default := prefix_getD hp (by omega)
        rw [hg, if_pos heq]
        exact e3 acc'
      · cases h
    · rw [if_neg h1] at h
      split at h
      · cases h
      · rename_i h2
        split at h
        · rename_i h3
          split at h
          · rename_i h4
            obtain ⟨new, e1, e2, e3⟩ := told_again xs (addRow rows x) (acc ++ [x]) added (by rw [addRow_len]; exact hl) hxs hr.2 h
            refine ⟨x :: new, by rw [e1]; simp, fun y hy => ?_, fun acc' => ?_⟩
            · rcases List.mem_cons.1 hy with rfl | q
              · exact List.mem_cons_self
              · exact List.mem_cons_of_mem _ (e2 y q)
            · show toldGo me (addAll (addRow rows x) new) acc' (x :: xs) = _
              have hp := addAll_pre new (addRow rows x) x.st.toNat (by rw [addRow_len]; exact hslt)
              have hrow : (addRow rows x).getD x.st.toNat [] = rows.getD x.st.toNat [] ++ [x] := by rw [addRow_get rows x _ hslt, if_pos rfl]
              rw [hrow] at hp
              unfold toldGo
              have hle := hp.length_le
              rw [List.length_append, List.length_singleton] at hle
              rw [if_pos (by omega)]
              have hg : ((addAll (addRow rows x) new).getD x.st.toNat []).getD (x.num - 1).toNat default = x := by
                rw [prefix_getD hp (by rw [List.length_append, List.length_singleton]; omega), show (x.num - 1).toNat = (rows.getD x.st.toNat []).length from by omega]
                simp
              rw [hg, if_pos ((recB_iff x x).2 rfl)]
              exact e3 acc'
          · cases h
        · rename_i h3
          obtain ⟨new, e1, e2, e3⟩ := told_again xs rows acc added hl hxs hr.2 h
          refine ⟨new, e1, fun y hy => List.mem_cons_of_mem _ (e2 y hy), fun acc' => ?_⟩
          have hnone : (addAll rows new).getD x.st.toNat [] = rows.getD x.st.toNat [] := told_skip xs rows acc added hl hxs x hslt (by omega) (fun y hy => by have := hr.1 y hy; rw [refLt_iff] at this; omega) hx0.1 h new e1
          unfold toldGo
          rw [hnone, if_neg h1, if_neg h2, if_neg h3]
          exact e3 acc'
/-- What a letter adds keeps the book a book. -/
theorem told_book {n : Int} (hn : n ≤ 5) {me : Int} : ∀ (xs : List Rec) (rows : List (List Rec)) (acc added : List Rec), Book n rows → (∀ x ∈ xs, formedB n x = true) → toldGo me rows acc xs = some added →
    ∃ new, added = acc ++ new ∧ (∀ x ∈ new, x ∈ xs) ∧ new.length ≤ xs.length ∧ Book n (addAll rows new)
  | [], rows, acc, added, hb, _, h => by
    simp only [toldGo, Option.some.injEq] at h
    exact ⟨[], by simp [h], by simp, Nat.le_refl _, hb⟩
  | x :: xs, rows, acc, added, hb, hx, h => by
    have hxs : ∀ y ∈ xs, formedB n y = true := fun y hy => hx y (List.mem_cons_of_mem _ hy)
    unfold toldGo at h
    split at h
    · split at h
      · obtain ⟨new, e1, e2, e3, e4⟩ := told_book hn xs rows acc added hb hxs h
        exact ⟨new, e1, fun y hy => List.mem_cons_of_mem _ (e2 y hy), by rw [List.length_cons]; omega, e4⟩
      · cases h
    · split at h
      · cases h
      · split at h
        · split at h
          · rename_i h4
            obtain ⟨new, e1, e2, e3, e4⟩ := told_book hn xs (addRow rows x) (acc ++ [x]) added (hb.add hn (hx x List.mem_cons_self) h4) hxs h
            refine ⟨x :: new, by rw [e1]; simp, fun y hy => ?_, by rw [List.length_cons, List.length_cons]; omega, e4⟩
            rcases List.mem_cons.1 hy with rfl | q
            · exact List.mem_cons_self
            · exact List.mem_cons_of_mem _ (e2 y q)
          · cases h
        · obtain ⟨new, e1, e2, e3, e4⟩ := told_book hn xs rows acc added hb hxs h
          exact ⟨new, e1, fun y hy => List.mem_cons_of_mem _ (e2 y hy), by rw [List.length_cons]; omega, e4⟩
end Go.Proofs.YtgjahnomafpnfaaGreatDoor

/- The reference's cut and Number. -/
namespace Go.Proofs.YtgjahnomafpnfaaGreatDoor
open Go.RowKit
/-- A text up to a byte, what stands behind it, and whether the byte is there. -/
def cutC (s : ByteArray) (c : UInt8) : ByteArray × ByteArray × Bool := (⟨(Lib.cut s.data.toList [c]).1.toArray⟩, ⟨(Lib.cut s.data.toList [c]).2.1.toArray⟩, (Lib.cut s.data.toList [c]).2.2)
theorem cutS_eq (s : ByteArray) : cutS s = cutC s 32 := rfl
theorem occ_one (l : List UInt8) (c : UInt8) (i : Nat) : Lib.occAt l [c] i = true ↔ l[i]? = some c := by
  unfold Lib.occAt
  by_cases h : i < l.length
  · rw [List.drop_eq_getElem_cons h, List.getElem?_eq_getElem h]
    simp [List.isPrefixOf]
    exact eq_comm
  · rw [List.drop_eq_nil_of_le (by omega), List.getElem?_eq_none (by omega)]
    simp [List.isPrefixOf]
theorem occ_none {l : List UInt8} {c : UInt8} {i : Nat} (h : l[i]? ≠ some c) : Lib.occAt l [c] i = false := by
  cases ho : Lib.occAt l [c] i
  · rfl
  · exact absurd ((occ_one l c i).1 ho) h
theorem cutC_hit (s : ByteArray) (c : UInt8) (k : Nat) (hk : k < s.size) (h : s.data.toList[k]? = some c) (hb : ∀ j, j < k → s.data.toList[j]? ≠ some c) : cutC s c = (s.extract 0 k, s.extract (k + 1) s.size, true) := by
  have hi : Lib.index s.data.toList [c] = (k : Int) := Lib.index_first (by rw [Array.length_toList]; exact Nat.le_of_lt hk) ((occ_one _ _ _).2 h) (fun j hj => occ_none (hb j hj))
  unfold cutC Lib.cut
  rw [hi, if_pos (by omega)]
  refine Prod.ext ?_ (Prod.ext ?_ rfl)
  · apply ByteArray.ext
    rw [ByteArray.data_extract]
    apply Array.ext'
    rw [Array.toList_extract, List.extract_eq_take_drop, Int.toNat_natCast]
    rfl
  · apply ByteArray.ext
    rw [ByteArray.data_extract]
    apply Array.ext'
    rw [Array.toList_extract, List.extract_eq_take_drop, Int.toNat_natCast]
    show List.drop (k + 1) s.data.toList = _
    rw [List.take_of_length_le]
    rw [List.length_drop, Array.length_toList]
    exact Nat.le_refl _
theorem cutC_miss (s : ByteArray) (c : UInt8) (hb : ∀ j : Nat, j < s.size → s.data.toList[j]? ≠ some c) : cutC s c = (s, ⟨#[]⟩, false) := by
  have hi : Lib.index s.data.toList [c] = -1 := Lib.index_none (fun j hj => occ_none (by
    by_cases hs : j < s.size
    · exact hb j hs
    · rw [List.getElem?_eq_none (by rw [Array.length_toList]; exact Nat.le_of_not_lt hs)]; simp))
  unfold cutC Lib.cut
  rw [hi, if_neg (by omega)]
set_option maxHeartbeats 800000 in
set_option maxRecDepth 100000 in
theorem cutR_any (s : ByteArray) (c : UInt8) (w : World) (hs : s.size ≤ 4294967281) : Calls Tryz.prog 117 #[.string s, .int .u8 c.toNat] w fun e w' => e = .returned (.tuple #[.string (cutC s c).1, .string (cutC s c).2.1, .bool (cutC s c).2.2]) ∧ Ext w w' := by
  obtain ⟨P, hP⟩ : ∃ P, cutC s c = P := ⟨_, rfl⟩
  rw [hP]
  have HP := Lib.hid hP
  clear hP
  go_enter Tryz.func117, Tryz.ntmps117
  go_wp2
  go_loopw [7] (fun vi wr => ∃ k : Nat, k ≤ s.size ∧ vi = .int .i64 k ∧ (∀ j, j < k → s.data.toList[j]? ≠ some c) ∧ wr = w) (fun vi _ => s.size - (intOf vi).toNat)
  case atStart => exact ⟨0, by omega, rfl, fun j hj => by omega, rfl⟩
  case round =>
    obtain ⟨k, hk, rfl, hb, rfl⟩ := hrel
    by_cases hlt : k < s.size
    · have hlt' : (k : Int) < s.size := by omega
      have hg : s.data.toList[k]? = some (s[k]'hlt) := by rw [Array.getElem?_toList]; exact Array.getElem?_eq_getElem hlt
      by_cases hc : s[k]'hlt = c
      · rw [hc] at hg
        have hP := cutC_hit s c k hlt hg hb
        rw [HP.out] at hP
        subst hP
        clear HP
        have hc' : ((s[k]'hlt).toNat : Int) = c.toNat := by rw [hc]
        have HB := Lib.hid hb
        clear hg hb
        have hk1 : (k : Int) + 1 ≤ s.size := by omega
        have hk2 : (k : Int) ≤ s.size := by omega
        go_wp2_with fail
        go_quiet (fail)
        go_wp2
        go_ret3
        exact ⟨rfl, _root_.Go.below_drewN (Below.refl _ _) nq⟩
      · have hc' : ¬ ((s[k]'hlt).toNat : Int) = c.toNat := by
          intro e
          exact hc (UInt8.toNat_inj.1 (by omega))
        have HB := Lib.hid hb
        clear hb
        go_wp2_with fail
        go_roundw
        case rel =>
          refine ⟨k + 1, by omega, by go_num, fun j hj => ?_, trivial⟩
          by_cases hjk : j < k
          · exact HB.out j hjk
          · obtain rfl : j = k := by omega
            rw [hg]
            intro e
            exact hc (Option.some.inj e)
        case measure => simp [intOf]; omega
    · obtain rfl : k = s.size := by omega
      have hP := cutC_miss s c hb
      rw [HP.out] at hP
      subst hP
      clear HP
      clear hb
      go_wp2
      go_ret3
      exact ⟨rfl, Ext.refl _⟩
def digB (c : UInt8) : Bool := decide (48 ≤ (c.toNat : Int)) && decide ((c.toNat : Int) ≤ 57)
def numV (l : List UInt8) : Int := l.foldl (fun n c => 10 * n + c.toNat - 48) 0
/-- What the reference's Number says. -/
def numR (s : ByteArray) : Int := if s.size ≤ 13 ∧ s.data.toList.all digB = true then numV s.data.toList else 0
theorem numV_snoc (l : List UInt8) (c : UInt8) : numV (l ++ [c]) = 10 * numV l + c.toNat - 48 := by simp [numV]
theorem numV_step (l : List UInt8) (k : Nat) (c : UInt8) (h : l[k]? = some c) : numV (l.take (k + 1)) = 10 * numV (l.take k) + c.toNat - 48 := by
  rw [List.take_add_one, h]
  exact numV_snoc _ _
theorem digB_iff (c : UInt8) : digB c = true ↔ 48 ≤ (c.toNat : Int) ∧ (c.toNat : Int) ≤ 57 := by
  unfold digB
  rw [Bool.and_eq_true, decide_eq_true_eq, decide_eq_true_eq]
theorem numV_bounds (l : List UInt8) : ∀ k : Nat, k ≤ l.length → (l.take k).all digB = true → 0 ≤ numV (l.take k) ∧ numV (l.take k) < 10 ^ k := by
  intro k
  induction k with
  | zero => intro _ _; simp [numV]
  | succ k ih =>
    intro hk h
    obtain ⟨c, hc⟩ : ∃ c, l[k]? = some c := ⟨_, List.getElem?_eq_getElem (by omega)⟩
    rw [List.take_add_one, hc] at h
    rw [List.all_append, Bool.and_eq_true] at h
    obtain ⟨h1, h2⟩ := ih (by omega) h.1
    have h3 := (digB_iff c).1 (by simpa using h.2)
    rw [numV_step l k c hc, Int.pow_succ]
    omega
set_option maxHeartbeats 800000 in
set_option maxRecDepth 100000 in
theorem NumberR_any (s : ByteArray) (w : World) (hs : s.size ≤ 4294967281) : Calls Tryz.prog 118 #[.string s] w fun e w' => e = .returned (.int .i64 (numR s)) ∧ w' = w := by
  obtain ⟨P, hP⟩ : ∃ P, numR s = P := ⟨_, rfl⟩
  rw [hP]
  have HP := Lib.hid hP
  clear hP
  go_enter Tryz.func118, Tryz.ntmps118
  go_wp2
  go_loopw [3, 4] (fun vn vi wr => ∃ k : Nat, k ≤ s.size ∧ vi = .int .i64 k ∧ vn = .int .i64 (numV (s.data.toList.take k)) ∧ (s.data.toList.take k).all digB = true ∧ (0 < k → s.size ≤ 13) ∧ wr = w) (fun _ vi _ => s.size - (intOf vi).toNat)
  case atStart => exact ⟨0, by omega, rfl, rfl, rfl, fun h => by omega, rfl⟩
  case round =>
    obtain ⟨k, hk, rfl, rfl, hd, h13, rfl⟩ := hrel
    have hlen : s.data.toList.length = s.size := Array.length_toList
    by_cases hlt : k < s.size
    · have hlt' : (k : Int) < s.size := by omega
      have hg : s.data.toList[k]? = some (s[k]'hlt) := by rw [Array.getElem?_toList]; exact Array.getElem?_eq_getElem hlt
      obtain ⟨b1, b2⟩ := numV_bounds s.data.toList k (by omega) hd
      by_cases hz : 13 < s.size
      · have hz' : (13 : Int) < s.size := by omega
        have hP : numR s = 0 := by unfold numR; rw [if_neg (by omega)]
        rw [HP.out] at hP
        subst hP
        clear HP b1 b2 hd h13 hg
        go_wp2
        go_ret
        exact ⟨rfl, rfl⟩
      · have hz' : ¬ ((13 : Int) < s.size) := by omega
        have hb3 : numV (s.data.toList.take k) < 10000000000000 := by
          have hp : (10 : Int) ^ k ≤ 10 ^ 13 := by exact_mod_cast Nat.pow_le_pow_right (n := 10) (by omega) (show k ≤ 13 by omega)
          omega
        by_cases hdg : digB (s[k]'hlt) = true
        · have hdi := (digB_iff _).1 hdg
          have hst := numV_step s.data.toList k _ hg
          have hal : (s.data.toList.take (k + 1)).all digB = true := by rw [List.take_add_one, hg, List.all_append, hd]; simpa using hdg
          have HH := Lib.hid (And.intro hst hal)
          obtain ⟨hd1, hd2⟩ := hdi
          generalize numV (s.data.toList.take k) = v at *
          clear hst hal hg b2
          go_wp2
          go_roundw
          case rel =>
            refine ⟨k + 1, by omega, by go_num, ?_, HH.out.2, fun _ => by omega, trivial⟩
            rw [HH.out.1]
            try go_num
          case measure => simp [intOf]; omega
        · have hP : numR s = 0 := by
            unfold numR
            rw [if_neg]
            rintro ⟨_, h2⟩
            exact hdg (List.all_eq_true.1 h2 _ (List.mem_of_getElem? hg))
          have hdi : ¬ (48 ≤ ((s[k]'hlt).toNat : Int) ∧ ((s[k]'hlt).toNat : Int) ≤ 57) := fun e => hdg ((digB_iff _).2 e)
          rw [HP.out] at hP
          subst hP
          clear HP b1 b2 hd h13 hg hdg
          by_cases h48 : ((s[k]'hlt).toNat : Int) < 48
          · clear hdi
            go_wp2
            go_ret
            exact ⟨rfl, rfl⟩
          · have h57 : (57 : Int) < ((s[k]'hlt).toNat : Int) := by omega
            clear hdi
            go_wp2
            go_ret
            exact ⟨rfl, rfl⟩
    · obtain rfl : k = s.size := by omega
      have ht : s.data.toList.take s.size = s.data.toList := List.take_of_length_le (by omega)
      rw [ht] at hd ⊢
      have hP : numR s = numV s.data.toList := by
        unfold numR
        rw [if_pos]
        refine ⟨?_, hd⟩
        rcases Nat.eq_zero_or_pos s.size with h | h
        · omega
        · exact h13 h
      rw [HP.out] at hP
      subst hP
      clear HP hd h13 ht
      go_wp2
      go_ret
      exact ⟨rfl, rfl⟩
end Go.Proofs.YtgjahnomafpnfaaGreatDoor

/- The reference's ReadRecord. -/
namespace Go.Proofs.YtgjahnomafpnfaaGreatDoor
open Go.RowKit
/-- What the reference reads. -/
def meantR (s : ByteArray) : Rec := ⟨numR (cutS s).1, numR (cutS (cutS s).2.1).1, numR (cutS (cutS (cutS s).2.1).2.1).1, (cutS (cutS (cutS s).2.1).2.1).2.1⟩
def zrec : Rec := ⟨0, 0, 0, ⟨#[]⟩⟩
def readRE (n : Int) (s : ByteArray) : Int := if inB n 2 5 = false then 1 else if checkE n (meantR s) = 0 ∧ writeB n (meantR s) = s then 0 else 4
def readRX (n : Int) (s : ByteArray) : Rec := if readRE n s = 0 then meantR s else zrec
theorem build49 : (Instr.build 49 #[]).run Tryz.prog = fun w => .ok (rv zrec) w := by funext w; exact run_build w 49 #[] _ (by kernel_rfl)
set_option maxHeartbeats 800000 in
set_option maxRecDepth 100000 in
theorem ReadRecordR_any (n : Int) (s : ByteArray) (w : World) (hs : s.size ≤ 1000000) : Calls Tryz.prog 58 #[.int .i64 n, .string s] w fun e w' => e = .returned (.tuple #[rv (readRX n s), .int .i64 (readRE n s)]) ∧ Ext w w' := by
  have HBx := Lib.hid (BoxR.new w zrec)
  have hE0 := Ext.alloc w (.cells #[.int .i64 0, .int .i64 0, .int .i64 0, .string ⟨#[]⟩] 49)
  have HE0 := Lib.hid hE0
  clear hE0
  have hb49 : (Instr.build 49 #[]).run Tryz.prog = fun w => .ok (.agg #[.int .i64 0, .int .i64 0, .int .i64 0, .string ⟨#[]⟩]) w := build49
  cases hn : inB n 2 5
  · have h1 : readRE n s = 1 := by unfold readRE; rw [if_pos hn]
    have h2 : readRX n s = zrec := by unfold readRX; rw [h1]; rfl
    rw [h1, h2]
    have HN := Lib.hid hn
    clear hn h1 h2
    go_enter Tryz.func58, Tryz.ntmps58
    go_wp2_with (go_at_call 107; refine (manyR_any _ _).mono ?_; rw [HN.out]; rintro e w' ⟨rfl, rfl⟩)
    refine bodyPost_ret (v := .tuple #[rv zrec, .int .i64 1]) ?_ rfl ⟨rfl, HE0.out⟩
    simp [results, Tryz.results58, go_sem, rv, zrec]
  · have z1 := cutS_size s
    have z2 := cutS_size (cutS s).2.1
    have z3 := cutS_size (cutS (cutS s).2.1).2.1
    have hP : (readRE n s = 0 ∧ readRX n s = meantR s ∧ checkE n (meantR s) = 0 ∧ writeB n (meantR s) = s) ∨ (readRE n s = 4 ∧ readRX n s = zrec ∧ (checkE n (meantR s) ≠ 0 ∨ writeB n (meantR s) ≠ s)) := by
      unfold readRX readRE
      rw [if_neg (by rw [hn]; decide)]
      by_cases h : checkE n (meantR s) = 0 ∧ writeB n (meantR s) = s
      · rw [if_pos h]
        exact .inl ⟨rfl, if_pos rfl, h⟩
      · rw [if_neg h]
        refine .inr ⟨rfl, if_neg (by decide), ?_⟩
        by_cases h2 : checkE n (meantR s) = 0
        · exact .inr fun e => h ⟨h2, e⟩
        · exact .inl h2
    have HN := Lib.hid hn
    have hC1 := fun w => cutR_any s 32 w (by omega)
    have hC2 := fun w => cutR_any (cutS s).2.1 32 w (by omega)
    have hC3 := fun w => cutR_any (cutS (cutS s).2.1).2.1 32 w (by omega)
    simp only [← cutS_eq, show ((UInt8.toNat 32 : Nat) : Int) = 32 from rfl] at hC1 hC2 hC3
    have hN1 := fun w => NumberR_any (cutS s).1 w (by omega)
    have hN2 := fun w => NumberR_any (cutS (cutS s).2.1).1 w (by omega)
    have hN3 := fun w => NumberR_any (cutS (cutS (cutS s).2.1).2.1).1 w (by omega)
    have hW := fun w => WriteRecordR_any n (meantR s) w (by show (cutS (cutS (cutS s).2.1).2.1).2.1.size ≤ 1000000; omega)
    obtain ⟨A, hA⟩ : ∃ A, cutS s = A := ⟨_, rfl⟩
    obtain ⟨B, hB⟩ : ∃ B, cutS A.2.1 = B := ⟨_, rfl⟩
    obtain ⟨C, hC⟩ : ∃ C, cutS B.2.1 = C := ⟨_, rfl⟩
    have hM : meantR s = ⟨numR A.1, numR B.1, numR C.1, C.2.1⟩ := by unfold meantR; rw [hA, hB, hC]
    rw [hM] at hW hP
    generalize writeB n ⟨numR A.1, numR B.1, numR C.1, C.2.1⟩ = T at *
    generalize checkE n ⟨numR A.1, numR B.1, numR C.1, C.2.1⟩ = E at *
    rw [hA] at hC1 hC2 hN1
    rw [hA, hB] at hC3
    rw [hA, hB] at hN2
    rw [hA, hB, hC] at hN3
    rw [hB] at hC2
    rw [hC] at hC3
    generalize numR A.1 = a at *
    generalize numR B.1 = b at *
    generalize numR C.1 = c at *
    obtain ⟨A1, A2, A3⟩ := A
    obtain ⟨B1, B2, B3⟩ := B
    obtain ⟨C1, C2, C3⟩ := C
    simp only at *
    have HC1 := Lib.hid hC1
    have HC2 := Lib.hid hC2
    have HC3 := Lib.hid hC3
    have HN1 := Lib.hid hN1
    have HN2 := Lib.hid hN2
    have HN3 := Lib.hid hN3
    have HW := Lib.hid hW
    have HP := Lib.hid hP
    clear hn hP hC1 hC2 hC3 hN1 hN2 hN3 hW z1 z2 z3 hA hB hC hM
    obtain ⟨RE, hRE⟩ : ∃ RE, readRE n s = RE := ⟨_, rfl⟩
    obtain ⟨RX, hRX⟩ : ∃ RX, readRX n s = RX := ⟨_, rfl⟩
    rw [hRE, hRX]
    rw [hRE, hRX] at HP
    clear hRE hRX
    go_enter Tryz.func58, Tryz.ntmps58
    go_wp2_with (first | (go_at_call 107; refine (manyR_any _ _).mono ?_; rw [HN.out]; rintro e w' ⟨rfl, rfl⟩))
    have HBx0 := Lib.hid (show BoxR (w.alloc (.cells #[.int .i64 0, .int .i64 0, .int .i64 0, .string ⟨#[]⟩] 49)) w.heap.size zrec from HBx.out)
    clear HBx
    generalize w.alloc (.cells #[.int .i64 0, .int .i64 0, .int .i64 0, .string ⟨#[]⟩] 49) = W0 at HBx0 HE0 ⊢
    refine (HC1.out _).mono ?_
    rintro e W1 ⟨rfl, hE1⟩
    have HE1 := Lib.hid hE1
    clear hE1
    go_wp2_with fail
    refine (HC2.out _).mono ?_
    rintro e W2 ⟨rfl, hE2⟩
    have HE2 := Lib.hid (HE1.out.trans hE2)
    clear hE2
    go_wp2_with fail
    refine (HC3.out _).mono ?_
    rintro e W3 ⟨rfl, hE3⟩
    have HE3 := Lib.hid (HE2.out.trans hE3)
    clear hE3
    go_wp2_with fail
    refine (HN1.out _).mono ?_
    rintro e W4 ⟨rfl, rfl⟩
    go_wp2_with fail
    refine (HN2.out _).mono ?_
    rintro e W5 ⟨rfl, rfl⟩
    go_wp2_with fail
    refine (HN3.out _).mono ?_
    rintro e W6 ⟨rfl, rfl⟩
    go_wp2_with fail
    refine (HW.out _).mono ?_
    rintro e W7 ⟨rfl, hE7⟩
    obtain ⟨d0, d1, d2, d3⟩ := rec_new (y := ⟨a, b, c, C2⟩) hE7
    simp only at d0 d1 d2 d3
    have hE8 : Ext W0 W7 := HE3.out.trans ((Ext.alloc _ _).trans hE7)
    have hbx := HBx0.out.ext hE8
    have r0 := hbx.c0
    have r1 := hbx.c1
    have r2 := hbx.c2
    have r3 := hbx.c3
    have f0 := hbx.f 0
    have f1 := hbx.f 1
    have f2 := hbx.f 2
    have f3 := hbx.f 3
    have HE8 := Lib.hid (HE0.out.trans hE8)
    clear hE7 hE8 hbx
    rcases HP.out with ⟨rfl, rfl, rfl, rfl⟩ | ⟨rfl, rfl, hne⟩
    · clear HP
      go_wp2
      refine bodyPost_ret (v := .tuple #[rv ⟨a, b, c, C2⟩, .int .i64 0]) ?_ rfl ⟨rfl, (((HE8.out.setCell (Nat.le_refl _) _).setCell (Nat.le_refl _) _).setCell (Nat.le_refl _) _).setCell (Nat.le_refl _) _⟩
      simp [results, Tryz.results58, go_sem, rv, zrec, r0, r1, r2, r3]
    · clear HP
      by_cases hE : E = 0
      · have hT := hne.resolve_left (by simp [hE])
        have hTb := (Lib.bytes_beq_false_iff T s).2 hT
        subst hE
        clear hne
        go_wp2
        refine bodyPost_ret (v := .tuple #[rv zrec, .int .i64 4]) ?_ rfl ⟨rfl, (((HE8.out.setCell (Nat.le_refl _) _).setCell (Nat.le_refl _) _).setCell (Nat.le_refl _) _).setCell (Nat.le_refl _) _⟩
        simp [results, Tryz.results58, go_sem, rv, zrec, r0, r1, r2, r3]
      · clear hne
        go_wp2
        refine bodyPost_ret (v := .tuple #[rv zrec, .int .i64 4]) ?_ rfl ⟨rfl, (((HE8.out.setCell (Nat.le_refl _) _).setCell (Nat.le_refl _) _).setCell (Nat.le_refl _) _).setCell (Nat.le_refl _) _⟩
        simp [results, Tryz.results58, go_sem, rv, zrec, r0, r1, r2, r3]
end Go.Proofs.YtgjahnomafpnfaaGreatDoor

/- ReadRecord. -/
namespace Go.Proofs.YtgjahnomafpnfaaGreatDoor
open Go.RowKit
def readPE (n : Int) (s : ByteArray) : Int := if inB n 2 5 = false then 1 else match parsedP n s with | some _ => 0 | none => 4
def readPX (n : Int) (s : ByteArray) : Rec := if inB n 2 5 = false then zrec else match parsedP n s with | some x => x | none => zrec
/-- Where ReadRecord stands: the record's place and the error's are untouched. -/
structure RSt (w W : World) : Prop where
  bx : BoxR W w.heap.size zrec
  c : W.cell? ⟨w.heap.size + 1, 0, none⟩ = some (.int .i64 0)
  f : W.frozen? ⟨w.heap.size + 1, 0, none⟩ = false
  be : Ext w W
theorem RSt.ext {w W W' : World} (h : RSt w W) (hE : Ext W W') : RSt w W' :=
  ⟨h.bx.ext hE, hE.keep h.c, (hE.frozen (World.block_lt_of_cell? _ _ h.c)).trans h.f, h.be.trans hE⟩
theorem rst_new (w : World) : RSt w ((w.alloc (.cells #[.int .i64 0, .int .i64 0, .int .i64 0, .string ⟨#[]⟩] 49)).alloc (.cells #[.int .i64 0] 38)) := by
  have hb : BoxR (w.alloc (.cells #[.int .i64 0, .int .i64 0, .int .i64 0, .string ⟨#[]⟩] 49)) w.heap.size zrec := BoxR.new w zrec
  have hs : (w.alloc (.cells #[.int .i64 0, .int .i64 0, .int .i64 0, .string ⟨#[]⟩] 49)).heap.size = w.heap.size + 1 := by simp
  refine ⟨hb.ext (Ext.alloc _ _), ?_, ?_, (Ext.alloc _ _).trans (Ext.alloc _ _)⟩
  · rw [← hs, World.cell?_alloc_new]; rfl
  · rw [← hs, World.frozen?_alloc_new]
theorem read_gave {w W : World} (h : RSt w W) (tm : Array Value) (h4 : tm[4]?.getD undef = .pointer (some ⟨w.heap.size, 0, none⟩)) (h5 : tm[5]?.getD undef = .pointer (some ⟨w.heap.size + 1, 0, none⟩))
    (R : Ending → World → Prop) (hR : ∀ W', Ext w W' → R (.returned (.tuple #[rv zrec, .int .i64 4])) W') :
    bodyPostD Tryz.prog Tryz.f57 R (Exit.panic [{ v := .iface 228 (.agg #[]), recovered := false }]) { tmps := tm, defers := [{ target := Target.fn (Fn.func 115) #[], args := #[.pointer (some ⟨w.heap.size + 1, 0, none⟩)] }] } W := by
  refine leaves_cons (f := 115) (args := #[.pointer (some ⟨w.heap.size + 1, 0, none⟩)]) (by simp) (by simp [go_sem]) ?_
  refine (caught_no (w.heap.size + 1) 0 [] W h.c h.f).mono ?_
  rintro e u' w'' ⟨rfl, rfl, h1, h2⟩
  have hx : Ext w w'' := Below.trans (B := w.heap.size) h.be (h2.below h.be.size (fun j hj => by omega))
  have := hR w'' hx
  have hb := h.bx.frB h2 (by omega)
  have c0 := hb.c0
  have c1 := hb.c1
  have c2 := hb.c2
  have c3 := hb.c3
  simp [Leaves, settle, results, Tryz.results57, go_sem, h4, h5, h1, c0, c1, c2, c3]
  exact this
theorem read_done {w W : World} {x : Rec} (hb : BoxR W w.heap.size x) (hc : W.cell? ⟨w.heap.size + 1, 0, none⟩ = some (.int .i64 0)) (tm : Array Value) (h4 : tm[4]?.getD undef = .pointer (some ⟨w.heap.size, 0, none⟩)) (h5 : tm[5]?.getD undef = .pointer (some ⟨w.heap.size + 1, 0, none⟩))
    (R : Ending → World → Prop) (hR : R (.returned (.tuple #[rv x, .int .i64 0])) W) :
    bodyPostD Tryz.prog Tryz.f57 R Exit.ret { tmps := tm, defers := [{ target := Target.fn (Fn.func 115) #[], args := #[.pointer (some ⟨w.heap.size + 1, 0, none⟩)] }] } W := by
  refine leaves_cons (f := 115) (args := #[.pointer (some ⟨w.heap.size + 1, 0, none⟩)]) (by simp) (by simp [go_sem]) ?_
  refine (caught_idle ⟨w.heap.size + 1, 0, none⟩ W).mono ?_
  rintro e u' w'' ⟨rfl, rfl, rfl⟩
  have c0 := hb.c0
  have c1 := hb.c1
  have c2 := hb.c2
  have c3 := hb.c3
  simp [Leaves, settle, results, Tryz.results57, go_sem, h4, h5, hc, c0, c1, c2, c3]
  exact hR
set_option maxHeartbeats 800000 in
set_option maxRecDepth 100000 in
theorem ReadRecord_any {B : Nat} {w : World} (hL : Laid B w) (n : Int) (s : ByteArray) (hs : s.size ≤ 1000000) : Calls Tryz.prog 57 #[.int .i64 n, .string s] w fun e w' => e = .returned (.tuple #[rv (readPX n s), .int .i64 (readPE n s)]) ∧ Ext w w' := by
  have HS := Lib.hid (rst_new w)
  have HL := Lib.hid hL
  clear hL
  have hb49 : (Instr.build 49 #[]).run Tryz.prog = fun w => .ok (.agg #[.int .i64 0, .int .i64 0, .int .i64 0, .string ⟨#[]⟩]) w := build49
  cases hn : inB n 2 5
  · have h1 : readPE n s = 1 := by unfold readPE; rw [if_pos hn]
    have h2 : readPX n s = zrec := by unfold readPX; rw [if_pos hn]
    rw [h1, h2]
    have HN := Lib.hid hn
    clear hn h1 h2
    go_enter_defers Tryz.func57, Tryz.ntmps57
    go_wp2_with (go_at_call 95; refine (many_any _ _).mono ?_; rw [HN.out]; rintro e w' ⟨rfl, rfl⟩)
    refine ⟨.tuple #[rv zrec, .int .i64 1], ?_, rfl, (Ext.alloc _ _).trans (Ext.alloc _ _)⟩
    simp [results, Tryz.results57, go_sem, rv, zrec]
  · have hnb := (inB_iff _ _ _).1 hn
    have HP := Lib.hid (fun (w : World) (h : Laid B w) => parsed_any h n s (by omega) (by omega) (by omega))
    have h1 : readPE n s = match parsedP n s with | some _ => 0 | none => 4 := by unfold readPE; rw [if_neg (by rw [hn]; decide)]
    have h2 : readPX n s = match parsedP n s with | some x => x | none => zrec := by unfold readPX; rw [if_neg (by rw [hn]; decide)]
    rw [h1, h2]
    have HN := Lib.hid hn
    clear hn h1 h2
    generalize parsedP n s = o at *
    cases o with
    | none =>
      simp only
      go_enter_defers Tryz.func57, Tryz.ntmps57
      go_wp2_with (first | (go_at_call 95; refine (many_any _ _).mono ?_; rw [HN.out]; rintro e w' ⟨rfl, rfl⟩))
      generalize ((w.alloc (.cells #[.int .i64 0, .int .i64 0, .int .i64 0, .string ⟨#[]⟩] 49)).alloc (.cells #[.int .i64 0] 38)) = W0 at HS ⊢
      refine (HP.out _ (HL.out.ext HS.out.be)).mono ?_
      rintro e W1 ⟨he, hE⟩
      have hee : e = gaveUp := he
      subst hee
      unfold gaveUp
      refine read_gave (HS.out.ext hE) _ rfl rfl _ ?_
      intro W' hW'
      exact ⟨rfl, hW'⟩
    | some x =>
      simp only
      go_enter_defers Tryz.func57, Tryz.ntmps57
      go_wp2_with (first | (go_at_call 95; refine (many_any _ _).mono ?_; rw [HN.out]; rintro e w' ⟨rfl, rfl⟩))
      generalize ((w.alloc (.cells #[.int .i64 0, .int .i64 0, .int .i64 0, .string ⟨#[]⟩] 49)).alloc (.cells #[.int .i64 0] 38)) = W0 at HS ⊢
      refine (HP.out _ (HL.out.ext HS.out.be)).mono ?_
      rintro e W1 ⟨he, hE⟩
      have hee : e = .returned (rv x) := he
      subst hee
      have HS1 := Lib.hid (HS.out.ext hE)
      have r0 := HS1.out.bx.c0
      have r1 := HS1.out.bx.c1
      have r2 := HS1.out.bx.c2
      have r3 := HS1.out.bx.c3
      have f0 := HS1.out.bx.f 0
      have f1 := HS1.out.bx.f 1
      have f2 := HS1.out.bx.f 2
      have f3 := HS1.out.bx.f 3
      have k0 := HS1.out.c
      have k1 := HS1.out.f
      have hlt1 := HS1.out.bx.lt
      have hlt2 := World.block_lt_of_cell? _ _ k0
      simp only at hlt2
      clear he hE
      go_wp2
      have hb := (((HS1.out.bx.set0 x.st).set1 x.num).set2 x.hr).set3 x.txt
      have hb2 := hb.frB (FrB.setCell (fun j => j = w.heap.size + 1) _ ⟨w.heap.size + 1, 0, none⟩ (.int .i64 0) rfl) (by omega)
      have hX := Ext.alloc (((((W1.setCell ⟨w.heap.size, 0, none⟩ (.int .i64 x.st)).setCell ⟨w.heap.size, 1, none⟩ (.int .i64 x.num)).setCell ⟨w.heap.size, 2, none⟩ (.int .i64 x.hr)).setCell ⟨w.heap.size, 3, none⟩ (.string x.txt)).setCell ⟨w.heap.size + 1, 0, none⟩ (.int .i64 0)) (.cells #[.int .i64 x.st, .int .i64 x.num, .int .i64 x.hr, .string x.txt] 49)
      refine read_done (hb2.ext hX) (hX.keep ?_) _ rfl rfl _ ⟨rfl, ?_⟩
      · refine World.cell?_setCell_same _ _ _ (?_ : _ = some (.int .i64 0))
        rw [World.cell?_setCell_far _ _ _ _ (by show w.heap.size ≠ w.heap.size + 1; omega), World.cell?_setCell_far _ _ _ _ (by show w.heap.size ≠ w.heap.size + 1; omega), World.cell?_setCell_far _ _ _ _ (by show w.heap.size ≠ w.heap.size + 1; omega), World.cell?_setCell_far _ _ _ _ (by show w.heap.size ≠ w.heap.size + 1; omega)]
        exact k0
      · exact (((((HS1.out.be.setCell (Nat.le_refl _) _).setCell (Nat.le_refl _) _).setCell (Nat.le_refl _) _).setCell (Nat.le_refl _) _).setCell (Nat.le_succ _) _).trans (hX.mono (by simp; omega))
end Go.Proofs.YtgjahnomafpnfaaGreatDoor
