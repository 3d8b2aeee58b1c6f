/- Lemmas and walks that this claim needs, in one text out of several; each states its own conditions. -/
import Derived.Test.YtgjahnomafpnfaaGreatDoorProg
import Derived.WalkKit
import Derived.WalkLawsBesides
import Derived.WalkSpells
import Derived.Lib.Hide
import Derived.Deep.QuietTactic
import Derived.BigQuiet
import Derived.StillTailTactics
import Derived.Deep.RegionHeld3
import Derived.Deep.DeepFit
import Derived.Deep.DeepMust
import Derived.Deep.LoopGhost
import Derived.Deep.AppendLies
set_option linter.unusedVariables false
set_option linter.unusedSimpArgs false
/- The words and small lemmas that the walks of this seat share; no condition. -/
namespace Go.Proofs.YtgjahnomafpnfaaGreatDoor
open Go.RowKit
theorem ret_int {k : IntKind} {a b : Int} (h : a = b) : Ending.returned (.int k a) = .returned (.int k b) := by rw [h]
theorem ret_bool {a b : Bool} (h : a = b) : Ending.returned (.bool a) = .returned (.bool b) := by rw [h]
/-- least ≤ n ≤ most. -/
def inB (n lo hi : Int) : Bool := decide (lo ≤ n) && decide (n ≤ hi)
theorem inB_iff (n lo hi : Int) : inB n lo hi = true ↔ lo ≤ n ∧ n ≤ hi := by simp [inB]
/-- The order of two numbers. -/
def cmpI (a b : Int) : Int := if a < b then -1 else if b < a then 1 else 0
def or2 (a b : Int) : Int := if a = 0 then b else a
/-- A record. -/
structure Rec where
  st : Int
  num : Int
  hr : Int
  txt : ByteArray
  deriving Inhabited
/-- A record as a value. -/
abbrev rv (x : Rec) : Value := .agg #[.int .i64 x.st, .int .i64 x.num, .int .i64 x.hr, .string x.txt]
/-- A record's cells. -/
def rcells (x : Rec) : List Value := [.int .i64 x.st, .int .i64 x.num, .int .i64 x.hr, .string x.txt]
theorem below_trans {W a b : World} {B : Nat} (h : Below B W a) (k : Below a.heap.size a b) (hB : B ≤ W.heap.size) : Below B W b := h.trans (k.mono (Nat.le_trans hB h.size))
/-- What lay in a world is read in a later one as it was. -/
theorem bcell {W w1 : World} (hb : Below W.heap.size W w1) : (∀ b o, b < W.heap.size → w1.cell? ⟨b, o, none⟩ = W.cell? ⟨b, o, none⟩) ∧ (∀ b o, b < W.heap.size → w1.frozen? ⟨b, o, none⟩ = W.frozen? ⟨b, o, none⟩) :=
  ⟨fun b o h => hb.cell (p := ⟨b, o, none⟩) h, fun b o h => hb.frozen (p := ⟨b, o, none⟩) h⟩
/-- The cells of records in a row. -/
def flat (xs : List Rec) : List Value := xs.flatMap rcells
theorem flat_length (xs : List Rec) : (flat xs).length = xs.length * 4 := by
  induction xs with
  | nil => rfl
  | cons x xs ih => simp only [flat, List.flatMap_cons, List.length_append, List.length_cons] at ih ⊢; rw [ih]; simp [rcells]; omega
theorem flat_append (xs ys : List Rec) : flat (xs ++ ys) = flat xs ++ flat ys := by simp [flat]
theorem flat_one (x : Rec) : flat [x] = rcells x := by simp [flat]
theorem flat_get (xs : List Rec) : ∀ (i j : Nat) (x : Rec), xs[i]? = some x → j < 4 → (flat xs)[i * 4 + j]? = (rcells x)[j]? := by
  induction xs with
  | nil => intro i j x h; simp at h
  | cons y ys ih =>
    intro i j x h hj
    have e : flat (y :: ys) = rcells y ++ flat ys := by simp [flat]
    have l4 : (rcells y).length = 4 := rfl
    cases i with
    | zero =>
      simp at h
      subst h
      rw [e, List.getElem?_append_left (by omega)]
      simp
    | succ i =>
      rw [e, List.getElem?_append_right (by omega), l4, show (i + 1) * 4 + j - 4 = i * 4 + j from by omega]
      exact ih i j x (by simpa using h) hj
theorem rcells_oneCell (x : Rec) : ∀ u ∈ rcells x, u.oneCell' = true := by
  intro u hu
  simp [rcells] at hu
  rcases hu with rfl | rfl | rfl | rfl <;> rfl
/-- A slice of records that can be appended to: of the owner's own (in blocks from base on; r: its block), or one that came from elsewhere and is full (r: none). -/
def RowR (w : World) (base : Nat) (r : Option Nat) (v : Value) (xs : List Rec) : Prop :=
  (w.ownsRow base 49 4 v xs.length (flat xs) ∧ r = v.ownBlock) ∨
  ((∃ g, v = .slice (some ⟨g, 0, none⟩) xs.length xs.length ∧ g < base ∧ (∀ j u, (flat xs)[j]? = some u → w.cell? ⟨g, j, none⟩ = some u)) ∧ r = none)
theorem info49 : (Tryz.prog.info? 49).map (fun i => (i.zero, i.size, i.bytes)) = some (some (rv ⟨0, 0, 0, ByteArray.empty⟩), 4, 40) := by kernel_rfl
end Go.Proofs.YtgjahnomafpnfaaGreatDoor

/- Walks of the leaves: in, many, cmp.Compare, cmp.Or, byRef; no condition. -/
namespace Go.Proofs.YtgjahnomafpnfaaGreatDoor
open Go.RowKit
set_option maxHeartbeats 400000 in
theorem in_any (n lo hi : Int) (w : World) :
    Calls Tryz.prog 91 #[.int .i64 n, .int .i64 lo, .int .i64 hi] w fun e w' => e = .returned (.bool (inB n lo hi)) ∧ w = w' := by
  by_cases h1 : lo ≤ n <;> by_cases h2 : n ≤ hi
  all_goals
    go_enter Tryz.func91, Tryz.ntmps91
    go_wp2
    go_ret
    exact ⟨by simp [inB, *], rfl⟩
theorem many_any (n : Int) (w : World) :
    Calls Tryz.prog 95 #[.int .i64 n] w fun e w' => e = .returned (.bool (inB n 2 5)) ∧ w = w' := by
  go_enter Tryz.func95, Tryz.ntmps95
  go_wp2_with (go_at_call 91; refine (in_any _ _ _ _).mono ?_; rintro e w' ⟨rfl, rfl⟩)
  go_ret
  exact ⟨rfl, rfl⟩
theorem isNaN_any (n : Int) (w : World) :
    Calls Tryz.prog 145 #[.int .i64 n] w fun e w' => e = .returned (.bool false) ∧ w = w' := by
  go_enter Tryz.func145, Tryz.ntmps145
  go_wp2
  go_ret
  exact ⟨rfl, rfl⟩
theorem cmpI_lt {a b : Int} (h : a < b) : -1 = cmpI a b := by simp [cmpI, h]
theorem cmpI_gt {a b : Int} (h : b < a) : 1 = cmpI a b := by unfold cmpI; rw [if_neg (by omega), if_pos h]
theorem cmpI_eq {a b : Int} (h : b ≤ a) (h' : a ≤ b) : 0 = cmpI a b := by unfold cmpI; rw [if_neg (by omega), if_neg (by omega)]
theorem cmp_any (a b : Int) (w : World) :
    Calls Tryz.prog 81 #[.int .i64 a, .int .i64 b] w fun e w' => e = .returned (.int .i64 (cmpI a b)) ∧ w = w' := by
  by_cases h1 : a < b
  · go_enter Tryz.func81, Tryz.ntmps81
    go_wp2_with (go_at_call 145; refine (isNaN_any _ _).mono ?_; rintro e w' ⟨rfl, rfl⟩)
    go_ret
    exact ⟨ret_int (cmpI_lt h1), rfl⟩
  · by_cases h2 : b < a
    · go_enter Tryz.func81, Tryz.ntmps81
      go_wp2_with (go_at_call 145; refine (isNaN_any _ _).mono ?_; rintro e w' ⟨rfl, rfl⟩)
      go_ret
      exact ⟨ret_int (cmpI_gt (by omega)), rfl⟩
    · go_enter Tryz.func81, Tryz.ntmps81
      go_wp2_with (go_at_call 145; refine (isNaN_any _ _).mono ?_; rintro e w' ⟨rfl, rfl⟩)
      go_ret
      exact ⟨ret_int (cmpI_eq (by omega) (by omega)), rfl⟩
set_option maxHeartbeats 400000 in
theorem or2_any (a b : Int) (p : Nat) (w : World) (h0 : w.cell? ⟨p, 0, none⟩ = some (.int .i64 a)) (h1 : w.cell? ⟨p, 1, none⟩ = some (.int .i64 b)) :
    Calls Tryz.prog 80 #[.slice (some ⟨p, 0, none⟩) 2 2] w fun e w' => e = .returned (.int .i64 (or2 a b)) ∧ w = w' := by
  by_cases ha : a = 0
  · by_cases hb : b = 0
    · subst ha hb
      go_enter Tryz.func80, Tryz.ntmps80
      go_wp2
      go_loop [5, 8] (fun x i => ∃ k : Nat, k ≤ 2 ∧ i = .int .i64 k) (fun _ i => 2 - (intOf i).toNat)
      case atStart => exact ⟨0, by omega, rfl⟩
      case round =>
        obtain ⟨k, hk, rfl⟩ := hrel
        by_cases hlt : k < 2
        · have hc : w.cell? ⟨p, k, none⟩ = some (.int .i64 0) := by rcases (by omega : k = 0 ∨ k = 1) with rfl | rfl <;> assumption
          go_wp2
          go_round
          case rel => exact ⟨k + 1, by omega, by go_num⟩
          case measure => simp [intOf]; omega
        · go_wp2
          go_ret
          exact ⟨ret_int rfl, rfl⟩
    · subst ha
      have hb1 : (b != 0) = true := by simpa using hb
      go_enter Tryz.func80, Tryz.ntmps80
      go_wp2
      go_loop [5, 8] (fun x i => ∃ k : Nat, k ≤ 1 ∧ i = .int .i64 k) (fun _ i => 2 - (intOf i).toNat)
      case atStart => exact ⟨0, by omega, rfl⟩
      case round =>
        obtain ⟨k, hk, rfl⟩ := hrel
        rcases (by omega : k = 0 ∨ k = 1) with rfl | rfl
        · go_wp2
          go_round
          case rel => exact ⟨1, by omega, by go_num⟩
          case measure => simp [intOf]
        · go_wp2
          go_ret
          exact ⟨ret_int (by simp [or2]), rfl⟩
  · have ha1 : (a != 0) = true := by simpa using ha
    go_enter Tryz.func80, Tryz.ntmps80
    go_wp2
    go_loop [5, 8] (fun x i => i = .int .i64 0) (fun _ _ => 0)
    case atStart => exact rfl
    case round =>
      obtain rfl := hrel
      go_wp2
      go_ret
      exact ⟨ret_int (by simp [or2, ha]), rfl⟩
theorem cmp_still (a b : Int) (w : World) :
    Calls Tryz.prog 81 #[.int .i64 a, .int .i64 b] w fun e w' => e = .returned (.int .i64 (cmpI a b)) ∧ w' = w :=
  (cmp_any a b w).mono fun _ _ ⟨h, h'⟩ => ⟨h, h'.symm⟩
set_option maxHeartbeats 400000 in
set_option maxRecDepth 100000 in
theorem byRef_any (s n h s' n' h' : Int) (t t' : ByteArray) (w : World) :
    Calls Tryz.prog 82 #[.agg #[.int .i64 s, .int .i64 n, .int .i64 h, .string t], .agg #[.int .i64 s', .int .i64 n', .int .i64 h', .string t']] w fun e w' => e = .returned (.int .i64 (or2 (cmpI s s') (cmpI n n'))) ∧ Below w.heap.size w w' := by
  go_enter Tryz.func82, Tryz.ntmps82
  go_wp2
  have hB : Below w.heap.size w ((w.alloc (.cells #[.int .i64 s, .int .i64 n, .int .i64 h, .string t] 49)).alloc (.cells #[.int .i64 s', .int .i64 n', .int .i64 h', .string t'] 49)) := ((Below.refl _ _).alloc (Nat.le_refl _) _).alloc (by simp) _
  have c0 : ((w.alloc (.cells #[.int .i64 s, .int .i64 n, .int .i64 h, .string t] 49)).alloc (.cells #[.int .i64 s', .int .i64 n', .int .i64 h', .string t'] 49)).cell? ⟨w.heap.size, 0, none⟩ = some (.int .i64 s) := by simp [go_sem]
  have c1 : ((w.alloc (.cells #[.int .i64 s, .int .i64 n, .int .i64 h, .string t] 49)).alloc (.cells #[.int .i64 s', .int .i64 n', .int .i64 h', .string t'] 49)).cell? ⟨w.heap.size, 1, none⟩ = some (.int .i64 n) := by simp [go_sem]
  have c2 : ((w.alloc (.cells #[.int .i64 s, .int .i64 n, .int .i64 h, .string t] 49)).alloc (.cells #[.int .i64 s', .int .i64 n', .int .i64 h', .string t'] 49)).cell? ⟨w.heap.size + 1, 0, none⟩ = some (.int .i64 s') := by simp [go_sem]
  have c3 : ((w.alloc (.cells #[.int .i64 s, .int .i64 n, .int .i64 h, .string t] 49)).alloc (.cells #[.int .i64 s', .int .i64 n', .int .i64 h', .string t'] 49)).cell? ⟨w.heap.size + 1, 1, none⟩ = some (.int .i64 n') := by simp [go_sem]
  have hs : w.heap.size + 1 < ((w.alloc (.cells #[.int .i64 s, .int .i64 n, .int .i64 h, .string t] 49)).alloc (.cells #[.int .i64 s', .int .i64 n', .int .i64 h', .string t'] 49)).heap.size := by simp
  generalize ((w.alloc (.cells #[.int .i64 s, .int .i64 n, .int .i64 h, .string t] 49)).alloc (.cells #[.int .i64 s', .int .i64 n', .int .i64 h', .string t'] 49)) = W at hB c0 c1 c2 c3 hs ⊢
  go_region_held3 (fun w' => w'.cell? ⟨w.heap.size, 0, none⟩ = some (.int .i64 s) ∧ w'.cell? ⟨w.heap.size, 1, none⟩ = some (.int .i64 n) ∧ w'.cell? ⟨w.heap.size + 1, 0, none⟩ = some (.int .i64 s') ∧ w'.cell? ⟨w.heap.size + 1, 1, none⟩ = some (.int .i64 n')) (go_keep) (first | (go_at_call 81; refine (cmp_any _ _ _).mono ?_; rintro e w' ⟨rfl, rfl⟩) | (go_at_call 80; refine (or2_any (cmpI s s') (cmpI n n') _ _ ?_ ?_).mono ?_; (simp [go_sem]); (simp [go_sem]); rintro e w' ⟨rfl, rfl⟩))
  go_wp2
  go_ret
  exact ⟨rfl, (hB.alloc (by omega) _).drew⟩
end Go.Proofs.YtgjahnomafpnfaaGreatDoor

/- Walks: written. -/
namespace Go.Proofs.YtgjahnomafpnfaaGreatDoor
open Go.RowKit
/-- A byte of a text: 32 to 126. -/
def okByte (c : UInt8) : Bool := inB (c.toNat : Int) 32 126
/-- A text of a record. -/
def writtenB (s : ByteArray) : Bool := inB (s.size : Int) 1 200 && s.data.toList.all okByte
set_option maxHeartbeats 400000 in
theorem bad_any (c : UInt8) (w : World) :
    Calls Tryz.prog 148 #[.int .u8 (c.toNat : Int)] w fun e w' => e = .returned (.bool (!okByte c)) ∧ w = w' := by
  have h0 : (c.toNat : Int) ≤ 255 := by have := c.toNat_lt; omega
  go_enter Tryz.func148, Tryz.ntmps148
  go_wp2_with (go_at_call 91; refine (in_any _ _ _ _).mono ?_; rintro e w' ⟨rfl, rfl⟩)
  go_ret
  exact ⟨rfl, rfl⟩
/-- The first place of a byte that is none of a text, or -1. -/
def badIx (l : List UInt8) : Int := match l.findIdx? (fun c => !okByte c) with | some i => (i : Int) | none => -1
theorem badIx_at {l : List UInt8} {k : Nat} (h : ∀ j, j < k → okByte (l.getD j 0) = true) (hk : k < l.length) (hb : okByte (l.getD k 0) = false) : badIx l = (k : Int) := by
  have : l.findIdx? (fun c => !okByte c) = some k := by
    rw [List.findIdx?_eq_some_iff_getElem]
    refine ⟨hk, ?_, fun j hj => ?_⟩
    · have e : l.getD k 0 = l[k] := by simp [List.getD, hk]
      rw [e] at hb; simp [hb]
    · have := h j hj
      have e : l.getD j 0 = l[j] := by simp [List.getD, show j < l.length by omega]
      rw [e] at this; simp [this]
  simp [badIx, this]
theorem badIx_none {l : List UInt8} (h : ∀ j, j < l.length → okByte (l.getD j 0) = true) : badIx l = -1 := by
  have : l.findIdx? (fun c => !okByte c) = none := by
    rw [List.findIdx?_eq_none_iff]
    intro x hx
    obtain ⟨j, hj, rfl⟩ := List.mem_iff_getElem.1 hx
    have := h j hj
    have e : l.getD j 0 = l[j] := by simp [List.getD, hj]
    rw [e] at this; simp [this]
  simp [badIx, this]
theorem badIx_all (l : List UInt8) : decide (0 ≤ badIx l) = !l.all okByte := by
  unfold badIx
  cases h : l.findIdx? (fun c => !okByte c) with
  | none =>
    rw [List.findIdx?_eq_none_iff] at h
    have : l.all okByte = true := List.all_eq_true.2 fun x hx => by simpa using h x hx
    simp [this]
  | some i =>
    obtain ⟨hi, hp, _⟩ := List.findIdx?_eq_some_iff_getElem.1 h
    have : l.all okByte = false := by
      rw [List.all_eq_false]
      exact ⟨l[i], List.getElem_mem hi, by simpa using hp⟩
    simp [this]
set_option maxHeartbeats 400000 in
set_option maxRecDepth 100000 in
theorem badIx_any (l : List UInt8) (b c : Nat) (w : World) (hl : l.length ≤ 1000) (hc : ∀ i, i < l.length → w.cell? ⟨b, i, none⟩ = some (.int .u8 ((l.getD i 0).toNat : Int))) :
    Calls Tryz.prog 175 #[.slice (some ⟨b, 0, none⟩) l.length c, .func (.func 148) #[] #[]] w fun e w' => e = .returned (.int .i64 (badIx l)) ∧ w = w' := by
  go_enter Tryz.func175, Tryz.ntmps175
  go_wp2
  go_loop [5, 8] (fun _ i => ∃ k : Nat, k ≤ l.length ∧ i = .int .i64 k ∧ ∀ j, j < k → okByte (l.getD j 0) = true) (fun _ i => l.length - (intOf i).toNat)
  case atStart => exact ⟨0, by omega, rfl, by omega⟩
  case round =>
    obtain ⟨k, hk, rfl, hj⟩ := hrel
    have HJ := Lib.hid hj
    clear hj
    by_cases hlt : k < l.length
    · have hck := hc k hlt
      have HC := Lib.hid hc
      clear hc
      go_wp2_with (go_at_call 148; refine (bad_any _ _).mono ?_; rintro e w' ⟨rfl, rfl⟩)
      · go_ret
        have hb : (!okByte l[k]) = true := by assumption
        exact ⟨ret_int (badIx_at HJ.out hlt (by simpa [List.getD, hlt] using hb)).symm, rfl⟩
      · have hb : (!okByte l[k]) = false := by assumption
        go_round
        case rel => exact ⟨k + 1, by omega, by go_num, fun j h => by
          rcases (by omega : j < k ∨ j = k) with h | rfl
          · exact HJ.out j h
          · simpa [List.getD, hlt] using hb⟩
        case measure => simp [intOf]; omega
    · clear hc
      go_wp2
      go_ret
      exact ⟨ret_int (badIx_none (fun j h => HJ.out j (by omega))).symm, rfl⟩
theorem hasBad_any (l : List UInt8) (b c : Nat) (w : World) (hl : l.length ≤ 1000) (hc : ∀ i, i < l.length → w.cell? ⟨b, i, none⟩ = some (.int .u8 ((l.getD i 0).toNat : Int))) :
    Calls Tryz.prog 147 #[.slice (some ⟨b, 0, none⟩) l.length c, .func (.func 148) #[] #[]] w fun e w' => e = .returned (.bool (!l.all okByte)) ∧ w = w' := by
  go_enter Tryz.func147, Tryz.ntmps147
  go_wp2_with (go_at_call 175; refine (badIx_any l b c _ hl hc).mono ?_; rintro e w' ⟨rfl, rfl⟩)
  go_ret
  exact ⟨ret_bool (badIx_all l), rfl⟩
theorem bytesRow_cell (w : World) (s : ByteArray) (cap : Nat) (fr : Nat × Nat) (i : Nat) (hi : i < s.data.toList.length) :
    (w.alloc (.cells (bytesRow s cap) 5 fr)).drew.cell? ⟨w.heap.size, i, none⟩ = some (.int .u8 ((s.data.toList.getD i 0).toNat : Int)) := by
  have hi' : i < s.data.size := by simpa using hi
  have hi2 : i < s.size := hi'
  rw [World.cell?_drew, World.cell?_alloc_mark]
  simp [bytesRow, Array.getElem?_append, hi2, List.getD]
set_option maxHeartbeats 400000 in
set_option maxRecDepth 100000 in
theorem written_any (s : ByteArray) (w : World) :
    Calls Tryz.prog 93 #[.string s] w fun e w' => e = .returned (.bool (writtenB s)) ∧ Below w.heap.size w w' := by
  have hconv := fun w => run_bytes_of_string (P := Tryz.prog) w 9 69 5 s Tryz.underlying9 Tryz.underlying69 Tryz.underlying5
  by_cases hin : inB (s.size : Int) 1 200 = true
  · have hb := (inB_iff _ _ _).1 hin
    have hl1 : s.data.toList.length ≤ 1000 := by have : s.data.toList.length = s.size := rfl; omega
    go_enter Tryz.func93, Tryz.ntmps93
    go_wp2_with (go_at_call 91; refine (in_any _ _ _ _).mono ?_; rintro e w' ⟨rfl, rfl⟩)
    refine (hasBad_any s.data.toList w.heap.size _ _ hl1 (fun i hi => bytesRow_cell w s _ _ i hi)).mono ?_
    rintro e w' ⟨rfl, rfl⟩
    go_wp2
    go_ret
    exact ⟨ret_bool (by simp [writtenB, hin]), ((Below.refl _ _).alloc (Nat.le_refl _) _).drew⟩
  · have hin' : inB (s.size : Int) 1 200 = false := by simpa using hin
    go_enter Tryz.func93, Tryz.ntmps93
    go_wp2_with (go_at_call 91; refine (in_any _ _ _ _).mono ?_; rintro e w' ⟨rfl, rfl⟩)
    go_ret
    exact ⟨ret_bool (by simp [writtenB, hin']), Below.refl _ _⟩
end Go.Proofs.YtgjahnomafpnfaaGreatDoor

/- Walks: formed, CheckRecord. -/
namespace Go.Proofs.YtgjahnomafpnfaaGreatDoor
open Go.RowKit
/-- A well-formed record for n stations. -/
def formedB (n : Int) (x : Rec) : Bool := inB x.st 0 (n - 1) && inB x.num 1 400 && inB x.hr 0 1000000 && writtenB x.txt
set_option maxHeartbeats 400000 in
set_option maxRecDepth 100000 in
theorem formed_any (n : Int) (x : Rec) (w : World) (h0 : -1000 ≤ n) (h1 : n ≤ 1000) :
    Calls Tryz.prog 119 #[.int .i64 n, rv x] w fun e w' => e = .returned (.bool (formedB n x)) ∧ Below w.heap.size w w' := by
  obtain ⟨st, num, hr, txt⟩ := x
  go_enter Tryz.func119, Tryz.ntmps119
  go_wp2_with (first | (go_at_call 91; refine (in_any _ _ _ _).mono ?_; rintro e w' ⟨rfl, rfl⟩) | (go_at_call 93; refine (written_any _ _).mono ?_; rintro e w' ⟨rfl, hb⟩))
  · go_ret
    exact ⟨ret_bool (by simp [formedB, *]), below_trans ((Below.refl _ _).alloc (Nat.le_refl _) _) hb (Nat.le_refl _)⟩
  all_goals
    go_ret
    exact ⟨ret_bool (by simp [formedB, *]), (Below.refl _ _).alloc (Nat.le_refl _) _⟩
/-- The error of CheckRecord. -/
def checkE (n : Int) (x : Rec) : Int := if inB n 2 5 && formedB n x then 0 else 1
set_option maxHeartbeats 400000 in
set_option maxRecDepth 100000 in
theorem CheckRecord_any (n : Int) (x : Rec) (w : World) :
    Calls Tryz.prog 63 #[.int .i64 n, rv x] w fun e w' => e = .returned (.int .i64 (checkE n x)) ∧ Below w.heap.size w w' := by
  obtain ⟨st, num, hr, txt⟩ := x
  by_cases hn : inB n 2 5 = true
  · have hn' := (inB_iff _ _ _).1 hn
    go_enter Tryz.func63, Tryz.ntmps63
    go_wp2_with (first | (go_at_call 95; refine (many_any _ _).mono ?_; rintro e w' ⟨rfl, rfl⟩) | (go_at_call 119; refine (formed_any _ ⟨st, num, hr, txt⟩ _ (by omega) (by omega)).mono ?_; rintro e w' ⟨rfl, hb⟩))
    all_goals
      go_ret
      exact ⟨ret_int (by simp_all [checkE]), below_trans ((Below.refl _ _).alloc (Nat.le_refl _) _) hb (Nat.le_refl _)⟩
  · go_enter Tryz.func63, Tryz.ntmps63
    go_wp2_with (first | (go_at_call 95; refine (many_any _ _).mono ?_; rintro e w' ⟨rfl, rfl⟩))
    go_ret
    exact ⟨ret_int (by simp [checkE, hn]), (Below.refl _ _).alloc (Nat.le_refl _) _⟩
end Go.Proofs.YtgjahnomafpnfaaGreatDoor

/- A rule for a region that draws its order: its operations are shown once, in the order of the text, each at whatever world has grown out of the first one. -/
namespace Go.Proofs.YtgjahnomafpnfaaGreatDoor
open Go.RowKit
/-- w' is w with new blocks. -/
def Ext (w w' : World) : Prop := Below w.heap.size w w'
theorem Ext.refl (w : World) : Ext w w := Below.refl _ _
theorem Ext.trans {a b c : World} (h : Ext a b) (k : Ext b c) : Ext a c := Below.trans (B := a.heap.size) h (k.mono h.size)
theorem Ext.alloc (w : World) (o : Obj) : Ext w (w.alloc o) := (Below.refl _ _).alloc (Nat.le_refl _) o
theorem Ext.drew (w : World) : Ext w w.drew := (Below.refl _ _).drew
/-- Does operation i wait for operation j? -/
def anc (ops : Array Oper) : Nat → Nat → Nat → Bool
  | 0, _, _ => false
  | f + 1, i, j => (ops[i]?).any fun o => o.after.any fun e => Region.binds .any e && (e.on == j || anc ops f e.on j)
/-- What the rule asks of a region's text: n operations that reckon, the others behind all of these. -/
def drawnOk (ops : Array Oper) (n size : Nat) : Bool :=
  decide (n ≤ ops.size) &&
  (List.range ops.size).all (fun i => (ops[i]?).any fun o =>
    (match o.op with | .select .. => false | _ => true) &&
    o.after.all (fun e => !Region.binds .any e || decide (e.on < i)) &&
    (!decide (i < n) || (o.dst.any fun d => decide (d < size)) && (List.range i).all (fun j => (ops[j]?).any fun q => q.dst != o.dst) &&
      (List.range n).all (fun j => (ops[j]?).any fun q => q.dst.all fun d => !(o.looksAt ops).contains d || (j != i && anc ops ops.size i j))) &&
    (decide (i < n) || (List.range n).all (fun j => anc ops ops.size i j)))
/-- What op o gives at a frame and a world. -/
def giveG (P : Program) (ops : Array Oper) (o : Oper) (a : Act) (w : World) (R : Value → World → Prop) : Prop :=
  if Region.wanted o (yielded ops a.tmps) = true then o.wp P a w (fun a' w' => ∃ v, a' = a.put o.dst v ∧ R v w') (fun _ _ _ => False) else R undef w
def pureG (P : Program) (ops : Array Oper) (o : Oper) (a : Act) (w : World) (X : Value) : Prop :=
  if Region.wanted o (yielded ops a.tmps) = true then (execOp a.eval o).run P w = .ok (.value X) w else X = undef
def factsOf (ops : Array Oper) (Φ : Nat → Option (Value → World → Prop)) (ν : Nat → Value) (i : Nat) (w : World) : Prop :=
  ∀ j φ, Φ j = some φ → anc ops ops.size i j = true → φ (ν j) w
inductive Seq (E : World → World → Prop) (P : Program) (ops : Array Oper) (Φ : Nat → Option (Value → World → Prop)) (w0 : World) (T : Act → World → Prop) (ν : Nat → Value) : Nat → List Oper → Act → Prop where
  | nil {i : Nat} {a : Act} (h : ∀ w', E w0 w' → (∀ j φ, j < i → Φ j = some φ → φ (ν j) w') → T a w') : Seq E P ops Φ w0 T ν i [] a
  | pure {i : Nat} {o : Oper} {rest : List Oper} {a : Act} (X : Value) (h0 : Φ i = none) (h : ∀ w', E w0 w' → factsOf ops Φ ν i w' → pureG P ops o a w' X) (hr : Seq E P ops Φ w0 T ν (i + 1) rest (a.put o.dst X)) : Seq E P ops Φ w0 T ν i (o :: rest) a
  | eff {i : Nat} {o : Oper} {rest : List Oper} {a : Act} (φ : Value → World → Prop) (h0 : Φ i = some φ) (h : ∀ w', E w0 w' → factsOf ops Φ ν i w' → giveG P ops o a w' (fun v w'' => φ v w'' ∧ E w' w'')) (hr : Seq E P ops Φ w0 T ν (i + 1) rest (a.put o.dst (ν i))) : Seq E P ops Φ w0 T ν i (o :: rest) a
section
variable {E : World → World → Prop} {P : Program} {ops : Array Oper} {Φ : Nat → Option (Value → World → Prop)} {w0 : World} {T : Act → World → Prop} {Q : Exit → Act → World → Prop} {n : Nat} {a0 : Act}
def dstOf (ops : Array Oper) (j : Nat) : Option Tmp := (ops[j]?).bind (·.dst)
/-- The frame b holds, where o looks, what the operations ahead of it have given. -/
def AG (ops : Array Oper) (n : Nat) (a0 : Act) (ν : Nat → Value) (b : Act) (o : Oper) : Prop :=
  ∀ t ∈ o.looksAt ops, (∀ k, k < n → dstOf ops k = some t → b.tmps[t]? = some (ν k)) ∧ ((∀ k, k < n → dstOf ops k ≠ some t) → b.tmps[t]? = a0.tmps[t]?)
theorem AG.same {ν : Nat → Value} {b b' : Act} {o : Oper} (h : AG ops n a0 ν b o) (h' : AG ops n a0 ν b' o) : ∀ t ∈ o.looksAt ops, b.tmps[t]? = b'.tmps[t]? := by
  intro t ht
  by_cases hk : ∃ k, k < n ∧ dstOf ops k = some t
  · obtain ⟨k, hk, hd⟩ := hk
    rw [(h t ht).1 k hk hd, (h' t ht).1 k hk hd]
  · have hn : ∀ k, k < n → dstOf ops k ≠ some t := fun k hk' hd => hk ⟨k, hk', hd⟩
    rw [(h t ht).2 hn, (h' t ht).2 hn]
theorem exec_same {b b' : Act} {o : Oper} (hs : ∀ cs c, o.op ≠ .select cs c) (h : ∀ t ∈ o.looksAt ops, b.tmps[t]? = b'.tmps[t]?) : execOp b.eval o = execOp b'.eval o := by
  refine execOp_congr o hs fun x hx => ?_
  cases x with
  | tmp t =>
    have := h t (List.mem_append_left _ (List.mem_filterMap.2 ⟨.tmp t, by simpa using hx, rfl⟩))
    simp only [Act.eval, Array.getD_eq_getD_getElem?, this]
  | _ => rfl
theorem wanted_same {b b' : Act} {o : Oper} (h : ∀ t ∈ o.looksAt ops, b.tmps[t]? = b'.tmps[t]?) : Region.wanted o (yielded ops b.tmps) = Region.wanted o (yielded ops b'.tmps) := by
  unfold Region.wanted
  cases hg : o.guard with
  | none => rfl
  | some gw =>
    obtain ⟨g, want⟩ := gw
    have : yielded ops b.tmps g = yielded ops b'.tmps g := by
      unfold yielded
      cases hd : (ops[g]?).bind (·.dst) with
      | none => rfl
      | some t =>
        have := h t (List.mem_append_right _ (by simp [hg, hd]))
        simp only [Option.bind_some, this]
    simp only [this]
theorem pure_same {b b' : Act} {o : Oper} {w : World} {X : Value} (hs : ∀ cs c, o.op ≠ .select cs c) (h : ∀ t ∈ o.looksAt ops, b.tmps[t]? = b'.tmps[t]?) (hp : pureG P ops o b w X) : pureG P ops o b' w X := by
  unfold pureG at *
  rw [← wanted_same h, ← exec_same hs h]; exact hp
theorem pure_one {b : Act} {o : Oper} {w : World} {X Y : Value} (h : pureG P ops o b w X) (k : pureG P ops o b w Y) : X = Y := by
  unfold pureG at *
  split at h
  · rename_i hw
    rw [if_pos hw] at k
    rw [h] at k
    simpa using k
  · rename_i hw
    rw [if_neg hw] at k
    rw [h, k]
structure DOk (ops : Array Oper) (n size : Nat) : Prop where
  le : n ≤ ops.size
  sel : ∀ (i : Nat) (o : Oper), ops[i]? = some o → ∀ cs c, o.op ≠ .select cs c
  dst : ∀ (i : Nat) (o : Oper), i < n → ops[i]? = some o → ∃ d, o.dst = some d ∧ d < size
  apart : ∀ i j, i < n → j < i → dstOf ops j ≠ dstOf ops i
  looks : ∀ (i : Nat) (o : Oper) (j : Nat), i < n → ops[i]? = some o → j < n → ∀ t ∈ o.looksAt ops, dstOf ops j = some t → anc ops ops.size i j = true
  back : ∀ (i : Nat) (o : Oper), ops[i]? = some o → ∀ e ∈ o.after, Region.binds .any e = true → e.on < i
  tail : ∀ i j, n ≤ i → i < ops.size → j < n → anc ops ops.size i j = true
theorem DOk.of {size : Nat} (h : drawnOk ops n size = true) : DOk ops n size := by
  unfold drawnOk at h
  simp only [Bool.and_eq_true, decide_eq_true_eq, List.all_eq_true, List.mem_range] at h
  obtain ⟨h1, h2⟩ := h
  have get : ∀ i o, ops[i]? = some o → i < ops.size := fun i o h => (Array.getElem?_eq_some_iff.1 h).1
  have use := fun i o (ho : ops[i]? = some o) => by
    have := h2 i (get i o ho)
    rw [ho] at this
    simp only [Option.any_some, Bool.and_eq_true, Bool.or_eq_true, Bool.not_eq_true', decide_eq_true_eq, decide_eq_false_iff_not, List.all_eq_true, List.mem_range] at this
    exact this
  refine ⟨h1, ?_, ?_, ?_, ?_, ?_, ?_⟩
  · intro i o ho cs c e
    have := (use i o ho).1.1.1
    rw [e] at this; simp at this
  · intro i o hi ho
    have := (use i o ho).1.2
    rcases this with h | h
    · omega
    · have := h.1.1
      cases hd : o.dst with
      | none => simp [hd] at this
      | some d => exact ⟨d, rfl, by simpa [hd] using this⟩
  · intro i j hi hj
    obtain ⟨o, ho⟩ : ∃ o, ops[i]? = some o := ⟨ops[i]'(by omega), by simp [show i < ops.size by omega]⟩
    have := (use i o ho).1.2
    rcases this with h | h
    · omega
    · have := h.1.2 j hj
      obtain ⟨q, hq⟩ : ∃ q, ops[j]? = some q := ⟨ops[j]'(by omega), by simp [show j < ops.size by omega]⟩
      rw [hq] at this
      simp only [dstOf, ho, hq, Option.bind_some]
      simpa using this
  · intro i o j hi ho hj t ht hd
    have := (use i o ho).1.2
    rcases this with h | h
    · omega
    · have := h.2 j hj
      obtain ⟨q, hq⟩ : ∃ q, ops[j]? = some q := ⟨ops[j]'(by omega), by simp [show j < ops.size by omega]⟩
      rw [hq] at this
      simp only [dstOf, hq, Option.bind_some] at hd
      simp only [Option.any_some, hd, Option.all_some, Bool.or_eq_true, Bool.not_eq_true', Bool.and_eq_true] at this
      rcases this with h3 | h3
      · have : (o.looksAt ops).contains t = true := List.contains_iff_mem.2 ht
        rw [this] at h3; cases h3
      · exact h3.2
  · intro i o ho e he hb
    have := Array.all_eq_true'.1 (use i o ho).1.1.2 e he
    rw [Bool.or_eq_true, Bool.not_eq_true', decide_eq_true_eq] at this
    rcases this with h | h
    · rw [hb] at h; cases h
    · exact h
  · intro i j hi hlt hj
    obtain ⟨o, ho⟩ : ∃ o, ops[i]? = some o := ⟨ops[i]'hlt, by simp [hlt]⟩
    have := (use i o ho).2
    rcases this with h | h
    · omega
    · exact h j hj
theorem anc_lt {size : Nat} (D : DOk ops n size) : ∀ (f i j : Nat), anc ops f i j = true → j < i := by
  intro f
  induction f with
  | zero => intro i j h; simp [anc] at h
  | succ f ih =>
    intro i j h
    simp only [anc] at h
    cases ho : ops[i]? with
    | none => simp [ho] at h
    | some o =>
      rw [ho, Option.any_some, Array.any_eq_true'] at h
      obtain ⟨e, he, h⟩ := h
      simp only [Bool.and_eq_true, Bool.or_eq_true, beq_iff_eq] at h
      have := D.back i o ho e he h.1
      rcases h.2 with h2 | h2
      · omega
      · have := ih _ _ h2; omega
theorem anc_listed {listed : Array Bool} (hc : ∀ (i : Nat) (o : Oper), ops[i]? = some o → listed.getD i false = true → ∀ e ∈ o.after, Region.binds .any e = true → listed.getD e.on false = true) :
    ∀ (f i j : Nat) (o : Oper), ops[i]? = some o → (∀ e ∈ o.after, Region.binds .any e = true → listed.getD e.on false = true) → anc ops f i j = true → listed.getD j false = true := by
  intro f
  induction f with
  | zero => intro i j o _ _ h; simp [anc] at h
  | succ f ih =>
    intro i j o ho ha h
    simp only [anc] at h
    rw [ho, Option.any_some, Array.any_eq_true'] at h
    obtain ⟨e, he, h⟩ := h
    simp only [Bool.and_eq_true, Bool.or_eq_true, beq_iff_eq] at h
    have hl := ha e he h.1
    rcases h.2 with h2 | h2
    · exact h2 ▸ hl
    · cases hq : ops[e.on]? with
      | none => cases f <;> simp [anc, hq] at h2
      | some q => exact ih _ _ q hq (hc _ q hq hl) h2
structure PI (ops : Array Oper) (a0 : Act) (ν : Nat → Value) (listed : Array Bool) (i : Nat) (a : Act) : Prop where
  defers : a.defers = a0.defers
  size : a.tmps.size = a0.tmps.size
  old : ∀ t, (∀ k, k < i → dstOf ops k ≠ some t) → a.tmps[t]? = a0.tmps[t]?
  new : ∀ k, k < i → listed.getD k false = true → ∀ t, dstOf ops k = some t → a.tmps[t]? = some (ν k)
structure Inv (E : World → World → Prop) (P : Program) (ops : Array Oper) (Φ : Nat → Option (Value → World → Prop)) (w0 : World) (n : Nat) (a0 : Act) (listed : Array Bool) (a : Act) (w : World) (ν : Nat → Value) : Prop where
  lsize : listed.size = ops.size
  closed : ∀ (i : Nat) (o : Oper), ops[i]? = some o → listed.getD i false = true → ∀ e ∈ o.after, Region.binds .any e = true → listed.getD e.on false = true
  notail : ∀ i, n ≤ i → listed.getD i false = false
  defers : a.defers = a0.defers
  size : a.tmps.size = a0.tmps.size
  old : ∀ t, (∀ k, k < n → listed.getD k false = true → dstOf ops k ≠ some t) → a.tmps[t]? = a0.tmps[t]?
  new : ∀ k, k < n → listed.getD k false = true → ∀ t, dstOf ops k = some t → a.tmps[t]? = some (ν k)
  ext : E w0 w
  facts : ∀ j φ, j < n → listed.getD j false = true → Φ j = some φ → φ (ν j) w
  pures : ∀ (j : Nat) (o : Oper), j < n → ops[j]? = some o → listed.getD j false = true → Φ j = none → ∃ wj, E w0 wj ∧ factsOf ops Φ ν j wj ∧ ∀ b, AG ops n a0 ν b o → pureG P ops o b wj (ν j)
theorem PI.AG {ν : Nat → Value} {listed : Array Bool} {i : Nat} {a : Act} {o : Oper} (D : DOk ops n a0.tmps.size) (h : PI ops a0 ν listed i a) (ho : ops[i]? = some o) (hi : i < n) (hl : ∀ j, anc ops ops.size i j = true → listed.getD j false = true) :
    AG ops n a0 ν a o := by
  intro t ht
  refine ⟨fun k hk hd => ?_, fun hn => h.old t fun k hk => hn k (by omega)⟩
  have ha := D.looks i o k hi ho hk t ht hd
  exact h.new k (anc_lt D _ _ _ ha) (hl k ha) t hd
theorem put_get {a : Act} {d : Tmp} {v : Value} (t : Nat) : (a.put (some d) v).tmps[t]? = if d = t then (if t < a.tmps.size then some v else none) else a.tmps[t]? := by
  simp only [Act.put, Array.getElem?_setIfInBounds]
  by_cases h : d = t
  · subst h; rfl
  · rw [if_neg h, if_neg h]
theorem PI.step {ν : Nat → Value} {listed : Array Bool} {i : Nat} {a : Act} {o : Oper} {v : Value} (D : DOk ops n a0.tmps.size) (h : PI ops a0 ν listed i a) (ho : ops[i]? = some o) (hi : i < n) (hv : listed.getD i false = true → v = ν i) :
    PI ops a0 ν listed (i + 1) (a.put o.dst v) := by
  obtain ⟨d, hd, hds⟩ := D.dst i o hi ho
  have hdi : dstOf ops i = some d := by simp [dstOf, ho, hd]
  rw [hd]
  refine ⟨h.defers, by simp [Act.put, h.size], fun t ht => ?_, fun k hk hl t ht => ?_⟩
  · rw [put_get, if_neg (fun e : d = t => ht i (by omega) (by rw [hdi, e]))]
    exact h.old t fun k hk => ht k (by omega)
  · rw [put_get]
    by_cases e : k = i
    · subst e
      rw [hdi] at ht
      obtain rfl := Option.some.inj ht
      rw [if_pos rfl, if_pos (by rw [h.size]; exact hds), hv hl]
    · have hne : d ≠ t := fun e' => D.apart i k hi (by omega) (by rw [hdi, ht, e'])
      rw [if_neg hne]
      exact h.new k (by omega) hl t ht
/-- Along the order of the text: what is shown of each operation, and behind them all. -/
theorem seq_walk {ν : Nat → Value} {listed : Array Bool} {a' : Act} {w' : World} (D : DOk ops n a0.tmps.size) (I : Inv E P ops Φ w0 n a0 listed a' w' ν) :
    ∀ {i : Nat} {rest : List Oper} {a : Act}, Seq E P ops Φ w0 T ν i rest a → (ops.toList.take n).drop i = rest → PI ops a0 ν listed i a → i ≤ n →
      (∀ (m : Nat) (o : Oper), i ≤ m → m < n → ops[m]? = some o → ∃ am, PI ops a0 ν listed m am ∧
        ((Φ m = none ∧ ∃ X, ∀ w', E w0 w' → factsOf ops Φ ν m w' → pureG P ops o am w' X) ∨
         ∃ φ, Φ m = some φ ∧ ∀ w', E w0 w' → factsOf ops Φ ν m w' → giveG P ops o am w' (fun v w'' => φ v w'' ∧ E w' w''))) ∧
      ∃ an, PI ops a0 ν listed n an ∧ ∀ w', E w0 w' → (∀ j φ, j < n → Φ j = some φ → φ (ν j) w') → T an w' := by
  have hlen : (ops.toList.take n).length = n := by have := D.le; simp; omega
  intro i rest a hseq
  induction hseq with
  | @nil i a h =>
    intro hr hp hi
    have : i = n := by
      have := congrArg List.length hr
      simp only [List.length_drop, hlen, List.length_nil] at this
      omega
    subst this
    exact ⟨fun m o h1 h2 => by omega, a, hp, h⟩
  | @pure i o rest a X h0 h hr ih =>
    intro hrest hp hi
    have hlt : i < n := by
      have := congrArg List.length hrest
      simp only [List.length_drop, hlen, List.length_cons] at this
      omega
    have hget := congrArg (fun l : List Oper => l[0]?) hrest
    simp only [List.getElem?_drop, Nat.add_zero, List.getElem?_cons_zero] at hget
    have ho : ops[i]? = some o := by
      rw [List.getElem?_take, if_pos hlt] at hget
      simpa using hget
    have hdrop : (ops.toList.take n).drop (i + 1) = rest := by
      have := congrArg List.tail hrest
      simpa using this
    have hX : listed.getD i false = true → X = ν i := by
      intro hl
      obtain ⟨wj, he, hf, hb⟩ := I.pures i o hlt ho hl h0
      have hal : ∀ j, anc ops ops.size i j = true → listed.getD j false = true := fun j hj => anc_listed I.closed _ i j o ho (I.closed i o ho hl) hj
      exact pure_one (h wj he hf) (hb a (hp.AG D ho hlt hal))
    obtain ⟨g1, g2⟩ := ih hdrop (hp.step D ho hlt hX) (by omega)
    refine ⟨fun m q hm hmn hq => ?_, g2⟩
    by_cases e : m = i
    · subst e
      obtain rfl : o = q := by rw [ho] at hq; exact Option.some.inj hq
      exact ⟨a, hp, .inl ⟨h0, X, h⟩⟩
    · exact g1 m q (by omega) hmn hq
  | @eff i o rest a φ h0 h hr ih =>
    intro hrest hp hi
    have hlt : i < n := by
      have := congrArg List.length hrest
      simp only [List.length_drop, hlen, List.length_cons] at this
      omega
    have hget := congrArg (fun l : List Oper => l[0]?) hrest
    simp only [List.getElem?_drop, Nat.add_zero, List.getElem?_cons_zero] at hget
    have ho : ops[i]? = some o := by
      rw [List.getElem?_take, if_pos hlt] at hget
      simpa using hget
    have hdrop : (ops.toList.take n).drop (i + 1) = rest := by
      have := congrArg List.tail hrest
      simpa using this
    obtain ⟨g1, g2⟩ := ih hdrop (hp.step D ho hlt (fun _ => rfl)) (by omega)
    refine ⟨fun m q hm hmn hq => ?_, g2⟩
    by_cases e : m = i
    · subst e
      obtain rfl : o = q := by rw [ho] at hq; exact Option.some.inj hq
      exact ⟨a, hp, .inr ⟨φ, h0, h⟩⟩
    · exact g1 m q (by omega) hmn hq
/-- How many of the first n are not listed. -/
def open_ (listed : Array Bool) (n : Nat) : Nat := ((List.range n).filter fun i => !listed.getD i false).length
theorem open_set {listed : Array Bool} {n i : Nat} (hi : i < n) (hs : i < listed.size) (h : listed.getD i false = false) : open_ listed n = open_ (listed.setIfInBounds i true) n + 1 := by
  unfold open_
  induction n with
  | zero => omega
  | succ n ih =>
    rw [List.range_succ, List.filter_append, List.filter_append, List.length_append, List.length_append]
    by_cases e : i = n
    · subst e
      have e1 : (List.range i).filter (fun j => !(listed.setIfInBounds i true).getD j false) = (List.range i).filter (fun j => !listed.getD j false) := by
        refine List.filter_congr fun j hj => ?_
        have : j < i := List.mem_range.1 hj
        rw [getD_set_ne false (by omega)]
      have h2 : (listed.setIfInBounds i true).getD i false = true := by simp [hs]
      rw [e1]
      simp only [List.filter_cons, h, h2, List.filter_nil]
      simp
    · have h2 : (listed.setIfInBounds i true).getD n false = listed.getD n false := getD_set_ne false e
      have := ih (by omega)
      rw [this]
      simp only [List.filter_cons, h2, List.filter_nil]
      omega
theorem open_pos {listed : Array Bool} {n : Nat} (h : 0 < open_ listed n) : ∃ i, i < n ∧ listed.getD i false = false ∧ ∀ j, j < i → listed.getD j false = true := by
  unfold open_ at h
  obtain ⟨i, hi⟩ := List.exists_mem_of_length_pos h
  rw [List.mem_filter] at hi
  have hx : ∃ i, i < n ∧ listed.getD i false = false := ⟨i, List.mem_range.1 hi.1, by simpa using hi.2⟩
  clear hi h
  obtain ⟨i, h1, h2⟩ := hx
  induction i using Nat.strongRecOn with
  | _ i ih =>
    by_cases hj : ∃ j, j < i ∧ listed.getD j false = false
    · obtain ⟨j, hj1, hj2⟩ := hj
      exact ih j hj1 (by omega) hj2
    · refine ⟨i, h1, h2, fun j hj1 => ?_⟩
      cases hb : listed.getD j false with
      | true => rfl
      | false => exact absurd ⟨j, hj1, hb⟩ hj
theorem open_zero {listed : Array Bool} {n : Nat} (h : open_ listed n = 0) : ∀ i, i < n → listed.getD i false = true := by
  intro i hi
  unfold open_ at h
  rw [List.length_eq_zero_iff, List.filter_eq_nil_iff] at h
  simpa using h i (List.mem_range.2 hi)
/-- The first n are listed, the others not. -/
def headOf (n size : Nat) : Array Bool := Array.replicate n true ++ Array.replicate (size - n) false
theorem gives_put {o : Oper} {a b : Act} {w : World} {R : Value → World → Prop} {d : Tmp} (hd : o.dst = some d) (hds : d < a.tmps.size) (he : execOp a.eval o = execOp b.eval o)
    (h : o.wp P a w (fun a' w' => ∃ v, a' = a.put o.dst v ∧ R v w') (fun _ _ _ => False)) : o.wp P b w (fun a' w' => ∃ v, a' = b.put o.dst v ∧ R v w') Q := by
  have inj : ∀ v v', a.put o.dst v = a.put o.dst v' → v = v' := by
    intro v v' e
    have := congrArg (fun x : Act => x.tmps[d]?) e
    simp only [hd, put_get, hds, if_true] at this
    exact Option.some.inj this
  unfold Oper.wp at *
  rw [← he]
  generalize (execOp a.eval o).run P w = r at *
  cases r with
  | ok x w' =>
    cases x <;> simp only [Oper.upon] at h ⊢
    case value v => obtain ⟨v', e, hr⟩ := h; exact ⟨v, rfl, inj _ _ e ▸ hr⟩
    case skip => obtain ⟨v', e, hr⟩ := h; exact ⟨_, rfl, inj _ _ e ▸ hr⟩
    case enter f args =>
      refine Calls.mono h fun e w'' he => ?_
      cases e with
      | returned v => obtain ⟨v', e, hr⟩ := he; exact ⟨v, rfl, inj _ _ e ▸ hr⟩
      | panicked c => exact he.elim
      | outgrown => obtain ⟨_, _, hf⟩ := he; exact hf.elim
    case row => exact Rows.mono h fun v w'' he => by obtain ⟨v', e, hr⟩ := he; exact ⟨v, rfl, inj _ _ e ▸ hr⟩
    case defer d' =>
      obtain ⟨v', e, _⟩ := h
      have := congrArg Act.defers e
      simp only [hd, Act.put] at this
      exact absurd (congrArg List.length this) (by simp)
  | halt x w' => cases x <;> simp only [Oper.upon] at h
theorem AG.other {ν : Nat → Value} {b : Act} {o : Oper} {i : Nat} {v : Value} (h : AG ops n a0 (fun k => if k = i then v else ν k) b o) (hni : ∀ t ∈ o.looksAt ops, dstOf ops i ≠ some t) : AG ops n a0 ν b o := by
  intro t ht
  refine ⟨fun k hk hd => ?_, (h t ht).2⟩
  have := (h t ht).1 k hk hd
  have hne : k ≠ i := fun e => hni t ht (e ▸ hd)
  simpa [hne] using this
/-- One operation more is listed. -/
theorem Inv.step {listed : Array Bool} {a : Act} {w w2 : World} {ν : Nat → Value} {i : Nat} {o : Oper} {v : Value} (D : DOk ops n a0.tmps.size) (hEr : ∀ w, E w w) (hEt : ∀ {a b c}, E a b → E b c → E a c) (hst : ∀ j φ, Φ j = some φ → ∀ v w w', φ v w → E w w' → φ v w')
    (I : Inv E P ops Φ w0 n a0 listed a w ν) (hi : i < n) (ho : ops[i]? = some o) (hul : listed.getD i false = false) (hrd : ∀ e ∈ o.after, Region.binds .any e = true → listed.getD e.on false = true)
    (hext : E w w2) (hfact : ∀ φ, Φ i = some φ → φ v w2) (hpure : Φ i = none → ∃ wj, E w0 wj ∧ factsOf ops Φ ν i wj ∧ pureG P ops o a wj v) :
    Inv E P ops Φ w0 n a0 (listed.setIfInBounds i true) (a.put o.dst v) w2 (fun k => if k = i then v else ν k) := by
  obtain ⟨d, hd, hds⟩ := D.dst i o hi ho
  have hdi : dstOf ops i = some d := by simp [dstOf, ho, hd]
  have hsz : i < listed.size := by rw [I.lsize]; have := D.le; omega
  have hii : (listed.setIfInBounds i true).getD i false = true := by simp [hsz]
  have hal : ∀ j, anc ops ops.size i j = true → listed.getD j false = true := fun j hj => anc_listed I.closed _ i j o ho hrd hj
  have hanc : ∀ (j : Nat) (q : Oper), ops[j]? = some q → listed.getD j false = true → anc ops ops.size j i = true → False := by
    intro j q hq hl ha
    have := anc_listed I.closed _ j i q hq (I.closed j q hq hl) ha
    rw [hul] at this; cases this
  rw [hd]
  refine ⟨by simp [I.lsize], ?_, ?_, I.defers, by simp [Act.put, I.size], ?_, ?_, hEt I.ext hext, ?_, ?_⟩
  · intro j q hq hl e he hb
    by_cases e1 : j = i
    · subst e1
      obtain rfl : o = q := by rw [ho] at hq; exact Option.some.inj hq
      exact getD_set_true (hrd e he hb)
    · rw [getD_set_ne false (Ne.symm e1)] at hl
      exact getD_set_true (I.closed j q hq hl e he hb)
  · intro j hj
    rw [getD_set_ne false (by omega)]
    exact I.notail j hj
  · intro t ht
    have h1 : d ≠ t := fun e => ht i hi hii (by rw [hdi, e])
    rw [put_get, if_neg h1]
    exact I.old t fun k hk hl => ht k hk (getD_set_true hl)
  · intro k hk hl t ht
    rw [put_get]
    by_cases e : k = i
    · subst e
      rw [hdi] at ht
      obtain rfl := Option.some.inj ht
      rw [if_pos rfl, if_pos (by rw [I.size]; exact hds)]
      simp
    · have hne : d ≠ t := by
        intro e'
        rcases Nat.lt_or_ge k i with hlt | hge
        · exact D.apart i k hi hlt (by rw [hdi, ht, e'])
        · exact D.apart k i hk (by omega) (by rw [hdi, ht, e'])
      rw [if_neg hne]
      rw [getD_set_ne false (Ne.symm e)] at hl
      rw [I.new k hk hl t ht]
      simp [e]
  · intro j φ hj hl hφ
    by_cases e : j = i
    · subst e; simpa using hfact φ hφ
    · rw [getD_set_ne false (Ne.symm e)] at hl
      simpa [e] using hst j φ hφ _ _ _ (I.facts j φ hj hl hφ) hext
  · intro j q hj hq hl hn
    by_cases e : j = i
    · subst e
      obtain rfl : o = q := by rw [ho] at hq; exact Option.some.inj hq
      obtain ⟨wj, h1, h2, h3⟩ := hpure hn
      refine ⟨wj, h1, fun k φ hφ ha => ?_, fun b hb => ?_⟩
      · have : k ≠ j := by have := anc_lt D _ _ _ ha; omega
        simpa [this] using h2 k φ hφ ha
      · have hnj : ∀ t ∈ o.looksAt ops, dstOf ops j ≠ some t := fun t ht hdt => by
          have := anc_lt D _ _ _ (D.looks j o j hj ho hj t ht hdt); omega
        have hb' := AG.other hb hnj
        have hA : AG ops n a0 ν a o := fun t ht => ⟨fun k hk hdk => I.new k hk (hal k (D.looks j o k hj ho hk t ht hdk)) t hdk, fun hn => I.old t fun k hk _ => hn k hk⟩
        simp only [if_pos]
        exact pure_same (D.sel j o ho) (hA.same hb') h3
    · rw [getD_set_ne false (Ne.symm e)] at hl
      obtain ⟨wj, h1, h2, h3⟩ := I.pures j q hj hq hl hn
      refine ⟨wj, h1, fun k φ hφ ha => ?_, fun b hb => ?_⟩
      · have : k ≠ i := fun e' => hanc j q hq hl (e' ▸ ha)
        simpa [this] using h2 k φ hφ ha
      · have hnj : ∀ t ∈ q.looksAt ops, dstOf ops i ≠ some t := fun t ht hdt => hanc j q hq hl (D.looks j q i hj hq hi t ht hdt)
        simpa [e] using h3 b (AG.other hb hnj)
theorem drawn_sound (D : DOk ops n a0.tmps.size) (hEr : ∀ w, E w w) (hEt : ∀ {a b c}, E a b → E b c → E a c) (hst : ∀ j φ, Φ j = some φ → ∀ v w w', φ v w → E w w' → φ v w')
    (H : ∀ ν, Seq E P ops Φ w0 (fun a w => wpAny P .any ops Q (ops.size - n) (headOf n ops.size) a w) ν 0 (ops.toList.take n) a0) :
    ∀ (m : Nat) (listed : Array Bool) (a : Act) (w : World) (ν : Nat → Value), Inv E P ops Φ w0 n a0 listed a w ν → open_ listed n = m → wpAny P .any ops Q (m + (ops.size - n)) listed a w := by
  intro m
  induction m with
  | zero =>
    intro listed a w ν I hm
    have hall := open_zero hm
    have hp0 : PI ops a0 ν listed 0 a0 := ⟨rfl, rfl, fun _ _ => rfl, fun k hk => by omega⟩
    obtain ⟨_, an, hp, hT⟩ := seq_walk D I (H ν) (by simp) hp0 (Nat.zero_le _)
    have hl : listed = headOf n ops.size := by
      apply Array.ext
      · have := D.le; simp [I.lsize, headOf]; omega
      · intro i h1 h2
        by_cases hi : i < n
        · have := hall i hi
          simp [h1] at this
          simp [headOf, hi, this]
        · have := I.notail i (by omega)
          simp [h1] at this
          simp [headOf, Array.getElem_append, hi, this]
    have ha : an = a := by
      obtain ⟨at1, ad1⟩ := an
      obtain ⟨at2, ad2⟩ := a
      have e1 : ad1 = ad2 := hp.defers.trans I.defers.symm
      have e2 : at1 = at2 := by
        apply Array.ext_getElem?
        intro t
        by_cases hk : ∃ k, k < n ∧ dstOf ops k = some t
        · obtain ⟨k, hk, hd⟩ := hk
          exact (hp.new k hk (hall k hk) t hd).trans (I.new k hk (hall k hk) t hd).symm
        · have hn : ∀ k, k < n → dstOf ops k ≠ some t := fun k hk' hd => hk ⟨k, hk', hd⟩
          exact (hp.old t hn).trans (I.old t fun k hk' _ => hn k hk').symm
      rw [e1, e2]
    subst ha
    rw [Nat.zero_add, hl]
    exact hT w I.ext fun j φ hj hφ => I.facts j φ hj (hall j hj) hφ
  | succ m ih =>
    intro listed a w ν I hm
    rw [show m + 1 + (ops.size - n) = (m + (ops.size - n)) + 1 from by omega]
    refine ⟨fun hr => ?_, fun i hi => ?_⟩
    · obtain ⟨i, h1, h2, h3⟩ := open_pos (listed := listed) (n := n) (by omega)
      obtain ⟨o, ho⟩ : ∃ o, ops[i]? = some o := ⟨ops[i]'(by have := D.le; omega), by have := D.le; simp [show i < ops.size by omega]⟩
      have : i ∈ Region.ready .any ops listed := by
        rw [mem_ready]
        refine ⟨?_, o, ho, fun e he hb => h3 _ (D.back i o ho e he hb)⟩
        have hs : i < listed.size := by rw [I.lsize]; have := D.le; omega
        simpa [hs] using h2
      rw [hr] at this; cases this
    · obtain ⟨hul0, o, ho, hrd⟩ := mem_ready.1 hi
      have hio : i < ops.size := (Array.getElem?_eq_some_iff.1 ho).1
      have hsz : i < listed.size := by rw [I.lsize]; exact hio
      have hul : listed.getD i false = false := by simpa [hsz] using hul0
      have hal : ∀ j, anc ops ops.size i j = true → listed.getD j false = true := fun j hj => anc_listed I.closed _ i j o ho hrd hj
      have hin : i < n := by
        rcases Nat.lt_or_ge i n with h | h
        · exact h
        · obtain ⟨j, h1, h2, _⟩ := open_pos (listed := listed) (n := n) (by omega)
          have := hal j (D.tail i j h hio h1)
          rw [h2] at this; cases this
      have hp0 : PI ops a0 ν listed 0 a0 := ⟨rfl, rfl, fun _ _ => rfl, fun k hk => by omega⟩
      obtain ⟨hw, _⟩ := seq_walk D I (H ν) (by simp) hp0 (Nat.zero_le _)
      obtain ⟨am, hpm, hnode⟩ := hw i o (Nat.zero_le _) hin ho
      have hA1 := hpm.AG D ho hin hal
      have hA2 : AG ops n a0 ν a o := fun t ht => ⟨fun k hk hdk => I.new k hk (hal k (D.looks i o k hin ho hk t ht hdk)) t hdk, fun hn => I.old t fun k hk _ => hn k hk⟩
      have hsame := hA1.same hA2
      have hfacts : factsOf ops Φ ν i w := fun j φ hφ ha => I.facts j φ (by have := anc_lt D _ _ _ ha; omega) (hal j ha) hφ
      have hcnt : open_ (listed.setIfInBounds i true) n = m := by have := open_set hin hsz hul; omega
      have next : ∀ (v : Value) (w2 : World), E w w2 → (∀ φ, Φ i = some φ → φ v w2) → (Φ i = none → ∃ wj, E w0 wj ∧ factsOf ops Φ ν i wj ∧ pureG P ops o a wj v) →
          wpAny P .any ops Q (m + (ops.size - n)) (listed.setIfInBounds i true) (a.put o.dst v) w2 := fun v w2 h1 h2 h3 => ih _ _ _ _ (I.step D hEr hEt hst hin ho hul hrd h1 h2 h3) hcnt
      obtain ⟨d, hd, hds⟩ := D.dst i o hin ho
      unfold wpOp
      simp only [ho]
      rcases hnode with ⟨h0, X, hX⟩ | ⟨φ, h0, hφ⟩
      · have hX' := pure_same (D.sel i o ho) hsame (hX w I.ext hfacts)
        have hn := next X w (hEr w) (fun φ hφ => by rw [h0] at hφ; cases hφ) (fun _ => ⟨w, I.ext, hfacts, hX'⟩)
        unfold pureG at hX'
        split
        · rename_i hwt
          rw [if_pos hwt] at hX'
          refine .inl ?_
          unfold Oper.wp
          rw [hX', Oper.upon_value]
          exact hn
        · rename_i hwt
          rw [if_neg hwt] at hX'
          rw [← hX']; exact hn
      · have hG := hφ w I.ext hfacts
        unfold giveG at hG
        rw [wanted_same hsame] at hG
        split
        · rename_i hwt
          rw [if_pos hwt] at hG
          have hg := gives_put (Q := Q) hd (by rw [hpm.size]; exact hds) (exec_same (D.sel i o ho) hsame) hG
          refine .inl (Oper.wp_mono ?_ hg)
          rintro a' w' ⟨v, rfl, hv, he⟩
          exact next v w' he (fun φ' hφ' => by rw [h0] at hφ'; cases hφ'; exact hv) (fun hn => by rw [h0] at hn; cases hn)
        · rename_i hwt
          rw [if_neg hwt] at hG
          exact next undef w hG.2 (fun φ' hφ' => by rw [h0] at hφ'; cases hφ'; exact hG.1) (fun hn => by rw [h0] at hn; cases hn)
/-- THE RULE. -/
theorem wp_drawnE {id : Nat} {a : Act} {w : World} (E : World → World → Prop) (n : Nat) (hm : P.follows .mixedOrders = true) (hok : drawnOk ops n a.tmps.size = true) (Φ : Nat → Option (Value → World → Prop))
    (hEr : ∀ w, E w w) (hEt : ∀ {a b c}, E a b → E b c → E a c) (hst : ∀ j φ, Φ j = some φ → ∀ v w w', φ v w → E w w' → φ v w')
    (H : ∀ ν, Seq E P ops Φ w.drew (fun a w => wpAny P .any ops Q (ops.size - n) (headOf n ops.size) a w) ν 0 (ops.toList.take n) a) : (Code.region id ops true).wp P Q a w := by
  refine wp_region_any hm ?_
  have D := DOk.of hok
  have I : Inv E P ops Φ w.drew n a (Array.replicate ops.size false) a w.drew (fun _ => undef) := by
    have hf : ∀ i, (Array.replicate ops.size false).getD i false = false := by
      intro i
      simp only [Array.getD_eq_getD_getElem?, Array.getElem?_replicate]
      split <;> rfl
    refine ⟨by simp, ?_, fun i _ => hf i, rfl, rfl, fun _ _ => rfl, ?_, hEr _, ?_, ?_⟩
    · intro i o _ h; rw [hf] at h; cases h
    · intro k _ h; rw [hf] at h; cases h
    · intro j φ _ h; rw [hf] at h; cases h
    · intro j o _ _ h; rw [hf] at h; cases h
  have hcnt : open_ (Array.replicate ops.size false) n = n := by
    unfold open_
    rw [List.filter_eq_self.2]
    · simp
    · intro i hi
      simp only [Array.getD_eq_getD_getElem?, Array.getElem?_replicate]
      split <;> rfl
  have := drawn_sound D hEr hEt hst H n _ a w.drew _ I hcnt
  rw [show n + (ops.size - n) = ops.size from by have := D.le; omega] at this
  exact this
theorem giveG_of {o : Oper} {a : Act} {w : World} {R : Value → World → Prop} {d : Tmp} (hd : o.dst = some d) (hds : d < a.tmps.size)
    (h : ∀ K : Act → World → Prop, (∀ v w'', R v w'' → K (a.put o.dst v) w'') → if Region.wanted o (yielded ops a.tmps) = true then o.wp P a w K (fun _ _ _ => False) else K (a.put o.dst undef) w) : giveG P ops o a w R := by
  have := h (fun a' w' => ∃ v, a' = a.put o.dst v ∧ R v w') (fun v w'' hr => ⟨v, rfl, hr⟩)
  unfold giveG
  split
  · rename_i hw; rw [if_pos hw] at this; exact this
  · rename_i hw
    rw [if_neg hw] at this
    obtain ⟨v, e, hr⟩ := this
    have := congrArg (fun x : Act => x.tmps[d]?) e
    simp only [hd, put_get, hds, if_true] at this
    rw [Option.some.inj this]; exact hr
/-- No operation is left. -/
theorem tail_none {a : Act} {w : World} {L : Array Bool} (h : Region.ready .any ops L = []) (hQ : Q .normal a w) : wpAny P .any ops Q 0 L a w := ⟨h, hQ⟩
/-- One operation is left: it comes behind all others. -/
theorem tail_one {a : Act} {w : World} {L L' : Array Bool} {i : Nat} {o : Oper} (h : Region.ready .any ops L = [i]) (hL : L.setIfInBounds i true = L') (h' : Region.ready .any ops L' = []) (ho : ops[i]? = some o) (hQ : wpList P ops Q [o] a w) : wpAny P .any ops Q 1 L a w := by
  refine ⟨fun e => (by rw [h] at e; cases e), fun j hj => ?_⟩
  rw [h] at hj
  obtain rfl := List.mem_singleton.1 hj
  unfold wpOp
  simp only [ho]
  unfold wpList at hQ
  have hm : ∀ a w, wpList P ops Q [] a w → wpAny P .any ops Q 0 (L.setIfInBounds j true) a w := fun a w hq => ⟨by rw [hL]; exact h', hq⟩
  split
  · rename_i hw; rw [if_pos hw] at hQ; exact hQ.imp (Oper.wp_mono hm) id
  · rename_i hw; rw [if_neg hw] at hQ; exact hm _ _ hQ
/-- Two operations are left, whichever comes first. -/
theorem tail_two {a : Act} {w : World} {L : Array Bool} {i j : Nat} {o q : Oper} (h : Region.ready .any ops L = [i, j]) (hi : Region.ready .any ops (L.setIfInBounds i true) = [j]) (hj : Region.ready .any ops (L.setIfInBounds j true) = [i])
    (hn : Region.ready .any ops ((L.setIfInBounds i true).setIfInBounds j true) = []) (hn' : Region.ready .any ops ((L.setIfInBounds j true).setIfInBounds i true) = []) (ho : ops[i]? = some o) (hq : ops[j]? = some q)
    (h1 : wpList P ops Q [o, q] a w) (h2 : wpList P ops Q [q, o] a w) : wpAny P .any ops Q 2 L a w := by
  have key : ∀ (x y : Nat) (p r : Oper), ops[x]? = some p → ops[y]? = some r → Region.ready .any ops (L.setIfInBounds x true) = [y] → Region.ready .any ops ((L.setIfInBounds x true).setIfInBounds y true) = [] → wpList P ops Q [p, r] a w →
      wpOp P ops Q x (wpAny P .any ops Q 1 (L.setIfInBounds x true)) a w := by
    intro x y p r hp hr hx hnn hw
    unfold wpOp
    simp only [hp]
    unfold wpList at hw
    have hm : ∀ a w, wpList P ops Q [r] a w → wpAny P .any ops Q 1 (L.setIfInBounds x true) a w := fun a w hq => tail_one hx rfl hnn hr hq
    split
    · rename_i hwt; rw [if_pos hwt] at hw; exact hw.imp (Oper.wp_mono hm) id
    · rename_i hwt; rw [if_neg hwt] at hw; exact hm _ _ hw
  refine ⟨fun e => (by rw [h] at e; cases e), fun k hk => ?_⟩
  rw [h] at hk
  rcases List.mem_cons.1 hk with rfl | hk
  · exact key _ _ _ _ ho hq hi hn h1
  · obtain rfl := List.mem_singleton.1 hk
    exact key _ _ _ _ hq ho hj hn' h2
end
/-- The rule where the operations only make new blocks. -/
theorem wp_drawn {P : Program} {ops : Array Oper} {Q : Exit → Act → World → Prop} {id : Nat} {a : Act} {w : World} (n : Nat) (hm : P.follows .mixedOrders = true) (hok : drawnOk ops n a.tmps.size = true) (Φ : Nat → Option (Value → World → Prop))
    (hst : ∀ j φ, Φ j = some φ → ∀ v w w', φ v w → Ext w w' → φ v w')
    (H : ∀ ν, Seq Ext P ops Φ w.drew (fun a w => wpAny P .any ops Q (ops.size - n) (headOf n ops.size) a w) ν 0 (ops.toList.take n) a) : (Code.region id ops true).wp P Q a w :=
  wp_drawnE Ext n hm hok Φ Ext.refl (fun h k => h.trans k) hst H
/-- w' is w with new blocks, and with another block number r, if there is one. -/
structure ExtBut (r : Option Nat) (w w' : World) : Prop where
  os : w'.os = w.os
  tape : w'.tape = w.tape
  output : w'.output = w.output
  size : w.heap.size ≤ w'.heap.size
  block : ∀ k, k < w.heap.size → some k ≠ r → w'.heap[k]? = w.heap[k]?
theorem ExtBut.refl (r : Option Nat) (w : World) : ExtBut r w w := ⟨rfl, rfl, rfl, Nat.le_refl _, fun _ _ _ => rfl⟩
theorem ExtBut.trans {r : Option Nat} {a b c : World} (h : ExtBut r a b) (k : ExtBut r b c) : ExtBut r a c :=
  ⟨k.os.trans h.os, k.tape.trans h.tape, k.output.trans h.output, Nat.le_trans h.size k.size, fun j hj hr => (k.block j (Nat.lt_of_lt_of_le hj h.size) hr).trans (h.block j hj hr)⟩
theorem Ext.but {w w' : World} (h : Ext w w') (r : Option Nat) : ExtBut r w w' := ⟨h.os, h.tape, h.output, h.size, fun k hk _ => h.block k hk⟩
theorem ExtBut.of_grown {r r' : Option Nat} {w w' : World} (h : w.grownBy w' r') (hr : r' = none ∨ r' = r) : ExtBut r w w' :=
  ⟨h.os, h.tape, h.output, h.size, fun k hk hne => h.block k hk (by rcases hr with e | e <;> rw [e]; simp; exact hne)⟩
theorem ExtBut.cell {r : Option Nat} {w w' : World} (h : ExtBut r w w') {b o : Nat} (hb : b < w.heap.size) (hr : some b ≠ r) : w'.cell? ⟨b, o, none⟩ = w.cell? ⟨b, o, none⟩ := World.cell?_of_block (h.block b hb hr)
theorem ExtBut.frozen {r : Option Nat} {w w' : World} (h : ExtBut r w w') {b o : Nat} (hb : b < w.heap.size) (hr : some b ≠ r) : w'.frozen? ⟨b, o, none⟩ = w.frozen? ⟨b, o, none⟩ := World.frozen?_of_block (h.block b hb hr)
theorem ExtBut.keep {r : Option Nat} {w w' : World} (h : ExtBut r w w') {b o : Nat} {v : Value} (hc : w.cell? ⟨b, o, none⟩ = some v) (hr : some b ≠ r) : w'.cell? ⟨b, o, none⟩ = some v := (h.cell (World.block_lt_of_cell? w _ hc) hr).trans hc
/-- What lay in a world is there in one that has grown out of it. -/
theorem Ext.cells {W w' : World} (h : Ext W.drew w') : ∀ b o, b < W.heap.size → w'.cell? ⟨b, o, none⟩ = W.cell? ⟨b, o, none⟩ := fun b o hb => h.cell (p := ⟨b, o, none⟩) hb
theorem Ext.marks {W w' : World} (h : Ext W.drew w') : ∀ b o, b < W.heap.size → w'.frozen? ⟨b, o, none⟩ = W.frozen? ⟨b, o, none⟩ := fun b o hb => h.frozen (p := ⟨b, o, none⟩) hb
theorem Ext.keep {w w' : World} (h : Ext w w') {a : Addr} {v : Value} (hc : w.cell? a = some v) : w'.cell? a = some v := (h.cell (p := a) (World.block_lt_of_cell? w a hc)).trans hc
end Go.Proofs.YtgjahnomafpnfaaGreatDoor

/- Appending inside a region that draws its order: what the append may turn, said as a relation of worlds. -/
namespace Go.Proofs.YtgjahnomafpnfaaGreatDoor
open Go.RowKit
/-- w' is w with new blocks, and with cells of the block r, from off on, that hold what 'news' says or what they held. -/
structure ExtApp (r : Option Nat) (off : Nat) (news : List Value) (w w' : World) : Prop where
  os : w'.os = w.os
  tape : w'.tape = w.tape
  output : w'.output = w.output
  size : w.heap.size ≤ w'.heap.size
  block : ∀ k, k < w.heap.size → some k ≠ r → w'.heap[k]? = w.heap[k]?
  row : ∀ g, r = some g → ∀ cs t fr, w.heap[g]? = some (.cells cs t fr) → ∃ cs', w'.heap[g]? = some (.cells cs' t fr) ∧ cs'.size = cs.size ∧
    (∀ j : Nat, (j < off ∨ off + news.length ≤ j) → cs'[j]? = cs[j]?) ∧ ∀ i : Nat, i < news.length → cs'[off + i]? = cs[off + i]? ∨ cs'[off + i]? = news[i]?
section
variable {r : Option Nat} {off : Nat} {news : List Value}
theorem ExtApp.refl (w : World) : ExtApp r off news w w := ⟨rfl, rfl, rfl, Nat.le_refl _, fun _ _ _ => rfl, fun g _ cs t fr h => ⟨cs, h, rfl, fun _ _ => rfl, fun _ _ => .inl rfl⟩⟩
theorem ExtApp.trans {a b c : World} (h : ExtApp r off news a b) (k : ExtApp r off news b c) : ExtApp r off news a c := by
  refine ⟨k.os.trans h.os, k.tape.trans h.tape, k.output.trans h.output, Nat.le_trans h.size k.size, fun j hj hr => (k.block j (Nat.lt_of_lt_of_le hj h.size) hr).trans (h.block j hj hr), fun g hg cs t fr hcs => ?_⟩
  obtain ⟨c1, h1, h2, h3, h4⟩ := h.row g hg cs t fr hcs
  obtain ⟨c2, k1, k2, k3, k4⟩ := k.row g hg c1 t fr h1
  refine ⟨c2, k1, k2.trans h2, fun j hj => (k3 j hj).trans (h3 j hj), fun i hi => ?_⟩
  rcases k4 i hi with e | e
  · rcases h4 i hi with e' | e'
    · exact .inl (e.trans e')
    · exact .inr (e.trans e')
  · exact .inr e
theorem Ext.app {w w' : World} (h : Ext w w') : ExtApp r off news w w' :=
  ⟨h.os, h.tape, h.output, h.size, fun k hk _ => h.block k hk, fun g _ cs t fr hcs => ⟨cs, by
    have hlt : g < w.heap.size := (Array.getElem?_eq_some_iff.1 hcs).1
    rw [h.block g hlt]; exact hcs, rfl, fun _ _ => rfl, fun _ _ => .inl rfl⟩⟩
theorem ExtApp.keep {w w' : World} (h : ExtApp r off news w w') {b o : Nat} {v : Value} (hc : w.cell? ⟨b, o, none⟩ = some v) (hr : some b ≠ r) : w'.cell? ⟨b, o, none⟩ = some v :=
  (World.cell?_of_block (h.block b (World.block_lt_of_cell? w _ hc) hr)).trans hc
theorem ExtApp.cells {W w' : World} (h : ExtApp r off news W.drew w') : ∀ b o, b < W.heap.size → some b ≠ r → w'.cell? ⟨b, o, none⟩ = W.cell? ⟨b, o, none⟩ := fun b o hb hr => World.cell?_of_block (w := W) (h.block b hb hr)
theorem ExtApp.marks {W w' : World} (h : ExtApp r off news W.drew w') : ∀ b o, b < W.heap.size → some b ≠ r → w'.frozen? ⟨b, o, none⟩ = W.frozen? ⟨b, o, none⟩ := fun b o hb hr => World.frozen?_of_block (w := W) (h.block b hb hr)
theorem ExtApp.below {w w' : World} (h : ExtApp r off news w w') {B : Nat} (hB : B ≤ w.heap.size) (hr : ∀ g, r = some g → B ≤ g) : Below B w w' :=
  ⟨h.os, h.tape, h.output, h.size, fun k hk => h.block k (by omega) fun e => by have := hr k e.symm; omega⟩
/-- A row that is owned stays owned, whatever is written behind its elements. -/
theorem ExtApp.owns {w w' : World} (h : ExtApp r off news w w') {base : Nat} {e : TypeId} {size : Nat} {v : Value} {n : Nat} {xs : List Value} (ho : w.ownsRow base e size v n xs) (hoff : n * size ≤ off ∨ v.ownBlock ≠ r) : w'.ownsRow base e size v n xs := by
  obtain ⟨h1, h2⟩ := ho
  refine ⟨h1, ?_⟩
  rcases h2 with h2 | ⟨g, cap, cur, hv, hb, hg, hn, hm, hs, ht⟩
  · exact .inl h2
  · have hlt : g < w.heap.size := (Array.getElem?_eq_some_iff.1 hg).1
    by_cases hr : some g = r
    · obtain ⟨cs', k1, k2, k3, _⟩ := h.row g hr.symm cur e (0, 0) hg
      have hoff' : n * size ≤ off := by
        rcases hoff with h' | h'
        · exact h'
        · exact absurd (by simp [hv, Value.ownBlock, hr]) h'
      refine .inr ⟨g, cap, cs', hv, hb, k1, hn, hm, k2.trans hs, ?_⟩
      rw [← ht]
      apply List.ext_getElem?
      intro j
      rw [List.getElem?_take, List.getElem?_take]
      split
      · have := k3 j (.inl (by omega))
        simpa using this
      · rfl
    · exact .inr ⟨g, cap, cur, hv, hb, by rw [h.block g hlt hr]; exact hg, hn, hm, hs, ht⟩
/-- What the append has made is kept. -/
theorem ExtApp.ownsNew {w w' : World} (h : ExtApp r off news w w') {base : Nat} {e : TypeId} {size : Nat} {v : Value} {n : Nat} {xs : List Value} (ho : w.ownsRow base e size v n (xs ++ news)) (hoff : xs.length = off) : w'.ownsRow base e size v n (xs ++ news) := by
  obtain ⟨h1, h2⟩ := ho
  refine ⟨h1, ?_⟩
  rcases h2 with h2 | ⟨g, cap, cur, hv, hb, hg, hn, hm, hs, ht⟩
  · exact .inl h2
  · have hlt : g < w.heap.size := (Array.getElem?_eq_some_iff.1 hg).1
    by_cases hr : some g = r
    · obtain ⟨cs', k1, k2, k3, k4⟩ := h.row g hr.symm cur e (0, 0) hg
      refine .inr ⟨g, cap, cs', hv, hb, k1, hn, hm, k2.trans hs, ?_⟩
      rw [← ht]
      have hlen : n * size = off + news.length := by rw [← h1, List.length_append, hoff]
      apply List.ext_getElem?
      intro j
      rw [List.getElem?_take, List.getElem?_take]
      split
      · rename_i hj
        by_cases hjo : j < off
        · have := k3 j (.inl hjo)
          simpa using this
        · have e1 : j = off + (j - off) := by omega
          have hi : j - off < news.length := by omega
          rcases k4 (j - off) hi with e | e
          · rw [← e1] at e; simpa using e
          · rw [← e1] at e
            have e2 : cur.toList[j]? = news[j - off]? := by
              have := congrArg (fun l : List Value => l[j]?) ht
              simp only [List.getElem?_take, if_pos hj] at this
              rw [this, List.getElem?_append_right (by omega), hoff]
            simp only [Array.getElem?_toList] at e2 ⊢
            rw [e, e2]
      · rfl
    · exact .inr ⟨g, cap, cur, hv, hb, by rw [h.block g hlt hr]; exact hg, hn, hm, hs, ht⟩
end
/-- The append onto a row of one's own, and what it turns. -/
theorem run_append_app {P : Program} (w : World) (base : Nat) (t ty e : TypeId) (i : TypeInfo) (z : Value) (size bytes : Nat) (ht : P.underlying t = some (.slice e)) (hi : P.info? e = some i) (hz : i.zero = some z)
    (hsize : i.size = size) (hby : i.bytes = bytes) (hzs : z.cells.size = size) (hsz : 0 < size)
    (v : Value) (n : Nat) (xs : List Value) (hown : w.ownsRow base e size v n xs)
    (a : Addr) (m c : Nat) (news : List Value) (hl : news.length = m * size) (hnews : ∀ j u, news[j]? = some u → w.cell? (a.add j) = some u) (h1 : ∀ u ∈ news, u.oneCell' = true)
    (hm0 : 0 < m) (h63 : n + m ≤ maxLen) (hbytes : (n + m) * bytes ≤ 140737488355328) (hbase : base ≤ w.heap.size) :
    ∃ gg cap w', (Builtin.append_ #[t, t] ty #[v, .slice (some a) m c]).run P w = .ok (.slice (some ⟨gg, 0, none⟩) (n + m) cap) w' ∧ w'.ownsRow base e size (.slice (some ⟨gg, 0, none⟩) (n + m) cap) (n + m) (xs ++ news) ∧
      ExtApp v.ownBlock (n * size) news w w' ∧ (gg = w.heap.size ∨ v.ownBlock = some gg) ∧ gg < w'.heap.size := by
  subst hsize
  subst hby
  have hsmall : n + m ≤ 9223372036854775807 := by simp only [maxLen] at h63; omega
  have hlen : (xs ++ news).length = (n + m) * i.size := by rw [List.length_append, hown.1, hl, Nat.add_mul]
  have grown : ∀ (old : Nat), old < n + m →
      (w.drew.alloc (.cells (xs.toArray ++ news.toArray ++ Builtin.zeroCells z.cells (grownCap w (n + m) old e - (n + m))) e)).ownsRow base e i.size
        (.slice (some ⟨w.heap.size, 0, none⟩) (n + m) (grownCap w (n + m) old e)) (n + m) (xs ++ news) ∧
      Ext w (w.drew.alloc (.cells (xs.toArray ++ news.toArray ++ Builtin.zeroCells z.cells (grownCap w (n + m) old e - (n + m))) e)) := by
    intro old ho
    have hge := grownCap_ge w (n + m) old e
    have hcm : grownCap w (n + m) old e ≤ maxLen := grownCap_le_maxLen w (n + m) old e h63
    refine ⟨⟨hlen, .inr ⟨w.heap.size, _, _, rfl, hbase, heap_alloc_new w.drew _, hge, hcm, ?_, ?_⟩⟩, (Ext.drew w).trans (Ext.alloc _ _)⟩
    · simp only [Array.size_append, List.size_toArray, size_zeroCells, hzs, hown.1, hl, ← Nat.add_mul]
      congr 1
      omega
    · simp only [Array.toList_append, List.append_assoc]
      rw [← List.append_assoc, ← hlen]
      exact List.take_left
  rcases hown.2 with ⟨rfl, rfl⟩ | ⟨g, cap, cur, rfl, hbg, hg, hnc, hcm, hcs, htake⟩
  · have hx : xs = [] := List.eq_nil_of_length_eq_zero (by simpa using hown.1)
    subst hx
    have hr := run_append_nil (P := P) w t ty e i z ht hi hz a m c news hl hnews (by omega) (by omega) (by have hb := hbytes; simp only [Nat.zero_add] at hb; omega)
    have hgr := grown 0 (by omega)
    simp only [Nat.zero_add, List.nil_append, Array.empty_append] at hgr ⊢
    exact ⟨_, _, _, hr, hgr.1, hgr.2.app, .inl rfl, by simp⟩
  · by_cases hroom : n + m ≤ cap
    · have hfit : n * i.size + news.length ≤ cur.size := by rw [hl, hcs, ← Nat.add_mul]; exact Nat.mul_le_mul_right _ hroom
      have hr := run_append_room (P := P) w t ty e i ht hi g n cap cur hg a m c news hl hnews h1 hroom hfit
      have hgl : g < w.heap.size := (Array.getElem?_eq_some_iff.1 hg).1
      refine ⟨_, _, _, hr, ⟨hlen, .inr ⟨g, cap, _, rfl, hbg, setRow_heap w g cur _ e _ hg, hroom, hcm, ?_, ?_⟩⟩, ⟨rfl, rfl, rfl, by simp, fun k _ hk => setRow_other w g k _ (fun e => hk (by simp [Value.ownBlock, e])), ?_⟩, .inr rfl, by simpa using hgl⟩
      · simp only [List.size_toArray, List.length_append, List.length_take, List.length_drop, Array.length_toList]
        omega
      · rw [htake, ← hlen]
        exact List.take_left
      · intro g' hg' cs t' fr hcs'
        simp only [Value.ownBlock, Option.some.injEq] at hg'
        subst hg'
        rw [hg] at hcs'
        simp only [Option.some.injEq, Obj.cells.injEq] at hcs'
        obtain ⟨rfl, rfl, rfl⟩ := hcs'
        refine ⟨_, setRow_heap w g cur _ e _ hg, ?_, fun j hj => ?_, fun i' hi' => .inr ?_⟩
        · simp only [List.size_toArray, List.length_append, List.length_take, List.length_drop, Array.length_toList]
          omega
        · have hl0 : (cur.toList.take (n * i.size)).length = n * i.size := by simp; omega
          simp only [List.getElem?_toArray]
          rcases hj with hj | hj
          · rw [List.getElem?_append_left (by simp; omega), List.getElem?_append_left (by omega), List.getElem?_take, if_pos hj]
            simp
          · rw [List.getElem?_append_right (by simp; omega), List.getElem?_drop]
            simp only [List.length_append, hl0]
            rw [show n * i.size + news.length + (j - (n * i.size + news.length)) = j from by omega]
            simp
        · have hl0 : (cur.toList.take (n * i.size)).length = n * i.size := by simp; omega
          simp only [List.getElem?_toArray]
          rw [List.getElem?_append_left (by simp; omega), List.getElem?_append_right (by omega), hl0]
          congr 1
          omega
    · have holds : ∀ j u, xs[j]? = some u → w.cell? ((⟨g, 0, none⟩ : Addr).add j) = some u := hown.cells (g := g) rfl
      have hr := run_append_grow (P := P) w t ty e i z ht hi hz ⟨g, 0, none⟩ n cap xs hown.1 holds a m c news hl hnews (by omega) (by omega) (growslice_fits (by omega) hbytes)
      have hgr := grown cap (by omega)
      exact ⟨_, _, _, hr, hgr.1, hgr.2.app, .inl rfl, by simp⟩
end Go.Proofs.YtgjahnomafpnfaaGreatDoor

/- Appending to rows of records. -/
namespace Go.Proofs.YtgjahnomafpnfaaGreatDoor
open Go.RowKit
theorem flat_oneCell (ys : List Rec) : ∀ u ∈ flat ys, u.oneCell' = true := by
  intro u hu
  obtain ⟨x, _, hx⟩ := List.mem_flatMap.1 hu
  exact rcells_oneCell x u hx
theorem addr_add (g j : Nat) : (⟨g, 0, none⟩ : Addr).add j = ⟨g, j, none⟩ := by unfold Addr.add; split <;> simp_all
/-- Records appended to a row. -/
theorem app_rows (w : World) (base : Nat) (r : Option Nat) (v : Value) (xs : List Rec) (h : RowR w base r v xs) (ys : List Rec) (hy : 0 < ys.length) (ad : Addr) (c : Nat) (hc : ∀ j u, (flat ys)[j]? = some u → w.cell? (ad.add j) = some u)
    (hn : xs.length + ys.length ≤ 1000000) (hb : base ≤ w.heap.size) (ty : TypeId) :
    ∃ gg cap w', (Builtin.append_ #[23, 23] ty #[v, .slice (some ad) ys.length c]).run Tryz.prog w = .ok (.slice (some ⟨gg, 0, none⟩) (xs.length + ys.length) cap) w' ∧
      w'.ownsRow base 49 4 (.slice (some ⟨gg, 0, none⟩) (xs.length + ys.length) cap) (xs.length + ys.length) (flat xs ++ flat ys) ∧ ExtApp r (xs.length * 4) (flat ys) w w' ∧ (gg = w.heap.size ∨ r = some gg) ∧ gg < w'.heap.size := by
  obtain ⟨i0, hi0, hz0, hz1, hz2⟩ := info_parts info49
  rcases h with ⟨h, rfl⟩ | ⟨⟨g, rfl, hg, hcell⟩, rfl⟩
  · exact run_append_app (P := Tryz.prog) w base 23 ty 49 i0 _ 4 40 Tryz.underlying23 hi0 hz0 hz1 hz2 rfl (by omega) v xs.length (flat xs) h ad ys.length c (flat ys) (flat_length ys) hc (flat_oneCell ys) hy (by unfold maxLen; omega) (by omega) hb
  · have hr := run_append_grow (P := Tryz.prog) w 23 ty 49 i0 _ Tryz.underlying23 hi0 hz0 ⟨g, 0, none⟩ xs.length xs.length (flat xs) (by rw [flat_length, hz1]) (fun j u hu => by rw [addr_add]; exact hcell j u hu) ad ys.length c (flat ys) (by rw [flat_length, hz1]) hc (by omega) (by omega) (growslice_fits (by omega) (by rw [hz2]; omega))
    refine ⟨_, _, _, hr, ?_, ((Ext.drew w).trans (Ext.alloc _ _)).app, .inl rfl, by simp⟩
    have hge := grownCap_ge w (xs.length + ys.length) xs.length 49
    have hcm : grownCap w (xs.length + ys.length) xs.length 49 ≤ maxLen := grownCap_le_maxLen w _ _ _ (by unfold maxLen; omega)
    have hl : ((flat xs) ++ (flat ys)).length = (xs.length + ys.length) * 4 := by simp [flat_length]; omega
    refine ⟨hl, .inr ⟨w.heap.size, _, _, rfl, hb, heap_alloc_new w.drew _, hge, hcm, ?_, ?_⟩⟩
    · simp only [Array.size_append, List.size_toArray, size_zeroCells, flat_length]
      have : (Value.cells (rv ⟨0, 0, 0, ByteArray.empty⟩)).size = 4 := rfl
      rw [this]; omega
    · simp only [Array.toList_append]
      rw [← hl]
      exact List.take_left
theorem RowR.app {w w' : World} {base : Nat} {r r' : Option Nat} {v : Value} {xs : List Rec} {off : Nat} {news : List Value} (h : RowR w base r v xs) (hE : ExtApp r' off news w w') (hr : xs.length * 4 ≤ off ∨ v.ownBlock ≠ r') (hr' : ∀ g, r' = some g → base ≤ g) : RowR w' base r v xs := by
  rcases h with ⟨h, h1⟩ | ⟨⟨g, h1, h2, h3⟩, h4⟩
  · exact .inl ⟨hE.owns h hr, h1⟩
  · exact .inr ⟨⟨g, h1, h2, fun j u hu => hE.keep (h3 j u hu) fun e => by have := hr' g e.symm; omega⟩, h4⟩
theorem RowR.ext {w w' : World} {base : Nat} {r : Option Nat} {v : Value} {xs : List Rec} (h : RowR w base r v xs) (hE : Ext w w') : RowR w' base r v xs :=
  h.app (r' := none) (off := 0) (news := []) hE.app (by
    rcases h with ⟨h, _⟩ | ⟨⟨g, h1, _⟩, _⟩
    · cases hv : v.ownBlock with
      | none =>
        rcases h.2 with ⟨_, h0⟩ | ⟨g, cap, cur, hv', _⟩
        · left; omega
        · simp [hv', Value.ownBlock] at hv
      | some g => right; simp
    · right; simp [h1, Value.ownBlock]) (fun g e => by cases e)
theorem RowR.base {w : World} {base : Nat} {r : Option Nat} {v : Value} {xs : List Rec} (h : RowR w base r v xs) : ∀ g, r = some g → base ≤ g ∧ g < w.heap.size := by
  intro g hg
  rcases h with ⟨h, h1⟩ | ⟨_, h1⟩
  · exact h.lt g (h1 ▸ hg)
  · rw [h1] at hg; cases hg
theorem cells_new (w : World) (cs : List Value) (t : TypeId) (g : Nat) (hg : g = w.heap.size) : ∀ j u, cs[j]? = some u → (w.alloc (.cells cs.toArray t)).cell? ((⟨g, 0, none⟩ : Addr).add j) = some u := by
  intro j u hu
  subst hg
  rw [addr_add, World.cell?_alloc_new]
  simpa using hu
/-- The append as one step of a region. -/
theorem step_app {ops : Array Oper} {o : Oper} {a : Act} {w : World} {K : Act → World → Prop} {Q : Exit → Act → World → Prop} {E : Prop} (hgd : o.guard = none) (s x : Operand)
    (ho : o.op = .call { callee := .builtin .append, args := #[s, x], argTypes := #[23, 23] })
    (base : Nat) (r : Option Nat) (v : Value) (xs : List Rec) (h : RowR w base r v xs) (ys : List Rec) (ad : Addr) (m c : Nat) (hs : a.eval s = v) (hx : a.eval x = .slice (some ad) m c) (hm : m = ys.length) (hy : 0 < ys.length)
    (hc : ∀ j u, (flat ys)[j]? = some u → w.cell? (ad.add j) = some u) (hn : xs.length + ys.length ≤ 1000000) (hb : base ≤ w.heap.size)
    (hK : ∀ gg cap w', w'.ownsRow base 49 4 (.slice (some ⟨gg, 0, none⟩) (xs.length + ys.length) cap) (xs.length + ys.length) (flat xs ++ flat ys) → ExtApp r (xs.length * 4) (flat ys) w w' → (gg = w.heap.size ∨ r = some gg) → gg < w'.heap.size →
      K (a.put o.dst (.slice (some ⟨gg, 0, none⟩) (xs.length + ys.length) cap)) w') :
    if Region.wanted o (yielded ops a.tmps) = true then Oper.wp Tryz.prog o a w K Q else E := by
  have hw : Region.wanted o (yielded ops a.tmps) = true := by simp [Region.wanted, hgd]
  rw [if_pos hw]
  subst hm
  obtain ⟨gg, cap, w', hr, h2, h3, h4, h5⟩ := app_rows w base r v xs h ys hy ad c hc hn hb o.type
  unfold Oper.wp execOp
  simp only [ho, resolve, invoke, builtin, Sem.run_bind, Sem.run_pure, Result.andThen_ok, List.map_toArray, List.map_cons, List.map_nil, hs, hx, hr]
  exact hK gg cap w' h2 h3 h4 h5
theorem wpList_app {ops : Array Oper} {rest : List Oper} {o : Oper} {a : Act} {w : World} {Q : Exit → Act → World → Prop} (hgd : o.guard = none) (s x : Operand)
    (ho : o.op = .call { callee := .builtin .append, args := #[s, x], argTypes := #[23, 23] })
    (base : Nat) (r : Option Nat) (v : Value) (xs : List Rec) (h : RowR w base r v xs) (ys : List Rec) (ad : Addr) (m c : Nat) (hs : a.eval s = v) (hx : a.eval x = .slice (some ad) m c) (hm : m = ys.length) (hy : 0 < ys.length)
    (hc : ∀ j u, (flat ys)[j]? = some u → w.cell? (ad.add j) = some u) (hn : xs.length + ys.length ≤ 1000000) (hb : base ≤ w.heap.size)
    (hK : ∀ gg cap w', w'.ownsRow base 49 4 (.slice (some ⟨gg, 0, none⟩) (xs.length + ys.length) cap) (xs.length + ys.length) (flat xs ++ flat ys) → ExtApp r (xs.length * 4) (flat ys) w w' → (gg = w.heap.size ∨ r = some gg) → gg < w'.heap.size →
      wpList Tryz.prog ops Q rest (a.put o.dst (.slice (some ⟨gg, 0, none⟩) (xs.length + ys.length) cap)) w') :
    wpList Tryz.prog ops Q (o :: rest) a w := by
  refine wpList_step fun K hK' => ?_
  exact step_app hgd s x ho base r v xs h ys ad m c hs hx hm hy hc hn hb (fun gg cap w' h1 h2 h3 h4 => hK' _ _ (hK gg cap w' h1 h2 h3 h4))
/-- Five rows of records, each the owner's from block base on or full; no two in one block. -/
structure Rows5 (w : World) (base : Nat) (rs : List (Option Nat)) (vs : List Value) (rows : List (List Rec)) : Prop where
  ls : rs.length = 5
  lv : vs.length = 5
  lr : rows.length = 5
  le : base ≤ w.heap.size
  row : ∀ (k : Nat) r v xs, rs[k]? = some r → vs[k]? = some v → rows[k]? = some xs → RowR w base r v xs
  apart : ∀ (j k : Nat) r r', j ≠ k → rs[j]? = some r → rs[k]? = some r' → r = none ∨ r ≠ r'
/-- The shelf at a place of memory. -/
structure ShelfX (w : World) (base B o : Nat) (rs : List (Option Nat)) (vs : List Value) (rows : List (List Rec)) : Prop where
  five : Rows5 w base rs vs rows
  lt : B < w.heap.size
  cell : ∀ (k : Nat) v, vs[k]? = some v → w.cell? ⟨B, o + k, none⟩ = some v
  free : ∀ k, k < 5 → w.frozen? ⟨B, o + k, none⟩ = false
  off : ∀ (k : Nat) v, vs[k]? = some v → v.ownBlock ≠ some B
theorem Rows5.ext {w w' : World} {base : Nat} {rs : List (Option Nat)} {vs : List Value} {rows : List (List Rec)} (h : Rows5 w base rs vs rows) (hE : Ext w w') : Rows5 w' base rs vs rows :=
  ⟨h.ls, h.lv, h.lr, Nat.le_trans h.le hE.size, fun k r v xs h1 h2 h3 => (h.row k r v xs h1 h2 h3).ext hE, h.apart⟩
theorem ShelfX.ext {w w' : World} {base B o : Nat} {rs : List (Option Nat)} {vs : List Value} {rows : List (List Rec)} (h : ShelfX w base B o rs vs rows) (hE : Ext w w') : ShelfX w' base B o rs vs rows :=
  ⟨h.five.ext hE, Nat.lt_of_lt_of_le h.lt hE.size, fun k v hv => hE.keep (h.cell k v hv), fun k hk => (hE.frozen (p := ⟨B, o + k, none⟩) h.lt).trans (h.free k hk), h.off⟩
/-- A slice of records that can be read. -/
def SlR (w : World) (v : Value) (xs : List Rec) : Prop :=
  (v = .slice none 0 0 ∧ xs = []) ∨ ∃ b off cap, v = .slice (some ⟨b, off, none⟩) xs.length cap ∧ xs.length ≤ cap ∧ cap ≤ maxLen ∧ b < w.heap.size ∧ ∀ j u, (flat xs)[j]? = some u → w.cell? ⟨b, off + j, none⟩ = some u
theorem SlR.ext {w w' : World} {v : Value} {xs : List Rec} (h : SlR w v xs) (hE : Ext w w') : SlR w' v xs := by
  rcases h with h | ⟨b, off, cap, h1, h2, h3, h4, h5⟩
  · exact .inl h
  · exact .inr ⟨b, off, cap, h1, h2, h3, Nat.lt_of_lt_of_le h4 hE.size, fun j u hu => hE.keep (h5 j u hu)⟩
theorem rowcells {w : World} {b off : Nat} {xs : List Rec} (h : ∀ j u, (flat xs)[j]? = some u → w.cell? ⟨b, off + j, none⟩ = some u) {i : Nat} {x : Rec} (hx : xs[i]? = some x) :
    w.cell? ⟨b, off + i * 4, none⟩ = some (.int .i64 x.st) ∧ w.cell? ⟨b, off + i * 4 + 1, none⟩ = some (.int .i64 x.num) ∧ w.cell? ⟨b, off + i * 4 + 2, none⟩ = some (.int .i64 x.hr) ∧ w.cell? ⟨b, off + i * 4 + 3, none⟩ = some (.string x.txt) := by
  have g : ∀ j (hj : j < 4) u, (rcells x)[j]? = some u → w.cell? ⟨b, off + i * 4 + j, none⟩ = some u := fun j hj u hu => by
    rw [Nat.add_assoc]; exact h _ _ (by rw [flat_get xs i j x hx hj]; exact hu)
  exact ⟨g 0 (by omega) _ rfl, g 1 (by omega) _ rfl, g 2 (by omega) _ rfl, g 3 (by omega) _ rfl⟩
/-- An owned row while a cell of another block is written. -/
theorem owns_setCell {w : World} {base : Nat} {e : TypeId} {size : Nat} {v : Value} {n : Nat} {xs : List Value} (h : w.ownsRow base e size v n xs) {a : Addr} (ha : v.ownBlock ≠ some a.block) (u : Value) : (w.setCell a u).ownsRow base e size v n xs := by
  obtain ⟨h1, h2⟩ := h
  refine ⟨h1, ?_⟩
  rcases h2 with h2 | ⟨g, cap, cur, hv, hg, hh, r⟩
  · exact Or.inl h2
  · exact Or.inr ⟨g, cap, cur, hv, hg, by rw [Below.heap_setCell _ _ _ _ (fun e => ha (by simp [hv, Value.ownBlock, e]))]; exact hh, r⟩
/-- The shelf behind an append to one of its rows. -/
theorem ShelfX.added {w w1 : World} {base B o k : Nat} {rs : List (Option Nat)} {vs : List Value} {rows : List (List Rec)} (h : ShelfX w base B o rs vs rows) (hk : k < 5) {r : Option Nat} {v : Value} {xs : List Rec} (hr : rs[k]? = some r) (hv : vs[k]? = some v) (hx : rows[k]? = some xs)
    {x : Rec} {gg cap : Nat} (hE : ExtApp r (xs.length * 4) (flat [x]) w w1) (ho : w1.ownsRow base 49 4 (.slice (some ⟨gg, 0, none⟩) (xs.length + 1) cap) (xs.length + 1) (flat xs ++ flat [x])) (hg : w.heap.size ≤ gg ∨ r = some gg) :
    ShelfX (w1.setCell ⟨B, o + k, none⟩ (.slice (some ⟨gg, 0, none⟩) (xs.length + 1) cap)) base B o (rs.set k (some gg)) (vs.set k (.slice (some ⟨gg, 0, none⟩) (xs.length + 1) cap)) (rows.set k (xs ++ [x])) := by
  have hle := h.five.le
  have hlt := h.lt
  have hbase := (h.five.row k r v xs hr hv hx).base
  have hBr : some B ≠ r := fun e => by
    rcases h.five.row k r v xs hr hv hx with ⟨_, h1⟩ | ⟨_, h1⟩
    · exact h.off k v hv (by rw [← h1, ← e])
    · rw [h1] at e; cases e
  have hggB : gg ≠ B := fun e => by
    subst e
    rcases hg with h1 | h1
    · omega
    · exact hBr h1.symm
  have hggb : base ≤ gg := by
    rcases hg with h1 | h1
    · omega
    · exact (hbase gg h1).1
  have hkeep : ∀ {r' : Option Nat} {v' : Value} {xs' : List Rec} {u : Value}, v'.ownBlock ≠ some B → RowR w1 base r' v' xs' → RowR (w1.setCell ⟨B, o + k, none⟩ u) base r' v' xs' := by
    intro r' v' xs' u hoff hR
    rcases hR with ⟨h1, h2⟩ | ⟨⟨g, h1, h2, h3⟩, h4⟩
    · exact .inl ⟨owns_setCell h1 (a := ⟨B, o + k, none⟩) hoff u, h2⟩
    · refine .inr ⟨⟨g, h1, h2, fun j z hz => ?_⟩, h4⟩
      rw [World.cell?_setCell_far _ _ _ _ (show B ≠ g from fun e => hoff (by simp [h1, Value.ownBlock, e]))]
      exact h3 j z hz
  refine ⟨⟨by simp [h.five.ls], by simp [h.five.lv], by simp [h.five.lr], ?_, ?_, ?_⟩, by have := hE.size; simp; omega, ?_, ?_, ?_⟩
  · have := hE.size; simp; omega
  · intro j r' v' xs' h1 h2 h3
    by_cases e : j = k
    · subst e
      simp only [List.getElem?_set, if_true, h.five.ls, h.five.lv, h.five.lr, hk, Option.some.injEq] at h1 h2 h3
      subst h1 h2 h3
      refine .inl ⟨?_, rfl⟩
      rw [List.length_append, flat_append]
      exact owns_setCell ho (a := ⟨B, o + j, none⟩) (by simpa [Value.ownBlock] using hggB) _
    · rw [List.getElem?_set_ne (Ne.symm e)] at h1 h2 h3
      have hR := h.five.row j r' v' xs' h1 h2 h3
      refine hkeep (h.off j v' h2) (hR.app hE ?_ (fun g hg => (hbase g hg).1))
      rcases hR with ⟨g1, g2⟩ | ⟨⟨g, g1, g2, _⟩, _⟩
      · cases hvb : v'.ownBlock with
        | none =>
          left
          rcases g1.2 with ⟨_, h0⟩ | ⟨g, cap, cur, hv', _⟩
          · omega
          · simp [hv', Value.ownBlock] at hvb
        | some g =>
          right
          rw [hvb] at g2
          rcases h.five.apart j k r' r e h1 hr with q | q
          · rw [q] at g2; cases g2
          · rw [← g2]; exact q
      · right
        intro e'
        have : r = some g := by rw [← e']; simp [g1, Value.ownBlock]
        have := (hbase g this).1
        omega
  · intro i j r1 r2 hij h1 h2
    have hlts : ∀ (j : Nat) r', rs[j]? = some r' → ∀ g, r' = some g → g < w.heap.size := by
      intro j r' hj g hg
      have hj5 : j < 5 := by have := (List.getElem?_eq_some_iff.1 hj).1; rw [h.five.ls] at this; exact this
      obtain ⟨v', hv'⟩ : ∃ v', vs[j]? = some v' := ⟨vs[j]'(by rw [h.five.lv]; exact hj5), by simp⟩
      obtain ⟨x', hx'⟩ : ∃ x', rows[j]? = some x' := ⟨rows[j]'(by rw [h.five.lr]; exact hj5), by simp⟩
      exact ((h.five.row j r' v' x' hj hv' hx').base g hg).2
    have key : ∀ (j : Nat) r', j ≠ k → rs[j]? = some r' → some gg ≠ r' := by
      intro j r' hjk hj e
      rcases hg with h3 | h3
      · have := hlts j r' hj gg e.symm; omega
      · rcases h.five.apart k j r r' (Ne.symm hjk) hr hj with q | q
        · rw [q] at h3; cases h3
        · exact q (by rw [h3, e])
    by_cases ei : i = k
    · subst ei
      rw [List.getElem?_set_ne hij] at h2
      simp only [List.getElem?_set, if_true, h.five.ls, hk, Option.some.injEq] at h1
      right; rw [← h1]; exact key j r2 (Ne.symm hij) h2
    · rw [List.getElem?_set_ne (Ne.symm ei)] at h1
      by_cases ej : j = k
      · subst ej
        simp only [List.getElem?_set, if_true, h.five.ls, hk, Option.some.injEq] at h2
        right; rw [← h2]; exact fun e => key i r1 ei h1 e.symm
      · rw [List.getElem?_set_ne (Ne.symm ej)] at h2
        exact h.five.apart i j r1 r2 hij h1 h2
  · intro j v' hj
    by_cases e : j = k
    · subst e
      simp only [List.getElem?_set, if_true, h.five.lv, hk, Option.some.injEq] at hj
      rw [← hj]
      exact World.cell?_setCell_same _ _ _ (hE.keep (h.cell j v hv) hBr)
    · rw [List.getElem?_set_ne (Ne.symm e)] at hj
      rw [World.cell?_setCell_other _ _ _ _ (by first | (simp; done) | simpa using Ne.symm e)]
      exact hE.keep (h.cell j v' hj) hBr
  · intro j hj
    rw [World.frozen?_setCell]
    have hBs : B < w.heap.size := by omega
    exact (World.frozen?_of_block (w := w) (hE.block B hBs hBr)).trans (h.free j hj)
  · intro j v' hj
    by_cases e : j = k
    · subst e
      simp only [List.getElem?_set, if_true, h.five.lv, hk, Option.some.injEq] at hj
      rw [← hj]
      simpa [Value.ownBlock] using hggB
    · rw [List.getElem?_set_ne (Ne.symm e)] at hj
      exact h.off j v' hj
theorem Rows5.offOf {w : World} {base R : Nat} {rs : List (Option Nat)} {vs : List Value} {rows : List (List Rec)} (h : Rows5 w base rs vs rows) (hR : some R ∉ rs) (hb : base ≤ R) : ∀ (k : Nat) v, vs[k]? = some v → v.ownBlock ≠ some R := by
  intro k v hv e
  have hk : k < 5 := by have := (List.getElem?_eq_some_iff.1 hv).1; rw [h.lv] at this; exact this
  obtain ⟨r, hr⟩ : ∃ r, rs[k]? = some r := ⟨rs[k]'(by rw [h.ls]; exact hk), by simp⟩
  rcases h.row k r v (rows[k]'(by rw [h.lr]; exact hk)) hr hv (by simp) with ⟨_, h1⟩ | ⟨⟨g, h1, h2, _⟩, _⟩
  · exact hR (by rw [← e, ← h1]; exact List.mem_of_getElem? hr)
  · simp only [h1, Value.ownBlock, Option.some.injEq] at e
    omega
/-- A store beside the rows. -/
theorem Rows5.setCell {w : World} {base : Nat} {rs : List (Option Nat)} {vs : List Value} {rows : List (List Rec)} (h : Rows5 w base rs vs rows) {a : Addr} (hR : some a.block ∉ rs) (hb : base ≤ a.block) (u : Value) : Rows5 (w.setCell a u) base rs vs rows := by
  refine ⟨h.ls, h.lv, h.lr, by simpa using h.le, fun k r v xs h1 h2 h3 => ?_, h.apart⟩
  have hoff := h.offOf hR hb k v h2
  rcases h.row k r v xs h1 h2 h3 with ⟨g1, g2⟩ | ⟨⟨g, g1, g2, g3⟩, g4⟩
  · exact .inl ⟨owns_setCell g1 hoff u, g2⟩
  · refine .inr ⟨⟨g, g1, g2, fun j z hz => ?_⟩, g4⟩
    rw [World.cell?_setCell_far _ _ _ _ (show a.block ≠ g from fun e => hoff (by simp [g1, Value.ownBlock, e]))]
    exact g3 j z hz
end Go.Proofs.YtgjahnomafpnfaaGreatDoor

/- (*shelf).add. -/
namespace Go.Proofs.YtgjahnomafpnfaaGreatDoor
open Go.RowKit
set_option maxHeartbeats 800000 in
set_option maxRecDepth 100000 in
theorem add_core (B o k : Nat) (x : Rec) (base : Nat) (r : Option Nat) (v : Value) (xs : List Rec) (w : World) (hk : x.st = (k : Int)) (hk5 : k < 5) (hBs : B < w.heap.size) (hrB : some B ≠ r) (hle : base ≤ w.heap.size)
    (hcell : w.cell? ⟨B, o + k, none⟩ = some v) (hfree : w.frozen? ⟨B, o + k, none⟩ = false) (hrow : RowR w base r v xs) (hn : xs.length + 1 ≤ 1000000) :
    Calls Tryz.prog 143 #[.pointer (some ⟨B, o, none⟩), rv x] w fun e w' => e = .returned (.tuple #[]) ∧
      ∃ gg cap w1, ExtApp r (xs.length * 4) (flat [x]) w w1 ∧ w1.ownsRow base 49 4 (.slice (some ⟨gg, 0, none⟩) (xs.length + 1) cap) (xs.length + 1) (flat xs ++ flat [x]) ∧ (w.heap.size ≤ gg ∨ r = some gg) ∧ gg < w1.heap.size ∧
        w' = w1.setCell ⟨B, o + k, none⟩ (.slice (some ⟨gg, 0, none⟩) (xs.length + 1) cap) := by
  obtain ⟨st, num, hr, txt⟩ := x
  obtain rfl : st = (k : Int) := hk
  have h5 : (k : Int) < 5 := by omega
  have h0 : (0 : Int) ≤ (k : Int) := by omega
  go_enter Tryz.func143, Tryz.ntmps143
  go_wp2
  have hs : (w.alloc (.cells #[.int .i64 (k : Int), .int .i64 num, .int .i64 hr, .string txt] 49)).heap.size = w.heap.size + 1 := by simp
  have c0 : (w.alloc (.cells #[.int .i64 (k : Int), .int .i64 num, .int .i64 hr, .string txt] 49)).cell? ⟨w.heap.size, 0, none⟩ = some (.int .i64 (k : Int)) := by simp
  have c1 : (w.alloc (.cells #[.int .i64 (k : Int), .int .i64 num, .int .i64 hr, .string txt] 49)).cell? ⟨w.heap.size, 1, none⟩ = some (.int .i64 num) := by simp
  have c2 : (w.alloc (.cells #[.int .i64 (k : Int), .int .i64 num, .int .i64 hr, .string txt] 49)).cell? ⟨w.heap.size, 2, none⟩ = some (.int .i64 hr) := by simp
  have c3 : (w.alloc (.cells #[.int .i64 (k : Int), .int .i64 num, .int .i64 hr, .string txt] 49)).cell? ⟨w.heap.size, 3, none⟩ = some (.string txt) := by simp
  have c4 : (w.alloc (.cells #[.int .i64 (k : Int), .int .i64 num, .int .i64 hr, .string txt] 49)).cell? ⟨B, o + k, none⟩ = some v := by rw [World.cell?_alloc_past _ _ _ hBs]; exact hcell
  have f4 : (w.alloc (.cells #[.int .i64 (k : Int), .int .i64 num, .int .i64 hr, .string txt] 49)).frozen? ⟨B, o + k, none⟩ = false := by rw [World.frozen?_alloc_past _ _ _ hBs]; exact hfree
  have hX : Ext w (w.alloc (.cells #[.int .i64 (k : Int), .int .i64 num, .int .i64 hr, .string txt] 49)) := Ext.alloc _ _
  generalize (w.alloc (.cells #[.int .i64 (k : Int), .int .i64 num, .int .i64 hr, .string txt] 49)) = W at hs c0 c1 c2 c3 c4 f4 hX ⊢
  have hR : RowR W base r v xs := hrow.ext hX
  have hr0 : some w.heap.size ≠ r := fun e => by have := (hrow.base _ e.symm).2; omega
  have hBW : B < W.heap.size := by omega
  refine wp_drawnE (ExtApp r (xs.length * 4) (flat [(⟨(k : Int), num, hr, txt⟩ : Rec)])) 14 (by kernel_rfl) (by kernel_rfl) (fun i => match i with
    | 10 => some fun u w' => ∃ g, u = .slice (some ⟨g, 0, none⟩) 1 1 ∧ w.heap.size < g ∧ ∀ j z, (flat [(⟨(k : Int), num, hr, txt⟩ : Rec)])[j]? = some z → w'.cell? ((⟨g, 0, none⟩ : Addr).add j) = some z
    | 11 => some fun u w' => ∃ gg cap, u = .slice (some ⟨gg, 0, none⟩) (xs.length + 1) cap ∧ w'.ownsRow base 49 4 u (xs.length + 1) (flat xs ++ flat [(⟨(k : Int), num, hr, txt⟩ : Rec)]) ∧ (w.heap.size ≤ gg ∨ r = some gg) ∧ gg < w'.heap.size
    | _ => none) ExtApp.refl (fun h k => h.trans k) ?_ ?_
  · intro j φ hφ u w1 w2 h1 h2
    split at hφ <;> cases hφ
    · obtain ⟨g, e, hg, hc⟩ := h1
      refine ⟨g, e, hg, fun j z hz => ?_⟩
      have := hc j z hz
      rw [addr_add] at this ⊢
      exact h2.keep this fun e => by have := (hrow.base _ e.symm).2; omega
    · obtain ⟨gg, cap, e, ho, h3, h4⟩ := h1
      exact ⟨gg, cap, e, h2.ownsNew ho (by rw [flat_length]), h3, Nat.lt_of_lt_of_le h4 h2.size⟩
  · intro ν
    simp only [List.take_succ_cons, List.take_zero]
    iterate 10 (refine Seq.pure ?_ rfl (fun w' hw hf => ?_) ?_; rotate_left; (· (have d0 := hw.keep (w := W.drew) c0 hr0; have d1 := hw.keep (w := W.drew) c1 hr0; have d2 := hw.keep (w := W.drew) c2 hr0; have d3 := hw.keep (w := W.drew) c3 hr0; have d4 := hw.keep (w := W.drew) c4 hrB; unfold pureG; go_simp; with_reducible rfl)); simp only [Act.put, List.setIfInBounds_toArray, List.set_cons_zero, List.set_cons_succ, Nat.reduceAdd, Nat.zero_add])
    refine Seq.eff _ rfl (fun w' hw hf => giveG_of rfl (by simp) fun K hK => ?_) ?_
    · go_simp
      have hz := hw.size
      exact hK _ _ ⟨⟨w'.heap.size, rfl, by simp at hz; omega, cells_new _ _ 49 _ rfl⟩, (Ext.alloc _ _).app⟩
    simp only [Act.put, List.setIfInBounds_toArray, List.set_cons_zero, List.set_cons_succ, Nat.reduceAdd, Nat.zero_add]
    refine Seq.eff _ rfl (fun w' hw hf => giveG_of rfl (by simp) fun K hK => ?_) ?_
    · obtain ⟨g, e10, hg, hc10⟩ := hf 10 _ rfl (by kernel_rfl)
      have hz := hw.size
      rw [e10] at hK ⊢
      refine step_app rfl (.tmp 12) (.tmp 14) rfl base r v xs ((hR.ext (Ext.drew W)).app hw (.inl (Nat.le_refl _)) (fun g e => (hrow.base g e).1)) [⟨(k : Int), num, hr, txt⟩] ⟨g, 0, none⟩ 1 1 rfl rfl rfl (by simp) hc10 hn (by simp at hz; omega) ?_
      intro gg cap w1 h1 h2 h3 h4
      exact hK _ _ ⟨⟨gg, cap, rfl, h1, by rcases h3 with h3 | h3; (left; simp at hz; omega); exact .inr h3, h4⟩, h2⟩
    simp only [Act.put, List.setIfInBounds_toArray, List.set_cons_zero, List.set_cons_succ, Nat.reduceAdd, Nat.zero_add]
    iterate 2 (refine Seq.pure ?_ rfl (fun w' hw hf => ?_) ?_; rotate_left; (· (skip; unfold pureG; go_simp; with_reducible rfl)); simp only [Act.put, List.setIfInBounds_toArray, List.set_cons_zero, List.set_cons_succ, Nat.reduceAdd, Nat.zero_add])
    refine Seq.nil fun w' hw hf => tail_one (i := 14) (by kernel_rfl) rfl (by kernel_rfl) rfl ?_
    obtain ⟨gg, cap, e11, hown, hgg, hlt⟩ := hf 11 _ (by omega) rfl
    have d4 := hw.keep (w := W.drew) c4 hrB
    have e4 := (hw.marks B (o + k) hBW hrB).trans f4
    rw [e11] at hown ⊢
    go_wp2
    refine bodyPost_end (results_none rfl _ _ _) rfl ?_
    exact ⟨rfl, gg, cap, w', (hX.app.trans (Ext.drew W).app).trans hw, hown, hgg, hlt, rfl⟩
end Go.Proofs.YtgjahnomafpnfaaGreatDoor

/- (*shelf).follows. -/
namespace Go.Proofs.YtgjahnomafpnfaaGreatDoor
open Go.RowKit
/-- The error of a record behind those of its station. -/
def followsE (xs : List Rec) (x : Rec) : Int := if x.num ≠ (xs.length : Int) + 1 then 83 else if 0 < xs.length ∧ x.hr < (xs.getLast?.getD default).hr then 7 else 0
/-- What a row's value looks like. -/
theorem RowR.form {w : World} {base : Nat} {r : Option Nat} {v : Value} {xs : List Rec} (h : RowR w base r v xs) (hn : xs.length ≤ 1000000) :
    (v = .slice none 0 0 ∧ xs = []) ∨ ∃ g cap, v = .slice (some ⟨g, 0, none⟩) xs.length cap ∧ xs.length ≤ cap ∧ cap ≤ maxLen ∧ ∀ j u, (flat xs)[j]? = some u → w.cell? ⟨g, j, none⟩ = some u := by
  rcases h with ⟨h, _⟩ | ⟨⟨g, h1, h2, h3⟩, _⟩
  · rcases h.2 with ⟨h1, h2⟩ | ⟨g, cap, cur, h1, h2, h3, h4, h5, h6, h7⟩
    · exact .inl ⟨h1, List.eq_nil_of_length_eq_zero h2⟩
    · refine .inr ⟨g, cap, h1, h4, h5, fun j u hu => ?_⟩
      have := h.cells (g := g) (by simp [h1, Value.ownBlock]) j u hu
      rwa [addr_add] at this
  · exact .inr ⟨g, xs.length, h1, Nat.le_refl _, by unfold maxLen; omega, h3⟩
set_option maxHeartbeats 800000 in
set_option maxRecDepth 100000 in
theorem follows_core (B o k : Nat) (x : Rec) (v : Value) (xs : List Rec) (w : World) (hk : x.st = (k : Int)) (hk5 : k < 5) (hB : B < w.heap.size) (hn : xs.length ≤ 1000000)
    (hcell : w.cell? ⟨B, o + k, none⟩ = some v) (hrow : (v = .slice none 0 0 ∧ xs = []) ∨ ∃ g cap, v = .slice (some ⟨g, 0, none⟩) xs.length cap ∧ xs.length ≤ cap ∧ cap ≤ maxLen ∧ ∀ j u, (flat xs)[j]? = some u → w.cell? ⟨g, j, none⟩ = some u) :
    Calls Tryz.prog 142 #[.pointer (some ⟨B, o, none⟩), rv x] w fun e w' => e = .returned (.int .i64 (followsE xs x)) ∧ Below w.heap.size w w' := by
  obtain ⟨st, num, hr, txt⟩ := x
  obtain rfl : st = (k : Int) := hk
  have h5 : (k : Int) < 5 := by omega
  have h0 : (0 : Int) ≤ (k : Int) := by omega
  have c4 : (w.alloc (.cells #[.int .i64 (k : Int), .int .i64 num, .int .i64 hr, .string txt] 49)).cell? ⟨B, o + k, none⟩ = some v := by rw [World.cell?_alloc_past _ _ _ hB]; exact hcell
  have cb : ∀ n, Below w.heap.size w ((w.alloc (.cells #[.int .i64 (k : Int), .int .i64 num, .int .i64 hr, .string txt] 49)).drewN n) := fun n => below_drewN ((Below.refl _ _).alloc (Nat.le_refl _) _) n
  by_cases hnum : num = (xs.length : Int) + 1
  · have hnb : (num != (xs.length : Int) + 1) = false := by simp [hnum]
    rcases hrow with ⟨rfl, rfl⟩ | ⟨g, cap, rfl, hcap, hm, hc⟩
    · subst hnum
      go_enter Tryz.func142, Tryz.ntmps142
      go_wp2
      go_quiet (fail)
      go_wp2
      go_quiet (fail)
      go_wp2
      go_ret
      exact ⟨ret_int (by simp [followsE]), below_drewN (below_drewN ((Below.refl _ _).alloc (Nat.le_refl _) _) _) _⟩
    · by_cases hpos : 0 < xs.length
      · obtain ⟨y, hy⟩ : ∃ y, xs[xs.length - 1]? = some y := ⟨xs[xs.length - 1], by simp⟩
        have hl : followsE xs ⟨(k : Int), num, hr, txt⟩ = if hr < y.hr then 7 else 0 := by
          simp only [followsE, List.getLast?_eq_getElem?, hy]
          rw [if_neg (by simpa using hnum)]
          simp [hpos]
        have hcl := hc ((xs.length - 1) * 4 + 2) (.int .i64 y.hr) (by rw [flat_get xs _ 2 y hy (by omega)]; rfl)
        have hg := World.block_lt_of_cell? w _ hcl
        clear hy hc
        have Hl := Lib.hid hl
        clear hl
        generalize followsE xs ⟨(k : Int), num, hr, txt⟩ = E at Hl ⊢
        generalize xs.length = n at *
        obtain ⟨m, rfl⟩ : ∃ m, n = m + 1 := ⟨n - 1, by omega⟩
        simp only [Nat.add_sub_cancel] at hcl
        clear hnum
        have hcl' : (w.alloc (.cells #[.int .i64 (k : Int), .int .i64 num, .int .i64 hr, .string txt] 49)).cell? ⟨g, m * 4 + 2, none⟩ = some (.int .i64 y.hr) := by rw [World.cell?_alloc_past _ _ _ hg]; exact hcl
        go_enter Tryz.func142, Tryz.ntmps142
        go_wp2
        go_quiet (fail)
        go_wp2
        go_quiet (fail)
        go_wp2
        · go_ret
          have hlt : hr < y.hr := by assumption
          exact ⟨ret_int (by rw [Hl.out, if_pos hlt]), below_drewN (below_drewN ((Below.refl _ _).alloc (Nat.le_refl _) _) _) _⟩
        · go_ret
          have hge : y.hr ≤ hr := by assumption
          exact ⟨ret_int (by rw [Hl.out, if_neg (by omega)]), below_drewN (below_drewN ((Below.refl _ _).alloc (Nat.le_refl _) _) _) _⟩
      · have hx : xs = [] := List.eq_nil_of_length_eq_zero (by omega)
        subst hx
        have hd : decide ((0 : Int) < (([] : List Rec).length : Int)) = false := by simp
        subst hnum
        go_enter Tryz.func142, Tryz.ntmps142
        go_wp2
        go_quiet (fail)
        go_wp2
        go_quiet (fail)
        go_wp2
        go_ret
        exact ⟨ret_int (by simp [followsE]), below_drewN (below_drewN ((Below.refl _ _).alloc (Nat.le_refl _) _) _) _⟩
  · have hnb : (num != (xs.length : Int) + 1) = true := by simpa using hnum
    have hf : (83 : Int) = followsE xs ⟨(k : Int), num, hr, txt⟩ := by simp [followsE, hnum]
    have Hf := Lib.hid hf
    clear hf hnum
    rcases hrow with ⟨rfl, rfl⟩ | ⟨g, cap, rfl, hcap, hm, hc⟩
    · have hnb' : (num != 1) = true := by simpa using hnb
      go_enter Tryz.func142, Tryz.ntmps142
      go_wp2
      go_quiet (fail)
      go_wp2
      go_ret
      exact ⟨ret_int Hf.out, cb _⟩
    · go_enter Tryz.func142, Tryz.ntmps142
      go_wp2
      go_quiet (fail)
      go_wp2
      go_ret
      exact ⟨ret_int Hf.out, cb _⟩
/-- What changes where a shelf is written: its own five cells, blocks of its rows, new blocks. -/
structure FrS (B o : Nat) (rs rs' : List (Option Nat)) (w w' : World) : Prop where
  os : w'.os = w.os
  tape : w'.tape = w.tape
  output : w'.output = w.output
  size : w.heap.size ≤ w'.heap.size
  block : ∀ j, j < w.heap.size → j ≠ B → some j ∉ rs → w'.heap[j]? = w.heap[j]?
  own : ∀ i, i < o ∨ o + 5 ≤ i → w'.cell? ⟨B, i, none⟩ = w.cell? ⟨B, i, none⟩
  mark : ∀ i, w'.frozen? ⟨B, i, none⟩ = w.frozen? ⟨B, i, none⟩
  new : ∀ g, some g ∈ rs' → some g ∈ rs ∨ w.heap.size ≤ g
theorem FrS.refl (B o : Nat) (rs : List (Option Nat)) (w : World) : FrS B o rs rs w w := ⟨rfl, rfl, rfl, Nat.le_refl _, fun _ _ _ _ => rfl, fun _ _ => rfl, fun _ => rfl, fun _ h => .inl h⟩
theorem FrS.trans {B o : Nat} {rs rs' rs'' : List (Option Nat)} {a b c : World} (h : FrS B o rs rs' a b) (k : FrS B o rs' rs'' b c) : FrS B o rs rs'' a c :=
  ⟨k.os.trans h.os, k.tape.trans h.tape, k.output.trans h.output, Nat.le_trans h.size k.size,
   fun j hj hB hn => (k.block j (Nat.lt_of_lt_of_le hj h.size) hB fun e => by rcases h.new j e with q | q; exact hn q; omega).trans (h.block j hj hB hn),
   fun i hi => (k.own i hi).trans (h.own i hi), fun i => (k.mark i).trans (h.mark i), fun g hg => by
    rcases k.new g hg with q | q
    · exact h.new g q
    · exact .inr (Nat.le_trans h.size q)⟩
theorem FrS.ext {B o : Nat} {rs : List (Option Nat)} {a b : World} (h : Ext a b) (hB : B < a.heap.size) : FrS B o rs rs a b :=
  ⟨h.os, h.tape, h.output, h.size, fun j hj _ _ => h.block j hj, fun i _ => h.cell (p := ⟨B, i, none⟩) hB, fun i => h.frozen (p := ⟨B, i, none⟩) hB, fun _ h => .inl h⟩
theorem FrS.below {B o : Nat} {rs rs' : List (Option Nat)} {w w' : World} (h : FrS B o rs rs' w w') {N : Nat} (hN : N ≤ w.heap.size) (hB : N ≤ B) (hrs : ∀ g, some g ∈ rs → N ≤ g) : Below N w w' :=
  ⟨h.os, h.tape, h.output, h.size, fun j hj => h.block j (by omega) (by omega) fun e => by have := hrs j e; omega⟩
theorem Rows5.ge {w : World} {base : Nat} {rs : List (Option Nat)} {vs : List Value} {rows : List (List Rec)} (h : Rows5 w base rs vs rows) : ∀ g, some g ∈ rs → base ≤ g ∧ g < w.heap.size := by
  intro g hg
  obtain ⟨j, hj, e⟩ := List.mem_iff_getElem.1 hg
  have hj5 : j < 5 := by rw [h.ls] at hj; exact hj
  exact (h.row j (some g) (vs[j]'(by rw [h.lv]; exact hj5)) (rows[j]'(by rw [h.lr]; exact hj5)) (by rw [List.getElem?_eq_getElem hj, e]) (by simp) (by simp)).base g rfl
theorem add_any (B o k : Nat) (x : Rec) (base : Nat) (rs : List (Option Nat)) (vs : List Value) (rows : List (List Rec)) (w : World) (h : ShelfX w base B o rs vs rows) (hk : x.st = (k : Int)) (hk5 : k < 5) (xs : List Rec) (hx : rows[k]? = some xs) (hn : xs.length + 1 ≤ 1000000) :
    Calls Tryz.prog 143 #[.pointer (some ⟨B, o, none⟩), rv x] w fun e w' => e = .returned (.tuple #[]) ∧ ∃ rs' vs', ShelfX w' base B o rs' vs' (rows.set k (xs ++ [x])) ∧ FrS B o rs rs' w w' := by
  obtain ⟨r, hr⟩ : ∃ r, rs[k]? = some r := ⟨rs[k]'(by rw [h.five.ls]; exact hk5), by simp⟩
  obtain ⟨v, hv⟩ : ∃ v, vs[k]? = some v := ⟨vs[k]'(by rw [h.five.lv]; exact hk5), by simp⟩
  have hR := h.five.row k r v xs hr hv hx
  have hlt := h.lt
  have hle := h.five.le
  have hBr : some B ≠ r := fun e => by
    rcases hR with ⟨_, h1⟩ | ⟨_, h1⟩
    · exact h.off k v hv (by rw [← h1, ← e])
    · rw [h1] at e; cases e
  refine (add_core B o k x base r v xs w hk hk5 hlt hBr hle (h.cell k v hv) (h.free k hk5) hR hn).mono ?_
  rintro e w' ⟨rfl, gg, cap, w1, hE, ho, hg, hgl, rfl⟩
  refine ⟨rfl, _, _, h.added hk5 hr hv hx hE ho hg, ?_⟩
  have hmem : r ∈ rs := List.mem_of_getElem? hr
  refine ⟨hE.os, hE.tape, hE.output, by simpa using hE.size, fun j hj hjB hjr => ?_, fun i hi => ?_, fun i => ?_, fun g hg' => ?_⟩
  · rw [Below.heap_setCell _ _ _ _ hjB]
    exact hE.block j hj fun e => hjr (e ▸ hmem)
  · have hne : (⟨B, o + k, none⟩ : Addr) ≠ ⟨B, i, none⟩ := fun e => by have e2 := congrArg Addr.off e; simp only at e2; omega
    rw [World.cell?_setCell_other _ _ _ _ hne]
    exact World.cell?_of_block (w := w) (hE.block B (by omega) hBr)
  · rw [World.frozen?_setCell]
    exact World.frozen?_of_block (w := w) (hE.block B (by omega) hBr)
  · obtain ⟨j, hj, e⟩ := List.mem_iff_getElem.1 hg'
    rw [List.getElem_set] at e
    split at e
    · simp only [Option.some.injEq] at e
      subst e
      rcases hg with q | q
      · exact .inr q
      · exact .inl (q ▸ hmem)
    · exact .inl (e ▸ List.getElem_mem _)
end Go.Proofs.YtgjahnomafpnfaaGreatDoor
