/- Lemmas and walks that this claim needs, in one text out of several; each states its own conditions. -/
import Derived.Test.YtgjahnomafpnfaaGreatDoorMPostBooks2
import Derived.Lib.ItoaNum
import Derived.Test.YtgjahnomafpnfaaGreatDoorMPostBooks1
set_option linter.unusedVariables false
set_option linter.unusedSimpArgs false
/- Records and lines: what is written can be read, what is read was written. -/
namespace Go.Proofs.YtgjahnomafpnfaaGreatDoor
open Go.RowKit
theorem digit_toNat (u : Nat) (h : u < 10) : (UInt8.ofNat (48 + u)).toNat = 48 + u := by rw [UInt8.toNat_ofNat']; omega
theorem decDigits_all (u : Nat) : (Lib.decDigits u).all digB = true := by
  induction u using Nat.strongRecOn with
  | _ u ih =>
    rw [Lib.decDigits]
    by_cases h : u < 10
    · rw [dif_pos h]
      simp only [List.all_cons, List.all_nil, Bool.and_true]
      rw [digB_iff, digit_toNat u h]
      omega
    · rw [dif_neg h, List.all_append, ih (u / 10) (by omega)]
      simp only [List.all_cons, List.all_nil, Bool.and_true, Bool.true_and]
      rw [digB_iff, digit_toNat (u % 10) (by omega)]
      omega
theorem decDigits_len (k : Nat) : ∀ u : Nat, u < 10 ^ (k + 1) → (Lib.decDigits u).length ≤ k + 1 := by
  induction k with
  | zero => intro u h; rw [Lib.decDigits_one (by omega)]; simp
  | succ k ih =>
    intro u h
    rw [Lib.decDigits]
    by_cases h1 : u < 10
    · rw [dif_pos h1]; simp
    · rw [dif_neg h1, List.length_append]
      have := ih (u / 10) (by rw [Nat.pow_succ] at h; omega)
      simp only [List.length_singleton]
      omega
theorem numV_digits (u : Nat) : numV (Lib.decDigits u) = u := by
  induction u using Nat.strongRecOn with
  | _ u ih =>
    rw [Lib.decDigits]
    by_cases h : u < 10
    · rw [dif_pos h]
      have := numV_snoc [] (UInt8.ofNat (48 + u))
      rw [List.nil_append, digit_toNat u h] at this
      rw [this]
      have h0 : numV [] = 0 := rfl
      omega
    · rw [dif_neg h, numV_snoc, ih (u / 10) (by omega), digit_toNat (u % 10) (by omega)]
      omega
theorem numR_itoa (u : Nat) (h : u ≤ 1000000) : numR (itoaB (u : Int)) = u := by
  rw [itoaB_nat]
  unfold numR
  have h1 : ((⟨(Lib.decDigits u).toArray⟩ : ByteArray)).data.toList = Lib.decDigits u := rfl
  rw [h1, if_pos, numV_digits]
  refine ⟨?_, decDigits_all u⟩
  have := decDigits_len 12 u (by omega)
  exact this
theorem parse_snoc (c : UInt8) : ∀ (l : List UInt8) (acc u : Nat), Lib.parseUint10 acc l = .ok u → 48 ≤ c.toNat ∧ c.toNat ≤ 57 → u < 1000000000000 → Lib.parseUint10 acc (l ++ [c]) = .ok (u * 10 + (c.toNat - 48))
  | [], acc, u, h, hc, hu => by
    simp only [Lib.parseUint10] at h
    injection h with h
    subst h
    simp only [List.nil_append, Lib.parseUint10]
    rw [if_pos hc, if_neg (by omega), if_neg (by omega)]
  | d :: l, acc, u, h, hc, hu => by
    rw [List.cons_append]
    unfold Lib.parseUint10 at h ⊢
    split at h
    · rename_i hd
      rw [if_pos hd]
      split at h
      · cases h
      · rename_i h1
        rw [if_neg h1]
        split at h
        · cases h
        · rename_i h2
          rw [if_neg h2]
          exact parse_snoc c l _ u h hc hu
    · cases h
theorem parse_digits (u : Nat) (h : u ≤ 1000000000) : Lib.parseUint10 0 (Lib.decDigits u) = .ok u := by
  induction u using Nat.strongRecOn with
  | _ u ih =>
    rw [Lib.decDigits]
    by_cases h1 : u < 10
    · rw [dif_pos h1]
      have := parse_snoc (UInt8.ofNat (48 + u)) [] 0 0 rfl (by rw [digit_toNat u h1]; omega) (by omega)
      rw [List.nil_append, digit_toNat u h1] at this
      rw [this]
      congr 1
      omega
    · rw [dif_neg h1, parse_snoc _ _ 0 (u / 10) (ih (u / 10) (by omega) (by omega)) (by rw [digit_toNat (u % 10) (by omega)]; omega) (by omega), digit_toNat (u % 10) (by omega)]
      congr 1
      omega
theorem atoi_digits (u : Nat) (h : u ≤ 1000000000) : Lib.atoiAll (Lib.decDigits u) = .ok (u : Int) := by
  have ha := decDigits_all u
  have hp := parse_digits u h
  cases hl : Lib.decDigits u with
  | nil =>
    have := Lib.decDigits_length u
    rw [hl] at this
    have h2 : 1 ≤ Lib.nDigits u := by
      by_cases h3 : u < 10
      · rw [Lib.nDigits_small h3]; omega
      · rw [Lib.nDigits_big h3]; omega
    simp at this
    omega
  | cons c r =>
    rw [hl] at ha hp
    simp only [List.all_cons, Bool.and_eq_true] at ha
    have hc := (digB_iff c).1 ha.1
    rw [Lib.atoiAll_plain c r (by omega) (by omega)]
    unfold Lib.signless Lib.parseMag
    rw [if_neg (by simp), hp]
    simp only
    rw [if_neg (by omega)]
end Go.Proofs.YtgjahnomafpnfaaGreatDoor

/- Lines cut at blanks; the law of lines. -/
namespace Go.Proofs.YtgjahnomafpnfaaGreatDoor
open Go.RowKit
theorem cut_list (a r : List UInt8) (c : UInt8) (h : ∀ x ∈ a, x ≠ c) : Lib.cut (a ++ c :: r) [c] = (a, r, true) := by
  have hi : Lib.index (a ++ c :: r) [c] = (a.length : Int) := Lib.index_first (by simp) ((occ_one _ _ _).2 (by rw [List.getElem?_append_right (Nat.le_refl _)]; simp)) (fun j hj => occ_none (by
    rw [List.getElem?_append_left hj, List.getElem?_eq_getElem hj]
    intro e
    exact h _ (List.getElem_mem hj) (Option.some.inj e)))
  unfold Lib.cut
  rw [hi, if_pos (by omega), Int.toNat_natCast]
  simp
theorem cutS_of (A R : ByteArray) (h : ∀ x ∈ A.data.toList, x ≠ 32) : cutS (A ++ sp ++ R) = (A, R, true) := by
  have hl : (A ++ sp ++ R).data.toList = A.data.toList ++ 32 :: R.data.toList := by
    rw [ByteArray.data_append, ByteArray.data_append]
    simp [sp]
  unfold cutS
  rw [hl, cut_list _ _ _ h]
theorem cutS_join (s : ByteArray) (h : (cutS s).2.2 = true) : s = (cutS s).1 ++ sp ++ (cutS s).2.1 := by
  unfold cutS at h ⊢
  simp only at h ⊢
  rcases Lib.index_spec s.data.toList [32] with ⟨h1, _⟩ | ⟨i, h1, h2, h3, _⟩
  · unfold Lib.cut at h
    rw [if_neg (by omega)] at h
    cases h
  · have h4 := (occ_one _ _ _).1 h3
    have hlt := (List.getElem?_eq_some_iff.1 h4).1
    have h5 : Lib.cut s.data.toList [32] = (s.data.toList.take i, s.data.toList.drop (i + 1), true) := by
      unfold Lib.cut
      rw [h1, if_pos (by omega), Int.toNat_natCast]
      rfl
    rw [h5]
    apply ByteArray.ext
    rw [ByteArray.data_append, ByteArray.data_append]
    apply Array.ext'
    simp only [Array.toList_append]
    show s.data.toList = s.data.toList.take i ++ [32] ++ s.data.toList.drop (i + 1)
    rw [List.append_assoc]
    conv => lhs; rw [← List.take_append_drop i s.data.toList, List.drop_eq_getElem_cons hlt]
    have := (List.getElem?_eq_some_iff.1 h4).2
    rw [this]
    rfl
theorem itoa_no_blank (u : Nat) : ∀ x ∈ (itoaB (u : Int)).data.toList, x ≠ 32 := by
  rw [itoaB_nat]
  intro x hx
  have h1 : digB x = true := List.all_eq_true.1 (decDigits_all u) x hx
  have := (digB_iff x).1 h1
  rintro rfl
  simp at this
theorem numQ_spec {s : ByteArray} {more : Bool} {v : Int} {s' : ByteArray} {m' : Bool} (h : numQ s more = some (v, s', m')) : more = true ∧ itoaB v = (cutS s).1 ∧ s' = (cutS s).2.1 ∧ m' = (cutS s).2.2 ∧ 0 ≤ v := by
  unfold numQ numP at h
  split at h
  · rename_i hm
    split at h
    · split at h
      · rename_i hh
        simp only [Option.some.injEq, Prod.mk.injEq] at h
        obtain ⟨rfl, rfl, rfl⟩ := h
        exact ⟨hm, hh.2, rfl, rfl, hh.1⟩
      · cases h
    · cases h
  · cases h
theorem numQ_of (u : Nat) (hu : u ≤ 1000000000) (R : ByteArray) : numQ (itoaB (u : Int) ++ sp ++ R) true = some ((u : Int), R, true) := by
  unfold numQ numP
  rw [if_pos rfl, cutS_of _ _ (itoa_no_blank u)]
  simp only
  have h1 : (itoaB (u : Int)).data.toList = Lib.decDigits u := by rw [itoaB_nat]
  rw [h1, atoi_digits u hu]
  simp only
  rw [if_pos ⟨by omega, trivial⟩]
theorem lineB_assoc (x : Rec) : lineB x = itoaB x.st ++ sp ++ (itoaB x.num ++ sp ++ (itoaB x.hr ++ sp ++ x.txt)) := by
  unfold lineB
  simp only [ByteArray.append_assoc]
/-- What is read was written. -/
theorem parsedP_line {n : Int} {s : ByteArray} {x : Rec} (h : parsedP n s = some x) : formedB n x = true ∧ lineB x = s := by
  unfold parsedP at h
  split at h
  · cases h
  rename_i a s1 m1 h1
  split at h
  · cases h
  rename_i b s2 m2 h2
  split at h
  · cases h
  rename_i c s3 m3 h3
  split at h
  · rename_i hh
    cases h
    refine ⟨hh.2, ?_⟩
    obtain ⟨_, p1, p2, p3, _⟩ := numQ_spec h1
    obtain ⟨q0, q1, q2, q3, _⟩ := numQ_spec h2
    obtain ⟨r0, r1, r2, r3, _⟩ := numQ_spec h3
    rw [lineB_assoc]
    simp only
    have j3 := cutS_join s2 (by rw [← r3]; exact hh.1)
    have j2 := cutS_join s1 (by rw [← q3]; exact r0)
    have j1 := cutS_join s (by rw [← p3]; exact q0)
    rw [r1, r2, ← j3, q1, q2, ← j2, p1, p2, ← j1]
  · cases h
/-- What is written can be read. -/
theorem parsedP_of {n : Int} {x : Rec} (h : formedB n x = true) (hn : n ≤ 5) : parsedP n (lineB x) = some x := by
  have hb := formedB_bounds h
  obtain ⟨st, num, hr, txt⟩ := x
  simp only at hb
  obtain ⟨a, rfl⟩ : ∃ a : Nat, st = (a : Int) := ⟨st.toNat, by omega⟩
  obtain ⟨b, rfl⟩ : ∃ a : Nat, num = (a : Int) := ⟨num.toNat, by omega⟩
  obtain ⟨c, rfl⟩ : ∃ a : Nat, hr = (a : Int) := ⟨hr.toNat, by omega⟩
  rw [lineB_assoc, parsedP_4 (numQ_of a (by omega) _) (numQ_of b (by omega) _) (numQ_of c (by omega) _), if_pos ⟨rfl, h⟩]
theorem meantR_line {n : Int} {x : Rec} (h : formedB n x = true) (hn : n ≤ 5) : meantR (lineB x) = x := by
  have hb := formedB_bounds h
  obtain ⟨st, num, hr, txt⟩ := x
  simp only at hb
  obtain ⟨a, rfl⟩ : ∃ a : Nat, st = (a : Int) := ⟨st.toNat, by omega⟩
  obtain ⟨b, rfl⟩ : ∃ a : Nat, num = (a : Int) := ⟨num.toNat, by omega⟩
  obtain ⟨c, rfl⟩ : ∃ a : Nat, hr = (a : Int) := ⟨hr.toNat, by omega⟩
  rw [lineB_assoc]
  unfold meantR
  simp only
  rw [cutS_of _ _ (itoa_no_blank a)]
  simp only
  rw [cutS_of _ _ (itoa_no_blank b)]
  simp only
  rw [cutS_of _ _ (itoa_no_blank c)]
  simp only
  rw [numR_itoa a (by omega), numR_itoa b (by omega), numR_itoa c (by omega)]
theorem checkE_of {n : Int} {x : Rec} (h1 : inB n 2 5 = true) (h2 : formedB n x = true) : checkE n x = 0 := by unfold checkE; rw [h1, h2]; rfl
theorem writeB_of {n : Int} {x : Rec} (h : checkE n x = 0) : writeB n x = lineB x := by unfold writeB; rw [if_pos h]
/-- The program and the reference read alike. -/
theorem read_same (n : Int) (s : ByteArray) : readPE n s = readRE n s ∧ readPX n s = readRX n s := by
  cases hn : inB n 2 5
  · have h1 : readRE n s = 1 := by unfold readRE; rw [if_pos hn]
    refine ⟨?_, ?_⟩
    · rw [h1]; unfold readPE; rw [if_pos hn]
    · unfold readPX readRX; rw [if_pos hn, h1]; rfl
  · have hnb := (inB_iff _ _ _).1 hn
    have e1 : readPE n s = match parsedP n s with | some _ => 0 | none => 4 := by unfold readPE; rw [if_neg (by rw [hn]; decide)]; try (cases parsedP n s <;> rfl)
    have e2 : readPX n s = match parsedP n s with | some x => x | none => zrec := by unfold readPX; rw [if_neg (by rw [hn]; decide)]; try (cases parsedP n s <;> rfl)
    have e3 : readRE n s = if checkE n (meantR s) = 0 ∧ writeB n (meantR s) = s then 0 else 4 := by unfold readRE; rw [if_neg (by rw [hn]; decide)]
    cases hp : parsedP n s with
    | some x =>
      rw [hp] at e1 e2
      obtain ⟨hf, hl⟩ := parsedP_line hp
      have hm : meantR s = x := by rw [← hl]; exact meantR_line hf (by omega)
      have hc := checkE_of hn hf
      rw [hm, if_pos ⟨hc, by rw [writeB_of hc, hl]⟩] at e3
      refine ⟨by rw [e1, e3], ?_⟩
      rw [e2]
      unfold readRX
      rw [e3, if_pos rfl, hm]
    | none =>
      rw [hp] at e1 e2
      have hno : ¬ (checkE n (meantR s) = 0 ∧ writeB n (meantR s) = s) := by
        rintro ⟨hc, hw⟩
        have hf := (checkE_bounds hc).2
        rw [writeB_of hc] at hw
        have := parsedP_of hf (by omega)
        rw [hw, hp] at this
        cases this
      rw [if_neg hno] at e3
      refine ⟨by rw [e1, e3], ?_⟩
      rw [e2]
      unfold readRX
      rw [e3, if_neg (by decide)]
theorem write_read {n : Int} {x : Rec} (h : checkE n x = 0) : readPE n (writeB n x) = 0 ∧ readPX n (writeB n x) = x := by
  have hb := checkE_bounds h
  have hn : inB n 2 5 = true := (inB_iff _ _ _).2 hb.1
  have hp := parsedP_of hb.2 hb.1.2
  rw [writeB_of h]
  unfold readPE readPX
  rw [if_neg (by rw [hn]; decide), if_neg (by rw [hn]; decide), hp]
  exact ⟨rfl, rfl⟩
theorem read_write {n : Int} {s : ByteArray} (h : readPE n s = 0) : checkE n (readPX n s) = 0 ∧ writeB n (readPX n s) = s := by
  unfold readPE at h
  split at h
  · cases h
  rename_i hn
  have hn2 : inB n 2 5 = true := by cases hi : inB n 2 5; exact absurd hi hn; rfl
  split at h
  · rename_i x hp
    have hx : readPX n s = x := by unfold readPX; rw [if_neg hn, hp]
    obtain ⟨hf, hl⟩ := parsedP_line hp
    have hc := checkE_of hn2 hf
    rw [hx]
    exact ⟨hc, by rw [writeB_of hc, hl]⟩
  · cases h
theorem ref_id {id : Int} (h : refE id = 0) : idB (refS id) (refN id) = id := by
  unfold refE at h
  split at h
  · rename_i hh
    have hb := (inB_iff _ _ _).1 hh
    unfold refS refN
    rw [if_pos hh, if_pos hh, idB_yes (by omega)]
    omega
  · cases h
theorem id_ref {s n : Int} (h : 0 < idB s n) : refE (idB s n) = 0 ∧ refS (idB s n) = s ∧ refN (idB s n) = n := by
  by_cases hc : s < 0 ∨ 4 < s ∨ n < 1 ∨ 400 < n
  · rw [idB_no hc] at h; omega
  · rw [idB_yes (by omega)] at h ⊢
    have hi : inB (5 * n + s) 5 2004 = true := by rw [inB_iff]; omega
    unfold refE refS refN
    rw [if_pos hi, if_pos hi, if_pos hi]
    omega
end Go.Proofs.YtgjahnomafpnfaaGreatDoor

/- A letter that is written is read: no program in sight. -/
namespace Go.Proofs.YtgjahnomafpnfaaGreatDoor
open Go.RowKit
theorem indexB_line (A R : ByteArray) (h : ∀ x ∈ A.data.toList, x ≠ 10) : Lib.indexB (A ++ nl ++ R) nl = (A.size : Int) := by
  have hl : (A ++ nl ++ R).data.toList = A.data.toList ++ 10 :: R.data.toList := by
    rw [ByteArray.data_append, ByteArray.data_append]
    simp [nl]
  show Lib.index (A ++ nl ++ R).data.toList [10] = _
  rw [hl]
  exact Lib.index_first (by rw [List.length_append]; show A.data.toList.length ≤ _; omega) ((occ_one _ _ _).2 (by rw [show A.size = A.data.toList.length from rfl, List.getElem?_append_right (Nat.le_refl _)]; simp)) (fun j hj => occ_none (by
    have hj' : j < A.data.toList.length := hj
    rw [List.getElem?_append_left hj', List.getElem?_eq_getElem hj']
    intro e
    exact h _ (List.getElem_mem hj') (Option.some.inj e)))
theorem extract_mid (A R : ByteArray) : (A ++ nl ++ R).extract 0 (A.size + 0) = A ∧ (A ++ nl ++ R).extract (A.size + nl.size) (A ++ nl ++ R).size = R := by
  have hl : (A ++ nl ++ R).data.toList = A.data.toList ++ 10 :: R.data.toList := by
    rw [ByteArray.data_append, ByteArray.data_append]
    simp [nl]
  constructor
  · apply ByteArray.ext
    apply Array.ext'
    rw [Nat.add_zero, Lib.extract_from_zero, hl]
    exact List.take_left' rfl
  · apply ByteArray.ext
    apply Array.ext'
    rw [Lib.extract_to_end, hl]
    have : A.size + nl.size = A.data.toList.length + 1 := rfl
    rw [this, show A.data.toList ++ 10 :: R.data.toList = (A.data.toList ++ [10]) ++ R.data.toList from by simp]
    exact List.drop_left' (by simp)
theorem linesP_cons (A R : ByteArray) (h : ∀ x ∈ A.data.toList, x ≠ 10) : linesP (A ++ nl ++ R) = A :: linesP R := by
  have hi := indexB_line A R h
  obtain ⟨e1, e2⟩ := extract_mid A R
  unfold linesP
  rw [Lib.countB_hit _ _ A.size (by decide) hi, Nat.add_comm 1, Lib.splitB_hit _ _ _ _ A.size hi, e1, e2]
theorem linesP_empty : linesP ⟨#[]⟩ = [⟨#[]⟩] := by kernel_rfl
def joinLines (xs : List ByteArray) : ByteArray := xs.foldr (fun a r => a ++ nl ++ r) ⟨#[]⟩
theorem linesP_join : ∀ (xs : List ByteArray), (∀ a ∈ xs, ∀ c ∈ a.data.toList, c ≠ 10) → linesP (joinLines xs) = xs ++ [⟨#[]⟩]
  | [], _ => linesP_empty
  | a :: xs, h => by
    show linesP (a ++ nl ++ joinLines xs) = _
    rw [linesP_cons a _ (h a List.mem_cons_self), linesP_join xs (fun b hb => h b (List.mem_cons_of_mem _ hb))]
    rfl
theorem foldl_lines : ∀ (xs : List Rec) (s : ByteArray), xs.foldl (fun s x => s ++ (lineB x ++ nl)) s = s ++ joinLines (xs.map lineB)
  | [], s => by show s = s ++ ByteArray.empty; rw [ByteArray.append_empty]
  | x :: xs, s => by
    rw [List.foldl_cons, foldl_lines xs, List.map_cons]
    show s ++ (lineB x ++ nl) ++ joinLines (xs.map lineB) = s ++ (lineB x ++ nl ++ joinLines (xs.map lineB))
    rw [ByteArray.append_assoc]
theorem letterB_join (xs : List Rec) : letterB xs = joinLines ((sPost ++ itoaB (xs.length : Int)) :: xs.map lineB) := by
  unfold letterB letterGo
  rw [foldl_lines]
  rfl
theorem itoa_no_nl (u : Nat) : ∀ x ∈ (itoaB (u : Int)).data.toList, x ≠ 10 := by
  rw [itoaB_nat]
  intro x hx
  have h1 : digB x = true := List.all_eq_true.1 (decDigits_all u) x hx
  have := (digB_iff x).1 h1
  rintro rfl
  simp at this
theorem app_no_nl {a b : ByteArray} (ha : ∀ c ∈ a.data.toList, c ≠ 10) (hb : ∀ c ∈ b.data.toList, c ≠ 10) : ∀ c ∈ (a ++ b).data.toList, c ≠ 10 := by
  intro c hc
  rw [ByteArray.data_append, Array.toList_append] at hc
  rcases List.mem_append.1 hc with q | q
  · exact ha c q
  · exact hb c q
theorem sp_no_nl : ∀ c ∈ sp.data.toList, c ≠ 10 := by decide
theorem lineB_no_nl {n : Int} {x : Rec} (h : formedB n x = true) (hn : n ≤ 5) : ∀ c ∈ (lineB x).data.toList, c ≠ 10 := by
  have hb := formedB_bounds h
  have hw : writtenB x.txt = true := by unfold formedB at h; simp only [Bool.and_eq_true] at h; exact h.2
  obtain ⟨st, num, hr, txt⟩ := x
  simp only at hb hw
  obtain ⟨a, rfl⟩ : ∃ a : Nat, st = (a : Int) := ⟨st.toNat, by omega⟩
  obtain ⟨b, rfl⟩ : ∃ a : Nat, num = (a : Int) := ⟨num.toNat, by omega⟩
  obtain ⟨c, rfl⟩ : ∃ a : Nat, hr = (a : Int) := ⟨hr.toNat, by omega⟩
  have ht : ∀ c ∈ txt.data.toList, c ≠ 10 := by
    unfold writtenB at hw
    simp only [Bool.and_eq_true, List.all_eq_true] at hw
    intro c hc e
    have := hw.2 c hc
    subst e
    exact absurd this (by decide)
  exact app_no_nl (app_no_nl (app_no_nl (app_no_nl (app_no_nl (app_no_nl (itoa_no_nl a) sp_no_nl) (itoa_no_nl b)) sp_no_nl) (itoa_no_nl c)) sp_no_nl) ht
theorem numQ_small : ∀ k : Nat, k < 11 → (numQ (itoaB (k : Int)) true).map (·.1) = some (k : Int) := by
  intro k hk
  rcases (by omega : k = 0 ∨ k = 1 ∨ k = 2 ∨ k = 3 ∨ k = 4 ∨ k = 5 ∨ k = 6 ∨ k = 7 ∨ k = 8 ∨ k = 9 ∨ k = 10) with rfl | rfl | rfl | rfl | rfl | rfl | rfl | rfl | rfl | rfl | rfl <;> kernel_rfl
theorem recsP_lines {n : Int} (hn : n ≤ 5) : ∀ (xs acc : List Rec), (∀ x ∈ xs, formedB n x = true) → Rising (acc ++ xs) → recsP n acc (xs.map lineB) = some (acc ++ xs)
  | [], acc, _, _ => by simp [recsP]
  | x :: xs, acc, h, hr => by
    rw [List.map_cons]
    unfold recsP
    rw [parsedP_of (h x List.mem_cons_self) hn]
    simp only
    have hc : acc = [] ∨ ∃ y, acc.getLast? = some y ∧ refLt y x = true := by
      rcases List.eq_nil_or_concat acc with rfl | ⟨t, y, rfl⟩
      · exact .inl rfl
      · right
        refine ⟨y, by simp, ?_⟩
        unfold Rising at hr
        rw [List.pairwise_append] at hr
        exact hr.2.2 y (by simp) x List.mem_cons_self
    rw [if_pos hc, recsP_lines hn xs (acc ++ [x]) (fun y hy => h y (List.mem_cons_of_mem _ hy)) (by simpa using hr)]
    simp
theorem cutS_none (A : ByteArray) (h : ∀ x ∈ A.data.toList, x ≠ 32) : (cutS A).1 = A := by
  unfold cutS
  have : Lib.index A.data.toList [32] = -1 := Lib.index_none (fun j _ => occ_none (fun e => h _ (List.mem_of_getElem? e) rfl))
  unfold Lib.cut
  rw [this]
  rfl
theorem sPost_cut (k : Nat) : cutS (sPost ++ itoaB (k : Int)) = (sPost0, itoaB (k : Int), true) := by
  have e : sPost = sPost0 ++ sp := by kernel_rfl
  rw [e]
  have h : ∀ x ∈ sPost0.data.toList, x ≠ 32 := by decide
  exact cutS_of sPost0 _ h
/-- The law of letters. -/
theorem parse_letter {n : Nat} (hn : n ≤ 5) {xs : List Rec} (h0 : xs ≠ []) (hl : xs.length ≤ 10) (hf : ∀ x ∈ xs, formedB n x = true) (hr : Rising xs) : parseP n (letterB xs) = some (.post xs) := by
  have hpos : 0 < xs.length := List.length_pos_iff.2 h0
  have hhd : ∀ c ∈ (sPost ++ itoaB (xs.length : Int)).data.toList, c ≠ 10 := app_no_nl (show ∀ c ∈ sPost.data.toList, c ≠ 10 by decide) (itoa_no_nl _)
  have hls : linesP (letterB xs) = (sPost ++ itoaB (xs.length : Int)) :: (xs.map lineB ++ [⟨#[]⟩]) := by
    rw [letterB_join, linesP_join _ (fun a ha => ?_)]
    · rfl
    · rcases List.mem_cons.1 ha with rfl | q
      · exact hhd
      · obtain ⟨x, hx, rfl⟩ := List.mem_map.1 q
        exact lineB_no_nl (hf x hx) (by omega)
  have hlen : (linesP (letterB xs)).length = xs.length + 2 := by rw [hls]; simp
  unfold parseP
  rw [hlen, if_neg]
  · rw [hls]
    show bodyP n (letterB xs) ((sPost ++ itoaB (xs.length : Int)) :: (xs.map lineB ++ [⟨#[]⟩])) (cutS (sPost ++ itoaB (xs.length : Int))) = _
    rw [sPost_cut]
    unfold bodyP
    rw [if_neg (show ¬ sPost0 = sHave by decide), if_pos rfl]
    unfold postP
    have hq := numQ_small xs.length (by omega)
    cases hq' : numQ (itoaB (xs.length : Int)) true with
    | none => rw [hq'] at hq; cases hq
    | some t =>
      obtain ⟨k, s', m'⟩ := t
      rw [hq'] at hq
      simp only [Option.map_some, Option.some.injEq] at hq
      subst hq
      simp only
      have hin : inB (xs.length : Int) 1 10 = true := (inB_iff _ _ _).2 (by omega)
      rw [if_pos ⟨hin, by simp; omega⟩]
      have e : (((sPost ++ itoaB (xs.length : Int)) :: (xs.map lineB ++ [⟨#[]⟩])).take (((sPost ++ itoaB (xs.length : Int)) :: (xs.map lineB ++ [⟨#[]⟩])).length - 1)).drop 1 = xs.map lineB := by
        rw [List.length_cons, List.length_append, List.length_singleton, Nat.add_sub_cancel, List.take_succ_cons, List.drop_succ_cons, List.drop_zero]
        exact List.take_left' rfl
      rw [e, recsP_lines (by omega) xs [] hf (by simpa using hr)]
      simp
  · rintro (q | q)
    · omega
    · rw [hls] at q
      apply q
      rw [show xs.length + 2 - 1 = (xs.map lineB).length + 1 from by simp, List.getD_cons_succ, List.getD_eq_getElem?_getD, List.getElem?_append_right (Nat.le_refl _), Nat.sub_self]
      rfl
end Go.Proofs.YtgjahnomafpnfaaGreatDoor

/- What a station finds on its disk: no program in sight. -/
namespace Go.Proofs.YtgjahnomafpnfaaGreatDoor
open Go.RowKit
/-- The rows with the records of an entry; none: one of them does not follow. -/
def replayGo : List (List Rec) → List Rec → Option (List (List Rec))
  | rows, [] => some rows
  | rows, x :: xs => if followsE (rows.getD x.st.toNat []) x = 0 then replayGo (addRow rows x) xs else none
/-- What replay makes of an entry's text behind its title. -/
def replayP (me n : Nat) (rows : List (List Rec)) (t : List UInt8) : Option (List (List Rec)) :=
  if Lib.hasPrefix t (titleB me n).data.toList = true then
    (match parseP n ⟨(Lib.trimPrefix t (titleB me n).data.toList).toArray⟩ with
    | some (.post xs) => replayGo rows xs
    | _ => none)
  else none
/-- What Open reads from a sector on: the rows, where the next entry begins; none: the disk is spoilt. -/
def openGo (me n : Nat) (now : List Sec) : Nat → List (List Rec) → Nat → Option (List (List Rec) × Nat)
  | 0, rows, a => some (rows, a)
  | k + 1, rows, a => if (entryP now a).2.2 = true then
      (match replayP me n rows (entryP now a).1 with
      | some rows' => openGo me n now k rows' (entryP now a).2.1
      | none => none)
    else some (rows, a)
def noRows : List (List Rec) := [[], [], [], [], []]
/-- The bytes of an entry. -/
def entB (me n : Nat) (xs : List Rec) : List UInt8 := (titleB me n ++ letterB xs).data.toList
/-- The entries of a book, from a sector on up to another one. -/
inductive Ents (me n : Nat) (now : List Sec) : List (List Rec) → Nat → Nat → List (List Rec) → Prop where
  | nil (rows : List (List Rec)) (a : Nat) : Ents me n now rows a a rows
  | cons {rows rows' rows2 : List (List Rec)} {a b : Nat} {xs : List Rec} (h0 : xs ≠ []) (h1 : xs.length ≤ 10) (hr : Rising xs) (hf : ∀ x ∈ xs, formedB n x = true) (hg : replayGo rows xs = some rows')
      (hl : laidAt now a (piecesL (entB me n xs))) (h : Ents me n now rows' (a + (piecesL (entB me n xs)).length) b rows2) : Ents me n now rows a b rows2
theorem hasPrefix_app (a b : List UInt8) : Lib.hasPrefix (a ++ b) a = true ∧ Lib.trimPrefix (a ++ b) a = b := by
  have h1 : Lib.hasPrefix (a ++ b) a = true := by
    unfold Lib.hasPrefix
    simp
  refine ⟨h1, ?_⟩
  unfold Lib.trimPrefix
  rw [h1]
  simp
theorem replay_entry {me n : Nat} (hn : n ≤ 5) {rows : List (List Rec)} {xs : List Rec} (h0 : xs ≠ []) (h1 : xs.length ≤ 10) (hr : Rising xs) (hf : ∀ x ∈ xs, formedB n x = true) : replayP me n rows (entB me n xs) = replayGo rows xs := by
  unfold replayP entB
  rw [ByteArray.data_append, Array.toList_append]
  obtain ⟨p1, p2⟩ := hasPrefix_app (titleB me n).data.toList (letterB xs).data.toList
  rw [if_pos p1, p2]
  have : (⟨(letterB xs).data.toList.toArray⟩ : ByteArray) = letterB xs := rfl
  rw [this, parse_letter hn h0 h1 hf hr]
theorem entB_pos (me n : Nat) (xs : List Rec) : 0 < (entB me n xs).length := by
  unfold entB titleB
  simp only [ByteArray.data_append, Array.toList_append, List.length_append]
  have : (sStation.data.toList).length = 8 := rfl
  omega
theorem piecesL_pos {l : List UInt8} (h : 0 < l.length) : 0 < (piecesL l).length := by
  unfold piecesL
  obtain ⟨k, hk⟩ : ∃ k, l.length = k + 1 := ⟨l.length - 1, by omega⟩
  rw [hk, piecesGo_cons k 1 l h]
  simp
theorem laidAt_le {now : List Sec} {a : Nat} {ps : List Sec} (h : laidAt now a ps) (hp : 0 < ps.length) : a + ps.length ≤ now.length := by
  have := h (ps.length - 1) _ (List.getElem?_eq_getElem (by omega))
  have := (List.getElem?_eq_some_iff.1 this).1
  omega
theorem Ents.le {me n : Nat} {now : List Sec} {rows rows2 : List (List Rec)} {a b : Nat} (h : Ents me n now rows a b rows2) : a ≤ b := by
  induction h with
  | nil => exact Nat.le_refl _
  | cons _ _ _ _ _ _ _ ih => omega
/-- A disk with these entries, and none behind them, is opened into these rows. -/
theorem open_ents {me n : Nat} (hn : n ≤ 5) {now : List Sec} {rows rows2 : List (List Rec)} {a b : Nat} (h : Ents me n now rows a b rows2) (hend : (entryP now b).2.2 = false) (hsz : ∀ xs : List Rec, xs.length ≤ 10 → (∀ x ∈ xs, formedB n x = true) → (entB me n xs).length < 16777216) :
    ∀ k, b ≤ a + k → openGo me n now k rows a = some (rows2, b) := by
  induction h with
  | nil rows a =>
    intro k hk
    cases k with
    | zero => rfl
    | succ k => unfold openGo; rw [if_neg (by rw [hend]; decide)]
  | @cons rows rows' rows2 a b xs h0 h1 hr hf hg hl h ih =>
    intro k hk
    have he := entry_read (entB_pos me n xs) (hsz xs h1 hf) hl
    have hp := piecesL_pos (entB_pos me n xs)
    have hle := h.le
    obtain ⟨k, rfl⟩ : ∃ j, k = j + 1 := ⟨k - 1, by omega⟩
    unfold openGo
    rw [he]
    simp only
    rw [if_pos trivial, replay_entry hn h0 h1 hr hf, hg]
    exact ih hend k (by omega)
theorem Ents.snoc {me n : Nat} {now : List Sec} {rows rows2 rows3 : List (List Rec)} {a b : Nat} (h : Ents me n now rows a b rows2) {xs : List Rec} (h0 : xs ≠ []) (h1 : xs.length ≤ 10) (hr : Rising xs) (hf : ∀ x ∈ xs, formedB n x = true) (hg : replayGo rows2 xs = some rows3)
    (hl : laidAt now b (piecesL (entB me n xs))) : Ents me n now rows a (b + (piecesL (entB me n xs)).length) rows3 := by
  induction h with
  | nil rows a => exact .cons h0 h1 hr hf hg hl (.nil _ _)
  | cons q0 q1 q2 q3 q4 q5 _ ih => exact .cons q0 q1 q2 q3 q4 q5 (ih hg hl)
theorem laidAt.same {now now' : List Sec} {a b : Nat} {ps : List Sec} (h : laidAt now a ps) (hb : a + ps.length ≤ b) (hs : ∀ i, i < b → now'[i]? = now[i]?) : laidAt now' a ps := fun i p hi => by
  have := (List.getElem?_eq_some_iff.1 hi).1
  rw [hs _ (by omega)]; exact h i p hi
theorem Ents.same {me n : Nat} {now now' : List Sec} {rows rows2 : List (List Rec)} {a b : Nat} (h : Ents me n now rows a b rows2) (hs : ∀ i, i < b → now'[i]? = now[i]?) : Ents me n now' rows a b rows2 := by
  induction h with
  | nil rows a => exact .nil _ _
  | cons q0 q1 q2 q3 q4 q5 q6 ih => exact .cons q0 q1 q2 q3 q4 (q5.same q6.le hs) (ih hs)
/-- Sectors written one behind the other. -/
def putAt : List Sec → Nat → List Sec → List Sec
  | now, _, [] => now
  | now, a, x :: xs => putAt (now.set a x) (a + 1) xs
theorem putAt_length : ∀ (xs : List Sec) (now : List Sec) (a : Nat), (putAt now a xs).length = now.length
  | [], _, _ => rfl
  | x :: xs, now, a => by unfold putAt; rw [putAt_length xs]; simp
theorem putAt_get : ∀ (xs : List Sec) (now : List Sec) (a i : Nat), a + xs.length ≤ now.length → (putAt now a xs)[i]? = if a ≤ i ∧ i < a + xs.length then xs[i - a]? else now[i]?
  | [], now, a, i, _ => by
    unfold putAt
    rw [if_neg (by simp)]
  | x :: xs, now, a, i, h => by
    unfold putAt
    rw [List.length_cons] at h
    rw [putAt_get xs (now.set a x) (a + 1) i (by simp; omega)]
    by_cases h1 : a + 1 ≤ i ∧ i < a + 1 + xs.length
    · rw [if_pos h1, if_pos (by rw [List.length_cons]; omega), show i - a = (i - (a + 1)) + 1 from by omega, List.getElem?_cons_succ]
    · rw [if_neg h1]
      by_cases h2 : i = a
      · subst h2
        rw [if_pos (by rw [List.length_cons]; omega), List.getElem?_set_self (by omega), Nat.sub_self]; rfl
      · rw [if_neg (by rw [List.length_cons]; omega), List.getElem?_set_ne (Ne.symm h2)]
theorem putAt_laid {xs : List Sec} {now : List Sec} {a : Nat} (h : a + xs.length ≤ now.length) : laidAt (putAt now a xs) a xs := fun i p hi => by
  have := (List.getElem?_eq_some_iff.1 hi).1
  rw [putAt_get xs now a _ h, if_pos (by omega), show a + i - a = i from by omega]; exact hi
/-- The writes of an entry. -/
def wrAt : Nat → List Sec → List (Nat × Sec)
  | _, [] => []
  | a, x :: xs => (a, x) :: wrAt (a + 1) xs
theorem saveGo_puts {n : Nat} : ∀ (xs : List Sec) (m : Dk) (a : Nat), m.down = false → m.stops = false → (∀ x ∈ xs, x.length = 64) → a + xs.length ≤ n → saveGo n xs m a = (a + xs.length, 0, { m with now := putAt m.now a xs, writes := m.writes ++ wrAt a xs })
  | [], m, a, _, _, _, _ => by simp [saveGo, putAt, wrAt]
  | x :: xs, m, a, hd, hs, hx, hl => by
    simp only [List.length_cons] at hl
    have hx0 := hx x List.mem_cons_self
    obtain ⟨now, kept, writes, stops, calls, down⟩ := m
    simp only at hd hs
    subst hd hs
    have hw : writeP ⟨now, kept, writes, false, calls, false⟩ n (a : Int) x = (0, ⟨now.set a x, kept, writes ++ [(a, x)], false, calls, false⟩) := by
      unfold writeP
      have h1 : inB (a : Int) 0 ((n : Int) - 1) = true := by rw [inB_iff]; omega
      rw [if_neg (show ¬ (false = true) by decide), h1, if_neg (by decide), if_neg (by omega), powerP_up rfl, if_neg (by simp), padS_full hx0]
      simp only [Int.toNat_natCast]
    unfold saveGo
    rw [hw]
    simp only
    rw [if_neg (by simp), saveGo_puts xs ⟨now.set a x, kept, writes ++ [(a, x)], false, calls, false⟩ (a + 1) rfl rfl (fun y hy => hx y (List.mem_cons_of_mem _ hy)) (by omega)]
    simp only [putAt, wrAt, List.append_assoc, List.singleton_append, List.length_cons]
    refine Prod.ext (by simp only; omega) rfl
theorem flushK_wr : ∀ (xs : List Sec) (kept : List Sec) (a : Nat), flushK kept (wrAt a xs) = putAt kept a xs
  | [], _, _ => rfl
  | x :: xs, kept, a => by
    unfold wrAt putAt
    rw [← flushK_wr xs (kept.set a x) (a + 1)]
    rfl
/-- A disk that is up, whose sectors are durable as they are read. -/
structure Sync (m : Dk) : Prop extends Fine m where
  kept : m.kept = m.now
theorem newDk_sync (n : Nat) : Sync (newDk n) := ⟨newDk_fine n, rfl⟩
/-- What save leaves on a disk that is up. -/
theorem saveP_sync {n : Nat} {m : Dk} {a : Nat} {s : List UInt8} (h : Sync m) (hf : a + (s.length + 58) / 59 ≤ n) : saveP n m a s = (a + (piecesL s).length, 0, { m with now := putAt m.now a (piecesL s), kept := putAt m.now a (piecesL s) }) := by
  have hc := piecesGo_count s.length 1 s
  have hg := saveGo_puts (n := n) (piecesL s) m a h.down h.stops (fun x hx => piecesGo_64 _ _ _ x hx) (by unfold piecesL; omega)
  unfold saveP
  rw [h.down, if_neg (by decide), if_neg (by omega), hg]
  simp only
  rw [if_neg (by simp)]
  unfold flushP
  simp only
  rw [h.down, if_neg (by decide), powerP_up (by exact h.stops), if_neg (by simp), h.writes, h.kept, List.nil_append, flushK_wr]
  try rfl
end Go.Proofs.YtgjahnomafpnfaaGreatDoor

/- A station's book and its disk through what it is told: no program in sight. -/
namespace Go.Proofs.YtgjahnomafpnfaaGreatDoor
open Go.RowKit
theorem replay_snoc : ∀ (xs : List Rec) (rows rows' : List (List Rec)) (x : Rec), replayGo rows xs = some rows' → followsE (rows'.getD x.st.toNat []) x = 0 → replayGo rows (xs ++ [x]) = some (addRow rows' x)
  | [], rows, rows', x, h, hx => by
    simp only [replayGo, Option.some.injEq] at h
    subst h
    simp only [List.nil_append, replayGo]
    rw [if_pos hx]
  | y :: xs, rows, rows', x, h, hx => by
    unfold replayGo at h
    simp only [List.cons_append]
    unfold replayGo
    split at h
    · rename_i hy
      rw [if_pos hy]
      exact replay_snoc xs _ rows' x h hx
    · cases h
theorem told_replay {me : Int} : ∀ (xs : List Rec) (rows : List (List Rec)) (acc added : List Rec), toldGo me rows acc xs = some added → ∃ new, added = acc ++ new ∧ new.Sublist xs ∧ replayGo rows new = some (addAll rows new)
  | [], rows, acc, added, h => by
    simp only [toldGo, Option.some.injEq] at h
    exact ⟨[], by simp [h], List.Sublist.refl _, rfl⟩
  | x :: xs, rows, acc, added, h => by
    unfold toldGo at h
    split at h
    · split at h
      · obtain ⟨new, e1, e2, e3⟩ := told_replay xs rows acc added h
        exact ⟨new, e1, e2.cons _, e3⟩
      · cases h
    · split at h
      · cases h
      · split at h
        · split at h
          · rename_i h4
            obtain ⟨new, e1, e2, e3⟩ := told_replay xs (addRow rows x) (acc ++ [x]) added h
            refine ⟨x :: new, by rw [e1]; simp, e2.cons_cons _, ?_⟩
            unfold replayGo
            rw [if_pos h4]
            exact e3
          · cases h
        · obtain ⟨new, e1, e2, e3⟩ := told_replay xs rows acc added h
          exact ⟨new, e1, e2.cons _, e3⟩
/-- How long an entry is at most. -/
theorem entB_size {me n : Nat} (hm : me ≤ 5) (hn : n ≤ 5) {xs : List Rec} (hl : xs.length ≤ 10) (hf : ∀ x ∈ xs, formedB n x = true) : (entB me n xs).length ≤ 79 + 267 * xs.length := by
  have h1 := itoaB_size (me : Int) (by omega) (by omega)
  have h2 := itoaB_size (n : Int) (by omega) (by omega)
  have h3 := itoaB_size (xs.length : Int) (by omega) (by omega)
  have ht : (titleB me n).size ≤ 52 := by
    unfold titleB
    simp only [ByteArray.size_append]
    have e1 : sStation.size = 8 := rfl
    have e2 : sp.size = 1 := rfl
    have e3 : nl.size = 1 := rfl
    omega
  have hj : ∀ ys : List Rec, (∀ x ∈ ys, formedB n x = true) → (joinLines (ys.map lineB)).size ≤ 267 * ys.length := by
    intro ys
    induction ys with
    | nil => intro _; exact Nat.le_refl _
    | cons y ys ih =>
      intro h
      have hy := formedB_bounds (h y List.mem_cons_self)
      have hyt : y.txt.size ≤ 200 := by
        have := h y List.mem_cons_self
        unfold formedB writtenB at this
        simp only [Bool.and_eq_true, inB_iff] at this
        omega
      have i1 := itoaB_size y.st (by omega) (by omega)
      have i2 := itoaB_size y.num (by omega) (by omega)
      have i3 := itoaB_size y.hr (by omega) (by omega)
      have := ih (fun x hx => h x (List.mem_cons_of_mem _ hx))
      show (lineB y ++ nl ++ joinLines (ys.map lineB)).size ≤ _
      rw [ByteArray.size_append, ByteArray.size_append, List.length_cons]
      have e3 : nl.size = 1 := rfl
      have e4 : (lineB y).size ≤ 266 := by
        unfold lineB
        simp only [ByteArray.size_append]
        have e2 : sp.size = 1 := rfl
        omega
      omega
  have hL : (letterB xs).size ≤ 27 + 267 * xs.length := by
    rw [letterB_join]
    show ((sPost ++ itoaB (xs.length : Int)) ++ nl ++ joinLines (xs.map lineB)).size ≤ _
    simp only [ByteArray.size_append]
    have := hj xs hf
    have e1 : sPost.size = 5 := rfl
    have e3 : nl.size = 1 := rfl
    omega
  unfold entB
  show (titleB me n ++ letterB xs).size ≤ _
  rw [ByteArray.size_append]
  omega
/-- A station that is up, with all it has on its disk. -/
structure OnDisk (me n z : Nat) (next : Nat) (rows : List (List Rec)) (m : Dk) : Prop where
  sync : Sync m
  len : m.now.length = z
  ents : Ents me n m.now noRows 0 next rows
  zero : ∀ i, next ≤ i → i < z → m.now[i]? = some zsec
  book : Book n rows
theorem Book.empty (n : Int) : Book n noRows := (BSt.start n).book
theorem OnDisk.new {me n z : Nat} : OnDisk me n z 0 noRows (newDk z) :=
  ⟨newDk_sync z, by simp [newDk], .nil _ _, fun i _ hi => by simp [newDk, hi], Book.empty n⟩
/-- What is kept. -/
theorem OnDisk.keep {me n z next : Nat} {rows : List (List Rec)} {m : Dk} (h : OnDisk me n z next rows m) (hm : me ≤ 5) (hn : n ≤ 5) {xs : List Rec} (h0 : xs ≠ []) (h1 : xs.length ≤ 10) (hr : Rising xs) (hf : ∀ x ∈ xs, formedB n x = true)
    (hg : replayGo rows xs = some (addAll rows xs)) (hb : Book n (addAll rows xs)) (hz : next + (137 + 267 * xs.length) / 59 ≤ z) :
    (saveP z m next (entB me n xs)).2.1 = 0 ∧ (saveP z m next (entB me n xs)).1 ≤ next + (137 + 267 * xs.length) / 59 ∧ OnDisk me n z (saveP z m next (entB me n xs)).1 (addAll rows xs) (saveP z m next (entB me n xs)).2.2 := by
  have hs := entB_size hm hn h1 hf
  have hfit : next + ((entB me n xs).length + 58) / 59 ≤ z := by omega
  have hc := piecesGo_count (entB me n xs).length 1 (entB me n xs)
  have hc' : (piecesL (entB me n xs)).length ≤ ((entB me n xs).length + 58) / 59 := hc
  rw [saveP_sync h.sync hfit]
  have hle : next + (piecesL (entB me n xs)).length ≤ m.now.length := by rw [h.len]; omega
  refine ⟨rfl, by simp only; omega, ⟨⟨h.sync.down, h.sync.stops, h.sync.writes⟩, rfl⟩, by simp only; rw [putAt_length, h.len], ?_, fun i hi hiz => ?_, hb⟩
  · refine (h.ents.same (fun i hi => ?_)).snoc h0 h1 hr hf hg (putAt_laid hle)
    rw [putAt_get _ _ _ _ hle, if_neg (by omega)]
  · simp only at hi ⊢
    rw [putAt_get _ _ _ _ hle, if_neg (by omega)]
    exact h.zero i (by omega) hiz
theorem row_le {n : Int} {s : Nat} {xs : List Rec} (h : RowOk n s xs) : xs.length ≤ 400 := by
  rcases Nat.eq_zero_or_pos xs.length with q | q
  · omega
  · have := h.at_ (xs.length - 1) _ (List.getElem?_eq_getElem (by omega))
    have hb := formedB_bounds this.2.2
    omega
theorem Book.rows_le {n : Int} {rows : List (List Rec)} (h : Book n rows) : ∀ r ∈ rows, r.length ≤ 400 := fun r hr => by
  obtain ⟨s, hs⟩ := List.getElem?_of_mem hr
  exact row_le (h.row s r hs)
theorem Book.recs {n : Int} {rows : List (List Rec)} (h : Book n rows) (hn : n ≤ 5) : ∀ r ∈ rows, ∀ x ∈ r, (0 ≤ x.st ∧ x.st < 5) ∧ x.fits := fun r hr x hx => by
  obtain ⟨s, hs⟩ := List.getElem?_of_mem hr
  obtain ⟨k, hk⟩ := List.getElem?_of_mem hx
  exact fits_of hn ((h.row s r hs).at_ k x hk).2.2
theorem Book.total {n : Int} {rows : List (List Rec)} (h : Book n rows) : rows.flatten.length ≤ 2000 := by
  obtain ⟨r0, r1, r2, r3, r4, rfl⟩ := len5 h.len
  have k := h.rows_le
  have a0 := k r0 (by simp)
  have a1 := k r1 (by simp)
  have a2 := k r2 (by simp)
  have a3 := k r3 (by simp)
  have a4 := k r4 (by simp)
  simp
  omega
/-- What Add keeps. -/
theorem add_keep {n me : Nat} (hme : me < n) (hn : n ≤ 5) {rows : List (List Rec)} (hb : Book n rows) {own : List Rec} (hown : rows[me]? = some own) {text : ByteArray} {hour : Int} (he : addE own text hour = 0) :
    formedB n ⟨me, own.length + 1, hour, text⟩ = true ∧ replayGo rows [⟨me, own.length + 1, hour, text⟩] = some (addAll rows [⟨me, own.length + 1, hour, text⟩]) ∧ Book n (addAll rows [⟨me, own.length + 1, hour, text⟩]) := by
  have hle := row_le (hb.row _ _ hown)
  unfold addE at he
  split at he
  · cases he
  · rename_i h1
    split at he
    · cases he
    · rename_i h2
      split at he
      · cases he
      · rename_i h3
        have hw : writtenB text = true := by
          cases h : writtenB text with
          | true => rfl
          | false => exact absurd (.inl h) h1
        have hh : inB hour 0 1000000 = true := by
          cases h : inB hour 0 1000000 with
          | true => rfl
          | false => exact absurd (.inr h) h1
        have hf : formedB n ⟨me, own.length + 1, hour, text⟩ = true := by
          unfold formedB
          simp only [Bool.and_eq_true]
          exact ⟨⟨⟨(inB_iff _ _ _).2 (by omega), (inB_iff _ _ _).2 (by omega)⟩, hh⟩, hw⟩
        have hfo : followsE (rows.getD (⟨me, own.length + 1, hour, text⟩ : Rec).st.toNat []) ⟨me, own.length + 1, hour, text⟩ = 0 := by
          simp only [Int.toNat_natCast]
          rw [getD_some hown]
          unfold followsE
          rw [if_neg (by simp), if_neg h2]
        refine ⟨hf, ?_, ?_⟩
        · unfold replayGo
          rw [if_pos hfo]
          rfl
        · exact hb.add (by omega) hf hfo
/-- What a letter keeps. -/
theorem told_keep {n me : Nat} (hn : n ≤ 5) {rows : List (List Rec)} (hb : Book n rows) {xs added : List Rec} (hf : ∀ x ∈ xs, formedB n x = true) (hr : Rising xs) (hl : xs.length ≤ 10) (ht : toldGo me rows [] xs = some added) :
    added.length ≤ 10 ∧ Rising added ∧ (∀ x ∈ added, formedB n x = true) ∧ replayGo rows added = some (addAll rows added) ∧ Book n (addAll rows added) := by
  obtain ⟨new, e1, e2, e3⟩ := told_replay xs rows [] added ht
  obtain ⟨new', g1, _, _, g4⟩ := told_book (by omega) xs rows [] added hb hf ht
  simp only [List.nil_append] at e1 g1
  subst e1
  subst g1
  exact ⟨by have := e2.length_le; omega, hr.sublist e2, fun x hx => hf x (e2.subset hx), e3, g4⟩
end Go.Proofs.YtgjahnomafpnfaaGreatDoor

/- The reference's PutLetter; message. -/
namespace Go.Proofs.YtgjahnomafpnfaaGreatDoor
open Go.RowKit
def putGo (n : Int) (m : Nat) (xs : List Rec) : ByteArray := xs.foldl (fun s x => s ++ writeB n x ++ nl) (rowB sPost0 [(m : Int)] ++ nl)
def putB (n : Int) (xs : List Rec) : ByteArray := putGo n xs.length xs
theorem writeB_size (n : Int) (x : Rec) : (writeB n x).size ≤ 266 := by
  unfold writeB
  split
  · rename_i h
    have hb := formedB_bounds (checkE_bounds h).2
    have hyt : x.txt.size ≤ 200 := by
      have := (checkE_bounds h).2
      unfold formedB writtenB at this
      simp only [Bool.and_eq_true, inB_iff] at this
      omega
    have hn := (checkE_bounds h).1
    have i1 := itoaB_size x.st (by omega) (by omega)
    have i2 := itoaB_size x.num (by omega) (by omega)
    have i3 := itoaB_size x.hr (by omega) (by omega)
    unfold lineB
    simp only [ByteArray.size_append]
    have e2 : sp.size = 1 := rfl
    omega
  · decide
theorem putGo_size (n : Int) (m : Nat) (hm : m ≤ 1000000) : ∀ xs : List Rec, (putGo n m xs).size ≤ 27 + 267 * xs.length := by
  have key : ∀ (xs : List Rec) (s : ByteArray), (xs.foldl (fun s x => s ++ writeB n x ++ nl) s).size ≤ s.size + 267 * xs.length := by
    intro xs
    induction xs with
    | nil => intro s; simp
    | cons x xs ih =>
      intro s
      rw [List.foldl_cons]
      have := ih (s ++ writeB n x ++ nl)
      have h1 := writeB_size n x
      have e2 : nl.size = 1 := rfl
      rw [ByteArray.size_append, ByteArray.size_append] at this
      rw [List.length_cons]
      omega
  intro xs
  have := key xs (rowB sPost0 [(m : Int)] ++ nl)
  have h1 := itoaB_size (m : Int) (by omega) (by omega)
  have e2 : nl.size = 1 := rfl
  have e3 : sp.size = 1 := rfl
  have e4 : sPost0.size = 4 := rfl
  have e5 : rowB sPost0 [(m : Int)] = sPost0 ++ sp ++ itoaB m := rfl
  rw [e5] at this
  simp only [ByteArray.size_append] at this
  unfold putGo
  rw [e5]
  omega
theorem putGo_snoc (n : Int) (m : Nat) (xs : List Rec) (k : Nat) (x : Rec) (hx : xs[k]? = some x) : putGo n m (xs.take (k + 1)) = putGo n m (xs.take k) ++ writeB n x ++ nl := by
  rw [List.take_add_one, hx]; simp [putGo]
theorem new_one (w : World) (c : Int) : SlI (w.alloc (.cells #[.int .i64 c] 3)) (.slice (some ⟨w.heap.size, 0, none⟩) 1 1) [c] :=
  .inr ⟨w.heap.size, 0, 1, rfl, by simp, by decide, by simp, fun j g hj => by
    have := rangeAt_new w #[.int .i64 c] 3 w.heap.size rfl j (.int .i64 g) (by cases j with
      | zero => simpa using hj
      | succ j => simp at hj)
    exact this⟩
set_option maxHeartbeats 800000 in
set_option maxRecDepth 100000 in
theorem PutLetterR_any (n : Int) (v : Value) (xs : List Rec) (w : World) (hv : SlE w v xs) (ht : ∀ x ∈ xs, x.txt.size ≤ 1000000) (hl : xs.length ≤ 10000) :
    Calls Tryz.prog 73 #[.int .i64 n, v] w fun e w' => e = .returned (.string (putB n xs)) ∧ Ext w w' := by
  obtain ⟨ao, cap, rfl, hc⟩ := hv
  have HC := Lib.hid hc
  have HT := Lib.hid ht
  have HE0 := Lib.hid (Ext.alloc w (.cells #[.int .i64 (xs.length : Int)] 3))
  have HR := Lib.hid (Row_any sPost0 _ [(xs.length : Int)] _ (new_one w (xs.length : Int)) (by intro g hg; rw [List.mem_singleton] at hg; omega) (by simp) (by decide))
  have hz0 := putGo_size n xs.length (by omega) []
  have hnl : nl.size = 1 := rfl
  have hz1 : (rowB sPost0 [(xs.length : Int)]).size + 1 ≤ 27 := by
    have : (putGo n xs.length []).size = (rowB sPost0 [(xs.length : Int)] ++ nl).size := rfl
    rw [this, ByteArray.size_append, hnl] at hz0
    simpa using hz0
  have hq1 : ¬ (9223372036854775807 < (rowB sPost0 [(xs.length : Int)]).size + 1) := by omega
  clear hc ht hz0
  go_enter Tryz.func73, Tryz.ntmps73
  go_wp2_with (go_at_call 113; refine HR.out.mono ?_; rintro e w1 ⟨rfl, hb⟩)
  go_loopw [5, 6] (fun s i wr => ∃ k : Nat, k ≤ xs.length ∧ i = .int .i64 k ∧ s = .string (putGo n xs.length (xs.take k)) ∧ Ext w wr) (fun _ i _ => xs.length - (intOf i).toNat)
  case atStart => exact ⟨0, by omega, rfl, rfl, HE0.out.trans hb⟩
  case round =>
    obtain ⟨k, hk, rfl, rfl, hE⟩ := hrel
    have HE := Lib.hid hE
    have hzs := putGo_size n xs.length (by omega) (xs.take k)
    have hlt0 : (xs.take k).length ≤ 10000 := by simp; omega
    by_cases hlt : k < xs.length
    · obtain ⟨x, hx⟩ : ∃ x, xs[k]? = some x := ⟨_, List.getElem?_eq_getElem hlt⟩
      obtain ⟨b, off, rfl, hbl, e0, e1, e2, e3⟩ := HC.out k x hx
      have d0 := hE.keep e0
      have d1 := hE.keep e1
      have d2 := hE.keep e2
      have d3 := hE.keep e3
      have hzi := writeB_size n x
      have hlt' : (k : Int) < xs.length := by omega
      have HW := Lib.hid (WriteRecordR_any n x wr (HT.out x (List.mem_of_getElem? hx)))
      have HS := Lib.hid (putGo_snoc n xs.length xs k x hx)
      clear hE e0 e1 e2 e3 hx
      have hs1 : ¬ (9223372036854775807 < (putGo n xs.length (xs.take k)).size + (writeB n x).size) := by omega
      have hs2 : ¬ (9223372036854775807 < (putGo n xs.length (xs.take k)).size + (writeB n x).size + 1) := by omega
      clear hlt0 hzs hzi
      go_wp2_with (go_at_call 56; refine HW.out.mono ?_; rintro e w2 ⟨rfl, hb2⟩)
      go_roundw
      case rel => exact ⟨k + 1, by omega, by go_num, by rw [HS.out]; rfl, HE.out.trans hb2⟩
      case measure => simp [intOf]; omega
    · obtain rfl : k = xs.length := by omega
      have hlt' : ¬ ((xs.length : Int) < xs.length) := by omega
      clear hE hzs hlt0
      go_wp2
      go_ret
      exact ⟨ret_val rfl, HE.out⟩
/-- What is heard by an operation. -/
def msgB (n : Nat) (o : OpR) : ByteArray :=
  if o.kind % 8 = 2 then putB n o.letter else if o.kind % 8 = 3 then greetB ([o.s0, o.s1, o.s2, o.s3, o.s4].take n) else o.txt
theorem greetGo_next (n : Nat) (gs : List Int) (k : Nat) (g : Int) (hg : gs[k]? = some g) : greetGo (gs.take (k + 1)) = greetGo (gs.take k) ++ (sp ++ itoaB g) := greetGo_snoc gs k g hg
set_option maxHeartbeats 1600000 in
set_option maxRecDepth 100000 in
theorem message_any {B : Nat} {w : World} (hL : Laid B w) (n : Nat) (hn : n ≤ 5) (o : OpR) (ho : OpOk w o) (hf : fewB o.letter 12 = true) :
    Calls Tryz.prog 21 #[.int .i64 n, opv o] w fun e w' => e = .returned (.string (msgB n o)) ∧ Ext w w' := by
  have HE0 := Lib.hid (Ext.alloc w (.cells #[.int .u8 o.kind, .string o.txt, .int .i64 o.hr, .int .i64 o.num, .slice o.la o.letter.length o.lc, .int .i64 o.s0, .int .i64 o.s1, .int .i64 o.s2, .int .i64 o.s3, .int .i64 o.s4, .slice o.ka o.keep.length o.kc] 29))
  have HB := Lib.hid (BoxO.new w o)
  have hk := ho.kind
  have hff := (fewB_iff _ _).1 hf
  have HP := Lib.hid (PutLetterR_any n o.lv o.letter _ (ho.letter.ext HE0.out) (fun x hx => Nat.le_trans (hff.2 x hx) (by omega)) (by omega))
  have HL := Lib.hid hL
  have HST := Lib.hid ho.st
  unfold msgB
  clear hL ho hf hff
  have hkm : o.kind % 8 < 8 := Nat.mod_lt _ (by omega)
  by_cases h2 : o.kind % 8 = 2
  · rw [if_pos h2]
    have hb2 : (((o.kind : Nat) : Int) % 8 == 2) = true := by rw [beq_iff_eq]; omega
    clear h2 hkm
    go_enter Tryz.func21, Tryz.ntmps21
    go_wp2_with fail
    refine HP.out.mono ?_
    rintro e w1 ⟨rfl, hE1⟩
    have HE1 := Lib.hid (HE0.out.trans hE1)
    clear hE1
    go_wp2_with fail
    go_ret
    exact ⟨rfl, HE1.out⟩
  · rw [if_neg h2]
    have hb2 : (((o.kind : Nat) : Int) % 8 == 2) = false := by rw [beq_eq_false_iff_ne]; omega
    by_cases h3 : o.kind % 8 = 3
    · rw [if_pos h3]
      have hb3 : (((o.kind : Nat) : Int) % 8 == 3) = true := by rw [beq_iff_eq]; omega
      have hmn : (max (0 : Int) (min (n : Int) 5)) = (n : Int) := by omega
      have hmn2 : (min (n : Int) 5) = (n : Int) := by omega
      have hmn3 : (max (0 : Int) (n : Int)) = (n : Int) := by omega
      obtain ⟨gs, hgs⟩ : ∃ gs, gs = [o.s0, o.s1, o.s2, o.s3, o.s4] := ⟨_, rfl⟩
      rw [← hgs]
      have hgl : gs.length = 5 := by rw [hgs]; rfl
      have hgr : ∀ g ∈ gs, i64B g := by
        intro g hg
        rw [hgs] at hg
        simp only [List.mem_cons, List.not_mem_nil, or_false] at hg
        have := HST.out
        rcases hg with rfl | rfl | rfl | rfl | rfl
        · exact this.1
        · exact this.2.1
        · exact this.2.2.1
        · exact this.2.2.2.1
        · exact this.2.2.2.2
      have hgc : ∀ (k : Nat) g, gs[k]? = some g → ∃ W, W = (w.alloc (.cells #[.int .u8 o.kind, .string o.txt, .int .i64 o.hr, .int .i64 o.num, .slice o.la o.letter.length o.lc, .int .i64 o.s0, .int .i64 o.s1, .int .i64 o.s2, .int .i64 o.s3, .int .i64 o.s4, .slice o.ka o.keep.length o.kc] 29)) ∧ W.cell? ⟨w.heap.size, 5 + k, none⟩ = some (.int .i64 g) := by
        intro k g hg
        refine ⟨_, rfl, HB.out.c (5 + k) _ ?_⟩
        rw [hgs] at hg
        rcases (by have := (List.getElem?_eq_some_iff.1 hg).1; simp at this; omega : k = 0 ∨ k = 1 ∨ k = 2 ∨ k = 3 ∨ k = 4) with rfl | rfl | rfl | rfl | rfl <;> (simp at hg; subst hg; rfl)
      have HG := Lib.hid (And.intro hgl (And.intro hgr hgc))
      clear h2 h3 hkm hgs hgl hgr hgc HST
      go_enter Tryz.func21, Tryz.ntmps21
      go_wp2_with fail
      generalize w.alloc (.cells #[.int .u8 o.kind, .string o.txt, .int .i64 o.hr, .int .i64 o.num, .slice o.la o.letter.length o.lc, .int .i64 o.s0, .int .i64 o.s1, .int .i64 o.s2, .int .i64 o.s3, .int .i64 o.s4, .slice o.ka o.keep.length o.kc] 29) = W at HE0 HG HP ⊢
      go_loopw [5, 21] (fun s i wr => ∃ k : Nat, k ≤ n ∧ i = .int .i64 k ∧ s = .string (greetGo (gs.take k)) ∧ Ext W wr) (fun _ i _ => n - (intOf i).toNat)
      case atStart => exact ⟨0, by omega, rfl, rfl, Ext.refl _⟩
      case round =>
        obtain ⟨k, hk, rfl, rfl, hE⟩ := hrel
        have hzs := greetGo_size (gs.take k) (fun g hg => HG.out.2.1 g (List.mem_of_mem_take hg))
        have hzl : (gs.take k).length ≤ 5 := by rw [List.length_take, HG.out.1]; omega
        have HE := Lib.hid hE
        by_cases hlt : k < n
        · have hltz : (k : Int) < n := by omega
          obtain ⟨g, hg⟩ : ∃ g, gs[k]? = some g := ⟨_, List.getElem?_eq_getElem (by rw [HG.out.1]; omega)⟩
          obtain ⟨W', hW', hc⟩ := HG.out.2.2 k g hg
          subst hW'
          have hc2 := hE.keep hc
          have hgb := HG.out.2.1 g (List.mem_of_getElem? hg)
          have HI := Lib.hid (Itoa_any (HL.out.ext (HE0.out.trans hE)) g hgb.1 hgb.2)
          have hzi := itoaB_size g hgb.1 hgb.2
          have HS := Lib.hid (greetGo_next n gs k g hg)
          have hs1 : ¬ (9223372036854775807 < 1 + (itoaB g).size) := by omega
          have hs2 : ¬ (9223372036854775807 < (greetGo (gs.take k)).size + (1 + (itoaB g).size)) := by omega
          have hk5 : (k : Int) < 5 := by omega
          clear hE hc hg hgb hzs hzl hzi
          go_wp2_with (go_at_call 74; refine HI.out.mono ?_; rintro e w2 ⟨rfl, hb2⟩)
          go_roundw
          case rel => exact ⟨k + 1, by omega, by go_num, by rw [HS.out]; rfl, HE.out.trans hb2⟩
          case measure => simp [intOf]; omega
        · have hltz : ¬ ((k : Int) < n) := by omega
          obtain rfl : k = n := by omega
          have hs1 : ¬ (9223372036854775807 < (greetGo (gs.take k)).size + 1) := by omega
          clear hE hzs hzl
          go_wp2_with fail
          go_ret
          exact ⟨rfl, HE0.out.trans HE.out⟩
    · rw [if_neg h3]
      have hb3 : (((o.kind : Nat) : Int) % 8 == 3) = false := by rw [beq_eq_false_iff_ne]; omega
      clear h2 h3 hkm
      go_enter Tryz.func21, Tryz.ntmps21
      go_wp2_with fail
      go_ret
      exact ⟨rfl, HE0.out⟩
end Go.Proofs.YtgjahnomafpnfaaGreatDoor

/- A station that is told something: what it keeps. -/
namespace Go.Proofs.YtgjahnomafpnfaaGreatDoor
open Go.RowKit
/-- A station and its disk behind an operation; what lay below bot is as it was. -/
def KeptSt (base bot S D N K z me n : Nat) (w : World) (most : Nat) (w' : World) : Prop :=
  Below bot w w' ∧ ∃ wv rs vs next rows m, Stn w' base S D N K z wv rs vs me n next rows m ∧ (∀ j, stnS S D N K wv rs j → bot ≤ j) ∧ OnDisk me n z next rows m ∧ next ≤ most
section
variable {w w' : World} {base bot S D N K z me n next most : Nat} {wv : Value} {rs : List (Option Nat)} {vs : List Value} {rows : List (List Rec)} {m : Dk}
theorem kept_ext (h : Stn w base S D N K z wv rs vs me n next rows m) (hbw : bot ≤ w.heap.size) (hbt : ∀ j, stnS S D N K wv rs j → bot ≤ j) (hd : OnDisk me n z next rows m) (hE : Ext w w') (hm : next ≤ most) : KeptSt base bot S D N K z me n w most w' :=
  ⟨hE.mono hbw, wv, rs, vs, next, rows, m, h.ext hE, hbt, hd, hm⟩
theorem kept_step {next' : Nat} {rows' : List (List Rec)} {m' : Dk} (hbw : bot ≤ w.heap.size) (hbt : ∀ j, stnS S D N K wv rs j → bot ≤ j) (hk : KeepStep w w' base S D N K z wv rs me n next' rows' m') (hd : OnDisk me n z next' rows' m') (hm : next' ≤ most) : KeptSt base bot S D N K z me n w most w' := by
  obtain ⟨⟨wv', rs', vs', hs, hn⟩, hf⟩ := hk
  exact ⟨hf.below hbw hbt, wv', rs', vs', next', rows', m', hs, fun j hj => (hn j hj).elim (hbt j) (fun q => Nat.le_trans hbw q), hd, hm⟩
end
theorem letter1_size (x : Rec) (h1 : i64B x.st) (h2 : i64B x.num) (h3 : i64B x.hr) : (letterB [x]).size ≤ 100 + x.txt.size := by
  rw [letterB_join]
  have i0 := itoaB_size (1 : Int) (by omega) (by omega)
  have i1 := itoaB_size x.st h1.1 h1.2
  have i2 := itoaB_size x.num h2.1 h2.2
  have i3 := itoaB_size x.hr h3.1 h3.2
  show ((sPost ++ itoaB (([x] : List Rec).length : Int)) ++ nl ++ (lineB x ++ nl ++ ⟨#[]⟩)).size ≤ _
  unfold lineB
  simp only [ByteArray.size_append, List.length_singleton]
  have e0 : sPost.size = 5 := rfl
  have e1 : nl.size = 1 := rfl
  have e2 : sp.size = 1 := rfl
  have e3 : (⟨#[]⟩ : ByteArray).size = 0 := rfl
  have e4 : ((1 : Nat) : Int) = 1 := rfl
  rw [e4]
  omega
theorem titleB_size (me n : Nat) (h1 : me ≤ 5) (h2 : n ≤ 5) : (titleB me n).size ≤ 52 := by
  have i1 := itoaB_size (me : Int) (by omega) (by omega)
  have i2 := itoaB_size (n : Int) (by omega) (by omega)
  unfold titleB
  simp only [ByteArray.size_append]
  have e1 : sStation.size = 8 := rfl
  have e2 : sp.size = 1 := rfl
  have e3 : nl.size = 1 := rfl
  omega
theorem addAll_one (rows : List (List Rec)) (x : Rec) : addAll rows [x] = addRow rows x := rfl
theorem Add_kept {B : Nat} {w : World} {base bot S D N K z me n next : Nat} {wv : Value} {rs : List (Option Nat)} {vs : List Value} {rows : List (List Rec)} {m : Dk} (hL : Laid B w) (hB : B ≤ base) (h : Stn w base S D N K z wv rs vs me n next rows m) (hbw : bot ≤ w.heap.size) (hbt : ∀ j, stnS S D N K wv rs j → bot ≤ j) (hd : OnDisk me n z next rows m)
    (hme : me < n) (hn : n ≤ 5) (text : ByteArray) (hour : Int) (ht : text.size ≤ 1000) (hh : i64B hour) (hz : next + 47 ≤ z) (hzm : z ≤ 100000) :
    Calls Tryz.prog 40 #[.pointer (some ⟨S, 0, none⟩), .string text, .int .i64 hour] w fun e w' => (∃ a b, e = .returned (.tuple #[.int .i64 a, .int .i64 b])) ∧ KeptSt base bot S D N K z me n w (next + 47) w' := by
  have hlen := hd.book.len
  obtain ⟨own, hown⟩ : ∃ own, rows[me]? = some own := ⟨_, List.getElem?_eq_getElem (by omega)⟩
  have hol := hd.book.rows_le own (List.mem_of_getElem? hown)
  have hts := titleB_size me n (by omega) hn
  have hls := letter1_size ⟨me, own.length + 1, hour, text⟩ (by show i64B (me : Int); unfold i64B; omega) (by show i64B ((own.length : Int) + 1); unfold i64B; omega) hh
  have hsz : (titleB me n ++ letterB [⟨me, own.length + 1, hour, text⟩]).size ≤ 2000 := by
    rw [ByteArray.size_append]
    have : (⟨me, own.length + 1, hour, text⟩ : Rec).txt.size = text.size := rfl
    omega
  refine (Add_any hL h hB own hown text hour (by omega) (by omega) (by omega) (by omega) (by omega) (by
    have := piecesL_len (titleB me n ++ letterB [⟨me, own.length + 1, hour, text⟩])
    rw [hd.sync.writes]
    show 0 + _ ≤ _
    omega) (fun r hr => by have := hd.book.rows_le r hr; omega)).mono ?_
  intro e w' hp
  unfold AddPost at hp
  by_cases he : addE own text hour = 0
  · rw [if_pos he] at hp
    obtain ⟨hf, hg, hb⟩ := add_keep hme hn hd.book hown he
    have hk := hd.keep (by omega) hn (xs := [⟨me, own.length + 1, hour, text⟩]) (by simp) (by simp) (List.pairwise_singleton _ _) (fun x hx => by rw [List.mem_singleton] at hx; rw [hx]; exact hf) hg hb (by simp; omega)
    unfold entB at hk
    rw [if_pos hk.1] at hp
    obtain ⟨rfl, hks⟩ := hp
    exact ⟨⟨_, _, rfl⟩, kept_step hbw hbt hks hk.2.2 (Nat.le_trans hk.2.1 (by simp only [List.length_singleton]; omega))⟩
  · rw [if_neg he] at hp
    obtain ⟨rfl, hE⟩ := hp
    exact ⟨⟨_, _, rfl⟩, kept_ext h hbw hbt hd hE (by omega)⟩
theorem parse_told_sz {me n : Nat} (hme : me ≤ 5) (hn : n ≤ 5) {rows : List (List Rec)} {m : Dk} (hw : m.writes = []) (hb : Book n rows) {b : ByteArray} : ∀ xs added, parseP n b = some (.post xs) → toldGo me rows [] xs = some added → (titleB me n ++ letterB added).size ≤ 1000000 ∧ m.writes.length + (piecesL (titleB me n ++ letterB added).data.toList).length ≤ 1000000 := by
  intro xs added hp ht
  obtain ⟨hf, hl, _⟩ := parseP_post hp
  obtain ⟨h1, _, h3, _, _⟩ := told_keep hn hb hf (parseP_rising hp) hl ht
  have hs := entB_size hme hn h1 h3
  unfold entB at hs
  have e : ((titleB me n ++ letterB added).data.toList).length = (titleB me n ++ letterB added).size := rfl
  have := piecesL_len (titleB me n ++ letterB added)
  rw [hw]
  refine ⟨by omega, ?_⟩
  show 0 + _ ≤ _
  omega
theorem Hear_kept {B : Nat} {w : World} {base bot S D N K z me n next : Nat} {wv : Value} {rs : List (Option Nat)} {vs : List Value} {rows : List (List Rec)} {m : Dk} (hL : Laid B w) (hB : B ≤ base) (h : Stn w base S D N K z wv rs vs me n next rows m) (hbw : bot ≤ w.heap.size) (hbt : ∀ j, stnS S D N K wv rs j → bot ≤ j) (hd : OnDisk me n z next rows m)
    (hme : me < n) (hn : n ≤ 5) (b : ByteArray) (hb : b.size < 4294967281) (hz : next + 47 ≤ z) (hzm : z ≤ 100000) :
    Calls Tryz.prog 22 #[.pointer (some ⟨S, 0, none⟩), .string b] w fun e w' => (∃ s er, e = .returned (.tuple #[.string s, .int .i64 er])) ∧ KeptSt base bot S D N K z me n w (next + 47) w' := by
  refine (Hear_any hL h hB b hb (by omega) hn (by omega) (fun r hr => by have := hd.book.rows_le r hr; omega) (hd.book.recs (by omega)) (parse_told_sz (by omega) hn hd.sync.writes hd.book)).mono ?_
  intro e w' hp
  unfold HearPost at hp
  cases hq : parseP n b with
  | none =>
    rw [hq] at hp
    obtain ⟨rfl, hE⟩ := hp
    exact ⟨⟨_, _, rfl⟩, kept_ext h hbw hbt hd hE (by omega)⟩
  | some msg =>
    rw [hq] at hp
    cases msg with
    | greet gs =>
      obtain ⟨rfl, hE⟩ := hp
      exact ⟨⟨_, _, rfl⟩, kept_ext h hbw hbt hd hE (by omega)⟩
    | post xs =>
      simp only at hp
      unfold ToldPost at hp
      obtain ⟨hf, hl, _⟩ := parseP_post hq
      cases ht : toldGo me rows [] xs with
      | none =>
        rw [ht] at hp
        obtain ⟨rfl, hE⟩ := hp
        exact ⟨⟨_, _, rfl⟩, kept_ext h hbw hbt hd hE (by omega)⟩
      | some added =>
        rw [ht] at hp
        simp only at hp
        by_cases ha : added = []
        · rw [if_pos ha] at hp
          obtain ⟨rfl, hE⟩ := hp
          exact ⟨⟨_, _, rfl⟩, kept_ext h hbw hbt hd hE (by omega)⟩
        · rw [if_neg ha] at hp
          obtain ⟨h1, h2, h3, h4, h5⟩ := told_keep hn hd.book hf (parseP_rising hq) hl ht
          have hk := hd.keep (by omega) hn ha h1 h2 h3 h4 h5 (by omega)
          unfold entB at hk
          rw [if_pos hk.1] at hp
          obtain ⟨rfl, hks⟩ := hp
          exact ⟨⟨_, _, rfl⟩, kept_step hbw hbt hks hk.2.2 (by have := hk.2.1; omega)⟩
end Go.Proofs.YtgjahnomafpnfaaGreatDoor

/- run: a station on a new disk and a script. -/
namespace Go.Proofs.YtgjahnomafpnfaaGreatDoor
open Go.RowKit
theorem KeptSt.more {base bot S D N K z me n a b : Nat} {w w' : World} (h : KeptSt base bot S D N K z me n w a w') (hab : a ≤ b) : KeptSt base bot S D N K z me n w b w' := by
  obtain ⟨h1, wv, rs, vs, next, rows, m, h2, h5, h3, h4⟩ := h
  exact ⟨h1, wv, rs, vs, next, rows, m, h2, h5, h3, by omega⟩
theorem KeptSt.after {base bot S D N K z me n a b : Nat} {w w1 w' : World} (h0 : Below bot w w1) (h : KeptSt base bot S D N K z me n w1 b w') (hab : b ≤ a) : KeptSt base bot S D N K z me n w a w' := by
  obtain ⟨h1, wv, rs, vs, next, rows, m, h2, h5, h3, h4⟩ := h
  exact ⟨h0.trans h1, wv, rs, vs, next, rows, m, h2, h5, h3, by omega⟩
theorem msgB_size {n : Nat} {o : OpR} (ho : okO o = true) (hr : i64B o.s0 ∧ i64B o.s1 ∧ i64B o.s2 ∧ i64B o.s3 ∧ i64B o.s4) : (msgB n o).size < 4000 := by
  unfold okO at ho
  simp only [Bool.and_eq_true, decide_eq_true_eq, fewB_iff] at ho
  unfold msgB
  split
  · have := putGo_size n o.letter.length (by omega) o.letter
    unfold putB
    omega
  · split
    · unfold greetB
      have := greetGo_size ([o.s0, o.s1, o.s2, o.s3, o.s4].take n) (fun g hg => by
        have h := List.mem_of_mem_take hg
        simp only [List.mem_cons, List.not_mem_nil, or_false] at h
        rcases h with rfl | rfl | rfl | rfl | rfl
        · exact hr.1
        · exact hr.2.1
        · exact hr.2.2.1
        · exact hr.2.2.2.1
        · exact hr.2.2.2.2)
      have h2 : ([o.s0, o.s1, o.s2, o.s3, o.s4].take n).length ≤ 5 := by rw [List.length_take]; simp; omega
      rw [ByteArray.size_append]
      have e3 : nl.size = 1 := rfl
      omega
    · omega
set_option maxHeartbeats 1600000 in
set_option maxRecDepth 100000 in
/-- One operation of run. -/
theorem run_yes {B : Nat} {w : World} (hL : Laid B w) (base : Nat) (hBb : B ≤ base) (hbw : base ≤ w.heap.size) (me n : Nat) (hme : me < n) (hn2 : 2 ≤ n) (hn : n ≤ 5) (v : Value) (ops : List OpR) (hv : SlO w v ops) (hbr : briefB ops = true) :
    Calls Tryz.prog 19 #[.int .i64 me, .int .i64 n, v] w fun e w' => ∃ S D N K, e = .returned (.tuple #[.pointer (some ⟨D, 0, none⟩), .pointer (some ⟨S, 0, none⟩)]) ∧ KeptSt base w.heap.size S D N K 8000 me n w 1880 w' := by
  obtain ⟨ao, cap, rfl, hml, hc⟩ := hv
  have hbr2 := (briefB_iff _).1 hbr
  have hl40 := hbr2.2
  have hok : ∀ o ∈ ops, okO o = true := fun o ho => by
    have := hbr2.1 o ho
    simp [okO, this]
  have HC := Lib.hid (And.intro hc hok)
  have HL := Lib.hid hL
  have HBr := Lib.hid hbr2.1
  clear hc hbr hbr2 hok hL hml
  have g1 : ¬ ((n : Int) < 2) := by omega
  have g2 : ¬ ((5 : Int) < (n : Int)) := by omega
  have g3 : ¬ ((me : Int) < 0) := by omega
  have g4 : ¬ ((n : Int) ≤ (me : Int)) := by omega
  go_enter Tryz.func19, Tryz.ntmps19
  go_wp2_with fail
  refine (NewDisk_any 8000 w (by decide) (by decide)).mono ?_
  rintro e w1 ⟨D, N, K, rfl, hX, hb1⟩
  have HX := Lib.hid hX
  have HB1 : RowKit.Hid (Ext w w1) := Lib.hid hb1
  clear hX hb1
  go_wp2_with fail
  refine (Open_new (HX.out.mono hbw) me n ((inB_iff _ _ _).2 (by omega)) ((inB_iff _ _ _).2 (by omega))).mono ?_
  rintro e w2 ⟨S, wv, rfl, hS, hst, hF, hn1⟩
  have HK : RowKit.Hid (KeptSt base w.heap.size S D N K 8000 me n w (47 * 0) w2) := Lib.hid (by
    have hX := HX.out
    have hge := hX.S_ge
    have h1 := HB1.out.size
    refine ⟨Below.trans HB1.out (hF.below HB1.out.size (fun j hj => (hX.S_ge j hj).1)), wv, _, _, 0, noRows, newDk 8000, hst, ?_, OnDisk.new, by omega⟩
    rintro j (rfl | hj | hj | hj | hj | hj)
    · omega
    · simp at hj
    · rw [hj]; exact hX.ge.1
    · rw [hj]; exact hX.ge.2.1
    · rw [hj]; exact hX.ge.2.2
    · rcases hn1 j hj with q | q
      · omega
      · simp [Value.ownBlock] at q)
  clear hst hF hn1 hS HX HB1
  go_wp2_with fail
  go_loopw [52] (fun i wr => ∃ k : Nat, k ≤ ops.length ∧ i = .int .i64 k ∧ KeptSt base w.heap.size S D N K 8000 me n w (47 * k) wr) (fun i _ => ops.length - (intOf i).toNat)
  case atStart => exact ⟨0, by omega, rfl, HK.out⟩
  case round =>
    obtain ⟨k, hk, rfl, hK⟩ := hrel
    have HK2 := Lib.hid hK
    clear hK
    by_cases hlt : k < ops.length
    · have hltz : (k : Int) < ops.length := by omega
      obtain ⟨o, ho⟩ : ∃ o, ops[k]? = some o := ⟨_, List.getElem?_eq_getElem hlt⟩
      obtain ⟨hokk, b, off, rfl, hb, hcell⟩ := HC.out.1 k o ho
      have hE : Ext w wr := HK2.out.1
      have c := fun (j : Nat) u h => hE.keep (hcell j u h)
      have x0 := c 0 _ rfl
      have x1 := c 1 _ rfl
      have x2 := c 2 _ rfl
      have x3 := c 3 _ rfl
      have x4 := c 4 _ rfl
      have x5 := c 5 _ rfl
      have x6 := c 6 _ rfl
      have x7 := c 7 _ rfl
      have x8 := c 8 _ rfl
      have x9 := c 9 _ rfl
      have x10 := c 10 _ rfl
      simp only [Nat.add_zero] at x0
      have HO := Lib.hid (And.intro (HC.out.2 o (List.mem_of_getElem? ho)) (And.intro (hokk.ext hE) (And.intro (HL.out.ext hE) (HBr.out o (List.mem_of_getElem? ho)))))
      have hk8 : o.kind % 8 < 8 := Nat.mod_lt _ (by omega)
      have HEa := Lib.hid (Ext.alloc wr (.cells #[.int .u8 o.kind, .string o.txt, .int .i64 o.hr, .int .i64 o.num, .slice o.la o.letter.length o.lc, .int .i64 o.s0, .int .i64 o.s1, .int .i64 o.s2, .int .i64 o.s3, .int .i64 o.s4, .slice o.ka o.keep.length o.kc] 29))
      have HLe := Lib.hid HL.out.le
      clear ho c hcell hE hokk
      by_cases h1 : o.kind % 8 < 2
      · have h1z : ((o.kind : Nat) : Int) % 8 < 2 := by omega
        go_wp2_with fail
        obtain ⟨hBw, wv1, rs1, vs1, next, rows, m, hs1, hbt1, hd1, hle1⟩ := HK2.out
        refine (Add_kept (bot := w.heap.size) (HO.out.2.2.1.ext HEa.out) hBb (hs1.ext HEa.out) (Nat.le_trans hBw.size HEa.out.size) hbt1 hd1 hme hn o.txt o.hr (by have := HO.out.2.2.2.1; omega) HO.out.2.1.hr (by omega) (by omega)).mono ?_
        rintro e w3 ⟨⟨a, b, rfl⟩, hK3⟩
        have HK3 : RowKit.Hid (KeptSt base w.heap.size S D N K 8000 me n w (47 * (k + 1)) w3) := Lib.hid (hK3.after (hBw.trans (HEa.out.mono hBw.size)) (by omega))
        clear hs1 hd1 hbt1 hK3 hBw HK2
        go_wp2_with fail
        go_roundw
        case rel => exact ⟨k + 1, by omega, by go_num, HK3.out⟩
        case measure => simp [intOf]; omega
      · have h1z : ¬ (((o.kind : Nat) : Int) % 8 < 2) := by omega
        by_cases h2 : o.kind % 8 < 5
        · have h2z : ((o.kind : Nat) : Int) % 8 < 5 := by omega
          have hms := msgB_size (n := n) HO.out.1 HO.out.2.1.st
          go_wp2_with fail
          refine (message_any (HO.out.2.2.1.ext HEa.out) n hn o (HO.out.2.1.ext HEa.out) (HO.out.2.2.2.2.2)).mono ?_
          rintro e w3 ⟨rfl, hE3⟩
          have HE3 := Lib.hid (HEa.out.trans hE3)
          clear hE3
          go_wp2_with fail
          obtain ⟨hBw, wv1, rs1, vs1, next, rows, m, hs1, hbt1, hd1, hle1⟩ := HK2.out
          refine (Hear_kept (bot := w.heap.size) (HO.out.2.2.1.ext HE3.out) hBb (hs1.ext HE3.out) (Nat.le_trans hBw.size HE3.out.size) hbt1 hd1 hme hn (msgB n o) (by omega) (by omega) (by omega)).mono ?_
          rintro e w4 ⟨⟨a, b, rfl⟩, hK3⟩
          have HK3 : RowKit.Hid (KeptSt base w.heap.size S D N K 8000 me n w (47 * (k + 1)) w4) := Lib.hid (hK3.after (hBw.trans (HE3.out.mono hBw.size)) (by omega))
          clear hs1 hd1 hbt1 hK3 hBw HK2
          go_wp2_with fail
          go_roundw
          case rel => exact ⟨k + 1, by omega, by go_num, HK3.out⟩
          case measure => simp [intOf]; omega
        · have h2z : ¬ (((o.kind : Nat) : Int) % 8 < 5) := by omega
          have HK3 : RowKit.Hid (KeptSt base w.heap.size S D N K 8000 me n w (47 * (k + 1)) (wr.alloc (.cells #[.int .u8 o.kind, .string o.txt, .int .i64 o.hr, .int .i64 o.num, .slice o.la o.letter.length o.lc, .int .i64 o.s0, .int .i64 o.s1, .int .i64 o.s2, .int .i64 o.s3, .int .i64 o.s4, .slice o.ka o.keep.length o.kc] 29))) := Lib.hid (by
            obtain ⟨hBw, wv1, rs1, vs1, next, rows, m, hs1, hbt1, hd1, hle1⟩ := HK2.out
            exact (kept_ext hs1 hBw.size hbt1 hd1 HEa.out hle1).after hBw (by omega))
          go_wp2_with fail
          go_roundw
          case rel => exact ⟨k + 1, by omega, by go_num, HK3.out⟩
          case measure => simp [intOf]; omega
    · have hltz : ¬ ((k : Int) < ops.length) := by omega
      go_wp2_with fail
      go_ret2
      have hfin : KeptSt base w.heap.size S D N K 8000 me n w 1880 wr := HK2.out.more (by omega)
      first | exact ⟨S, D, N, K, rfl, hfin⟩ | exact ⟨S, D, rfl, N, K, hfin⟩
theorem run_no {B : Nat} {w : World} (hL : Laid B w) (me n : Int) (hno : ¬ (2 ≤ n ∧ n ≤ 5 ∧ 0 ≤ me ∧ me < n)) (v : Value) :
    Calls Tryz.prog 19 #[.int .i64 me, .int .i64 n, v] w fun e w' => e = .returned (.tuple #[.pointer none, .pointer none]) ∧ Ext w w' := by
  by_cases g1 : n < 2
  · clear hno
    go_enter Tryz.func19, Tryz.ntmps19
    go_wp2_with fail
    refine (NewDisk_any 8000 w (by decide) (by decide)).mono ?_
    rintro e w1 ⟨D, N, K, rfl, hX, hb1⟩
    have HB1 : RowKit.Hid (Ext w w1) := Lib.hid hb1
    clear hX hb1
    go_wp2_with fail
    go_ret2
    exact ⟨rfl, HB1.out⟩
  · by_cases g2 : 5 < n
    · clear hno
      go_enter Tryz.func19, Tryz.ntmps19
      go_wp2_with fail
      refine (NewDisk_any 8000 w (by decide) (by decide)).mono ?_
      rintro e w1 ⟨D, N, K, rfl, hX, hb1⟩
      have HB1 : RowKit.Hid (Ext w w1) := Lib.hid hb1
      clear hX hb1
      go_wp2_with fail
      go_ret2
      exact ⟨rfl, HB1.out⟩
    · by_cases g3 : me < 0
      · clear hno
        go_enter Tryz.func19, Tryz.ntmps19
        go_wp2_with fail
        refine (NewDisk_any 8000 w (by decide) (by decide)).mono ?_
        rintro e w1 ⟨D, N, K, rfl, hX, hb1⟩
        have HB1 : RowKit.Hid (Ext w w1) := Lib.hid hb1
        clear hX hb1
        go_wp2_with fail
        go_ret2
        exact ⟨rfl, HB1.out⟩
      · have g4 : n ≤ me := by omega
        clear hno
        go_enter Tryz.func19, Tryz.ntmps19
        go_wp2_with fail
        refine (NewDisk_any 8000 w (by decide) (by decide)).mono ?_
        rintro e w1 ⟨D, N, K, rfl, hX, hb1⟩
        have HB1 : RowKit.Hid (Ext w w1) := Lib.hid hb1
        clear hX hb1
        go_wp2_with fail
        go_ret2
        exact ⟨rfl, HB1.out⟩
end Go.Proofs.YtgjahnomafpnfaaGreatDoor

/- Operations and scripts among the arguments. -/
namespace Go.Proofs.YtgjahnomafpnfaaGreatDoor
open Go.ChangeShapes Go.WideShapes Go.ChangeAt Go.RowKit Go.Deep Go.Joins
section
variable {P : Program} {H : Type} {enc : TypeId × Value → H} {w : World} {base b0 : Nat} {sp : Nat → Bool} {held : Bool}
theorem stock_cellsP {f0 : Field} {t ta ti : TypeId} (hs : P.underlying t = some (.struct #[f0])) (hf0 : f0.type = ta) (ho : f0.offset = 0) (ha : P.underlying ta = some (.array 5 ti)) (hi : P.underlying ti = some (.int .i64)) (ca : P.cellsOf ta = 5) (ci : P.cellsOf ti = 1)
    {fuel : Nat} {c0 c1 c2 c3 c4 : Value} {y : DataW H × List MemPlace} (hf : DataW.trod enc P w base sp held fuel t [c0, c1, c2, c3, c4] = some y) :
    ∃ s0 s1 s2 s3 s4 : Int, c0 = .int .i64 s0 ∧ c1 = .int .i64 s1 ∧ c2 = .int .i64 s2 ∧ c3 = .int .i64 s3 ∧ c4 = .int .i64 s4 ∧ i64B s0 ∧ i64B s1 ∧ i64B s2 ∧ i64B s3 ∧ i64B s4 := by
  obtain ⟨xs, m, _, _, _, hl, h⟩ := DataW.trod_struct hs hf
  have h0 := h 0 f0 rfl
  rw [hf0, ho, ca] at h0
  match xs, hl with
  | [y0], _ =>
    simp at h0
    obtain ⟨zs, k, _, _, _, hl2, h2⟩ := DataW.trod_array ha h0
    rw [ci] at h2
    match zs, hl2 with
    | [z0, z1, z2, z3, z4], _ =>
      have g0 := h2 0 (by omega)
      have g1 := h2 1 (by omega)
      have g2 := h2 2 (by omega)
      have g3 := h2 3 (by omega)
      have g4 := h2 4 (by omega)
      simp at g0 g1 g2 g3 g4
      obtain ⟨s0, e0, _, w0⟩ := DataW.trod_int hi g0
      obtain ⟨s1, e1, _, w1⟩ := DataW.trod_int hi g1
      obtain ⟨s2, e2, _, w2⟩ := DataW.trod_int hi g2
      obtain ⟨s3, e3, _, w3⟩ := DataW.trod_int hi g3
      obtain ⟨s4, e4, _, w4⟩ := DataW.trod_int hi g4
      simp at e0 e1 e2 e3 e4
      exact ⟨s0, s1, s2, s3, s4, e0, e1, e2, e3, e4, bounds_i64 w0, bounds_i64 w1, bounds_i64 w2, bounds_i64 w3, bounds_i64 w4⟩
theorem op_cellsP {f0 f1 f2 f3 f4 f5 f6 : Field} {t t5 t9 t3 t23 t26 t27 : TypeId} (hs : P.underlying t = some (.struct #[f0, f1, f2, f3, f4, f5, f6]))
    (ht : [f0.type, f1.type, f2.type, f3.type, f4.type, f5.type, f6.type] = [t5, t9, t3, t3, t23, t26, t27]) (ho : [f0.offset, f1.offset, f2.offset, f3.offset, f4.offset, f5.offset, f6.offset] = [0, 1, 2, 3, 4, 5, 10])
    (hc : [P.cellsOf t5, P.cellsOf t9, P.cellsOf t3, P.cellsOf t23, P.cellsOf t26, P.cellsOf t27] = [1, 1, 1, 1, 5, 1])
    (h5 : P.underlying t5 = some (.int .u8)) (h9 : P.underlying t9 = some .string) (h3 : P.underlying t3 = some (.int .i64))
    (hst : ∀ (fuel : Nat) (c0 c1 c2 c3 c4 : Value) (y : DataW H × List MemPlace), DataW.trod enc P w base sp held fuel t26 [c0, c1, c2, c3, c4] = some y →
      ∃ s0 s1 s2 s3 s4 : Int, c0 = .int .i64 s0 ∧ c1 = .int .i64 s1 ∧ c2 = .int .i64 s2 ∧ c3 = .int .i64 s3 ∧ c4 = .int .i64 s4 ∧ i64B s0 ∧ i64B s1 ∧ i64B s2 ∧ i64B s3 ∧ i64B s4)
    (hsl : ∀ (fuel : Nat) (c : Value) (y : DataW H × List MemPlace), DataW.trod enc P w base sp held fuel t23 [c] = some y → ∃ a l, ∃ xs : List Rec, c = .slice a xs.length l ∧ SlE w c xs ∧ ∀ x ∈ xs, x.i64)
    (hsn : ∀ (fuel : Nat) (c : Value) (y : DataW H × List MemPlace), DataW.trod enc P w base sp held fuel t27 [c] = some y → ∃ a l, ∃ xs : List Int, c = .slice a xs.length l ∧ SlN w c xs)
    {fuel : Nat} {cs : List Value} {y : DataW H × List MemPlace} (hl : cs.length = 11) (hf : DataW.trod enc P w base sp held fuel t cs = some y) : ∃ o : OpR, cs = ocells o ∧ OpOk w o := by
  obtain ⟨xs, m, _, _, _, hlx, h⟩ := DataW.trod_struct hs hf
  simp only [List.cons.injEq, and_true] at ht ho hc
  obtain ⟨a0, a1, a2, a3, a4, a5, a6⟩ := ht
  obtain ⟨o0, o1, o2, o3, o4, o5, o6⟩ := ho
  obtain ⟨c5, c9, c3, c23, c26, c27⟩ := hc
  have g0 := h 0 f0 rfl
  have g1 := h 1 f1 rfl
  have g2 := h 2 f2 rfl
  have g3 := h 3 f3 rfl
  have g4 := h 4 f4 rfl
  have g5 := h 5 f5 rfl
  have g6 := h 6 f6 rfl
  rw [a0, o0, c5] at g0
  rw [a1, o1, c9] at g1
  rw [a2, o2, c3] at g2
  rw [a3, o3, c3] at g3
  rw [a4, o4, c23] at g4
  rw [a5, o5, c26] at g5
  rw [a6, o6, c27] at g6
  match xs, hlx, cs, hl with
  | [y0, y1, y2, y3, y4, y5, y6], _, [k0, k1, k2, k3, k4, k5, k6, k7, k8, k9, k10], _ =>
    simp at g0 g1 g2 g3 g4 g5 g6
    obtain ⟨v0, e0, _, w0⟩ := DataW.trod_int h5 g0
    obtain ⟨v1, e1, _, w1⟩ := DataW.trod_string h9 g1
    obtain ⟨v2, e2, _, w2⟩ := DataW.trod_int h3 g2
    obtain ⟨v3, e3, _, w3⟩ := DataW.trod_int h3 g3
    obtain ⟨a, l, rs, rfl, hE, hi⟩ := hsl _ _ _ g4
    obtain ⟨s0, s1, s2, s3, s4, rfl, rfl, rfl, rfl, rfl, q0, q1, q2, q3, q4⟩ := hst _ _ _ _ _ _ _ g5
    obtain ⟨ka, kc, ks, rfl, hN⟩ := hsn _ _ _ g6
    simp at e0 e1 e2 e3
    subst e0 e1 e2 e3
    have hb := bounds_u8 w0
    obtain ⟨kn, rfl⟩ : ∃ kn : Nat, v0 = kn := ⟨v0.toNat, by omega⟩
    exact ⟨⟨kn, v1, v2, v3, a, l, rs, s0, s1, s2, s3, s4, ka, kc, ks⟩, rfl, ⟨by show kn < 256; omega, hE, hN, bounds_i64 w2, bounds_i64 w3, ⟨q0, q1, q2, q3, q4⟩, fun x hx => ⟨(hi x hx).st, (hi x hx).num, (hi x hx).hr⟩, w1⟩⟩
theorem slN_cellP {t e : TypeId} (ht : P.underlying t = some (.slice e)) (he : P.underlying e = some (.int .i64)) (hc : P.cellsOf e = 1) {fuel : Nat} {v : Value} {y : DataW H × List MemPlace} (hf : DataW.trod enc P w base (fun _ => true) held fuel t [v] = some y) :
    ∃ a l, ∃ gs : List Int, v = .slice a gs.length l ∧ SlN w v gs := by
  rcases open_slice1 ht hc hf with ⟨hcs, _⟩ | ⟨a, len, cap, m, n, V, D, Pl, hcs, _, hl, hm, hmm, _, hx⟩
  · simp at hcs
    subst hcs
    exact ⟨none, 0, [], rfl, none, 0, rfl, fun j g h => by simp at h⟩
  · simp at hcs
    subst hcs
    have hlm : len ≤ m := by rw [hmm]; simp; omega
    have hx' : ∀ i, i < len → ∃ z : Int, w.cell? (a.add i) = some (.int .i64 z) := by
      intro i hi
      obtain ⟨h1, h2⟩ := hx i (by omega)
      obtain ⟨z, e0, _, _⟩ := DataW.trod_int he h2
      simp at e0
      exact ⟨z, by rw [h1, e0]⟩
    obtain ⟨Z, hZ⟩ := choose_lt (α := Int) hx'
    have hln : ((List.range len).map Z).length = len := by simp
    refine ⟨some a, cap, (List.range len).map Z, by rw [hln], some a, cap, by rw [hln], fun j g hj => ?_⟩
    have hjl : j < len := by have := (List.getElem?_eq_some_iff.1 hj).1; simpa using this
    have hg : g = Z j := by simpa [hjl] using hj.symm
    subst hg
    have h0 := hZ 0 (by omega)
    obtain ⟨b, off, spot⟩ := a
    have hsp : spot = none := by
      unfold World.cell? Addr.add at h0
      simp only [if_true] at h0
      split at h0
      · split at h0
        · cases h0
        · rename_i hs
          cases spot with
          | none => rfl
          | some q => simp at hs
      · cases h0
    subst hsp
    refine ⟨b, off, rfl, ?_⟩
    have := hZ j hjl
    rwa [Addr.add_mid] at this
end
section
variable {H : Type} {enc : TypeId × Value → H} {w : World} {base : Nat}
set_option maxRecDepth 100000 in
theorem slE_cell {b0 : Nat} {held : Bool} {fuel : Nat} {v : Value} {y : DataW H × List MemPlace} (hf : DataW.trod enc Tryz.prog w b0 (fun _ => true) held fuel 23 [v] = some y) :
    ∃ a l, ∃ xs : List Rec, v = .slice a xs.length l ∧ SlE w v xs ∧ ∀ x ∈ xs, x.i64 := by
  rcases open_slice Tryz.underlying23 hf with ⟨hcs, _⟩ | ⟨a, len, cap, m, n, D, Pl, hcs, _, hl, hm, hmm, _, hx⟩
  · simp at hcs
    subst hcs
    exact ⟨none, 0, [], rfl, ⟨none, 0, rfl, fun j g h => by simp at h⟩, by simp⟩
  · simp at hcs
    subst hcs
    have hlm : len ≤ m := by rw [hmm]; simp; omega
    by_cases h0 : len = 0
    · subst h0
      exact ⟨some a, cap, [], rfl, ⟨some a, cap, rfl, fun j g h => by simp at h⟩, by simp⟩
    · obtain ⟨b, off, spot⟩ := a
      have hs : spot = none ∧ b < w.heap.size := by
        obtain ⟨cs, h1, _⟩ := hx 0 (by omega)
        rw [cells49T] at h1
        obtain ⟨_, hlen, hcell⟩ := World.cells?_some h1
        have := hcell 0 (by omega)
        simp only [Nat.zero_mul] at this
        have e0 : ((⟨b, off, spot⟩ : Addr).add 0).add 0 = ⟨b, off, spot⟩ := rfl
        rw [e0] at this
        match cs, hlen with
        | [u0, u1, u2, u3], _ =>
          simp only [List.getElem?_cons_zero] at this
          refine ⟨?_, World.block_lt_of_cell? _ _ this⟩
          unfold World.cell? at this
          split at this
          · split at this
            · cases this
            · rename_i hs
              cases spot with
              | none => rfl
              | some q => simp at hs
          · cases this
      obtain ⟨hs, hb⟩ := hs
      subst hs
      obtain ⟨xs, h1, h2⟩ := slR_cell (v := .slice (some ⟨b, off, none⟩) len cap) hf (fun a l c h => by
        simp only [Value.slice.injEq, Option.some.injEq] at h
        obtain ⟨rfl, rfl, rfl⟩ := h
        exact ⟨rfl, hb⟩)
      have h3 := h1.e
      obtain ⟨ao, c2, e, _⟩ := id h3
      simp only [Value.slice.injEq] at e
      obtain ⟨rfl, rfl, rfl⟩ := e
      exact ⟨_, _, xs, rfl, h3, h2⟩
theorem cells29T : Tryz.prog.cellsOf 29 = 11 := by kernel_rfl
theorem opFields : ∃ f0 f1 f2 f3 f4 f5 f6, Tryz.prog.underlying 29 = some (.struct #[f0, f1, f2, f3, f4, f5, f6]) ∧ [f0.type, f1.type, f2.type, f3.type, f4.type, f5.type, f6.type] = [5, 9, 3, 3, 23, 26, 27] ∧ [f0.offset, f1.offset, f2.offset, f3.offset, f4.offset, f5.offset, f6.offset] = [0, 1, 2, 3, 4, 5, 10] :=
  ⟨_, _, _, _, _, _, _, Tryz.underlying29, by kernel_rfl, by kernel_rfl⟩
theorem stockField : ∃ f0, Tryz.prog.underlying 26 = some (.struct #[f0]) ∧ f0.type = 24 ∧ f0.offset = 0 := ⟨_, Tryz.underlying26, by kernel_rfl, by kernel_rfl⟩
theorem opCells : [Tryz.prog.cellsOf 5, Tryz.prog.cellsOf 9, Tryz.prog.cellsOf 3, Tryz.prog.cellsOf 23, Tryz.prog.cellsOf 26, Tryz.prog.cellsOf 27] = [1, 1, 1, 1, 5, 1] := by kernel_rfl
theorem cells24T : Tryz.prog.cellsOf 24 = 5 := by kernel_rfl
theorem cells3T : Tryz.prog.cellsOf 3 = 1 := by kernel_rfl
set_option maxRecDepth 100000 in
theorem op_cells {b0 : Nat} {held : Bool} {fuel : Nat} {cs : List Value} {y : DataW H × List MemPlace} (hl : cs.length = 11) (hf : DataW.trod enc Tryz.prog w b0 (fun _ => true) held fuel 29 cs = some y) : ∃ o : OpR, cs = ocells o ∧ OpOk w o := by
  obtain ⟨f0, f1, f2, f3, f4, f5, f6, h, ht, ho⟩ := opFields
  obtain ⟨g0, hg, hgt, hgo⟩ := stockField
  exact op_cellsP h ht ho opCells Tryz.underlying5 Tryz.underlying9 Tryz.underlying3 (fun _ _ _ _ _ _ _ h => stock_cellsP hg hgt hgo Tryz.underlying24 Tryz.underlying3 cells24T cells3T h) (fun _ _ _ h => slE_cell h) (fun _ _ _ h => slN_cellP Tryz.underlying27 Tryz.underlying3 cells3T h) hl hf
set_option maxRecDepth 100000 in
theorem op_of {v : Value} {d : DataW H} {p : List MemPlace} (hval : Value.okWide Tryz.prog w .any base 29 v) (hd : DataW.Trod enc Tryz.prog w 0 (fun _ => true) true 29 v d p) : ∃ o : OpR, v = opv o ∧ OpOk w o := by
  obtain ⟨cs, rfl, hsz⟩ := okWide_struct Tryz.underlying29 hval
  obtain ⟨fuel, hf⟩ := hd
  obtain ⟨o, hx, h⟩ := op_cells (by simp [Value.cells, hsz, cells29T]) hf
  exact ⟨o, by unfold opv; congr 1; apply Array.ext'; exact hx, h⟩
set_option maxRecDepth 100000 in
theorem slO_of {v : Value} {d : DataW H} {p : List MemPlace} (hval : Value.okWide Tryz.prog w .any base 22 v) (hd : DataW.Trod enc Tryz.prog w 0 (fun _ => true) true 22 v d p) : ∃ ops, SlO w v ops := by
  obtain ⟨a0, len, cap, rfl⟩ := okWide_slice Tryz.underlying22 hval
  obtain ⟨fuel, hf⟩ := hd
  have hf' : DataW.trod enc Tryz.prog w 0 (fun _ => true) true fuel 22 [.slice a0 len cap] = some (d, p) := by simpa [Value.cells] using hf
  rcases open_slice Tryz.underlying22 hf' with ⟨hcs, _⟩ | ⟨a, len', cap', m, n, D, Pl, hcs, _, hl, hm, hmm, _, hx⟩
  · simp at hcs
    obtain ⟨rfl, rfl, rfl⟩ := hcs
    exact ⟨[], none, 0, rfl, by decide, fun j o h => by simp at h⟩
  · simp at hcs
    obtain ⟨rfl, rfl, rfl⟩ := hcs
    obtain ⟨hs, hb⟩ := okWide_has Tryz.underlying22 hval
    obtain ⟨b, off, spot⟩ := a
    simp only at hs hb
    subst hs
    have hlm : len ≤ m := by rw [hmm]; simp; omega
    have hx' : ∀ i, i < len → ∃ o : OpR, OpOk w o ∧ ∀ j u, (ocells o)[j]? = some u → w.cell? ⟨b, off + i * 11 + j, none⟩ = some u := by
      intro i hi
      obtain ⟨cs, h1, h2⟩ := hx i (by omega)
      rw [cells29T] at h1
      obtain ⟨_, hlen, hcell⟩ := World.cells?_some h1
      obtain ⟨o, rfl, h3⟩ := op_cells hlen h2
      refine ⟨o, h3, fun j u hu => ?_⟩
      have hj := (List.getElem?_eq_some_iff.1 hu).1
      have := hcell j (by simpa [ocells] using hj)
      rw [hu] at this
      rwa [Addr.add_mid, Addr.add_mid] at this
    obtain ⟨X, hX⟩ := choose_lt (α := OpR) hx'
    have hln : ((List.range len).map X).length = len := by simp
    refine ⟨(List.range len).map X, some ⟨b, off, none⟩, cap, by rw [hln], by rw [hln]; omega, fun i o hi => ?_⟩
    have hil : i < len := by have := (List.getElem?_eq_some_iff.1 hi).1; simpa using this
    have ho : o = X i := by simpa [hil] using hi.symm
    subst ho
    exact ⟨(hX i hil).1, b, off, rfl, hb, (hX i hil).2⟩
end
end Go.Proofs.YtgjahnomafpnfaaGreatDoor

/- A stock among the arguments. -/
namespace Go.Proofs.YtgjahnomafpnfaaGreatDoor
open Go.ChangeShapes Go.WideShapes Go.ChangeAt Go.RowKit Go.Deep Go.Joins
section
variable {H : Type} {enc : TypeId × Value → H} {w : World} {base : Nat}
theorem cells26T : Tryz.prog.cellsOf 26 = 5 := by kernel_rfl
set_option maxRecDepth 100000 in
theorem stock_of {v : Value} {d : DataW H} {p : List MemPlace} (hval : Value.okWide Tryz.prog w .any base 26 v) (hd : DataW.Trod enc Tryz.prog w 0 (fun _ => true) true 26 v d p) :
    ∃ s0 s1 s2 s3 s4 : Int, v = .agg #[.int .i64 s0, .int .i64 s1, .int .i64 s2, .int .i64 s3, .int .i64 s4] ∧ (i64B s0 ∧ i64B s1 ∧ i64B s2 ∧ i64B s3 ∧ i64B s4) := by
  obtain ⟨cs, rfl, hsz⟩ := okWide_struct Tryz.underlying26 hval
  obtain ⟨fuel, hf⟩ := hd
  have hl : cs.toList.length = 5 := by simp [hsz, cells26T]
  have hf' : DataW.trod enc Tryz.prog w 0 (fun _ => true) true fuel 26 cs.toList = some (d, p) := by simpa [Value.cells] using hf
  obtain ⟨g0, hg, hgt, hgo⟩ := stockField
  obtain ⟨c0, c1, c2, c3, c4, hc⟩ : ∃ c0 c1 c2 c3 c4, cs.toList = [c0, c1, c2, c3, c4] := by
    match h : cs.toList, hl with
    | [c0, c1, c2, c3, c4], _ => exact ⟨_, _, _, _, _, rfl⟩
  rw [hc] at hf'
  obtain ⟨s0, s1, s2, s3, s4, rfl, rfl, rfl, rfl, rfl, hb⟩ := stock_cellsP hg hgt hgo Tryz.underlying24 Tryz.underlying3 cells24T cells3T hf'
  exact ⟨s0, s1, s2, s3, s4, by congr 1; apply Array.ext'; exact hc, hb⟩
end
end Go.Proofs.YtgjahnomafpnfaaGreatDoor

/- The reference's refused. -/
namespace Go.Proofs.YtgjahnomafpnfaaGreatDoor
open Go.RowKit
set_option maxHeartbeats 1600000 in
set_option maxRecDepth 100000 in
theorem refusedR_none (n : Int) (a : Option Addr) (c : Nat) (x : Rec) (w : World) (ht : x.txt.size ≤ 1000000) (hf : formedB n x = true) :
    Calls Tryz.prog 108 #[.int .i64 n, .slice a 0 c, rv x] w fun e w' => e = .returned (.int .i64 (if x.num ≠ 1 then 83 else 0)) ∧ Ext w w' := by
  have hE1 := Ext.alloc w (.cells #[.int .i64 x.st, .int .i64 x.num, .int .i64 x.hr, .string x.txt] 49)
  have hB1 := BoxR.new w x
  have HE1 := Lib.hid hE1
  have HB1 := Lib.hid hB1
  have hF := formedR_any n x (w.alloc (.cells #[.int .i64 x.st, .int .i64 x.num, .int .i64 x.hr, .string x.txt] 49)) ht
  rw [hf] at hF
  have HF := Lib.hid hF
  clear hE1 hB1 hF hf
  by_cases h1 : x.num = 1
  · have hb : (x.num != 1) = false := by simp [h1]
    rw [if_neg (fun q => q h1)]
    clear h1
    go_enter Tryz.func108, Tryz.ntmps108
    go_wp2_with fail
    refine HF.out.mono ?_
    rintro e W2 ⟨rfl, hE2⟩
    have HE2 := Lib.hid (HE1.out.trans hE2)
    have hB2 := HB1.out.ext hE2
    have x0 := hB2.c0
    have x1 := hB2.c1
    have x2 := hB2.c2
    have x3 := hB2.c3
    have hE3 := Ext.alloc W2 (.cells #[.int .i64 0, .int .i64 0, .int .i64 0, .string ⟨#[]⟩] 49)
    have HE3 := Lib.hid (HE2.out.trans hE3)
    have y1 := hE3.keep x1
    clear hE2 hB2 hE3 x0 x1 x2 x3
    go_wp2_with fail
    go_ret
    exact ⟨rfl, HE3.out⟩
  · have hb : (x.num != 1) = true := by simp [h1]
    rw [if_pos h1]
    clear h1
    go_enter Tryz.func108, Tryz.ntmps108
    go_wp2_with fail
    refine HF.out.mono ?_
    rintro e W2 ⟨rfl, hE2⟩
    have HE2 := Lib.hid (HE1.out.trans hE2)
    have hB2 := HB1.out.ext hE2
    have x0 := hB2.c0
    have x1 := hB2.c1
    have x2 := hB2.c2
    have x3 := hB2.c3
    have hE3 := Ext.alloc W2 (.cells #[.int .i64 0, .int .i64 0, .int .i64 0, .string ⟨#[]⟩] 49)
    have HE3 := Lib.hid (HE2.out.trans hE3)
    have y1 := hE3.keep x1
    clear hE2 hB2 hE3 x0 x1 x2 x3
    go_wp2_with fail
    go_ret
    exact ⟨rfl, HE3.out⟩
set_option maxHeartbeats 400000 in
set_option maxRecDepth 100000 in
theorem refusedR_form (n : Int) (v : Value) (x : Rec) (w : World) (ht : x.txt.size ≤ 1000000) (hf : formedB n x = false) :
    Calls Tryz.prog 108 #[.int .i64 n, v, rv x] w fun e w' => e = .returned (.int .i64 1) ∧ Ext w w' := by
  have hE1 := Ext.alloc w (.cells #[.int .i64 x.st, .int .i64 x.num, .int .i64 x.hr, .string x.txt] 49)
  have hB1 := BoxR.new w x
  have HE1 := Lib.hid hE1
  have HB1 := Lib.hid hB1
  have hF := formedR_any n x (w.alloc (.cells #[.int .i64 x.st, .int .i64 x.num, .int .i64 x.hr, .string x.txt] 49)) ht
  rw [hf] at hF
  have HF := Lib.hid hF
  clear hE1 hB1 hF hf
  go_enter Tryz.func108, Tryz.ntmps108
  go_wp2_with fail
  refine HF.out.mono ?_
  rintro e W2 ⟨rfl, hE2⟩
  have HE2 := Lib.hid (HE1.out.trans hE2)
  have hB2 := HB1.out.ext hE2
  have x0 := hB2.c0
  have x1 := hB2.c1
  have x2 := hB2.c2
  have x3 := hB2.c3
  clear hE2 hB2
  go_wp2_with fail
  go_ret
  exact ⟨rfl, HE2.out⟩
set_option maxHeartbeats 1600000 in
set_option maxRecDepth 100000 in
theorem refusedR_some (n : Int) (v : Value) (l : List Rec) (x p : Rec) (w : World) (hv : SlR w v l) (hp : l[l.length - 1]? = some p) (hl : l.length ≤ 1000000) (ht : x.txt.size ≤ 1000000) (hf : formedB n x = true) (hpn : 0 ≤ p.num ∧ p.num ≤ 1000) :
    Calls Tryz.prog 108 #[.int .i64 n, v, rv x] w fun e w' => e = .returned (.int .i64 (refusedE n (some p) x)) ∧ Ext w w' := by
  obtain ⟨ao, cap, rfl, hc⟩ := hv.open
  obtain ⟨b, off, rfl, hb, p0, p1, p2, p3⟩ := hc _ p hp
  have hpos : 0 < l.length := by have := (List.getElem?_eq_some_iff.1 hp).1; omega
  have hpz : (0 : Int) < l.length := by omega
  have hdz : decide ((0 : Int) < (l.length : Int)) = true := by simp; omega
  have hdz2 : decide (0 < l.length) = true := by simp; omega
  have hb0 : ((l.length : Int) == 0) = false := by rw [beq_eq_false_iff_ne]; omega
  have hwl : IntKind.i64.wrap ((l.length : Int) - 1) = ((l.length - 1 : Nat) : Int) := by rw [IntWalk.i64_in _ (by omega)]; omega
  have hl1 : ((l.length - 1 : Nat) : Int) < l.length := by omega
  have hE1 := Ext.alloc w (.cells #[.int .i64 x.st, .int .i64 x.num, .int .i64 x.hr, .string x.txt] 49)
  have hB1 := BoxR.new w x
  have HE1 := Lib.hid hE1
  have HB1 := Lib.hid hB1
  have HP := Lib.hid (And.intro p0 (And.intro p1 (And.intro p2 p3)))
  have hF := formedR_any n x (w.alloc (.cells #[.int .i64 x.st, .int .i64 x.num, .int .i64 x.hr, .string x.txt] 49)) ht
  rw [hf] at hF
  have HF := Lib.hid hF
  have hre : refusedE n (some p) x = if x.st < p.st ∨ (x.st = p.st ∧ x.num ≤ p.num) then 6 else if p.st ≠ x.st then (if x.num ≠ 1 then 83 else 0) else if x.num ≠ p.num + 1 then 83 else if x.hr < p.hr then 7 else 0 := by
    unfold refusedE; rw [if_neg (by rw [hf]; decide)]
  generalize refusedE n (some p) x = R at hre ⊢
  have HR := Lib.hid hre
  clear hre
  generalize l.length - 1 = M at *
  clear hE1 hB1 hF hf hc hv hp p0 p1 p2 p3
  go_enter Tryz.func108, Tryz.ntmps108
  go_wp2_with fail
  refine HF.out.mono ?_
  rintro e W2 ⟨rfl, hE2⟩
  have HE2 := Lib.hid (HE1.out.trans hE2)
  have hB2 := HB1.out.ext hE2
  have hE3 := Ext.alloc W2 (.cells #[.int .i64 0, .int .i64 0, .int .i64 0, .string ⟨#[]⟩] 49)
  have q0 := hE3.keep (HE2.out.keep HP.out.1)
  have q1 := hE3.keep (HE2.out.keep HP.out.2.1)
  have q2 := hE3.keep (HE2.out.keep HP.out.2.2.1)
  have q3 := hE3.keep (HE2.out.keep HP.out.2.2.2)
  have hE4 := Ext.alloc W2 (.cells #[.int .i64 p.st, .int .i64 p.num, .int .i64 p.hr, .string p.txt] 49)
  have HE4 := Lib.hid (HE2.out.trans hE4)
  have HBX := Lib.hid (hB2.ext hE4)
  have HBP := Lib.hid (BoxR.new W2 p)
  clear hE2 hB2 hE3 hE4
  go_upto_region 7 with (fail)
  generalize W2.alloc (.cells #[.int .i64 p.st, .int .i64 p.num, .int .i64 p.hr, .string p.txt] 49) = W4 at HE4 HBX HBP ⊢
  clear q0 q1 q2 q3
  have x0 := HBX.out.c0
  have x1 := HBX.out.c1
  have x2 := HBX.out.c2
  have p0 := HBP.out.c0
  have p1 := HBP.out.c1
  have p2 := HBP.out.c2
  generalize W2.heap.size = Y at *
  generalize hXX : w.heap.size = X at x0 x1 x2 ⊢
  clear hXX
  have hwn : IntKind.i64.wrap (p.num + 1) = p.num + 1 := IntWalk.i64_in _ (by omega)
  by_cases h1 : x.st < p.st
  · skip
    have d1 : decide (x.st < p.st) = true := by simp [h1]
    have HV : RowKit.Hid (6 = R) := Lib.hid (by rw [HR.out, if_pos (.inl h1)])
    skip
    go_wp2_with fail
    go_ret
    exact ⟨ret_int HV.out, HE4.out⟩
  · have d1 : decide (x.st < p.st) = false := by simp; omega
    by_cases h2 : x.st = p.st
    · have d2 : (x.st == p.st) = true := by simp [h2]
      have d2' : (p.st != x.st) = false := by simp [h2]
      by_cases h3 : x.num ≤ p.num
      · skip
        have d3 : decide (x.num ≤ p.num) = true := by simp [h3]
        have HV : RowKit.Hid (6 = R) := Lib.hid (by rw [HR.out, if_pos (.inr ⟨h2, h3⟩)])
        clear h2
        go_wp2_with fail
        go_ret
        exact ⟨ret_int HV.out, HE4.out⟩
      · skip
        have d3 : decide (x.num ≤ p.num) = false := by simp; omega
        by_cases h4 : x.num = p.num + 1
        · skip
          have d4 : (x.num != p.num + 1) = false := by simp [h4]
          by_cases h5 : x.hr < p.hr
          · skip
            have d5 : decide (x.hr < p.hr) = true := by simp [h5]
            have HV : RowKit.Hid (7 = R) := Lib.hid (by rw [HR.out, if_neg (by omega), if_neg (by omega), if_neg (fun q => q h4), if_pos h5])
            clear h2 h4
            go_wp2_with fail
            go_ret
            exact ⟨ret_int HV.out, HE4.out⟩
          · skip
            have d5 : decide (x.hr < p.hr) = false := by simp; omega
            have HV : RowKit.Hid (0 = R) := Lib.hid (by rw [HR.out, if_neg (by omega), if_neg (by omega), if_neg (fun q => q h4), if_neg h5])
            clear h2 h4
            go_wp2_with fail
            go_ret
            exact ⟨ret_int HV.out, HE4.out⟩
        · skip
          have d4 : (x.num != p.num + 1) = true := by simp [h4]
          have HV : RowKit.Hid (83 = R) := Lib.hid (by rw [HR.out, if_neg (by omega), if_neg (by omega), if_pos h4])
          clear h2
          go_wp2_with fail
          go_ret
          exact ⟨ret_int HV.out, HE4.out⟩
    · have d2 : (x.st == p.st) = false := by simp [h2]
      have d2' : (p.st != x.st) = true := by simp; omega
      by_cases h4 : x.num = 1
      · skip
        have d4 : (x.num != 1) = false := by simp [h4]
        have HV : RowKit.Hid (0 = R) := Lib.hid (by rw [HR.out, if_neg (by omega), if_pos (by omega), if_neg (fun q => q h4)])
        clear h4
        go_wp2_with fail
        go_ret
        exact ⟨ret_int HV.out, HE4.out⟩
      · skip
        have d4 : (x.num != 1) = true := by simp [h4]
        have HV : RowKit.Hid (83 = R) := Lib.hid (by rw [HR.out, if_neg (by omega), if_pos (by omega), if_pos h4])
        skip
        go_wp2_with fail
        go_ret
        exact ⟨ret_int HV.out, HE4.out⟩
end Go.Proofs.YtgjahnomafpnfaaGreatDoor

/- The reference's CheckRecords and of. -/
namespace Go.Proofs.YtgjahnomafpnfaaGreatDoor
open Go.RowKit
theorem refusedE_formed {n : Int} {p : Option Rec} {x : Rec} (h : refusedE n p x = 0) : formedB n x = true := by
  cases hf : formedB n x with
  | true => rfl
  | false => unfold refusedE at h; rw [if_pos hf] at h; cases h
theorem refusedE_no {n : Int} {p : Option Rec} {x : Rec} (h : formedB n x = false) : refusedE n p x = 1 := by unfold refusedE; rw [if_pos h]
theorem formedB_num {n : Int} {x : Rec} (h : formedB n x = true) : 0 ≤ x.num ∧ x.num ≤ 1000 := by
  unfold formedB at h
  simp only [Bool.and_eq_true, inB_iff] at h
  omega
theorem refusedR_at (n : Int) (b off cap i : Nat) (l : List Rec) (x : Rec) (w : World) (hv : SlR w (.slice (some ⟨b, off, none⟩) l.length cap) l) (hi : i ≤ l.length) (hl : l.length ≤ 1000000) (ht : x.txt.size ≤ 1000000) (p : Option Rec) (hp : p = if i = 0 then none else l[i - 1]?) (hpf : ∀ y, p = some y → formedB n y = true) :
    Calls Tryz.prog 108 #[.int .i64 n, .slice (some ⟨b, off, none⟩) i cap, rv x] w fun e w' => e = .returned (.int .i64 (refusedE n p x)) ∧ Ext w w' := by
  cases hf : formedB n x with
  | false => rw [refusedE_no hf]; exact refusedR_form n _ x w ht hf
  | true =>
    by_cases h0 : i = 0
    · subst h0
      rw [if_pos rfl] at hp
      subst hp
      have : refusedE n none x = if x.num ≠ 1 then 83 else 0 := by unfold refusedE; rw [if_neg (by rw [hf]; decide)]
      rw [this]
      exact refusedR_none n _ cap x w ht hf
    · rw [if_neg h0] at hp
      obtain ⟨y, hy⟩ : ∃ y, l[i - 1]? = some y := ⟨_, List.getElem?_eq_getElem (by omega)⟩
      rw [hy] at hp
      subst hp
      have hlt : (l.take i).length = i := by rw [List.length_take]; omega
      have := refusedR_some n (.slice (some ⟨b, off, none⟩) i cap) (l.take i) x y w (hv.take i hi) (by rw [hlt, List.getElem?_take, if_pos (by omega)]; exact hy) (by omega) ht hf (formedB_num (hpf y rfl))
      exact this
set_option maxHeartbeats 1600000 in
set_option maxRecDepth 100000 in
theorem CheckRecordsR_any (n : Int) (v : Value) (l : List Rec) (w : World) (hv : SlR w v l) (hl : l.length ≤ 100000) (ht : ∀ x ∈ l, x.txt.size ≤ 1000000) :
    Calls Tryz.prog 48 #[.int .i64 n, v] w fun e w' => e = .returned (.tuple #[.int .i64 (checkP n l).1, .int .i64 (checkP n l).2]) ∧ Ext w w' := by
  obtain ⟨ao, cap, rfl, hc⟩ := hv.open
  have HV := Lib.hid hv
  have HC := Lib.hid hc
  have HT := Lib.hid ht
  clear hv hc ht
  by_cases hn : inB n 2 5 = true
  · have hP : checkP n l = checkGo n none 0 l := by unfold checkP; rw [if_pos hn]
    rw [hP]
    generalize hQ : checkGo n none 0 l = Q
    have HQ := Lib.hid hQ
    clear hP hQ
    go_enter Tryz.func48, Tryz.ntmps48
    go_wp2_with (go_at_call 107; refine (manyR_any _ _).mono ?_; rintro e w' ⟨rfl, hw⟩; cases hw; rw [hn])
    go_loopw [7] (fun i wr => ∃ (k : Nat) (p : Option Rec), k ≤ l.length ∧ i = .int .i64 k ∧ Ext w wr ∧ p = (if k = 0 then none else l[k - 1]?) ∧ (∀ y, p = some y → formedB n y = true) ∧ checkGo n p k (l.drop k) = Q) (fun i _ => l.length - (intOf i).toNat)
    case atStart => exact ⟨0, none, by omega, rfl, Ext.refl _, rfl, (fun y h => by cases h), HQ.out⟩
    case round =>
      obtain ⟨k, p, hk, rfl, hE, hp, hpf, hq⟩ := hrel
      have HP := Lib.hid (And.intro hp (And.intro hpf hq))
      have HE := Lib.hid hE
      clear hp hpf hq
      by_cases hlt : k < l.length
      · obtain ⟨x, hx⟩ : ∃ x, l[k]? = some x := ⟨_, List.getElem?_eq_getElem hlt⟩
        have hdrop : l.drop k = x :: l.drop (k + 1) := by rw [List.drop_eq_getElem_cons hlt]; rw [List.getElem?_eq_getElem hlt] at hx; rw [Option.some.inj hx]
        obtain ⟨b, off, rfl, hb, x0, x1, x2, x3⟩ := HC.out k x hx
        replace x0 := hE.keep x0
        replace x1 := hE.keep x1
        replace x2 := hE.keep x2
        replace x3 := hE.keep x3
        have hltz : (k : Int) < l.length := by omega
        have hkc : k ≤ cap := by
          rcases HV.out with ⟨q, _⟩ | ⟨_, _, _, q, q2, _⟩
          · cases q
          · cases q; omega
        have hncap : ¬ (cap = 0) := by
          rcases HV.out with ⟨q, _⟩ | ⟨_, _, _, q, q2, _⟩
          · cases q
          · cases q; omega
        have HX := Lib.hid (And.intro hx hdrop)
        have HC1 := Lib.hid (fun (W : World) (h : Ext wr W) => refusedR_at n b off cap k l x W (HV.out.ext (hE.trans h)) hk (by omega) (HT.out x (List.mem_of_getElem? hx)) p HP.out.1 HP.out.2.1)
        clear hx hdrop hE
        generalize hR : refusedE n p x = R at HC1
        have HR := Lib.hid hR
        clear hR
        go_wp2_with fail
        refine wp_drawn 10 (by kernel_rfl) (by kernel_rfl) (fun i => match i with
          | 8 => some fun v _ => v = .int .i64 R
          | 9 => some fun v _ => v = .int .i64 R
          | _ => none) ?_ ?_
        · intro j φ hφ v w1 w2 h1 h2
          split at hφ <;> cases hφ
          all_goals exact h1
        intro ν
        simp only [List.take_succ_cons, List.take_zero]
        iterate 8 (refine Seq.pure ?_ rfl (fun w' hw hf => ?_) ?_; rotate_left; (· (have k0 := hw.keep (w := World.drew _) x0; have k1 := hw.keep (w := World.drew _) x1; have k2 := hw.keep (w := World.drew _) x2; have k3 := hw.keep (w := World.drew _) x3; unfold pureG; go_simp; with_reducible rfl)); simp only [Act.put, List.setIfInBounds_toArray, List.set_cons_zero, List.set_cons_succ, Nat.reduceAdd, Nat.zero_add])
        refine Seq.eff _ rfl (fun w' hw hf => giveG_of rfl (by simp) fun K hK => ?_) ?_
        · go_simp
          refine (HC1.out w' ((Ext.drew _).trans hw)).mono ?_
          rintro e w2 ⟨rfl, hb⟩
          exact hK _ _ ⟨rfl, hb⟩
        simp only [Act.put, List.setIfInBounds_toArray, List.set_cons_zero, List.set_cons_succ, Nat.reduceAdd, Nat.zero_add]
        refine Seq.eff _ rfl (fun w' hw hf => giveG_of rfl (by simp) fun K hK => ?_) ?_
        · have h14 := hf 8 _ rfl (by kernel_rfl)
          simp only [h14] at hK ⊢
          go_simp
          exact hK _ _ ⟨rfl, Ext.refl _⟩
        simp only [Act.put, List.setIfInBounds_toArray, List.set_cons_zero, List.set_cons_succ, Nat.reduceAdd, Nat.zero_add]
        refine Seq.nil fun W' hw hf => tail_none (by kernel_rfl) ?_
        have h16 := hf 9 _ (by omega) rfl
        rw [h16]
        have HE5 := Lib.hid (HE.out.trans ((Ext.drew wr).trans hw))
        clear hf hw x0 x1 x2 x3 h16
        generalize ν 8 = v8
        by_cases h0 : R = 0
        · have hb0 : (R != 0) = false := by simp [h0]
          have hne : checkGo n p k (l.drop k) = checkGo n (some x) (k + 1) (l.drop (k + 1)) := by
            rw [HX.out.2]; conv => lhs; unfold checkGo
            rw [if_neg (by rw [HR.out]; exact fun q => q h0)]
          have HN := Lib.hid hne
          have HF := Lib.hid (refusedE_formed (HR.out.trans h0))
          clear hne h0
          go_wp2_with fail
          go_roundw
          case rel => exact ⟨k + 1, some x, by omega, by go_num, HE5.out, by rw [if_neg (by omega), Nat.add_sub_cancel, HX.out.1], (fun y hy => by cases hy; exact HF.out), HN.out.symm.trans HP.out.2.2⟩
          case measure => simp [intOf]; omega
        · have hb0 : (R != 0) = true := by simp [h0]
          have hne : Q = ((k : Int), R) := by
            rw [← HP.out.2.2, HX.out.2]; unfold checkGo
            rw [if_pos (by rw [HR.out]; exact h0), HR.out]
          have HN := Lib.hid hne
          clear hne h0
          go_wp2_with fail
          go_ret2
          exact ⟨by rw [HN.out]; rfl, HE5.out⟩
      · have hltz : ¬ ((k : Int) < l.length) := by omega
        have hne : Q = (0, 0) := by
          rw [← HP.out.2.2, List.drop_of_length_le (by omega)]; rfl
        have HN := Lib.hid hne
        clear hne hE
        go_wp2_with fail
        go_ret2
        exact ⟨by rw [HN.out]; rfl, HE.out⟩
  · have hn1 : inB n 2 5 = false := by simpa using hn
    have hP : checkP n l = (0, 1) := by unfold checkP; rw [if_neg hn]
    rw [hP]
    go_enter Tryz.func48, Tryz.ntmps48
    go_wp2_with (go_at_call 107; refine (manyR_any _ _).mono ?_; rintro e w' ⟨rfl, hw⟩; cases hw; rw [hn1])
    go_ret2
    exact ⟨rfl, Ext.refl _⟩
theorem wpList_app23 {ops : Array Oper} {rest : List Oper} {o : Oper} {a : Act} {w : World} {Q : Exit → Act → World → Prop} (hgd : o.guard = none) (s x : Operand)
    (ho : o.op = .call { callee := .builtin .append, args := #[s, x], argTypes := #[23, 23] })
    (base : Nat) (v : Value) (xs : List Rec) (h : OwnR w base v xs) (y : Rec) (g m c : Nat) (hs : a.eval s = v) (hx : a.eval x = .slice (some ⟨g, 0, none⟩) m c) (hm : m = 1)
    (hc : ∀ j u, (flat [y])[j]? = some u → w.cell? ⟨g, j, none⟩ = some u) (hn : xs.length + 1 ≤ 1000000) (hb : base ≤ w.heap.size)
    (hK : ∀ v' w', OwnR w' base v' (xs ++ [y]) → Below base w w' → wpList Tryz.prog ops Q rest (a.put o.dst v') w') :
    wpList Tryz.prog ops Q (o :: rest) a w := by
  subst hm
  obtain ⟨i0, hi0, hz0, hz1, hz2⟩ := info_parts info49
  obtain ⟨gg, cap, w', h1, h2, h3, h4, h5⟩ := run_append_app (P := Tryz.prog) w base 23 o.type 49 i0 _ 4 40 Tryz.underlying23 hi0 hz0 hz1 hz2 rfl (by omega) v xs.length (flat xs) h ⟨g, 0, none⟩ 1 c (flat [y]) (flat_length [y]) (fun j u hu => by rw [addr_add]; exact hc j u hu) (flat_oneCell [y]) (by omega) (by unfold maxLen; omega) (by omega) hb
  exact Lib.wpList_append_run w hgd s x 23 23 ho v _ hs hx _ w' h1 (hK _ w' (by unfold OwnR; rw [List.length_append, flat_append]; exact h2) (h3.below hb (OwnR.base h)))
/-- The records of a station. -/
def ofL (l : List Rec) (s : Int) : List Rec := l.filter fun x => x.st == s
theorem filter_take (p : Rec → Bool) (l : List Rec) (k : Nat) (x : Rec) (hx : l[k]? = some x) : (l.take (k + 1)).filter p = if p x = true then (l.take k).filter p ++ [x] else (l.take k).filter p := by
  rw [List.take_add_one, hx, List.filter_append]
  by_cases h : p x = true
  · rw [if_pos h]; simp [h]
  · rw [if_neg h]; simp [h]
set_option maxHeartbeats 800000 in
set_option maxRecDepth 100000 in
theorem ofR_any (v : Value) (l : List Rec) (s : Int) (w : World) (hv : SlR w v l) (hl : l.length ≤ 100000) :
    Calls Tryz.prog 121 #[v, .int .i64 s] w fun e w' => ∃ v', e = .returned v' ∧ OwnR w' w.heap.size v' (ofL l s) ∧ Ext w w' := by
  obtain ⟨ao, cap, rfl, hc⟩ := hv.open
  have HC := Lib.hid hc
  clear hv hc
  go_enter Tryz.func121, Tryz.ntmps121
  go_wp2_with fail
  go_loopw [5, 6] (fun o i wr => ∃ k : Nat, k ≤ l.length ∧ i = .int .i64 k ∧ Ext w wr ∧ OwnR wr w.heap.size o (ofL (l.take k) s)) (fun _ i _ => l.length - (intOf i).toNat)
  case atStart => exact ⟨0, by omega, rfl, Ext.refl _, World.ownsRow_nil _ _ _ _⟩
  case round =>
    obtain ⟨k, hk, rfl, hE, hO⟩ := hrel
    obtain ⟨a, m, c, rfl⟩ := OwnR.shape3 hO
    have HE := Lib.hid hE
    have HO := Lib.hid hO
    clear hO
    by_cases hlt : k < l.length
    · obtain ⟨x, hx⟩ : ∃ x, l[k]? = some x := ⟨_, List.getElem?_eq_getElem hlt⟩
      obtain ⟨b, off, rfl, hb, x0, x1, x2, x3⟩ := HC.out k x hx
      replace x0 := hE.keep x0
      replace x1 := hE.keep x1
      replace x2 := hE.keep x2
      replace x3 := hE.keep x3
      have hltz : (k : Int) < l.length := by omega
      have HF := Lib.hid (filter_take (fun x => x.st == s) l k x hx)
      have hlo : (ofL (l.take k) s).length ≤ k := by
        have := List.length_filter_le (fun x => x.st == s) (l.take k)
        rw [List.length_take] at this
        unfold ofL; omega
      clear hx
      by_cases hs : x.st = s
      · have hb0 : (x.st == s) = true := by simp [hs]
        have hF2 : RowKit.Hid (ofL (l.take (k + 1)) s = ofL (l.take k) s ++ [x]) := Lib.hid (HF.out.trans (by rw [if_pos hb0]; rfl))
        have hEa := Ext.alloc wr (.cells #[.int .i64 x.st, .int .i64 x.num, .int .i64 x.hr, .string x.txt] 49)
        have hOa := HO.out.ext hEa
        have HOa := Lib.hid hOa
        have HEa := Lib.hid (hE.trans hEa)
        clear hs hEa hOa hE
        go_wp2_with (at_builtin; refine wpList_app23 rfl (.tmp 20) (.tmp 25) rfl w.heap.size _ (ofL (l.take k) s) HOa.out x wr.heap.size 1 1 rfl rfl rfl (fun j u hu => by have := cells_new wr (flat [x]) 49 wr.heap.size rfl j u hu; rwa [addr_add] at this) (by omega) (by have := HEa.out.size; exact this) ?_)
        intro v' w5 hO5 hb5
        have HO5 := Lib.hid hO5
        have HE5 := Lib.hid (Below.trans (B := w.heap.size) HEa.out hb5)
        obtain ⟨a5, m5, c5, rfl⟩ := OwnR.shape3 hO5
        clear hO5 hb5
        go_wp2_with fail
        go_roundw
        case rel => exact ⟨k + 1, by omega, by go_num, HE5.out, by rw [hF2.out]; exact HO5.out⟩
        case measure => simp [intOf]; omega
      · have hb0 : (x.st == s) = false := by simp [hs]
        have hF2 : RowKit.Hid (ofL (l.take (k + 1)) s = ofL (l.take k) s) := Lib.hid (HF.out.trans (by rw [if_neg (by rw [hb0]; decide)]; rfl))
        clear hs hE
        go_wp2_with fail
        go_roundw
        case rel => exact ⟨k + 1, by omega, by go_num, HE.out, by rw [hF2.out]; exact HO.out⟩
        case measure => simp [intOf]; omega
    · have hltz : ¬ ((k : Int) < l.length) := by omega
      have hfin : RowKit.Hid (ofL (l.take k) s = ofL l s) := Lib.hid (by rw [List.take_of_length_le (by omega)])
      clear hE
      go_wp2_with fail
      go_ret
      exact ⟨_, rfl, by rw [← hfin.out]; exact HO.out, HE.out⟩
end Go.Proofs.YtgjahnomafpnfaaGreatDoor
