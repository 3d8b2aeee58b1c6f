/- The witness world of every law of this seat: its shape, and that it bears what the rows list. -/
import Derived.Test.YtgjahnomafpnfaaGreatDoorMB7
import Derived.Laws.CopyOwn
import Derived.Laws.StructEq
import Derived.Test.YtgjahnomafpnfaaGreatDoorRows
import Derived.Shelf.Vars
import Derived.ProofKit
import Derived.LaidMore
import Derived.OpenShut
import Derived.Stop.Joined
import Derived.Lib.LaidU8
import Derived.Lay
set_option linter.unusedVariables false
set_option linter.unusedSimpArgs false
/- (*Station).greeted. -/
namespace Go.Proofs.YtgjahnomafpnfaaGreatDoor
open Go.RowKit
theorem u27 : Tryz.prog.underlying 27 = some (.slice 3) := by kernel_rfl
theorem size3 : (Tryz.prog.info? 3).map (·.size) = some 1 := by kernel_rfl
/-- Five numbers: those of a greeting, and zeros. -/
def pad5 (gs : List Int) : List Int := gs ++ List.replicate (5 - gs.length) 0
theorem pad5_len {gs : List Int} (h : gs.length ≤ 5) : (pad5 gs).length = 5 := by simp [pad5]; omega
theorem pad5_splice {gs : List Int} (h : gs.length ≤ 5) : splice [.int .i64 0, .int .i64 0, .int .i64 0, .int .i64 0, .int .i64 0] 0 (ints gs) = ints (pad5 gs) := by
  match gs, h with
  | [], _ => rfl
  | [_], _ => rfl
  | [_, _], _ => rfl
  | [_, _, _], _ => rfl
  | [_, _, _, _], _ => rfl
  | [_, _, _, _, _], _ => rfl
  | _ :: _ :: _ :: _ :: _ :: _ :: _, h => simp at h
theorem cell_of_heap {w : World} {g : Nat} {cs : List Value} {t : TypeId} (h : w.heap[g]? = some (.cells cs.toArray t (0, 0))) (j : Nat) : w.cell? ⟨g, j, none⟩ = cs[j]? := by
  simp [World.cell?, h]
theorem SlR.take {w : World} {a : Option Addr} {l c : Nat} {xs : List Rec} (h : SlR w (.slice a l c) xs) (k : Nat) (hk : k ≤ xs.length) : SlR w (.slice a k c) (xs.take k) := by
  rcases h with ⟨h1, h2⟩ | ⟨b, off, cap, h1, h2, h3, h4, h5⟩
  · subst h2
    cases h1
    obtain rfl : k = 0 := by simpa using hk
    exact .inl ⟨rfl, rfl⟩
  · cases h1
    refine .inr ⟨b, off, c, by simp [Nat.min_eq_left hk], by simp; omega, h3, h4, fun j u hu => h5 j u ?_⟩
    have e : flat xs = flat (xs.take k) ++ flat (xs.drop k) := by rw [← flat_append, List.take_append_drop]
    rw [e, List.getElem?_append_left (List.getElem?_eq_some_iff.1 hu).1]
    exact hu
/-- The records of a book that somebody with a stock lacks. -/
def lackL (rows : List (List Rec)) (gs : List Int) : List Rec := rows.flatten.filter fun x => !hasB ((pad5 gs).getD 0 0) ((pad5 gs).getD 1 0) ((pad5 gs).getD 2 0) ((pad5 gs).getD 3 0) ((pad5 gs).getD 4 0) x
/-- Is a number of a greeting greater than the own? -/
def moreB (rows : List (List Rec)) (gs : List Int) : Bool := (List.range gs.length).any fun i => decide (((rows.getD i []).length : Int) < gs.getD i 0)
/-- The answer to a greeting. -/
def greetedP (n : Nat) (rows : List (List Rec)) (gs : List Int) : ByteArray :=
  if 0 < (lackL rows gs).length then letterB ((lackL rows gs).take 10) else if moreB rows gs then greetB ((lensB rows).take n) else ⟨#[]⟩
set_option maxHeartbeats 1600000 in
set_option maxRecDepth 100000 in
theorem greeted_any {B' : Nat} {w : World} (hL : Laid B' w) (B base : Nat) (d : Option Addr) (me next : Int) (n : Nat) (rs : List (Option Nat)) (vs : List Value) (rows : List (List Rec)) (h : StX w base B d me n next rs vs rows) (hn : n ≤ 5)
    (gv : Value) (gs : List Int) (hg : SlI w gv gs) (hgl : gs.length ≤ 5) (hrows : ∀ r ∈ rows, r.length ≤ 100000) (hst : ∀ r ∈ rows, ∀ x ∈ r, (0 ≤ x.st ∧ x.st < 5) ∧ x.fits) :
    Calls Tryz.prog 76 #[.pointer (some ⟨B, 0, none⟩), gv] w fun e w' => e = .returned (.string (greetedP n rows gs)) ∧ Ext w w' := by
  obtain ⟨P, hP⟩ : ∃ P, greetedP n rows gs = P := ⟨_, rfl⟩
  rw [hP]
  unfold greetedP at hP
  have hbw := h.books.lt
  have H := Lib.hid h
  have HL := Lib.hid hL
  have HR := Lib.hid hrows
  have HT := Lib.hid hst
  have HP := Lib.hid hP
  have HG := Lib.hid hg
  obtain ⟨ao, cap, rfl, hcg⟩ := hg.open
  have HCG := Lib.hid hcg
  have hX := World.alloc_heap_new w (.cells #[.int .i64 0, .int .i64 0, .int .i64 0, .int .i64 0, .int .i64 0] 26)
  have HX := Lib.hid hX
  have HE0 := Lib.hid (Ext.alloc w (.cells #[.int .i64 0, .int .i64 0, .int .i64 0, .int .i64 0, .int .i64 0] 26))
  clear h hL hrows hst hP hg hcg hX
  go_enter Tryz.func76, Tryz.ntmps76
  have hpos : 0 < (ints gs).length → (some (⟨w.heap.size, 0, none⟩ : Addr)) = some ⟨w.heap.size, 0, none⟩ ∧ ∃ ad, ao = some ad ∧ ∀ j v, (ints gs)[j]? = some v → (w.alloc (.cells #[.int .i64 0, .int .i64 0, .int .i64 0, .int .i64 0, .int .i64 0] 26)).cell? (ad.add j) = some v := by
    intro h0
    have h0' : 0 < gs.length := by simpa [ints] using h0
    obtain ⟨b, off, hao, _⟩ := HCG.out 0 gs[0] (List.getElem?_eq_getElem h0')
    refine ⟨rfl, _, hao, fun j v hv => ?_⟩
    obtain ⟨g, hgj, rfl⟩ : ∃ g, gs[j]? = some g ∧ Value.int .i64 g = v := by
      simp only [ints, List.getElem?_map, Option.map_eq_some_iff] at hv
      exact hv
    obtain ⟨b', off', hao', hc'⟩ := HCG.out j g hgj
    rw [hao] at hao'
    cases hao'
    rw [Addr.add_mid]
    exact HE0.out.keep hc'
  have HPos := Lib.hid hpos
  clear hpos
  go_wp2_with (refine wpList_copy_splice rfl (.tmp 10) (.tmp 11) 27 135 rfl 3 u27 size3 _ ao 5 5 gs.length cap rfl rfl w.heap.size 0 [.int .i64 0, .int .i64 0, .int .i64 0, .int .i64 0, .int .i64 0] 26 HX.out (ints gs) (by simp [ints, Nat.min_eq_left hgl]) HPos.out (by simp [ints]; omega) (fun v hv => by simp only [ints, List.mem_map] at hv; obtain ⟨g, _, rfl⟩ := hv; rfl) w.heap.size w HE0.out (Nat.le_refl _) ?_)
  intro w2 hX2 hE2
  have HE2 : RowKit.Hid (Ext w w2) := Lib.hid hE2
  have hX3 := hX2
  unfold RowKit.Hid at hX3
  rw [pad5_splice hgl] at hX3
  obtain ⟨p0, p1, p2, p3, p4, hp⟩ := len5 (pad5_len hgl)
  have hcx := cell_of_heap hX3
  rw [hp] at hcx
  have x0 : w2.cell? ⟨w.heap.size, 0, none⟩ = some (.int .i64 p0) := hcx 0
  have x1 : w2.cell? ⟨w.heap.size, 1, none⟩ = some (.int .i64 p1) := hcx 1
  have x2 : w2.cell? ⟨w.heap.size, 2, none⟩ = some (.int .i64 p2) := hcx 2
  have x3 : w2.cell? ⟨w.heap.size, 3, none⟩ = some (.int .i64 p3) := hcx 3
  have x4 : w2.cell? ⟨w.heap.size, 4, none⟩ = some (.int .i64 p4) := hcx 4
  have hpl := HP.out
  unfold lackL at hpl
  rw [hp] at hpl
  simp only [List.getD_cons_zero, List.getD_cons_succ] at hpl
  have HPL := Lib.hid hpl
  clear hX2 hE2 hX3 hcx hp HP hpl HX HPos
  have hfl : rows.flatten.length ≤ 1000000 := by
    rw [List.length_flatten]
    have h5 := H.out.books.five.lr
    obtain ⟨r0, r1, r2, r3, r4, rfl⟩ := len5 h5
    have a0 := HR.out r0 (by simp)
    have a1 := HR.out r1 (by simp)
    have a2 := HR.out r2 (by simp)
    have a3 := HR.out r3 (by simp)
    have a4 := HR.out r4 (by simp)
    simp; omega
  go_wp2_with fail
  refine wp_drawn 6 (by kernel_rfl) (by kernel_rfl) (fun i => match i with
    | 3 => some fun v w' => SlR w' v rows.flatten
    | 5 => some fun v w' => SlR w' v (rows.flatten.filter fun x => !hasB p0 p1 p2 p3 p4 x)
    | _ => none) ?_ ?_
  · intro j φ hφ v w1 w2 h1 h2
    split at hφ <;> cases hφ
    all_goals exact h1.ext h2
  intro ν
  simp only [List.take_succ_cons, List.take_zero]
  iterate 3 (refine Seq.pure ?_ rfl (fun w' hw hf => ?_) ?_; rotate_left; (· (have hc := hw.cells; unfold pureG; go_simp; with_reducible rfl)); simp only [Act.put, List.setIfInBounds_toArray, List.set_cons_zero, List.set_cons_succ, Nat.reduceAdd, Nat.zero_add])
  refine Seq.eff _ rfl (fun w' hw hf => giveG_of rfl (by simp) fun K hK => ?_) ?_
  · go_simp
    refine (all_any B 3 base rs vs rows _ (H.out.ext (HE2.out.trans ((Ext.drew w2).trans hw))).books hfl).mono ?_
    rintro e w3 ⟨v, rfl, hO, hb⟩
    exact hK _ _ ⟨OwnR.slR hO, hb⟩
  simp only [Act.put, List.setIfInBounds_toArray, List.set_cons_zero, List.set_cons_succ, Nat.reduceAdd, Nat.zero_add]
  iterate 1 (refine Seq.pure ?_ rfl (fun w' hw hf => ?_) ?_; rotate_left; (· (have d0 := hw.keep (w := World.drew _) x0; have d1 := hw.keep (w := World.drew _) x1; have d2 := hw.keep (w := World.drew _) x2; have d3 := hw.keep (w := World.drew _) x3; have d4 := hw.keep (w := World.drew _) x4; unfold pureG; go_simp; with_reducible rfl)); simp only [Act.put, List.setIfInBounds_toArray, List.set_cons_zero, List.set_cons_succ, Nat.reduceAdd, Nat.zero_add])
  refine Seq.eff _ rfl (fun w' hw hf => giveG_of rfl (by simp) fun K hK => ?_) ?_
  · have h3 := hf 3 _ rfl (by kernel_rfl)
    go_simp
    refine (lacks_any _ _ p0 p1 p2 p3 p4 _ h3 (fun x hx => ?_) hfl).mono ?_
    · obtain ⟨r, hr, hxr⟩ := List.mem_flatten.1 hx
      exact (HT.out r hr x hxr).1
    · rintro e w3 ⟨v, rfl, hS, hb⟩
      exact hK _ _ ⟨hS.slR, hb⟩
  simp only [Act.put, List.setIfInBounds_toArray, List.set_cons_zero, List.set_cons_succ, Nat.reduceAdd, Nat.zero_add]
  refine Seq.nil fun W hw hf => tail_one (i := 6) (by kernel_rfl) rfl (by kernel_rfl) rfl ?_
  have h5 := hf 5 _ (by omega) rfl
  obtain ⟨la, lc, hls⟩ := h5.shape
  rw [hls] at h5 ⊢
  have HS5 := Lib.hid h5
  have HW := Lib.hid (HE2.out.trans ((Ext.drew w2).trans hw))
  have hfil : ∀ x ∈ (rows.flatten.filter fun x => !hasB p0 p1 p2 p3 p4 x), x.fits := fun x hx => by
    obtain ⟨r, hr, hxr⟩ := List.mem_flatten.1 (List.mem_filter.1 hx).1
    exact (HT.out r hr x hxr).2
  have HF := Lib.hid hfil
  have hll : (rows.flatten.filter fun x => !hasB p0 p1 p2 p3 p4 x).length ≤ 1000000 := Nat.le_trans (List.length_filter_le _ _) hfl
  generalize (rows.flatten.filter fun x => !hasB p0 p1 p2 p3 p4 x) = L at HS5 HPL HF hll ⊢
  clear hf hw h5 hls hfil x0 x1 x2 x3 x4
  by_cases hL0 : 0 < L.length
  · have hL1 : (0 : Int) < L.length := by omega
    have hP := HPL.out
    rw [if_pos hL0] at hP
    have HP := Lib.hid hP
    clear hP
    obtain ⟨q, hq⟩ : ∃ q, q = min L.length 10 := ⟨_, rfl⟩
    have hmin : min (L.length : Int) 10 = (q : Int) := by omega
    have hcap : L.length ≤ lc := by
      rcases HS5.out with ⟨h1, h2⟩ | ⟨b', off', cap', h1, h2, _⟩
      · rw [h2] at hL0; simp at hL0
      · cases h1; exact h2
    have hq1 : (q : Int) ≤ lc := by omega
    have hq0 : (0 : Int) ≤ (q : Int) := by omega
    have htk : L.take 10 = L.take q := by rw [hq]; rcases Nat.le_total L.length 10 with h | h; (rw [Nat.min_eq_left h, List.take_of_length_le h, List.take_of_length_le (Nat.le_refl _)]); rw [Nat.min_eq_right h]
    have hlt := Lib.hid (letterText_any (HL.out.ext HW.out) _ _ (HS5.out.take q (by omega)) (fun x hx => HF.out x (List.mem_of_mem_take hx)) (by rw [List.length_take]; omega))
    rw [htk] at HP
    clear hq htk hcap
    go_wp2_with fail
    refine hlt.out.mono ?_
    rintro e w5 ⟨rfl, hE5⟩
    go_wp2
    go_ret
    exact ⟨ret_val (by rw [← HP.out]; rfl), HW.out.trans hE5⟩
  · have hL1 : ¬ (0 : Int) < L.length := by omega
    have hP := HPL.out
    rw [if_neg hL0] at hP
    have HP := Lib.hid hP
    clear hP
    have HGr := Lib.hid (Greeting_any (HL.out.ext HW.out) B base d me next n rs vs rows (H.out.ext HW.out) hn (fun r hr => by have := HR.out r hr; omega))
    go_wp2_with fail
    go_loop [30, 7, 8] (fun i _ _ => ∃ k : Nat, k ≤ gs.length ∧ i = .int .i64 k ∧ ∀ j, j < k → ¬ ((rows.getD j []).length : Int) < gs.getD j 0) (fun i _ _ => gs.length - (intOf i).toNat)
    case atStart => exact ⟨0, by omega, rfl, by omega⟩
    case round =>
      obtain ⟨k, hk, rfl, hj⟩ := hrel
      have HJ := Lib.hid hj
      clear hj
      by_cases hlt : k < gs.length
      · have hk5 : k < 5 := by omega
        have hkr : k < rows.length := by rw [H.out.books.five.lr]; exact hk5
        obtain ⟨g, hg⟩ : ∃ g, gs[k]? = some g := ⟨_, List.getElem?_eq_getElem hlt⟩
        obtain ⟨b, off, rfl, hcell⟩ := HCG.out k g hg
        have hcell2 := HW.out.keep hcell
        obtain ⟨v, hv⟩ : ∃ v, vs[k]? = some v := ⟨vs[k]'(by rw [H.out.books.five.lv]; exact hk5), by simp⟩
        obtain ⟨r, hr⟩ : ∃ r, rs[k]? = some r := ⟨rs[k]'(by rw [H.out.books.five.ls]; exact hk5), by simp⟩
        have hrw : rows[k]? = some (rows.getD k []) := by rw [List.getElem?_eq_getElem hkr]; simp [List.getD, hkr]
        obtain ⟨ra, rc, hrv⟩ := (H.out.books.five.row k r v _ hr hv hrw).shape
        have hbc := HW.out.keep (H.out.books.cell k v hv)
        rw [hrv] at hbc
        have hgd : gs.getD k 0 = g := by simp [List.getD, hg]
        have HGD := Lib.hid hgd
        generalize hrl : (rows.getD k []).length = rl at hbc
        have HRL := Lib.hid hrl
        have hlt' : (k : Int) < gs.length := by omega
        have hk0 : (0 : Int) ≤ (k : Int) := by omega
        have hk5' : (k : Int) < 5 := by omega
        clear hcell hg hv hr hrw hrv hgd hrl
        by_cases hgt : (rl : Int) < g
        · have hP : RowKit.Hid (greetB ((lensB rows).take n) = P) := by
            have := HP.out
            rw [if_pos (by unfold moreB; rw [List.any_eq_true]; exact ⟨k, List.mem_range.2 hlt, by rw [HRL.out, HGD.out]; simpa using hgt⟩)] at this
            exact Lib.hid this
          go_wp2_with fail
          refine HGr.out.mono ?_
          rintro e w5 ⟨rfl, hE5⟩
          go_wp2
          go_ret
          exact ⟨ret_val (by rw [← hP.out]; rfl), HW.out.trans hE5⟩
        · go_wp2_with fail
          go_round
          case rel => exact ⟨k + 1, by omega, by go_num, fun j h => by
            rcases (by omega : j < k ∨ j = k) with h | rfl
            · exact HJ.out j h
            · rw [HRL.out, HGD.out]; omega⟩
          case measure => simp [intOf]; omega
      · have hge : ¬ ((k : Int) < gs.length) := by omega
        have hP : RowKit.Hid ((⟨#[]⟩ : ByteArray) = P) := by
          have := HP.out
          rw [if_neg (by
            intro h
            unfold moreB at h
            rw [List.any_eq_true] at h
            obtain ⟨j, hj1, hj2⟩ := h
            exact HJ.out j (by have := List.mem_range.1 hj1; omega) (by simpa using hj2))] at this
          exact Lib.hid this
        go_wp2
        go_ret
        exact ⟨ret_val (by rw [← hP.out]; rfl), HW.out⟩
end Go.Proofs.YtgjahnomafpnfaaGreatDoor

/- Clip; told: its words. -/
namespace Go.Proofs.YtgjahnomafpnfaaGreatDoor
open Go.RowKit
set_option maxHeartbeats 400000 in
set_option maxRecDepth 100000 in
theorem Clip_any (a : Option Addr) (l c : Nat) (w : World) (h : l ≤ c) (hc : c ≤ maxLen) (h0 : a = none → l = 0) : Calls Tryz.prog 141 #[.slice a l c] w fun e w' => e = .returned (.slice a l l) ∧ w' = w := by
  unfold maxLen at hc
  have hl : (l : Int) ≤ (c : Int) := by omega
  have h00 : (0 : Int) ≤ (l : Int) := by omega
  cases a with
  | none =>
    obtain rfl := h0 rfl
    go_enter Tryz.func141, Tryz.ntmps141
    go_wp2
    go_ret
    exact ⟨rfl, rfl⟩
  | some a =>
    clear h0
    go_enter Tryz.func141, Tryz.ntmps141
    go_wp2
    go_ret
    exact ⟨rfl, rfl⟩
/-- Are two records equal? -/
def recB (x y : Rec) : Bool := x.st == y.st && (x.num == y.num && (x.hr == y.hr && x.txt.toList == y.txt.toList))
theorem recB_iff (x y : Rec) : recB x y = true ↔ x = y := by
  obtain ⟨a, b, c, d⟩ := x
  obtain ⟨a', b', c', d'⟩ := y
  simp only [recB, Bool.and_eq_true, beq_iff_eq, Rec.mk.injEq]
  refine ⟨fun ⟨h1, h2, h3, h4⟩ => ⟨h1, h2, h3, (Lib.bytes_beq_iff _ _).1 (by simpa using h4)⟩, fun ⟨h1, h2, h3, h4⟩ => ⟨h1, h2, h3, by rw [h4]⟩⟩
theorem fields49 : Tryz.prog.underlying 49 = some (.struct (Tryz.prog.fieldsOf 49)) := by kernel_rfl
theorem stood49 : Tryz.prog.stoodInHeld 49 = false := by kernel_rfl
theorem neq49 (a b c a' b' c' : Int) (d d' : ByteArray) (w : World) : (binOp .neq 49 (.agg #[.int .i64 a, .int .i64 b, .int .i64 c, .string d]) (.agg #[.int .i64 a', .int .i64 b', .int .i64 c', .string d'])).run Tryz.prog w = .ok (.bool (!recB ⟨a, b, c, d⟩ ⟨a', b', c', d'⟩)) w := by
  rw [run_neq_struct, run_equalIn_agg _ _ _ _ _ fields49 stood49]
  simp [Program.fieldsOf, Tryz.underlying49, Op.eqFields, go_sem]
  by_cases h1 : a = a' <;> by_cases h2 : b = b' <;> by_cases h3 : c = c' <;> by_cases h4 : d.toList = d'.toList <;> simp [recB, *]
/-- What a station takes of a letter: its rows, what is added; none: it refuses. -/
def toldGo (me : Int) : List (List Rec) → List Rec → List Rec → Option (List Rec)
  | _, added, [] => some added
  | rows, added, x :: l =>
    if x.num ≤ ((rows.getD x.st.toNat []).length : Int) then (if recB ((rows.getD x.st.toNat []).getD (x.num - 1).toNat default) x then toldGo me rows added l else none)
    else if x.st = me then none
    else if x.num = ((rows.getD x.st.toNat []).length : Int) + 1 then (if followsE (rows.getD x.st.toNat []) x = 0 then toldGo me (addRow rows x) (added ++ [x]) l else none)
    else toldGo me rows added l
/-- A record appended to a letter of one's own, and what it turns. -/
theorem wpList_app137x {ops : Array Oper} {rest : List Oper} {o : Oper} {a : Act} {w : World} {Q : Exit → Act → World → Prop} (hgd : o.guard = none) (s x : Operand)
    (ho : o.op = .call { callee := .builtin .append, args := #[s, x], argTypes := #[137, 137] })
    (base : Nat) (v : Value) (xs : List Rec) (h : OwnR w base v xs) (y : Rec) (g m c : Nat) (hs : a.eval s = v) (hx : a.eval x = .slice (some ⟨g, 0, none⟩) m c) (hm : m = 1)
    (hc : ∀ j u, (flat [y])[j]? = some u → w.cell? ⟨g, j, none⟩ = some u) (hn : xs.length + 1 ≤ 1000000) (hb : base ≤ w.heap.size)
    (hK : ∀ v' w', OwnR w' base v' (xs ++ [y]) → ExtApp v.ownBlock (xs.length * 4) (flat [y]) w w' → (∀ g, v'.ownBlock = some g → g = w.heap.size ∨ v.ownBlock = some g) → wpList Tryz.prog ops Q rest (a.put o.dst v') w') :
    wpList Tryz.prog ops Q (o :: rest) a w := by
  subst hm
  obtain ⟨i0, hi0, hz0, hz1, hz2⟩ := info_parts info49
  obtain ⟨gg, cap, w', h1, h2, h3, h4, h5⟩ := run_append_app (P := Tryz.prog) w base 137 o.type 49 i0 _ 4 40 u137 hi0 hz0 hz1 hz2 rfl (by omega) v xs.length (flat xs) h ⟨g, 0, none⟩ 1 c (flat [y]) (flat_length [y]) (fun j u hu => by rw [addr_add]; exact hc j u hu) (flat_oneCell [y]) (by omega) (by unfold maxLen; omega) (by omega) hb
  exact Lib.wpList_append_run w hgd s x 137 137 ho v _ hs hx _ w' h1 (hK _ w' (by unfold OwnR; rw [List.length_append, flat_append]; exact h2) h3 (fun g hg => by cases hg; exact h4))
def clipV : Value → Value
  | .slice a l _ => .slice a l l
  | v => v
/-- The clipped rows of a shelf are one's own shelf, every row full. -/
theorem RowR.clip {w w' : World} {base : Nat} {r : Option Nat} {v : Value} {xs : List Rec} (h : RowR w base r v xs) (hE : Ext w w') (hb0 : base ≤ w.heap.size) : RowR w' w.heap.size none (clipV v) xs := by
  rcases h with ⟨h, h1⟩ | ⟨⟨g, h1, h2, h3⟩, h4⟩
  · rcases h.2 with ⟨hv, h0⟩ | ⟨g, cap, cur, hv, hb, hg, hn, hm, hs, ht⟩
    · obtain rfl := List.eq_nil_of_length_eq_zero h0
      subst hv
      exact .inl ⟨World.ownsRow_nil _ _ _ _, rfl⟩
    · subst hv
      refine .inr ⟨⟨g, rfl, (Array.getElem?_eq_some_iff.1 hg).1, fun j u hu => ?_⟩, rfl⟩
      have := OwnR.slR h
      rcases this with ⟨h5, _⟩ | ⟨b, off, cap', h5, _, _, _, h6⟩
      · cases h5
      · cases h5
        have := hE.keep (h6 j u hu)
        rwa [Nat.zero_add] at this
  · subst h1
    exact .inr ⟨⟨g, rfl, by omega, fun j u hu => hE.keep (h3 j u hu)⟩, rfl⟩
/-- Where the loop of told stands. -/
structure TRel (w wr : World) (Bk : Nat) (rs : List (Option Nat)) (vs : List Value) (rows : List (List Rec)) (av : Value) (added : List Rec) (me : Int) (xs : List Rec) (k : Nat) (P : Option (List Rec)) : Prop where
  kn : k ≤ xs.length
  shelf : ShelfX wr w.heap.size Bk 0 rs vs rows
  row : OwnR wr w.heap.size av added
  sep : ∀ g, av.ownBlock = some g → g ≠ Bk ∧ some g ∉ rs
  be : Ext w wr
  go : toldGo me rows added (xs.drop k) = P
  len : ∀ r ∈ rows, r.length ≤ 100000 + k
  al : added.length ≤ k
  mem : ∀ x ∈ added, x ∈ xs
  bk : w.heap.size ≤ Bk
theorem TRel.skip {w wr w' : World} {Bk : Nat} {rs : List (Option Nat)} {vs : List Value} {rows : List (List Rec)} {av : Value} {added : List Rec} {me : Int} {xs : List Rec} {k : Nat} {P : Option (List Rec)} (h : TRel w wr Bk rs vs rows av added me xs k P) (hE : Ext wr w') (hk : k < xs.length) (hgo : toldGo me rows added (xs.drop (k + 1)) = P) : TRel w w' Bk rs vs rows av added me xs (k + 1) P :=
  ⟨hk, h.shelf.ext hE, h.row.ext hE, h.sep, h.be.trans hE, hgo, fun r hr => by have := h.len r hr; omega, by have := h.al; omega, h.mem, h.bk⟩
theorem TRel.add {w wr W5 W6 W7 W8 : World} {Bk : Nat} {rs rs6 : List (Option Nat)} {vs vs6 : List Value} {rows : List (List Rec)} {av av8 : Value} {added : List Rec} {me : Int} {xs : List Rec} {k : Nat} {P : Option (List Rec)} {x : Rec} (h : TRel w wr Bk rs vs rows av added me xs k P) (hE5 : Ext wr W5) (hS : ShelfX W6 w.heap.size Bk 0 rs6 vs6 (addRow rows x)) (hF : FrS Bk 0 rs rs6 W5 W6) (hE7 : Ext W6 W7)
    (hO : OwnR W8 w.heap.size av8 (added ++ [x])) (hA : ExtApp av.ownBlock (added.length * 4) (flat [x]) W7 W8) (hn : ∀ g, av8.ownBlock = some g → g = W7.heap.size ∨ av.ownBlock = some g) (hx : xs[k]? = some x) (hk5 : x.st.toNat < rows.length) (hgo : toldGo me (addRow rows x) (added ++ [x]) (xs.drop (k + 1)) = P) :
    TRel w W8 Bk rs6 vs6 (addRow rows x) av8 (added ++ [x]) me xs (k + 1) P := by
  have hk := (List.getElem?_eq_some_iff.1 hx).1
  have hsz5 := hE5.size
  have hszw := h.be.size
  have hsz6 := hF.size
  have hsz7 := hE7.size
  have hge := h.shelf.five.ge
  have hge6 := hS.five.ge
  have hrow := fun g (hg : av.ownBlock = some g) => h.row.lt g hg
  have hsep6 : ∀ g, av.ownBlock = some g → g ≠ Bk ∧ some g ∉ rs6 := fun g hg => by
    refine ⟨(h.sep g hg).1, fun e => ?_⟩
    rcases hF.new g e with q | q
    · exact (h.sep g hg).2 q
    · have := (hrow g hg).2; omega
  have hFA := hA.frB
  have hlen5 := h.shelf.five.lr
  refine ⟨hk, (hS.ext hE7).frB hFA (fun e => (hsep6 Bk e).1 rfl) (fun g hg e => (hsep6 g e).2 hg) (fun j hj => (hrow j hj).1), hO, fun g hg => ?_, ?_, hgo, ?_, ?_, ?_, h.bk⟩
  · rcases hn g hg with q | q
    · refine ⟨fun e => ?_, fun e => ?_⟩
      · have := hS.lt; omega
      · have := (hge6 g e).2; omega
    · exact hsep6 g q
  · have b1 : Below w.heap.size w W5 := h.be.trans hE5
    have b2 : Below w.heap.size W5 W6 := hF.below b1.size h.bk (fun g hg => (hge g hg).1)
    have b3 : Below w.heap.size W6 W7 := Below.mono hE7 (by omega)
    have b4 : Below w.heap.size W7 W8 := hFA.below (by omega) (fun j hj => (hrow j hj).1)
    exact ((b1.trans b2).trans b3).trans b4
  · intro r hr
    rcases List.mem_or_eq_of_mem_set hr with q | q
    · have := h.len r q; omega
    · rw [q, List.length_append, List.length_singleton]
      have hm : rows.getD x.st.toNat [] ∈ rows := by simp [List.getD, hk5]
      have := h.len _ hm
      omega
  · have := h.al; simp; omega
  · intro y hy
    rcases List.mem_append.1 hy with q | q
    · exact h.mem y q
    · rw [List.mem_singleton.1 q]; exact List.mem_of_getElem? hx
end Go.Proofs.YtgjahnomafpnfaaGreatDoor

/- (*Station).told. -/
namespace Go.Proofs.YtgjahnomafpnfaaGreatDoor
open Go.RowKit
/-- What told comes to. -/
def ToldPost (w : World) (base S D N K z : Nat) (wv : Value) (rs : List (Option Nat)) (me : Int) (n next : Nat) (rows : List (List Rec)) (m : Dk) (o : Option (List Rec)) (e : Ending) (w' : World) : Prop :=
  match o with
  | none => e = .returned (.tuple #[.string ⟨#[]⟩, .int .i64 8]) ∧ Ext w w'
  | some added => if added = [] then e = .returned (.tuple #[.string ⟨#[]⟩, .int .i64 0]) ∧ Ext w w'
    else if (saveP z m next (titleB me n ++ letterB added).data.toList).2.1 = 0 then e = .returned (.tuple #[.string (greetB ((lensB (addAll rows added)).take n)), .int .i64 0]) ∧ KeepStep w w' base S D N K z wv rs me n (saveP z m next (titleB me n ++ letterB added).data.toList).1 (addAll rows added) (saveP z m next (titleB me n ++ letterB added).data.toList).2.2
    else e = .returned (.tuple #[.string ⟨#[]⟩, .int .i64 (saveP z m next (titleB me n ++ letterB added).data.toList).2.1]) ∧ KeepStep w w' base S D N K z wv rs me n next rows (saveP z m next (titleB me n ++ letterB added).data.toList).2.2
theorem addAll_le {c : Nat} : ∀ (xs : List Rec) (rows : List (List Rec)), (∀ r ∈ rows, r.length ≤ c) → ∀ r ∈ addAll rows xs, r.length ≤ c + xs.length := by
  intro xs
  induction xs generalizing c with
  | nil => intro rows h r hr; have := h r hr; simp; omega
  | cons x xs ih =>
    intro rows h r hr
    have := ih (c := c + 1) (addRow rows x) (fun r hr => by
      rcases List.mem_or_eq_of_mem_set hr with q | q
      · have := h r q; omega
      · rw [q, List.length_append, List.length_singleton]
        by_cases hk : x.st.toNat < rows.length
        · have hm : rows.getD x.st.toNat [] ∈ rows := by simp [List.getD, hk]
          have := h _ hm; omega
        · simp [List.getD, hk]) r hr
    simp; omega
theorem KeepStep.ext {w w1 w' : World} {base S D N K z : Nat} {wv : Value} {rs : List (Option Nat)} {me n : Int} {next : Nat} {rows : List (List Rec)} {m : Dk} (h : KeepStep w w1 base S D N K z wv rs me n next rows m) (hE : Ext w1 w') : KeepStep w w' base S D N K z wv rs me n next rows m := by
  obtain ⟨⟨wv', rs', vs', h1, h2⟩, h3⟩ := h
  exact ⟨⟨wv', rs', vs', h1.ext hE, h2⟩, h3.trans (FrB.ext hE) (fun _ _ e => e)⟩
/-- Where the first loop of told stands. -/
structure CRel (w wr : World) (vs : List Value) (k : Nat) : Prop where
  kn : k ≤ 5
  cell : ∀ (j : Nat) v, vs[j]? = some v → wr.cell? ⟨w.heap.size, j, none⟩ = some (if j < k then clipV v else .slice none 0 0)
  free : ∀ j, wr.frozen? ⟨w.heap.size, j, none⟩ = false
  be : Ext w wr
theorem CRel.start (w : World) (vs : List Value) (h : vs.length = 5) : CRel w (w.alloc (.cells #[.slice none 0 0, .slice none 0 0, .slice none 0 0, .slice none 0 0, .slice none 0 0] 126)) vs 0 := by
  refine ⟨by omega, fun j v hv => ?_, fun j => World.frozen?_alloc_new w _ _ j, Ext.alloc _ _⟩
  have hj : j < 5 := by have := (List.getElem?_eq_some_iff.1 hv).1; omega
  rw [World.cell?_alloc_new, if_neg (by omega)]
  match j, hj with
  | 0, _ | 1, _ | 2, _ | 3, _ | 4, _ => rfl
theorem CRel.step {w wr : World} {vs : List Value} {k : Nat} {v : Value} (h : CRel w wr vs k) (hk : k < 5) (hv : vs[k]? = some v) : CRel w (wr.setCell ⟨w.heap.size, k, none⟩ (clipV v)) vs (k + 1) := by
  refine ⟨hk, fun j u hu => ?_, fun j => by rw [World.frozen?_setCell]; exact h.free j, h.be.setCell (Nat.le_refl _) _⟩
  by_cases e : j = k
  · subst e
    rw [hv] at hu
    cases hu
    rw [World.cell?_setCell_same _ _ _ (h.cell j v hv), if_pos (by omega)]
  · rw [World.cell?_setCell_other _ _ _ _ (fun q => e (congrArg Addr.off q).symm), h.cell j u hu]
    by_cases hlt : j < k
    · rw [if_pos hlt, if_pos (by omega)]
    · rw [if_neg hlt, if_neg (by omega)]
theorem CRel.shelf {w wr : World} {base S : Nat} {rs : List (Option Nat)} {vs : List Value} {rows : List (List Rec)} (h : CRel w wr vs 5) (hS : ShelfX w base S 3 rs vs rows) : ShelfX wr w.heap.size w.heap.size 0 [none, none, none, none, none] (vs.map clipV) rows := by
  have hsz := h.be.size
  refine ⟨⟨rfl, by simp [hS.five.lv], hS.five.lr, hsz, fun k r v xs h1 h2 h3 => ?_, fun j k r r' _ h1 _ => .inl ?_⟩, ?_, fun k v hv => ?_, fun k _ => by rw [Nat.zero_add]; exact h.free k, fun k v hv => ?_⟩
  · have hr : r = none := by simpa using List.mem_of_getElem? h1
    subst hr
    rw [List.getElem?_map, Option.map_eq_some_iff] at h2
    obtain ⟨u, hu, rfl⟩ := h2
    have hk5 : k < 5 := by have := (List.getElem?_eq_some_iff.1 hu).1; rw [hS.five.lv] at this; exact this
    obtain ⟨r', hr'⟩ : ∃ r', rs[k]? = some r' := ⟨rs[k]'(by rw [hS.five.ls]; exact hk5), by simp⟩
    exact (hS.five.row k r' u xs hr' hu h3).clip h.be hS.five.le
  · simpa using List.mem_of_getElem? h1
  · exact World.block_lt_of_cell? _ _ (h.cell 0 (vs[0]'(by rw [hS.five.lv]; omega)) (by simp))
  · rw [List.getElem?_map, Option.map_eq_some_iff] at hv
    obtain ⟨u, hu, rfl⟩ := hv
    have hk5 : k < 5 := by have := (List.getElem?_eq_some_iff.1 hu).1; rw [hS.five.lv] at this; exact this
    rw [Nat.zero_add, h.cell k u hu, if_pos hk5]
  · rw [List.getElem?_map, Option.map_eq_some_iff] at hv
    obtain ⟨u, hu, rfl⟩ := hv
    have hk5 : k < 5 := by have := (List.getElem?_eq_some_iff.1 hu).1; rw [hS.five.lv] at this; exact this
    obtain ⟨r', hr'⟩ : ∃ r', rs[k]? = some r' := ⟨rs[k]'(by rw [hS.five.ls]; exact hk5), by simp⟩
    obtain ⟨xs, hxs⟩ : ∃ xs, rows[k]? = some xs := ⟨rows[k]'(by rw [hS.five.lr]; exact hk5), by simp⟩
    intro e
    have hR := (hS.five.row k r' u xs hr' hu hxs)
    rcases hR with ⟨h1, _⟩ | ⟨⟨g, h1, h2, _⟩, _⟩
    · rcases h1.2 with ⟨h3, _⟩ | ⟨g, cap, cur, h3, _, h4, _⟩
      · subst h3; simp [clipV, Value.ownBlock] at e
      · subst h3
        have := (Array.getElem?_eq_some_iff.1 h4).1
        simp [clipV, Value.ownBlock] at e; omega
    · subst h1
      have := hS.five.le
      simp [clipV, Value.ownBlock] at e; omega
set_option maxHeartbeats 1600000 in
set_option maxRecDepth 100000 in
theorem told_any {B : Nat} {w : World} {base S D N K z : Nat} {wv : Value} {rs : List (Option Nat)} {vs : List Value} {me : Int} {n next : Nat} {rows : List (List Rec)} {m : Dk} (hL : Laid B w) (h : Stn w base S D N K z wv rs vs me n next rows m) (hB : B ≤ base)
    (v : Value) (xs : List Rec) (hv : SlR w v xs) (hform : ∀ x ∈ xs, (0 ≤ x.st ∧ x.st < 5) ∧ (1 ≤ x.num ∧ x.num ≤ 400) ∧ x.fits) (hxl : xs.length ≤ 100) (hme : 0 ≤ me ∧ me ≤ 5) (hn : n ≤ 5)
    (hnext : next ≤ 1000000) (hrows : ∀ r ∈ rows, r.length ≤ 90000)
    (hsz : ∀ added, toldGo me rows [] xs = some added → (titleB me n ++ letterB added).size ≤ 1000000 ∧ m.writes.length + (piecesL (titleB me n ++ letterB added).data.toList).length ≤ 1000000) :
    Calls Tryz.prog 77 #[.pointer (some ⟨S, 0, none⟩), v] w (ToldPost w base S D N K z wv rs me n next rows m (toldGo me rows [] xs)) := by
  obtain ⟨ao, cap, rfl, hc⟩ := hv.open
  obtain ⟨P, hP⟩ : ∃ P, toldGo me rows [] xs = P := ⟨_, rfl⟩
  rw [hP]
  have hSb := h.st.books
  have H := Lib.hid h
  have HL := Lib.hid hL
  have HC := Lib.hid hc
  have HP := Lib.hid hP
  have HP2 := Lib.hid hP
  have HF := Lib.hid hform
  have HR := Lib.hid hrows
  have HZ := Lib.hid hsz
  have HCR := Lib.hid (CRel.start w vs hSb.five.lv)
  clear h hL hc hP hform hrows hsz hv hSb
  go_enter Tryz.func77, Tryz.ntmps77
  go_wp2_with fail
  generalize w.alloc (.cells #[.slice none 0 0, .slice none 0 0, .slice none 0 0, .slice none 0 0, .slice none 0 0] 126) = W1 at HCR ⊢
  go_loopw [13, 7] (fun i _ wr => ∃ k : Nat, i = .int .i64 k ∧ CRel w wr vs k) (fun i _ _ => 5 - (intOf i).toNat)
  case atStart => exact ⟨0, rfl, HCR.out⟩
  case round =>
    obtain ⟨k, rfl, hR⟩ := hrel
    have hk5 := hR.kn
    by_cases hlt : k < 5
    · obtain ⟨v, hv⟩ : ∃ v, vs[k]? = some v := ⟨vs[k]'(by rw [H.out.st.books.five.lv]; exact hlt), by simp⟩
      obtain ⟨r, hr⟩ : ∃ r, rs[k]? = some r := ⟨rs[k]'(by rw [H.out.st.books.five.ls]; exact hlt), by simp⟩
      obtain ⟨x, hx⟩ : ∃ x, rows[k]? = some x := ⟨rows[k]'(by rw [H.out.st.books.five.lr]; exact hlt), by simp⟩
      have hform := (H.out.st.books.five.row k r v x hr hv hx).form (by have := HR.out x (List.mem_of_getElem? hx); omega)
      obtain ⟨va, vl, vc, hvs, hlc, hcm, hn0⟩ : ∃ va vl vc, v = .slice va vl vc ∧ vl ≤ vc ∧ vc ≤ maxLen ∧ (va = none → vl = 0) := by
        rcases hform with ⟨h1, _⟩ | ⟨g, c, h1, h2, h3, _⟩
        · exact ⟨none, 0, 0, h1, by omega, by decide, fun _ => rfl⟩
        · exact ⟨_, _, c, h1, h2, h3, fun e => by cases e⟩
      have cv := hR.be.keep (H.out.st.books.cell k v hv)
      have cb := hR.cell k v hv
      rw [if_neg (by omega)] at cb
      have fb := hR.free k
      have hstep := hR.step hlt hv
      subst hvs
      have HS := Lib.hid hstep
      have hcl := Lib.hid (Clip_any va vl vc wr hlc hcm hn0)
      have hl5 : (k : Int) < 5 := by omega
      have hl0 : (0 : Int) ≤ (k : Int) := by omega
      clear hform hR hv hr hx hstep hlc hcm hn0
      go_wp2_with (go_at_call 141; refine hcl.out.mono ?_; rintro e w' ⟨rfl, rfl⟩)
      go_roundw
      case rel => exact ⟨k + 1, by go_num, HS.out⟩
      case measure => simp [intOf]; omega
    · obtain rfl : k = 5 := by omega
      have hsh := hR.shelf H.out.st.books
      have HSh := Lib.hid hsh
      have HB1 := Lib.hid hR.be
      clear hR hsh
      go_wp2_with fail
      have HT0 : RowKit.Hid (TRel w wr w.heap.size [none, none, none, none, none] (vs.map clipV) rows (.slice none 0 0) [] me xs 0 P) :=
        Lib.hid ⟨Nat.zero_le _, HSh.out, World.ownsRow_nil _ _ _ _, fun g e => (by simp [Value.ownBlock] at e), HB1.out, HP.out, fun r hr => by have := HR.out r hr; omega, by simp, fun x hx => (by cases hx), Nat.le_refl _⟩
      clear HSh HB1 HP HCR
      go_loopw [28, 8] (fun i av wr => ∃ (k : Nat) (rs' : List (Option Nat)) (vs' : List Value) (rows' : List (List Rec)) (added : List Rec), i = .int .i64 k ∧ TRel w wr w.heap.size rs' vs' rows' av added me xs k P) (fun i _ _ => xs.length - (intOf i).toNat)
      case atStart => exact ⟨0, _, _, rows, [], rfl, HT0.out⟩
      case round =>
        clear HT0
        rename_i wr
        obtain ⟨k, rs', vs', rows', added, rfl, hT⟩ := hrel
        obtain ⟨aa, ac, hav⟩ := OwnR.shape hT.row
        subst hav
        have HT := Lib.hid hT
        have hkn := hT.kn
        have hal := hT.al
        clear hT
        by_cases hlt : k < xs.length
        · obtain ⟨x, hx⟩ : ∃ x, xs[k]? = some x := ⟨_, List.getElem?_eq_getElem hlt⟩
          obtain ⟨b, off, rfl, hbl, e0, e1, e2, e3⟩ := HC.out k x hx
          have d0 := HT.out.be.keep e0
          have d1 := HT.out.be.keep e1
          have d2 := HT.out.be.keep e2
          have d3 := HT.out.be.keep e3
          obtain ⟨⟨hs0, hs5⟩, ⟨hn1, hn4⟩, hxf⟩ := HF.out x (List.mem_of_getElem? hx)
          have HX := Lib.hid hx
          have hgo := HT.out.go
          rw [show xs.drop k = x :: xs.drop (k + 1) from by rw [List.drop_eq_getElem_cons hlt]; rw [List.getElem?_eq_getElem hlt] at hx; rw [Option.some.inj hx]] at hgo
          have HGo := Lib.hid hgo
          have HXf := Lib.hid hxf
          clear hx e0 e1 e2 e3 hgo hxf
          obtain ⟨st, num, hr, txt⟩ := x
          simp only at d0 d1 d2 d3 hs0 hs5 hn1 hn4
          obtain ⟨s, rfl⟩ : ∃ s : Nat, st = (s : Int) := ⟨st.toNat, by omega⟩
          have hs5' : s < 5 := by omega
          have hlt' : (k : Int) < xs.length := by omega
          obtain ⟨v, hv⟩ : ∃ v, vs'[s]? = some v := ⟨vs'[s]'(by rw [HT.out.shelf.five.lv]; exact hs5'), by simp⟩
          obtain ⟨r, hrr⟩ : ∃ r, rs'[s]? = some r := ⟨rs'[s]'(by rw [HT.out.shelf.five.ls]; exact hs5'), by simp⟩
          have hsr : s < rows'.length := by rw [HT.out.shelf.five.lr]; exact hs5'
          have hown : rows'[s]? = some (rows'.getD s []) := by rw [List.getElem?_eq_getElem hsr]; simp [List.getD, hsr]
          have hol := HT.out.len _ (List.mem_of_getElem? hown)
          have hrow := HT.out.shelf.five.row s r v _ hrr hv hown
          obtain ⟨oa, oc, hvs⟩ := hrow.shape
          have hsl := hrow.slR HT.out.shelf.five.le (by omega)
          have cv := HT.out.shelf.cell s v hv
          rw [hvs] at hsl cv
          rw [Nat.zero_add] at cv
          obtain ⟨_, _, hoe, hoc⟩ := hsl.open
          cases hoe
          have HOc := Lib.hid hoc
          have HOs := Lib.hid hrow
          have HOw := Lib.hid (And.intro hown (And.intro hrr hv))
          have hgo := HGo.out
          have ht : ((s : Int)).toNat = s := by omega
          simp only [toldGo, ht] at hgo
          generalize rows'.getD s [] = own at hgo hol cv HOc HOs HOw
          have HGo2 := Lib.hid hgo
          have hE1 := Ext.alloc wr (.cells #[.int .i64 (s : Int), .int .i64 num, .int .i64 hr, .string txt] 49)
          have hbx := BoxR.new wr ⟨(s : Int), num, hr, txt⟩
          have cv1 := hE1.keep cv
          have k1 := hE1.keep (HT.out.be.keep H.out.st.cme)
          have g0 := hbx.c0
          have g1 := hbx.c1
          have g2 := hbx.c2
          have g3 := hbx.c3
          have HE1 := Lib.hid hE1
          have HBx := Lib.hid hbx
          simp only at g0 g1 g2 g3
          clear hv hrr hown hrow hvs hsl hoc hgo hE1 hbx cv HGo hsr
          by_cases hle : num ≤ (own.length : Int)
          · obtain ⟨j, hj⟩ : ∃ j : Nat, num = (j : Int) + 1 := ⟨(num - 1).toNat, by omega⟩
            subst hj
            have hjl : j < own.length := by omega
            obtain ⟨p, hp⟩ : ∃ p, own[j]? = some p := ⟨_, List.getElem?_eq_getElem hjl⟩
            obtain ⟨b2, off2, rfl, hb2, f0, f1, f2, f3⟩ := HOc.out j p hp
            have u0 := HE1.out.keep f0
            have u1 := HE1.out.keep f1
            have u2 := HE1.out.keep f2
            have u3 := HE1.out.keep f3
            have hgo := HGo2.out
            rw [if_pos hle] at hgo
            have hgd : own.getD ((j : Int) + 1 - 1).toNat default = p := by
              rw [show ((j : Int) + 1 - 1).toNat = j from by omega]; simp [List.getD, hp]
            rw [hgd] at hgo
            have HG3 := Lib.hid hgo
            have hwj : IntKind.i64.wrap (j : Int) = j := IntWalk.i64_in _ (by omega)
            have hle2 : (j : Int) < own.length := by omega
            have hne := neq49 p.st p.num p.hr (s : Int) ((j : Int) + 1) hr p.txt txt
            clear f0 f1 f2 f3 hp hgd hgo
            go_wp2_with fail
            generalize wr.alloc (.cells #[.int .i64 (s : Int), .int .i64 ((j : Int) + 1), .int .i64 hr, .string txt] 49) = W4 at HE1 HBx g0 g1 g2 g3 u0 u1 u2 u3 k1 cv1 ⊢
            go_quiet (fail)
            have HE5 : RowKit.Hid (Ext wr (W4.drewN nq)) := Lib.hid (HE1.out.trans (_root_.Go.below_drewN (Below.refl _ _) nq))
            generalize W4.drewN nq = W5 at HE5 ⊢
            clear hne hwj g0 g1 g2 g3 u0 u1 u2 u3 k1 cv1 hle2
            obtain ⟨q, hq⟩ : ∃ q, recB ⟨p.st, p.num, p.hr, p.txt⟩ ⟨(s : Int), (j : Int) + 1, hr, txt⟩ = q := ⟨_, rfl⟩
            have hgo := HG3.out
            rw [show (⟨p.st, p.num, p.hr, p.txt⟩ : Rec) = p from rfl] at hq
            rw [hq] at hgo
            rw [hq]
            cases q
            · simp only [Bool.false_eq_true, if_false] at hgo
              have HG4 := Lib.hid hgo
              clear hgo hq
              go_wp2
              go_ret2
              rw [← HG4.out]
              exact ⟨rfl, HT.out.be.trans HE5.out⟩
            · simp only [if_true] at hgo
              have HN := Lib.hid (HT.out.skip HE5.out hlt hgo)
              clear hgo hq
              go_wp2
              go_roundw
              case rel => ((repeat apply Exists.intro); exact ⟨⟨k + 1, rs', vs', rows', added, by go_num, HN.out⟩, rfl⟩)
              case measure => simp [intOf]; omega
          · have hgo := HGo2.out
            rw [if_neg hle] at hgo
            have HG3 := Lib.hid hgo
            have hle2 : ¬ (num ≤ (own.length : Int)) := hle
            clear hgo
            go_wp2_with fail
            generalize wr.alloc (.cells #[.int .i64 (s : Int), .int .i64 num, .int .i64 hr, .string txt] 49) = W4 at HE1 HBx g0 g1 g2 g3 k1 cv1 ⊢
            go_quiet (fail)
            have hE5 : Ext W4 (W4.drewN nq) := _root_.Go.below_drewN (Below.refl _ _) nq
            have HE5 : RowKit.Hid (Ext wr (W4.drewN nq)) := Lib.hid (HE1.out.trans hE5)
            replace g0 := hE5.keep g0
            replace g1 := hE5.keep g1
            replace g2 := hE5.keep g2
            replace g3 := hE5.keep g3
            generalize W4.drewN nq = W5 at HE5 g0 g1 g2 g3 ⊢
            clear hE5 k1 cv1
            by_cases hsm : (s : Int) = me
            · have hgo := HG3.out
              rw [if_pos hsm] at hgo
              have HG4 := Lib.hid hgo
              have hb : ((s : Int) == me) = true := by simpa using hsm
              clear hgo hsm
              go_wp2
              go_ret2
              rw [← HG4.out]
              exact ⟨rfl, HT.out.be.trans HE5.out⟩
            · have hgo := HG3.out
              rw [if_neg hsm] at hgo
              have hb : ((s : Int) == me) = false := by simpa using hsm
              clear hsm
              by_cases hnx : num = (own.length : Int) + 1
              · rw [if_pos hnx] at hgo
                have hb2 : (num == (own.length : Int) + 1) = true := by simpa using hnx
                have hfo := follows_core w.heap.size 0 s ⟨(s : Int), num, hr, txt⟩ v own W5 rfl hs5' ((HT.out.shelf.ext HE5.out).lt) (by omega) ((HT.out.shelf.ext HE5.out).cell s v HOw.out.2.2) (((HT.out.shelf.ext HE5.out).five.row s r v own HOw.out.2.1 HOw.out.2.2 HOw.out.1).form (by omega))
                have HFo := Lib.hid hfo
                obtain ⟨fe, hfe⟩ : ∃ fe, followsE own ⟨(s : Int), num, hr, txt⟩ = fe := ⟨_, rfl⟩
                rw [hfe] at hgo HFo
                have HG4 := Lib.hid hgo
                clear hgo hnx hfo hfe
                go_wp2_with fail
                refine HFo.out.mono ?_
                rintro e W6 ⟨rfl, hE6⟩
                have HE6 : RowKit.Hid (Ext wr W6) := Lib.hid (HE5.out.trans hE6)
                replace g0 := Ext.keep hE6 g0
                replace g1 := Ext.keep hE6 g1
                replace g2 := Ext.keep hE6 g2
                replace g3 := Ext.keep hE6 g3
                clear hE6
                by_cases hf0 : fe = 0
                · subst hf0
                  have hgo := HG4.out
                  rw [if_pos rfl] at hgo
                  have HG5 := Lib.hid hgo
                  have hadd := Lib.hid (add_any w.heap.size 0 s ⟨(s : Int), num, hr, txt⟩ w.heap.size rs' vs' rows' W6 (HT.out.shelf.ext HE6.out) rfl hs5' own HOw.out.1 (by omega))
                  clear hgo
                  go_wp2_with fail
                  refine hadd.out.mono ?_
                  rintro e W7 ⟨rfl, rs7, vs7, hS7, hF7⟩
                  have hXl : wr.heap.size < W6.heap.size := World.block_lt_of_cell? _ _ g0
                  have hXs : ¬ (wr.heap.size = w.heap.size ∨ some wr.heap.size ∈ rs') := by
                    rintro (e | e)
                    · have := HT.out.shelf.lt; omega
                    · have := (HT.out.shelf.five.ge _ e).2; omega
                  replace g0 := (hF7.frB.cell hXl hXs).trans g0
                  replace g1 := (hF7.frB.cell hXl hXs).trans g1
                  replace g2 := (hF7.frB.cell hXl hXs).trans g2
                  replace g3 := (hF7.frB.cell hXl hXs).trans g3
                  have hsz6 := HE6.out.size
                  have hszr := HT.out.be.size
                  have hsz7 := hF7.size
                  have hO7 := OwnR.ext ((hF7.frB.owns (HT.out.row.ext HE6.out) (fun g hg e => by have := HT.out.sep g hg; rcases e with e | e; exact this.1 e; exact this.2 e))) (Ext.alloc W7 (.cells #[.int .i64 (s : Int), .int .i64 num, .int .i64 hr, .string txt] 49))
                  have hk5 : ((s : Int)).toNat < rows'.length := by rw [HT.out.shelf.five.lr, ht]; exact hs5'
                  have hea : rows'.set s (own ++ [⟨(s : Int), num, hr, txt⟩]) = addRow rows' ⟨(s : Int), num, hr, txt⟩ := by
                    unfold addRow
                    simp only [ht]
                    have := HOw.out.1
                    rw [show rows'.getD s [] = own from by simp [List.getD, this]]
                  rw [hea] at hS7
                  have HO7 := Lib.hid hO7
                  have HSF := Lib.hid (And.intro hS7 (And.intro hF7 hk5))
                  clear hS7 hF7 hO7 hea hk5
                  go_wp2_with (at_builtin; refine wpList_app137x rfl (.tmp 70) (.tmp 72) rfl w.heap.size _ added HO7.out ⟨(s : Int), num, hr, txt⟩ W7.heap.size 1 1 rfl rfl rfl (fun j u hu => by have := cells_new W7 (flat [(⟨(s : Int), num, hr, txt⟩ : Rec)]) 49 W7.heap.size rfl j u hu; rwa [addr_add] at this) (by omega) (by simp; omega) ?_)
                  intro v8 W8 hO8 hA8 hn8
                  have HN := Lib.hid (HT.out.add HE6.out HSF.out.1 HSF.out.2.1 (Ext.alloc W7 (.cells #[.int .i64 (s : Int), .int .i64 num, .int .i64 hr, .string txt] 49)) hO8 hA8 (fun g hg => by rcases hn8 g hg with q | q; (left; simpa using q); exact .inr q) HX.out HSF.out.2.2 HG5.out)
                  obtain ⟨a8, m8, c8, rfl⟩ := OwnR.shape3 hO8
                  clear hO8 hA8 hn8 g0 g1 g2 g3
                  go_wp2
                  go_roundw
                  case rel => ((repeat apply Exists.intro); exact ⟨⟨k + 1, rs7, vs7, addRow rows' ⟨(s : Int), num, hr, txt⟩, added ++ [⟨(s : Int), num, hr, txt⟩], by go_num, HN.out⟩, rfl⟩)
                  case measure => simp [intOf]; omega
                · have hgo := HG4.out
                  rw [if_neg hf0] at hgo
                  have HG5 := Lib.hid hgo
                  have hb3 : (fe != 0) = true := by simpa using hf0
                  clear hgo hf0
                  go_wp2
                  go_ret2
                  rw [← HG5.out]
                  exact ⟨rfl, HT.out.be.trans HE6.out⟩
              · rw [if_neg hnx] at hgo
                have hb2 : (num == (own.length : Int) + 1) = false := by simpa using hnx
                have HN := Lib.hid (HT.out.skip HE5.out hlt hgo)
                clear hgo hnx
                go_wp2
                go_roundw
                case rel => ((repeat apply Exists.intro); exact ⟨⟨k + 1, rs', vs', rows', added, by go_num, HN.out⟩, rfl⟩)
                case measure => simp [intOf]; omega
        · obtain rfl : k = xs.length := by omega
          have hge : ¬ ((xs.length : Int) < xs.length) := by omega
          have hgo := HT.out.go
          rw [List.drop_length] at hgo
          simp only [toldGo] at hgo
          have HG := Lib.hid hgo
          clear hgo
          by_cases ha0 : added = []
          · subst ha0
            go_wp2
            go_ret2
            rw [← HG.out]
            unfold ToldPost
            simp only [if_true]
            exact ⟨rfl, HT.out.be⟩
          · have hal0 : 0 < added.length := List.length_pos_iff.2 ha0
            have hal1 : ((added.length : Int) == 0) = false := by simp; omega
            obtain ⟨hz1, hz2⟩ := HZ.out added (by rw [HP2.out, ← HG.out])
            have hkp := keep_any (HL.out.ext HT.out.be) (H.out.ext HT.out.be) hB _ added (OwnR.slR HT.out.row) (fun a l c e => by
                cases e
                have := (HT.out.row.lt a.block rfl).1
                exact stnS_lt H.out this) (fun x hx => (HF.out x (HT.out.mem x hx)).1) (fun x hx => (HF.out x (HT.out.mem x hx)).2.2) (by omega) hme (by omega) hnext hz1 hz2 (fun r hr => by have := HR.out r hr; omega)
            obtain ⟨r, hr⟩ : ∃ r, saveP z m next (titleB me n ++ letterB added).data.toList = r := ⟨_, rfl⟩
            rw [hr] at hkp
            have HRr := Lib.hid hr
            have HKP := Lib.hid hkp
            have Ha0 := Lib.hid ha0
            clear hkp hr hz1 hz2 ha0
            obtain ⟨nx, er, m'⟩ := r
            go_wp2_with fail
            refine HKP.out.mono ?_
            rintro e W9 ⟨rfl, hk⟩
            simp only at hk
            by_cases he : er = 0
            · subst he
              simp only [if_true] at hk
              have HK := Lib.hid (hk.ofExt HT.out.be)
              clear hk
              obtain ⟨wv9, rs9, vs9, hst9, hnew9⟩ := HK.out.ex
              have hgr := Lib.hid (Greeting_any (HL.out.keep (HK.out.fr.below (by have := HL.out.le; omega) (fun j hj => by have := (H.out.S_ge j hj).1; omega))) S base (some ⟨D, 0, none⟩) me nx n rs9 vs9 _ hst9.st hn (fun r hr => by have := addAll_le (c := 90000) added rows HR.out r hr; omega))
              clear hst9 hnew9
              go_wp2_with fail
              refine hgr.out.mono ?_
              rintro e W10 ⟨rfl, hE10⟩
              have HK10 := Lib.hid (HK.out.ext hE10)
              clear hE10
              go_wp2
              go_ret2
              rw [← HG.out]
              unfold ToldPost
              simp only [Ha0.out, if_false, HRr.out, if_true]
              exact ⟨rfl, HK10.out⟩
            · have hne : (er != 0) = true := by simpa using he
              simp only [he, if_false] at hk
              have HK := Lib.hid (hk.ofExt HT.out.be)
              have He := Lib.hid he
              clear hk he
              go_wp2
              go_ret2
              rw [← HG.out]
              unfold ToldPost
              simp only [Ha0.out, if_false, HRr.out, He.out]
              exact ⟨rfl, HK.out⟩
end Go.Proofs.YtgjahnomafpnfaaGreatDoor

/- (*Station).Hear. -/
namespace Go.Proofs.YtgjahnomafpnfaaGreatDoor
open Go.RowKit
theorem ta1 : ∀ (v : Value) (w : World), (Instr.typeAssert (.iface 135 v) 132 135 true).run Tryz.prog w = .ok (.tuple #[v, .bool true]) w := fun _ _ => by kernel_rfl
theorem ta2 : ∀ (v : Value) (w : World), (Instr.typeAssert (.iface 137 v) 132 135 true).run Tryz.prog w = .ok (.tuple #[.slice none 0 0, .bool false]) w := fun _ _ => by kernel_rfl
theorem ta3 : ∀ (v : Value) (w : World), (Instr.typeAssert (.iface 137 v) 132 137 true).run Tryz.prog w = .ok (.tuple #[v, .bool true]) w := fun _ _ => by kernel_rfl
theorem numsGo_len : ∀ (k : Nat) (acc : List Int) (s : ByteArray) (more : Bool) (gs : List Int), numsGo k acc s more = some gs → gs.length = acc.length + k
  | 0, acc, s, more, gs, h => by simp only [numsGo, Option.some.injEq] at h; rw [← h]; simp
  | k + 1, acc, s, more, gs, h => by
    simp only [numsGo] at h
    split at h
    · cases h
    · rw [numsGo_len k _ _ _ _ h]; simp; omega
theorem numsGo_ge : ∀ (k : Nat) (acc : List Int) (s : ByteArray) (more : Bool) (gs : List Int), numsGo k acc s more = some gs → (∀ g ∈ acc, 0 ≤ g) → ∀ g ∈ gs, 0 ≤ g
  | 0, acc, s, more, gs, h, ha => by simp only [numsGo, Option.some.injEq] at h; rw [← h]; exact ha
  | k + 1, acc, s, more, gs, h, ha => by
    simp only [numsGo] at h
    split at h
    · cases h
    · rename_i v s' m' hq
      refine numsGo_ge k _ _ _ _ h fun g hg => ?_
      rcases List.mem_append.1 hg with q | q
      · exact ha g q
      · rw [List.mem_singleton.1 q]; exact (numQ_fits hq).1
theorem parseP_greet {n : Nat} {m : ByteArray} {gs : List Int} (h : parseP n m = some (.greet gs)) : gs.length = n ∧ (∀ g ∈ gs, 0 ≤ g ∧ g ≤ 400) ∧ greetB gs = m := by
  unfold parseP bodyP haveP postP at h
  repeat' split at h
  all_goals first | cases h | skip
  rename_i h1 hh
  have hn := numsGo_len _ _ _ _ _ h1
  have hg := numsGo_ge _ _ _ _ _ h1 (fun g hg => by cases hg)
  refine ⟨by simpa using hn, fun g hgm => ⟨hg g hgm, ?_⟩, hh.2⟩
  have := hh.1
  unfold overB at this
  have := List.any_eq_false.1 this g hgm
  simpa using this
theorem parseP_post {n : Nat} {m : ByteArray} {xs : List Rec} (h : parseP n m = some (.post xs)) : (∀ x ∈ xs, formedB n x = true) ∧ xs.length ≤ 10 ∧ letterB xs = m := by
  unfold parseP bodyP haveP postP at h
  repeat' split at h
  all_goals first | cases h | skip
  rename_i _ hk _ hr hh
  have h1 := recsP_formed hr (fun x hx => by cases hx)
  have h2 := recsP_length hr
  have h3 := (inB_iff _ _ _).1 hk.1
  refine ⟨h1, ?_, hh⟩
  have h4 := hk.2
  rw [h2]
  simp
  omega
theorem formedB_told {n : Nat} (hn : n ≤ 5) {x : Rec} (h : formedB n x = true) : (0 ≤ x.st ∧ x.st < 5) ∧ (1 ≤ x.num ∧ x.num ≤ 400) ∧ x.fits := by
  refine ⟨?_, ?_, formedB_fits (by omega) h⟩ <;> (unfold formedB at h; simp only [Bool.and_eq_true, inB_iff] at h; omega)
theorem ToldPost.ofExt {w w1 w' : World} {base S D N K z : Nat} {wv : Value} {rs : List (Option Nat)} {me : Int} {n next : Nat} {rows : List (List Rec)} {m : Dk} {o : Option (List Rec)} {e : Ending} (hE : Ext w w1) (h : ToldPost w1 base S D N K z wv rs me n next rows m o e w') : ToldPost w base S D N K z wv rs me n next rows m o e w' := by
  unfold ToldPost at h ⊢
  cases o with
  | none => exact ⟨h.1, hE.trans h.2⟩
  | some added =>
    simp only at h ⊢
    split
    · rename_i h0
      rw [if_pos h0] at h
      exact ⟨h.1, hE.trans h.2⟩
    · rename_i h0
      rw [if_neg h0] at h
      split
      · rename_i h1
        rw [if_pos h1] at h
        exact ⟨h.1, h.2.ofExt hE⟩
      · rename_i h1
        rw [if_neg h1] at h
        exact ⟨h.1, h.2.ofExt hE⟩
theorem ToldPost.shape {w w' : World} {base S D N K z : Nat} {wv : Value} {rs : List (Option Nat)} {me : Int} {n next : Nat} {rows : List (List Rec)} {m : Dk} {o : Option (List Rec)} {e : Ending} (h : ToldPost w base S D N K z wv rs me n next rows m o e w') : ∃ s er, e = .returned (.tuple #[.string s, .int .i64 er]) := by
  unfold ToldPost at h
  cases o with
  | none => exact ⟨_, _, h.1⟩
  | some added =>
    simp only at h
    split at h
    · exact ⟨_, _, h.1⟩
    · split at h
      · exact ⟨_, _, h.1⟩
      · exact ⟨_, _, h.1⟩
/-- What Hear comes to. -/
def HearPost (w : World) (base S D N K z : Nat) (wv : Value) (rs : List (Option Nat)) (me : Int) (n next : Nat) (rows : List (List Rec)) (m : Dk) (o : Option Msg) (e : Ending) (w' : World) : Prop :=
  match o with
  | none => e = .returned (.tuple #[.string ⟨#[]⟩, .int .i64 4]) ∧ Ext w w'
  | some (.greet gs) => e = .returned (.tuple #[.string (greetedP n rows gs), .int .i64 0]) ∧ Ext w w'
  | some (.post xs) => ToldPost w base S D N K z wv rs me n next rows m (toldGo me rows [] xs) e w'
set_option maxHeartbeats 400000 in
set_option maxRecDepth 100000 in
theorem Hear_nil (m : ByteArray) (w : World) : Calls Tryz.prog 22 #[.pointer none, .string m] w fun e w' => e = .returned (.tuple #[.string ⟨#[]⟩, .int .i64 3]) ∧ w' = w := by
  go_enter Tryz.func22, Tryz.ntmps22
  go_wp2
  go_ret2
  exact ⟨rfl, rfl⟩
set_option maxHeartbeats 800000 in
set_option maxRecDepth 100000 in
theorem Hear_any {B : Nat} {w : World} {base S D N K z : Nat} {wv : Value} {rs : List (Option Nat)} {vs : List Value} {me : Int} {n next : Nat} {rows : List (List Rec)} {m : Dk} (hL : Laid B w) (h : Stn w base S D N K z wv rs vs me n next rows m) (hB : B ≤ base)
    (b : ByteArray) (hb : b.size < 4294967281) (hme : 0 ≤ me ∧ me ≤ 5) (hn : n ≤ 5) (hnext : next ≤ 1000000) (hrows : ∀ r ∈ rows, r.length ≤ 90000) (hst : ∀ r ∈ rows, ∀ x ∈ r, (0 ≤ x.st ∧ x.st < 5) ∧ x.fits)
    (hsz : ∀ xs added, parseP n b = some (.post xs) → toldGo me rows [] xs = some added → (titleB me n ++ letterB added).size ≤ 1000000 ∧ m.writes.length + (piecesL (titleB me n ++ letterB added).data.toList).length ≤ 1000000) :
    Calls Tryz.prog 22 #[.pointer (some ⟨S, 0, none⟩), .string b] w (HearPost w base S D N K z wv rs me n next rows m (parseP n b)) := by
  obtain ⟨P, hP⟩ : ∃ P, parseP n b = P := ⟨_, rfl⟩
  have hp := parse_any hL n b hb hn
  rw [hP] at hp ⊢
  have HPa := Lib.hid hp
  have HP := Lib.hid hP
  have H := Lib.hid h
  have HL := Lib.hid hL
  have HR := Lib.hid hrows
  have HT := Lib.hid hst
  have HZ := Lib.hid hsz
  have cn := h.st.cn
  have t1 := ta1
  have t2 := ta2
  have t3 := ta3
  clear hp hP h hL hrows hst hsz
  go_enter Tryz.func22, Tryz.ntmps22
  go_wp2_with fail
  refine HPa.out.mono ?_
  rintro e w1 ⟨hi, hE⟩
  have HE := Lib.hid hE
  clear hE
  match P, HPa, HP, hi with
  | none, _, _, ⟨ov, hov⟩ =>
    subst hov
    go_wp2
    go_ret2
    exact ⟨rfl, HE.out⟩
  | some (.greet gs), _, HP, ⟨gv, hgv, hs⟩ =>
    subst hgv
    obtain ⟨ga, gl, gc, rfl⟩ : ∃ a l c, gv = .slice a l c := by
      obtain ⟨a, c, e, _⟩ := hs.open
      exact ⟨a, _, c, e⟩
    obtain ⟨hgl, _, _⟩ := parseP_greet HP.out
    have hg := Lib.hid (greeted_any (HL.out.ext HE.out) S base (some ⟨D, 0, none⟩) me next n rs vs rows (H.out.ext HE.out).st hn _ gs hs (by omega) (fun r hr => by have := HR.out r hr; omega) HT.out)
    clear hs hgl cn
    go_wp2_with fail
    refine hg.out.mono ?_
    rintro e w2 ⟨rfl, hE2⟩
    go_wp2
    go_ret2
    exact ⟨rfl, HE.out.trans hE2⟩
  | some (.post xs), _, HP, ⟨lv, hlv, hs⟩ =>
    subst hlv
    obtain ⟨la, ll, lc, rfl⟩ : ∃ a l c, lv = .slice a l c := by
      obtain ⟨a, c, e⟩ := hs.shape
      exact ⟨a, _, c, e⟩
    obtain ⟨hf, hl, _⟩ := parseP_post HP.out
    have ht := Lib.hid (told_any (HL.out.ext HE.out) (H.out.ext HE.out) hB _ xs hs (fun x hx => formedB_told hn (hf x hx)) (by omega) hme hn hnext HR.out (fun added ha => HZ.out xs added HP.out ha))
    clear hs hf hl cn
    go_wp2_with fail
    refine ht.out.mono ?_
    rintro e w2 hT
    obtain ⟨s, er, rfl⟩ := hT.shape
    have HTo := Lib.hid (hT.ofExt HE.out)
    clear hT
    go_wp2
    go_ret2
    exact HTo.out
end Go.Proofs.YtgjahnomafpnfaaGreatDoor

/- What alive computes: closed facts. -/
namespace Go.Proofs.YtgjahnomafpnfaaGreatDoor
open Go.RowKit
def tBale : ByteArray := ⟨#[102, 111, 117, 110, 100, 32, 97, 32, 98, 97, 108, 101]⟩
def tWeigh : ByteArray := ⟨#[119, 101, 105, 103, 104, 101, 100, 32, 105, 116]⟩
def tChest : ByteArray := ⟨#[102, 111, 117, 110, 100, 32, 97, 32, 99, 104, 101, 115, 116]⟩
def tSold : ByteArray := ⟨#[115, 111, 108, 100, 32, 105, 116]⟩
def r0 : Rec := ⟨0, 1, 3, tBale⟩
def r1 : Rec := ⟨1, 1, 1, tChest⟩
def r2 : Rec := ⟨1, 2, 9, tSold⟩
def sG1 : ByteArray := ⟨#[104, 97, 118, 101, 32, 49, 32, 48, 32, 48, 10]⟩
def sP2 : ByteArray := ⟨#[112, 111, 115, 116, 32, 50, 10, 49, 32, 49, 32, 49, 32, 102, 111, 117, 110, 100, 32, 97, 32, 99, 104, 101, 115, 116, 10, 49, 32, 50, 32, 57, 32, 115, 111, 108, 100, 32, 105, 116, 10]⟩
def sG2 : ByteArray := ⟨#[104, 97, 118, 101, 32, 49, 32, 50, 32, 48, 10]⟩
theorem al_g1 : greetB ((lensB [[r0], [], [], [], []]).take 3) = sG1 := by kernel_rfl
theorem al_p1 : parseP 3 sG1 = some (.greet [1, 0, 0]) := by kernel_rfl
theorem al_a1 : greetedP 3 [[], [r1, r2], [], [], []] [1, 0, 0] = sP2 := by kernel_rfl
theorem al_p2 : parseP 3 sP2 = some (.post [r1, r2]) := by kernel_rfl
theorem al_t2 : toldGo 0 [[r0], [], [], [], []] [] [r1, r2] = some [r1, r2] := by kernel_rfl
theorem al_g2 : greetB ((lensB (addAll [[r0], [], [], [], []] [r1, r2])).take 3) = sG2 := by kernel_rfl
theorem al_add : addE [] tBale 3 = 0 ∧ addE [r0] tWeigh 2 = 7 ∧ addE [] tChest 1 = 0 ∧ addE [r1] tSold 9 = 0 := ⟨by kernel_rfl, by kernel_rfl, by kernel_rfl, by kernel_rfl⟩
theorem al_all : addAll [[], [], [], [], []] [r0] = [[r0], [], [], [], []] ∧ addAll [[], [], [], [], []] [r1] = [[], [r1], [], [], []] ∧ addAll [[], [r1], [], [], []] [r2] = [[], [r1, r2], [], [], []] ∧ addAll [[r0], [], [], [], []] [r1, r2] = [[r0], [r1, r2], [], [], []] := ⟨rfl, rfl, rfl, rfl⟩
theorem al_sorted : (sortedP 3 [r0, r1, r2]).2.2 = 0 := by kernel_rfl
theorem al_sz : Nat.ble (titleB 0 3 ++ letterB [r0]).size 500 = true ∧ Nat.ble (titleB 1 3 ++ letterB [r1]).size 500 = true ∧ Nat.ble (titleB 1 3 ++ letterB [r2]).size 500 = true ∧ Nat.ble (titleB 0 3 ++ letterB [r1, r2]).size 500 = true := ⟨by kernel_rfl, by kernel_rfl, by kernel_rfl, by kernel_rfl⟩
/-- A disk that is up, without a bound on its power, all of it durable. -/
structure Fine (m : Dk) : Prop where
  down : m.down = false
  stops : m.stops = false
  writes : m.writes = []
theorem newDk_fine (n : Nat) : Fine (newDk n) := ⟨rfl, rfl, rfl⟩
theorem powerP_up {m : Dk} (h : m.stops = false) : powerP m = (0, m) := by simp [powerP, h]
theorem writeP_up {m : Dk} {n at_ : Nat} {bs : List UInt8} (hd : m.down = false) (hs : m.stops = false) (ha : at_ < n) (hb : bs.length ≤ 64) : (writeP m n at_ bs).1 = 0 ∧ (writeP m n at_ bs).2.down = false ∧ (writeP m n at_ bs).2.stops = false := by
  unfold writeP
  rw [hd, if_neg (by decide), if_neg (by rw [(inB_iff _ _ _).2 (by omega)]; decide), if_neg (by omega), powerP_up hs, if_neg (by simp)]
  exact ⟨rfl, hd, hs⟩
theorem saveGo_up {n : Nat} : ∀ (xs : List Sec) (m : Dk) (at_ : Nat), m.down = false → m.stops = false → (∀ x ∈ xs, x.length = 64) → at_ + xs.length ≤ n → (saveGo n xs m at_).1 = at_ + xs.length ∧ (saveGo n xs m at_).2.1 = 0 ∧ (saveGo n xs m at_).2.2.down = false ∧ (saveGo n xs m at_).2.2.stops = false
  | [], m, at_, hd, hs, _, _ => ⟨rfl, rfl, hd, hs⟩
  | x :: xs, m, at_, hd, hs, hx, hl => by
    simp only [List.length_cons] at hl
    obtain ⟨h1, h2, h3⟩ := writeP_up (n := n) (at_ := at_) (bs := x) hd hs (by omega) (by rw [hx x (List.mem_cons_self ..)]; omega)
    unfold saveGo
    rw [if_neg (by rw [h1]; decide)]
    obtain ⟨g1, g2, g3, g4⟩ := saveGo_up (n := n) xs (writeP m n at_ x).2 (at_ + 1) h2 h3 (fun y hy => hx y (List.mem_cons_of_mem _ hy)) (by omega)
    exact ⟨by rw [g1]; simp; omega, g2, g3, g4⟩
theorem piecesGo_count : ∀ (k : Nat) (mark : UInt8) (l : List UInt8), (piecesGo k mark l).length ≤ (l.length + 58) / 59
  | 0, _, l => by simp [piecesGo]
  | k + 1, mark, l => by
    unfold piecesGo
    split
    · simp
    · rename_i h
      have := piecesGo_count k 2 (l.drop 59)
      have hl : 0 < l.length := List.length_pos_iff.2 h
      rw [List.length_drop] at this
      rw [List.length_cons]
      omega
theorem saveP_fine {n : Nat} {m : Dk} {at_ : Nat} {s : List UInt8} (h : Fine m) (hf : at_ + (s.length + 58) / 59 ≤ n) : (saveP n m at_ s).2.1 = 0 ∧ (saveP n m at_ s).1 ≤ at_ + (s.length + 58) / 59 ∧ Fine (saveP n m at_ s).2.2 := by
  have hc := piecesGo_count s.length 1 s
  obtain ⟨g1, g2, g3, g4⟩ := saveGo_up (n := n) (piecesL s) m at_ h.down h.stops (fun x hx => piecesGo_64 _ _ _ x hx) (by unfold piecesL; omega)
  unfold saveP
  rw [h.down, if_neg (by decide), if_neg (by omega), if_neg (by rw [g2]; decide)]
  unfold flushP
  rw [g3, if_neg (by decide), powerP_up g4, if_neg (by simp)]
  refine ⟨rfl, ?_, g3, g4, rfl⟩
  show (saveGo n (piecesL s) m at_).1 ≤ _
  rw [g1]
  unfold piecesL
  omega
theorem owns_mono {w : World} {base b' : Nat} {e : TypeId} {size : Nat} {v : Value} {n : Nat} {xs : List Value} (h : w.ownsRow base e size v n xs) (hb : b' ≤ base) : w.ownsRow b' e size v n xs := by
  obtain ⟨h1, h2⟩ := h
  refine ⟨h1, ?_⟩
  rcases h2 with h2 | ⟨g, cap, cur, hv, hg, r⟩
  · exact .inl h2
  · exact .inr ⟨g, cap, cur, hv, by omega, r⟩
theorem DkX.mono {w : World} {base b' n D N K : Nat} {wv : Value} {m : Dk} (h : DkX w base n D N K wv m) (hb : b' ≤ base) : DkX w b' n D N K wv m :=
  ⟨h.ok, h.c0, h.c1, h.c2, h.c3, h.c4, h.c5, h.free, h.rn, h.tn, h.rk, h.tk, owns_mono h.row hb, by have := h.ge; omega, h.lt, h.ne, h.off, by have := h.le; omega⟩
/-- Two stations with a disk each, apart; all of them in blocks that are new since w. -/
structure Two (w W : World) (Sa Da Na Ka : Nat) (za mea na : Nat) (ra : List (List Rec)) (ma : Dk) (Sb Db Nb Kb : Nat) (zb meb nb : Nat) (rb : List (List Rec)) (mb : Dk) : Prop where
  ex : ∃ wva rsa vsa wvb rsb vsb, Stn W w.heap.size Sa Da Na Ka za wva rsa vsa mea 3 na ra ma ∧ Stn W w.heap.size Sb Db Nb Kb zb wvb rsb vsb meb 3 nb rb mb ∧ ∀ j, stnS Sa Da Na Ka wva rsa j → ¬ stnS Sb Db Nb Kb wvb rsb j
  be : Ext w W
  fa : Fine ma
  fb : Fine mb
section
variable {w W W' : World} {Sa Da Na Ka za mea na : Nat} {ra : List (List Rec)} {ma : Dk} {Sb Db Nb Kb zb meb nb : Nat} {rb : List (List Rec)} {mb : Dk}
theorem Two.swap (h : Two w W Sa Da Na Ka za mea na ra ma Sb Db Nb Kb zb meb nb rb mb) : Two w W Sb Db Nb Kb zb meb nb rb mb Sa Da Na Ka za mea na ra ma := by
  obtain ⟨wva, rsa, vsa, wvb, rsb, vsb, h1, h2, h3⟩ := h.ex
  exact ⟨⟨wvb, rsb, vsb, wva, rsa, vsa, h2, h1, fun j hj hj2 => h3 j hj2 hj⟩, h.be, h.fb, h.fa⟩
theorem Two.ext (h : Two w W Sa Da Na Ka za mea na ra ma Sb Db Nb Kb zb meb nb rb mb) (hE : Ext W W') : Two w W' Sa Da Na Ka za mea na ra ma Sb Db Nb Kb zb meb nb rb mb := by
  obtain ⟨wva, rsa, vsa, wvb, rsb, vsb, h1, h2, h3⟩ := h.ex
  exact ⟨⟨wva, rsa, vsa, wvb, rsb, vsb, h1.ext hE, h2.ext hE, h3⟩, h.be.trans hE, h.fa, h.fb⟩
theorem Two.keep {wva wvb : Value} {rsa rsb : List (Option Nat)} {vsa vsb : List Value} {na' : Nat} {ra' : List (List Rec)} {ma' : Dk} (h1 : Stn W w.heap.size Sa Da Na Ka za wva rsa vsa mea 3 na ra ma) (h2 : Stn W w.heap.size Sb Db Nb Kb zb wvb rsb vsb meb 3 nb rb mb) (h3 : ∀ j, stnS Sa Da Na Ka wva rsa j → ¬ stnS Sb Db Nb Kb wvb rsb j)
    (hbe : Ext w W) (hf : Fine ma') (hfb : Fine mb) (hk : KeepStep W W' w.heap.size Sa Da Na Ka za wva rsa mea 3 na' ra' ma') : Two w W' Sa Da Na Ka za mea na' ra' ma' Sb Db Nb Kb zb meb nb rb mb := by
  obtain ⟨wva', rsa', vsa', hA, hnew⟩ := hk.ex
  refine ⟨⟨wva', rsa', vsa', wvb, rsb, vsb, hA, h2.frB hk.fr (fun j hj hj2 => h3 j hj2 hj) (fun j hj => (h1.S_ge j hj).1), fun j hj hj2 => ?_⟩, ?_, hf, hfb⟩
  · rcases hnew j hj with q | q
    · exact h3 j q hj2
    · have := (h2.S_ge j hj2).2; omega
  · exact Below.trans (B := w.heap.size) hbe (hk.fr.below hbe.size (fun j hj => (h1.S_ge j hj).1))
end
end Go.Proofs.YtgjahnomafpnfaaGreatDoor

/- What two stations do, for alive. -/
namespace Go.Proofs.YtgjahnomafpnfaaGreatDoor
open Go.RowKit
section
variable {B : Nat} {w W : World} {Sa Da Na Ka za mea na : Nat} {ra : List (List Rec)} {ma : Dk} {Sb Db Nb Kb zb meb nb : Nat} {rb : List (List Rec)} {mb : Dk}
theorem two_add (hL : Laid B w) (h : Two w W Sa Da Na Ka za mea na ra ma Sb Db Nb Kb zb meb nb rb mb) (own : List Rec) (hown : ra[mea]? = some own) (text : ByteArray) (hour : Int) (he : addE own text hour = 0) (hsz : (titleB mea 3 ++ letterB [⟨mea, own.length + 1, hour, text⟩]).size ≤ 500) (htx : text.size ≤ 1000) (hme : mea < 5) (hna : na + 9 ≤ za) (hna2 : na ≤ 1000) (hrows : ∀ r ∈ ra, r.length ≤ 100000) :
    Calls Tryz.prog 40 #[.pointer (some ⟨Sa, 0, none⟩), .string text, .int .i64 hour] W fun e W' => e = .returned (.tuple #[.int .i64 ((own.length : Int) + 1), .int .i64 0]) ∧ ∃ na' ma', na' ≤ na + 9 ∧ Two w W' Sa Da Na Ka za mea na' (addAll ra [⟨mea, own.length + 1, hour, text⟩]) ma' Sb Db Nb Kb zb meb nb rb mb := by
  obtain ⟨wva, rsa, vsa, wvb, rsb, vsb, h1, h2, h3⟩ := h.ex
  have hpl := piecesL_len (titleB mea 3 ++ letterB [⟨mea, own.length + 1, hour, text⟩])
  have hfine := saveP_fine (n := za) (at_ := na) (s := (titleB mea 3 ++ letterB [⟨mea, own.length + 1, hour, text⟩]).data.toList) h.fa (by rw [bsz]; omega)
  rw [bsz] at hfine
  refine (Add_any (hL.ext h.be) h1 hL.le own hown text hour hme (by omega) (by omega) (by omega) (by omega) (by rw [h.fa.writes]; simp only [List.length_nil]; omega) hrows).mono ?_
  intro e W' hp
  unfold AddPost at hp
  rw [if_pos he, if_pos hfine.1] at hp
  exact ⟨hp.1, _, _, by omega, Two.keep h1 h2 h3 h.be hfine.2.2 h.fb hp.2⟩
theorem two_err (hL : Laid B w) (h : Two w W Sa Da Na Ka za mea na ra ma Sb Db Nb Kb zb meb nb rb mb) (own : List Rec) (hown : ra[mea]? = some own) (text : ByteArray) (hour er : Int) (he : addE own text hour = er) (hne : er ≠ 0) (hsz : (titleB mea 3 ++ letterB [⟨mea, own.length + 1, hour, text⟩]).size ≤ 500) (htx : text.size ≤ 1000) (hme : mea < 5) (hna2 : na ≤ 1000) (hrows : ∀ r ∈ ra, r.length ≤ 100000) :
    Calls Tryz.prog 40 #[.pointer (some ⟨Sa, 0, none⟩), .string text, .int .i64 hour] W fun e W' => e = .returned (.tuple #[.int .i64 0, .int .i64 er]) ∧ Two w W' Sa Da Na Ka za mea na ra ma Sb Db Nb Kb zb meb nb rb mb := by
  obtain ⟨wva, rsa, vsa, wvb, rsb, vsb, h1, h2, h3⟩ := h.ex
  have hpl := piecesL_len (titleB mea 3 ++ letterB [⟨mea, own.length + 1, hour, text⟩])
  refine (Add_any (hL.ext h.be) h1 hL.le own hown text hour hme (by omega) (by omega) (by omega) (by omega) (by rw [h.fa.writes]; simp only [List.length_nil]; omega) hrows).mono ?_
  intro e W' hp
  unfold AddPost at hp
  rw [he, if_neg hne] at hp
  exact ⟨hp.1, h.ext hp.2⟩
theorem two_greeting (hL : Laid B w) (h : Two w W Sa Da Na Ka za mea na ra ma Sb Db Nb Kb zb meb nb rb mb) (hrows : ∀ r ∈ ra, r.length ≤ 100000) :
    Calls Tryz.prog 34 #[.pointer (some ⟨Sa, 0, none⟩)] W fun e W' => e = .returned (.string (greetB ((lensB ra).take 3))) ∧ Two w W' Sa Da Na Ka za mea na ra ma Sb Db Nb Kb zb meb nb rb mb := by
  obtain ⟨wva, rsa, vsa, wvb, rsb, vsb, h1, h2, h3⟩ := h.ex
  refine (Greeting_any (hL.ext h.be) Sa w.heap.size _ _ _ 3 rsa vsa ra h1.st (by omega) (fun r hr => by have := hrows r hr; omega)).mono ?_
  rintro e W' ⟨rfl, hE⟩
  exact ⟨rfl, h.ext hE⟩
theorem two_records (h : Two w W Sa Da Na Ka za mea na ra ma Sb Db Nb Kb zb meb nb rb mb) (hrows : ra.flatten.length ≤ 1000000) :
    Calls Tryz.prog 20 #[.pointer (some ⟨Sa, 0, none⟩)] W fun e W' => ∃ v, e = .returned v ∧ SlR W' v ra.flatten ∧ Two w W' Sa Da Na Ka za mea na ra ma Sb Db Nb Kb zb meb nb rb mb := by
  obtain ⟨wva, rsa, vsa, wvb, rsb, vsb, h1, h2, h3⟩ := h.ex
  refine (Records_any Sa w.heap.size _ _ _ _ rsa vsa ra W h1.st hrows).mono ?_
  rintro e W' ⟨v, rfl, hO, hE⟩
  exact ⟨v, rfl, OwnR.slR hO, h.ext hE⟩
theorem two_hear_greet (hL : Laid B w) (h : Two w W Sa Da Na Ka za mea na ra ma Sb Db Nb Kb zb meb nb rb mb) (b : ByteArray) (hb : b.size ≤ 1000) (gs : List Int) (hp : parseP 3 b = some (.greet gs)) (hme : mea < 5) (hna2 : na ≤ 1000) (hrows : ∀ r ∈ ra, r.length ≤ 90000) (hst : ∀ r ∈ ra, ∀ x ∈ r, (0 ≤ x.st ∧ x.st < 5) ∧ x.fits) :
    Calls Tryz.prog 22 #[.pointer (some ⟨Sa, 0, none⟩), .string b] W fun e W' => e = .returned (.tuple #[.string (greetedP 3 ra gs), .int .i64 0]) ∧ Two w W' Sa Da Na Ka za mea na ra ma Sb Db Nb Kb zb meb nb rb mb := by
  obtain ⟨wva, rsa, vsa, wvb, rsb, vsb, h1, h2, h3⟩ := h.ex
  refine (Hear_any (n := 3) (hL.ext h.be) h1 hL.le b (by omega) (by omega) (by omega) (by omega) hrows hst (fun xs added hq _ => by rw [hp] at hq; cases hq)).mono ?_
  intro e W' hq
  rw [hp] at hq
  exact ⟨hq.1, h.ext hq.2⟩
theorem two_hear_post (hL : Laid B w) (h : Two w W Sa Da Na Ka za mea na ra ma Sb Db Nb Kb zb meb nb rb mb) (b : ByteArray) (hb : b.size ≤ 1000) (xs added : List Rec) (hp : parseP 3 b = some (.post xs)) (ht : toldGo mea ra [] xs = some added) (ha : added ≠ []) (hsz : (titleB mea 3 ++ letterB added).size ≤ 500) (hme : mea < 5) (hna : na + 9 ≤ za) (hna2 : na ≤ 1000) (hrows : ∀ r ∈ ra, r.length ≤ 90000) (hst : ∀ r ∈ ra, ∀ x ∈ r, (0 ≤ x.st ∧ x.st < 5) ∧ x.fits) :
    Calls Tryz.prog 22 #[.pointer (some ⟨Sa, 0, none⟩), .string b] W fun e W' => e = .returned (.tuple #[.string (greetB ((lensB (addAll ra added)).take 3)), .int .i64 0]) ∧ ∃ na' ma', na' ≤ na + 9 ∧ Two w W' Sa Da Na Ka za mea na' (addAll ra added) ma' Sb Db Nb Kb zb meb nb rb mb := by
  obtain ⟨wva, rsa, vsa, wvb, rsb, vsb, h1, h2, h3⟩ := h.ex
  have hpl := piecesL_len (titleB mea 3 ++ letterB added)
  have hfine := saveP_fine (n := za) (at_ := na) (s := (titleB mea 3 ++ letterB added).data.toList) h.fa (by rw [bsz]; omega)
  rw [bsz] at hfine
  refine (Hear_any (n := 3) (hL.ext h.be) h1 hL.le b (by omega) (by omega) (by omega) (by omega) hrows hst (fun xs' added' hq hq2 => by
    rw [hp] at hq
    cases hq
    rw [ht] at hq2
    cases hq2
    exact ⟨by show (titleB (mea : Int) 3 ++ letterB added).size ≤ _; omega, by show ma.writes.length + (piecesL (titleB (mea : Int) 3 ++ letterB added).data.toList).length ≤ _; rw [h.fa.writes]; simp only [List.length_nil]; omega⟩)).mono ?_
  intro e W' hq
  rw [hp] at hq
  simp only [HearPost] at hq
  rw [ht] at hq
  simp only [ToldPost] at hq
  rw [if_neg ha] at hq
  have hf1 : (saveP za ma na (titleB (mea : Int) ((3 : Nat) : Int) ++ letterB added).data.toList).2.1 = 0 := hfine.1
  rw [if_pos hf1] at hq
  exact ⟨hq.1, _, _, Nat.le_trans hfine.2.1 (by omega), Two.keep h1 h2 h3 h.be hfine.2.2 h.fb hq.2⟩
end
end Go.Proofs.YtgjahnomafpnfaaGreatDoor

/- alive. -/
namespace Go.Proofs.YtgjahnomafpnfaaGreatDoor
open Go.RowKit
theorem order3 {ys : List Rec} (h : InOrder [r0, r1, r2] ys) : ys = [r1, r0, r2] := by
  obtain ⟨hp, hs⟩ := h
  have hl := hp.length_eq
  match ys, hl with
  | [x, y, z], _ =>
    have hn : [x, y, z].Nodup := hp.nodup_iff.2 (by
      have e01 : r0 ≠ r1 := fun e => by have := congrArg Rec.st e; simp [r0, r1] at this
      have e02 : r0 ≠ r2 := fun e => by have := congrArg Rec.st e; simp [r0, r2] at this
      have e12 : r1 ≠ r2 := fun e => by have := congrArg Rec.num e; simp [r1, r2] at this
      simp [e01, e02, e12])
    have h01 := hs 0 1 x y (by omega) (by omega) (by simp) rfl rfl
    have h02 := hs 0 2 x z (by omega) (by omega) (by simp) rfl rfl
    have h12 := hs 1 2 y z (by omega) (by omega) (by simp) rfl rfl
    have hx : x = r0 ∨ x = r1 ∨ x = r2 := by simpa using hp.mem_iff.1 (show x ∈ [x, y, z] by simp)
    have hy : y = r0 ∨ y = r1 ∨ y = r2 := by simpa using hp.mem_iff.1 (show y ∈ [x, y, z] by simp)
    have hz : z = r0 ∨ z = r1 ∨ z = r2 := by simpa using hp.mem_iff.1 (show z ∈ [x, y, z] by simp)
    have a1 : ¬ leR r0 r1 := by unfold leR; decide
    have a2 : ¬ leR r2 r0 := by unfold leR; decide
    have a3 : ¬ leR r2 r1 := by unfold leR; decide
    simp only [List.nodup_cons, List.mem_cons, List.not_mem_nil, or_false, not_or, not_false_eq_true, List.nodup_nil, and_true] at hn
    rcases hx with rfl | rfl | rfl <;> rcases hy with rfl | rfl | rfl <;> rcases hz with rfl | rfl | rfl <;> first | rfl | exact absurd h01 a1 | exact absurd h01 a2 | exact absurd h01 a3 | exact absurd h02 a1 | exact absurd h02 a2 | exact absurd h02 a3 | exact absurd h12 a1 | exact absurd h12 a2 | exact absurd h12 a3 | exact absurd rfl hn.1.1 | exact absurd rfl hn.1.2 | exact absurd rfl hn.2
theorem fits_of {n : Int} {x : Rec} (hn : n ≤ 5) (h : formedB n x = true) : (0 ≤ x.st ∧ x.st < 5) ∧ x.fits := by
  have hf := formedB_fits (by omega) h
  refine ⟨?_, hf⟩
  unfold formedB at h
  simp only [Bool.and_eq_true, inB_iff] at h
  omega
theorem al_f0 : formedB 3 r0 = true ∧ formedB 3 r1 = true ∧ formedB 3 r2 = true := ⟨by kernel_rfl, by kernel_rfl, by kernel_rfl⟩
theorem al_st1 : ∀ r ∈ [[], [r1, r2], [], [], []], ∀ x ∈ r, (0 ≤ x.st ∧ x.st < 5) ∧ x.fits := by
  intro r hr x hx
  have : x = r1 ∨ x = r2 := by
    simp only [List.mem_cons, List.not_mem_nil, or_false] at hr
    rcases hr with rfl | rfl | rfl | rfl | rfl <;> simp at hx <;> exact hx
  rcases this with rfl | rfl
  · exact fits_of (n := 3) (by decide) al_f0.2.1
  · exact fits_of (n := 3) (by decide) al_f0.2.2
theorem al_st2 : ∀ r ∈ [[r0], [], [], [], []], ∀ x ∈ r, (0 ≤ x.st ∧ x.st < 5) ∧ x.fits := by
  intro r hr x hx
  have : x = r0 := by
    simp only [List.mem_cons, List.not_mem_nil, or_false] at hr
    rcases hr with rfl | rfl | rfl | rfl | rfl <;> simp at hx <;> exact hx
  subst this
  exact fits_of (n := 3) (by decide) al_f0.1
set_option maxHeartbeats 1600000 in
set_option maxRecDepth 100000 in
theorem alive_any {B : Nat} {w : World} (hL : Laid B w) : Calls Tryz.prog 18 #[] w fun e w' => e = .returned (.bool true) ∧ Ext w w' := by
  have HL := Lib.hid hL
  clear hL
  go_enter Tryz.func18, Tryz.ntmps18
  go_wp2_with fail
  refine (NewDisk_any 4000 w (by decide) (by decide)).mono ?_
  rintro e w1 ⟨D1, N1, K1, rfl, hX1, hb1⟩
  have HX1 := Lib.hid hX1
  have HB1 : RowKit.Hid (Ext w w1) := Lib.hid hb1
  clear hX1 hb1
  go_wp2_with fail
  refine (NewDisk_any 4000 w1 (by decide) (by decide)).mono ?_
  rintro e w2 ⟨D2, N2, K2, rfl, hX2, hb2⟩
  have HX2 := Lib.hid (hX2.mono HB1.out.size)
  have HS2 := Lib.hid hX2.S_ge
  have HX1' := Lib.hid (HX1.out.ext hb2)
  have HB2 : RowKit.Hid (Ext w w2) := Lib.hid (HB1.out.trans hb2)
  clear hX2 hb2
  go_wp2_with fail
  refine (Open_new HX1'.out 0 3 (by decide) (by decide)).mono ?_
  rintro e w3 ⟨S1, wv1, rfl, hS1, hst1, hF1, hn1⟩
  have hA3 := hst1.S_ge
  have hAo : ∀ j, stnS S1 D1 N1 K1 wv1 [none, none, none, none, none] j → j < w1.heap.size ∨ w2.heap.size ≤ j := by
    rintro j (e | e | e | e | e | e)
    · right; omega
    · simp at e
    · left; rw [e]; exact HX1.out.lt.1
    · left; rw [e]; exact HX1.out.lt.2.1
    · left; rw [e]; exact HX1.out.lt.2.2
    · rcases hn1 j e with q | q
      · exact .inr q
      · simp [Value.ownBlock] at q
  have HX2' := Lib.hid (HX2.out.frB hF1 (fun j hj hj1 => by have a1 := HS2.out j hj; have a2 := HX1.out.S_ge j hj1; omega))
  have HB3 : RowKit.Hid (Ext w w3) := Lib.hid (Below.trans (B := w.heap.size) HB2.out (hF1.below HB2.out.size (fun j hj => (HX1'.out.S_ge j hj).1)))
  have HA := Lib.hid (And.intro hst1 (And.intro hA3 hAo))
  have hsz3 := hF1.size
  clear hst1 hF1 hn1 hA3 hAo
  go_wp2_with fail
  refine (Open_new HX2'.out 1 3 (by decide) (by decide)).mono ?_
  rintro e w4 ⟨S2, wv2, rfl, hS2, hst2, hF2, hn2⟩
  have HT : RowKit.Hid (Two w w4 S1 D1 N1 K1 4000 0 0 [[], [], [], [], []] (newDk 4000) S2 D2 N2 K2 4000 1 0 [[], [], [], [], []] (newDk 4000)) := by
    refine Lib.hid ⟨⟨wv1, _, _, wv2, _, _, HA.out.1.frB hF2 (fun j hj hj2 => ?_) (fun j hj => (HX2'.out.S_ge j hj).1), hst2, fun j hj hj2 => ?_⟩, Below.trans (B := w.heap.size) HB3.out (hF2.below HB3.out.size (fun j hj => (HX2'.out.S_ge j hj).1)), newDk_fine _, newDk_fine _⟩
    · have a1 := HS2.out j hj2
      rcases HA.out.2.2 j hj with q | q <;> omega
    · have a1 := (HA.out.2.1 j hj).2
      have a2 := HA.out.2.2 j hj
      have b1 := HS2.out D2 (.inl rfl)
      have b2 := HS2.out N2 (.inr (.inl rfl))
      have b3 := HS2.out K2 (.inr (.inr (.inl rfl)))
      rcases hj2 with e | e | e | e | e | e
      · omega
      · simp at e
      · rcases a2 with q | q <;> omega
      · rcases a2 with q | q <;> omega
      · rcases a2 with q | q <;> omega
      · rcases hn2 j e with q | q
        · omega
        · simp [Value.ownBlock] at q
  clear hst2 hF2 hn2 HA HX1 HX2 HS2 HX1' HX2' HB1 HB2 HB3 hS1 hS2 hsz3
  have hz := al_sz
  have z1 := Nat.le_of_ble_eq_true hz.1
  have z2 := Nat.le_of_ble_eq_true hz.2.1
  have z3 := Nat.le_of_ble_eq_true hz.2.2.1
  have z4 := Nat.le_of_ble_eq_true hz.2.2.2
  have HZ := Lib.hid (And.intro z1 (And.intro z2 (And.intro z3 z4)))
  clear hz z1 z2 z3 z4
  go_wp2_with fail
  refine (two_add HL.out HT.out [] rfl tBale 3 al_add.1 HZ.out.1 (by decide) (by decide) (by decide) (by decide) (by decide)).mono ?_
  rintro e w5 ⟨rfl, na, ma, hna, hT⟩
  have HT5 : RowKit.Hid (Two w w5 S1 D1 N1 K1 4000 0 na [[r0], [], [], [], []] ma S2 D2 N2 K2 4000 1 0 [[], [], [], [], []] (newDk 4000)) := Lib.hid hT
  clear hT HT
  go_wp2_with fail
  refine (two_err HL.out HT5.out [r0] rfl tWeigh 2 7 al_add.2.1 (by decide) (Nat.le_of_ble_eq_true (by kernel_rfl)) (by decide) (by decide) (by omega) (by decide)).mono ?_
  rintro e w6 ⟨rfl, hT⟩
  have HT6 := Lib.hid hT.swap
  clear hT HT5
  go_wp2_with fail
  refine (two_add HL.out HT6.out [] rfl tChest 1 al_add.2.2.1 HZ.out.2.1 (by decide) (by decide) (by decide) (by decide) (by decide)).mono ?_
  rintro e w7 ⟨rfl, nb, mb, hnb, hT⟩
  have HT7 : RowKit.Hid (Two w w7 S2 D2 N2 K2 4000 1 nb [[], [r1], [], [], []] mb S1 D1 N1 K1 4000 0 na [[r0], [], [], [], []] ma) := Lib.hid hT
  clear hT HT6
  go_wp2_with fail
  refine (two_add HL.out HT7.out [r1] rfl tSold 9 al_add.2.2.2 HZ.out.2.2.1 (by decide) (by decide) (by omega) (by omega) (by decide)).mono ?_
  rintro e w8 ⟨rfl, nb2, mb2, hnb2, hT⟩
  have HT8 : RowKit.Hid (Two w w8 S2 D2 N2 K2 4000 1 nb2 [[], [r1, r2], [], [], []] mb2 S1 D1 N1 K1 4000 0 na [[r0], [], [], [], []] ma) := Lib.hid hT
  have HT8' := Lib.hid hT.swap
  clear hT HT7
  go_wp2_with fail
  refine (two_greeting HL.out HT8'.out (by decide)).mono ?_
  rintro e w9 ⟨rfl, hT⟩
  rw [al_g1]
  have HT9 : RowKit.Hid (Two w w9 S2 D2 N2 K2 4000 1 nb2 [[], [r1, r2], [], [], []] mb2 S1 D1 N1 K1 4000 0 na [[r0], [], [], [], []] ma) := Lib.hid hT.swap
  clear hT HT8 HT8'
  go_wp2_with fail
  refine (two_hear_greet HL.out HT9.out sG1 (by decide) [1, 0, 0] al_p1 (by decide) (by omega) (by decide) al_st1).mono ?_
  rintro e w10 ⟨rfl, hT⟩
  rw [al_a1]
  have HT10 := Lib.hid hT.swap
  clear hT HT9
  go_wp2_with fail
  refine (two_hear_post HL.out HT10.out sP2 (by decide) [r1, r2] [r1, r2] al_p2 al_t2 (by simp) HZ.out.2.2.2 (by decide) (by omega) (by omega) (by decide) al_st2).mono ?_
  rintro e w11 ⟨rfl, na2, ma2, hna2, hT⟩
  rw [al_g2]
  have HT11 : RowKit.Hid (Two w w11 S1 D1 N1 K1 4000 0 na2 [[r0], [r1, r2], [], [], []] ma2 S2 D2 N2 K2 4000 1 nb2 [[], [r1, r2], [], [], []] mb2) := Lib.hid hT
  clear hT HT10
  go_wp2_with fail
  refine (two_records HT11.out (by decide)).mono ?_
  rintro e w12 ⟨rv12, rfl, hsl, hT⟩
  have HT12 := Lib.hid hT
  obtain ⟨ra, rc, hrv⟩ := hsl.shape
  subst hrv
  have hO := Order_any 3 _ _ w12 hsl (by decide)
  have HO := Lib.hid hO
  clear hT HT11 hsl hO
  go_wp2_with fail
  refine HO.out.mono ?_
  rintro e w13 ⟨hb, h | ⟨-, v13, ys, rfl, hio, hs13⟩⟩
  · exact absurd al_sorted h.1
  have HE13 : RowKit.Hid (Ext w w13) := Lib.hid (HT12.out.be.trans hb)
  obtain rfl := order3 hio
  obtain ⟨sa, sc, hsv, hcs⟩ := hs13.slR.open
  subst hsv
  obtain ⟨b0, o0, rfl, hb0, -, -, -, q0⟩ := hcs 0 r1 rfl
  obtain ⟨b1, o1, he1, hb1, -, -, -, q1⟩ := hcs 1 r0 rfl
  cases he1
  have q0' : w13.cell? ⟨b0, o0 + 3, none⟩ = some (.string tChest) := q0
  have q1' : w13.cell? ⟨b0, o0 + 4 + 3, none⟩ = some (.string tBale) := q1
  have s1 : (tChest.toList == [102, 111, 117, 110, 100, 32, 97, 32, 99, 104, 101, 115, 116]) = true := by rw [Lib.toList_data]; rfl
  have s2 : (tBale.toList == [102, 111, 117, 110, 100, 32, 97, 32, 98, 97, 108, 101]) = true := by rw [Lib.toList_data]; rfl
  have s3 : (sP2.toList == [112, 111, 115, 116, 32, 50, 10, 49, 32, 49, 32, 49, 32, 102, 111, 117, 110, 100, 32, 97, 32, 99, 104, 101, 115, 116, 10, 49, 32, 50, 32, 57, 32, 115, 111, 108, 100, 32, 105, 116, 10]) = true := by rw [Lib.toList_data]; rfl
  have s4 : (sG2.toList == [104, 97, 118, 101, 32, 49, 32, 50, 32, 48, 10]) = true := by rw [Lib.toList_data]; rfl
  clear hio hs13 hcs q0 q1 hb HT12 HO
  go_wp2_with fail
  refine (IdOf_any 2 7 w13).mono ?_
  rintro e w14 ⟨rfl, hE14⟩
  have hid : idB 2 7 = 37 := by decide
  go_wp2
  go_ret
  exact ⟨rfl, HE13.out.trans hE14⟩
end Go.Proofs.YtgjahnomafpnfaaGreatDoor

/- From the listed variables to what the walks ask of the world; a lifting rule with the world's shape. -/
namespace Go.Proofs.YtgjahnomafpnfaaGreatDoor
open Go.ChangeShapes Go.WideShapes Go.ChangeAt Go.RowKit
/-- What every row of this seat lists. -/
def laidAll : List (String × DataW Unit) := [("math/bits.deBruijn32tab", Rows.laid_math_bits_deBruijn32tab), ("math/bits.deBruijn64tab", Rows.laid_math_bits_deBruijn64tab), ("internal/strconv.uint64pow10", Rows.laid_internal_strconv_uint64pow10), ("unicode/utf8.acceptRanges", Rows.laid_unicode_utf8_acceptRanges), ("strconv.ErrRange", Rows.laid_strconv_ErrRange), ("strconv.ErrSyntax", Rows.laid_strconv_ErrSyntax), ("unicode/utf8.first", Rows.laid_unicode_utf8_first)]
theorem pow_tab : (Rows.laid_internal_strconv_uint64pow10 : DataW Unit) = Lib.tabData .u64 Lib.pow10Tab := by kernel_rfl
theorem gPow : Tryz.prog.globalNamed "internal/strconv.uint64pow10" = some 1 := by kernel_rfl
theorem gSyn : Tryz.prog.globalNamed "strconv.ErrSyntax" = some 2 := by kernel_rfl
theorem gRng : Tryz.prog.globalNamed "strconv.ErrRange" = some 3 := by kernel_rfl
theorem tPow : (Tryz.prog.globals[1]?).map (·.type) = some 265 := by kernel_rfl
theorem tSyn : (Tryz.prog.globals[2]?).map (·.type) = some 174 := by kernel_rfl
theorem tRng : (Tryz.prog.globals[3]?).map (·.type) = some 174 := by kernel_rfl
theorem nGlob : Tryz.prog.globals.size = 8 := by kernel_rfl
theorem errOk_of_reads {W : World} {n : String} {g : Nat} (hg : Tryz.prog.globalNamed n = some g) (ht : (Tryz.prog.globals[g]?).map (·.type) = some 174) {nm : String} {d : DataW Unit} (h : Lib.VarReads Tryz.prog W n (.iface nm d)) : ∃ ev, W.cell? ⟨g, 0, none⟩ = some ev ∧ errOk ev := by
  obtain ⟨g', t, cs, fuel, p, h1, h2, h3, h4⟩ := h
  obtain rfl := Option.some.inj (hg.symm.trans h1)
  obtain rfl := Option.some.inj (ht.symm.trans h2)
  obtain ⟨fuel', u, v, h5, _, _⟩ := iface_of_trod Tryz.underlying174 h4
  refine ⟨.iface u v, ?_, .inr ⟨u, v, rfl⟩⟩
  have := World.var?_cell hg h3 0
  rw [Array.eq_one_of_toList h5] at this
  simpa using this
theorem laid_of {W : World} (hS : W.ShapedOpen Tryz.prog) (h : laidMetH Tryz.prog laidAll W) : Laid W.heap.size W := by
  rw [MakeChecks.laidMetH_plain _ _ _ (by kernel_rfl)] at h
  have hp := Lib.laidMet.reads h (n := "internal/strconv.uint64pow10") (d := Rows.laid_internal_strconv_uint64pow10) (by simp [laidAll])
  have hs := Lib.laidMet.reads h (n := "strconv.ErrSyntax") (d := Rows.laid_strconv_ErrSyntax) (by simp [laidAll])
  have hr := Lib.laidMet.reads h (n := "strconv.ErrRange") (d := Rows.laid_strconv_ErrRange) (by simp [laidAll])
  obtain ⟨m, hm⟩ := cell_of_shapedOpen_int (P := Tryz.prog) (g := 0) hS (by rw [nGlob]; omega) (t := 3) (zero := #[.int .i64 0]) (by kernel_rfl) rfl (by kernel_rfl) (by kernel_rfl) Tryz.underlying3
  refine ⟨?_, ⟨m, hm⟩, errOk_of_reads gSyn tSyn hs, errOk_of_reads gRng tRng hr, ?_, Nat.le_refl _⟩
  · obtain ⟨g', t, cs, fuel, p, h1, h2, h3, h4⟩ := hp
    obtain rfl := Option.some.inj (gPow.symm.trans h1)
    obtain rfl := Option.some.inj (tPow.symm.trans h2)
    rw [pow_tab] at h4
    unfold Lib.TabIs
    rw [h3, ← Lib.cells_of_tab Tryz.underlying265 Tryz.underlying223 (by kernel_rfl) (by kernel_rfl) h4]
  · obtain ⟨cs, hh, _⟩ := hS.1 3 #[.nilIface] 174 (by rw [nGlob]; omega) (by kernel_rfl)
    have := (Array.getElem?_eq_some_iff.1 hh).1
    omega
/-- The lifting rule, with the world's shape. -/
theorem returnsInHanded_of_law {H : Type} {enc : TypeId × Value → H} {C : Checked} {os : Os} {f : FuncId} {fn : Func} {s : ChangeSpec} {conds : List PathCond} {apart fresh handsOn again : Bool} {X : World → Array Value → Prop}
    (hX : ∀ (w w' : World) (args : Array Value), w.heap = w'.heap → X w args → X w' args)
    (own : ownKnob C.prog.godebug = none) (started : os.Started) (noInit : C.prog.inits.idxOf? f = none) (hfn : C.prog.funcs[f]? = some fn)
    (witness : ∃ (w : World) (tape : Tape) (i : Input), w.os = os ∧ (w.forCall tape i).Shaped C.prog ∧ i.vars = [] ∧ Input.okWide C.prog (w.forCall tape i) .any w.heap.size f i ∧
      ((s.pre enc C.prog fn conds apart (w.forCall tape i).memory i.args ∧ X (w.forCall tape i).memory i.args) ∧ sizedMet enc C.prog fn (OpenSpec.ofChange s) apart (w.forCall tape i).memory i.args) ∧ ({} : Assume).holds C.prog (lone (Frame.enter C.prog f i.args .normal) [] (w.forCall tape i)))
    (contract : ∀ (W : World) (base : Nat) (args : Array Value) (ds gs : List (DataW H)) (before : List MemPlace),
      (∀ (j : Nat) t v, fn.params[j]? = some t → args[j]? = some v → Value.okWide C.prog W .any base t v) →
      DataW.Whole enc C.prog fn.params.toList s.vars apart W args.toList ds gs before →
      (DataW.weightsEach C.prog (fn.params.toList ++ s.plain.varTypes C.prog) (ds ++ gs)).all (· ≤ reachBytes) = true → X W args → W.ShapedOpen C.prog →
      Calls C.prog f args W fun e W' => ∃ v, e = .returned v ∧ s.post enc C.prog fn apart fresh handsOn again W args v W') :
    ReturnsInHanded {} C os f .any (fun w args => (s.pre enc C.prog fn conds apart w args ∧ X w args) ∧ sizedMet enc C.prog fn (OpenSpec.ofChange s) apart w args) (s.post enc C.prog fn apart fresh handsOn again) := by
  refine returnsInHanded_of_calls own started noInit witness ?_
  intro w tape i _ hsh _ hok hpre _
  obtain ⟨_, _, _, fn', hfn', _, _, _, _, hval⟩ := hok
  have e : fn' = fn := Option.some.inj (hfn'.symm.trans hfn)
  subst e
  obtain ⟨⟨⟨ds, gs, before, hw, _⟩, hx⟩, hz⟩ := hpre
  have hw' := DataW.Whole.of_heap (w' := w.forCall tape i) (by rfl) hw
  refine (contract (w.forCall tape i) w.heap.size i.args ds gs before hval hw' (hz.weights hw) (hX _ _ _ (by rfl) hx) hsh).mono fun e W' ⟨v, he, hp⟩ => ?_
  subst he
  exact ChangeSpec.post_blind hp
theorem ownKnobNone : ownKnob Tryz.prog.godebug = none := by kernel_rfl
end Go.Proofs.YtgjahnomafpnfaaGreatDoor

/- The witness world of every law of this seat: its shape, and that it bears what the rows list. -/
namespace Go.Proofs.YtgjahnomafpnfaaGreatDoor
open Go.ChangeShapes Go.WideShapes Go.ChangeAt Go.RowKit
set_option maxRecDepth 100000 in
theorem shaped_all (os : Os) (args : Array Value) : ((World.laidAll Tryz.prog os laidAll).forCall (fun _ _ => 0) ⟨#[], args, []⟩).Shaped Tryz.prog :=
  World.shaped_of_ZipB (by kernel_rfl) (by kernel_rfl)
set_option maxRecDepth 100000 in
theorem met_all (os : Os) (args : Array Value) : laidMetH Tryz.prog laidAll ((World.laidAll Tryz.prog os laidAll).forCall (fun _ _ => 0) ⟨#[], args, []⟩).memory := by
  rw [MakeChecks.laidMetH_plain _ _ _ (by kernel_rfl)]; exact laidMet_laidAll _ (by kernel_rfl) (by kernel_rfl)
end Go.Proofs.YtgjahnomafpnfaaGreatDoor
