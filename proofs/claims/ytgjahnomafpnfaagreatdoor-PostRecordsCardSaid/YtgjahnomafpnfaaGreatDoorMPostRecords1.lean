/- Lemmas and walks that this claim needs, in one text out of several; each states its own conditions. -/
import Derived.Test.YtgjahnomafpnfaaGreatDoorMB8
import Derived.Carry
import Derived.ChangeSlices
import Derived.ChangeMaps5
import Derived.OpenShut
import Derived.Deep.Slices
import Derived.Lib.SmallJoins
import Derived.Laws.BytesArg
import Derived.Lib.ItoaNum
set_option linter.unusedVariables false
set_option linter.unusedSimpArgs false
/- Arguments that nobody wrote read as they did; slices of bytes among the arguments. -/
namespace Go.Proofs.YtgjahnomafpnfaaGreatDoor
open Go.ChangeShapes Go.WideShapes Go.ChangeAt Go.RowKit
theorem laidOutT : laidOutB Tryz.prog = true := by kernel_rfl
/-- One closed fact: each of these types can be read and is a row of the table. -/
def typesRowed (P : Program) (ts : List TypeId) : Bool := ts.all fun t => P.readableRec t && decide (t < P.types.size)
theorem trodAll_staysP {P : Program} (hl : laidOutB P = true) {H : Type} {enc : TypeId × Value → H} {W W' : World} (hb : Below W.heap.size W W') : ∀ {ts : List TypeId} {vs : List Value} {ds : List (DataW H)} {ps : List MemPlace}, typesRowed P ts = true →
    DataW.TrodAll enc P W 0 (fun _ => true) true ts vs ds ps → (∀ x ∈ ps, x.block < W.heap.size) → DataW.TrodAll enc P W' 0 (fun b => decide (b < W.heap.size)) true ts vs ds ps
  | [], [], [], _, _, h, _ => h
  | [], [], _ :: _, _, _, h, _ => h.elim
  | [], _ :: _, _, _, _, h, _ => h.elim
  | _ :: _, [], _, _, _, h, _ => h.elim
  | _ :: _, _ :: _, [], _, _, h, _ => h.elim
  | t :: ts, v :: vs, d :: ds, ps, hr, h, hlt => by
    obtain ⟨p, q, h1, h2, rfl⟩ := h
    simp only [typesRowed, List.all_cons, Bool.and_eq_true, decide_eq_true_eq] at hr
    exact ⟨p, q, Below.trod hl hr.1.1 hr.1.2 h1 hb (fun x hx => hlt x (List.mem_append_left _ hx)), trodAll_staysP hl hb (by simpa [typesRowed] using hr.2) h2 (fun x hx => hlt x (List.mem_append_right _ hx)), rfl⟩
theorem trodAll_stays {H : Type} {enc : TypeId × Value → H} {W W' : World} (hb : Below W.heap.size W W') {ts : List TypeId} {vs : List Value} {ds : List (DataW H)} {ps : List MemPlace} (hr : typesRowed Tryz.prog ts = true)
    (h : DataW.TrodAll enc Tryz.prog W 0 (fun _ => true) true ts vs ds ps) (hlt : ∀ x ∈ ps, x.block < W.heap.size) : DataW.TrodAll enc Tryz.prog W' 0 (fun b => decide (b < W.heap.size)) true ts vs ds ps := trodAll_staysP laidOutT hb hr h hlt
/-- A slice's address is a place in memory. -/
theorem okWide_has {P : Program} {w : World} {base : Nat} {t e : TypeId} {a : Addr} {len cap : Nat} (ht : P.underlying t = some (.slice e)) (h : Value.okWide P w .any base t (.slice (some a) len cap)) : a.spot = none ∧ a.block < w.heap.size := by
  simp only [Value.okWide, ht, Cell.okWide, Cell.ok, World.has] at h
  obtain ⟨_, _, _, h1, row, cells, h2, _⟩ := h
  refine ⟨h1, ?_⟩
  unfold World.shape? at h2
  cases hh : w.heap[a.block]? with
  | none => rw [hh] at h2; cases h2
  | some o => exact (Array.getElem?_eq_some_iff.1 hh).1
theorem cells5T : Tryz.prog.cellsOf 5 = 1 := by kernel_rfl
theorem slB_ofP {P : Program} {t e : TypeId} (ht : P.underlying t = some (.slice e)) (he : P.underlying e = some (.int .u8)) (hc : P.cellsOf e = 1) {H : Type} {enc : TypeId × Value → H} {w : World} {base : Nat} {v : Value} {d : DataW H} {p : List MemPlace} (hval : Value.okWide P w .any base t v) (hd : DataW.Trod enc P w 0 (fun _ => true) true t v d p) : ∃ bs, SlB w v bs := by
  obtain ⟨a0, len, cap, rfl⟩ := okWide_slice ht hval
  obtain ⟨fuel, hf⟩ := hd
  rcases open_ints ht he hc hf with ⟨hcs, hx⟩ | ⟨a, len', cap', zs, hcs, _, hl, hm, hz, hx, hcell, hwz⟩
  · simp [Value.cells] at hcs
    obtain ⟨rfl, rfl, rfl⟩ := hcs
    exact ⟨[], .inl ⟨rfl, rfl⟩⟩
  · simp [Value.cells] at hcs
    obtain ⟨rfl, rfl, rfl⟩ := hcs
    obtain ⟨hs, hb⟩ := okWide_has ht hval
    obtain ⟨b, off, spot⟩ := a
    simp only at hs hb
    subst hs
    simp only [if_true] at hz
    have hlen : (zs.take len).length = len := by rw [List.length_take, hz]; omega
    refine ⟨(zs.take len).map (fun z => UInt8.ofNat z.toNat), .inr ⟨b, off, cap, by rw [List.length_map, hlen], by rw [List.length_map, hlen]; exact hl, hm, hb, fun j u hu => ?_⟩⟩
    unfold scells at hu
    rw [List.getElem?_map, List.getElem?_map] at hu
    cases hj : (zs.take len)[j]? with
    | none => rw [hj] at hu; cases hu
    | some z =>
      rw [hj] at hu
      simp only [Option.map_some, Option.some.injEq] at hu
      have hzz : zs[j]? = some z := by
        rw [List.getElem?_take] at hj
        split at hj
        · exact hj
        · cases hj
      have hjl := (List.getElem?_eq_some_iff.1 hzz).1
      have hb8 := bounds_u8 (hwz z (List.mem_of_getElem? hzz))
      have := hcell j hjl
      rw [Addr.add_mid, show zs.getD j 0 = z from by rw [List.getD_eq_getElem?_getD, hzz]; rfl] at this
      rw [this, ← hu]
      congr 2
      rw [UInt8.toNat_ofNat']
      omega
set_option maxRecDepth 100000 in
theorem slB_of {H : Type} {enc : TypeId × Value → H} {w : World} {base : Nat} {v : Value} {d : DataW H} {p : List MemPlace} (hval : Value.okWide Tryz.prog w .any base 69 v) (hd : DataW.Trod enc Tryz.prog w 0 (fun _ => true) true 69 v d p) : ∃ bs, SlB w v bs :=
  slB_ofP (P := Tryz.prog) (t := 69) (e := 5) Tryz.underlying69 Tryz.underlying5 cells5T hval hd
end Go.Proofs.YtgjahnomafpnfaaGreatDoor

/- Records and slices of records among the arguments. -/
namespace Go.Proofs.YtgjahnomafpnfaaGreatDoor
open Go.ChangeShapes Go.WideShapes Go.ChangeAt Go.RowKit Go.Deep Go.Joins
/-- A record's numbers are whole numbers of 64 bits. -/
structure Rec.i64 (x : Rec) : Prop where
  st : -9223372036854775808 ≤ x.st ∧ x.st ≤ 9223372036854775807
  num : -9223372036854775808 ≤ x.num ∧ x.num ≤ 9223372036854775807
  hr : -9223372036854775808 ≤ x.hr ∧ x.hr ≤ 9223372036854775807
  sz : x.txt.size ≤ maxLen
theorem i64_fits {x : Rec} (h : x.i64) (ht : x.txt.size ≤ 1000000) : x.fits := ⟨h.st, h.num, h.hr, ht⟩
section
variable {P : Program} {H : Type} {enc : TypeId × Value → H} {w : World} {base b0 : Nat} {sp : Nat → Bool} {held : Bool}
theorem rec_cellsP {f0 f1 f2 f3 : Field} {t : TypeId} (hs : P.underlying t = some (.struct #[f0, f1, f2, f3])) (hone : oneCellFields P #[f0, f1, f2, f3] = true)
    (h0 : P.underlying f0.type = some (.int .i64)) (h1 : P.underlying f1.type = some (.int .i64)) (h2 : P.underlying f2.type = some (.int .i64)) (h3 : P.underlying f3.type = some .string)
    {fuel : Nat} {cs : List Value} {y : DataW H × List MemPlace} (hl : cs.length = 4) (hf : DataW.trod enc P w base sp held fuel t cs = some y) : ∃ x : Rec, cs = rcells x ∧ x.i64 := by
  obtain ⟨y0, y1, y2, y3, n, hx, _, g0, g1, g2, g3⟩ := trod_struct4 hs hf
  obtain ⟨o0, k0⟩ := hone_of hone 0 f0 rfl
  obtain ⟨o1, k1⟩ := hone_of hone 1 f1 rfl
  obtain ⟨o2, k2⟩ := hone_of hone 2 f2 rfl
  obtain ⟨o3, k3⟩ := hone_of hone 3 f3 rfl
  match cs, hl with
  | [c0, c1, c2, c3], _ =>
    simp only [o0, k0, o1, k1, o2, k2, o3, k3] at g0 g1 g2 g3
    obtain ⟨a, e0, _, w0⟩ := DataW.trod_int h0 g0
    obtain ⟨b, e1, _, w1⟩ := DataW.trod_int h1 g1
    obtain ⟨c, e2, _, w2⟩ := DataW.trod_int h2 g2
    obtain ⟨s, e3, _, w3⟩ := DataW.trod_string h3 g3
    simp at e0 e1 e2 e3
    subst e0 e1 e2 e3
    exact ⟨⟨a, b, c, s⟩, rfl, ⟨bounds_i64 w0, bounds_i64 w1, bounds_i64 w2, w3⟩⟩
theorem pair_cellsP {f0 f1 : Field} {t : TypeId} (hs : P.underlying t = some (.struct #[f0, f1])) (hone : oneCellFields P #[f0, f1] = true)
    (h0 : P.underlying f0.type = some (.int .i64)) (h1 : P.underlying f1.type = some (.int .i64))
    {fuel : Nat} {cs : List Value} {y : DataW H × List MemPlace} (hl : cs.length = 2) (hf : DataW.trod enc P w base sp held fuel t cs = some y) : ∃ a b : Int, cs = [.int .i64 a, .int .i64 b] ∧ (-9223372036854775808 ≤ a ∧ a ≤ 9223372036854775807) ∧ (-9223372036854775808 ≤ b ∧ b ≤ 9223372036854775807) := by
  obtain ⟨y0, y1, n, hx, _, g0, g1⟩ := trod_struct2 hs hf
  obtain ⟨o0, k0⟩ := hone_of hone 0 f0 rfl
  obtain ⟨o1, k1⟩ := hone_of hone 1 f1 rfl
  match cs, hl with
  | [c0, c1], _ =>
    simp only [o0, k0, o1, k1] at g0 g1
    obtain ⟨a, e0, _, w0⟩ := DataW.trod_int h0 g0
    obtain ⟨b, e1, _, w1⟩ := DataW.trod_int h1 g1
    simp at e0 e1
    subst e0 e1
    exact ⟨a, b, rfl, bounds_i64 w0, bounds_i64 w1⟩
end
set_option maxRecDepth 100000 in
theorem fields49' : ∃ f0 f1 f2 f3, Tryz.prog.underlying 49 = some (.struct #[f0, f1, f2, f3]) ∧ oneCellFields Tryz.prog #[f0, f1, f2, f3] = true ∧ Tryz.prog.underlying f0.type = some (.int .i64) ∧ Tryz.prog.underlying f1.type = some (.int .i64) ∧ Tryz.prog.underlying f2.type = some (.int .i64) ∧ Tryz.prog.underlying f3.type = some .string :=
  ⟨_, _, _, _, Tryz.underlying49, by kernel_rfl, by kernel_rfl, by kernel_rfl, by kernel_rfl, by kernel_rfl⟩
set_option maxRecDepth 100000 in
theorem fields94' : ∃ f0 f1, Tryz.prog.underlying 94 = some (.struct #[f0, f1]) ∧ oneCellFields Tryz.prog #[f0, f1] = true ∧ Tryz.prog.underlying f0.type = some (.int .i64) ∧ Tryz.prog.underlying f1.type = some (.int .i64) :=
  ⟨_, _, Tryz.underlying94, by kernel_rfl, by kernel_rfl, by kernel_rfl⟩
theorem cells49T : Tryz.prog.cellsOf 49 = 4 := by kernel_rfl
theorem cells94T : Tryz.prog.cellsOf 94 = 2 := by kernel_rfl
section
variable {H : Type} {enc : TypeId × Value → H} {w : World} {base : Nat}
set_option maxRecDepth 100000 in
theorem rec_cells {b0 : Nat} {sp : Nat → Bool} {held : Bool} {fuel : Nat} {cs : List Value} {y : DataW H × List MemPlace} (hl : cs.length = 4) (hf : DataW.trod enc Tryz.prog w b0 sp held fuel 49 cs = some y) : ∃ x : Rec, cs = rcells x ∧ x.i64 := by
  obtain ⟨f0, f1, f2, f3, h, h', h0, h1, h2, h3⟩ := fields49'
  exact rec_cellsP h h' h0 h1 h2 h3 hl hf
set_option maxRecDepth 100000 in
theorem rec_of {v : Value} {d : DataW H} {p : List MemPlace} (hval : Value.okWide Tryz.prog w .any base 49 v) (hd : DataW.Trod enc Tryz.prog w 0 (fun _ => true) true 49 v d p) : ∃ x : Rec, v = rv x ∧ x.i64 := by
  obtain ⟨cs, rfl, hsz⟩ := okWide_struct Tryz.underlying49 hval
  obtain ⟨fuel, hf⟩ := hd
  obtain ⟨x, hx, h⟩ := rec_cells (by simp [Value.cells, hsz, cells49T]) hf
  exact ⟨x, by congr 1; apply Array.ext'; exact hx, h⟩
set_option maxRecDepth 100000 in
theorem pair_of {v : Value} {d : DataW H} {p : List MemPlace} (hval : Value.okWide Tryz.prog w .any base 94 v) (hd : DataW.Trod enc Tryz.prog w 0 (fun _ => true) true 94 v d p) : ∃ a b : Int, v = .agg #[.int .i64 a, .int .i64 b] ∧ (-9223372036854775808 ≤ a ∧ a ≤ 9223372036854775807) ∧ (-9223372036854775808 ≤ b ∧ b ≤ 9223372036854775807) := by
  obtain ⟨cs, rfl, hsz⟩ := okWide_struct Tryz.underlying94 hval
  obtain ⟨fuel, hf⟩ := hd
  obtain ⟨f0, f1, h, h', h0, h1⟩ := fields94'
  obtain ⟨a, b, hx, h2, h3⟩ := pair_cellsP h h' h0 h1 (by simp [Value.cells, hsz, cells94T]) hf
  exact ⟨a, b, by congr 1; apply Array.ext'; exact hx, h2, h3⟩
set_option maxRecDepth 100000 in
/-- A slice of records, out of its one cell. -/
theorem slR_cell {b0 : Nat} {sp : Nat → Bool} {held : Bool} {fuel : Nat} {v : Value} {y : DataW H × List MemPlace} (hf : DataW.trod enc Tryz.prog w b0 sp held fuel 23 [v] = some y)
    (hok : ∀ a l c, v = .slice (some a) l c → a.spot = none ∧ a.block < w.heap.size) : ∃ xs, SlR w v xs ∧ ∀ x ∈ xs, x.i64 := by
  rcases open_slice Tryz.underlying23 hf with ⟨hcs, _⟩ | ⟨a, len, cap, m, n, D, Pl, hcs, _, hl, hm, hmm, _, hx⟩
  · simp at hcs
    subst hcs
    exact ⟨[], .inl ⟨rfl, rfl⟩, by simp⟩
  · simp at hcs
    subst hcs
    obtain ⟨hs, hb⟩ := hok a len cap rfl
    obtain ⟨b, off, spot⟩ := a
    simp only at hs hb
    subst hs
    have hlm : len ≤ m := by rw [hmm]; split <;> omega
    have hx' : ∀ i, i < len → ∃ x : Rec, x.i64 ∧ ∀ j u, (rcells x)[j]? = some u → w.cell? ⟨b, off + (i * 4 + j), none⟩ = some u := by
      intro i hi
      obtain ⟨cs, h1, h2⟩ := hx i (by omega)
      rw [cells49T] at h1
      obtain ⟨_, hlen, hcell⟩ := World.cells?_some h1
      obtain ⟨x, rfl, h3⟩ := rec_cells hlen h2
      refine ⟨x, h3, fun j u hu => ?_⟩
      have hj := (List.getElem?_eq_some_iff.1 hu).1
      have := hcell j (by simpa [rcells] using hj)
      rw [hu] at this
      rwa [Addr.add_mid, Addr.add_mid, Nat.add_assoc] at this
    obtain ⟨X, hX⟩ := choose_lt (α := Rec) hx'
    refine ⟨(List.range len).map X, .inr ⟨b, off, cap, by simp, by simpa using hl, hm, hb, fun j u hu => ?_⟩, fun x hxm => ?_⟩
    · have hj := (List.getElem?_eq_some_iff.1 hu).1
      rw [flat_length, List.length_map, List.length_range] at hj
      have hi : j / 4 < len := by omega
      have hg := flat_get ((List.range len).map X) (j / 4) (j % 4) (X (j / 4)) (by simp [hi]) (by omega)
      rw [show j / 4 * 4 + j % 4 = j from by omega, hu] at hg
      have := (hX (j / 4) hi).2 (j % 4) u hg.symm
      rwa [show j / 4 * 4 + j % 4 = j from by omega] at this
    · obtain ⟨i, hi, rfl⟩ := List.mem_map.1 hxm
      exact (hX i (by simpa using hi)).1
set_option maxRecDepth 100000 in
theorem slR_of {v : Value} {d : DataW H} {p : List MemPlace} (hval : Value.okWide Tryz.prog w .any base 23 v) (hd : DataW.Trod enc Tryz.prog w 0 (fun _ => true) true 23 v d p) : ∃ xs, SlR w v xs ∧ ∀ x ∈ xs, x.i64 := by
  obtain ⟨a0, len, cap, rfl⟩ := okWide_slice Tryz.underlying23 hval
  obtain ⟨fuel, hf⟩ := hd
  refine slR_cell (by simpa [Value.cells] using hf) (fun a l c h => ?_)
  simp only [Value.slice.injEq] at h
  obtain ⟨rfl, rfl, rfl⟩ := h
  exact okWide_has Tryz.underlying23 hval
end
section
variable {H : Type} {enc : TypeId × Value → H} {P : Program} {w : World} {base : Nat} {spare : Nat → Bool} {held : Bool}
theorem trodAll_five {t0 t1 t2 t3 t4 : TypeId} {args : Array Value} {ds : List (DataW H)} {ps : List MemPlace} (h : DataW.TrodAll enc P w base spare held [t0, t1, t2, t3, t4] args.toList ds ps) :
    ∃ v0 v1 v2 v3 v4 d0 d1 d2 d3 d4 p0 p1 p2 p3 p4, args = #[v0, v1, v2, v3, v4] ∧ ds = [d0, d1, d2, d3, d4] ∧ ps = p0 ++ p1 ++ p2 ++ p3 ++ p4 ∧ DataW.Trod enc P w base spare held t0 v0 d0 p0 ∧ DataW.Trod enc P w base spare held t1 v1 d1 p1 ∧ DataW.Trod enc P w base spare held t2 v2 d2 p2 ∧ DataW.Trod enc P w base spare held t3 v3 d3 p3 ∧ DataW.Trod enc P w base spare held t4 v4 d4 p4 := by
  obtain ⟨v0, vs0, d0, ds0, p0, q0, e0, rfl, rfl, g0, r0⟩ := trodAll_cons h
  obtain ⟨v1, vs1, d1, ds1, p1, q1, rfl, rfl, rfl, g1, r1⟩ := trodAll_cons r0
  obtain ⟨v2, vs2, d2, ds2, p2, q2, rfl, rfl, rfl, g2, r2⟩ := trodAll_cons r1
  obtain ⟨v3, vs3, d3, ds3, p3, q3, rfl, rfl, rfl, g3, r3⟩ := trodAll_cons r2
  obtain ⟨v4, vs4, d4, ds4, p4, q4, rfl, rfl, rfl, g4, r4⟩ := trodAll_cons r3
  obtain ⟨rfl, rfl, rfl⟩ := trodAll_nil r4
  exact ⟨v0, v1, v2, v3, v4, d0, d1, d2, d3, d4, p0, p1, p2, p3, p4, by cases args; simp_all, rfl, by simp, g0, g1, g2, g3, g4⟩
end
end Go.Proofs.YtgjahnomafpnfaaGreatDoor

/- The reference's many, formed, CheckRecord. -/
namespace Go.Proofs.YtgjahnomafpnfaaGreatDoor
open Go.RowKit
set_option maxHeartbeats 400000 in
set_option maxRecDepth 100000 in
theorem manyR_any (n : Int) (w : World) : Calls Tryz.prog 107 #[.int .i64 n] w fun e w' => e = .returned (.bool (inB n 2 5)) ∧ w' = w := by
  by_cases h1 : 2 ≤ n
  · by_cases h2 : n ≤ 5
    · rw [(inB_iff n 2 5).2 ⟨h1, h2⟩]
      go_enter Tryz.func107, Tryz.ntmps107
      go_wp2
      go_ret
      exact ⟨rfl, rfl⟩
    · rw [show inB n 2 5 = false from by unfold inB; simp; omega]
      go_enter Tryz.func107, Tryz.ntmps107
      go_wp2
      go_ret
      exact ⟨rfl, rfl⟩
  · rw [show inB n 2 5 = false from by unfold inB; simp; omega]
    go_enter Tryz.func107, Tryz.ntmps107
    go_wp2
    go_ret
    exact ⟨rfl, rfl⟩
def headB (n : Int) (x : Rec) : Bool := inB x.st 0 (n - 1) && inB x.num 1 400 && inB x.hr 0 1000000 && inB (x.txt.size : Int) 1 200
theorem headB_iff (n : Int) (x : Rec) : headB n x = true ↔ (0 ≤ x.st ∧ x.st < n) ∧ (1 ≤ x.num ∧ x.num ≤ 400) ∧ (0 ≤ x.hr ∧ x.hr ≤ 1000000) ∧ (0 < x.txt.size ∧ x.txt.size ≤ 200) := by
  simp only [headB, Bool.and_eq_true, inB_iff]
  omega
theorem formedB_head (n : Int) (x : Rec) : formedB n x = (headB n x && x.txt.data.toList.all okByte) := by
  unfold formedB headB writtenB
  simp only [Bool.and_assoc]
theorem formedB_no {n : Int} {x : Rec} (h : headB n x = false) : formedB n x = false := by rw [formedB_head, h]; rfl
theorem formedB_yes {n : Int} {x : Rec} (h : headB n x = true) : formedB n x = x.txt.data.toList.all okByte := by rw [formedB_head, h]; rfl
set_option maxHeartbeats 1600000 in
set_option maxRecDepth 100000 in
theorem formedR_any (n : Int) (x : Rec) (w : World) (ht : x.txt.size ≤ 1000000) : Calls Tryz.prog 120 #[.int .i64 n, rv x] w fun e w' => e = .returned (.bool (formedB n x)) ∧ Ext w w' := by
  obtain ⟨st, num, hr, txt⟩ := x
  have HE := Lib.hid (Ext.alloc w (.cells #[.int .i64 st, .int .i64 num, .int .i64 hr, .string txt] 49))
  simp only at ht
  cases hh : headB n ⟨st, num, hr, txt⟩
  · rw [formedB_no hh]
    have hc : st < 0 ∨ n ≤ st ∨ num < 1 ∨ 400 < num ∨ hr < 0 ∨ 1000000 < hr ∨ (txt.size : Int) ≤ 0 ∨ 200 < (txt.size : Int) := by
      have := headB_iff n ⟨st, num, hr, txt⟩
      simp only [hh, Bool.false_eq_true, false_iff] at this
      omega
    clear hh
    by_cases h1 : st < 0
    · clear hc
      go_enter Tryz.func120, Tryz.ntmps120
      go_wp2
      go_loopw [5, 6] (fun vo vi wr => ∃ k : Nat, k ≤ txt.size ∧ vi = .int .i64 k ∧ vo = .bool false ∧ w.alloc (.cells #[.int .i64 st, .int .i64 num, .int .i64 hr, .string txt] 49) = wr) (fun _ vi _ => txt.size - (intOf vi).toNat)
      case atStart => exact ⟨0, by omega, rfl, by first | rfl | (rw [decide_eq_false (by omega)]), rfl⟩
      case round =>
        obtain ⟨k, hk, rfl, rfl, rfl⟩ := hrel
        by_cases hlt : k < txt.size
        · have hlt' : (k : Int) < txt.size := by omega
          first
            | (exfalso; omega)
            | (go_wp2
               go_roundw
               case rel => exact ⟨k + 1, by omega, by go_num, rfl, trivial⟩
               case measure => simp [intOf]; omega)
        · obtain rfl : k = txt.size := by omega
          go_wp2
          go_ret
          exact ⟨rfl, HE.out⟩
    by_cases h2 : n ≤ st
    · clear hc
      go_enter Tryz.func120, Tryz.ntmps120
      go_wp2
      go_loopw [5, 6] (fun vo vi wr => ∃ k : Nat, k ≤ txt.size ∧ vi = .int .i64 k ∧ vo = .bool false ∧ w.alloc (.cells #[.int .i64 st, .int .i64 num, .int .i64 hr, .string txt] 49) = wr) (fun _ vi _ => txt.size - (intOf vi).toNat)
      case atStart => exact ⟨0, by omega, rfl, by first | rfl | (rw [decide_eq_false (by omega)]), rfl⟩
      case round =>
        obtain ⟨k, hk, rfl, rfl, rfl⟩ := hrel
        by_cases hlt : k < txt.size
        · have hlt' : (k : Int) < txt.size := by omega
          first
            | (exfalso; omega)
            | (go_wp2
               go_roundw
               case rel => exact ⟨k + 1, by omega, by go_num, rfl, trivial⟩
               case measure => simp [intOf]; omega)
        · obtain rfl : k = txt.size := by omega
          go_wp2
          go_ret
          exact ⟨rfl, HE.out⟩
    by_cases h3 : num < 1
    · clear hc
      go_enter Tryz.func120, Tryz.ntmps120
      go_wp2
      go_loopw [5, 6] (fun vo vi wr => ∃ k : Nat, k ≤ txt.size ∧ vi = .int .i64 k ∧ vo = .bool false ∧ w.alloc (.cells #[.int .i64 st, .int .i64 num, .int .i64 hr, .string txt] 49) = wr) (fun _ vi _ => txt.size - (intOf vi).toNat)
      case atStart => exact ⟨0, by omega, rfl, by first | rfl | (rw [decide_eq_false (by omega)]), rfl⟩
      case round =>
        obtain ⟨k, hk, rfl, rfl, rfl⟩ := hrel
        by_cases hlt : k < txt.size
        · have hlt' : (k : Int) < txt.size := by omega
          first
            | (exfalso; omega)
            | (go_wp2
               go_roundw
               case rel => exact ⟨k + 1, by omega, by go_num, rfl, trivial⟩
               case measure => simp [intOf]; omega)
        · obtain rfl : k = txt.size := by omega
          go_wp2
          go_ret
          exact ⟨rfl, HE.out⟩
    by_cases h4 : 400 < num
    · clear hc
      go_enter Tryz.func120, Tryz.ntmps120
      go_wp2
      go_loopw [5, 6] (fun vo vi wr => ∃ k : Nat, k ≤ txt.size ∧ vi = .int .i64 k ∧ vo = .bool false ∧ w.alloc (.cells #[.int .i64 st, .int .i64 num, .int .i64 hr, .string txt] 49) = wr) (fun _ vi _ => txt.size - (intOf vi).toNat)
      case atStart => exact ⟨0, by omega, rfl, by first | rfl | (rw [decide_eq_false (by omega)]), rfl⟩
      case round =>
        obtain ⟨k, hk, rfl, rfl, rfl⟩ := hrel
        by_cases hlt : k < txt.size
        · have hlt' : (k : Int) < txt.size := by omega
          first
            | (exfalso; omega)
            | (go_wp2
               go_roundw
               case rel => exact ⟨k + 1, by omega, by go_num, rfl, trivial⟩
               case measure => simp [intOf]; omega)
        · obtain rfl : k = txt.size := by omega
          go_wp2
          go_ret
          exact ⟨rfl, HE.out⟩
    by_cases h5 : hr < 0
    · clear hc
      go_enter Tryz.func120, Tryz.ntmps120
      go_wp2
      go_loopw [5, 6] (fun vo vi wr => ∃ k : Nat, k ≤ txt.size ∧ vi = .int .i64 k ∧ vo = .bool false ∧ w.alloc (.cells #[.int .i64 st, .int .i64 num, .int .i64 hr, .string txt] 49) = wr) (fun _ vi _ => txt.size - (intOf vi).toNat)
      case atStart => exact ⟨0, by omega, rfl, by first | rfl | (rw [decide_eq_false (by omega)]), rfl⟩
      case round =>
        obtain ⟨k, hk, rfl, rfl, rfl⟩ := hrel
        by_cases hlt : k < txt.size
        · have hlt' : (k : Int) < txt.size := by omega
          first
            | (exfalso; omega)
            | (go_wp2
               go_roundw
               case rel => exact ⟨k + 1, by omega, by go_num, rfl, trivial⟩
               case measure => simp [intOf]; omega)
        · obtain rfl : k = txt.size := by omega
          go_wp2
          go_ret
          exact ⟨rfl, HE.out⟩
    by_cases h6 : 1000000 < hr
    · clear hc
      go_enter Tryz.func120, Tryz.ntmps120
      go_wp2
      go_loopw [5, 6] (fun vo vi wr => ∃ k : Nat, k ≤ txt.size ∧ vi = .int .i64 k ∧ vo = .bool false ∧ w.alloc (.cells #[.int .i64 st, .int .i64 num, .int .i64 hr, .string txt] 49) = wr) (fun _ vi _ => txt.size - (intOf vi).toNat)
      case atStart => exact ⟨0, by omega, rfl, by first | rfl | (rw [decide_eq_false (by omega)]), rfl⟩
      case round =>
        obtain ⟨k, hk, rfl, rfl, rfl⟩ := hrel
        by_cases hlt : k < txt.size
        · have hlt' : (k : Int) < txt.size := by omega
          first
            | (exfalso; omega)
            | (go_wp2
               go_roundw
               case rel => exact ⟨k + 1, by omega, by go_num, rfl, trivial⟩
               case measure => simp [intOf]; omega)
        · obtain rfl : k = txt.size := by omega
          go_wp2
          go_ret
          exact ⟨rfl, HE.out⟩
    by_cases h7 : (txt.size : Int) ≤ 0
    · clear hc
      go_enter Tryz.func120, Tryz.ntmps120
      go_wp2
      go_loopw [5, 6] (fun vo vi wr => ∃ k : Nat, k ≤ txt.size ∧ vi = .int .i64 k ∧ vo = .bool false ∧ w.alloc (.cells #[.int .i64 st, .int .i64 num, .int .i64 hr, .string txt] 49) = wr) (fun _ vi _ => txt.size - (intOf vi).toNat)
      case atStart => exact ⟨0, by omega, rfl, by first | rfl | (rw [decide_eq_false (by omega)]), rfl⟩
      case round =>
        obtain ⟨k, hk, rfl, rfl, rfl⟩ := hrel
        by_cases hlt : k < txt.size
        · have hlt' : (k : Int) < txt.size := by omega
          first
            | (exfalso; omega)
            | (go_wp2
               go_roundw
               case rel => exact ⟨k + 1, by omega, by go_num, rfl, trivial⟩
               case measure => simp [intOf]; omega)
        · obtain rfl : k = txt.size := by omega
          go_wp2
          go_ret
          exact ⟨rfl, HE.out⟩
    have h8 : 200 < (txt.size : Int) := by omega
    clear hc
    go_enter Tryz.func120, Tryz.ntmps120
    go_wp2
    go_loopw [5, 6] (fun vo vi wr => ∃ k : Nat, k ≤ txt.size ∧ vi = .int .i64 k ∧ vo = .bool false ∧ w.alloc (.cells #[.int .i64 st, .int .i64 num, .int .i64 hr, .string txt] 49) = wr) (fun _ vi _ => txt.size - (intOf vi).toNat)
    case atStart => exact ⟨0, by omega, rfl, by first | rfl | (rw [decide_eq_false (by omega)]), rfl⟩
    case round =>
      obtain ⟨k, hk, rfl, rfl, rfl⟩ := hrel
      by_cases hlt : k < txt.size
      · have hlt' : (k : Int) < txt.size := by omega
        first
          | (exfalso; omega)
          | (go_wp2
             go_roundw
             case rel => exact ⟨k + 1, by omega, by go_num, rfl, trivial⟩
             case measure => simp [intOf]; omega)
      · obtain rfl : k = txt.size := by omega
        go_wp2
        go_ret
        exact ⟨rfl, HE.out⟩
  · rw [formedB_yes hh]
    have hc := (headB_iff n ⟨st, num, hr, txt⟩).1 hh
    simp only at hc
    obtain ⟨⟨c1, c2⟩, ⟨c3, c4⟩, ⟨c5, c6⟩, ⟨c7, c8⟩⟩ := hc
    have c7' : (0 : Int) < txt.size := by omega
    have c8' : (txt.size : Int) ≤ 200 := by omega
    clear hh
    go_enter Tryz.func120, Tryz.ntmps120
    go_wp2
    go_loopw [5, 6] (fun vo vi wr => ∃ k : Nat, k ≤ txt.size ∧ vi = .int .i64 k ∧ vo = .bool ((txt.data.toList.take k).all okByte) ∧ w.alloc (.cells #[.int .i64 st, .int .i64 num, .int .i64 hr, .string txt] 49) = wr) (fun _ vi _ => txt.size - (intOf vi).toNat)
    case atStart => exact ⟨0, by omega, rfl, rfl, rfl⟩
    case round =>
      obtain ⟨k, hk, rfl, rfl, rfl⟩ := hrel
      by_cases hlt : k < txt.size
      · have hlt' : (k : Int) < txt.size := by omega
        have hc : txt.data.toList[k]? = some (txt[k]'hlt) := by rw [Array.getElem?_toList]; exact Array.getElem?_eq_getElem hlt
        have hstep : (txt.data.toList.take (k + 1)).all okByte = ((txt.data.toList.take k).all okByte && okByte (txt[k]'hlt)) := by rw [List.take_add_one, hc]; simp
        clear hc
        cases hb : (txt.data.toList.take k).all okByte
        · rw [hb] at hstep
          go_wp2
          go_roundw
          case rel => exact ⟨k + 1, by omega, by go_num, by rw [hstep]; rfl, trivial⟩
          case measure => simp [intOf]; omega
        · rw [hb] at hstep
          go_wp2
          all_goals
            go_roundw
            case rel =>
              refine ⟨k + 1, by omega, by go_num, congrArg Value.bool ?_, trivial⟩
              rw [hstep, Bool.true_and, Bool.eq_iff_iff]
              unfold okByte inB
              simp only [Bool.and_eq_true, decide_eq_true_eq, Bool.false_eq_true]
              first
                | omega
                | (constructor
                   · intro h; cases h
                   · intro h; exfalso; omega)
            case measure => simp [intOf]; omega
      · obtain rfl : k = txt.size := by omega
        rw [show txt.data.toList.take txt.size = txt.data.toList from List.take_of_length_le (by rw [Array.length_toList]; exact Nat.le_refl _)]
        go_wp2
        go_ret
        exact ⟨rfl, HE.out⟩
set_option maxHeartbeats 800000 in
set_option maxRecDepth 100000 in
theorem CheckRecordR_any (n : Int) (x : Rec) (w : World) (ht : x.txt.size ≤ 1000000) : Calls Tryz.prog 64 #[.int .i64 n, rv x] w fun e w' => e = .returned (.int .i64 (checkE n x)) ∧ Ext w w' := by
  have HF := Lib.hid (fun w => formedR_any n x w ht)
  have hE1 : Ext w (w.alloc (.cells #[.int .i64 x.st, .int .i64 x.num, .int .i64 x.hr, .string x.txt] 49)) := Ext.alloc _ _
  have HE1 := Lib.hid hE1
  clear hE1
  unfold checkE
  cases h1 : inB n 2 5 <;> cases h2 : formedB n x <;>
    (have H1 := Lib.hid h1
     have H2 := Lib.hid h2
     clear h1 h2
     go_enter Tryz.func64, Tryz.ntmps64
     go_wp2_with (first | (go_at_call 107; refine (manyR_any _ _).mono ?_; rw [H1.out]; rintro e w' ⟨rfl, rfl⟩) | (go_at_call 120; refine (HF.out _).mono ?_; rw [H2.out]; rintro e w' ⟨rfl, hE2⟩))
     go_ret
     exact ⟨rfl, HE1.out.trans hE2⟩)
end Go.Proofs.YtgjahnomafpnfaaGreatDoor

/- (*Disk).Crash. -/
namespace Go.Proofs.YtgjahnomafpnfaaGreatDoor
open Go.RowKit
/-- What a crash leaves of a sector that was being written: the first c bytes are new. -/
def mixS (c : Nat) (s t : Sec) : Sec := s.take c ++ t.drop c
theorem mixS_length {c : Nat} {s t : Sec} (hs : s.length = 64) (ht : t.length = 64) (hc : c ≤ 64) : (mixS c s t).length = 64 := by simp [mixS]; omega
def clampN (c : Int) : Nat := (min (max c 0) 64).toNat
theorem clampN_le (c : Int) : clampN c ≤ 64 := by unfold clampN; omega
def crashStep (K : List Sec) (x : (Nat × Sec) × Int) : List Sec := K.set x.1.1 (mixS (clampN x.2) x.1.2 (K.getD x.1.1 []))
def crashK (kept : List Sec) (xs : List ((Nat × Sec) × Int)) : List Sec := xs.foldl crashStep kept
theorem crashK_snoc (kept : List Sec) (xs : List ((Nat × Sec) × Int)) (k : Nat) (x : (Nat × Sec) × Int) (h : xs[k]? = some x) : crashK kept (xs.take (k + 1)) = crashStep (crashK kept (xs.take k)) x := by
  rw [List.take_add_one, h]
  simp [crashK]
theorem take_end {α : Type} (xs : List α) (k : Nat) (h : xs.length ≤ k) : xs.take (k + 1) = xs.take k := by rw [List.take_of_length_le h, List.take_of_length_le (by omega)]
def crashP (m : Dk) (keep : List Int) : Dk := { m with kept := crashK m.kept (m.writes.zip keep), now := crashK m.kept (m.writes.zip keep), writes := [], stops := false, down := false }
theorem SlI.frB {w w' : World} {v : Value} {xs : List Int} (h : SlI w v xs) {S : Nat → Prop} (hF : FrB S w w') (hn : ∀ g, v.ownBlock = some g → ¬ S g) : SlI w' v xs := by
  rcases h with h | ⟨b, off, cap, h1, h2, h3, h4, h5⟩
  · exact .inl h
  · exact .inr ⟨b, off, cap, h1, h2, h3, Nat.lt_of_lt_of_le h4 hF.size, fun j u hu => (hF.cell h4 (hn b (by rw [h1]; rfl))).trans (h5 j u hu)⟩
theorem SlI.at {w : World} {a : Option Addr} {c : Nat} {xs : List Int} (h : SlI w (.slice a xs.length c) xs) {k : Nat} {x : Int} (hk : xs[k]? = some x) : ∃ q off, a = some ⟨q, off, none⟩ ∧ w.cell? ⟨q, off + k, none⟩ = some (.int .i64 x) := by
  obtain ⟨ao, cap, h1, h2⟩ := h.open
  simp only [Value.slice.injEq] at h1
  obtain ⟨b, off, h3, h4⟩ := h2 k x hk
  exact ⟨b, off, h1.1.trans h3, h4⟩
section
variable {w : World} {base n D N K : Nat} {wv : Value} {m : Dk}
theorem range_setPart {w : World} {g i k : Nat} {l : List Sec} (hl : ∀ s ∈ l, s.length = 64) (h : w.rangeAt g 0 (flatS l)) (ht : w.there g 0 (k * 64)) (hk : l.length = k) (s : Sec) (hs : s.length = 64) (hi : i < k) (c : Nat) (hc : c ≤ 64) : (w.setCells g (i * 64) (scells (s.take c))).rangeAt g 0 (flatS (l.set i (mixS c s (l.getD i [])))) := by
  have hi' : l[i]? = some (l.getD i []) := by rw [List.getD_eq_getElem?_getD, List.getElem?_eq_getElem (by omega)]; rfl
  have ho := hl _ (List.mem_of_getElem? hi')
  have hm := mixS_length hs ho hc
  generalize l.getD i [] = old at hi' ho hm ⊢
  intro j v hv
  rw [flatS_set l hl i _ hm (by omega) j] at hv
  rw [Nat.zero_add]
  split at hv
  · rename_i hj
    by_cases hjc : j - i * 64 < c
    · have hl : j - i * 64 < (scells (s.take c)).length := by rw [scells_length, List.length_take]; omega
      have := World.cell?_setCells_in g (scells (s.take c)) (i * 64) w (fun q hq => by
        rw [scells_length, List.length_take] at hq
        have := (ht (i * 64 + q) (by omega)).1
        rwa [Nat.zero_add] at this) (j - i * 64) hl
      rw [show i * 64 + (j - i * 64) = j from by omega] at this
      rw [this, ← hv, ← List.getElem?_eq_getElem hl]
      simp only [mixS, scells, List.map_append]
      rw [List.getElem?_append_left (by simp; omega)]
    · rw [World.cell?_setCells_out g (scells (s.take c)) (i * 64) w ⟨g, j, none⟩ (fun _ _ => by rw [scells_length, List.length_take, hs]; show j < i * 64 ∨ i * 64 + min c 64 ≤ j; omega)]
      have := h j v (by
        rw [show j = i * 64 + (j - i * 64) from by omega, flatS_get l hl i (j - i * 64) old hi' (by omega), ← hv]
        simp only [mixS, scells, List.map_append, List.map_drop]
        rw [List.getElem?_append_right (by simp; omega), List.getElem?_drop]
        congr 1
        simp; omega)
      rwa [Nat.zero_add] at this
  · rename_i hj
    rw [World.cell?_setCells_out g (scells (s.take c)) (i * 64) w ⟨g, j, none⟩ (fun _ _ => by rw [scells_length, List.length_take, hs]; show j < i * 64 ∨ i * 64 + min c 64 ≤ j; omega)]
    simpa using h j v hv
/-- The first bytes of a sector are written. -/
theorem DkX.setKeptPart (h : DkX w base n D N K wv m) (i : Nat) (s : Sec) (hs : s.length = 64) (hi : i < n) (c : Nat) (hc : c ≤ 64) : DkX (w.setCells K (i * 64) (scells (s.take c))) base n D N K wv { m with kept := m.kept.set i (mixS c s (m.kept.getD i [])) } := by
  have hF := FrB.setCells (fun j => j = K) w K (i * 64) (scells (s.take c)) rfl
  have kD := fun o => hF.cell (o := o) h.lt.1 h.ne.2.1
  have hi' : m.kept[i]? = some (m.kept.getD i []) := by rw [List.getD_eq_getElem?_getD, List.getElem?_eq_getElem (by have := h.ok.kept; omega)]; rfl
  refine ⟨⟨h.ok.now, by simpa using h.ok.kept, h.ok.nows, fun x hx => ?_, h.ok.ats, h.ok.pos, h.ok.most, h.ok.calls, h.ok.i64⟩, (kD 0).trans h.c0, (kD 1).trans h.c1, (kD 2).trans h.c2, (kD 3).trans h.c3, (kD 4).trans h.c4, (kD 5).trans h.c5, fun i hi => (hF.frozen h.lt.1 h.ne.2.1).trans (h.free i hi),
    fun j v hv => (hF.cell h.lt.2.1 h.ne.2.2).trans (h.rn j v hv), fun j hj => ?_, range_setPart h.ok.kepts h.rk h.tk h.ok.kept s hs hi c hc, World.there_setCells h.tk _ _ _, owns_setCells h.row h.off.2.2 _ _, h.ge, by rw [size_setCells]; exact h.lt, h.ne, h.off, by rw [size_setCells]; exact h.le⟩
  · rcases List.mem_or_eq_of_mem_set hx with q | q
    · exact h.ok.kepts x q
    · rw [q]; exact mixS_length hs (h.ok.kepts _ (List.mem_of_getElem? hi')) hc
  · rw [hF.cell h.lt.2.1 h.ne.2.2, hF.frozen h.lt.2.1 h.ne.2.2]; exact h.tn j hj
/-- All sectors are written. -/
theorem DkX.setNowAll (h : DkX w base n D N K wv m) : DkX (w.setCells N 0 (flatS m.kept)) base n D N K wv { m with now := m.kept } := by
  have hF := FrB.setCells (fun j => j = N) w N 0 (flatS m.kept) rfl
  have kD := fun o => hF.cell (o := o) h.lt.1 h.ne.1
  have hlen := flatS_length m.kept h.ok.kepts
  rw [h.ok.kept] at hlen
  refine ⟨⟨h.ok.kept, h.ok.kept, h.ok.kepts, h.ok.kepts, h.ok.ats, h.ok.pos, h.ok.most, h.ok.calls, h.ok.i64⟩, (kD 0).trans h.c0, (kD 1).trans h.c1, (kD 2).trans h.c2, (kD 3).trans h.c3, (kD 4).trans h.c4, (kD 5).trans h.c5, fun i hi => (hF.frozen h.lt.1 h.ne.1).trans (h.free i hi),
    World.rangeAt_setCells_same _ _ _ _ (by rw [hlen]; exact h.tn), World.there_setCells h.tn _ _ _, fun j v hv => (hF.cell h.lt.2.2 (Ne.symm h.ne.2.2)).trans (h.rk j v hv), fun j hj => ?_, owns_setCells h.row h.off.2.1 _ _, h.ge, by rw [size_setCells]; exact h.lt, h.ne, h.off, by rw [size_setCells]; exact h.le⟩
  rw [hF.cell h.lt.2.2 (Ne.symm h.ne.2.2), hF.frozen h.lt.2.2 (Ne.symm h.ne.2.2)]; exact h.tk j hj
end
theorem wpList_copyV {ops : Array Oper} {rest : List Oper} {o : Oper} {a : Act} {w : World} {Q : Exit → Act → World → Prop} (hg : o.guard = none) (d s : Operand) (t t' : TypeId)
    (ho : o.op = .call { callee := .builtin .copy, args := #[d, s], argTypes := #[t, t'] }) (v u : Value) (hd : a.eval d = v) (hs : a.eval s = u) {v' : Value} {w' : World}
    (hr : (Builtin.copy_ #[t, t'] o.type #[v, u]).run Tryz.prog w = .ok v' w') (h : wpList Tryz.prog ops Q rest (a.put o.dst v') w') : wpList Tryz.prog ops Q (o :: rest) a w := by
  refine wpList_plain hg fun K hK => ?_
  unfold Oper.wp execOp
  simp only [ho, resolve, invoke, builtin, Sem.run_bind, Sem.run_pure, Result.andThen_ok, List.map_toArray, List.map_cons, List.map_nil, hd, hs, hr]
  exact hK _ _ h
/-- A copy of elements of several cells. -/
theorem run_copy_wide (w : World) (dT sT ty elem : TypeId) (b o dLen dCap : Nat) (a : Addr) (sLen sCap sz : Nat) (cs : List Value)
    (hu : Tryz.prog.underlying dT = some (.slice elem)) (hs : (Tryz.prog.info? elem).map (·.size) = some sz) (hn : cs.length = Nat.min sLen dLen * sz)
    (hsrc : ∀ j v, cs[j]? = some v → w.cell? (a.add j) = some v) (ht : w.there b o cs.length) (h1 : ∀ v ∈ cs, v.oneCell' = true) :
    (Builtin.copy_ #[dT, sT] ty #[.slice (some ⟨b, o, none⟩) dLen dCap, .slice (some a) sLen sCap]).run Tryz.prog w = .ok (goInt (Nat.min sLen dLen)) (w.setCells b o cs) := by
  have hl := run_loadCells_list (P := Tryz.prog) w a cs hsrc
  have hst := run_storeCells_cells (P := Tryz.prog) b o cs 0 w (fun j hj => (by simpa using (ht j hj).1)) (fun j hj => (by simpa using (ht j hj).2)) h1
  cases hq : Tryz.prog.info? elem with
  | none => simp [hq] at hs
  | some i =>
    have hi : i.size = sz := by simpa [hq] using hs
    simp [Builtin.copy_, run_underlying hu, Builtin.lenOf, Builtin.firstCells, sizeOf, typeInfo, hq, hi, ← hn, hl, hst]
theorem info157s : (Tryz.prog.info? 157).map (·.size) = some 64 := by kernel_rfl
theorem flatS_oneCell (l : List Sec) : ∀ u ∈ flatS l, u.oneCell' = true := by
  intro u hu
  obtain ⟨s, _, h⟩ := List.mem_flatMap.1 hu
  exact scells_oneCell s u h
set_option maxHeartbeats 800000 in
set_option maxRecDepth 100000 in
theorem Crash_any {w : World} {base n D N K : Nat} {wv : Value} {m : Dk} (h : DkX w base n D N K wv m) (v : Value) (keep : List Int) (hv : SlI w v keep) (hvS : ∀ g, v.ownBlock = some g → ¬ dkS D N K wv g) (hn : m.writes.length ≤ 1000000) :
    Calls Tryz.prog 39 #[.pointer (some ⟨D, 0, none⟩), v] w fun e w' => e = .returned (.tuple #[]) ∧ DkStep w w' base n D N K wv (.slice none 0 0) (crashP m keep) := by
  obtain ⟨ao, cap, rfl, hws⟩ := h.writes_at
  obtain ⟨av, cv, rfl, _⟩ := hv.open
  have c2 := h.c2
  have HX1 := Lib.hid h
  have HWS := Lib.hid hws
  have HV := Lib.hid (And.intro hv hvS)
  clear h hws hv hvS
  go_enter Tryz.func39, Tryz.ntmps39
  go_wp2
  go_loopw [4, 5, 13] (fun _ _ i wr => ∃ k : Nat, k ≤ m.writes.length ∧ i = .int .i64 k ∧ DkX wr base n D N K (.slice ao m.writes.length cap) { m with kept := crashK m.kept ((m.writes.zip keep).take k) } ∧ FrB (fun j => j = K) w wr) (fun _ _ i _ => m.writes.length - (intOf i).toNat)
  case atStart => exact ⟨0, by omega, rfl, HX1.out, FrB.refl _ _⟩
  case round =>
    obtain ⟨k, hk, rfl, hX, hF⟩ := hrel
    have HX := Lib.hid hX
    have HF := Lib.hid hF
    by_cases hlt : k < m.writes.length
    · obtain ⟨p, hp⟩ : ∃ p, m.writes[k]? = some p := ⟨_, List.getElem?_eq_getElem hlt⟩
      obtain ⟨q, rfl, hrq, hq, hqn⟩ := HWS.out k p hp
      have hrr : wr.rangeAt q (k * 65) (pcells p) := fun j u hu => (HF.out.cell hq (fun e => hqn (.inr (.inr e)))).trans (hrq j u hu)
      have hp2 := HX1.out.ok.ats p (List.mem_of_getElem? hp)
      have hpl := pcells_length hp2.2
      have hlt' : (k : Int) < m.writes.length := by omega
      obtain ⟨w2, l1, l2, l3, l4⟩ := laid_new wr (pcells p) (#[.int .i64 0] ++ Array.replicate 64 (.int .u8 0)) 159 (by rw [hpl]; simp) (pcells_oneCell p)
      clear hX hF hrq
      by_cases hkl : k < keep.length
      · obtain ⟨x, hx⟩ : ∃ x, keep[k]? = some x := ⟨_, List.getElem?_eq_getElem hkl⟩
        have hkl' : (k : Int) < keep.length := by omega
        go_wp2_with (first | (refine wpList_load_mid rfl 159 (.tmp 16) rfl q (k * 65) rfl (pcells p) _ hrr Tryz.underlying159 rfl (size159 _ hpl) ?_) | (refine wpList_allocV rfl 159 rfl _ (run_alloc159 _) ?_))
        have HX2 := Lib.hid (HX.out.ext l2)
        have L2 := Lib.hid l2
        have r0 : w2.cell? ⟨wr.heap.size, 0, none⟩ = some (.int .i64 p.1) := l3 0 _ rfl
        have r1 : w2.rangeAt wr.heap.size 1 (scells p.2) := fun j u hu => by have := l3 (j + 1) u (by simpa [pcells] using hu); rwa [Nat.zero_add, Nat.add_comm] at this
        have d1 := HX2.out.c1
        have hvK : ∀ g, (Value.slice av keep.length cv).ownBlock = some g → ¬ g = K := fun g hg e => HV.out.2 g hg (.inr (.inr (.inl e)))
        obtain ⟨kb, ko, rfl, k5⟩ := SlI.at ((HV.out.1.frB HF.out hvK).ext l2) hx
        have HC := Lib.hid (clampN_le x)
        have hatz : (p.1 : Int) < n := by omega
        clear l1 l2 l3 hvK
        refine wp_drawn 16 (by kernel_rfl) (by kernel_rfl) (fun _ => none) (fun j φ hφ => by cases hφ) ?_
        intro ν
        simp only [List.take_succ_cons, List.take_zero]
        iterate 15 (refine Seq.pure ?_ rfl (fun w' hw hf => ?_) ?_; rotate_left; (· (have e1 := hw.keep (w := World.drew _) d1; have e0 := hw.keep (w := World.drew _) r0; have e5 := hw.keep (w := World.drew _) k5; unfold pureG; go_simp; with_reducible rfl)); simp only [Act.put, List.setIfInBounds_toArray, List.set_cons_zero, List.set_cons_succ, Nat.reduceAdd, Nat.zero_add])
        have hcx : min (max x 0) 64 = ((clampN x : Nat) : Int) := by unfold clampN; omega
        rw [hcx]
        clear hcx
        obtain ⟨c, hcc⟩ : ∃ c, clampN x = c := ⟨_, rfl⟩
        rw [hcc] at HC ⊢
        have hc64 := HC.out
        have hc64' : (c : Int) ≤ 64 := by omega
        iterate 1 (refine Seq.pure ?_ rfl (fun w' hw hf => ?_) ?_; rotate_left; (· (skip; unfold pureG; go_simp; with_reducible rfl)); simp only [Act.put, List.setIfInBounds_toArray, List.set_cons_zero, List.set_cons_succ, Nat.reduceAdd, Nat.zero_add])
        refine Seq.nil fun w3 hw3 hf3 => tail_one (i := 16) (by kernel_rfl) rfl (by kernel_rfl) rfl ?_
        have HX3 := Lib.hid (HX2.out.ext ((Ext.drew w2).trans hw3))
        have hcl : (scells (p.2.take c)).length = c := by rw [scells_length, List.length_take, hp2.2]; omega
        have htk : ∀ j, j < c → (w3.cell? ⟨K, p.1 * 64 + j, none⟩).isSome = true ∧ w3.frozen? ⟨K, p.1 * 64 + j, none⟩ = false := fun j hj => by have := HX3.out.tk (p.1 * 64 + j) (by omega); rwa [Nat.zero_add] at this
        refine wpList_copyV rfl (.tmp 29) (.tmp 37) 69 69 rfl _ _ rfl rfl (run_copy_cells (P := Tryz.prog) w3 69 69 _ 5 K (p.1 * 64) 64 64 ⟨wr.heap.size, 1, none⟩ c 64 (scells (p.2.take c)) Tryz.underlying69 info5 (by rw [hcl]; exact (Nat.min_eq_left hc64).symm) (fun j u hu => ?_) (fun j hj => (htk j (by omega)).1) (fun j hj => (htk j (by omega)).2) (scells_oneCell _)) ?_
        · rw [Addr.add_mid]
          refine hw3.keep (w := World.drew _) (r1 j u ?_)
          unfold scells at hu ⊢
          rw [List.map_take, List.getElem?_take] at hu
          split at hu
          · exact hu
          · cases hu
        have HX4 := Lib.hid (HX3.out.setKeptPart p.1 p.2 hp2.2 hp2.1 c hc64)
        have HF4 := Lib.hid (((HF.out.trans (FrB.ext L2.out) (S' := fun _ => False) (fun _ _ e => e.elim)).trans (FrB.ext ((Ext.drew w2).trans hw3)) (S' := fun _ => False) (fun _ _ e => e.elim)).trans (FrB.setCells (fun j => j = K) w3 K (p.1 * 64) (scells (p.2.take c)) rfl) (fun _ _ e => e))
        simp only [Act.put]
        generalize w3.setCells K (p.1 * 64) (scells (p.2.take c)) = w4 at HX4 HF4
        go_wp2
        go_roundw
        case rel =>
          have := HX4.out
          rw [← hcc] at this
          refine ⟨k + 1, by omega, by go_num, ?_, HF4.out⟩
          rw [crashK_snoc _ _ _ (p, x) (by rw [List.getElem?_zip_eq_some]; exact ⟨hp, hx⟩)]
          exact this
        case measure => simp [intOf]; omega
      · have hkl' : ¬ ((k : Int) < keep.length) := by omega
        go_wp2_with (first | (refine wpList_load_mid rfl 159 (.tmp 16) rfl q (k * 65) rfl (pcells p) _ hrr Tryz.underlying159 rfl (size159 _ hpl) ?_) | (refine wpList_allocV rfl 159 rfl _ (run_alloc159 _) ?_))
        go_roundw
        case rel =>
          refine ⟨k + 1, by omega, by go_num, ?_, HF.out.trans (FrB.ext l2) (S' := fun _ => False) (fun _ _ e => e.elim)⟩
          rw [take_end _ _ (by rw [List.length_zip]; omega)]
          exact HX.out.ext l2
        case measure => simp [intOf]; omega
    · obtain rfl : k = m.writes.length := by omega
      have hXe := hX
      rw [List.take_of_length_le (by rw [List.length_zip]; omega)] at hXe
      have c0 := hXe.c0
      have c1 := hXe.c1
      have HXe := Lib.hid hXe
      clear hX hF hXe
      go_wp2_with fail
      refine wp_drawn 8 (by kernel_rfl) (by kernel_rfl) (fun _ => none) (fun j φ hφ => by cases hφ) ?_
      intro ν
      simp only [List.take_succ_cons, List.take_zero]
      iterate 8 (refine Seq.pure ?_ rfl (fun w' hw hf => ?_) ?_; rotate_left; (· (have e0 := hw.keep (w := World.drew _) c0; have e1 := hw.keep (w := World.drew _) c1; unfold pureG; go_simp; with_reducible rfl)); simp only [Act.put, List.setIfInBounds_toArray, List.set_cons_zero, List.set_cons_succ, Nat.reduceAdd, Nat.zero_add])
      refine Seq.nil fun w3 hw3 hf3 => tail_one (i := 8) (by kernel_rfl) rfl (by kernel_rfl) rfl ?_
      have HX3 := Lib.hid (HXe.out.ext ((Ext.drew wr).trans hw3))
      obtain ⟨M, hM⟩ : ∃ M, crashK m.kept (m.writes.zip keep) = M := ⟨_, rfl⟩
      rw [hM] at HX3
      have hlen : (flatS M).length = n * 64 := by rw [flatS_length M HX3.out.ok.kepts]; exact congrArg (· * 64) HX3.out.ok.kept
      refine wpList_copyV rfl (.tmp 43) (.tmp 47) 152 152 rfl _ _ rfl rfl (run_copy_wide w3 152 152 _ 157 N 0 n n ⟨K, 0, none⟩ n n 64 (flatS M) Tryz.underlying152 info157s (by rw [hlen]; exact congrArg (· * 64) (Nat.min_self n).symm) (fun j u hu => by rw [Addr.add_mid]; exact HX3.out.rk j u hu) (by rw [hlen]; exact HX3.out.tn) (flatS_oneCell _)) ?_
      have HX4 := Lib.hid HX3.out.setNowAll
      have HF4 := Lib.hid ((HF.out.trans (FrB.ext ((Ext.drew wr).trans hw3)) (S' := fun _ => False) (fun _ _ e => e.elim) |>.mono (S' := dkS D N K (.slice ao m.writes.length cap)) (fun _ _ e => .inr (.inr (.inl e)))).trans (FrB.setCells (dkS D N K (.slice ao m.writes.length cap)) w3 N 0 (flatS M) (.inr (.inl rfl))) (fun _ _ e => e))
      simp only [Act.put] at HX4 ⊢
      generalize w3.setCells N 0 (flatS M) = w4 at HX4 HF4 ⊢
      have c2 := HX4.out.c2
      have c3 := HX4.out.c3
      have c5 := HX4.out.c5
      have f2 := HX4.out.free 2 (by omega)
      have f3 := HX4.out.free 3 (by omega)
      have f5 := HX4.out.free 5 (by omega)
      go_wp2
      refine bodyPost_end (results_none rfl _ _ _) rfl ⟨rfl, ?_, ?_, fun j hj => by cases hj⟩
      · have := ((HX4.out.setWrites (.slice none 0 0) [] (World.ownsRow_nil _ _ _ _) (by simp [Value.ownBlock]) (fun p hp => by cases hp)).setStops false (fun e => by cases e)).setDown false
        unfold crashP
        rw [hM]
        exact this
      · exact ((HF4.out.trans (FrB.setCell (dkS D N K _) _ _ _ (.inl rfl)) (fun _ _ e => e)).trans (FrB.setCell (dkS D N K _) _ _ _ (.inl rfl)) (fun _ _ e => e)).trans (FrB.setCell (dkS D N K _) _ _ _ (.inl rfl)) (fun _ _ e => e)
end Go.Proofs.YtgjahnomafpnfaaGreatDoor

/- The reference's Digits and Row. -/
namespace Go.Proofs.YtgjahnomafpnfaaGreatDoor
open Go.RowKit
theorem itoaB_nat (n : Nat) : itoaB (n : Int) = ⟨(Lib.decDigits n).toArray⟩ := by unfold itoaB; rw [Lib.itoa_nonneg]
theorem itoaB_small (n : Nat) (h : n < 10) : itoaB (n : Int) = ⟨#[UInt8.ofNat (48 + n)]⟩ := by rw [itoaB_nat, Lib.decDigits, dif_pos h]
theorem itoaB_big (n : Nat) (h : ¬ n < 10) : itoaB (n : Int) = itoaB ((n / 10 : Nat) : Int) ++ itoaB ((n % 10 : Nat) : Int) := by
  rw [itoaB_nat, Lib.decDigits, dif_neg h, itoaB_small (n % 10) (by omega), itoaB_nat]
  apply ByteArray.ext
  rw [ByteArray.data_append]
  simp
theorem conv_one (n : Nat) (h : n < 10) (w : World) : (convert 69 9 (.slice (some ⟨w.heap.size, 0, none⟩) 1 1)).run Tryz.prog (w.alloc (.cells #[.int .u8 (48 + n)] 5)) = .ok (.string ⟨#[UInt8.ofNat (48 + n)]⟩) (w.alloc (.cells #[.int .u8 (48 + n)] 5)) := by
  rw [run_convert_bytes_arg (P := Tryz.prog) (w.alloc (.cells #[.int .u8 (48 + n)] 5)) 69 5 Tryz.underlying69 Tryz.underlying5 w.heap.size 0 1 1 [(48 + n : Int)] rfl (fun i hi => by
    obtain rfl : i = 0 := by omega
    rw [World.cell?_alloc_new]; rfl) 9 Tryz.underlying9]
  rfl
set_option maxHeartbeats 800000 in
set_option maxRecDepth 100000 in
theorem Digits_any : ∀ (n : Nat) (w : World), n ≤ 9000000000000000000 → Calls Tryz.prog 114 #[.int .i64 n] w fun e w' => e = .returned (.string (itoaB n)) ∧ Ext w w' := by
  intro n
  induction n using Nat.strongRecOn with
  | _ n ih =>
    intro w hn
    by_cases h : n < 10
    · rw [itoaB_small n h]
      have h' : (n : Int) < 10 := by omega
      have hcv := conv_one n h w
      generalize UInt8.ofNat (48 + n) = c at hcv ⊢
      have HE := Lib.hid (Ext.alloc w (.cells #[.int .u8 (48 + n)] 5))
      clear ih
      go_enter Tryz.func114, Tryz.ntmps114
      go_wp2
      go_ret
      exact ⟨rfl, HE.out⟩
    · rw [itoaB_big n h]
      have h' : ¬ ((n : Int) < 10) := by omega
      have h1 := fun w => ih (n / 10) (by omega) w (by omega)
      have h2 := fun w => ih (n % 10) (by omega) w (by omega)
      have z1 := itoaB_size ((n / 10 : Nat) : Int) (by omega) (by omega)
      have z2 := itoaB_size ((n % 10 : Nat) : Int) (by omega) (by omega)
      generalize itoaB ((n / 10 : Nat) : Int) = D1 at *
      generalize itoaB ((n % 10 : Nat) : Int) = D2 at *
      rw [show ((n / 10 : Nat) : Int) = (n : Int) / 10 from by omega] at h1
      rw [show ((n % 10 : Nat) : Int) = (n : Int) % 10 from by omega] at h2
      have H1 := Lib.hid h1
      have H2 := Lib.hid h2
      clear ih h1 h2
      go_enter Tryz.func114, Tryz.ntmps114
      go_wp2_with fail
      refine (H1.out _).mono ?_
      rintro e w1 ⟨rfl, hE1⟩
      have HE1 := Lib.hid hE1
      clear hE1
      go_wp2_with fail
      refine (H2.out _).mono ?_
      rintro e w2 ⟨rfl, hE2⟩
      have HE2 := Lib.hid (HE1.out.trans hE2)
      clear hE2
      have z3 : D1.size + D2.size ≤ 4294967281 := by omega
      go_wp2
      go_ret
      exact ⟨rfl, HE2.out⟩
def rowB (word : ByteArray) (gs : List Int) : ByteArray := gs.foldl (fun s n => s ++ sp ++ itoaB n) word
theorem rowB_snoc (word : ByteArray) (gs : List Int) (k : Nat) (g : Int) (hg : gs[k]? = some g) : rowB word (gs.take (k + 1)) = rowB word (gs.take k) ++ sp ++ itoaB g := by
  rw [List.take_add_one, hg]; simp [rowB]
theorem rowB_size (gs : List Int) (hg : ∀ g ∈ gs, 0 ≤ g ∧ g ≤ 9000000000000000000) : ∀ (word : ByteArray), (rowB word gs).size ≤ word.size + gs.length * 22 := by
  induction gs with
  | nil => intro word; simp [rowB]
  | cons g gs ih =>
    intro word
    have h1 := ih (fun x hx => hg x (List.mem_cons_of_mem _ hx)) (word ++ sp ++ itoaB g)
    have h2 := hg g (List.mem_cons_self ..)
    have h3 := itoaB_size g (by omega) (by omega)
    have h4 : (word ++ sp ++ itoaB g).size = word.size + 1 + (itoaB g).size := by rw [ByteArray.size_append, ByteArray.size_append]; rfl
    have h5 : rowB word (g :: gs) = rowB (word ++ sp ++ itoaB g) gs := rfl
    rw [h5, List.length_cons]
    omega
set_option maxHeartbeats 800000 in
set_option maxRecDepth 100000 in
theorem Row_any (word : ByteArray) (v : Value) (gs : List Int) (w : World) (hv : SlI w v gs) (hg : ∀ g ∈ gs, 0 ≤ g ∧ g ≤ 9000000000000000000) (hl : gs.length ≤ 1000000) (hwd : word.size ≤ 1000000) : Calls Tryz.prog 113 #[.string word, v] w fun e w' => e = .returned (.string (rowB word gs)) ∧ Ext w w' := by
  obtain ⟨ao, cap, rfl, _⟩ := hv.open
  have HV := Lib.hid hv
  clear hv
  go_enter Tryz.func113, Tryz.ntmps113
  go_wp2
  go_loopw [0, 5] (fun vo vi wr => ∃ k : Nat, k ≤ gs.length ∧ vi = .int .i64 k ∧ vo = .string (rowB word (gs.take k)) ∧ Ext w wr) (fun _ vi _ => gs.length - (intOf vi).toNat)
  case atStart => exact ⟨0, by omega, rfl, rfl, Ext.refl _⟩
  case round =>
    obtain ⟨k, hk, rfl, rfl, hE⟩ := hrel
    have HE := Lib.hid hE
    by_cases hlt : k < gs.length
    · have hlt' : (k : Int) < gs.length := by omega
      obtain ⟨g, hgk⟩ : ∃ g, gs[k]? = some g := ⟨_, List.getElem?_eq_getElem hlt⟩
      obtain ⟨kb, ko, rfl, hc⟩ := SlI.at (HV.out.ext hE) hgk
      have hg2 := hg g (List.mem_of_getElem? hgk)
      obtain ⟨m, rfl⟩ : ∃ m : Nat, g = (m : Int) := ⟨g.toNat, by omega⟩
      have hs := rowB_snoc word gs k _ hgk
      have HD := Lib.hid (fun w => Digits_any m w (by omega))
      have z1 := rowB_size (gs.take k) (fun x hx => hg x (List.mem_of_mem_take hx)) word
      have z2 := itoaB_size (m : Int) (by omega) (by omega)
      have z3 : (gs.take k).length ≤ 1000000 := by rw [List.length_take]; omega
      generalize rowB word (gs.take k) = A at *
      generalize itoaB (m : Int) = D at *
      have z4 : A.size + 1 ≤ 4294967281 := by omega
      have z5 : A.size + 1 + D.size ≤ 4294967281 := by omega
      clear hE z3
      go_wp2_with fail
      refine (HD.out _).mono ?_
      rintro e w1 ⟨rfl, hE1⟩
      have HE1 := Lib.hid (HE.out.trans hE1)
      clear hE1
      go_wp2
      go_roundw
      case rel => exact ⟨k + 1, by omega, by go_num, by rw [hs]; rfl, HE1.out⟩
      case measure => simp [intOf]; omega
    · obtain rfl : k = gs.length := by omega
      rw [show gs.take gs.length = gs from List.take_length]
      clear hE
      go_wp2
      go_ret
      exact ⟨rfl, HE.out⟩
end Go.Proofs.YtgjahnomafpnfaaGreatDoor

/- RefOf and IdOf, of the program and of the reference. -/
namespace Go.Proofs.YtgjahnomafpnfaaGreatDoor
open Go.RowKit
/-- What RefOf answers. -/
def refS (id : Int) : Int := if inB id 5 2004 then id % 5 else 0
def refN (id : Int) : Int := if inB id 5 2004 then id / 5 else 0
def refE (id : Int) : Int := if inB id 5 2004 then 0 else 1
def refV (id : Int) : Value := .tuple #[.agg #[.int .i64 (refS id), .int .i64 (refN id)], .int .i64 (refE id)]
theorem refV_no {id : Int} (h : inB id 5 2004 = false) : refV id = .tuple #[.agg #[.int .i64 0, .int .i64 0], .int .i64 1] := by unfold refV refS refN refE; rw [h]; rfl
theorem refV_yes {id : Int} (h : inB id 5 2004 = true) : refV id = .tuple #[.agg #[.int .i64 (id % 5), .int .i64 (id / 5)], .int .i64 0] := by unfold refV refS refN refE; rw [h]; rfl
set_option maxHeartbeats 800000 in
set_option maxRecDepth 100000 in
theorem RefOf_any (id : Int) (w : World) : Calls Tryz.prog 59 #[.int .i64 id] w fun e w' => e = .returned (refV id) ∧ Ext w w' := by
  have hb : (Instr.build 94 #[]).run Tryz.prog = fun w => .ok (.agg #[.int .i64 0, .int .i64 0]) w := by funext w; exact run_build w 94 #[] _ (by kernel_rfl)
  cases h : inB id 5 2004
  · rw [refV_no h]
    have H := Lib.hid h
    clear h
    go_enter Tryz.func59, Tryz.ntmps59
    go_wp2_with (first | (go_at_call 91; refine (in_any _ _ _ _).mono ?_; rw [H.out]; rintro e w' ⟨rfl, rfl⟩))
    refine bodyPost_ret (v := .tuple #[.agg #[.int .i64 0, .int .i64 0], .int .i64 1]) ?_ rfl ⟨rfl, Ext.alloc _ _⟩
    simp [results, Tryz.results59, go_sem]
  · rw [refV_yes h]
    have H := Lib.hid h
    have hr := (inB_iff _ _ _).1 h
    clear h
    go_enter Tryz.func59, Tryz.ntmps59
    go_wp2_with (first | (go_at_call 91; refine (in_any _ _ _ _).mono ?_; rw [H.out]; rintro e w' ⟨rfl, rfl⟩))
    refine bodyPost_ret (v := .tuple #[.agg #[.int .i64 (id % 5), .int .i64 (id / 5)], .int .i64 0]) ?_ rfl ⟨rfl, Ext.alloc _ _⟩
    simp [results, Tryz.results59, go_sem]
set_option maxHeartbeats 800000 in
set_option maxRecDepth 100000 in
theorem RefOfR_any (id : Int) (w : World) : Calls Tryz.prog 60 #[.int .i64 id] w fun e w' => e = .returned (refV id) ∧ Ext w w' := by
  have hb : (Instr.build 94 #[]).run Tryz.prog = fun w => .ok (.agg #[.int .i64 0, .int .i64 0]) w := by funext w; exact run_build w 94 #[] _ (by kernel_rfl)
  by_cases h1 : id < 5
  · rw [refV_no (by unfold inB; simp; omega)]
    go_enter Tryz.func60, Tryz.ntmps60
    go_wp2
    refine bodyPost_ret (v := .tuple #[.agg #[.int .i64 0, .int .i64 0], .int .i64 1]) ?_ rfl ⟨rfl, Ext.alloc _ _⟩
    simp [results, Tryz.results60, go_sem]
  by_cases h2 : 2004 < id
  · rw [refV_no (by unfold inB; simp; omega)]
    go_enter Tryz.func60, Tryz.ntmps60
    go_wp2
    refine bodyPost_ret (v := .tuple #[.agg #[.int .i64 0, .int .i64 0], .int .i64 1]) ?_ rfl ⟨rfl, Ext.alloc _ _⟩
    simp [results, Tryz.results60, go_sem]
  rw [refV_yes (by unfold inB; simp; omega)]
  go_enter Tryz.func60, Tryz.ntmps60
  go_wp2
  refine bodyPost_ret (v := .tuple #[.agg #[.int .i64 (id % 5), .int .i64 (id / 5)], .int .i64 0]) ?_ rfl ⟨rfl, Ext.alloc _ _⟩
  simp [results, Tryz.results60, go_sem]
theorem idB_no {s n : Int} (h : s < 0 ∨ 4 < s ∨ n < 1 ∨ 400 < n) : idB s n = 0 := by
  unfold idB inB
  rw [if_neg]
  simp; omega
theorem idB_yes {s n : Int} (h : 0 ≤ s ∧ s ≤ 4 ∧ 1 ≤ n ∧ n ≤ 400) : idB s n = 5 * n + s := by
  unfold idB inB
  rw [if_pos]
  simp; omega
set_option maxHeartbeats 800000 in
set_option maxRecDepth 100000 in
theorem IdOfR_any (s n : Int) (w : World) : Calls Tryz.prog 62 #[.agg #[.int .i64 s, .int .i64 n]] w fun e w' => e = .returned (.int .i64 (idB s n)) ∧ Ext w w' := by
  have HE := Lib.hid (Ext.alloc w (.cells #[.int .i64 s, .int .i64 n] 94))
  by_cases h1 : s < 0
  · rw [idB_no (.inl h1)]
    go_enter Tryz.func62, Tryz.ntmps62
    go_wp2
    go_ret
    exact ⟨rfl, HE.out⟩
  by_cases h2 : 4 < s
  · rw [idB_no (.inr (.inl h2))]
    go_enter Tryz.func62, Tryz.ntmps62
    go_wp2
    go_ret
    exact ⟨rfl, HE.out⟩
  by_cases h3 : n < 1
  · rw [idB_no (.inr (.inr (.inl h3)))]
    go_enter Tryz.func62, Tryz.ntmps62
    go_wp2
    go_ret
    exact ⟨rfl, HE.out⟩
  by_cases h4 : 400 < n
  · rw [idB_no (.inr (.inr (.inr h4)))]
    go_enter Tryz.func62, Tryz.ntmps62
    go_wp2
    go_ret
    exact ⟨rfl, HE.out⟩
  rw [idB_yes (by omega)]
  go_enter Tryz.func62, Tryz.ntmps62
  go_wp2
  go_ret
  exact ⟨rfl, HE.out⟩
end Go.Proofs.YtgjahnomafpnfaaGreatDoor

/- WriteRecord, of the program and of the reference. -/
namespace Go.Proofs.YtgjahnomafpnfaaGreatDoor
open Go.RowKit
/-- What WriteRecord answers. -/
def writeB (n : Int) (x : Rec) : ByteArray := if checkE n x = 0 then lineB x else ⟨#[]⟩
theorem checkE_bounds {n : Int} {x : Rec} (h : checkE n x = 0) : (2 ≤ n ∧ n ≤ 5) ∧ formedB n x = true := by
  unfold checkE at h
  split at h
  · rename_i hh
    rw [Bool.and_eq_true, inB_iff] at hh
    exact hh
  · cases h
theorem formedB_bounds {n : Int} {x : Rec} (h : formedB n x = true) : (0 ≤ x.st ∧ x.st < n) ∧ (1 ≤ x.num ∧ x.num ≤ 400) ∧ (0 ≤ x.hr ∧ x.hr ≤ 1000000) ∧ (0 < x.txt.size ∧ x.txt.size ≤ 200) := by
  rw [formedB_head, Bool.and_eq_true] at h
  exact (headB_iff n x).1 h.1
theorem checkE_two (n : Int) (x : Rec) : checkE n x = 0 ∨ checkE n x = 1 := by
  unfold checkE
  split
  · exact .inl rfl
  · exact .inr rfl
set_option maxHeartbeats 800000 in
set_option maxRecDepth 100000 in
theorem WriteRecord_any {B : Nat} {w : World} (hL : Laid B w) (n : Int) (x : Rec) (hn : -9223372036854775808 ≤ n ∧ n ≤ 9223372036854775807) : Calls Tryz.prog 55 #[.int .i64 n, rv x] w fun e w' => e = .returned (.tuple #[.string (writeB n x), .int .i64 (checkE n x)]) ∧ Ext w w' := by
  have HC := Lib.hid (fun w => CheckRecord_any n x w)
  have hE := Ext.alloc w (.cells #[.int .i64 x.st, .int .i64 x.num, .int .i64 x.hr, .string x.txt] 49)
  have HE := Lib.hid hE
  have HL := Lib.hid hL
  clear hL hE
  rcases checkE_two n x with h | h
  · have hb := checkE_bounds h
    have hb2 := formedB_bounds hb.2
    have HLn := Lib.hid (fun (w : World) (h : Laid B w) => line_any h x (by omega) (by omega) (by omega) (by omega))
    unfold writeB
    rw [h, if_pos rfl]
    rw [h] at HC
    clear hb hb2 h
    go_enter Tryz.func55, Tryz.ntmps55
    go_wp2_with fail
    refine (HC.out _).mono ?_
    rintro e w1 ⟨rfl, hE1⟩
    have HE1 := Lib.hid (HE.out.trans hE1)
    obtain ⟨c0, c1, c2, c3⟩ := rec_new (y := x) hE1
    have HLl := Lib.hid (HLn.out w1 (HL.out.ext HE1.out))
    clear hE1
    go_wp2_with fail
    refine HLl.out.mono ?_
    rintro e w2 ⟨rfl, hE2⟩
    go_wp2
    go_ret2
    exact ⟨rfl, HE1.out.trans hE2⟩
  · unfold writeB
    rw [h, if_neg (by decide)]
    rw [h] at HC
    clear h
    go_enter Tryz.func55, Tryz.ntmps55
    go_wp2_with fail
    refine (HC.out _).mono ?_
    rintro e w1 ⟨rfl, hE1⟩
    go_wp2
    go_ret2
    exact ⟨rfl, HE.out.trans hE1⟩
theorem rowB_line (x : Rec) : rowB (itoaB x.st) [x.num, x.hr] ++ sp ++ x.txt = lineB x := rfl
set_option maxHeartbeats 800000 in
set_option maxRecDepth 100000 in
theorem WriteRecordR_any (n : Int) (x : Rec) (w : World) (ht : x.txt.size ≤ 1000000) : Calls Tryz.prog 56 #[.int .i64 n, rv x] w fun e w' => e = .returned (.tuple #[.string (writeB n x), .int .i64 (checkE n x)]) ∧ Ext w w' := by
  have HC := Lib.hid (fun w => CheckRecordR_any n x w ht)
  have hE := Ext.alloc w (.cells #[.int .i64 x.st, .int .i64 x.num, .int .i64 x.hr, .string x.txt] 49)
  have HE := Lib.hid hE
  clear hE
  rcases checkE_two n x with h | h
  · have hb := checkE_bounds h
    have hb2 := formedB_bounds hb.2
    unfold writeB
    rw [h, if_pos rfl]
    rw [h] at HC
    have hb1 := hb.1
    clear hb h
    obtain ⟨st, num, hr, txt⟩ := x
    simp only at hb2 ht
    obtain ⟨k, rfl⟩ : ∃ k : Nat, st = (k : Int) := ⟨st.toNat, by omega⟩
    have z1 := itoaB_size (k : Int) (by omega) (by omega)
    have z2 := rowB_size [num, hr] (by intro g hg; simp only [List.mem_cons, List.not_mem_nil, or_false] at hg; rcases hg with rfl | rfl <;> omega) (itoaB (k : Int))
    rw [← rowB_line]
    simp only at z2 ⊢
    have HD := Lib.hid (fun w => Digits_any k w (by omega))
    have HR := Lib.hid (fun (w : World) (v : Value) (hv : SlI w v [num, hr]) => Row_any (itoaB (k : Int)) v [num, hr] w hv (by intro g hg; simp only [List.mem_cons, List.not_mem_nil, or_false] at hg; rcases hg with rfl | rfl <;> omega) (by simp) (by omega))
    simp only [List.length_cons, List.length_nil] at z2
    have z3 : (rowB (itoaB (k : Int)) [num, hr]).size ≤ 100 := by omega
    generalize rowB (itoaB (k : Int)) [num, hr] = R at *
    generalize itoaB (k : Int) = D at *
    have hsp : sp.size = 1 := rfl
    go_enter Tryz.func56, Tryz.ntmps56
    go_wp2_with fail
    refine (HC.out _).mono ?_
    rintro e w1 ⟨rfl, hE1⟩
    have HE1 := Lib.hid (HE.out.trans hE1)
    obtain ⟨c0, c1, c2, c3⟩ := rec_new (y := ⟨(k : Int), num, hr, txt⟩) hE1
    simp only at c0 c1 c2 c3
    clear hE1
    go_wp2_with fail
    refine wp_drawn 14 (by kernel_rfl) (by kernel_rfl) (fun i => match i with
      | 2 => some fun v _ => v = .string D
      | 7 => some fun v w => ∃ g, v = .slice (some ⟨g, 0, none⟩) 2 2 ∧ SlI w v [num, hr]
      | 8 => some fun v _ => v = .string R
      | 9 => some fun v _ => v = .string (R ++ sp)
      | 12 => some fun v _ => v = .string (R ++ sp ++ txt)
      | 13 => some fun v _ => v = .string (R ++ sp ++ txt)
      | _ => none) ?_ ?_
    · intro j φ hφ v w1 w2 h1 h2
      split at hφ <;> cases hφ
      all_goals first
        | exact h1
        | (obtain ⟨g, h3, h4⟩ := h1; exact ⟨g, h3, h4.ext h2⟩)
    intro ν
    simp only [List.take_succ_cons, List.take_zero]
    iterate 2 (refine Seq.pure ?_ rfl (fun w' hw hf => ?_) ?_; rotate_left; (· (have k0 := hw.keep (w := World.drew _) c0; have k1 := hw.keep (w := World.drew _) c1; have k2 := hw.keep (w := World.drew _) c2; have k3 := hw.keep (w := World.drew _) c3; unfold pureG; go_simp; with_reducible rfl)); simp only [Act.put, List.setIfInBounds_toArray, List.set_cons_zero, List.set_cons_succ, Nat.reduceAdd, Nat.zero_add])
    refine Seq.eff _ rfl (fun w' hw hf => giveG_of rfl (by simp) fun K hK => ?_) ?_
    · go_simp
      refine (HD.out _).mono ?_
      rintro e w2 ⟨rfl, hb⟩
      exact hK _ _ ⟨rfl, hb⟩
    simp only [Act.put, List.setIfInBounds_toArray, List.set_cons_zero, List.set_cons_succ, Nat.reduceAdd, Nat.zero_add]
    iterate 4 (refine Seq.pure ?_ rfl (fun w' hw hf => ?_) ?_; rotate_left; (· (have k0 := hw.keep (w := World.drew _) c0; have k1 := hw.keep (w := World.drew _) c1; have k2 := hw.keep (w := World.drew _) c2; have k3 := hw.keep (w := World.drew _) c3; unfold pureG; go_simp; with_reducible rfl)); simp only [Act.put, List.setIfInBounds_toArray, List.set_cons_zero, List.set_cons_succ, Nat.reduceAdd, Nat.zero_add])
    refine Seq.eff _ rfl (fun w' hw hf => giveG_of rfl (by simp) fun K hK => ?_) ?_
    · go_simp
      refine hK _ _ ⟨⟨_, rfl, .inr ⟨w'.heap.size, 0, 2, rfl, by simp, by decide, by simp, fun j g hj => ?_⟩⟩, Ext.alloc _ _⟩
      have := rangeAt_new w' #[.int .i64 num, .int .i64 hr] 3 w'.heap.size rfl j (.int .i64 g) (by
        match j, hj with
        | 0, hj => cases hj; rfl
        | 1, hj => cases hj; rfl)
      exact this
    simp only [Act.put, List.setIfInBounds_toArray, List.set_cons_zero, List.set_cons_succ, Nat.reduceAdd, Nat.zero_add]
    refine Seq.eff _ rfl (fun w' hw hf => giveG_of rfl (by simp) fun K hK => ?_) ?_
    · obtain ⟨g, h7, h8⟩ := hf 7 _ rfl (by kernel_rfl)
      have h2 := hf 2 _ rfl (by kernel_rfl)
      rw [h7] at h8
      simp only [h7, h2] at hK ⊢
      go_simp
      refine (HR.out _ _ h8).mono ?_
      rintro e w2 ⟨rfl, hb⟩
      exact hK _ _ ⟨rfl, hb⟩
    simp only [Act.put, List.setIfInBounds_toArray, List.set_cons_zero, List.set_cons_succ, Nat.reduceAdd, Nat.zero_add]
    refine Seq.eff _ rfl (fun w' hw hf => giveG_of rfl (by simp) fun K hK => ?_) ?_
    · have h8 := hf 8 _ rfl (by kernel_rfl)
      simp only [h8] at hK ⊢
      go_simp
      first | (rw [if_neg (by omega)]; exact hK _ _ ⟨rfl, Ext.refl _⟩) | exact hK _ _ ⟨rfl, Ext.refl _⟩
    simp only [Act.put, List.setIfInBounds_toArray, List.set_cons_zero, List.set_cons_succ, Nat.reduceAdd, Nat.zero_add]
    iterate 2 (refine Seq.pure ?_ rfl (fun w' hw hf => ?_) ?_; rotate_left; (· (have k0 := hw.keep (w := World.drew _) c0; have k1 := hw.keep (w := World.drew _) c1; have k2 := hw.keep (w := World.drew _) c2; have k3 := hw.keep (w := World.drew _) c3; unfold pureG; go_simp; with_reducible rfl)); simp only [Act.put, List.setIfInBounds_toArray, List.set_cons_zero, List.set_cons_succ, Nat.reduceAdd, Nat.zero_add])
    refine Seq.eff _ rfl (fun w' hw hf => giveG_of rfl (by simp) fun K hK => ?_) ?_
    · have h9 := hf 9 _ rfl (by kernel_rfl)
      simp only [h9] at hK ⊢
      go_simp
      first | (rw [if_neg (by omega)]; exact hK _ _ ⟨rfl, Ext.refl _⟩) | exact hK _ _ ⟨rfl, Ext.refl _⟩
    simp only [Act.put, List.setIfInBounds_toArray, List.set_cons_zero, List.set_cons_succ, Nat.reduceAdd, Nat.zero_add]
    refine Seq.eff _ rfl (fun w' hw hf => giveG_of rfl (by simp) fun K hK => ?_) ?_
    · have h12 := hf 12 _ rfl (by kernel_rfl)
      simp only [h12] at hK ⊢
      go_simp
      first | (rw [if_neg (by omega)]; exact hK _ _ ⟨rfl, Ext.refl _⟩) | exact hK _ _ ⟨rfl, Ext.refl _⟩
    simp only [Act.put, List.setIfInBounds_toArray, List.set_cons_zero, List.set_cons_succ, Nat.reduceAdd, Nat.zero_add]
    refine Seq.nil fun w' hw hf => tail_one (i := 14) (by kernel_rfl) rfl (by kernel_rfl) rfl ?_
    have h13 := hf 13 _ (by omega) rfl
    have HE3 := Lib.hid (HE1.out.trans ((Ext.drew w1).trans hw))
    rw [h13]
    clear hf hw
    go_wp2
    go_ret2
    exact ⟨rfl, HE3.out⟩
  · unfold writeB
    rw [h, if_neg (by decide)]
    rw [h] at HC
    clear h
    go_enter Tryz.func56, Tryz.ntmps56
    go_wp2_with fail
    refine (HC.out _).mono ?_
    rintro e w1 ⟨rfl, hE1⟩
    go_wp2
    go_ret2
    exact ⟨rfl, HE.out.trans hE1⟩
end Go.Proofs.YtgjahnomafpnfaaGreatDoor

/- The reference's cut and Number. -/
namespace Go.Proofs.YtgjahnomafpnfaaGreatDoor
open Go.RowKit
/-- A text up to a byte, what stands behind it, and whether the byte is there. -/
def cutC (s : ByteArray) (c : UInt8) : ByteArray × ByteArray × Bool := (⟨(Lib.cut s.data.toList [c]).1.toArray⟩, ⟨(Lib.cut s.data.toList [c]).2.1.toArray⟩, (Lib.cut s.data.toList [c]).2.2)
theorem cutS_eq (s : ByteArray) : cutS s = cutC s 32 := rfl
theorem occ_one (l : List UInt8) (c : UInt8) (i : Nat) : Lib.occAt l [c] i = true ↔ l[i]? = some c := by
  unfold Lib.occAt
  by_cases h : i < l.length
  · rw [List.drop_eq_getElem_cons h, List.getElem?_eq_getElem h]
    simp [List.isPrefixOf]
    exact eq_comm
  · rw [List.drop_eq_nil_of_le (by omega), List.getElem?_eq_none (by omega)]
    simp [List.isPrefixOf]
theorem occ_none {l : List UInt8} {c : UInt8} {i : Nat} (h : l[i]? ≠ some c) : Lib.occAt l [c] i = false := by
  cases ho : Lib.occAt l [c] i
  · rfl
  · exact absurd ((occ_one l c i).1 ho) h
theorem cutC_hit (s : ByteArray) (c : UInt8) (k : Nat) (hk : k < s.size) (h : s.data.toList[k]? = some c) (hb : ∀ j, j < k → s.data.toList[j]? ≠ some c) : cutC s c = (s.extract 0 k, s.extract (k + 1) s.size, true) := by
  have hi : Lib.index s.data.toList [c] = (k : Int) := Lib.index_first (by rw [Array.length_toList]; exact Nat.le_of_lt hk) ((occ_one _ _ _).2 h) (fun j hj => occ_none (hb j hj))
  unfold cutC Lib.cut
  rw [hi, if_pos (by omega)]
  refine Prod.ext ?_ (Prod.ext ?_ rfl)
  · apply ByteArray.ext
    rw [ByteArray.data_extract]
    apply Array.ext'
    rw [Array.toList_extract, List.extract_eq_take_drop, Int.toNat_natCast]
    rfl
  · apply ByteArray.ext
    rw [ByteArray.data_extract]
    apply Array.ext'
    rw [Array.toList_extract, List.extract_eq_take_drop, Int.toNat_natCast]
    show List.drop (k + 1) s.data.toList = _
    rw [List.take_of_length_le]
    rw [List.length_drop, Array.length_toList]
    exact Nat.le_refl _
theorem cutC_miss (s : ByteArray) (c : UInt8) (hb : ∀ j : Nat, j < s.size → s.data.toList[j]? ≠ some c) : cutC s c = (s, ⟨#[]⟩, false) := by
  have hi : Lib.index s.data.toList [c] = -1 := Lib.index_none (fun j hj => occ_none (by
    by_cases hs : j < s.size
    · exact hb j hs
    · rw [List.getElem?_eq_none (by rw [Array.length_toList]; exact Nat.le_of_not_lt hs)]; simp))
  unfold cutC Lib.cut
  rw [hi, if_neg (by omega)]
set_option maxHeartbeats 800000 in
set_option maxRecDepth 100000 in
theorem cutR_any (s : ByteArray) (c : UInt8) (w : World) (hs : s.size ≤ 4294967281) : Calls Tryz.prog 117 #[.string s, .int .u8 c.toNat] w fun e w' => e = .returned (.tuple #[.string (cutC s c).1, .string (cutC s c).2.1, .bool (cutC s c).2.2]) ∧ Ext w w' := by
  obtain ⟨P, hP⟩ : ∃ P, cutC s c = P := ⟨_, rfl⟩
  rw [hP]
  have HP := Lib.hid hP
  clear hP
  go_enter Tryz.func117, Tryz.ntmps117
  go_wp2
  go_loopw [7] (fun vi wr => ∃ k : Nat, k ≤ s.size ∧ vi = .int .i64 k ∧ (∀ j, j < k → s.data.toList[j]? ≠ some c) ∧ wr = w) (fun vi _ => s.size - (intOf vi).toNat)
  case atStart => exact ⟨0, by omega, rfl, fun j hj => by omega, rfl⟩
  case round =>
    obtain ⟨k, hk, rfl, hb, rfl⟩ := hrel
    by_cases hlt : k < s.size
    · have hlt' : (k : Int) < s.size := by omega
      have hg : s.data.toList[k]? = some (s[k]'hlt) := by rw [Array.getElem?_toList]; exact Array.getElem?_eq_getElem hlt
      by_cases hc : s[k]'hlt = c
      · rw [hc] at hg
        have hP := cutC_hit s c k hlt hg hb
        rw [HP.out] at hP
        subst hP
        clear HP
        have hc' : ((s[k]'hlt).toNat : Int) = c.toNat := by rw [hc]
        have HB := Lib.hid hb
        clear hg hb
        have hk1 : (k : Int) + 1 ≤ s.size := by omega
        have hk2 : (k : Int) ≤ s.size := by omega
        go_wp2_with fail
        go_quiet (fail)
        go_wp2
        go_ret3
        exact ⟨rfl, _root_.Go.below_drewN (Below.refl _ _) nq⟩
      · have hc' : ¬ ((s[k]'hlt).toNat : Int) = c.toNat := by
          intro e
          exact hc (UInt8.toNat_inj.1 (by omega))
        have HB := Lib.hid hb
        clear hb
        go_wp2_with fail
        go_roundw
        case rel =>
          refine ⟨k + 1, by omega, by go_num, fun j hj => ?_, trivial⟩
          by_cases hjk : j < k
          · exact HB.out j hjk
          · obtain rfl : j = k := by omega
            rw [hg]
            intro e
            exact hc (Option.some.inj e)
        case measure => simp [intOf]; omega
    · obtain rfl : k = s.size := by omega
      have hP := cutC_miss s c hb
      rw [HP.out] at hP
      subst hP
      clear HP
      clear hb
      go_wp2
      go_ret3
      exact ⟨rfl, Ext.refl _⟩
def digB (c : UInt8) : Bool := decide (48 ≤ (c.toNat : Int)) && decide ((c.toNat : Int) ≤ 57)
def numV (l : List UInt8) : Int := l.foldl (fun n c => 10 * n + c.toNat - 48) 0
/-- What the reference's Number says. -/
def numR (s : ByteArray) : Int := if s.size ≤ 13 ∧ s.data.toList.all digB = true then numV s.data.toList else 0
theorem numV_snoc (l : List UInt8) (c : UInt8) : numV (l ++ [c]) = 10 * numV l + c.toNat - 48 := by simp [numV]
theorem numV_step (l : List UInt8) (k : Nat) (c : UInt8) (h : l[k]? = some c) : numV (l.take (k + 1)) = 10 * numV (l.take k) + c.toNat - 48 := by
  rw [List.take_add_one, h]
  exact numV_snoc _ _
theorem digB_iff (c : UInt8) : digB c = true ↔ 48 ≤ (c.toNat : Int) ∧ (c.toNat : Int) ≤ 57 := by
  unfold digB
  rw [Bool.and_eq_true, decide_eq_true_eq, decide_eq_true_eq]
theorem numV_bounds (l : List UInt8) : ∀ k : Nat, k ≤ l.length → (l.take k).all digB = true → 0 ≤ numV (l.take k) ∧ numV (l.take k) < 10 ^ k := by
  intro k
  induction k with
  | zero => intro _ _; simp [numV]
  | succ k ih =>
    intro hk h
    obtain ⟨c, hc⟩ : ∃ c, l[k]? = some c := ⟨_, List.getElem?_eq_getElem (by omega)⟩
    rw [List.take_add_one, hc] at h
    rw [List.all_append, Bool.and_eq_true] at h
    obtain ⟨h1, h2⟩ := ih (by omega) h.1
    have h3 := (digB_iff c).1 (by simpa using h.2)
    rw [numV_step l k c hc, Int.pow_succ]
    omega
set_option maxHeartbeats 800000 in
set_option maxRecDepth 100000 in
theorem NumberR_any (s : ByteArray) (w : World) (hs : s.size ≤ 4294967281) : Calls Tryz.prog 118 #[.string s] w fun e w' => e = .returned (.int .i64 (numR s)) ∧ w' = w := by
  obtain ⟨P, hP⟩ : ∃ P, numR s = P := ⟨_, rfl⟩
  rw [hP]
  have HP := Lib.hid hP
  clear hP
  go_enter Tryz.func118, Tryz.ntmps118
  go_wp2
  go_loopw [3, 4] (fun vn vi wr => ∃ k : Nat, k ≤ s.size ∧ vi = .int .i64 k ∧ vn = .int .i64 (numV (s.data.toList.take k)) ∧ (s.data.toList.take k).all digB = true ∧ (0 < k → s.size ≤ 13) ∧ wr = w) (fun _ vi _ => s.size - (intOf vi).toNat)
  case atStart => exact ⟨0, by omega, rfl, rfl, rfl, fun h => by omega, rfl⟩
  case round =>
    obtain ⟨k, hk, rfl, rfl, hd, h13, rfl⟩ := hrel
    have hlen : s.data.toList.length = s.size := Array.length_toList
    by_cases hlt : k < s.size
    · have hlt' : (k : Int) < s.size := by omega
      have hg : s.data.toList[k]? = some (s[k]'hlt) := by rw [Array.getElem?_toList]; exact Array.getElem?_eq_getElem hlt
      obtain ⟨b1, b2⟩ := numV_bounds s.data.toList k (by omega) hd
      by_cases hz : 13 < s.size
      · have hz' : (13 : Int) < s.size := by omega
        have hP : numR s = 0 := by unfold numR; rw [if_neg (by omega)]
        rw [HP.out] at hP
        subst hP
        clear HP b1 b2 hd h13 hg
        go_wp2
        go_ret
        exact ⟨rfl, rfl⟩
      · have hz' : ¬ ((13 : Int) < s.size) := by omega
        have hb3 : numV (s.data.toList.take k) < 10000000000000 := by
          have hp : (10 : Int) ^ k ≤ 10 ^ 13 := by exact_mod_cast Nat.pow_le_pow_right (n := 10) (by omega) (show k ≤ 13 by omega)
          omega
        by_cases hdg : digB (s[k]'hlt) = true
        · have hdi := (digB_iff _).1 hdg
          have hst := numV_step s.data.toList k _ hg
          have hal : (s.data.toList.take (k + 1)).all digB = true := by rw [List.take_add_one, hg, List.all_append, hd]; simpa using hdg
          have HH := Lib.hid (And.intro hst hal)
          obtain ⟨hd1, hd2⟩ := hdi
          generalize numV (s.data.toList.take k) = v at *
          clear hst hal hg b2
          go_wp2
          go_roundw
          case rel =>
            refine ⟨k + 1, by omega, by go_num, ?_, HH.out.2, fun _ => by omega, trivial⟩
            rw [HH.out.1]
            try go_num
          case measure => simp [intOf]; omega
        · have hP : numR s = 0 := by
            unfold numR
            rw [if_neg]
            rintro ⟨_, h2⟩
            exact hdg (List.all_eq_true.1 h2 _ (List.mem_of_getElem? hg))
          have hdi : ¬ (48 ≤ ((s[k]'hlt).toNat : Int) ∧ ((s[k]'hlt).toNat : Int) ≤ 57) := fun e => hdg ((digB_iff _).2 e)
          rw [HP.out] at hP
          subst hP
          clear HP b1 b2 hd h13 hg hdg
          by_cases h48 : ((s[k]'hlt).toNat : Int) < 48
          · clear hdi
            go_wp2
            go_ret
            exact ⟨rfl, rfl⟩
          · have h57 : (57 : Int) < ((s[k]'hlt).toNat : Int) := by omega
            clear hdi
            go_wp2
            go_ret
            exact ⟨rfl, rfl⟩
    · obtain rfl : k = s.size := by omega
      have ht : s.data.toList.take s.size = s.data.toList := List.take_of_length_le (by omega)
      rw [ht] at hd ⊢
      have hP : numR s = numV s.data.toList := by
        unfold numR
        rw [if_pos]
        refine ⟨?_, hd⟩
        rcases Nat.eq_zero_or_pos s.size with h | h
        · omega
        · exact h13 h
      rw [HP.out] at hP
      subst hP
      clear HP hd h13 ht
      go_wp2
      go_ret
      exact ⟨rfl, rfl⟩
end Go.Proofs.YtgjahnomafpnfaaGreatDoor

/- The reference's ReadRecord. -/
namespace Go.Proofs.YtgjahnomafpnfaaGreatDoor
open Go.RowKit
/-- What the reference reads. -/
def meantR (s : ByteArray) : Rec := ⟨numR (cutS s).1, numR (cutS (cutS s).2.1).1, numR (cutS (cutS (cutS s).2.1).2.1).1, (cutS (cutS (cutS s).2.1).2.1).2.1⟩
def zrec : Rec := ⟨0, 0, 0, ⟨#[]⟩⟩
def readRE (n : Int) (s : ByteArray) : Int := if inB n 2 5 = false then 1 else if checkE n (meantR s) = 0 ∧ writeB n (meantR s) = s then 0 else 4
def readRX (n : Int) (s : ByteArray) : Rec := if readRE n s = 0 then meantR s else zrec
theorem build49 : (Instr.build 49 #[]).run Tryz.prog = fun w => .ok (rv zrec) w := by funext w; exact run_build w 49 #[] _ (by kernel_rfl)
set_option maxHeartbeats 800000 in
set_option maxRecDepth 100000 in
theorem ReadRecordR_any (n : Int) (s : ByteArray) (w : World) (hs : s.size ≤ 1000000) : Calls Tryz.prog 58 #[.int .i64 n, .string s] w fun e w' => e = .returned (.tuple #[rv (readRX n s), .int .i64 (readRE n s)]) ∧ Ext w w' := by
  have HBx := Lib.hid (BoxR.new w zrec)
  have hE0 := Ext.alloc w (.cells #[.int .i64 0, .int .i64 0, .int .i64 0, .string ⟨#[]⟩] 49)
  have HE0 := Lib.hid hE0
  clear hE0
  have hb49 : (Instr.build 49 #[]).run Tryz.prog = fun w => .ok (.agg #[.int .i64 0, .int .i64 0, .int .i64 0, .string ⟨#[]⟩]) w := build49
  cases hn : inB n 2 5
  · have h1 : readRE n s = 1 := by unfold readRE; rw [if_pos hn]
    have h2 : readRX n s = zrec := by unfold readRX; rw [h1]; rfl
    rw [h1, h2]
    have HN := Lib.hid hn
    clear hn h1 h2
    go_enter Tryz.func58, Tryz.ntmps58
    go_wp2_with (go_at_call 107; refine (manyR_any _ _).mono ?_; rw [HN.out]; rintro e w' ⟨rfl, rfl⟩)
    refine bodyPost_ret (v := .tuple #[rv zrec, .int .i64 1]) ?_ rfl ⟨rfl, HE0.out⟩
    simp [results, Tryz.results58, go_sem, rv, zrec]
  · have z1 := cutS_size s
    have z2 := cutS_size (cutS s).2.1
    have z3 := cutS_size (cutS (cutS s).2.1).2.1
    have hP : (readRE n s = 0 ∧ readRX n s = meantR s ∧ checkE n (meantR s) = 0 ∧ writeB n (meantR s) = s) ∨ (readRE n s = 4 ∧ readRX n s = zrec ∧ (checkE n (meantR s) ≠ 0 ∨ writeB n (meantR s) ≠ s)) := by
      unfold readRX readRE
      rw [if_neg (by rw [hn]; decide)]
      by_cases h : checkE n (meantR s) = 0 ∧ writeB n (meantR s) = s
      · rw [if_pos h]
        exact .inl ⟨rfl, if_pos rfl, h⟩
      · rw [if_neg h]
        refine .inr ⟨rfl, if_neg (by decide), ?_⟩
        by_cases h2 : checkE n (meantR s) = 0
        · exact .inr fun e => h ⟨h2, e⟩
        · exact .inl h2
    have HN := Lib.hid hn
    have hC1 := fun w => cutR_any s 32 w (by omega)
    have hC2 := fun w => cutR_any (cutS s).2.1 32 w (by omega)
    have hC3 := fun w => cutR_any (cutS (cutS s).2.1).2.1 32 w (by omega)
    simp only [← cutS_eq, show ((UInt8.toNat 32 : Nat) : Int) = 32 from rfl] at hC1 hC2 hC3
    have hN1 := fun w => NumberR_any (cutS s).1 w (by omega)
    have hN2 := fun w => NumberR_any (cutS (cutS s).2.1).1 w (by omega)
    have hN3 := fun w => NumberR_any (cutS (cutS (cutS s).2.1).2.1).1 w (by omega)
    have hW := fun w => WriteRecordR_any n (meantR s) w (by show (cutS (cutS (cutS s).2.1).2.1).2.1.size ≤ 1000000; omega)
    obtain ⟨A, hA⟩ : ∃ A, cutS s = A := ⟨_, rfl⟩
    obtain ⟨B, hB⟩ : ∃ B, cutS A.2.1 = B := ⟨_, rfl⟩
    obtain ⟨C, hC⟩ : ∃ C, cutS B.2.1 = C := ⟨_, rfl⟩
    have hM : meantR s = ⟨numR A.1, numR B.1, numR C.1, C.2.1⟩ := by unfold meantR; rw [hA, hB, hC]
    rw [hM] at hW hP
    generalize writeB n ⟨numR A.1, numR B.1, numR C.1, C.2.1⟩ = T at *
    generalize checkE n ⟨numR A.1, numR B.1, numR C.1, C.2.1⟩ = E at *
    rw [hA] at hC1 hC2 hN1
    rw [hA, hB] at hC3
    rw [hA, hB] at hN2
    rw [hA, hB, hC] at hN3
    rw [hB] at hC2
    rw [hC] at hC3
    generalize numR A.1 = a at *
    generalize numR B.1 = b at *
    generalize numR C.1 = c at *
    obtain ⟨A1, A2, A3⟩ := A
    obtain ⟨B1, B2, B3⟩ := B
    obtain ⟨C1, C2, C3⟩ := C
    simp only at *
    have HC1 := Lib.hid hC1
    have HC2 := Lib.hid hC2
    have HC3 := Lib.hid hC3
    have HN1 := Lib.hid hN1
    have HN2 := Lib.hid hN2
    have HN3 := Lib.hid hN3
    have HW := Lib.hid hW
    have HP := Lib.hid hP
    clear hn hP hC1 hC2 hC3 hN1 hN2 hN3 hW z1 z2 z3 hA hB hC hM
    obtain ⟨RE, hRE⟩ : ∃ RE, readRE n s = RE := ⟨_, rfl⟩
    obtain ⟨RX, hRX⟩ : ∃ RX, readRX n s = RX := ⟨_, rfl⟩
    rw [hRE, hRX]
    rw [hRE, hRX] at HP
    clear hRE hRX
    go_enter Tryz.func58, Tryz.ntmps58
    go_wp2_with (first | (go_at_call 107; refine (manyR_any _ _).mono ?_; rw [HN.out]; rintro e w' ⟨rfl, rfl⟩))
    have HBx0 := Lib.hid (show BoxR (w.alloc (.cells #[.int .i64 0, .int .i64 0, .int .i64 0, .string ⟨#[]⟩] 49)) w.heap.size zrec from HBx.out)
    clear HBx
    generalize w.alloc (.cells #[.int .i64 0, .int .i64 0, .int .i64 0, .string ⟨#[]⟩] 49) = W0 at HBx0 HE0 ⊢
    refine (HC1.out _).mono ?_
    rintro e W1 ⟨rfl, hE1⟩
    have HE1 := Lib.hid hE1
    clear hE1
    go_wp2_with fail
    refine (HC2.out _).mono ?_
    rintro e W2 ⟨rfl, hE2⟩
    have HE2 := Lib.hid (HE1.out.trans hE2)
    clear hE2
    go_wp2_with fail
    refine (HC3.out _).mono ?_
    rintro e W3 ⟨rfl, hE3⟩
    have HE3 := Lib.hid (HE2.out.trans hE3)
    clear hE3
    go_wp2_with fail
    refine (HN1.out _).mono ?_
    rintro e W4 ⟨rfl, rfl⟩
    go_wp2_with fail
    refine (HN2.out _).mono ?_
    rintro e W5 ⟨rfl, rfl⟩
    go_wp2_with fail
    refine (HN3.out _).mono ?_
    rintro e W6 ⟨rfl, rfl⟩
    go_wp2_with fail
    refine (HW.out _).mono ?_
    rintro e W7 ⟨rfl, hE7⟩
    obtain ⟨d0, d1, d2, d3⟩ := rec_new (y := ⟨a, b, c, C2⟩) hE7
    simp only at d0 d1 d2 d3
    have hE8 : Ext W0 W7 := HE3.out.trans ((Ext.alloc _ _).trans hE7)
    have hbx := HBx0.out.ext hE8
    have r0 := hbx.c0
    have r1 := hbx.c1
    have r2 := hbx.c2
    have r3 := hbx.c3
    have f0 := hbx.f 0
    have f1 := hbx.f 1
    have f2 := hbx.f 2
    have f3 := hbx.f 3
    have HE8 := Lib.hid (HE0.out.trans hE8)
    clear hE7 hE8 hbx
    rcases HP.out with ⟨rfl, rfl, rfl, rfl⟩ | ⟨rfl, rfl, hne⟩
    · clear HP
      go_wp2
      refine bodyPost_ret (v := .tuple #[rv ⟨a, b, c, C2⟩, .int .i64 0]) ?_ rfl ⟨rfl, (((HE8.out.setCell (Nat.le_refl _) _).setCell (Nat.le_refl _) _).setCell (Nat.le_refl _) _).setCell (Nat.le_refl _) _⟩
      simp [results, Tryz.results58, go_sem, rv, zrec, r0, r1, r2, r3]
    · clear HP
      by_cases hE : E = 0
      · have hT := hne.resolve_left (by simp [hE])
        have hTb := (Lib.bytes_beq_false_iff T s).2 hT
        subst hE
        clear hne
        go_wp2
        refine bodyPost_ret (v := .tuple #[rv zrec, .int .i64 4]) ?_ rfl ⟨rfl, (((HE8.out.setCell (Nat.le_refl _) _).setCell (Nat.le_refl _) _).setCell (Nat.le_refl _) _).setCell (Nat.le_refl _) _⟩
        simp [results, Tryz.results58, go_sem, rv, zrec, r0, r1, r2, r3]
      · clear hne
        go_wp2
        refine bodyPost_ret (v := .tuple #[rv zrec, .int .i64 4]) ?_ rfl ⟨rfl, (((HE8.out.setCell (Nat.le_refl _) _).setCell (Nat.le_refl _) _).setCell (Nat.le_refl _) _).setCell (Nat.le_refl _) _⟩
        simp [results, Tryz.results58, go_sem, rv, zrec, r0, r1, r2, r3]
end Go.Proofs.YtgjahnomafpnfaaGreatDoor

/- ReadRecord. -/
namespace Go.Proofs.YtgjahnomafpnfaaGreatDoor
open Go.RowKit
def readPE (n : Int) (s : ByteArray) : Int := if inB n 2 5 = false then 1 else match parsedP n s with | some _ => 0 | none => 4
def readPX (n : Int) (s : ByteArray) : Rec := if inB n 2 5 = false then zrec else match parsedP n s with | some x => x | none => zrec
/-- Where ReadRecord stands: the record's place and the error's are untouched. -/
structure RSt (w W : World) : Prop where
  bx : BoxR W w.heap.size zrec
  c : W.cell? ⟨w.heap.size + 1, 0, none⟩ = some (.int .i64 0)
  f : W.frozen? ⟨w.heap.size + 1, 0, none⟩ = false
  be : Ext w W
theorem RSt.ext {w W W' : World} (h : RSt w W) (hE : Ext W W') : RSt w W' :=
  ⟨h.bx.ext hE, hE.keep h.c, (hE.frozen (World.block_lt_of_cell? _ _ h.c)).trans h.f, h.be.trans hE⟩
theorem rst_new (w : World) : RSt w ((w.alloc (.cells #[.int .i64 0, .int .i64 0, .int .i64 0, .string ⟨#[]⟩] 49)).alloc (.cells #[.int .i64 0] 38)) := by
  have hb : BoxR (w.alloc (.cells #[.int .i64 0, .int .i64 0, .int .i64 0, .string ⟨#[]⟩] 49)) w.heap.size zrec := BoxR.new w zrec
  have hs : (w.alloc (.cells #[.int .i64 0, .int .i64 0, .int .i64 0, .string ⟨#[]⟩] 49)).heap.size = w.heap.size + 1 := by simp
  refine ⟨hb.ext (Ext.alloc _ _), ?_, ?_, (Ext.alloc _ _).trans (Ext.alloc _ _)⟩
  · rw [← hs, World.cell?_alloc_new]; rfl
  · rw [← hs, World.frozen?_alloc_new]
theorem read_gave {w W : World} (h : RSt w W) (tm : Array Value) (h4 : tm[4]?.getD undef = .pointer (some ⟨w.heap.size, 0, none⟩)) (h5 : tm[5]?.getD undef = .pointer (some ⟨w.heap.size + 1, 0, none⟩))
    (R : Ending → World → Prop) (hR : ∀ W', Ext w W' → R (.returned (.tuple #[rv zrec, .int .i64 4])) W') :
    bodyPostD Tryz.prog Tryz.f57 R (Exit.panic [{ v := .iface 228 (.agg #[]), recovered := false }]) { tmps := tm, defers := [{ target := Target.fn (Fn.func 115) #[], args := #[.pointer (some ⟨w.heap.size + 1, 0, none⟩)] }] } W := by
  refine leaves_cons (f := 115) (args := #[.pointer (some ⟨w.heap.size + 1, 0, none⟩)]) (by simp) (by simp [go_sem]) ?_
  refine (caught_no (w.heap.size + 1) 0 [] W h.c h.f).mono ?_
  rintro e u' w'' ⟨rfl, rfl, h1, h2⟩
  have hx : Ext w w'' := Below.trans (B := w.heap.size) h.be (h2.below h.be.size (fun j hj => by omega))
  have := hR w'' hx
  have hb := h.bx.frB h2 (by omega)
  have c0 := hb.c0
  have c1 := hb.c1
  have c2 := hb.c2
  have c3 := hb.c3
  simp [Leaves, settle, results, Tryz.results57, go_sem, h4, h5, h1, c0, c1, c2, c3]
  exact this
theorem read_done {w W : World} {x : Rec} (hb : BoxR W w.heap.size x) (hc : W.cell? ⟨w.heap.size + 1, 0, none⟩ = some (.int .i64 0)) (tm : Array Value) (h4 : tm[4]?.getD undef = .pointer (some ⟨w.heap.size, 0, none⟩)) (h5 : tm[5]?.getD undef = .pointer (some ⟨w.heap.size + 1, 0, none⟩))
    (R : Ending → World → Prop) (hR : R (.returned (.tuple #[rv x, .int .i64 0])) W) :
    bodyPostD Tryz.prog Tryz.f57 R Exit.ret { tmps := tm, defers := [{ target := Target.fn (Fn.func 115) #[], args := #[.pointer (some ⟨w.heap.size + 1, 0, none⟩)] }] } W := by
  refine leaves_cons (f := 115) (args := #[.pointer (some ⟨w.heap.size + 1, 0, none⟩)]) (by simp) (by simp [go_sem]) ?_
  refine (caught_idle ⟨w.heap.size + 1, 0, none⟩ W).mono ?_
  rintro e u' w'' ⟨rfl, rfl, rfl⟩
  have c0 := hb.c0
  have c1 := hb.c1
  have c2 := hb.c2
  have c3 := hb.c3
  simp [Leaves, settle, results, Tryz.results57, go_sem, h4, h5, hc, c0, c1, c2, c3]
  exact hR
set_option maxHeartbeats 800000 in
set_option maxRecDepth 100000 in
theorem ReadRecord_any {B : Nat} {w : World} (hL : Laid B w) (n : Int) (s : ByteArray) (hs : s.size ≤ 1000000) : Calls Tryz.prog 57 #[.int .i64 n, .string s] w fun e w' => e = .returned (.tuple #[rv (readPX n s), .int .i64 (readPE n s)]) ∧ Ext w w' := by
  have HS := Lib.hid (rst_new w)
  have HL := Lib.hid hL
  clear hL
  have hb49 : (Instr.build 49 #[]).run Tryz.prog = fun w => .ok (.agg #[.int .i64 0, .int .i64 0, .int .i64 0, .string ⟨#[]⟩]) w := build49
  cases hn : inB n 2 5
  · have h1 : readPE n s = 1 := by unfold readPE; rw [if_pos hn]
    have h2 : readPX n s = zrec := by unfold readPX; rw [if_pos hn]
    rw [h1, h2]
    have HN := Lib.hid hn
    clear hn h1 h2
    go_enter_defers Tryz.func57, Tryz.ntmps57
    go_wp2_with (go_at_call 95; refine (many_any _ _).mono ?_; rw [HN.out]; rintro e w' ⟨rfl, rfl⟩)
    refine ⟨.tuple #[rv zrec, .int .i64 1], ?_, rfl, (Ext.alloc _ _).trans (Ext.alloc _ _)⟩
    simp [results, Tryz.results57, go_sem, rv, zrec]
  · have hnb := (inB_iff _ _ _).1 hn
    have HP := Lib.hid (fun (w : World) (h : Laid B w) => parsed_any h n s (by omega) (by omega) (by omega))
    have h1 : readPE n s = match parsedP n s with | some _ => 0 | none => 4 := by unfold readPE; rw [if_neg (by rw [hn]; decide)]
    have h2 : readPX n s = match parsedP n s with | some x => x | none => zrec := by unfold readPX; rw [if_neg (by rw [hn]; decide)]
    rw [h1, h2]
    have HN := Lib.hid hn
    clear hn h1 h2
    generalize parsedP n s = o at *
    cases o with
    | none =>
      simp only
      go_enter_defers Tryz.func57, Tryz.ntmps57
      go_wp2_with (first | (go_at_call 95; refine (many_any _ _).mono ?_; rw [HN.out]; rintro e w' ⟨rfl, rfl⟩))
      generalize ((w.alloc (.cells #[.int .i64 0, .int .i64 0, .int .i64 0, .string ⟨#[]⟩] 49)).alloc (.cells #[.int .i64 0] 38)) = W0 at HS ⊢
      refine (HP.out _ (HL.out.ext HS.out.be)).mono ?_
      rintro e W1 ⟨he, hE⟩
      have hee : e = gaveUp := he
      subst hee
      unfold gaveUp
      refine read_gave (HS.out.ext hE) _ rfl rfl _ ?_
      intro W' hW'
      exact ⟨rfl, hW'⟩
    | some x =>
      simp only
      go_enter_defers Tryz.func57, Tryz.ntmps57
      go_wp2_with (first | (go_at_call 95; refine (many_any _ _).mono ?_; rw [HN.out]; rintro e w' ⟨rfl, rfl⟩))
      generalize ((w.alloc (.cells #[.int .i64 0, .int .i64 0, .int .i64 0, .string ⟨#[]⟩] 49)).alloc (.cells #[.int .i64 0] 38)) = W0 at HS ⊢
      refine (HP.out _ (HL.out.ext HS.out.be)).mono ?_
      rintro e W1 ⟨he, hE⟩
      have hee : e = .returned (rv x) := he
      subst hee
      have HS1 := Lib.hid (HS.out.ext hE)
      have r0 := HS1.out.bx.c0
      have r1 := HS1.out.bx.c1
      have r2 := HS1.out.bx.c2
      have r3 := HS1.out.bx.c3
      have f0 := HS1.out.bx.f 0
      have f1 := HS1.out.bx.f 1
      have f2 := HS1.out.bx.f 2
      have f3 := HS1.out.bx.f 3
      have k0 := HS1.out.c
      have k1 := HS1.out.f
      have hlt1 := HS1.out.bx.lt
      have hlt2 := World.block_lt_of_cell? _ _ k0
      simp only at hlt2
      clear he hE
      go_wp2
      have hb := (((HS1.out.bx.set0 x.st).set1 x.num).set2 x.hr).set3 x.txt
      have hb2 := hb.frB (FrB.setCell (fun j => j = w.heap.size + 1) _ ⟨w.heap.size + 1, 0, none⟩ (.int .i64 0) rfl) (by omega)
      have hX := Ext.alloc (((((W1.setCell ⟨w.heap.size, 0, none⟩ (.int .i64 x.st)).setCell ⟨w.heap.size, 1, none⟩ (.int .i64 x.num)).setCell ⟨w.heap.size, 2, none⟩ (.int .i64 x.hr)).setCell ⟨w.heap.size, 3, none⟩ (.string x.txt)).setCell ⟨w.heap.size + 1, 0, none⟩ (.int .i64 0)) (.cells #[.int .i64 x.st, .int .i64 x.num, .int .i64 x.hr, .string x.txt] 49)
      refine read_done (hb2.ext hX) (hX.keep ?_) _ rfl rfl _ ⟨rfl, ?_⟩
      · refine World.cell?_setCell_same _ _ _ (?_ : _ = some (.int .i64 0))
        rw [World.cell?_setCell_far _ _ _ _ (by show w.heap.size ≠ w.heap.size + 1; omega), World.cell?_setCell_far _ _ _ _ (by show w.heap.size ≠ w.heap.size + 1; omega), World.cell?_setCell_far _ _ _ _ (by show w.heap.size ≠ w.heap.size + 1; omega), World.cell?_setCell_far _ _ _ _ (by show w.heap.size ≠ w.heap.size + 1; omega)]
        exact k0
      · exact (((((HS1.out.be.setCell (Nat.le_refl _) _).setCell (Nat.le_refl _) _).setCell (Nat.le_refl _) _).setCell (Nat.le_refl _) _).setCell (Nat.le_succ _) _).trans (hX.mono (by simp; omega))
end Go.Proofs.YtgjahnomafpnfaaGreatDoor

/- Records and lines: what is written can be read, what is read was written. -/
namespace Go.Proofs.YtgjahnomafpnfaaGreatDoor
open Go.RowKit
theorem digit_toNat (u : Nat) (h : u < 10) : (UInt8.ofNat (48 + u)).toNat = 48 + u := by rw [UInt8.toNat_ofNat']; omega
theorem decDigits_all (u : Nat) : (Lib.decDigits u).all digB = true := by
  induction u using Nat.strongRecOn with
  | _ u ih =>
    rw [Lib.decDigits]
    by_cases h : u < 10
    · rw [dif_pos h]
      simp only [List.all_cons, List.all_nil, Bool.and_true]
      rw [digB_iff, digit_toNat u h]
      omega
    · rw [dif_neg h, List.all_append, ih (u / 10) (by omega)]
      simp only [List.all_cons, List.all_nil, Bool.and_true, Bool.true_and]
      rw [digB_iff, digit_toNat (u % 10) (by omega)]
      omega
theorem decDigits_len (k : Nat) : ∀ u : Nat, u < 10 ^ (k + 1) → (Lib.decDigits u).length ≤ k + 1 := by
  induction k with
  | zero => intro u h; rw [Lib.decDigits_one (by omega)]; simp
  | succ k ih =>
    intro u h
    rw [Lib.decDigits]
    by_cases h1 : u < 10
    · rw [dif_pos h1]; simp
    · rw [dif_neg h1, List.length_append]
      have := ih (u / 10) (by rw [Nat.pow_succ] at h; omega)
      simp only [List.length_singleton]
      omega
theorem numV_digits (u : Nat) : numV (Lib.decDigits u) = u := by
  induction u using Nat.strongRecOn with
  | _ u ih =>
    rw [Lib.decDigits]
    by_cases h : u < 10
    · rw [dif_pos h]
      have := numV_snoc [] (UInt8.ofNat (48 + u))
      rw [List.nil_append, digit_toNat u h] at this
      rw [this]
      have h0 : numV [] = 0 := rfl
      omega
    · rw [dif_neg h, numV_snoc, ih (u / 10) (by omega), digit_toNat (u % 10) (by omega)]
      omega
theorem numR_itoa (u : Nat) (h : u ≤ 1000000) : numR (itoaB (u : Int)) = u := by
  rw [itoaB_nat]
  unfold numR
  have h1 : ((⟨(Lib.decDigits u).toArray⟩ : ByteArray)).data.toList = Lib.decDigits u := rfl
  rw [h1, if_pos, numV_digits]
  refine ⟨?_, decDigits_all u⟩
  have := decDigits_len 12 u (by omega)
  exact this
theorem parse_snoc (c : UInt8) : ∀ (l : List UInt8) (acc u : Nat), Lib.parseUint10 acc l = .ok u → 48 ≤ c.toNat ∧ c.toNat ≤ 57 → u < 1000000000000 → Lib.parseUint10 acc (l ++ [c]) = .ok (u * 10 + (c.toNat - 48))
  | [], acc, u, h, hc, hu => by
    simp only [Lib.parseUint10] at h
    injection h with h
    subst h
    simp only [List.nil_append, Lib.parseUint10]
    rw [if_pos hc, if_neg (by omega), if_neg (by omega)]
  | d :: l, acc, u, h, hc, hu => by
    rw [List.cons_append]
    unfold Lib.parseUint10 at h ⊢
    split at h
    · rename_i hd
      rw [if_pos hd]
      split at h
      · cases h
      · rename_i h1
        rw [if_neg h1]
        split at h
        · cases h
        · rename_i h2
          rw [if_neg h2]
          exact parse_snoc c l _ u h hc hu
    · cases h
theorem parse_digits (u : Nat) (h : u ≤ 1000000000) : Lib.parseUint10 0 (Lib.decDigits u) = .ok u := by
  induction u using Nat.strongRecOn with
  | _ u ih =>
    rw [Lib.decDigits]
    by_cases h1 : u < 10
    · rw [dif_pos h1]
      have := parse_snoc (UInt8.ofNat (48 + u)) [] 0 0 rfl (by rw [digit_toNat u h1]; omega) (by omega)
      rw [List.nil_append, digit_toNat u h1] at this
      rw [this]
      congr 1
      omega
    · rw [dif_neg h1, parse_snoc _ _ 0 (u / 10) (ih (u / 10) (by omega) (by omega)) (by rw [digit_toNat (u % 10) (by omega)]; omega) (by omega), digit_toNat (u % 10) (by omega)]
      congr 1
      omega
theorem atoi_digits (u : Nat) (h : u ≤ 1000000000) : Lib.atoiAll (Lib.decDigits u) = .ok (u : Int) := by
  have ha := decDigits_all u
  have hp := parse_digits u h
  cases hl : Lib.decDigits u with
  | nil =>
    have := Lib.decDigits_length u
    rw [hl] at this
    have h2 : 1 ≤ Lib.nDigits u := by
      by_cases h3 : u < 10
      · rw [Lib.nDigits_small h3]; omega
      · rw [Lib.nDigits_big h3]; omega
    simp at this
    omega
  | cons c r =>
    rw [hl] at ha hp
    simp only [List.all_cons, Bool.and_eq_true] at ha
    have hc := (digB_iff c).1 ha.1
    rw [Lib.atoiAll_plain c r (by omega) (by omega)]
    unfold Lib.signless Lib.parseMag
    rw [if_neg (by simp), hp]
    simp only
    rw [if_neg (by omega)]
end Go.Proofs.YtgjahnomafpnfaaGreatDoor

/- Lines cut at blanks; the law of lines. -/
namespace Go.Proofs.YtgjahnomafpnfaaGreatDoor
open Go.RowKit
theorem cut_list (a r : List UInt8) (c : UInt8) (h : ∀ x ∈ a, x ≠ c) : Lib.cut (a ++ c :: r) [c] = (a, r, true) := by
  have hi : Lib.index (a ++ c :: r) [c] = (a.length : Int) := Lib.index_first (by simp) ((occ_one _ _ _).2 (by rw [List.getElem?_append_right (Nat.le_refl _)]; simp)) (fun j hj => occ_none (by
    rw [List.getElem?_append_left hj, List.getElem?_eq_getElem hj]
    intro e
    exact h _ (List.getElem_mem hj) (Option.some.inj e)))
  unfold Lib.cut
  rw [hi, if_pos (by omega), Int.toNat_natCast]
  simp
theorem cutS_of (A R : ByteArray) (h : ∀ x ∈ A.data.toList, x ≠ 32) : cutS (A ++ sp ++ R) = (A, R, true) := by
  have hl : (A ++ sp ++ R).data.toList = A.data.toList ++ 32 :: R.data.toList := by
    rw [ByteArray.data_append, ByteArray.data_append]
    simp [sp]
  unfold cutS
  rw [hl, cut_list _ _ _ h]
theorem cutS_join (s : ByteArray) (h : (cutS s).2.2 = true) : s = (cutS s).1 ++ sp ++ (cutS s).2.1 := by
  unfold cutS at h ⊢
  simp only at h ⊢
  rcases Lib.index_spec s.data.toList [32] with ⟨h1, _⟩ | ⟨i, h1, h2, h3, _⟩
  · unfold Lib.cut at h
    rw [if_neg (by omega)] at h
    cases h
  · have h4 := (occ_one _ _ _).1 h3
    have hlt := (List.getElem?_eq_some_iff.1 h4).1
    have h5 : Lib.cut s.data.toList [32] = (s.data.toList.take i, s.data.toList.drop (i + 1), true) := by
      unfold Lib.cut
      rw [h1, if_pos (by omega), Int.toNat_natCast]
      rfl
    rw [h5]
    apply ByteArray.ext
    rw [ByteArray.data_append, ByteArray.data_append]
    apply Array.ext'
    simp only [Array.toList_append]
    show s.data.toList = s.data.toList.take i ++ [32] ++ s.data.toList.drop (i + 1)
    rw [List.append_assoc]
    conv => lhs; rw [← List.take_append_drop i s.data.toList, List.drop_eq_getElem_cons hlt]
    have := (List.getElem?_eq_some_iff.1 h4).2
    rw [this]
    rfl
theorem itoa_no_blank (u : Nat) : ∀ x ∈ (itoaB (u : Int)).data.toList, x ≠ 32 := by
  rw [itoaB_nat]
  intro x hx
  have h1 : digB x = true := List.all_eq_true.1 (decDigits_all u) x hx
  have := (digB_iff x).1 h1
  rintro rfl
  simp at this
theorem numQ_spec {s : ByteArray} {more : Bool} {v : Int} {s' : ByteArray} {m' : Bool} (h : numQ s more = some (v, s', m')) : more = true ∧ itoaB v = (cutS s).1 ∧ s' = (cutS s).2.1 ∧ m' = (cutS s).2.2 ∧ 0 ≤ v := by
  unfold numQ numP at h
  split at h
  · rename_i hm
    split at h
    · split at h
      · rename_i hh
        simp only [Option.some.injEq, Prod.mk.injEq] at h
        obtain ⟨rfl, rfl, rfl⟩ := h
        exact ⟨hm, hh.2, rfl, rfl, hh.1⟩
      · cases h
    · cases h
  · cases h
theorem numQ_of (u : Nat) (hu : u ≤ 1000000000) (R : ByteArray) : numQ (itoaB (u : Int) ++ sp ++ R) true = some ((u : Int), R, true) := by
  unfold numQ numP
  rw [if_pos rfl, cutS_of _ _ (itoa_no_blank u)]
  simp only
  have h1 : (itoaB (u : Int)).data.toList = Lib.decDigits u := by rw [itoaB_nat]
  rw [h1, atoi_digits u hu]
  simp only
  rw [if_pos ⟨by omega, trivial⟩]
theorem lineB_assoc (x : Rec) : lineB x = itoaB x.st ++ sp ++ (itoaB x.num ++ sp ++ (itoaB x.hr ++ sp ++ x.txt)) := by
  unfold lineB
  simp only [ByteArray.append_assoc]
/-- What is read was written. -/
theorem parsedP_line {n : Int} {s : ByteArray} {x : Rec} (h : parsedP n s = some x) : formedB n x = true ∧ lineB x = s := by
  unfold parsedP at h
  split at h
  · cases h
  rename_i a s1 m1 h1
  split at h
  · cases h
  rename_i b s2 m2 h2
  split at h
  · cases h
  rename_i c s3 m3 h3
  split at h
  · rename_i hh
    cases h
    refine ⟨hh.2, ?_⟩
    obtain ⟨_, p1, p2, p3, _⟩ := numQ_spec h1
    obtain ⟨q0, q1, q2, q3, _⟩ := numQ_spec h2
    obtain ⟨r0, r1, r2, r3, _⟩ := numQ_spec h3
    rw [lineB_assoc]
    simp only
    have j3 := cutS_join s2 (by rw [← r3]; exact hh.1)
    have j2 := cutS_join s1 (by rw [← q3]; exact r0)
    have j1 := cutS_join s (by rw [← p3]; exact q0)
    rw [r1, r2, ← j3, q1, q2, ← j2, p1, p2, ← j1]
  · cases h
/-- What is written can be read. -/
theorem parsedP_of {n : Int} {x : Rec} (h : formedB n x = true) (hn : n ≤ 5) : parsedP n (lineB x) = some x := by
  have hb := formedB_bounds h
  obtain ⟨st, num, hr, txt⟩ := x
  simp only at hb
  obtain ⟨a, rfl⟩ : ∃ a : Nat, st = (a : Int) := ⟨st.toNat, by omega⟩
  obtain ⟨b, rfl⟩ : ∃ a : Nat, num = (a : Int) := ⟨num.toNat, by omega⟩
  obtain ⟨c, rfl⟩ : ∃ a : Nat, hr = (a : Int) := ⟨hr.toNat, by omega⟩
  rw [lineB_assoc, parsedP_4 (numQ_of a (by omega) _) (numQ_of b (by omega) _) (numQ_of c (by omega) _), if_pos ⟨rfl, h⟩]
theorem meantR_line {n : Int} {x : Rec} (h : formedB n x = true) (hn : n ≤ 5) : meantR (lineB x) = x := by
  have hb := formedB_bounds h
  obtain ⟨st, num, hr, txt⟩ := x
  simp only at hb
  obtain ⟨a, rfl⟩ : ∃ a : Nat, st = (a : Int) := ⟨st.toNat, by omega⟩
  obtain ⟨b, rfl⟩ : ∃ a : Nat, num = (a : Int) := ⟨num.toNat, by omega⟩
  obtain ⟨c, rfl⟩ : ∃ a : Nat, hr = (a : Int) := ⟨hr.toNat, by omega⟩
  rw [lineB_assoc]
  unfold meantR
  simp only
  rw [cutS_of _ _ (itoa_no_blank a)]
  simp only
  rw [cutS_of _ _ (itoa_no_blank b)]
  simp only
  rw [cutS_of _ _ (itoa_no_blank c)]
  simp only
  rw [numR_itoa a (by omega), numR_itoa b (by omega), numR_itoa c (by omega)]
theorem checkE_of {n : Int} {x : Rec} (h1 : inB n 2 5 = true) (h2 : formedB n x = true) : checkE n x = 0 := by unfold checkE; rw [h1, h2]; rfl
theorem writeB_of {n : Int} {x : Rec} (h : checkE n x = 0) : writeB n x = lineB x := by unfold writeB; rw [if_pos h]
/-- The program and the reference read alike. -/
theorem read_same (n : Int) (s : ByteArray) : readPE n s = readRE n s ∧ readPX n s = readRX n s := by
  cases hn : inB n 2 5
  · have h1 : readRE n s = 1 := by unfold readRE; rw [if_pos hn]
    refine ⟨?_, ?_⟩
    · rw [h1]; unfold readPE; rw [if_pos hn]
    · unfold readPX readRX; rw [if_pos hn, h1]; rfl
  · have hnb := (inB_iff _ _ _).1 hn
    have e1 : readPE n s = match parsedP n s with | some _ => 0 | none => 4 := by unfold readPE; rw [if_neg (by rw [hn]; decide)]; try (cases parsedP n s <;> rfl)
    have e2 : readPX n s = match parsedP n s with | some x => x | none => zrec := by unfold readPX; rw [if_neg (by rw [hn]; decide)]; try (cases parsedP n s <;> rfl)
    have e3 : readRE n s = if checkE n (meantR s) = 0 ∧ writeB n (meantR s) = s then 0 else 4 := by unfold readRE; rw [if_neg (by rw [hn]; decide)]
    cases hp : parsedP n s with
    | some x =>
      rw [hp] at e1 e2
      obtain ⟨hf, hl⟩ := parsedP_line hp
      have hm : meantR s = x := by rw [← hl]; exact meantR_line hf (by omega)
      have hc := checkE_of hn hf
      rw [hm, if_pos ⟨hc, by rw [writeB_of hc, hl]⟩] at e3
      refine ⟨by rw [e1, e3], ?_⟩
      rw [e2]
      unfold readRX
      rw [e3, if_pos rfl, hm]
    | none =>
      rw [hp] at e1 e2
      have hno : ¬ (checkE n (meantR s) = 0 ∧ writeB n (meantR s) = s) := by
        rintro ⟨hc, hw⟩
        have hf := (checkE_bounds hc).2
        rw [writeB_of hc] at hw
        have := parsedP_of hf (by omega)
        rw [hw, hp] at this
        cases this
      rw [if_neg hno] at e3
      refine ⟨by rw [e1, e3], ?_⟩
      rw [e2]
      unfold readRX
      rw [e3, if_neg (by decide)]
theorem write_read {n : Int} {x : Rec} (h : checkE n x = 0) : readPE n (writeB n x) = 0 ∧ readPX n (writeB n x) = x := by
  have hb := checkE_bounds h
  have hn : inB n 2 5 = true := (inB_iff _ _ _).2 hb.1
  have hp := parsedP_of hb.2 hb.1.2
  rw [writeB_of h]
  unfold readPE readPX
  rw [if_neg (by rw [hn]; decide), if_neg (by rw [hn]; decide), hp]
  exact ⟨rfl, rfl⟩
theorem read_write {n : Int} {s : ByteArray} (h : readPE n s = 0) : checkE n (readPX n s) = 0 ∧ writeB n (readPX n s) = s := by
  unfold readPE at h
  split at h
  · cases h
  rename_i hn
  have hn2 : inB n 2 5 = true := by cases hi : inB n 2 5; exact absurd hi hn; rfl
  split at h
  · rename_i x hp
    have hx : readPX n s = x := by unfold readPX; rw [if_neg hn, hp]
    obtain ⟨hf, hl⟩ := parsedP_line hp
    have hc := checkE_of hn2 hf
    rw [hx]
    exact ⟨hc, by rw [writeB_of hc, hl]⟩
  · cases h
theorem ref_id {id : Int} (h : refE id = 0) : idB (refS id) (refN id) = id := by
  unfold refE at h
  split at h
  · rename_i hh
    have hb := (inB_iff _ _ _).1 hh
    unfold refS refN
    rw [if_pos hh, if_pos hh, idB_yes (by omega)]
    omega
  · cases h
theorem id_ref {s n : Int} (h : 0 < idB s n) : refE (idB s n) = 0 ∧ refS (idB s n) = s ∧ refN (idB s n) = n := by
  by_cases hc : s < 0 ∨ 4 < s ∨ n < 1 ∨ 400 < n
  · rw [idB_no hc] at h; omega
  · rw [idB_yes (by omega)] at h ⊢
    have hi : inB (5 * n + s) 5 2004 = true := by rw [inB_iff]; omega
    unfold refE refS refN
    rw [if_pos hi, if_pos hi, if_pos hi]
    omega
end Go.Proofs.YtgjahnomafpnfaaGreatDoor
