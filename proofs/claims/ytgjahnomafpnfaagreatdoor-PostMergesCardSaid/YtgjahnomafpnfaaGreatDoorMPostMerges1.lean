/- Lemmas and walks that this claim needs, in one text out of several; each states its own conditions. -/
import Derived.Test.YtgjahnomafpnfaaGreatDoorMB8
import Derived.Carry
import Derived.ChangeSlices
import Derived.ChangeMaps5
import Derived.OpenShut
import Derived.Deep.Slices
import Derived.Lib.SmallJoins
import Derived.Test.YtgjahnomafpnfaaGreatDoorMB2
set_option linter.unusedVariables false
set_option linter.unusedSimpArgs false
/- Arguments that nobody wrote read as they did; slices of bytes among the arguments. -/
namespace Go.Proofs.YtgjahnomafpnfaaGreatDoor
open Go.ChangeShapes Go.WideShapes Go.ChangeAt Go.RowKit
theorem laidOutT : laidOutB Tryz.prog = true := by kernel_rfl
/-- One closed fact: each of these types can be read and is a row of the table. -/
def typesRowed (P : Program) (ts : List TypeId) : Bool := ts.all fun t => P.readableRec t && decide (t < P.types.size)
theorem trodAll_staysP {P : Program} (hl : laidOutB P = true) {H : Type} {enc : TypeId × Value → H} {W W' : World} (hb : Below W.heap.size W W') : ∀ {ts : List TypeId} {vs : List Value} {ds : List (DataW H)} {ps : List MemPlace}, typesRowed P ts = true →
    DataW.TrodAll enc P W 0 (fun _ => true) true ts vs ds ps → (∀ x ∈ ps, x.block < W.heap.size) → DataW.TrodAll enc P W' 0 (fun b => decide (b < W.heap.size)) true ts vs ds ps
  | [], [], [], _, _, h, _ => h
  | [], [], _ :: _, _, _, h, _ => h.elim
  | [], _ :: _, _, _, _, h, _ => h.elim
  | _ :: _, [], _, _, _, h, _ => h.elim
  | _ :: _, _ :: _, [], _, _, h, _ => h.elim
  | t :: ts, v :: vs, d :: ds, ps, hr, h, hlt => by
    obtain ⟨p, q, h1, h2, rfl⟩ := h
    simp only [typesRowed, List.all_cons, Bool.and_eq_true, decide_eq_true_eq] at hr
    exact ⟨p, q, Below.trod hl hr.1.1 hr.1.2 h1 hb (fun x hx => hlt x (List.mem_append_left _ hx)), trodAll_staysP hl hb (by simpa [typesRowed] using hr.2) h2 (fun x hx => hlt x (List.mem_append_right _ hx)), rfl⟩
theorem trodAll_stays {H : Type} {enc : TypeId × Value → H} {W W' : World} (hb : Below W.heap.size W W') {ts : List TypeId} {vs : List Value} {ds : List (DataW H)} {ps : List MemPlace} (hr : typesRowed Tryz.prog ts = true)
    (h : DataW.TrodAll enc Tryz.prog W 0 (fun _ => true) true ts vs ds ps) (hlt : ∀ x ∈ ps, x.block < W.heap.size) : DataW.TrodAll enc Tryz.prog W' 0 (fun b => decide (b < W.heap.size)) true ts vs ds ps := trodAll_staysP laidOutT hb hr h hlt
/-- A slice's address is a place in memory. -/
theorem okWide_has {P : Program} {w : World} {base : Nat} {t e : TypeId} {a : Addr} {len cap : Nat} (ht : P.underlying t = some (.slice e)) (h : Value.okWide P w .any base t (.slice (some a) len cap)) : a.spot = none ∧ a.block < w.heap.size := by
  simp only [Value.okWide, ht, Cell.okWide, Cell.ok, World.has] at h
  obtain ⟨_, _, _, h1, row, cells, h2, _⟩ := h
  refine ⟨h1, ?_⟩
  unfold World.shape? at h2
  cases hh : w.heap[a.block]? with
  | none => rw [hh] at h2; cases h2
  | some o => exact (Array.getElem?_eq_some_iff.1 hh).1
theorem cells5T : Tryz.prog.cellsOf 5 = 1 := by kernel_rfl
theorem slB_ofP {P : Program} {t e : TypeId} (ht : P.underlying t = some (.slice e)) (he : P.underlying e = some (.int .u8)) (hc : P.cellsOf e = 1) {H : Type} {enc : TypeId × Value → H} {w : World} {base : Nat} {v : Value} {d : DataW H} {p : List MemPlace} (hval : Value.okWide P w .any base t v) (hd : DataW.Trod enc P w 0 (fun _ => true) true t v d p) : ∃ bs, SlB w v bs := by
  obtain ⟨a0, len, cap, rfl⟩ := okWide_slice ht hval
  obtain ⟨fuel, hf⟩ := hd
  rcases open_ints ht he hc hf with ⟨hcs, hx⟩ | ⟨a, len', cap', zs, hcs, _, hl, hm, hz, hx, hcell, hwz⟩
  · simp [Value.cells] at hcs
    obtain ⟨rfl, rfl, rfl⟩ := hcs
    exact ⟨[], .inl ⟨rfl, rfl⟩⟩
  · simp [Value.cells] at hcs
    obtain ⟨rfl, rfl, rfl⟩ := hcs
    obtain ⟨hs, hb⟩ := okWide_has ht hval
    obtain ⟨b, off, spot⟩ := a
    simp only at hs hb
    subst hs
    simp only [if_true] at hz
    have hlen : (zs.take len).length = len := by rw [List.length_take, hz]; omega
    refine ⟨(zs.take len).map (fun z => UInt8.ofNat z.toNat), .inr ⟨b, off, cap, by rw [List.length_map, hlen], by rw [List.length_map, hlen]; exact hl, hm, hb, fun j u hu => ?_⟩⟩
    unfold scells at hu
    rw [List.getElem?_map, List.getElem?_map] at hu
    cases hj : (zs.take len)[j]? with
    | none => rw [hj] at hu; cases hu
    | some z =>
      rw [hj] at hu
      simp only [Option.map_some, Option.some.injEq] at hu
      have hzz : zs[j]? = some z := by
        rw [List.getElem?_take] at hj
        split at hj
        · exact hj
        · cases hj
      have hjl := (List.getElem?_eq_some_iff.1 hzz).1
      have hb8 := bounds_u8 (hwz z (List.mem_of_getElem? hzz))
      have := hcell j hjl
      rw [Addr.add_mid, show zs.getD j 0 = z from by rw [List.getD_eq_getElem?_getD, hzz]; rfl] at this
      rw [this, ← hu]
      congr 2
      rw [UInt8.toNat_ofNat']
      omega
set_option maxRecDepth 100000 in
theorem slB_of {H : Type} {enc : TypeId × Value → H} {w : World} {base : Nat} {v : Value} {d : DataW H} {p : List MemPlace} (hval : Value.okWide Tryz.prog w .any base 69 v) (hd : DataW.Trod enc Tryz.prog w 0 (fun _ => true) true 69 v d p) : ∃ bs, SlB w v bs :=
  slB_ofP (P := Tryz.prog) (t := 69) (e := 5) Tryz.underlying69 Tryz.underlying5 cells5T hval hd
end Go.Proofs.YtgjahnomafpnfaaGreatDoor

/- Records and slices of records among the arguments. -/
namespace Go.Proofs.YtgjahnomafpnfaaGreatDoor
open Go.ChangeShapes Go.WideShapes Go.ChangeAt Go.RowKit Go.Deep Go.Joins
/-- A record's numbers are whole numbers of 64 bits. -/
structure Rec.i64 (x : Rec) : Prop where
  st : -9223372036854775808 ≤ x.st ∧ x.st ≤ 9223372036854775807
  num : -9223372036854775808 ≤ x.num ∧ x.num ≤ 9223372036854775807
  hr : -9223372036854775808 ≤ x.hr ∧ x.hr ≤ 9223372036854775807
  sz : x.txt.size ≤ maxLen
theorem i64_fits {x : Rec} (h : x.i64) (ht : x.txt.size ≤ 1000000) : x.fits := ⟨h.st, h.num, h.hr, ht⟩
section
variable {P : Program} {H : Type} {enc : TypeId × Value → H} {w : World} {base b0 : Nat} {sp : Nat → Bool} {held : Bool}
theorem rec_cellsP {f0 f1 f2 f3 : Field} {t : TypeId} (hs : P.underlying t = some (.struct #[f0, f1, f2, f3])) (hone : oneCellFields P #[f0, f1, f2, f3] = true)
    (h0 : P.underlying f0.type = some (.int .i64)) (h1 : P.underlying f1.type = some (.int .i64)) (h2 : P.underlying f2.type = some (.int .i64)) (h3 : P.underlying f3.type = some .string)
    {fuel : Nat} {cs : List Value} {y : DataW H × List MemPlace} (hl : cs.length = 4) (hf : DataW.trod enc P w base sp held fuel t cs = some y) : ∃ x : Rec, cs = rcells x ∧ x.i64 := by
  obtain ⟨y0, y1, y2, y3, n, hx, _, g0, g1, g2, g3⟩ := trod_struct4 hs hf
  obtain ⟨o0, k0⟩ := hone_of hone 0 f0 rfl
  obtain ⟨o1, k1⟩ := hone_of hone 1 f1 rfl
  obtain ⟨o2, k2⟩ := hone_of hone 2 f2 rfl
  obtain ⟨o3, k3⟩ := hone_of hone 3 f3 rfl
  match cs, hl with
  | [c0, c1, c2, c3], _ =>
    simp only [o0, k0, o1, k1, o2, k2, o3, k3] at g0 g1 g2 g3
    obtain ⟨a, e0, _, w0⟩ := DataW.trod_int h0 g0
    obtain ⟨b, e1, _, w1⟩ := DataW.trod_int h1 g1
    obtain ⟨c, e2, _, w2⟩ := DataW.trod_int h2 g2
    obtain ⟨s, e3, _, w3⟩ := DataW.trod_string h3 g3
    simp at e0 e1 e2 e3
    subst e0 e1 e2 e3
    exact ⟨⟨a, b, c, s⟩, rfl, ⟨bounds_i64 w0, bounds_i64 w1, bounds_i64 w2, w3⟩⟩
theorem pair_cellsP {f0 f1 : Field} {t : TypeId} (hs : P.underlying t = some (.struct #[f0, f1])) (hone : oneCellFields P #[f0, f1] = true)
    (h0 : P.underlying f0.type = some (.int .i64)) (h1 : P.underlying f1.type = some (.int .i64))
    {fuel : Nat} {cs : List Value} {y : DataW H × List MemPlace} (hl : cs.length = 2) (hf : DataW.trod enc P w base sp held fuel t cs = some y) : ∃ a b : Int, cs = [.int .i64 a, .int .i64 b] ∧ (-9223372036854775808 ≤ a ∧ a ≤ 9223372036854775807) ∧ (-9223372036854775808 ≤ b ∧ b ≤ 9223372036854775807) := by
  obtain ⟨y0, y1, n, hx, _, g0, g1⟩ := trod_struct2 hs hf
  obtain ⟨o0, k0⟩ := hone_of hone 0 f0 rfl
  obtain ⟨o1, k1⟩ := hone_of hone 1 f1 rfl
  match cs, hl with
  | [c0, c1], _ =>
    simp only [o0, k0, o1, k1] at g0 g1
    obtain ⟨a, e0, _, w0⟩ := DataW.trod_int h0 g0
    obtain ⟨b, e1, _, w1⟩ := DataW.trod_int h1 g1
    simp at e0 e1
    subst e0 e1
    exact ⟨a, b, rfl, bounds_i64 w0, bounds_i64 w1⟩
end
set_option maxRecDepth 100000 in
theorem fields49' : ∃ f0 f1 f2 f3, Tryz.prog.underlying 49 = some (.struct #[f0, f1, f2, f3]) ∧ oneCellFields Tryz.prog #[f0, f1, f2, f3] = true ∧ Tryz.prog.underlying f0.type = some (.int .i64) ∧ Tryz.prog.underlying f1.type = some (.int .i64) ∧ Tryz.prog.underlying f2.type = some (.int .i64) ∧ Tryz.prog.underlying f3.type = some .string :=
  ⟨_, _, _, _, Tryz.underlying49, by kernel_rfl, by kernel_rfl, by kernel_rfl, by kernel_rfl, by kernel_rfl⟩
set_option maxRecDepth 100000 in
theorem fields94' : ∃ f0 f1, Tryz.prog.underlying 94 = some (.struct #[f0, f1]) ∧ oneCellFields Tryz.prog #[f0, f1] = true ∧ Tryz.prog.underlying f0.type = some (.int .i64) ∧ Tryz.prog.underlying f1.type = some (.int .i64) :=
  ⟨_, _, Tryz.underlying94, by kernel_rfl, by kernel_rfl, by kernel_rfl⟩
theorem cells49T : Tryz.prog.cellsOf 49 = 4 := by kernel_rfl
theorem cells94T : Tryz.prog.cellsOf 94 = 2 := by kernel_rfl
section
variable {H : Type} {enc : TypeId × Value → H} {w : World} {base : Nat}
set_option maxRecDepth 100000 in
theorem rec_cells {b0 : Nat} {sp : Nat → Bool} {held : Bool} {fuel : Nat} {cs : List Value} {y : DataW H × List MemPlace} (hl : cs.length = 4) (hf : DataW.trod enc Tryz.prog w b0 sp held fuel 49 cs = some y) : ∃ x : Rec, cs = rcells x ∧ x.i64 := by
  obtain ⟨f0, f1, f2, f3, h, h', h0, h1, h2, h3⟩ := fields49'
  exact rec_cellsP h h' h0 h1 h2 h3 hl hf
set_option maxRecDepth 100000 in
theorem rec_of {v : Value} {d : DataW H} {p : List MemPlace} (hval : Value.okWide Tryz.prog w .any base 49 v) (hd : DataW.Trod enc Tryz.prog w 0 (fun _ => true) true 49 v d p) : ∃ x : Rec, v = rv x ∧ x.i64 := by
  obtain ⟨cs, rfl, hsz⟩ := okWide_struct Tryz.underlying49 hval
  obtain ⟨fuel, hf⟩ := hd
  obtain ⟨x, hx, h⟩ := rec_cells (by simp [Value.cells, hsz, cells49T]) hf
  exact ⟨x, by congr 1; apply Array.ext'; exact hx, h⟩
set_option maxRecDepth 100000 in
theorem pair_of {v : Value} {d : DataW H} {p : List MemPlace} (hval : Value.okWide Tryz.prog w .any base 94 v) (hd : DataW.Trod enc Tryz.prog w 0 (fun _ => true) true 94 v d p) : ∃ a b : Int, v = .agg #[.int .i64 a, .int .i64 b] ∧ (-9223372036854775808 ≤ a ∧ a ≤ 9223372036854775807) ∧ (-9223372036854775808 ≤ b ∧ b ≤ 9223372036854775807) := by
  obtain ⟨cs, rfl, hsz⟩ := okWide_struct Tryz.underlying94 hval
  obtain ⟨fuel, hf⟩ := hd
  obtain ⟨f0, f1, h, h', h0, h1⟩ := fields94'
  obtain ⟨a, b, hx, h2, h3⟩ := pair_cellsP h h' h0 h1 (by simp [Value.cells, hsz, cells94T]) hf
  exact ⟨a, b, by congr 1; apply Array.ext'; exact hx, h2, h3⟩
set_option maxRecDepth 100000 in
/-- A slice of records, out of its one cell. -/
theorem slR_cell {b0 : Nat} {sp : Nat → Bool} {held : Bool} {fuel : Nat} {v : Value} {y : DataW H × List MemPlace} (hf : DataW.trod enc Tryz.prog w b0 sp held fuel 23 [v] = some y)
    (hok : ∀ a l c, v = .slice (some a) l c → a.spot = none ∧ a.block < w.heap.size) : ∃ xs, SlR w v xs ∧ ∀ x ∈ xs, x.i64 := by
  rcases open_slice Tryz.underlying23 hf with ⟨hcs, _⟩ | ⟨a, len, cap, m, n, D, Pl, hcs, _, hl, hm, hmm, _, hx⟩
  · simp at hcs
    subst hcs
    exact ⟨[], .inl ⟨rfl, rfl⟩, by simp⟩
  · simp at hcs
    subst hcs
    obtain ⟨hs, hb⟩ := hok a len cap rfl
    obtain ⟨b, off, spot⟩ := a
    simp only at hs hb
    subst hs
    have hlm : len ≤ m := by rw [hmm]; split <;> omega
    have hx' : ∀ i, i < len → ∃ x : Rec, x.i64 ∧ ∀ j u, (rcells x)[j]? = some u → w.cell? ⟨b, off + (i * 4 + j), none⟩ = some u := by
      intro i hi
      obtain ⟨cs, h1, h2⟩ := hx i (by omega)
      rw [cells49T] at h1
      obtain ⟨_, hlen, hcell⟩ := World.cells?_some h1
      obtain ⟨x, rfl, h3⟩ := rec_cells hlen h2
      refine ⟨x, h3, fun j u hu => ?_⟩
      have hj := (List.getElem?_eq_some_iff.1 hu).1
      have := hcell j (by simpa [rcells] using hj)
      rw [hu] at this
      rwa [Addr.add_mid, Addr.add_mid, Nat.add_assoc] at this
    obtain ⟨X, hX⟩ := choose_lt (α := Rec) hx'
    refine ⟨(List.range len).map X, .inr ⟨b, off, cap, by simp, by simpa using hl, hm, hb, fun j u hu => ?_⟩, fun x hxm => ?_⟩
    · have hj := (List.getElem?_eq_some_iff.1 hu).1
      rw [flat_length, List.length_map, List.length_range] at hj
      have hi : j / 4 < len := by omega
      have hg := flat_get ((List.range len).map X) (j / 4) (j % 4) (X (j / 4)) (by simp [hi]) (by omega)
      rw [show j / 4 * 4 + j % 4 = j from by omega, hu] at hg
      have := (hX (j / 4) hi).2 (j % 4) u hg.symm
      rwa [show j / 4 * 4 + j % 4 = j from by omega] at this
    · obtain ⟨i, hi, rfl⟩ := List.mem_map.1 hxm
      exact (hX i (by simpa using hi)).1
set_option maxRecDepth 100000 in
theorem slR_of {v : Value} {d : DataW H} {p : List MemPlace} (hval : Value.okWide Tryz.prog w .any base 23 v) (hd : DataW.Trod enc Tryz.prog w 0 (fun _ => true) true 23 v d p) : ∃ xs, SlR w v xs ∧ ∀ x ∈ xs, x.i64 := by
  obtain ⟨a0, len, cap, rfl⟩ := okWide_slice Tryz.underlying23 hval
  obtain ⟨fuel, hf⟩ := hd
  refine slR_cell (by simpa [Value.cells] using hf) (fun a l c h => ?_)
  simp only [Value.slice.injEq] at h
  obtain ⟨rfl, rfl, rfl⟩ := h
  exact okWide_has Tryz.underlying23 hval
end
section
variable {H : Type} {enc : TypeId × Value → H} {P : Program} {w : World} {base : Nat} {spare : Nat → Bool} {held : Bool}
theorem trodAll_five {t0 t1 t2 t3 t4 : TypeId} {args : Array Value} {ds : List (DataW H)} {ps : List MemPlace} (h : DataW.TrodAll enc P w base spare held [t0, t1, t2, t3, t4] args.toList ds ps) :
    ∃ v0 v1 v2 v3 v4 d0 d1 d2 d3 d4 p0 p1 p2 p3 p4, args = #[v0, v1, v2, v3, v4] ∧ ds = [d0, d1, d2, d3, d4] ∧ ps = p0 ++ p1 ++ p2 ++ p3 ++ p4 ∧ DataW.Trod enc P w base spare held t0 v0 d0 p0 ∧ DataW.Trod enc P w base spare held t1 v1 d1 p1 ∧ DataW.Trod enc P w base spare held t2 v2 d2 p2 ∧ DataW.Trod enc P w base spare held t3 v3 d3 p3 ∧ DataW.Trod enc P w base spare held t4 v4 d4 p4 := by
  obtain ⟨v0, vs0, d0, ds0, p0, q0, e0, rfl, rfl, g0, r0⟩ := trodAll_cons h
  obtain ⟨v1, vs1, d1, ds1, p1, q1, rfl, rfl, rfl, g1, r1⟩ := trodAll_cons r0
  obtain ⟨v2, vs2, d2, ds2, p2, q2, rfl, rfl, rfl, g2, r2⟩ := trodAll_cons r1
  obtain ⟨v3, vs3, d3, ds3, p3, q3, rfl, rfl, rfl, g3, r3⟩ := trodAll_cons r2
  obtain ⟨v4, vs4, d4, ds4, p4, q4, rfl, rfl, rfl, g4, r4⟩ := trodAll_cons r3
  obtain ⟨rfl, rfl, rfl⟩ := trodAll_nil r4
  exact ⟨v0, v1, v2, v3, v4, d0, d1, d2, d3, d4, p0, p1, p2, p3, p4, by cases args; simp_all, rfl, by simp, g0, g1, g2, g3, g4⟩
end
end Go.Proofs.YtgjahnomafpnfaaGreatDoor

/- RefOf and IdOf, of the program and of the reference. -/
namespace Go.Proofs.YtgjahnomafpnfaaGreatDoor
open Go.RowKit
/-- What RefOf answers. -/
def refS (id : Int) : Int := if inB id 5 2004 then id % 5 else 0
def refN (id : Int) : Int := if inB id 5 2004 then id / 5 else 0
def refE (id : Int) : Int := if inB id 5 2004 then 0 else 1
def refV (id : Int) : Value := .tuple #[.agg #[.int .i64 (refS id), .int .i64 (refN id)], .int .i64 (refE id)]
theorem refV_no {id : Int} (h : inB id 5 2004 = false) : refV id = .tuple #[.agg #[.int .i64 0, .int .i64 0], .int .i64 1] := by unfold refV refS refN refE; rw [h]; rfl
theorem refV_yes {id : Int} (h : inB id 5 2004 = true) : refV id = .tuple #[.agg #[.int .i64 (id % 5), .int .i64 (id / 5)], .int .i64 0] := by unfold refV refS refN refE; rw [h]; rfl
set_option maxHeartbeats 800000 in
set_option maxRecDepth 100000 in
theorem RefOf_any (id : Int) (w : World) : Calls Tryz.prog 59 #[.int .i64 id] w fun e w' => e = .returned (refV id) ∧ Ext w w' := by
  have hb : (Instr.build 94 #[]).run Tryz.prog = fun w => .ok (.agg #[.int .i64 0, .int .i64 0]) w := by funext w; exact run_build w 94 #[] _ (by kernel_rfl)
  cases h : inB id 5 2004
  · rw [refV_no h]
    have H := Lib.hid h
    clear h
    go_enter Tryz.func59, Tryz.ntmps59
    go_wp2_with (first | (go_at_call 91; refine (in_any _ _ _ _).mono ?_; rw [H.out]; rintro e w' ⟨rfl, rfl⟩))
    refine bodyPost_ret (v := .tuple #[.agg #[.int .i64 0, .int .i64 0], .int .i64 1]) ?_ rfl ⟨rfl, Ext.alloc _ _⟩
    simp [results, Tryz.results59, go_sem]
  · rw [refV_yes h]
    have H := Lib.hid h
    have hr := (inB_iff _ _ _).1 h
    clear h
    go_enter Tryz.func59, Tryz.ntmps59
    go_wp2_with (first | (go_at_call 91; refine (in_any _ _ _ _).mono ?_; rw [H.out]; rintro e w' ⟨rfl, rfl⟩))
    refine bodyPost_ret (v := .tuple #[.agg #[.int .i64 (id % 5), .int .i64 (id / 5)], .int .i64 0]) ?_ rfl ⟨rfl, Ext.alloc _ _⟩
    simp [results, Tryz.results59, go_sem]
set_option maxHeartbeats 800000 in
set_option maxRecDepth 100000 in
theorem RefOfR_any (id : Int) (w : World) : Calls Tryz.prog 60 #[.int .i64 id] w fun e w' => e = .returned (refV id) ∧ Ext w w' := by
  have hb : (Instr.build 94 #[]).run Tryz.prog = fun w => .ok (.agg #[.int .i64 0, .int .i64 0]) w := by funext w; exact run_build w 94 #[] _ (by kernel_rfl)
  by_cases h1 : id < 5
  · rw [refV_no (by unfold inB; simp; omega)]
    go_enter Tryz.func60, Tryz.ntmps60
    go_wp2
    refine bodyPost_ret (v := .tuple #[.agg #[.int .i64 0, .int .i64 0], .int .i64 1]) ?_ rfl ⟨rfl, Ext.alloc _ _⟩
    simp [results, Tryz.results60, go_sem]
  by_cases h2 : 2004 < id
  · rw [refV_no (by unfold inB; simp; omega)]
    go_enter Tryz.func60, Tryz.ntmps60
    go_wp2
    refine bodyPost_ret (v := .tuple #[.agg #[.int .i64 0, .int .i64 0], .int .i64 1]) ?_ rfl ⟨rfl, Ext.alloc _ _⟩
    simp [results, Tryz.results60, go_sem]
  rw [refV_yes (by unfold inB; simp; omega)]
  go_enter Tryz.func60, Tryz.ntmps60
  go_wp2
  refine bodyPost_ret (v := .tuple #[.agg #[.int .i64 (id % 5), .int .i64 (id / 5)], .int .i64 0]) ?_ rfl ⟨rfl, Ext.alloc _ _⟩
  simp [results, Tryz.results60, go_sem]
theorem idB_no {s n : Int} (h : s < 0 ∨ 4 < s ∨ n < 1 ∨ 400 < n) : idB s n = 0 := by
  unfold idB inB
  rw [if_neg]
  simp; omega
theorem idB_yes {s n : Int} (h : 0 ≤ s ∧ s ≤ 4 ∧ 1 ≤ n ∧ n ≤ 400) : idB s n = 5 * n + s := by
  unfold idB inB
  rw [if_pos]
  simp; omega
set_option maxHeartbeats 800000 in
set_option maxRecDepth 100000 in
theorem IdOfR_any (s n : Int) (w : World) : Calls Tryz.prog 62 #[.agg #[.int .i64 s, .int .i64 n]] w fun e w' => e = .returned (.int .i64 (idB s n)) ∧ Ext w w' := by
  have HE := Lib.hid (Ext.alloc w (.cells #[.int .i64 s, .int .i64 n] 94))
  by_cases h1 : s < 0
  · rw [idB_no (.inl h1)]
    go_enter Tryz.func62, Tryz.ntmps62
    go_wp2
    go_ret
    exact ⟨rfl, HE.out⟩
  by_cases h2 : 4 < s
  · rw [idB_no (.inr (.inl h2))]
    go_enter Tryz.func62, Tryz.ntmps62
    go_wp2
    go_ret
    exact ⟨rfl, HE.out⟩
  by_cases h3 : n < 1
  · rw [idB_no (.inr (.inr (.inl h3)))]
    go_enter Tryz.func62, Tryz.ntmps62
    go_wp2
    go_ret
    exact ⟨rfl, HE.out⟩
  by_cases h4 : 400 < n
  · rw [idB_no (.inr (.inr (.inr h4)))]
    go_enter Tryz.func62, Tryz.ntmps62
    go_wp2
    go_ret
    exact ⟨rfl, HE.out⟩
  rw [idB_yes (by omega)]
  go_enter Tryz.func62, Tryz.ntmps62
  go_wp2
  go_ret
  exact ⟨rfl, HE.out⟩
end Go.Proofs.YtgjahnomafpnfaaGreatDoor

/- Books: what sorted finds is what the reference finds; a book and its rows; no program in sight. -/
namespace Go.Proofs.YtgjahnomafpnfaaGreatDoor
open Go.RowKit
/-- The error of a record behind another one. -/
def refusedE (n : Int) (p : Option Rec) (x : Rec) : Int :=
  if formedB n x = false then 1 else
  match p with
  | none => if x.num ≠ 1 then 83 else 0
  | some p => if x.st < p.st ∨ (x.st = p.st ∧ x.num ≤ p.num) then 6 else if p.st ≠ x.st then (if x.num ≠ 1 then 83 else 0) else if x.num ≠ p.num + 1 then 83 else if x.hr < p.hr then 7 else 0
def checkGo (n : Int) : Option Rec → Nat → List Rec → Int × Int
  | _, _, [] => (0, 0)
  | p, i, x :: l => if refusedE n p x ≠ 0 then ((i : Int), refusedE n p x) else checkGo n (some x) (i + 1) l
def checkP (n : Int) (l : List Rec) : Int × Int := if inB n 2 5 then checkGo n none 0 l else (0, 1)
/-- The records of station s in a book. -/
structure RowOk (n : Int) (s : Nat) (xs : List Rec) : Prop where
  at_ : ∀ (k : Nat) y, xs[k]? = some y → y.st = (s : Int) ∧ y.num = (k : Int) + 1 ∧ formedB n y = true
  hrs : ∀ (j k : Nat) y z, j < k → xs[j]? = some y → xs[k]? = some z → y.hr ≤ z.hr
structure Book (n : Int) (rows : List (List Rec)) : Prop where
  len : rows.length = 5
  row : ∀ (s : Nat) xs, rows[s]? = some xs → RowOk n s xs
theorem formedB_st {n : Int} {x : Rec} (h : formedB n x = true) : 0 ≤ x.st ∧ x.st < n ∧ 1 ≤ x.num := by
  unfold formedB at h
  simp only [Bool.and_eq_true, inB_iff] at h
  omega
theorem RowOk.nil (n : Int) (s : Nat) : RowOk n s [] := ⟨fun k y h => by simp at h, fun j k y z _ h => by simp at h⟩
theorem RowOk.snoc {n : Int} {s : Nat} {xs : List Rec} {x : Rec} (h : RowOk n s xs) (h1 : x.st = (s : Int)) (h2 : x.num = (xs.length : Int) + 1) (h3 : formedB n x = true) (h4 : ∀ y, xs[xs.length - 1]? = some y → y.hr ≤ x.hr) : RowOk n s (xs ++ [x]) := by
  refine ⟨fun k y hk => ?_, fun j k y z hjk hj hk => ?_⟩
  · rcases Nat.lt_trichotomy k xs.length with q | q | q
    · rw [List.getElem?_append_left q] at hk; exact h.at_ k y hk
    · subst q
      simp at hk
      subst hk
      exact ⟨h1, h2, h3⟩
    · rw [List.getElem?_eq_none (by simp; omega)] at hk; cases hk
  · rcases Nat.lt_trichotomy k xs.length with q | q | q
    · rw [List.getElem?_append_left q] at hk
      rw [List.getElem?_append_left (by omega)] at hj
      exact h.hrs j k y z hjk hj hk
    · subst q
      simp at hk
      subst hk
      rw [List.getElem?_append_left hjk] at hj
      obtain ⟨u, hu⟩ : ∃ u, xs[xs.length - 1]? = some u := ⟨_, List.getElem?_eq_getElem (by omega)⟩
      have hu4 := h4 u hu
      rcases Nat.lt_or_ge j (xs.length - 1) with g | g
      · have := h.hrs j (xs.length - 1) y u g hj hu; omega
      · obtain rfl : j = xs.length - 1 := by omega
        rw [hu] at hj; cases hj; exact hu4
    · rw [List.getElem?_eq_none (by simp; omega)] at hk; cases hk
theorem RowOk.take {n : Int} {s : Nat} {xs : List Rec} (h : RowOk n s xs) (k : Nat) : RowOk n s (xs.take k) := by
  refine ⟨fun j y hj => ?_, fun i j y z hij hi hj => ?_⟩
  · rw [List.getElem?_take] at hj
    split at hj
    · exact h.at_ j y hj
    · cases hj
  · rw [List.getElem?_take] at hi hj
    split at hj
    · rw [if_pos (by omega)] at hi
      exact h.hrs i j y z hij hi hj
    · cases hj
/-- Where sorting stands: the rows so far, the last record. -/
structure BSt (n : Int) (rows : List (List Rec)) (p : Option Rec) : Prop where
  book : Book n rows
  non : p = none → rows = List.replicate 5 []
  last : ∀ x, p = some x → ∃ xs, rows[x.st.toNat]? = some (xs ++ [x]) ∧ 0 ≤ x.st ∧ ∀ (t : Nat) ys, x.st.toNat < t → rows[t]? = some ys → ys = []
theorem BSt.start (n : Int) : BSt n (List.replicate 5 []) none := by
  refine ⟨⟨by simp, fun s xs h => ?_⟩, fun _ => rfl, fun x h => by cases h⟩
  have := List.mem_of_getElem? h
  rw [List.mem_replicate] at this
  rw [this.2]; exact RowOk.nil n s
theorem twice_iff (p x : Rec) : twice (some p) x = true ↔ (x.st < p.st ∨ (x.st = p.st ∧ x.num ≤ p.num)) := by
  unfold twice or2 cmpI
  rw [decide_eq_true_eq]
  split <;> split <;> (try split) <;> (try split) <;> omega
theorem getD_some {α : Type} {l : List α} {k : Nat} {x d : α} (h : l[k]? = some x) : l.getD k d = x := by rw [List.getD_eq_getElem?_getD, h]; rfl
/-- What follows says behind a book. -/
theorem BSt.follows {n : Int} {rows : List (List Rec)} {p : Option Rec} (h : BSt n rows p) (hn : n ≤ 5) {x : Rec} (hf : formedB n x = true) (ht : twice p x = false) : refusedE n p x = followsE (rows.getD x.st.toNat []) x := by
  have hx := formedB_st hf
  have hlt : x.st.toNat < rows.length := by rw [h.book.len]; omega
  unfold refusedE
  rw [if_neg (by simp [hf])]
  cases p with
  | none =>
    have hr := h.non rfl
    subst hr
    have e : (List.replicate 5 ([] : List Rec)).getD x.st.toNat [] = [] := by
      rw [List.getD_eq_getElem?_getD, List.getElem?_replicate]; split <;> rfl
    rw [e]
    unfold followsE
    simp only [List.length_nil, Int.ofNat_eq_natCast, Nat.lt_irrefl, false_and, if_false]
    by_cases h1 : x.num = 1
    · rw [if_neg (by simpa using h1), if_neg (by omega)]
    · rw [if_pos h1, if_pos (by omega)]
  | some p =>
    obtain ⟨xs, h1, h2, h3⟩ := h.last p rfl
    have ht' : ¬ (x.st < p.st ∨ (x.st = p.st ∧ x.num ≤ p.num)) := fun q => by rw [(twice_iff p x).2 q] at ht; cases ht
    simp only
    rw [if_neg ht']
    have hp := (h.book.row _ _ h1).at_ xs.length p (by simp)
    by_cases hs : p.st = x.st
    · rw [if_neg (by simpa using hs)]
      rw [hs] at h1
      rw [getD_some h1]
      unfold followsE
      simp only [List.length_append, List.length_singleton, List.getLast?_append, List.getLast?_singleton, Option.some_or, Option.getD_some]
      have e1 : ((xs.length + 1 : Nat) : Int) + 1 = p.num + 1 := by rw [hp.2.1]; omega
      rw [e1]
      by_cases h4 : x.num = p.num + 1
      · have h4' : ¬ x.num ≠ p.num + 1 := fun q => q h4
        rw [if_neg h4', if_neg h4']
        by_cases h5 : x.hr < p.hr
        · rw [if_pos h5, if_pos ⟨by omega, h5⟩]
        · rw [if_neg h5, if_neg (fun q => h5 q.2)]
      · rw [if_pos h4, if_pos h4]
    · rw [if_pos hs]
      obtain ⟨ys, hys⟩ : ∃ ys, rows[x.st.toNat]? = some ys := ⟨_, List.getElem?_eq_getElem hlt⟩
      have he := h3 x.st.toNat ys (by omega) hys
      subst he
      rw [getD_some hys]
      unfold followsE
      simp only [List.length_nil, Nat.lt_irrefl, false_and, if_false]
      by_cases h1 : x.num = 1
      · rw [if_neg (by simpa using h1), if_neg (by omega)]
      · rw [if_pos h1, if_pos (by omega)]
theorem addRow_same {rows : List (List Rec)} {x : Rec} {xs : List Rec} (h : rows[x.st.toNat]? = some xs) : (addRow rows x)[x.st.toNat]? = some (xs ++ [x]) := by
  unfold addRow
  rw [getD_some h, List.getElem?_set_self (List.getElem?_eq_some_iff.1 h).1]
theorem addRow_other {rows : List (List Rec)} {x : Rec} {t : Nat} (h : t ≠ x.st.toNat) : (addRow rows x)[t]? = rows[t]? := by
  unfold addRow
  rw [List.getElem?_set_ne (Ne.symm h)]
theorem Book.add {n : Int} {rows : List (List Rec)} (h : Book n rows) {x : Rec} (hn : n ≤ 5) (hf : formedB n x = true) (he : followsE (rows.getD x.st.toNat []) x = 0) : Book n (addRow rows x) := by
  have hx := formedB_st hf
  have hlt : x.st.toNat < rows.length := by rw [h.len]; omega
  obtain ⟨ys, hys⟩ : ∃ ys, rows[x.st.toNat]? = some ys := ⟨_, List.getElem?_eq_getElem hlt⟩
  rw [getD_some hys] at he
  refine ⟨by simp [addRow, h.len], fun s xs hs => ?_⟩
  by_cases hst : s = x.st.toNat
  · subst hst
    rw [addRow_same hys] at hs
    cases hs
    unfold followsE at he
    split at he
    · cases he
    · rename_i h1
      split at he
      · cases he
      · rename_i h2
        refine (h.row _ _ hys).snoc (by omega) (by omega) hf (fun y hy => ?_)
        have hpos : 0 < ys.length := by have := (List.getElem?_eq_some_iff.1 hy).1; omega
        have : ys.getLast? = some y := by rw [List.getLast?_eq_getElem?]; exact hy
        rw [this] at h2
        simp only [Option.getD_some] at h2
        omega
  · rw [addRow_other hst] at hs
    exact h.row s xs hs
theorem BSt.step {n : Int} {rows : List (List Rec)} {p : Option Rec} (h : BSt n rows p) (hn : n ≤ 5) {x : Rec} (hf : formedB n x = true) (ht : twice p x = false) (he : followsE (rows.getD x.st.toNat []) x = 0) : BSt n (addRow rows x) (some x) := by
  have hx := formedB_st hf
  have hlt : x.st.toNat < rows.length := by rw [h.book.len]; omega
  obtain ⟨ys, hys⟩ : ∃ ys, rows[x.st.toNat]? = some ys := ⟨_, List.getElem?_eq_getElem hlt⟩
  refine ⟨h.book.add hn hf he, (fun e => by cases e), fun y hy => ?_⟩
  cases hy
  refine ⟨ys, addRow_same hys, hx.1, fun t zs hlt' hz => ?_⟩
  rw [addRow_other (by omega)] at hz
  cases p with
  | none =>
    have hr := h.non rfl
    subst hr
    have := List.mem_of_getElem? hz
    rw [List.mem_replicate] at this
    exact this.2
  | some p =>
    obtain ⟨xs, h1, h2, h3⟩ := h.last p rfl
    have ht' : ¬ (x.st < p.st ∨ (x.st = p.st ∧ x.num ≤ p.num)) := fun q => by rw [(twice_iff p x).2 q] at ht; cases ht
    exact h3 t zs (by omega) hz
theorem flatten_append_nils {rows : List (List Rec)} : ∀ {k : Nat}, (∀ (t : Nat) ys, k < t → rows[t]? = some ys → ys = []) → ∀ {xs : List Rec} (x : Rec), rows[k]? = some xs → (rows.set k (xs ++ [x])).flatten = rows.flatten ++ [x] := by
  induction rows with
  | nil => intro k _ xs x h; simp at h
  | cons r rows ih =>
    intro k hk xs x h
    cases k with
    | zero =>
      simp at h
      subst h
      have hz : ∀ ys ∈ rows, ys = [] := fun ys hys => by
        obtain ⟨i, hi⟩ := List.getElem?_of_mem hys
        exact hk (i + 1) ys (by omega) (by simpa using hi)
      have : rows.flatten = [] := by rw [List.flatten_eq_nil_iff]; exact hz
      simp [this]
    | succ k =>
      simp only [List.set_cons_succ, List.flatten_cons]
      rw [ih (fun t ys ht hy => hk (t + 1) ys (by omega) (by simpa using hy)) x (by simpa using h), List.append_assoc]
theorem BSt.flatten {n : Int} {rows : List (List Rec)} {p : Option Rec} (h : BSt n rows p) (hn : n ≤ 5) {x : Rec} (hf : formedB n x = true) (ht : twice p x = false) (he : followsE (rows.getD x.st.toNat []) x = 0) : (addRow rows x).flatten = rows.flatten ++ [x] := by
  have hx := formedB_st hf
  have hlt : x.st.toNat < rows.length := by rw [h.book.len]; omega
  obtain ⟨ys, hys⟩ : ∃ ys, rows[x.st.toNat]? = some ys := ⟨_, List.getElem?_eq_getElem hlt⟩
  have hs := (h.step hn hf ht he).last x rfl
  obtain ⟨_, _, _, h3⟩ := hs
  unfold addRow
  rw [getD_some hys]
  refine flatten_append_nils (fun t zs ht hz => ?_) x hys
  exact h3 t zs ht (by rw [addRow_other (by omega)]; exact hz)
theorem sortGo_check {n : Int} (hn : n ≤ 5) : ∀ (l : List Rec) (rows : List (List Rec)) (p : Option Rec) (i : Nat), BSt n rows p → (sortGo n rows p i l).2 = checkGo n p i l ∧ ((sortGo n rows p i l).2.2 = 0 → Book n (sortGo n rows p i l).1 ∧ (sortGo n rows p i l).1.flatten = rows.flatten ++ l)
  | [], rows, p, i, h => ⟨rfl, fun _ => ⟨h.book, by simp [sortGo]⟩⟩
  | x :: l, rows, p, i, h => by
    unfold sortGo checkGo
    by_cases hf : formedB n x = true
    · rw [if_neg (by simp [hf])]
      by_cases ht : twice p x = true
      · rw [if_pos ht]
        have : refusedE n p x = 6 := by
          cases p with
          | none => simp [twice] at ht
          | some p => unfold refusedE; rw [if_neg (by simp [hf])]; simp only; rw [if_pos ((twice_iff p x).1 ht)]
        rw [this]
        exact ⟨rfl, fun e => by simp at e⟩
      · have ht' : twice p x = false := by simpa using ht
        rw [if_neg ht]
        have he := h.follows hn hf ht'
        rw [he]
        by_cases h0 : followsE (rows.getD x.st.toNat []) x = 0
        · rw [if_neg (fun q => q h0), if_neg (fun q => q h0)]
          have := sortGo_check hn l _ (some x) (i + 1) (h.step hn hf ht' h0)
          refine ⟨this.1, fun e => ⟨(this.2 e).1, ?_⟩⟩
          have h2 := (this.2 e).2
          rw [h.flatten hn hf ht' h0, List.append_assoc] at h2
          exact h2
        · rw [if_pos h0, if_pos h0]
          exact ⟨rfl, fun e => (h0 e).elim⟩
    · have hf' : formedB n x = false := by simpa using hf
      rw [if_pos hf']
      have : refusedE n p x = 1 := by unfold refusedE; rw [if_pos hf']
      rw [this]
      exact ⟨rfl, fun e => by simp at e⟩
/-- What sorted says is what the reference says. -/
theorem check_same (n : Int) (l : List Rec) : (sortedP n l).2 = checkP n l := by
  unfold sortedP checkP
  by_cases hn : inB n 2 5 = true
  · rw [if_pos hn, if_pos hn]
    exact (sortGo_check ((inB_iff _ _ _).1 hn).2 l _ none 0 (BSt.start n)).1
  · rw [if_neg hn, if_neg hn]
theorem sorted_book {n : Int} {l : List Rec} (h : (sortedP n l).2.2 = 0) : (2 ≤ n ∧ n ≤ 5) ∧ Book n (sortedP n l).1 ∧ (sortedP n l).1.flatten = l := by
  unfold sortedP at h ⊢
  by_cases hn : inB n 2 5 = true
  · rw [if_pos hn] at h ⊢
    have := (sortGo_check ((inB_iff _ _ _).1 hn).2 l _ none 0 (BSt.start n)).2 h
    exact ⟨(inB_iff _ _ _).1 hn, this.1, by simpa using this.2⟩
  · rw [if_neg hn] at h
    cases h
/-- The records of a row, one behind the other. -/
theorem sortGo_row {n : Int} (hn : n ≤ 5) (s : Nat) (hs : s < 5) (tl : List Rec) : ∀ (k : Nat) (xs : List Rec), xs.length = k → RowOk n s xs → ∀ (rows : List (List Rec)) (p : Option Rec) (i j : Nat), BSt n rows p → j ≤ xs.length → rows.getD s [] = xs.take j → (∀ (t : Nat) ys, s < t → rows[t]? = some ys → ys = []) → (∀ y, p = some y → y.st.toNat < s ∨ (y.st = (s : Int) ∧ y.num = (j : Int) ∧ 0 < j)) →
    ∃ p', sortGo n rows p i (xs.drop j ++ tl) = sortGo n (rows.set s xs) p' (i + (xs.length - j)) tl ∧ BSt n (rows.set s xs) p' ∧ (∀ y, p' = some y → y.st.toNat < s + 1) := by
  intro k xs hk hR rows p i j hB hj hrow hz hp
  obtain ⟨d, hd⟩ : ∃ d, d = xs.length - j := ⟨_, rfl⟩
  induction d generalizing j rows p i with
  | zero =>
    obtain rfl : j = xs.length := by omega
    have hlt5 : s < rows.length := by rw [hB.book.len]; exact hs
    have hget : rows[s]? = some (xs.take xs.length) := by rw [List.getElem?_eq_getElem hlt5]; rw [List.getD_eq_getElem?_getD, List.getElem?_eq_getElem hlt5] at hrow; simpa using hrow
    rw [List.take_length] at hrow hget
    have hself : rows.set s xs = rows := by
      apply List.ext_getElem?
      intro t
      by_cases h : t = s
      · rw [h, List.getElem?_set_self hlt5, hget]
      · rw [List.getElem?_set_ne (Ne.symm h)]
    refine ⟨p, by rw [hself]; simp, by rw [hself]; exact hB, fun y hy => ?_⟩
    rcases hp y hy with q | q <;> omega
  | succ d ih =>
    have hlt5 : s < rows.length := by rw [hB.book.len]; exact hs
    obtain ⟨x, hx⟩ : ∃ x, xs[j]? = some x := ⟨_, List.getElem?_eq_getElem (by omega)⟩
    have hxo := hR.at_ j x hx
    have hdrop : xs.drop j = x :: xs.drop (j + 1) := by rw [List.drop_eq_getElem_cons (by omega)]; rw [List.getElem?_eq_getElem (by omega)] at hx; rw [Option.some.inj hx]
    have hst : x.st.toNat = s := by omega
    have ht : twice p x = false := by
      cases p with
      | none => rfl
      | some y =>
        have hy0 := (hB.last y rfl)
        obtain ⟨_, _, hy0, _⟩ := hy0
        apply Bool.eq_false_iff.2
        rw [Ne, twice_iff]
        rcases hp y rfl with q | q <;> omega
    have hfo : followsE (rows.getD x.st.toNat []) x = 0 := by
      rw [hst, hrow]
      unfold followsE
      rw [if_neg (by rw [List.length_take]; have := hxo.2.1; simp; omega), if_neg]
      rintro ⟨q1, q2⟩
      rw [List.length_take] at q1
      obtain ⟨y, hy⟩ : ∃ y, xs[j - 1]? = some y := ⟨_, List.getElem?_eq_getElem (by omega)⟩
      have hl : (xs.take j).getLast? = some y := by rw [List.getLast?_eq_getElem?, List.length_take, List.getElem?_take, if_pos (by omega), show min j xs.length - 1 = j - 1 from by omega, hy]
      rw [hl] at q2
      simp only [Option.getD_some] at q2
      have := hR.hrs (j - 1) j y x (by omega) hy hx
      omega
    have hnx := hB.step hn hxo.2.2 ht hfo
    have hadd : addRow rows x = rows.set s (xs.take (j + 1)) := by
      unfold addRow
      rw [hst, hrow, List.take_add_one, hx]; rfl
    obtain ⟨p', e1, e2, e3⟩ := ih (addRow rows x) (some x) (i + 1) (j + 1) hnx (by omega) (by rw [hadd, List.getD_eq_getElem?_getD, List.getElem?_set_self hlt5]; rfl)
      (fun t ys hts hy => by rw [addRow_other (by omega)] at hy; exact hz t ys hts hy) (fun y hy => by cases hy; right; refine ⟨hxo.1, by omega, by omega⟩) (by omega)
    have hss : (addRow rows x).set s xs = rows.set s xs := by rw [hadd, List.set_set]
    rw [hss] at e1 e2
    refine ⟨p', ?_, e2, e3⟩
    rw [hdrop, List.cons_append]
    conv => lhs; unfold sortGo
    rw [if_neg (by simp [hxo.2.2]), if_neg (by simp [ht]), if_neg (fun q => q hfo)]
    show sortGo n (addRow rows x) (some x) (i + 1) (xs.drop (j + 1) ++ tl) = _
    rw [e1, show i + 1 + (xs.length - (j + 1)) = i + (xs.length - j) from by omega]
/-- A book's rows, put one behind the other, are sorted into these rows. -/
theorem book_sorted {n : Int} {rows : List (List Rec)} (hn : 2 ≤ n ∧ n ≤ 5) (h : Book n rows) : sortedP n rows.flatten = (rows, 0, 0) := by
  obtain ⟨r0, r1, r2, r3, r4, rfl⟩ := len5 h.len
  have hn' : inB n 2 5 = true := (inB_iff _ _ _).2 hn
  unfold sortedP
  rw [if_pos hn']
  have R := fun (s : Nat) xs e => h.row s xs e
  obtain ⟨p0, a0, b0, c0⟩ := sortGo_row hn.2 0 (by omega) (r1 ++ (r2 ++ (r3 ++ (r4 ++ [])))) _ r0 rfl (R 0 r0 rfl) _ none 0 0 (BSt.start n) (by omega) rfl (fun t ys _ hy => by have := List.mem_of_getElem? hy; rw [List.mem_replicate] at this; exact this.2) (fun y e => by cases e)
  obtain ⟨p1, a1, b1, c1⟩ := sortGo_row hn.2 1 (by omega) (r2 ++ (r3 ++ (r4 ++ []))) _ r1 rfl (R 1 r1 rfl) _ p0 (0 + (r0.length - 0)) 0 b0 (by omega) rfl (fun t ys ht hy => by
    rcases (by have := (List.getElem?_eq_some_iff.1 hy).1; simp at this; omega : t = 2 ∨ t = 3 ∨ t = 4) with rfl | rfl | rfl <;> simpa [eq_comm] using hy) (fun y e => .inl (by have := c0 y e; omega))
  obtain ⟨p2, a2, b2, c2⟩ := sortGo_row hn.2 2 (by omega) (r3 ++ (r4 ++ [])) _ r2 rfl (R 2 r2 rfl) _ p1 (0 + (r0.length - 0) + (r1.length - 0)) 0 b1 (by omega) rfl (fun t ys ht hy => by
    rcases (by have := (List.getElem?_eq_some_iff.1 hy).1; simp at this; omega : t = 3 ∨ t = 4) with rfl | rfl <;> simpa [eq_comm] using hy) (fun y e => .inl (by have := c1 y e; omega))
  obtain ⟨p3, a3, b3, c3⟩ := sortGo_row hn.2 3 (by omega) (r4 ++ []) _ r3 rfl (R 3 r3 rfl) _ p2 (0 + (r0.length - 0) + (r1.length - 0) + (r2.length - 0)) 0 b2 (by omega) rfl (fun t ys ht hy => by
    obtain rfl : t = 4 := by have := (List.getElem?_eq_some_iff.1 hy).1; simp at this; omega
    simpa [eq_comm] using hy) (fun y e => .inl (by have := c2 y e; omega))
  obtain ⟨p4, a4, b4, c4⟩ := sortGo_row hn.2 4 (by omega) [] _ r4 rfl (R 4 r4 rfl) _ p3 (0 + (r0.length - 0) + (r1.length - 0) + (r2.length - 0) + (r3.length - 0)) 0 b3 (by omega) rfl (fun t ys ht hy => by
    have := (List.getElem?_eq_some_iff.1 hy).1; simp at this; omega) (fun y e => .inl (by have := c3 y e; omega))
  simp only [List.drop_zero] at a0 a1 a2 a3 a4
  show sortGo n _ none 0 (r0 ++ (r1 ++ (r2 ++ (r3 ++ (r4 ++ []))))) = _
  rw [a0, a1, a2, a3, a4]
  rfl
end Go.Proofs.YtgjahnomafpnfaaGreatDoor

/- Merging and cutting books: no program in sight. -/
namespace Go.Proofs.YtgjahnomafpnfaaGreatDoor
open Go.RowKit
/-- One of two rows begins the other. -/
def compat : List Rec → List Rec → Bool
  | x :: xs, y :: ys => recB x y && compat xs ys
  | _, _ => true
def longer (xs ys : List Rec) : List Rec := if xs.length < ys.length then ys else xs
def mergeRows : List (List Rec) → List (List Rec) → List (List Rec)
  | x :: xs, y :: ys => longer x y :: mergeRows xs ys
  | _, _ => []
def compatAll : List (List Rec) → List (List Rec) → Bool
  | x :: xs, y :: ys => compat x y && compatAll xs ys
  | _, _ => true
/-- The error and the book of Merge. -/
def mergeE (n : Int) (a b : List Rec) : Int :=
  if (sortedP n a).2.2 ≠ 0 then (sortedP n a).2.2 else if (sortedP n b).2.2 ≠ 0 then (sortedP n b).2.2 else if compatAll (sortedP n a).1 (sortedP n b).1 then 0 else 8
def mergeL (n : Int) (a b : List Rec) : List Rec := if mergeE n a b = 0 then (mergeRows (sortedP n a).1 (sortedP n b).1).flatten else []
theorem compat_iff : ∀ (xs ys : List Rec), compat xs ys = true ↔ (xs <+: ys ∨ ys <+: xs)
  | [], ys => by simp [compat]
  | x :: xs, [] => by simp [compat]
  | x :: xs, y :: ys => by
    unfold compat
    rw [Bool.and_eq_true, recB_iff, compat_iff xs ys, List.cons_prefix_cons, List.cons_prefix_cons]
    constructor
    · rintro ⟨rfl, h | h⟩
      · exact .inl ⟨rfl, h⟩
      · exact .inr ⟨rfl, h⟩
    · rintro (⟨rfl, h⟩ | ⟨rfl, h⟩)
      · exact ⟨rfl, .inl h⟩
      · exact ⟨rfl, .inr h⟩
theorem compat_self (xs : List Rec) : compat xs xs = true := (compat_iff _ _).2 (.inl (List.prefix_refl _))
theorem compat_symm (xs ys : List Rec) : compat xs ys = compat ys xs := by
  rw [Bool.eq_iff_iff, compat_iff, compat_iff]; exact Or.comm
theorem longer_self (xs : List Rec) : longer xs xs = xs := by simp [longer]
theorem longer_comm {xs ys : List Rec} (h : compat xs ys = true) : longer xs ys = longer ys xs := by
  unfold longer
  rcases (compat_iff _ _).1 h with q | q
  · rcases Nat.lt_trichotomy xs.length ys.length with g | g | g
    · rw [if_pos g, if_neg (by omega)]
    · rw [if_neg (by omega), if_neg (by omega)]; exact q.eq_of_length g
    · have := q.length_le; omega
  · rcases Nat.lt_trichotomy xs.length ys.length with g | g | g
    · have := q.length_le; omega
    · rw [if_neg (by omega), if_neg (by omega)]; exact (q.eq_of_length g.symm).symm
    · rw [if_neg (by omega), if_pos g]
theorem longer_pre {xs ys : List Rec} (h : xs <+: ys) : longer xs ys = ys := by
  unfold longer
  split
  · rfl
  · have := h.length_le; exact h.eq_of_length (by omega)
theorem longer_pre' {xs ys : List Rec} (h : ys <+: xs) : longer xs ys = xs := by
  unfold longer
  split
  · have := h.length_le; omega
  · rfl
/-- Of three rows. -/
theorem compat_three {a b c : List Rec} (h1 : compat a b = true) (h2 : compat b c = true) : compat (longer a b) c = compat a (longer b c) ∧ (compat (longer a b) c = true → longer (longer a b) c = longer a (longer b c)) := by
  rcases (compat_iff _ _).1 h1 with q | q <;> rcases (compat_iff _ _).1 h2 with g | g
  · rw [longer_pre q, longer_pre g, h2, longer_pre (q.trans g)]
    exact ⟨((compat_iff _ _).2 (.inl (q.trans g))).symm, fun _ => rfl⟩
  · rw [longer_pre q, longer_pre' g, h2, h1, longer_pre q]
    exact ⟨rfl, fun _ => rfl⟩
  · rw [longer_pre' q, longer_pre g]
    exact ⟨rfl, fun _ => rfl⟩
  · rw [longer_pre' q, longer_pre' g, h1, longer_pre' q, longer_pre' (g.trans q)]
    exact ⟨(compat_iff _ _).2 (.inr (g.trans q)), fun _ => rfl⟩
theorem mergeRows_len : ∀ (xs ys : List (List Rec)), xs.length = ys.length → (mergeRows xs ys).length = xs.length
  | [], [], _ => rfl
  | x :: xs, y :: ys, h => by simp [mergeRows, mergeRows_len xs ys (by simpa using h)]
theorem mergeRows_get : ∀ (xs ys : List (List Rec)) (s : Nat) (a b : List Rec), xs[s]? = some a → ys[s]? = some b → (mergeRows xs ys)[s]? = some (longer a b)
  | x :: xs, y :: ys, 0, a, b, h, h' => by simp at h h'; subst h h'; rfl
  | x :: xs, y :: ys, s + 1, a, b, h, h' => by simpa [mergeRows] using mergeRows_get xs ys s a b (by simpa using h) (by simpa using h')
  | [], _, s, a, b, h, _ => by simp at h
  | _ :: _, [], s, a, b, _, h' => by simp at h'
theorem mergeRows_self : ∀ (xs : List (List Rec)), mergeRows xs xs = xs
  | [] => rfl
  | x :: xs => by rw [mergeRows, longer_self, mergeRows_self xs]
theorem compatAll_self : ∀ (xs : List (List Rec)), compatAll xs xs = true
  | [] => rfl
  | x :: xs => by rw [compatAll, compat_self, compatAll_self xs]; rfl
theorem compatAll_symm : ∀ (xs ys : List (List Rec)), compatAll xs ys = compatAll ys xs
  | [], [] => rfl
  | [], _ :: _ => rfl
  | _ :: _, [] => rfl
  | x :: xs, y :: ys => by rw [compatAll, compatAll, compat_symm, compatAll_symm xs ys]
theorem mergeRows_comm : ∀ (xs ys : List (List Rec)), compatAll xs ys = true → mergeRows xs ys = mergeRows ys xs
  | [], [], _ => rfl
  | [], _ :: _, _ => rfl
  | _ :: _, [], _ => rfl
  | x :: xs, y :: ys, h => by
    rw [compatAll, Bool.and_eq_true] at h
    rw [mergeRows, mergeRows, longer_comm h.1, mergeRows_comm xs ys h.2]
theorem compatAll_three : ∀ (a b c : List (List Rec)), a.length = b.length → b.length = c.length → compatAll a b = true → compatAll b c = true →
    compatAll (mergeRows a b) c = compatAll a (mergeRows b c) ∧ (compatAll (mergeRows a b) c = true → mergeRows (mergeRows a b) c = mergeRows a (mergeRows b c))
  | [], [], [], _, _, _, _ => ⟨rfl, fun _ => rfl⟩
  | x :: a, y :: b, z :: c, l1, l2, h1, h2 => by
    rw [compatAll, Bool.and_eq_true] at h1 h2
    have := compat_three h1.1 h2.1
    have ih := compatAll_three a b c (by simpa using l1) (by simpa using l2) h1.2 h2.2
    simp only [mergeRows, compatAll]
    rw [this.1, ih.1]
    refine ⟨rfl, fun h => ?_⟩
    rw [Bool.and_eq_true] at h
    rw [this.2 (by rw [this.1]; exact h.1), ih.2 (by rw [ih.1]; exact h.2)]
theorem longer_ok {n : Int} {s : Nat} {a b : List Rec} (ha : RowOk n s a) (hb : RowOk n s b) : RowOk n s (longer a b) := by
  unfold longer; split <;> assumption
theorem Book.merge {n : Int} {a b : List (List Rec)} (ha : Book n a) (hb : Book n b) : Book n (mergeRows a b) := by
  refine ⟨by rw [mergeRows_len _ _ (by rw [ha.len, hb.len]), ha.len], fun s xs h => ?_⟩
  have hs : s < 5 := by have := (List.getElem?_eq_some_iff.1 h).1; rw [mergeRows_len _ _ (by rw [ha.len, hb.len]), ha.len] at this; exact this
  obtain ⟨x, hx⟩ : ∃ x, a[s]? = some x := ⟨_, List.getElem?_eq_getElem (by rw [ha.len]; exact hs)⟩
  obtain ⟨y, hy⟩ : ∃ y, b[s]? = some y := ⟨_, List.getElem?_eq_getElem (by rw [hb.len]; exact hs)⟩
  rw [mergeRows_get _ _ s x y hx hy] at h
  cases h
  exact longer_ok (ha.row s x hx) (hb.row s y hy)
/-! ### Merge of books -/
section
variable {n : Int} {a b c : List Rec}
theorem mergeE_ok (h : mergeE n a b = 0) : (sortedP n a).2.2 = 0 ∧ (sortedP n b).2.2 = 0 ∧ compatAll (sortedP n a).1 (sortedP n b).1 = true := by
  unfold mergeE at h
  split at h
  · exact absurd h ‹_›
  · split at h
    · exact absurd h ‹_›
    · split at h
      · rename_i h1 h2 h3
        exact ⟨by omega, by omega, h3⟩
      · cases h
theorem mergeE_of (h1 : (sortedP n a).2.2 = 0) (h2 : (sortedP n b).2.2 = 0) : mergeE n a b = if compatAll (sortedP n a).1 (sortedP n b).1 then 0 else 8 := by
  unfold mergeE; rw [if_neg (by simp [h1]), if_neg (by simp [h2])]
/-- What is merged is a book. -/
theorem merge_sorted (h : mergeE n a b = 0) : sortedP n (mergeL n a b) = (mergeRows (sortedP n a).1 (sortedP n b).1, 0, 0) := by
  obtain ⟨h1, h2, _⟩ := mergeE_ok h
  obtain ⟨hn, ba, _⟩ := sorted_book h1
  obtain ⟨_, bb, _⟩ := sorted_book h2
  unfold mergeL
  rw [if_pos h]
  exact book_sorted hn (ba.merge bb)
theorem merge_self (h : (sortedP n a).2.2 = 0) : mergeE n a a = 0 ∧ mergeL n a a = a := by
  have e : mergeE n a a = 0 := by rw [mergeE_of h h, compatAll_self]; rfl
  refine ⟨e, ?_⟩
  unfold mergeL
  rw [if_pos e, mergeRows_self]
  exact (sorted_book h).2.2
theorem merge_comm (n : Int) (a b : List Rec) : (mergeE n a b = 0 ↔ mergeE n b a = 0) ∧ mergeL n a b = mergeL n b a := by
  have key : ∀ a b, mergeE n a b = 0 → mergeE n b a = 0 := fun a b h => by
    obtain ⟨h1, h2, h3⟩ := mergeE_ok h
    rw [mergeE_of h2 h1, compatAll_symm, h3]; rfl
  refine ⟨⟨key a b, key b a⟩, ?_⟩
  unfold mergeL
  by_cases h : mergeE n a b = 0
  · rw [if_pos h, if_pos (key a b h), mergeRows_comm _ _ (mergeE_ok h).2.2]
  · rw [if_neg h, if_neg (fun q => h (key b a q))]
theorem merge_three (h1 : mergeE n a b = 0) (h2 : mergeE n b c = 0) : mergeE n (mergeL n a b) c = mergeE n a (mergeL n b c) ∧ mergeL n (mergeL n a b) c = mergeL n a (mergeL n b c) := by
  obtain ⟨a0, b0, ab⟩ := mergeE_ok h1
  obtain ⟨_, c0, bc⟩ := mergeE_ok h2
  have s1 := merge_sorted h1
  have s2 := merge_sorted h2
  have l1 := (sorted_book a0).2.1.len
  have l2 := (sorted_book b0).2.1.len
  have l3 := (sorted_book c0).2.1.len
  have t := compatAll_three _ _ _ (l1.trans l2.symm) (l2.trans l3.symm) ab bc
  have e1 : mergeE n (mergeL n a b) c = if compatAll (mergeRows (sortedP n a).1 (sortedP n b).1) (sortedP n c).1 then 0 else 8 := by
    rw [mergeE_of (by rw [s1]) c0, s1]
  have e2 : mergeE n a (mergeL n b c) = if compatAll (sortedP n a).1 (mergeRows (sortedP n b).1 (sortedP n c).1) then 0 else 8 := by
    rw [mergeE_of a0 (by rw [s2]), s2]
  have e3 : mergeE n (mergeL n a b) c = mergeE n a (mergeL n b c) := by rw [e1, e2, t.1]
  refine ⟨e3, ?_⟩
  have L : ∀ a b, mergeL n a b = if mergeE n a b = 0 then (mergeRows (sortedP n a).1 (sortedP n b).1).flatten else [] := fun _ _ => rfl
  rw [L (mergeL n a b) c, L a (mergeL n b c), ← e3]
  by_cases h : mergeE n (mergeL n a b) c = 0
  · rw [if_pos h, if_pos h]
    show (mergeRows (sortedP n (mergeL n a b)).1 (sortedP n c).1).flatten = (mergeRows (sortedP n a).1 (sortedP n (mergeL n b c)).1).flatten
    rw [s1, s2]
    simp only
    rw [t.2]
    rw [e1] at h
    by_cases q : compatAll (mergeRows (sortedP n a).1 (sortedP n b).1) (sortedP n c).1 = true
    · exact q
    · rw [if_neg q] at h; cases h
  · rw [if_neg h, if_neg h]
end
/-! ### Until -/
def upTo (hour : Int) (xs : List Rec) : List Rec := xs.filter fun x => !laterB hour x
theorem later_not (hour : Int) (x : Rec) : (!laterB hour x) = decide (x.hr ≤ hour) := by
  unfold laterB
  by_cases h : hour < x.hr
  · rw [decide_eq_true h, decide_eq_false (by omega)]; rfl
  · rw [decide_eq_false h, decide_eq_true (by omega)]; rfl
/-- Of hours that do not descend, those up to one are the first ones. -/
theorem upTo_pre (hour : Int) : ∀ (xs : List Rec), (∀ (j k : Nat) y z, j < k → xs[j]? = some y → xs[k]? = some z → y.hr ≤ z.hr) → ∃ k, upTo hour xs = xs.take k
  | [], _ => ⟨0, rfl⟩
  | x :: xs, h => by
    have ih := upTo_pre hour xs (fun j k y z hjk hj hk => h (j + 1) (k + 1) y z (by omega) (by simpa using hj) (by simpa using hk))
    obtain ⟨k, hk⟩ := ih
    by_cases hx : x.hr ≤ hour
    · refine ⟨k + 1, ?_⟩
      unfold upTo at hk ⊢
      rw [List.filter_cons, later_not, if_pos (by simpa using hx), hk]; rfl
    · refine ⟨0, ?_⟩
      unfold upTo
      rw [List.take_zero, List.filter_eq_nil_iff]
      intro y hy
      rw [later_not]
      obtain ⟨i, hi⟩ := List.getElem?_of_mem hy
      cases i with
      | zero => simp at hi; subst hi; simpa using hx
      | succ i =>
        have := h 0 (i + 1) x y (by omega) rfl hi
        simp; omega
theorem Book.upTo {n : Int} {rows : List (List Rec)} (h : Book n rows) (hour : Int) : Book n (rows.map (upTo hour)) ∧ ∀ (s : Nat) xs, rows[s]? = some xs → ∃ k, Go.Proofs.YtgjahnomafpnfaaGreatDoor.upTo hour xs = xs.take k := by
  have key : ∀ (s : Nat) xs, rows[s]? = some xs → ∃ k, Go.Proofs.YtgjahnomafpnfaaGreatDoor.upTo hour xs = xs.take k := fun s xs hs => upTo_pre hour xs (h.row s xs hs).hrs
  refine ⟨⟨by simp [h.len], fun s xs hs => ?_⟩, key⟩
  rw [List.getElem?_map] at hs
  cases hr : rows[s]? with
  | none => rw [hr] at hs; cases hs
  | some ys =>
    rw [hr] at hs
    simp only [Option.map_some, Option.some.injEq] at hs
    obtain ⟨k, hk⟩ := key s ys hr
    rw [← hs, hk]
    exact (h.row s ys hr).take k
theorem filter_flatten (p : Rec → Bool) : ∀ (rows : List (List Rec)), (rows.map (List.filter p)).flatten = rows.flatten.filter p
  | [] => rfl
  | r :: rows => by rw [List.map_cons, List.flatten_cons, List.flatten_cons, List.filter_append, filter_flatten p rows]
theorem until_sorted {n : Int} {a : List Rec} (h : (sortedP n a).2.2 = 0) (hour : Int) : sortedP n (upTo hour a) = ((sortedP n a).1.map (upTo hour), 0, 0) := by
  obtain ⟨hn, ba, fa⟩ := sorted_book h
  have := book_sorted hn (ba.upTo hour).1
  have e : ((sortedP n a).1.map (upTo hour)).flatten = upTo hour a := by
    rw [show (upTo hour : List Rec → List Rec) = List.filter (fun x => !laterB hour x) from rfl, filter_flatten, fa]
  rwa [e] at this
theorem compatAll_pre : ∀ (xs ys : List (List Rec)), xs.length = ys.length → (∀ (s : Nat) x y, xs[s]? = some x → ys[s]? = some y → x <+: y) → compatAll xs ys = true ∧ mergeRows xs ys = ys
  | [], [], _, _ => ⟨rfl, rfl⟩
  | x :: xs, y :: ys, l, h => by
    have h0 := h 0 x y rfl rfl
    have ih := compatAll_pre xs ys (by simpa using l) (fun s a b ha hb => h (s + 1) a b (by simpa using ha) (by simpa using hb))
    rw [compatAll, mergeRows, ih.1, ih.2, longer_pre h0, (compat_iff x y).2 (.inl h0)]
    exact ⟨rfl, rfl⟩
theorem merge_until {n : Int} {a : List Rec} (h : (sortedP n a).2.2 = 0) (hour : Int) : mergeE n (upTo hour a) a = 0 ∧ mergeL n (upTo hour a) a = a := by
  obtain ⟨hn, ba, fa⟩ := sorted_book h
  have s := until_sorted h hour
  have hp := compatAll_pre ((sortedP n a).1.map (upTo hour)) (sortedP n a).1 (by simp) (fun s x y hx hy => by
    rw [List.getElem?_map, hy] at hx
    simp only [Option.map_some, Option.some.injEq] at hx
    obtain ⟨k, hk⟩ := (ba.upTo hour).2 s y hy
    rw [← hx, hk]
    exact List.take_prefix k y)
  have e : mergeE n (upTo hour a) a = 0 := by rw [mergeE_of (by rw [s]) h, s, hp.1]; rfl
  refine ⟨e, ?_⟩
  unfold mergeL
  rw [if_pos e, s]
  simp only
  rw [hp.2, fa]
end Go.Proofs.YtgjahnomafpnfaaGreatDoor

/- Merge: the walk. -/
namespace Go.Proofs.YtgjahnomafpnfaaGreatDoor
open Go.RowKit
theorem compat_false : ∀ {xs ys : List Rec} {k : Nat} {x y : Rec}, xs[k]? = some x → ys[k]? = some y → recB x y = false → compat xs ys = false
  | [], _, _, _, _, h, _, _ => by simp at h
  | _ :: _, [], _, _, _, _, h, _ => by simp at h
  | a :: xs, b :: ys, 0, x, y, h, h', hr => by simp at h h'; subst h h'; unfold compat; rw [hr]; rfl
  | a :: xs, b :: ys, k + 1, x, y, h, h', hr => by
    unfold compat
    rw [compat_false (xs := xs) (ys := ys) (k := k) (by simpa using h) (by simpa using h') hr, Bool.and_false]
theorem compat_true : ∀ {xs ys : List Rec}, (∀ (k : Nat) x y, xs[k]? = some x → ys[k]? = some y → recB x y = true) → compat xs ys = true
  | [], _, _ => rfl
  | _ :: _, [], _ => rfl
  | a :: xs, b :: ys, h => by
    unfold compat
    rw [h 0 a b rfl rfl, compat_true (fun k x y hx hy => h (k + 1) x y (by simpa using hx) (by simpa using hy))]
    rfl
theorem compatAll_false : ∀ {ra rb : List (List Rec)} {k : Nat} {x y : List Rec}, ra[k]? = some x → rb[k]? = some y → compat x y = false → compatAll ra rb = false
  | [], _, _, _, _, h, _, _ => by simp at h
  | _ :: _, [], _, _, _, _, h, _ => by simp at h
  | a :: xs, b :: ys, 0, x, y, h, h', hr => by simp at h h'; subst h h'; unfold compatAll; rw [hr]; rfl
  | a :: xs, b :: ys, k + 1, x, y, h, h', hr => by
    unfold compatAll
    rw [compatAll_false (ra := xs) (rb := ys) (k := k) (by simpa using h) (by simpa using h') hr, Bool.and_false]
theorem compatAll_true : ∀ {ra rb : List (List Rec)}, (∀ (k : Nat) x y, ra[k]? = some x → rb[k]? = some y → compat x y = true) → compatAll ra rb = true
  | [], _, _ => rfl
  | _ :: _, [], _ => rfl
  | a :: xs, b :: ys, h => by
    unfold compatAll
    rw [h 0 a b rfl rfl, compatAll_true (fun k x y hx hy => h (k + 1) x y (by simpa using hx) (by simpa using hy))]
    rfl
/-- Of two lists, at each place below k what mergeRows takes, behind it the first one's. -/
def mixV (ra rb : List (List Rec)) (va vb : List Value) (k j : Nat) : Value := if j < k ∧ (ra.getD j []).length < (rb.getD j []).length then vb.getD j undef else va.getD j undef
/-- Where the loop of Merge stands: the two shelves X and Y. -/
structure MRel (W wr : World) (X : Nat) (va vb : List Value) (ra rb : List (List Rec)) (k : Nat) : Prop where
  kn : k ≤ 5
  fr : FrB (fun j => j = X) W wr
  cx : ∀ j, j < 5 → wr.cell? ⟨X, j, none⟩ = some (mixV ra rb va vb k j)
  fx : ∀ j, j < 5 → wr.frozen? ⟨X, j, none⟩ = false
  ok : ∀ j, j < k → compat (ra.getD j []) (rb.getD j []) = true
/-- The two shelves of Merge. -/
structure MPair (W : World) (X Y : Nat) (va vb : List Value) (ra rb : List (List Rec)) : Prop where
  xlt : X < W.heap.size
  ylt : Y < W.heap.size
  ne : Y ≠ X
  la : ra.length = 5
  lb : rb.length = 5
  sa : ∀ j, j < 5 → ∀ wr, FrB (fun i => i = X) W wr → SlR wr (va.getD j undef) (ra.getD j [])
  sb : ∀ j, j < 5 → ∀ wr, FrB (fun i => i = X) W wr → SlR wr (vb.getD j undef) (rb.getD j [])
  cy : ∀ j, j < 5 → W.cell? ⟨Y, j, none⟩ = some (vb.getD j undef)
section
variable {W wr : World} {X Y : Nat} {va vb : List Value} {ra rb : List (List Rec)} {k : Nat}
theorem FrB.setX (a : World) (X j : Nat) (v : Value) : FrB (fun i => i = X) a (a.setCell ⟨X, j, none⟩ v) := FrB.setCell _ a ⟨X, j, none⟩ v rfl
theorem MRel.ext {w2 : World} (h : MRel W wr X va vb ra rb k) (hX : X < W.heap.size) (hE : Ext wr w2) : MRel W w2 X va vb ra rb k :=
  ⟨h.kn, h.fr.trans (FrB.ext hE (S := fun _ => False)) (fun _ _ e => e.elim), fun j hj => hE.keep (h.cx j hj), fun j hj => (hE.frozen (p := ⟨X, j, none⟩) (Nat.lt_of_lt_of_le hX h.fr.size)).trans (h.fx j hj), h.ok⟩
/-- A round's end: nothing is taken over. -/
theorem MRel.stay (h : MRel W wr X va vb ra rb k) (hk : k < 5) (hc : compat (ra.getD k []) (rb.getD k []) = true) (hl : ¬ (ra.getD k []).length < (rb.getD k []).length) : MRel W wr X va vb ra rb (k + 1) := by
  refine ⟨hk, h.fr, fun j hj => ?_, h.fx, fun j hj => ?_⟩
  · rw [h.cx j hj]
    unfold mixV
    by_cases e : j = k
    · subst e; rw [if_neg (by omega), if_neg (fun q => hl q.2)]
    · by_cases q : j < k ∧ (ra.getD j []).length < (rb.getD j []).length
      · rw [if_pos q, if_pos ⟨by omega, q.2⟩]
      · rw [if_neg q, if_neg (fun p => q ⟨by omega, p.2⟩)]
  · rcases (by omega : j < k ∨ j = k) with q | rfl
    · exact h.ok j q
    · exact hc
/-- A round's end: a row is taken over. -/
theorem MRel.take (h : MRel W wr X va vb ra rb k) (hk : k < 5) (hc : compat (ra.getD k []) (rb.getD k []) = true) (hl : (ra.getD k []).length < (rb.getD k []).length) : MRel W (wr.setCell ⟨X, k, none⟩ (vb.getD k undef)) X va vb ra rb (k + 1) := by
  refine ⟨hk, h.fr.trans (FrB.setX _ _ _ _) (fun _ _ e => e), fun j hj => ?_, fun j hj => by rw [World.frozen?_setCell]; exact h.fx j hj, fun j hj => ?_⟩
  · by_cases e : j = k
    · subst e
      rw [World.cell?_setCell_same _ _ _ (h.cx j hj)]
      unfold mixV
      rw [if_pos ⟨by omega, hl⟩]
    · rw [World.cell?_setCell_other _ _ _ _ (fun q => e (congrArg Addr.off q).symm), h.cx j hj]
      unfold mixV
      by_cases q : j < k ∧ (ra.getD j []).length < (rb.getD j []).length
      · rw [if_pos q, if_pos ⟨by omega, q.2⟩]
      · rw [if_neg q, if_neg (fun p => q ⟨by omega, p.2⟩)]
  · rcases (by omega : j < k ∨ j = k) with q | rfl
    · exact h.ok j q
    · exact hc
theorem Rows5.slR {b1 : Nat} {rsa : List (Option Nat)} (h : Rows5 W b1 rsa va ra) (hn : ∀ r ∈ ra, r.length ≤ 1000000) {j : Nat} (hj : j < 5) : SlR W (va.getD j undef) (ra.getD j []) ∧ ∀ g, (va.getD j undef).ownBlock = some g → g < b1 ∨ some g ∈ rsa := by
  have e1 : rsa[j]? = some (rsa.getD j none) := by rw [List.getD_eq_getElem?_getD, List.getElem?_eq_getElem (by rw [h.ls]; exact hj)]; rfl
  have e2 : va[j]? = some (va.getD j undef) := by rw [List.getD_eq_getElem?_getD, List.getElem?_eq_getElem (by rw [h.lv]; exact hj)]; rfl
  have e3 : ra[j]? = some (ra.getD j []) := by rw [List.getD_eq_getElem?_getD, List.getElem?_eq_getElem (by rw [h.lr]; exact hj)]; rfl
  have hr := h.row j _ _ _ e1 e2 e3
  refine ⟨hr.slR h.le (hn _ (List.mem_of_getElem? e3)), fun g hg => ?_⟩
  rcases hr with ⟨_, q⟩ | ⟨⟨g', q, hlt, _⟩, _⟩
  · right; rw [hg] at q; exact q ▸ List.mem_of_getElem? e1
  · left; rw [q] at hg; cases hg; exact hlt
theorem SlR.frB {w w' : World} {v : Value} {xs : List Rec} (h : SlR w v xs) {S : Nat → Prop} (hF : FrB S w w') (hn : ∀ g, v.ownBlock = some g → ¬ S g) : SlR w' v xs := by
  rcases h with h | ⟨b, off, cap, h1, h2, h3, h4, h5⟩
  · exact .inl h
  · exact .inr ⟨b, off, cap, h1, h2, h3, Nat.lt_of_lt_of_le h4 hF.size, fun j u hu => (hF.cell h4 (hn b (by rw [h1]; rfl))).trans (h5 j u hu)⟩
theorem mixV_sl (h : MRel W wr X va vb ra rb k) (P : MPair W X Y va vb ra rb) {j : Nat} (hj : j < 5) : SlR wr (va.getD j undef) (ra.getD j []) ∧ SlR wr (vb.getD j undef) (rb.getD j []) ∧ wr.cell? ⟨Y, j, none⟩ = some (vb.getD j undef) :=
  ⟨P.sa j hj wr h.fr, P.sb j hj wr h.fr, (h.fr.cell P.ylt P.ne).trans (P.cy j hj)⟩
/-- A shelf's row is read while another block's cells, which hold slices, are written. -/
theorem Rows5.away {w1 : World} {b1 : Nat} {rsa : List (Option Nat)} (h : Rows5 w1 b1 rsa va ra) (hn : ∀ r ∈ ra, r.length ≤ 1000000) (hX : (∀ g, some g ∈ rsa → g ≠ X) ∧ (b1 ≤ X ∨ ∃ a l c, w1.cell? ⟨X, 0, none⟩ = some (.slice a l c))) (hE : Ext w1 W) {j : Nat} (hj : j < 5) : ∀ wr, FrB (fun i => i = X) W wr → SlR wr (va.getD j undef) (ra.getD j []) := by
  intro wr hF
  have e1 : rsa[j]? = some (rsa.getD j none) := by rw [List.getD_eq_getElem?_getD, List.getElem?_eq_getElem (by rw [h.ls]; exact hj)]; rfl
  have e2 : va[j]? = some (va.getD j undef) := by rw [List.getD_eq_getElem?_getD, List.getElem?_eq_getElem (by rw [h.lv]; exact hj)]; rfl
  have e3 : ra[j]? = some (ra.getD j []) := by rw [List.getD_eq_getElem?_getD, List.getElem?_eq_getElem (by rw [h.lr]; exact hj)]; rfl
  have hr := h.row j _ _ _ e1 e2 e3
  have hs := (hr.slR h.le (hn _ (List.mem_of_getElem? e3))).ext hE
  rcases hr with ⟨_, q⟩ | ⟨⟨g, q, hlt, hc⟩, _⟩
  · exact hs.frB hF (fun g hg => hX.1 g (by rw [← hg, ← q]; exact List.mem_of_getElem? e1))
  · by_cases hg : g = X
    · rcases hX.2 with k | ⟨a, l, c, k⟩
      · omega
      · cases hra : ra.getD j [] with
        | nil =>
          rw [hra] at hs
          rcases hs with t | ⟨b, off, cap, t1, t2, t3, t4, t5⟩
          · exact .inl t
          · exact .inr ⟨b, off, cap, t1, t2, t3, Nat.lt_of_lt_of_le t4 hF.size, fun j u hu => by simp [flat] at hu⟩
        | cons y ys =>
          have := hc 0 (.int .i64 y.st) (by rw [hra]; rfl)
          rw [hg, k] at this
          cases this
    · exact hs.frB hF (fun g' hg' => by rw [q] at hg'; cases hg'; exact hg)
/-- The shelf that Merge leaves. -/
theorem MRel.done (h : MRel W wr X va vb ra rb 5) (P : MPair W X Y va vb ra rb) {j : Nat} (hj : j < 5) : SlR wr (mixV ra rb va vb 5 j) (longer (ra.getD j []) (rb.getD j [])) := by
  obtain ⟨h1, h2, _⟩ := mixV_sl h P hj
  unfold mixV longer
  by_cases hl : (ra.getD j []).length < (rb.getD j []).length
  · rw [if_pos ⟨hj, hl⟩, if_pos hl]; exact h2
  · rw [if_neg (fun q => hl q.2), if_neg hl]; exact h1
end
set_option maxHeartbeats 400000 in
set_option maxRecDepth 100000 in
theorem all_sl (B o : Nat) (v0 v1 v2 v3 v4 : Value) (r0 r1 r2 r3 r4 : List Rec) (w : World) (hB : B < w.heap.size) (g0 : SlR w v0 r0) (g1 : SlR w v1 r1) (g2 : SlR w v2 r2) (g3 : SlR w v3 r3) (g4 : SlR w v4 r4)
    (hc : ∀ (k : Nat) v, [v0, v1, v2, v3, v4][k]? = some v → w.cell? ⟨B, o + k, none⟩ = some v) (hn : r0.length + (r1.length + (r2.length + (r3.length + r4.length))) ≤ 1000000) :
    Calls Tryz.prog 72 #[.pointer (some ⟨B, o, none⟩)] w fun e w' => ∃ v, e = .returned v ∧ OwnR w' w.heap.size v [r0, r1, r2, r3, r4].flatten ∧ Below w.heap.size w w' := by
  have hcc := Lib.hid (Concat_five B o v0 v1 v2 v3 v4 r0 r1 r2 r3 r4 w hB g0 g1 g2 g3 g4 hc (by omega))
  clear g0 g1 g2 g3 g4 hc
  go_enter Tryz.func72, Tryz.ntmps72
  go_wp2_with fail
  refine hcc.out.mono ?_
  rintro e w1 ⟨v, rfl, hO, hb⟩
  obtain ⟨a, m, c, rfl⟩ := OwnR.shape3 hO
  go_wp2
  go_ret
  exact ⟨_, rfl, hO, hb⟩
end Go.Proofs.YtgjahnomafpnfaaGreatDoor

/- Few and Same of the reference. -/
namespace Go.Proofs.YtgjahnomafpnfaaGreatDoor
open Go.RowKit
/-- Are records few, with short texts? -/
def fewB (xs : List Rec) (most : Nat) : Bool := decide (xs.length ≤ most) && xs.all fun x => decide (x.txt.size ≤ 300)
theorem fewB_iff (xs : List Rec) (most : Nat) : fewB xs most = true ↔ xs.length ≤ most ∧ ∀ x ∈ xs, x.txt.size ≤ 300 := by simp [fewB]
set_option maxHeartbeats 400000 in
set_option maxRecDepth 100000 in
theorem Few_any (v : Value) (xs : List Rec) (most : Nat) (hm : most ≤ 1000) (w : World) (hv : SlR w v xs) :
    Calls Tryz.prog 24 #[v, .int .i64 most] w fun e w' => e = .returned (.bool (fewB xs most)) ∧ w' = w := by
  obtain ⟨ao, cap, rfl, hc⟩ := hv.open
  have HC := Lib.hid hc
  clear hc hv
  by_cases hl : xs.length ≤ most
  · have hl' : ¬ ((most : Int) < xs.length) := by omega
    go_enter Tryz.func24, Tryz.ntmps24
    go_wp2
    go_loop [5] (fun i => ∃ k : Nat, k ≤ xs.length ∧ i = .int .i64 k ∧ ∀ (j : Nat) x, j < k → xs[j]? = some x → x.txt.size ≤ 300) (fun i => xs.length - (intOf i).toNat)
    case atStart => exact ⟨0, by omega, rfl, fun j x h => by omega⟩
    case round =>
      obtain ⟨k, hk, rfl, hj⟩ := hrel
      have HJ := Lib.hid hj
      clear hj
      by_cases hlt : k < xs.length
      · obtain ⟨x, hx⟩ : ∃ x, xs[k]? = some x := ⟨_, List.getElem?_eq_getElem hlt⟩
        obtain ⟨b, off, rfl, hb, x0, x1, x2, x3⟩ := HC.out k x hx
        have hlt' : (k : Int) < xs.length := by omega
        have HX := Lib.hid hx
        clear hx x0 x1 x2
        by_cases hs : 300 < x.txt.size
        · have hs' : (300 : Int) < x.txt.size := by omega
          go_wp2
          go_ret
          refine ⟨ret_bool ?_, rfl⟩
          symm
          rw [Bool.eq_false_iff, Ne, fewB_iff]
          intro q
          have := q.2 x (List.mem_of_getElem? HX.out)
          omega
        · have hs' : ¬ ((300 : Int) < x.txt.size) := by omega
          go_wp2
          go_round
          case rel =>
            refine ⟨k + 1, by omega, by go_num, fun j y hj hy => ?_⟩
            rcases (by omega : j < k ∨ j = k) with q | rfl
            · exact HJ.out j y q hy
            · rw [HX.out] at hy; cases hy; omega
          case measure => simp [intOf]; omega
      · have hlt' : ¬ ((k : Int) < xs.length) := by omega
        go_wp2
        go_ret
        refine ⟨ret_bool ?_, rfl⟩
        symm
        rw [fewB_iff]
        refine ⟨hl, fun x hx => ?_⟩
        obtain ⟨j, hj⟩ := List.getElem?_of_mem hx
        exact HJ.out j x (by have := (List.getElem?_eq_some_iff.1 hj).1; omega) hj
  · have hl' : (most : Int) < xs.length := by omega
    have he : fewB xs most = false := by
      rw [Bool.eq_false_iff, Ne, fewB_iff]
      exact fun q => hl q.1
    rw [he]
    go_enter Tryz.func24, Tryz.ntmps24
    go_wp2
    go_ret
    exact ⟨rfl, rfl⟩
/-- Are two books equal? -/
def sameB (xs ys : List Rec) : Bool := decide (xs.length = ys.length) && compat xs ys
theorem sameB_iff (xs ys : List Rec) : sameB xs ys = true ↔ xs = ys := by
  unfold sameB
  rw [Bool.and_eq_true, decide_eq_true_eq, compat_iff]
  constructor
  · rintro ⟨h, q | q⟩
    · exact q.eq_of_length h
    · exact (q.eq_of_length h.symm).symm
  · rintro rfl
    exact ⟨rfl, .inl (List.prefix_refl _)⟩
theorem neq49r (x y : Rec) (w : World) : (binOp .neq 49 (.agg #[.int .i64 x.st, .int .i64 x.num, .int .i64 x.hr, .string x.txt]) (.agg #[.int .i64 y.st, .int .i64 y.num, .int .i64 y.hr, .string y.txt])).run Tryz.prog w = .ok (.bool (!recB x y)) w := neq49 _ _ _ _ _ _ _ _ w
set_option maxHeartbeats 800000 in
set_option maxRecDepth 100000 in
theorem Same_any (v u : Value) (xs ys : List Rec) (w : World) (hv : SlR w v xs) (hu : SlR w u ys) (hx1 : xs.length ≤ 1000000) (hy1 : ys.length ≤ 1000000) :
    Calls Tryz.prog 23 #[v, u] w fun e w' => e = .returned (.bool (sameB xs ys)) ∧ Ext w w' := by
  obtain ⟨ao, cap, rfl, hc⟩ := hv.open
  obtain ⟨bo, cap2, rfl, hd⟩ := hu.open
  have HC := Lib.hid hc
  have HD := Lib.hid hd
  clear hc hd hv hu
  by_cases hl : xs.length = ys.length
  · have hl' : ((xs.length : Int) != (ys.length : Int)) = false := by simp [hl]
    go_enter Tryz.func23, Tryz.ntmps23
    go_wp2
    go_loopw [5] (fun i wr => ∃ k : Nat, k ≤ xs.length ∧ i = .int .i64 k ∧ Ext w wr ∧ ∀ (j : Nat) x y, j < k → xs[j]? = some x → ys[j]? = some y → recB x y = true) (fun i _ => xs.length - (intOf i).toNat)
    case atStart => exact ⟨0, by omega, rfl, Ext.refl _, fun j x y h => by omega⟩
    case round =>
      obtain ⟨k, hk, rfl, hE, hj⟩ := hrel
      have HJ := Lib.hid hj
      have HE := Lib.hid hE
      clear hj
      by_cases hlt : k < xs.length
      · obtain ⟨x, hx⟩ : ∃ x, xs[k]? = some x := ⟨_, List.getElem?_eq_getElem hlt⟩
        obtain ⟨y, hy⟩ : ∃ y, ys[k]? = some y := ⟨_, List.getElem?_eq_getElem (by omega)⟩
        obtain ⟨b, off, rfl, hb, x0, x1, x2, x3⟩ := HC.out k x hx
        obtain ⟨b2, off2, rfl, hb2, y0, y1, y2, y3⟩ := HD.out k y hy
        replace x0 := hE.keep x0
        replace x1 := hE.keep x1
        replace x2 := hE.keep x2
        replace x3 := hE.keep x3
        replace y0 := hE.keep y0
        replace y1 := hE.keep y1
        replace y2 := hE.keep y2
        replace y3 := hE.keep y3
        have hlt' : (k : Int) < xs.length := by omega
        have hlt2 : (k : Int) < ys.length := by omega
        have hq := neq49r x y
        have HX := Lib.hid (And.intro hx hy)
        clear hx hy hE
        go_wp2_with fail
        go_quiet (fail)
        cases hr : recB x y with
        | true =>
          have hr2 : (!recB x y) = false := by rw [hr]; rfl
          go_wp2
          go_roundw
          case rel =>
            refine ⟨k + 1, by omega, by go_num, HE.out.trans (_root_.Go.below_drewN (Below.refl _ _) _), fun j a c hj ha hc => ?_⟩
            rcases (by omega : j < k ∨ j = k) with q | rfl
            · exact HJ.out j a c q ha hc
            · rw [HX.out.1] at ha; rw [HX.out.2] at hc; cases ha; cases hc; exact hr
          case measure => simp [intOf]; omega
        | false =>
          have hr2 : (!recB x y) = true := by rw [hr]; rfl
          go_wp2
          go_ret
          refine ⟨ret_bool ?_, HE.out.trans (_root_.Go.below_drewN (Below.refl _ _) _)⟩
          unfold sameB
          rw [compat_false HX.out.1 HX.out.2 hr, Bool.and_false]
      · have hlt' : ¬ ((k : Int) < xs.length) := by omega
        go_wp2
        go_ret
        refine ⟨ret_bool ?_, HE.out⟩
        unfold sameB
        rw [compat_true (fun j a c ha hc => HJ.out j a c (by have := (List.getElem?_eq_some_iff.1 ha).1; omega) ha hc), decide_eq_true hl]
        rfl
  · have hl' : ((xs.length : Int) != (ys.length : Int)) = true := by simp; omega
    go_enter Tryz.func23, Tryz.ntmps23
    go_wp2
    go_ret
    refine ⟨ret_bool ?_, Ext.refl _⟩
    unfold sameB
    rw [decide_eq_false hl]
    rfl
end Go.Proofs.YtgjahnomafpnfaaGreatDoor

/- The reference's many, formed, CheckRecord. -/
namespace Go.Proofs.YtgjahnomafpnfaaGreatDoor
open Go.RowKit
set_option maxHeartbeats 400000 in
set_option maxRecDepth 100000 in
theorem manyR_any (n : Int) (w : World) : Calls Tryz.prog 107 #[.int .i64 n] w fun e w' => e = .returned (.bool (inB n 2 5)) ∧ w' = w := by
  by_cases h1 : 2 ≤ n
  · by_cases h2 : n ≤ 5
    · rw [(inB_iff n 2 5).2 ⟨h1, h2⟩]
      go_enter Tryz.func107, Tryz.ntmps107
      go_wp2
      go_ret
      exact ⟨rfl, rfl⟩
    · rw [show inB n 2 5 = false from by unfold inB; simp; omega]
      go_enter Tryz.func107, Tryz.ntmps107
      go_wp2
      go_ret
      exact ⟨rfl, rfl⟩
  · rw [show inB n 2 5 = false from by unfold inB; simp; omega]
    go_enter Tryz.func107, Tryz.ntmps107
    go_wp2
    go_ret
    exact ⟨rfl, rfl⟩
def headB (n : Int) (x : Rec) : Bool := inB x.st 0 (n - 1) && inB x.num 1 400 && inB x.hr 0 1000000 && inB (x.txt.size : Int) 1 200
theorem headB_iff (n : Int) (x : Rec) : headB n x = true ↔ (0 ≤ x.st ∧ x.st < n) ∧ (1 ≤ x.num ∧ x.num ≤ 400) ∧ (0 ≤ x.hr ∧ x.hr ≤ 1000000) ∧ (0 < x.txt.size ∧ x.txt.size ≤ 200) := by
  simp only [headB, Bool.and_eq_true, inB_iff]
  omega
theorem formedB_head (n : Int) (x : Rec) : formedB n x = (headB n x && x.txt.data.toList.all okByte) := by
  unfold formedB headB writtenB
  simp only [Bool.and_assoc]
theorem formedB_no {n : Int} {x : Rec} (h : headB n x = false) : formedB n x = false := by rw [formedB_head, h]; rfl
theorem formedB_yes {n : Int} {x : Rec} (h : headB n x = true) : formedB n x = x.txt.data.toList.all okByte := by rw [formedB_head, h]; rfl
set_option maxHeartbeats 1600000 in
set_option maxRecDepth 100000 in
theorem formedR_any (n : Int) (x : Rec) (w : World) (ht : x.txt.size ≤ 1000000) : Calls Tryz.prog 120 #[.int .i64 n, rv x] w fun e w' => e = .returned (.bool (formedB n x)) ∧ Ext w w' := by
  obtain ⟨st, num, hr, txt⟩ := x
  have HE := Lib.hid (Ext.alloc w (.cells #[.int .i64 st, .int .i64 num, .int .i64 hr, .string txt] 49))
  simp only at ht
  cases hh : headB n ⟨st, num, hr, txt⟩
  · rw [formedB_no hh]
    have hc : st < 0 ∨ n ≤ st ∨ num < 1 ∨ 400 < num ∨ hr < 0 ∨ 1000000 < hr ∨ (txt.size : Int) ≤ 0 ∨ 200 < (txt.size : Int) := by
      have := headB_iff n ⟨st, num, hr, txt⟩
      simp only [hh, Bool.false_eq_true, false_iff] at this
      omega
    clear hh
    by_cases h1 : st < 0
    · clear hc
      go_enter Tryz.func120, Tryz.ntmps120
      go_wp2
      go_loopw [5, 6] (fun vo vi wr => ∃ k : Nat, k ≤ txt.size ∧ vi = .int .i64 k ∧ vo = .bool false ∧ w.alloc (.cells #[.int .i64 st, .int .i64 num, .int .i64 hr, .string txt] 49) = wr) (fun _ vi _ => txt.size - (intOf vi).toNat)
      case atStart => exact ⟨0, by omega, rfl, by first | rfl | (rw [decide_eq_false (by omega)]), rfl⟩
      case round =>
        obtain ⟨k, hk, rfl, rfl, rfl⟩ := hrel
        by_cases hlt : k < txt.size
        · have hlt' : (k : Int) < txt.size := by omega
          first
            | (exfalso; omega)
            | (go_wp2
               go_roundw
               case rel => exact ⟨k + 1, by omega, by go_num, rfl, trivial⟩
               case measure => simp [intOf]; omega)
        · obtain rfl : k = txt.size := by omega
          go_wp2
          go_ret
          exact ⟨rfl, HE.out⟩
    by_cases h2 : n ≤ st
    · clear hc
      go_enter Tryz.func120, Tryz.ntmps120
      go_wp2
      go_loopw [5, 6] (fun vo vi wr => ∃ k : Nat, k ≤ txt.size ∧ vi = .int .i64 k ∧ vo = .bool false ∧ w.alloc (.cells #[.int .i64 st, .int .i64 num, .int .i64 hr, .string txt] 49) = wr) (fun _ vi _ => txt.size - (intOf vi).toNat)
      case atStart => exact ⟨0, by omega, rfl, by first | rfl | (rw [decide_eq_false (by omega)]), rfl⟩
      case round =>
        obtain ⟨k, hk, rfl, rfl, rfl⟩ := hrel
        by_cases hlt : k < txt.size
        · have hlt' : (k : Int) < txt.size := by omega
          first
            | (exfalso; omega)
            | (go_wp2
               go_roundw
               case rel => exact ⟨k + 1, by omega, by go_num, rfl, trivial⟩
               case measure => simp [intOf]; omega)
        · obtain rfl : k = txt.size := by omega
          go_wp2
          go_ret
          exact ⟨rfl, HE.out⟩
    by_cases h3 : num < 1
    · clear hc
      go_enter Tryz.func120, Tryz.ntmps120
      go_wp2
      go_loopw [5, 6] (fun vo vi wr => ∃ k : Nat, k ≤ txt.size ∧ vi = .int .i64 k ∧ vo = .bool false ∧ w.alloc (.cells #[.int .i64 st, .int .i64 num, .int .i64 hr, .string txt] 49) = wr) (fun _ vi _ => txt.size - (intOf vi).toNat)
      case atStart => exact ⟨0, by omega, rfl, by first | rfl | (rw [decide_eq_false (by omega)]), rfl⟩
      case round =>
        obtain ⟨k, hk, rfl, rfl, rfl⟩ := hrel
        by_cases hlt : k < txt.size
        · have hlt' : (k : Int) < txt.size := by omega
          first
            | (exfalso; omega)
            | (go_wp2
               go_roundw
               case rel => exact ⟨k + 1, by omega, by go_num, rfl, trivial⟩
               case measure => simp [intOf]; omega)
        · obtain rfl : k = txt.size := by omega
          go_wp2
          go_ret
          exact ⟨rfl, HE.out⟩
    by_cases h4 : 400 < num
    · clear hc
      go_enter Tryz.func120, Tryz.ntmps120
      go_wp2
      go_loopw [5, 6] (fun vo vi wr => ∃ k : Nat, k ≤ txt.size ∧ vi = .int .i64 k ∧ vo = .bool false ∧ w.alloc (.cells #[.int .i64 st, .int .i64 num, .int .i64 hr, .string txt] 49) = wr) (fun _ vi _ => txt.size - (intOf vi).toNat)
      case atStart => exact ⟨0, by omega, rfl, by first | rfl | (rw [decide_eq_false (by omega)]), rfl⟩
      case round =>
        obtain ⟨k, hk, rfl, rfl, rfl⟩ := hrel
        by_cases hlt : k < txt.size
        · have hlt' : (k : Int) < txt.size := by omega
          first
            | (exfalso; omega)
            | (go_wp2
               go_roundw
               case rel => exact ⟨k + 1, by omega, by go_num, rfl, trivial⟩
               case measure => simp [intOf]; omega)
        · obtain rfl : k = txt.size := by omega
          go_wp2
          go_ret
          exact ⟨rfl, HE.out⟩
    by_cases h5 : hr < 0
    · clear hc
      go_enter Tryz.func120, Tryz.ntmps120
      go_wp2
      go_loopw [5, 6] (fun vo vi wr => ∃ k : Nat, k ≤ txt.size ∧ vi = .int .i64 k ∧ vo = .bool false ∧ w.alloc (.cells #[.int .i64 st, .int .i64 num, .int .i64 hr, .string txt] 49) = wr) (fun _ vi _ => txt.size - (intOf vi).toNat)
      case atStart => exact ⟨0, by omega, rfl, by first | rfl | (rw [decide_eq_false (by omega)]), rfl⟩
      case round =>
        obtain ⟨k, hk, rfl, rfl, rfl⟩ := hrel
        by_cases hlt : k < txt.size
        · have hlt' : (k : Int) < txt.size := by omega
          first
            | (exfalso; omega)
            | (go_wp2
               go_roundw
               case rel => exact ⟨k + 1, by omega, by go_num, rfl, trivial⟩
               case measure => simp [intOf]; omega)
        · obtain rfl : k = txt.size := by omega
          go_wp2
          go_ret
          exact ⟨rfl, HE.out⟩
    by_cases h6 : 1000000 < hr
    · clear hc
      go_enter Tryz.func120, Tryz.ntmps120
      go_wp2
      go_loopw [5, 6] (fun vo vi wr => ∃ k : Nat, k ≤ txt.size ∧ vi = .int .i64 k ∧ vo = .bool false ∧ w.alloc (.cells #[.int .i64 st, .int .i64 num, .int .i64 hr, .string txt] 49) = wr) (fun _ vi _ => txt.size - (intOf vi).toNat)
      case atStart => exact ⟨0, by omega, rfl, by first | rfl | (rw [decide_eq_false (by omega)]), rfl⟩
      case round =>
        obtain ⟨k, hk, rfl, rfl, rfl⟩ := hrel
        by_cases hlt : k < txt.size
        · have hlt' : (k : Int) < txt.size := by omega
          first
            | (exfalso; omega)
            | (go_wp2
               go_roundw
               case rel => exact ⟨k + 1, by omega, by go_num, rfl, trivial⟩
               case measure => simp [intOf]; omega)
        · obtain rfl : k = txt.size := by omega
          go_wp2
          go_ret
          exact ⟨rfl, HE.out⟩
    by_cases h7 : (txt.size : Int) ≤ 0
    · clear hc
      go_enter Tryz.func120, Tryz.ntmps120
      go_wp2
      go_loopw [5, 6] (fun vo vi wr => ∃ k : Nat, k ≤ txt.size ∧ vi = .int .i64 k ∧ vo = .bool false ∧ w.alloc (.cells #[.int .i64 st, .int .i64 num, .int .i64 hr, .string txt] 49) = wr) (fun _ vi _ => txt.size - (intOf vi).toNat)
      case atStart => exact ⟨0, by omega, rfl, by first | rfl | (rw [decide_eq_false (by omega)]), rfl⟩
      case round =>
        obtain ⟨k, hk, rfl, rfl, rfl⟩ := hrel
        by_cases hlt : k < txt.size
        · have hlt' : (k : Int) < txt.size := by omega
          first
            | (exfalso; omega)
            | (go_wp2
               go_roundw
               case rel => exact ⟨k + 1, by omega, by go_num, rfl, trivial⟩
               case measure => simp [intOf]; omega)
        · obtain rfl : k = txt.size := by omega
          go_wp2
          go_ret
          exact ⟨rfl, HE.out⟩
    have h8 : 200 < (txt.size : Int) := by omega
    clear hc
    go_enter Tryz.func120, Tryz.ntmps120
    go_wp2
    go_loopw [5, 6] (fun vo vi wr => ∃ k : Nat, k ≤ txt.size ∧ vi = .int .i64 k ∧ vo = .bool false ∧ w.alloc (.cells #[.int .i64 st, .int .i64 num, .int .i64 hr, .string txt] 49) = wr) (fun _ vi _ => txt.size - (intOf vi).toNat)
    case atStart => exact ⟨0, by omega, rfl, by first | rfl | (rw [decide_eq_false (by omega)]), rfl⟩
    case round =>
      obtain ⟨k, hk, rfl, rfl, rfl⟩ := hrel
      by_cases hlt : k < txt.size
      · have hlt' : (k : Int) < txt.size := by omega
        first
          | (exfalso; omega)
          | (go_wp2
             go_roundw
             case rel => exact ⟨k + 1, by omega, by go_num, rfl, trivial⟩
             case measure => simp [intOf]; omega)
      · obtain rfl : k = txt.size := by omega
        go_wp2
        go_ret
        exact ⟨rfl, HE.out⟩
  · rw [formedB_yes hh]
    have hc := (headB_iff n ⟨st, num, hr, txt⟩).1 hh
    simp only at hc
    obtain ⟨⟨c1, c2⟩, ⟨c3, c4⟩, ⟨c5, c6⟩, ⟨c7, c8⟩⟩ := hc
    have c7' : (0 : Int) < txt.size := by omega
    have c8' : (txt.size : Int) ≤ 200 := by omega
    clear hh
    go_enter Tryz.func120, Tryz.ntmps120
    go_wp2
    go_loopw [5, 6] (fun vo vi wr => ∃ k : Nat, k ≤ txt.size ∧ vi = .int .i64 k ∧ vo = .bool ((txt.data.toList.take k).all okByte) ∧ w.alloc (.cells #[.int .i64 st, .int .i64 num, .int .i64 hr, .string txt] 49) = wr) (fun _ vi _ => txt.size - (intOf vi).toNat)
    case atStart => exact ⟨0, by omega, rfl, rfl, rfl⟩
    case round =>
      obtain ⟨k, hk, rfl, rfl, rfl⟩ := hrel
      by_cases hlt : k < txt.size
      · have hlt' : (k : Int) < txt.size := by omega
        have hc : txt.data.toList[k]? = some (txt[k]'hlt) := by rw [Array.getElem?_toList]; exact Array.getElem?_eq_getElem hlt
        have hstep : (txt.data.toList.take (k + 1)).all okByte = ((txt.data.toList.take k).all okByte && okByte (txt[k]'hlt)) := by rw [List.take_add_one, hc]; simp
        clear hc
        cases hb : (txt.data.toList.take k).all okByte
        · rw [hb] at hstep
          go_wp2
          go_roundw
          case rel => exact ⟨k + 1, by omega, by go_num, by rw [hstep]; rfl, trivial⟩
          case measure => simp [intOf]; omega
        · rw [hb] at hstep
          go_wp2
          all_goals
            go_roundw
            case rel =>
              refine ⟨k + 1, by omega, by go_num, congrArg Value.bool ?_, trivial⟩
              rw [hstep, Bool.true_and, Bool.eq_iff_iff]
              unfold okByte inB
              simp only [Bool.and_eq_true, decide_eq_true_eq, Bool.false_eq_true]
              first
                | omega
                | (constructor
                   · intro h; cases h
                   · intro h; exfalso; omega)
            case measure => simp [intOf]; omega
      · obtain rfl : k = txt.size := by omega
        rw [show txt.data.toList.take txt.size = txt.data.toList from List.take_of_length_le (by rw [Array.length_toList]; exact Nat.le_refl _)]
        go_wp2
        go_ret
        exact ⟨rfl, HE.out⟩
set_option maxHeartbeats 800000 in
set_option maxRecDepth 100000 in
theorem CheckRecordR_any (n : Int) (x : Rec) (w : World) (ht : x.txt.size ≤ 1000000) : Calls Tryz.prog 64 #[.int .i64 n, rv x] w fun e w' => e = .returned (.int .i64 (checkE n x)) ∧ Ext w w' := by
  have HF := Lib.hid (fun w => formedR_any n x w ht)
  have hE1 : Ext w (w.alloc (.cells #[.int .i64 x.st, .int .i64 x.num, .int .i64 x.hr, .string x.txt] 49)) := Ext.alloc _ _
  have HE1 := Lib.hid hE1
  clear hE1
  unfold checkE
  cases h1 : inB n 2 5 <;> cases h2 : formedB n x <;>
    (have H1 := Lib.hid h1
     have H2 := Lib.hid h2
     clear h1 h2
     go_enter Tryz.func64, Tryz.ntmps64
     go_wp2_with (first | (go_at_call 107; refine (manyR_any _ _).mono ?_; rw [H1.out]; rintro e w' ⟨rfl, rfl⟩) | (go_at_call 120; refine (HF.out _).mono ?_; rw [H2.out]; rintro e w' ⟨rfl, hE2⟩))
     go_ret
     exact ⟨rfl, HE1.out.trans hE2⟩)
end Go.Proofs.YtgjahnomafpnfaaGreatDoor

/- The reference's refused. -/
namespace Go.Proofs.YtgjahnomafpnfaaGreatDoor
open Go.RowKit
set_option maxHeartbeats 1600000 in
set_option maxRecDepth 100000 in
theorem refusedR_none (n : Int) (a : Option Addr) (c : Nat) (x : Rec) (w : World) (ht : x.txt.size ≤ 1000000) (hf : formedB n x = true) :
    Calls Tryz.prog 108 #[.int .i64 n, .slice a 0 c, rv x] w fun e w' => e = .returned (.int .i64 (if x.num ≠ 1 then 83 else 0)) ∧ Ext w w' := by
  have hE1 := Ext.alloc w (.cells #[.int .i64 x.st, .int .i64 x.num, .int .i64 x.hr, .string x.txt] 49)
  have hB1 := BoxR.new w x
  have HE1 := Lib.hid hE1
  have HB1 := Lib.hid hB1
  have hF := formedR_any n x (w.alloc (.cells #[.int .i64 x.st, .int .i64 x.num, .int .i64 x.hr, .string x.txt] 49)) ht
  rw [hf] at hF
  have HF := Lib.hid hF
  clear hE1 hB1 hF hf
  by_cases h1 : x.num = 1
  · have hb : (x.num != 1) = false := by simp [h1]
    rw [if_neg (fun q => q h1)]
    clear h1
    go_enter Tryz.func108, Tryz.ntmps108
    go_wp2_with fail
    refine HF.out.mono ?_
    rintro e W2 ⟨rfl, hE2⟩
    have HE2 := Lib.hid (HE1.out.trans hE2)
    have hB2 := HB1.out.ext hE2
    have x0 := hB2.c0
    have x1 := hB2.c1
    have x2 := hB2.c2
    have x3 := hB2.c3
    have hE3 := Ext.alloc W2 (.cells #[.int .i64 0, .int .i64 0, .int .i64 0, .string ⟨#[]⟩] 49)
    have HE3 := Lib.hid (HE2.out.trans hE3)
    have y1 := hE3.keep x1
    clear hE2 hB2 hE3 x0 x1 x2 x3
    go_wp2_with fail
    go_ret
    exact ⟨rfl, HE3.out⟩
  · have hb : (x.num != 1) = true := by simp [h1]
    rw [if_pos h1]
    clear h1
    go_enter Tryz.func108, Tryz.ntmps108
    go_wp2_with fail
    refine HF.out.mono ?_
    rintro e W2 ⟨rfl, hE2⟩
    have HE2 := Lib.hid (HE1.out.trans hE2)
    have hB2 := HB1.out.ext hE2
    have x0 := hB2.c0
    have x1 := hB2.c1
    have x2 := hB2.c2
    have x3 := hB2.c3
    have hE3 := Ext.alloc W2 (.cells #[.int .i64 0, .int .i64 0, .int .i64 0, .string ⟨#[]⟩] 49)
    have HE3 := Lib.hid (HE2.out.trans hE3)
    have y1 := hE3.keep x1
    clear hE2 hB2 hE3 x0 x1 x2 x3
    go_wp2_with fail
    go_ret
    exact ⟨rfl, HE3.out⟩
set_option maxHeartbeats 400000 in
set_option maxRecDepth 100000 in
theorem refusedR_form (n : Int) (v : Value) (x : Rec) (w : World) (ht : x.txt.size ≤ 1000000) (hf : formedB n x = false) :
    Calls Tryz.prog 108 #[.int .i64 n, v, rv x] w fun e w' => e = .returned (.int .i64 1) ∧ Ext w w' := by
  have hE1 := Ext.alloc w (.cells #[.int .i64 x.st, .int .i64 x.num, .int .i64 x.hr, .string x.txt] 49)
  have hB1 := BoxR.new w x
  have HE1 := Lib.hid hE1
  have HB1 := Lib.hid hB1
  have hF := formedR_any n x (w.alloc (.cells #[.int .i64 x.st, .int .i64 x.num, .int .i64 x.hr, .string x.txt] 49)) ht
  rw [hf] at hF
  have HF := Lib.hid hF
  clear hE1 hB1 hF hf
  go_enter Tryz.func108, Tryz.ntmps108
  go_wp2_with fail
  refine HF.out.mono ?_
  rintro e W2 ⟨rfl, hE2⟩
  have HE2 := Lib.hid (HE1.out.trans hE2)
  have hB2 := HB1.out.ext hE2
  have x0 := hB2.c0
  have x1 := hB2.c1
  have x2 := hB2.c2
  have x3 := hB2.c3
  clear hE2 hB2
  go_wp2_with fail
  go_ret
  exact ⟨rfl, HE2.out⟩
set_option maxHeartbeats 1600000 in
set_option maxRecDepth 100000 in
theorem refusedR_some (n : Int) (v : Value) (l : List Rec) (x p : Rec) (w : World) (hv : SlR w v l) (hp : l[l.length - 1]? = some p) (hl : l.length ≤ 1000000) (ht : x.txt.size ≤ 1000000) (hf : formedB n x = true) (hpn : 0 ≤ p.num ∧ p.num ≤ 1000) :
    Calls Tryz.prog 108 #[.int .i64 n, v, rv x] w fun e w' => e = .returned (.int .i64 (refusedE n (some p) x)) ∧ Ext w w' := by
  obtain ⟨ao, cap, rfl, hc⟩ := hv.open
  obtain ⟨b, off, rfl, hb, p0, p1, p2, p3⟩ := hc _ p hp
  have hpos : 0 < l.length := by have := (List.getElem?_eq_some_iff.1 hp).1; omega
  have hpz : (0 : Int) < l.length := by omega
  have hdz : decide ((0 : Int) < (l.length : Int)) = true := by simp; omega
  have hdz2 : decide (0 < l.length) = true := by simp; omega
  have hb0 : ((l.length : Int) == 0) = false := by rw [beq_eq_false_iff_ne]; omega
  have hwl : IntKind.i64.wrap ((l.length : Int) - 1) = ((l.length - 1 : Nat) : Int) := by rw [IntWalk.i64_in _ (by omega)]; omega
  have hl1 : ((l.length - 1 : Nat) : Int) < l.length := by omega
  have hE1 := Ext.alloc w (.cells #[.int .i64 x.st, .int .i64 x.num, .int .i64 x.hr, .string x.txt] 49)
  have hB1 := BoxR.new w x
  have HE1 := Lib.hid hE1
  have HB1 := Lib.hid hB1
  have HP := Lib.hid (And.intro p0 (And.intro p1 (And.intro p2 p3)))
  have hF := formedR_any n x (w.alloc (.cells #[.int .i64 x.st, .int .i64 x.num, .int .i64 x.hr, .string x.txt] 49)) ht
  rw [hf] at hF
  have HF := Lib.hid hF
  have hre : refusedE n (some p) x = if x.st < p.st ∨ (x.st = p.st ∧ x.num ≤ p.num) then 6 else if p.st ≠ x.st then (if x.num ≠ 1 then 83 else 0) else if x.num ≠ p.num + 1 then 83 else if x.hr < p.hr then 7 else 0 := by
    unfold refusedE; rw [if_neg (by rw [hf]; decide)]
  generalize refusedE n (some p) x = R at hre ⊢
  have HR := Lib.hid hre
  clear hre
  generalize l.length - 1 = M at *
  clear hE1 hB1 hF hf hc hv hp p0 p1 p2 p3
  go_enter Tryz.func108, Tryz.ntmps108
  go_wp2_with fail
  refine HF.out.mono ?_
  rintro e W2 ⟨rfl, hE2⟩
  have HE2 := Lib.hid (HE1.out.trans hE2)
  have hB2 := HB1.out.ext hE2
  have hE3 := Ext.alloc W2 (.cells #[.int .i64 0, .int .i64 0, .int .i64 0, .string ⟨#[]⟩] 49)
  have q0 := hE3.keep (HE2.out.keep HP.out.1)
  have q1 := hE3.keep (HE2.out.keep HP.out.2.1)
  have q2 := hE3.keep (HE2.out.keep HP.out.2.2.1)
  have q3 := hE3.keep (HE2.out.keep HP.out.2.2.2)
  have hE4 := Ext.alloc W2 (.cells #[.int .i64 p.st, .int .i64 p.num, .int .i64 p.hr, .string p.txt] 49)
  have HE4 := Lib.hid (HE2.out.trans hE4)
  have HBX := Lib.hid (hB2.ext hE4)
  have HBP := Lib.hid (BoxR.new W2 p)
  clear hE2 hB2 hE3 hE4
  go_upto_region 7 with (fail)
  generalize W2.alloc (.cells #[.int .i64 p.st, .int .i64 p.num, .int .i64 p.hr, .string p.txt] 49) = W4 at HE4 HBX HBP ⊢
  clear q0 q1 q2 q3
  have x0 := HBX.out.c0
  have x1 := HBX.out.c1
  have x2 := HBX.out.c2
  have p0 := HBP.out.c0
  have p1 := HBP.out.c1
  have p2 := HBP.out.c2
  generalize W2.heap.size = Y at *
  generalize hXX : w.heap.size = X at x0 x1 x2 ⊢
  clear hXX
  have hwn : IntKind.i64.wrap (p.num + 1) = p.num + 1 := IntWalk.i64_in _ (by omega)
  by_cases h1 : x.st < p.st
  · skip
    have d1 : decide (x.st < p.st) = true := by simp [h1]
    have HV : RowKit.Hid (6 = R) := Lib.hid (by rw [HR.out, if_pos (.inl h1)])
    skip
    go_wp2_with fail
    go_ret
    exact ⟨ret_int HV.out, HE4.out⟩
  · have d1 : decide (x.st < p.st) = false := by simp; omega
    by_cases h2 : x.st = p.st
    · have d2 : (x.st == p.st) = true := by simp [h2]
      have d2' : (p.st != x.st) = false := by simp [h2]
      by_cases h3 : x.num ≤ p.num
      · skip
        have d3 : decide (x.num ≤ p.num) = true := by simp [h3]
        have HV : RowKit.Hid (6 = R) := Lib.hid (by rw [HR.out, if_pos (.inr ⟨h2, h3⟩)])
        clear h2
        go_wp2_with fail
        go_ret
        exact ⟨ret_int HV.out, HE4.out⟩
      · skip
        have d3 : decide (x.num ≤ p.num) = false := by simp; omega
        by_cases h4 : x.num = p.num + 1
        · skip
          have d4 : (x.num != p.num + 1) = false := by simp [h4]
          by_cases h5 : x.hr < p.hr
          · skip
            have d5 : decide (x.hr < p.hr) = true := by simp [h5]
            have HV : RowKit.Hid (7 = R) := Lib.hid (by rw [HR.out, if_neg (by omega), if_neg (by omega), if_neg (fun q => q h4), if_pos h5])
            clear h2 h4
            go_wp2_with fail
            go_ret
            exact ⟨ret_int HV.out, HE4.out⟩
          · skip
            have d5 : decide (x.hr < p.hr) = false := by simp; omega
            have HV : RowKit.Hid (0 = R) := Lib.hid (by rw [HR.out, if_neg (by omega), if_neg (by omega), if_neg (fun q => q h4), if_neg h5])
            clear h2 h4
            go_wp2_with fail
            go_ret
            exact ⟨ret_int HV.out, HE4.out⟩
        · skip
          have d4 : (x.num != p.num + 1) = true := by simp [h4]
          have HV : RowKit.Hid (83 = R) := Lib.hid (by rw [HR.out, if_neg (by omega), if_neg (by omega), if_pos h4])
          clear h2
          go_wp2_with fail
          go_ret
          exact ⟨ret_int HV.out, HE4.out⟩
    · have d2 : (x.st == p.st) = false := by simp [h2]
      have d2' : (p.st != x.st) = true := by simp; omega
      by_cases h4 : x.num = 1
      · skip
        have d4 : (x.num != 1) = false := by simp [h4]
        have HV : RowKit.Hid (0 = R) := Lib.hid (by rw [HR.out, if_neg (by omega), if_pos (by omega), if_neg (fun q => q h4)])
        clear h4
        go_wp2_with fail
        go_ret
        exact ⟨ret_int HV.out, HE4.out⟩
      · skip
        have d4 : (x.num != 1) = true := by simp [h4]
        have HV : RowKit.Hid (83 = R) := Lib.hid (by rw [HR.out, if_neg (by omega), if_pos (by omega), if_pos h4])
        skip
        go_wp2_with fail
        go_ret
        exact ⟨ret_int HV.out, HE4.out⟩
end Go.Proofs.YtgjahnomafpnfaaGreatDoor

/- The reference's CheckRecords and of. -/
namespace Go.Proofs.YtgjahnomafpnfaaGreatDoor
open Go.RowKit
theorem refusedE_formed {n : Int} {p : Option Rec} {x : Rec} (h : refusedE n p x = 0) : formedB n x = true := by
  cases hf : formedB n x with
  | true => rfl
  | false => unfold refusedE at h; rw [if_pos hf] at h; cases h
theorem refusedE_no {n : Int} {p : Option Rec} {x : Rec} (h : formedB n x = false) : refusedE n p x = 1 := by unfold refusedE; rw [if_pos h]
theorem formedB_num {n : Int} {x : Rec} (h : formedB n x = true) : 0 ≤ x.num ∧ x.num ≤ 1000 := by
  unfold formedB at h
  simp only [Bool.and_eq_true, inB_iff] at h
  omega
theorem refusedR_at (n : Int) (b off cap i : Nat) (l : List Rec) (x : Rec) (w : World) (hv : SlR w (.slice (some ⟨b, off, none⟩) l.length cap) l) (hi : i ≤ l.length) (hl : l.length ≤ 1000000) (ht : x.txt.size ≤ 1000000) (p : Option Rec) (hp : p = if i = 0 then none else l[i - 1]?) (hpf : ∀ y, p = some y → formedB n y = true) :
    Calls Tryz.prog 108 #[.int .i64 n, .slice (some ⟨b, off, none⟩) i cap, rv x] w fun e w' => e = .returned (.int .i64 (refusedE n p x)) ∧ Ext w w' := by
  cases hf : formedB n x with
  | false => rw [refusedE_no hf]; exact refusedR_form n _ x w ht hf
  | true =>
    by_cases h0 : i = 0
    · subst h0
      rw [if_pos rfl] at hp
      subst hp
      have : refusedE n none x = if x.num ≠ 1 then 83 else 0 := by unfold refusedE; rw [if_neg (by rw [hf]; decide)]
      rw [this]
      exact refusedR_none n _ cap x w ht hf
    · rw [if_neg h0] at hp
      obtain ⟨y, hy⟩ : ∃ y, l[i - 1]? = some y := ⟨_, List.getElem?_eq_getElem (by omega)⟩
      rw [hy] at hp
      subst hp
      have hlt : (l.take i).length = i := by rw [List.length_take]; omega
      have := refusedR_some n (.slice (some ⟨b, off, none⟩) i cap) (l.take i) x y w (hv.take i hi) (by rw [hlt, List.getElem?_take, if_pos (by omega)]; exact hy) (by omega) ht hf (formedB_num (hpf y rfl))
      exact this
set_option maxHeartbeats 1600000 in
set_option maxRecDepth 100000 in
theorem CheckRecordsR_any (n : Int) (v : Value) (l : List Rec) (w : World) (hv : SlR w v l) (hl : l.length ≤ 100000) (ht : ∀ x ∈ l, x.txt.size ≤ 1000000) :
    Calls Tryz.prog 48 #[.int .i64 n, v] w fun e w' => e = .returned (.tuple #[.int .i64 (checkP n l).1, .int .i64 (checkP n l).2]) ∧ Ext w w' := by
  obtain ⟨ao, cap, rfl, hc⟩ := hv.open
  have HV := Lib.hid hv
  have HC := Lib.hid hc
  have HT := Lib.hid ht
  clear hv hc ht
  by_cases hn : inB n 2 5 = true
  · have hP : checkP n l = checkGo n none 0 l := by unfold checkP; rw [if_pos hn]
    rw [hP]
    generalize hQ : checkGo n none 0 l = Q
    have HQ := Lib.hid hQ
    clear hP hQ
    go_enter Tryz.func48, Tryz.ntmps48
    go_wp2_with (go_at_call 107; refine (manyR_any _ _).mono ?_; rintro e w' ⟨rfl, hw⟩; cases hw; rw [hn])
    go_loopw [7] (fun i wr => ∃ (k : Nat) (p : Option Rec), k ≤ l.length ∧ i = .int .i64 k ∧ Ext w wr ∧ p = (if k = 0 then none else l[k - 1]?) ∧ (∀ y, p = some y → formedB n y = true) ∧ checkGo n p k (l.drop k) = Q) (fun i _ => l.length - (intOf i).toNat)
    case atStart => exact ⟨0, none, by omega, rfl, Ext.refl _, rfl, (fun y h => by cases h), HQ.out⟩
    case round =>
      obtain ⟨k, p, hk, rfl, hE, hp, hpf, hq⟩ := hrel
      have HP := Lib.hid (And.intro hp (And.intro hpf hq))
      have HE := Lib.hid hE
      clear hp hpf hq
      by_cases hlt : k < l.length
      · obtain ⟨x, hx⟩ : ∃ x, l[k]? = some x := ⟨_, List.getElem?_eq_getElem hlt⟩
        have hdrop : l.drop k = x :: l.drop (k + 1) := by rw [List.drop_eq_getElem_cons hlt]; rw [List.getElem?_eq_getElem hlt] at hx; rw [Option.some.inj hx]
        obtain ⟨b, off, rfl, hb, x0, x1, x2, x3⟩ := HC.out k x hx
        replace x0 := hE.keep x0
        replace x1 := hE.keep x1
        replace x2 := hE.keep x2
        replace x3 := hE.keep x3
        have hltz : (k : Int) < l.length := by omega
        have hkc : k ≤ cap := by
          rcases HV.out with ⟨q, _⟩ | ⟨_, _, _, q, q2, _⟩
          · cases q
          · cases q; omega
        have hncap : ¬ (cap = 0) := by
          rcases HV.out with ⟨q, _⟩ | ⟨_, _, _, q, q2, _⟩
          · cases q
          · cases q; omega
        have HX := Lib.hid (And.intro hx hdrop)
        have HC1 := Lib.hid (fun (W : World) (h : Ext wr W) => refusedR_at n b off cap k l x W (HV.out.ext (hE.trans h)) hk (by omega) (HT.out x (List.mem_of_getElem? hx)) p HP.out.1 HP.out.2.1)
        clear hx hdrop hE
        generalize hR : refusedE n p x = R at HC1
        have HR := Lib.hid hR
        clear hR
        go_wp2_with fail
        refine wp_drawn 10 (by kernel_rfl) (by kernel_rfl) (fun i => match i with
          | 8 => some fun v _ => v = .int .i64 R
          | 9 => some fun v _ => v = .int .i64 R
          | _ => none) ?_ ?_
        · intro j φ hφ v w1 w2 h1 h2
          split at hφ <;> cases hφ
          all_goals exact h1
        intro ν
        simp only [List.take_succ_cons, List.take_zero]
        iterate 8 (refine Seq.pure ?_ rfl (fun w' hw hf => ?_) ?_; rotate_left; (· (have k0 := hw.keep (w := World.drew _) x0; have k1 := hw.keep (w := World.drew _) x1; have k2 := hw.keep (w := World.drew _) x2; have k3 := hw.keep (w := World.drew _) x3; unfold pureG; go_simp; with_reducible rfl)); simp only [Act.put, List.setIfInBounds_toArray, List.set_cons_zero, List.set_cons_succ, Nat.reduceAdd, Nat.zero_add])
        refine Seq.eff _ rfl (fun w' hw hf => giveG_of rfl (by simp) fun K hK => ?_) ?_
        · go_simp
          refine (HC1.out w' ((Ext.drew _).trans hw)).mono ?_
          rintro e w2 ⟨rfl, hb⟩
          exact hK _ _ ⟨rfl, hb⟩
        simp only [Act.put, List.setIfInBounds_toArray, List.set_cons_zero, List.set_cons_succ, Nat.reduceAdd, Nat.zero_add]
        refine Seq.eff _ rfl (fun w' hw hf => giveG_of rfl (by simp) fun K hK => ?_) ?_
        · have h14 := hf 8 _ rfl (by kernel_rfl)
          simp only [h14] at hK ⊢
          go_simp
          exact hK _ _ ⟨rfl, Ext.refl _⟩
        simp only [Act.put, List.setIfInBounds_toArray, List.set_cons_zero, List.set_cons_succ, Nat.reduceAdd, Nat.zero_add]
        refine Seq.nil fun W' hw hf => tail_none (by kernel_rfl) ?_
        have h16 := hf 9 _ (by omega) rfl
        rw [h16]
        have HE5 := Lib.hid (HE.out.trans ((Ext.drew wr).trans hw))
        clear hf hw x0 x1 x2 x3 h16
        generalize ν 8 = v8
        by_cases h0 : R = 0
        · have hb0 : (R != 0) = false := by simp [h0]
          have hne : checkGo n p k (l.drop k) = checkGo n (some x) (k + 1) (l.drop (k + 1)) := by
            rw [HX.out.2]; conv => lhs; unfold checkGo
            rw [if_neg (by rw [HR.out]; exact fun q => q h0)]
          have HN := Lib.hid hne
          have HF := Lib.hid (refusedE_formed (HR.out.trans h0))
          clear hne h0
          go_wp2_with fail
          go_roundw
          case rel => exact ⟨k + 1, some x, by omega, by go_num, HE5.out, by rw [if_neg (by omega), Nat.add_sub_cancel, HX.out.1], (fun y hy => by cases hy; exact HF.out), HN.out.symm.trans HP.out.2.2⟩
          case measure => simp [intOf]; omega
        · have hb0 : (R != 0) = true := by simp [h0]
          have hne : Q = ((k : Int), R) := by
            rw [← HP.out.2.2, HX.out.2]; unfold checkGo
            rw [if_pos (by rw [HR.out]; exact h0), HR.out]
          have HN := Lib.hid hne
          clear hne h0
          go_wp2_with fail
          go_ret2
          exact ⟨by rw [HN.out]; rfl, HE5.out⟩
      · have hltz : ¬ ((k : Int) < l.length) := by omega
        have hne : Q = (0, 0) := by
          rw [← HP.out.2.2, List.drop_of_length_le (by omega)]; rfl
        have HN := Lib.hid hne
        clear hne hE
        go_wp2_with fail
        go_ret2
        exact ⟨by rw [HN.out]; rfl, HE.out⟩
  · have hn1 : inB n 2 5 = false := by simpa using hn
    have hP : checkP n l = (0, 1) := by unfold checkP; rw [if_neg hn]
    rw [hP]
    go_enter Tryz.func48, Tryz.ntmps48
    go_wp2_with (go_at_call 107; refine (manyR_any _ _).mono ?_; rintro e w' ⟨rfl, hw⟩; cases hw; rw [hn1])
    go_ret2
    exact ⟨rfl, Ext.refl _⟩
theorem wpList_app23 {ops : Array Oper} {rest : List Oper} {o : Oper} {a : Act} {w : World} {Q : Exit → Act → World → Prop} (hgd : o.guard = none) (s x : Operand)
    (ho : o.op = .call { callee := .builtin .append, args := #[s, x], argTypes := #[23, 23] })
    (base : Nat) (v : Value) (xs : List Rec) (h : OwnR w base v xs) (y : Rec) (g m c : Nat) (hs : a.eval s = v) (hx : a.eval x = .slice (some ⟨g, 0, none⟩) m c) (hm : m = 1)
    (hc : ∀ j u, (flat [y])[j]? = some u → w.cell? ⟨g, j, none⟩ = some u) (hn : xs.length + 1 ≤ 1000000) (hb : base ≤ w.heap.size)
    (hK : ∀ v' w', OwnR w' base v' (xs ++ [y]) → Below base w w' → wpList Tryz.prog ops Q rest (a.put o.dst v') w') :
    wpList Tryz.prog ops Q (o :: rest) a w := by
  subst hm
  obtain ⟨i0, hi0, hz0, hz1, hz2⟩ := info_parts info49
  obtain ⟨gg, cap, w', h1, h2, h3, h4, h5⟩ := run_append_app (P := Tryz.prog) w base 23 o.type 49 i0 _ 4 40 Tryz.underlying23 hi0 hz0 hz1 hz2 rfl (by omega) v xs.length (flat xs) h ⟨g, 0, none⟩ 1 c (flat [y]) (flat_length [y]) (fun j u hu => by rw [addr_add]; exact hc j u hu) (flat_oneCell [y]) (by omega) (by unfold maxLen; omega) (by omega) hb
  exact Lib.wpList_append_run w hgd s x 23 23 ho v _ hs hx _ w' h1 (hK _ w' (by unfold OwnR; rw [List.length_append, flat_append]; exact h2) (h3.below hb (OwnR.base h)))
/-- The records of a station. -/
def ofL (l : List Rec) (s : Int) : List Rec := l.filter fun x => x.st == s
theorem filter_take (p : Rec → Bool) (l : List Rec) (k : Nat) (x : Rec) (hx : l[k]? = some x) : (l.take (k + 1)).filter p = if p x = true then (l.take k).filter p ++ [x] else (l.take k).filter p := by
  rw [List.take_add_one, hx, List.filter_append]
  by_cases h : p x = true
  · rw [if_pos h]; simp [h]
  · rw [if_neg h]; simp [h]
set_option maxHeartbeats 800000 in
set_option maxRecDepth 100000 in
theorem ofR_any (v : Value) (l : List Rec) (s : Int) (w : World) (hv : SlR w v l) (hl : l.length ≤ 100000) :
    Calls Tryz.prog 121 #[v, .int .i64 s] w fun e w' => ∃ v', e = .returned v' ∧ OwnR w' w.heap.size v' (ofL l s) ∧ Ext w w' := by
  obtain ⟨ao, cap, rfl, hc⟩ := hv.open
  have HC := Lib.hid hc
  clear hv hc
  go_enter Tryz.func121, Tryz.ntmps121
  go_wp2_with fail
  go_loopw [5, 6] (fun o i wr => ∃ k : Nat, k ≤ l.length ∧ i = .int .i64 k ∧ Ext w wr ∧ OwnR wr w.heap.size o (ofL (l.take k) s)) (fun _ i _ => l.length - (intOf i).toNat)
  case atStart => exact ⟨0, by omega, rfl, Ext.refl _, World.ownsRow_nil _ _ _ _⟩
  case round =>
    obtain ⟨k, hk, rfl, hE, hO⟩ := hrel
    obtain ⟨a, m, c, rfl⟩ := OwnR.shape3 hO
    have HE := Lib.hid hE
    have HO := Lib.hid hO
    clear hO
    by_cases hlt : k < l.length
    · obtain ⟨x, hx⟩ : ∃ x, l[k]? = some x := ⟨_, List.getElem?_eq_getElem hlt⟩
      obtain ⟨b, off, rfl, hb, x0, x1, x2, x3⟩ := HC.out k x hx
      replace x0 := hE.keep x0
      replace x1 := hE.keep x1
      replace x2 := hE.keep x2
      replace x3 := hE.keep x3
      have hltz : (k : Int) < l.length := by omega
      have HF := Lib.hid (filter_take (fun x => x.st == s) l k x hx)
      have hlo : (ofL (l.take k) s).length ≤ k := by
        have := List.length_filter_le (fun x => x.st == s) (l.take k)
        rw [List.length_take] at this
        unfold ofL; omega
      clear hx
      by_cases hs : x.st = s
      · have hb0 : (x.st == s) = true := by simp [hs]
        have hF2 : RowKit.Hid (ofL (l.take (k + 1)) s = ofL (l.take k) s ++ [x]) := Lib.hid (HF.out.trans (by rw [if_pos hb0]; rfl))
        have hEa := Ext.alloc wr (.cells #[.int .i64 x.st, .int .i64 x.num, .int .i64 x.hr, .string x.txt] 49)
        have hOa := HO.out.ext hEa
        have HOa := Lib.hid hOa
        have HEa := Lib.hid (hE.trans hEa)
        clear hs hEa hOa hE
        go_wp2_with (at_builtin; refine wpList_app23 rfl (.tmp 20) (.tmp 25) rfl w.heap.size _ (ofL (l.take k) s) HOa.out x wr.heap.size 1 1 rfl rfl rfl (fun j u hu => by have := cells_new wr (flat [x]) 49 wr.heap.size rfl j u hu; rwa [addr_add] at this) (by omega) (by have := HEa.out.size; exact this) ?_)
        intro v' w5 hO5 hb5
        have HO5 := Lib.hid hO5
        have HE5 := Lib.hid (Below.trans (B := w.heap.size) HEa.out hb5)
        obtain ⟨a5, m5, c5, rfl⟩ := OwnR.shape3 hO5
        clear hO5 hb5
        go_wp2_with fail
        go_roundw
        case rel => exact ⟨k + 1, by omega, by go_num, HE5.out, by rw [hF2.out]; exact HO5.out⟩
        case measure => simp [intOf]; omega
      · have hb0 : (x.st == s) = false := by simp [hs]
        have hF2 : RowKit.Hid (ofL (l.take (k + 1)) s = ofL (l.take k) s) := Lib.hid (HF.out.trans (by rw [if_neg (by rw [hb0]; decide)]; rfl))
        clear hs hE
        go_wp2_with fail
        go_roundw
        case rel => exact ⟨k + 1, by omega, by go_num, HE.out, by rw [hF2.out]; exact HO.out⟩
        case measure => simp [intOf]; omega
    · have hltz : ¬ ((k : Int) < l.length) := by omega
      have hfin : RowKit.Hid (ofL (l.take k) s = ofL l s) := Lib.hid (by rw [List.take_of_length_le (by omega)])
      clear hE
      go_wp2_with fail
      go_ret
      exact ⟨_, rfl, by rw [← hfin.out]; exact HO.out, HE.out⟩
end Go.Proofs.YtgjahnomafpnfaaGreatDoor
