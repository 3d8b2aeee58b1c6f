/- Lemmas and walks that this claim needs, in one text out of several; each states its own conditions. -/
import Derived.Test.YtgjahnomafpnfaaGreatDoorMB8
import Derived.Carry
import Derived.ChangeSlices
import Derived.ChangeMaps5
import Derived.OpenShut
import Derived.Deep.Slices
import Derived.Lib.SmallJoins
import Derived.Test.YtgjahnomafpnfaaGreatDoorMB2
import Derived.Test.YtgjahnomafpnfaaGreatDoorMB3
set_option linter.unusedVariables false
set_option linter.unusedSimpArgs false
/- Arguments that nobody wrote read as they did; slices of bytes among the arguments. -/
namespace Go.Proofs.YtgjahnomafpnfaaGreatDoor
open Go.ChangeShapes Go.WideShapes Go.ChangeAt Go.RowKit
theorem laidOutT : laidOutB Tryz.prog = true := by kernel_rfl
/-- One closed fact: each of these types can be read and is a row of the table. -/
def typesRowed (P : Program) (ts : List TypeId) : Bool := ts.all fun t => P.readableRec t && decide (t < P.types.size)
theorem trodAll_staysP {P : Program} (hl : laidOutB P = true) {H : Type} {enc : TypeId × Value → H} {W W' : World} (hb : Below W.heap.size W W') : ∀ {ts : List TypeId} {vs : List Value} {ds : List (DataW H)} {ps : List MemPlace}, typesRowed P ts = true →
    DataW.TrodAll enc P W 0 (fun _ => true) true ts vs ds ps → (∀ x ∈ ps, x.block < W.heap.size) → DataW.TrodAll enc P W' 0 (fun b => decide (b < W.heap.size)) true ts vs ds ps
  | [], [], [], _, _, h, _ => h
  | [], [], _ :: _, _, _, h, _ => h.elim
  | [], _ :: _, _, _, _, h, _ => h.elim
  | _ :: _, [], _, _, _, h, _ => h.elim
  | _ :: _, _ :: _, [], _, _, h, _ => h.elim
  | t :: ts, v :: vs, d :: ds, ps, hr, h, hlt => by
    obtain ⟨p, q, h1, h2, rfl⟩ := h
    simp only [typesRowed, List.all_cons, Bool.and_eq_true, decide_eq_true_eq] at hr
    exact ⟨p, q, Below.trod hl hr.1.1 hr.1.2 h1 hb (fun x hx => hlt x (List.mem_append_left _ hx)), trodAll_staysP hl hb (by simpa [typesRowed] using hr.2) h2 (fun x hx => hlt x (List.mem_append_right _ hx)), rfl⟩
theorem trodAll_stays {H : Type} {enc : TypeId × Value → H} {W W' : World} (hb : Below W.heap.size W W') {ts : List TypeId} {vs : List Value} {ds : List (DataW H)} {ps : List MemPlace} (hr : typesRowed Tryz.prog ts = true)
    (h : DataW.TrodAll enc Tryz.prog W 0 (fun _ => true) true ts vs ds ps) (hlt : ∀ x ∈ ps, x.block < W.heap.size) : DataW.TrodAll enc Tryz.prog W' 0 (fun b => decide (b < W.heap.size)) true ts vs ds ps := trodAll_staysP laidOutT hb hr h hlt
/-- A slice's address is a place in memory. -/
theorem okWide_has {P : Program} {w : World} {base : Nat} {t e : TypeId} {a : Addr} {len cap : Nat} (ht : P.underlying t = some (.slice e)) (h : Value.okWide P w .any base t (.slice (some a) len cap)) : a.spot = none ∧ a.block < w.heap.size := by
  simp only [Value.okWide, ht, Cell.okWide, Cell.ok, World.has] at h
  obtain ⟨_, _, _, h1, row, cells, h2, _⟩ := h
  refine ⟨h1, ?_⟩
  unfold World.shape? at h2
  cases hh : w.heap[a.block]? with
  | none => rw [hh] at h2; cases h2
  | some o => exact (Array.getElem?_eq_some_iff.1 hh).1
theorem cells5T : Tryz.prog.cellsOf 5 = 1 := by kernel_rfl
theorem slB_ofP {P : Program} {t e : TypeId} (ht : P.underlying t = some (.slice e)) (he : P.underlying e = some (.int .u8)) (hc : P.cellsOf e = 1) {H : Type} {enc : TypeId × Value → H} {w : World} {base : Nat} {v : Value} {d : DataW H} {p : List MemPlace} (hval : Value.okWide P w .any base t v) (hd : DataW.Trod enc P w 0 (fun _ => true) true t v d p) : ∃ bs, SlB w v bs := by
  obtain ⟨a0, len, cap, rfl⟩ := okWide_slice ht hval
  obtain ⟨fuel, hf⟩ := hd
  rcases open_ints ht he hc hf with ⟨hcs, hx⟩ | ⟨a, len', cap', zs, hcs, _, hl, hm, hz, hx, hcell, hwz⟩
  · simp [Value.cells] at hcs
    obtain ⟨rfl, rfl, rfl⟩ := hcs
    exact ⟨[], .inl ⟨rfl, rfl⟩⟩
  · simp [Value.cells] at hcs
    obtain ⟨rfl, rfl, rfl⟩ := hcs
    obtain ⟨hs, hb⟩ := okWide_has ht hval
    obtain ⟨b, off, spot⟩ := a
    simp only at hs hb
    subst hs
    simp only [if_true] at hz
    have hlen : (zs.take len).length = len := by rw [List.length_take, hz]; omega
    refine ⟨(zs.take len).map (fun z => UInt8.ofNat z.toNat), .inr ⟨b, off, cap, by rw [List.length_map, hlen], by rw [List.length_map, hlen]; exact hl, hm, hb, fun j u hu => ?_⟩⟩
    unfold scells at hu
    rw [List.getElem?_map, List.getElem?_map] at hu
    cases hj : (zs.take len)[j]? with
    | none => rw [hj] at hu; cases hu
    | some z =>
      rw [hj] at hu
      simp only [Option.map_some, Option.some.injEq] at hu
      have hzz : zs[j]? = some z := by
        rw [List.getElem?_take] at hj
        split at hj
        · exact hj
        · cases hj
      have hjl := (List.getElem?_eq_some_iff.1 hzz).1
      have hb8 := bounds_u8 (hwz z (List.mem_of_getElem? hzz))
      have := hcell j hjl
      rw [Addr.add_mid, show zs.getD j 0 = z from by rw [List.getD_eq_getElem?_getD, hzz]; rfl] at this
      rw [this, ← hu]
      congr 2
      rw [UInt8.toNat_ofNat']
      omega
set_option maxRecDepth 100000 in
theorem slB_of {H : Type} {enc : TypeId × Value → H} {w : World} {base : Nat} {v : Value} {d : DataW H} {p : List MemPlace} (hval : Value.okWide Tryz.prog w .any base 69 v) (hd : DataW.Trod enc Tryz.prog w 0 (fun _ => true) true 69 v d p) : ∃ bs, SlB w v bs :=
  slB_ofP (P := Tryz.prog) (t := 69) (e := 5) Tryz.underlying69 Tryz.underlying5 cells5T hval hd
end Go.Proofs.YtgjahnomafpnfaaGreatDoor

/- Records and slices of records among the arguments. -/
namespace Go.Proofs.YtgjahnomafpnfaaGreatDoor
open Go.ChangeShapes Go.WideShapes Go.ChangeAt Go.RowKit Go.Deep Go.Joins
/-- A record's numbers are whole numbers of 64 bits. -/
structure Rec.i64 (x : Rec) : Prop where
  st : -9223372036854775808 ≤ x.st ∧ x.st ≤ 9223372036854775807
  num : -9223372036854775808 ≤ x.num ∧ x.num ≤ 9223372036854775807
  hr : -9223372036854775808 ≤ x.hr ∧ x.hr ≤ 9223372036854775807
  sz : x.txt.size ≤ maxLen
theorem i64_fits {x : Rec} (h : x.i64) (ht : x.txt.size ≤ 1000000) : x.fits := ⟨h.st, h.num, h.hr, ht⟩
section
variable {P : Program} {H : Type} {enc : TypeId × Value → H} {w : World} {base b0 : Nat} {sp : Nat → Bool} {held : Bool}
theorem rec_cellsP {f0 f1 f2 f3 : Field} {t : TypeId} (hs : P.underlying t = some (.struct #[f0, f1, f2, f3])) (hone : oneCellFields P #[f0, f1, f2, f3] = true)
    (h0 : P.underlying f0.type = some (.int .i64)) (h1 : P.underlying f1.type = some (.int .i64)) (h2 : P.underlying f2.type = some (.int .i64)) (h3 : P.underlying f3.type = some .string)
    {fuel : Nat} {cs : List Value} {y : DataW H × List MemPlace} (hl : cs.length = 4) (hf : DataW.trod enc P w base sp held fuel t cs = some y) : ∃ x : Rec, cs = rcells x ∧ x.i64 := by
  obtain ⟨y0, y1, y2, y3, n, hx, _, g0, g1, g2, g3⟩ := trod_struct4 hs hf
  obtain ⟨o0, k0⟩ := hone_of hone 0 f0 rfl
  obtain ⟨o1, k1⟩ := hone_of hone 1 f1 rfl
  obtain ⟨o2, k2⟩ := hone_of hone 2 f2 rfl
  obtain ⟨o3, k3⟩ := hone_of hone 3 f3 rfl
  match cs, hl with
  | [c0, c1, c2, c3], _ =>
    simp only [o0, k0, o1, k1, o2, k2, o3, k3] at g0 g1 g2 g3
    obtain ⟨a, e0, _, w0⟩ := DataW.trod_int h0 g0
    obtain ⟨b, e1, _, w1⟩ := DataW.trod_int h1 g1
    obtain ⟨c, e2, _, w2⟩ := DataW.trod_int h2 g2
    obtain ⟨s, e3, _, w3⟩ := DataW.trod_string h3 g3
    simp at e0 e1 e2 e3
    subst e0 e1 e2 e3
    exact ⟨⟨a, b, c, s⟩, rfl, ⟨bounds_i64 w0, bounds_i64 w1, bounds_i64 w2, w3⟩⟩
theorem pair_cellsP {f0 f1 : Field} {t : TypeId} (hs : P.underlying t = some (.struct #[f0, f1])) (hone : oneCellFields P #[f0, f1] = true)
    (h0 : P.underlying f0.type = some (.int .i64)) (h1 : P.underlying f1.type = some (.int .i64))
    {fuel : Nat} {cs : List Value} {y : DataW H × List MemPlace} (hl : cs.length = 2) (hf : DataW.trod enc P w base sp held fuel t cs = some y) : ∃ a b : Int, cs = [.int .i64 a, .int .i64 b] ∧ (-9223372036854775808 ≤ a ∧ a ≤ 9223372036854775807) ∧ (-9223372036854775808 ≤ b ∧ b ≤ 9223372036854775807) := by
  obtain ⟨y0, y1, n, hx, _, g0, g1⟩ := trod_struct2 hs hf
  obtain ⟨o0, k0⟩ := hone_of hone 0 f0 rfl
  obtain ⟨o1, k1⟩ := hone_of hone 1 f1 rfl
  match cs, hl with
  | [c0, c1], _ =>
    simp only [o0, k0, o1, k1] at g0 g1
    obtain ⟨a, e0, _, w0⟩ := DataW.trod_int h0 g0
    obtain ⟨b, e1, _, w1⟩ := DataW.trod_int h1 g1
    simp at e0 e1
    subst e0 e1
    exact ⟨a, b, rfl, bounds_i64 w0, bounds_i64 w1⟩
end
set_option maxRecDepth 100000 in
theorem fields49' : ∃ f0 f1 f2 f3, Tryz.prog.underlying 49 = some (.struct #[f0, f1, f2, f3]) ∧ oneCellFields Tryz.prog #[f0, f1, f2, f3] = true ∧ Tryz.prog.underlying f0.type = some (.int .i64) ∧ Tryz.prog.underlying f1.type = some (.int .i64) ∧ Tryz.prog.underlying f2.type = some (.int .i64) ∧ Tryz.prog.underlying f3.type = some .string :=
  ⟨_, _, _, _, Tryz.underlying49, by kernel_rfl, by kernel_rfl, by kernel_rfl, by kernel_rfl, by kernel_rfl⟩
set_option maxRecDepth 100000 in
theorem fields94' : ∃ f0 f1, Tryz.prog.underlying 94 = some (.struct #[f0, f1]) ∧ oneCellFields Tryz.prog #[f0, f1] = true ∧ Tryz.prog.underlying f0.type = some (.int .i64) ∧ Tryz.prog.underlying f1.type = some (.int .i64) :=
  ⟨_, _, Tryz.underlying94, by kernel_rfl, by kernel_rfl, by kernel_rfl⟩
theorem cells49T : Tryz.prog.cellsOf 49 = 4 := by kernel_rfl
theorem cells94T : Tryz.prog.cellsOf 94 = 2 := by kernel_rfl
section
variable {H : Type} {enc : TypeId × Value → H} {w : World} {base : Nat}
set_option maxRecDepth 100000 in
theorem rec_cells {b0 : Nat} {sp : Nat → Bool} {held : Bool} {fuel : Nat} {cs : List Value} {y : DataW H × List MemPlace} (hl : cs.length = 4) (hf : DataW.trod enc Tryz.prog w b0 sp held fuel 49 cs = some y) : ∃ x : Rec, cs = rcells x ∧ x.i64 := by
  obtain ⟨f0, f1, f2, f3, h, h', h0, h1, h2, h3⟩ := fields49'
  exact rec_cellsP h h' h0 h1 h2 h3 hl hf
set_option maxRecDepth 100000 in
theorem rec_of {v : Value} {d : DataW H} {p : List MemPlace} (hval : Value.okWide Tryz.prog w .any base 49 v) (hd : DataW.Trod enc Tryz.prog w 0 (fun _ => true) true 49 v d p) : ∃ x : Rec, v = rv x ∧ x.i64 := by
  obtain ⟨cs, rfl, hsz⟩ := okWide_struct Tryz.underlying49 hval
  obtain ⟨fuel, hf⟩ := hd
  obtain ⟨x, hx, h⟩ := rec_cells (by simp [Value.cells, hsz, cells49T]) hf
  exact ⟨x, by congr 1; apply Array.ext'; exact hx, h⟩
set_option maxRecDepth 100000 in
theorem pair_of {v : Value} {d : DataW H} {p : List MemPlace} (hval : Value.okWide Tryz.prog w .any base 94 v) (hd : DataW.Trod enc Tryz.prog w 0 (fun _ => true) true 94 v d p) : ∃ a b : Int, v = .agg #[.int .i64 a, .int .i64 b] ∧ (-9223372036854775808 ≤ a ∧ a ≤ 9223372036854775807) ∧ (-9223372036854775808 ≤ b ∧ b ≤ 9223372036854775807) := by
  obtain ⟨cs, rfl, hsz⟩ := okWide_struct Tryz.underlying94 hval
  obtain ⟨fuel, hf⟩ := hd
  obtain ⟨f0, f1, h, h', h0, h1⟩ := fields94'
  obtain ⟨a, b, hx, h2, h3⟩ := pair_cellsP h h' h0 h1 (by simp [Value.cells, hsz, cells94T]) hf
  exact ⟨a, b, by congr 1; apply Array.ext'; exact hx, h2, h3⟩
set_option maxRecDepth 100000 in
/-- A slice of records, out of its one cell. -/
theorem slR_cell {b0 : Nat} {sp : Nat → Bool} {held : Bool} {fuel : Nat} {v : Value} {y : DataW H × List MemPlace} (hf : DataW.trod enc Tryz.prog w b0 sp held fuel 23 [v] = some y)
    (hok : ∀ a l c, v = .slice (some a) l c → a.spot = none ∧ a.block < w.heap.size) : ∃ xs, SlR w v xs ∧ ∀ x ∈ xs, x.i64 := by
  rcases open_slice Tryz.underlying23 hf with ⟨hcs, _⟩ | ⟨a, len, cap, m, n, D, Pl, hcs, _, hl, hm, hmm, _, hx⟩
  · simp at hcs
    subst hcs
    exact ⟨[], .inl ⟨rfl, rfl⟩, by simp⟩
  · simp at hcs
    subst hcs
    obtain ⟨hs, hb⟩ := hok a len cap rfl
    obtain ⟨b, off, spot⟩ := a
    simp only at hs hb
    subst hs
    have hlm : len ≤ m := by rw [hmm]; split <;> omega
    have hx' : ∀ i, i < len → ∃ x : Rec, x.i64 ∧ ∀ j u, (rcells x)[j]? = some u → w.cell? ⟨b, off + (i * 4 + j), none⟩ = some u := by
      intro i hi
      obtain ⟨cs, h1, h2⟩ := hx i (by omega)
      rw [cells49T] at h1
      obtain ⟨_, hlen, hcell⟩ := World.cells?_some h1
      obtain ⟨x, rfl, h3⟩ := rec_cells hlen h2
      refine ⟨x, h3, fun j u hu => ?_⟩
      have hj := (List.getElem?_eq_some_iff.1 hu).1
      have := hcell j (by simpa [rcells] using hj)
      rw [hu] at this
      rwa [Addr.add_mid, Addr.add_mid, Nat.add_assoc] at this
    obtain ⟨X, hX⟩ := choose_lt (α := Rec) hx'
    refine ⟨(List.range len).map X, .inr ⟨b, off, cap, by simp, by simpa using hl, hm, hb, fun j u hu => ?_⟩, fun x hxm => ?_⟩
    · have hj := (List.getElem?_eq_some_iff.1 hu).1
      rw [flat_length, List.length_map, List.length_range] at hj
      have hi : j / 4 < len := by omega
      have hg := flat_get ((List.range len).map X) (j / 4) (j % 4) (X (j / 4)) (by simp [hi]) (by omega)
      rw [show j / 4 * 4 + j % 4 = j from by omega, hu] at hg
      have := (hX (j / 4) hi).2 (j % 4) u hg.symm
      rwa [show j / 4 * 4 + j % 4 = j from by omega] at this
    · obtain ⟨i, hi, rfl⟩ := List.mem_map.1 hxm
      exact (hX i (by simpa using hi)).1
set_option maxRecDepth 100000 in
theorem slR_of {v : Value} {d : DataW H} {p : List MemPlace} (hval : Value.okWide Tryz.prog w .any base 23 v) (hd : DataW.Trod enc Tryz.prog w 0 (fun _ => true) true 23 v d p) : ∃ xs, SlR w v xs ∧ ∀ x ∈ xs, x.i64 := by
  obtain ⟨a0, len, cap, rfl⟩ := okWide_slice Tryz.underlying23 hval
  obtain ⟨fuel, hf⟩ := hd
  refine slR_cell (by simpa [Value.cells] using hf) (fun a l c h => ?_)
  simp only [Value.slice.injEq] at h
  obtain ⟨rfl, rfl, rfl⟩ := h
  exact okWide_has Tryz.underlying23 hval
end
section
variable {H : Type} {enc : TypeId × Value → H} {P : Program} {w : World} {base : Nat} {spare : Nat → Bool} {held : Bool}
theorem trodAll_five {t0 t1 t2 t3 t4 : TypeId} {args : Array Value} {ds : List (DataW H)} {ps : List MemPlace} (h : DataW.TrodAll enc P w base spare held [t0, t1, t2, t3, t4] args.toList ds ps) :
    ∃ v0 v1 v2 v3 v4 d0 d1 d2 d3 d4 p0 p1 p2 p3 p4, args = #[v0, v1, v2, v3, v4] ∧ ds = [d0, d1, d2, d3, d4] ∧ ps = p0 ++ p1 ++ p2 ++ p3 ++ p4 ∧ DataW.Trod enc P w base spare held t0 v0 d0 p0 ∧ DataW.Trod enc P w base spare held t1 v1 d1 p1 ∧ DataW.Trod enc P w base spare held t2 v2 d2 p2 ∧ DataW.Trod enc P w base spare held t3 v3 d3 p3 ∧ DataW.Trod enc P w base spare held t4 v4 d4 p4 := by
  obtain ⟨v0, vs0, d0, ds0, p0, q0, e0, rfl, rfl, g0, r0⟩ := trodAll_cons h
  obtain ⟨v1, vs1, d1, ds1, p1, q1, rfl, rfl, rfl, g1, r1⟩ := trodAll_cons r0
  obtain ⟨v2, vs2, d2, ds2, p2, q2, rfl, rfl, rfl, g2, r2⟩ := trodAll_cons r1
  obtain ⟨v3, vs3, d3, ds3, p3, q3, rfl, rfl, rfl, g3, r3⟩ := trodAll_cons r2
  obtain ⟨v4, vs4, d4, ds4, p4, q4, rfl, rfl, rfl, g4, r4⟩ := trodAll_cons r3
  obtain ⟨rfl, rfl, rfl⟩ := trodAll_nil r4
  exact ⟨v0, v1, v2, v3, v4, d0, d1, d2, d3, d4, p0, p1, p2, p3, p4, by cases args; simp_all, rfl, by simp, g0, g1, g2, g3, g4⟩
end
end Go.Proofs.YtgjahnomafpnfaaGreatDoor

/- RefOf and IdOf, of the program and of the reference. -/
namespace Go.Proofs.YtgjahnomafpnfaaGreatDoor
open Go.RowKit
/-- What RefOf answers. -/
def refS (id : Int) : Int := if inB id 5 2004 then id % 5 else 0
def refN (id : Int) : Int := if inB id 5 2004 then id / 5 else 0
def refE (id : Int) : Int := if inB id 5 2004 then 0 else 1
def refV (id : Int) : Value := .tuple #[.agg #[.int .i64 (refS id), .int .i64 (refN id)], .int .i64 (refE id)]
theorem refV_no {id : Int} (h : inB id 5 2004 = false) : refV id = .tuple #[.agg #[.int .i64 0, .int .i64 0], .int .i64 1] := by unfold refV refS refN refE; rw [h]; rfl
theorem refV_yes {id : Int} (h : inB id 5 2004 = true) : refV id = .tuple #[.agg #[.int .i64 (id % 5), .int .i64 (id / 5)], .int .i64 0] := by unfold refV refS refN refE; rw [h]; rfl
set_option maxHeartbeats 800000 in
set_option maxRecDepth 100000 in
theorem RefOf_any (id : Int) (w : World) : Calls Tryz.prog 59 #[.int .i64 id] w fun e w' => e = .returned (refV id) ∧ Ext w w' := by
  have hb : (Instr.build 94 #[]).run Tryz.prog = fun w => .ok (.agg #[.int .i64 0, .int .i64 0]) w := by funext w; exact run_build w 94 #[] _ (by kernel_rfl)
  cases h : inB id 5 2004
  · rw [refV_no h]
    have H := Lib.hid h
    clear h
    go_enter Tryz.func59, Tryz.ntmps59
    go_wp2_with (first | (go_at_call 91; refine (in_any _ _ _ _).mono ?_; rw [H.out]; rintro e w' ⟨rfl, rfl⟩))
    refine bodyPost_ret (v := .tuple #[.agg #[.int .i64 0, .int .i64 0], .int .i64 1]) ?_ rfl ⟨rfl, Ext.alloc _ _⟩
    simp [results, Tryz.results59, go_sem]
  · rw [refV_yes h]
    have H := Lib.hid h
    have hr := (inB_iff _ _ _).1 h
    clear h
    go_enter Tryz.func59, Tryz.ntmps59
    go_wp2_with (first | (go_at_call 91; refine (in_any _ _ _ _).mono ?_; rw [H.out]; rintro e w' ⟨rfl, rfl⟩))
    refine bodyPost_ret (v := .tuple #[.agg #[.int .i64 (id % 5), .int .i64 (id / 5)], .int .i64 0]) ?_ rfl ⟨rfl, Ext.alloc _ _⟩
    simp [results, Tryz.results59, go_sem]
set_option maxHeartbeats 800000 in
set_option maxRecDepth 100000 in
theorem RefOfR_any (id : Int) (w : World) : Calls Tryz.prog 60 #[.int .i64 id] w fun e w' => e = .returned (refV id) ∧ Ext w w' := by
  have hb : (Instr.build 94 #[]).run Tryz.prog = fun w => .ok (.agg #[.int .i64 0, .int .i64 0]) w := by funext w; exact run_build w 94 #[] _ (by kernel_rfl)
  by_cases h1 : id < 5
  · rw [refV_no (by unfold inB; simp; omega)]
    go_enter Tryz.func60, Tryz.ntmps60
    go_wp2
    refine bodyPost_ret (v := .tuple #[.agg #[.int .i64 0, .int .i64 0], .int .i64 1]) ?_ rfl ⟨rfl, Ext.alloc _ _⟩
    simp [results, Tryz.results60, go_sem]
  by_cases h2 : 2004 < id
  · rw [refV_no (by unfold inB; simp; omega)]
    go_enter Tryz.func60, Tryz.ntmps60
    go_wp2
    refine bodyPost_ret (v := .tuple #[.agg #[.int .i64 0, .int .i64 0], .int .i64 1]) ?_ rfl ⟨rfl, Ext.alloc _ _⟩
    simp [results, Tryz.results60, go_sem]
  rw [refV_yes (by unfold inB; simp; omega)]
  go_enter Tryz.func60, Tryz.ntmps60
  go_wp2
  refine bodyPost_ret (v := .tuple #[.agg #[.int .i64 (id % 5), .int .i64 (id / 5)], .int .i64 0]) ?_ rfl ⟨rfl, Ext.alloc _ _⟩
  simp [results, Tryz.results60, go_sem]
theorem idB_no {s n : Int} (h : s < 0 ∨ 4 < s ∨ n < 1 ∨ 400 < n) : idB s n = 0 := by
  unfold idB inB
  rw [if_neg]
  simp; omega
theorem idB_yes {s n : Int} (h : 0 ≤ s ∧ s ≤ 4 ∧ 1 ≤ n ∧ n ≤ 400) : idB s n = 5 * n + s := by
  unfold idB inB
  rw [if_pos]
  simp; omega
set_option maxHeartbeats 800000 in
set_option maxRecDepth 100000 in
theorem IdOfR_any (s n : Int) (w : World) : Calls Tryz.prog 62 #[.agg #[.int .i64 s, .int .i64 n]] w fun e w' => e = .returned (.int .i64 (idB s n)) ∧ Ext w w' := by
  have HE := Lib.hid (Ext.alloc w (.cells #[.int .i64 s, .int .i64 n] 94))
  by_cases h1 : s < 0
  · rw [idB_no (.inl h1)]
    go_enter Tryz.func62, Tryz.ntmps62
    go_wp2
    go_ret
    exact ⟨rfl, HE.out⟩
  by_cases h2 : 4 < s
  · rw [idB_no (.inr (.inl h2))]
    go_enter Tryz.func62, Tryz.ntmps62
    go_wp2
    go_ret
    exact ⟨rfl, HE.out⟩
  by_cases h3 : n < 1
  · rw [idB_no (.inr (.inr (.inl h3)))]
    go_enter Tryz.func62, Tryz.ntmps62
    go_wp2
    go_ret
    exact ⟨rfl, HE.out⟩
  by_cases h4 : 400 < n
  · rw [idB_no (.inr (.inr (.inr h4)))]
    go_enter Tryz.func62, Tryz.ntmps62
    go_wp2
    go_ret
    exact ⟨rfl, HE.out⟩
  rw [idB_yes (by omega)]
  go_enter Tryz.func62, Tryz.ntmps62
  go_wp2
  go_ret
  exact ⟨rfl, HE.out⟩
end Go.Proofs.YtgjahnomafpnfaaGreatDoor

/- Books: what sorted finds is what the reference finds; a book and its rows; no program in sight. -/
namespace Go.Proofs.YtgjahnomafpnfaaGreatDoor
open Go.RowKit
/-- The error of a record behind another one. -/
def refusedE (n : Int) (p : Option Rec) (x : Rec) : Int :=
  if formedB n x = false then 1 else
  match p with
  | none => if x.num ≠ 1 then 83 else 0
  | some p => if x.st < p.st ∨ (x.st = p.st ∧ x.num ≤ p.num) then 6 else if p.st ≠ x.st then (if x.num ≠ 1 then 83 else 0) else if x.num ≠ p.num + 1 then 83 else if x.hr < p.hr then 7 else 0
def checkGo (n : Int) : Option Rec → Nat → List Rec → Int × Int
  | _, _, [] => (0, 0)
  | p, i, x :: l => if refusedE n p x ≠ 0 then ((i : Int), refusedE n p x) else checkGo n (some x) (i + 1) l
def checkP (n : Int) (l : List Rec) : Int × Int := if inB n 2 5 then checkGo n none 0 l else (0, 1)
/-- The records of station s in a book. -/
structure RowOk (n : Int) (s : Nat) (xs : List Rec) : Prop where
  at_ : ∀ (k : Nat) y, xs[k]? = some y → y.st = (s : Int) ∧ y.num = (k : Int) + 1 ∧ formedB n y = true
  hrs : ∀ (j k : Nat) y z, j < k → xs[j]? = some y → xs[k]? = some z → y.hr ≤ z.hr
structure Book (n : Int) (rows : List (List Rec)) : Prop where
  len : rows.length = 5
  row : ∀ (s : Nat) xs, rows[s]? = some xs → RowOk n s xs
theorem formedB_st {n : Int} {x : Rec} (h : formedB n x = true) : 0 ≤ x.st ∧ x.st < n ∧ 1 ≤ x.num := by
  unfold formedB at h
  simp only [Bool.and_eq_true, inB_iff] at h
  omega
theorem RowOk.nil (n : Int) (s : Nat) : RowOk n s [] := ⟨fun k y h => by simp at h, fun j k y z _ h => by simp at h⟩
theorem RowOk.snoc {n : Int} {s : Nat} {xs : List Rec} {x : Rec} (h : RowOk n s xs) (h1 : x.st = (s : Int)) (h2 : x.num = (xs.length : Int) + 1) (h3 : formedB n x = true) (h4 : ∀ y, xs[xs.length - 1]? = some y → y.hr ≤ x.hr) : RowOk n s (xs ++ [x]) := by
  refine ⟨fun k y hk => ?_, fun j k y z hjk hj hk => ?_⟩
  · rcases Nat.lt_trichotomy k xs.length with q | q | q
    · rw [List.getElem?_append_left q] at hk; exact h.at_ k y hk
    · subst q
      simp at hk
      subst hk
      exact ⟨h1, h2, h3⟩
    · rw [List.getElem?_eq_none (by simp; omega)] at hk; cases hk
  · rcases Nat.lt_trichotomy k xs.length with q | q | q
    · rw [List.getElem?_append_left q] at hk
      rw [List.getElem?_append_left (by omega)] at hj
      exact h.hrs j k y z hjk hj hk
    · subst q
      simp at hk
      subst hk
      rw [List.getElem?_append_left hjk] at hj
      obtain ⟨u, hu⟩ : ∃ u, xs[xs.length - 1]? = some u := ⟨_, List.getElem?_eq_getElem (by omega)⟩
      have hu4 := h4 u hu
      rcases Nat.lt_or_ge j (xs.length - 1) with g | g
      · have := h.hrs j (xs.length - 1) y u g hj hu; omega
      · obtain rfl : j = xs.length - 1 := by omega
        rw [hu] at hj; cases hj; exact hu4
    · rw [List.getElem?_eq_none (by simp; omega)] at hk; cases hk
theorem RowOk.take {n : Int} {s : Nat} {xs : List Rec} (h : RowOk n s xs) (k : Nat) : RowOk n s (xs.take k) := by
  refine ⟨fun j y hj => ?_, fun i j y z hij hi hj => ?_⟩
  · rw [List.getElem?_take] at hj
    split at hj
    · exact h.at_ j y hj
    · cases hj
  · rw [List.getElem?_take] at hi hj
    split at hj
    · rw [if_pos (by omega)] at hi
      exact h.hrs i j y z hij hi hj
    · cases hj
/-- Where sorting stands: the rows so far, the last record. -/
structure BSt (n : Int) (rows : List (List Rec)) (p : Option Rec) : Prop where
  book : Book n rows
  non : p = none → rows = List.replicate 5 []
  last : ∀ x, p = some x → ∃ xs, rows[x.st.toNat]? = some (xs ++ [x]) ∧ 0 ≤ x.st ∧ ∀ (t : Nat) ys, x.st.toNat < t → rows[t]? = some ys → ys = []
theorem BSt.start (n : Int) : BSt n (List.replicate 5 []) none := by
  refine ⟨⟨by simp, fun s xs h => ?_⟩, fun _ => rfl, fun x h => by cases h⟩
  have := List.mem_of_getElem? h
  rw [List.mem_replicate] at this
  rw [this.2]; exact RowOk.nil n s
theorem twice_iff (p x : Rec) : twice (some p) x = true ↔ (x.st < p.st ∨ (x.st = p.st ∧ x.num ≤ p.num)) := by
  unfold twice or2 cmpI
  rw [decide_eq_true_eq]
  split <;> split <;> (try split) <;> (try split) <;> omega
theorem getD_some {α : Type} {l : List α} {k : Nat} {x d : α} (h : l[k]? = some x) : l.getD k d = x := by rw [List.getD_eq_getElem?_getD, h]; rfl
/-- What follows says behind a book. -/
theorem BSt.follows {n : Int} {rows : List (List Rec)} {p : Option Rec} (h : BSt n rows p) (hn : n ≤ 5) {x : Rec} (hf : formedB n x = true) (ht : twice p x = false) : refusedE n p x = followsE (rows.getD x.st.toNat []) x := by
  have hx := formedB_st hf
  have hlt : x.st.toNat < rows.length := by rw [h.book.len]; omega
  unfold refusedE
  rw [if_neg (by simp [hf])]
  cases p with
  | none =>
    have hr := h.non rfl
    subst hr
    have e : (List.replicate 5 ([] : List Rec)).getD x.st.toNat [] = [] := by
      rw [List.getD_eq_getElem?_getD, List.getElem?_replicate]; split <;> rfl
    rw [e]
    unfold followsE
    simp only [List.length_nil, Int.ofNat_eq_natCast, Nat.lt_irrefl, false_and, if_false]
    by_cases h1 : x.num = 1
    · rw [if_neg (by simpa using h1), if_neg (by omega)]
    · rw [if_pos h1, if_pos (by omega)]
  | some p =>
    obtain ⟨xs, h1, h2, h3⟩ := h.last p rfl
    have ht' : ¬ (x.st < p.st ∨ (x.st = p.st ∧ x.num ≤ p.num)) := fun q => by rw [(twice_iff p x).2 q] at ht; cases ht
    simp only
    rw [if_neg ht']
    have hp := (h.book.row _ _ h1).at_ xs.length p (by simp)
    by_cases hs : p.st = x.st
    · rw [if_neg (by simpa using hs)]
      rw [hs] at h1
      rw [getD_some h1]
      unfold followsE
      simp only [List.length_append, List.length_singleton, List.getLast?_append, List.getLast?_singleton, Option.some_or, Option.getD_some]
      have e1 : ((xs.length + 1 : Nat) : Int) + 1 = p.num + 1 := by rw [hp.2.1]; omega
      rw [e1]
      by_cases h4 : x.num = p.num + 1
      · have h4' : ¬ x.num ≠ p.num + 1 := fun q => q h4
        rw [if_neg h4', if_neg h4']
        by_cases h5 : x.hr < p.hr
        · rw [if_pos h5, if_pos ⟨by omega, h5⟩]
        · rw [if_neg h5, if_neg (fun q => h5 q.2)]
      · rw [if_pos h4, if_pos h4]
    · rw [if_pos hs]
      obtain ⟨ys, hys⟩ : ∃ ys, rows[x.st.toNat]? = some ys := ⟨_, List.getElem?_eq_getElem hlt⟩
      have he := h3 x.st.toNat ys (by omega) hys
      subst he
      rw [getD_some hys]
      unfold followsE
      simp only [List.length_nil, Nat.lt_irrefl, false_and, if_false]
      by_cases h1 : x.num = 1
      · rw [if_neg (by simpa using h1), if_neg (by omega)]
      · rw [if_pos h1, if_pos (by omega)]
theorem addRow_same {rows : List (List Rec)} {x : Rec} {xs : List Rec} (h : rows[x.st.toNat]? = some xs) : (addRow rows x)[x.st.toNat]? = some (xs ++ [x]) := by
  unfold addRow
  rw [getD_some h, List.getElem?_set_self (List.getElem?_eq_some_iff.1 h).1]
theorem addRow_other {rows : List (List Rec)} {x : Rec} {t : Nat} (h : t ≠ x.st.toNat) : (addRow rows x)[t]? = rows[t]? := by
  unfold addRow
  rw [List.getElem?_set_ne (Ne.symm h)]
theorem Book.add {n : Int} {rows : List (List Rec)} (h : Book n rows) {x : Rec} (hn : n ≤ 5) (hf : formedB n x = true) (he : followsE (rows.getD x.st.toNat []) x = 0) : Book n (addRow rows x) := by
  have hx := formedB_st hf
  have hlt : x.st.toNat < rows.length := by rw [h.len]; omega
  obtain ⟨ys, hys⟩ : ∃ ys, rows[x.st.toNat]? = some ys := ⟨_, List.getElem?_eq_getElem hlt⟩
  rw [getD_some hys] at he
  refine ⟨by simp [addRow, h.len], fun s xs hs => ?_⟩
  by_cases hst : s = x.st.toNat
  · subst hst
    rw [addRow_same hys] at hs
    cases hs
    unfold followsE at he
    split at he
    · cases he
    · rename_i h1
      split at he
      · cases he
      · rename_i h2
        refine (h.row _ _ hys).snoc (by omega) (by omega) hf (fun y hy => ?_)
        have hpos : 0 < ys.length := by have := (List.getElem?_eq_some_iff.1 hy).1; omega
        have : ys.getLast? = some y := by rw [List.getLast?_eq_getElem?]; exact hy
        rw [this] at h2
        simp only [Option.getD_some] at h2
        omega
  · rw [addRow_other hst] at hs
    exact h.row s xs hs
theorem BSt.step {n : Int} {rows : List (List Rec)} {p : Option Rec} (h : BSt n rows p) (hn : n ≤ 5) {x : Rec} (hf : formedB n x = true) (ht : twice p x = false) (he : followsE (rows.getD x.st.toNat []) x = 0) : BSt n (addRow rows x) (some x) := by
  have hx := formedB_st hf
  have hlt : x.st.toNat < rows.length := by rw [h.book.len]; omega
  obtain ⟨ys, hys⟩ : ∃ ys, rows[x.st.toNat]? = some ys := ⟨_, List.getElem?_eq_getElem hlt⟩
  refine ⟨h.book.add hn hf he, (fun e => by cases e), fun y hy => ?_⟩
  cases hy
  refine ⟨ys, addRow_same hys, hx.1, fun t zs hlt' hz => ?_⟩
  rw [addRow_other (by omega)] at hz
  cases p with
  | none =>
    have hr := h.non rfl
    subst hr
    have := List.mem_of_getElem? hz
    rw [List.mem_replicate] at this
    exact this.2
  | some p =>
    obtain ⟨xs, h1, h2, h3⟩ := h.last p rfl
    have ht' : ¬ (x.st < p.st ∨ (x.st = p.st ∧ x.num ≤ p.num)) := fun q => by rw [(twice_iff p x).2 q] at ht; cases ht
    exact h3 t zs (by omega) hz
theorem flatten_append_nils {rows : List (List Rec)} : ∀ {k : Nat}, (∀ (t : Nat) ys, k < t → rows[t]? = some ys → ys = []) → ∀ {xs : List Rec} (x : Rec), rows[k]? = some xs → (rows.set k (xs ++ [x])).flatten = rows.flatten ++ [x] := by
  induction rows with
  | nil => intro k _ xs x h; simp at h
  | cons r rows ih =>
    intro k hk xs x h
    cases k with
    | zero =>
      simp at h
      subst h
      have hz : ∀ ys ∈ rows, ys = [] := fun ys hys => by
        obtain ⟨i, hi⟩ := List.getElem?_of_mem hys
        exact hk (i + 1) ys (by omega) (by simpa using hi)
      have : rows.flatten = [] := by rw [List.flatten_eq_nil_iff]; exact hz
      simp [this]
    | succ k =>
      simp only [List.set_cons_succ, List.flatten_cons]
      rw [ih (fun t ys ht hy => hk (t + 1) ys (by omega) (by simpa using hy)) x (by simpa using h), List.append_assoc]
theorem BSt.flatten {n : Int} {rows : List (List Rec)} {p : Option Rec} (h : BSt n rows p) (hn : n ≤ 5) {x : Rec} (hf : formedB n x = true) (ht : twice p x = false) (he : followsE (rows.getD x.st.toNat []) x = 0) : (addRow rows x).flatten = rows.flatten ++ [x] := by
  have hx := formedB_st hf
  have hlt : x.st.toNat < rows.length := by rw [h.book.len]; omega
  obtain ⟨ys, hys⟩ : ∃ ys, rows[x.st.toNat]? = some ys := ⟨_, List.getElem?_eq_getElem hlt⟩
  have hs := (h.step hn hf ht he).last x rfl
  obtain ⟨_, _, _, h3⟩ := hs
  unfold addRow
  rw [getD_some hys]
  refine flatten_append_nils (fun t zs ht hz => ?_) x hys
  exact h3 t zs ht (by rw [addRow_other (by omega)]; exact hz)
theorem sortGo_check {n : Int} (hn : n ≤ 5) : ∀ (l : List Rec) (rows : List (List Rec)) (p : Option Rec) (i : Nat), BSt n rows p → (sortGo n rows p i l).2 = checkGo n p i l ∧ ((sortGo n rows p i l).2.2 = 0 → Book n (sortGo n rows p i l).1 ∧ (sortGo n rows p i l).1.flatten = rows.flatten ++ l)
  | [], rows, p, i, h => ⟨rfl, fun _ => ⟨h.book, by simp [sortGo]⟩⟩
  | x :: l, rows, p, i, h => by
    unfold sortGo checkGo
    by_cases hf : formedB n x = true
    · rw [if_neg (by simp [hf])]
      by_cases ht : twice p x = true
      · rw [if_pos ht]
        have : refusedE n p x = 6 := by
          cases p with
          | none => simp [twice] at ht
          | some p => unfold refusedE; rw [if_neg (by simp [hf])]; simp only; rw [if_pos ((twice_iff p x).1 ht)]
        rw [this]
        exact ⟨rfl, fun e => by simp at e⟩
      · have ht' : twice p x = false := by simpa using ht
        rw [if_neg ht]
        have he := h.follows hn hf ht'
        rw [he]
        by_cases h0 : followsE (rows.getD x.st.toNat []) x = 0
        · rw [if_neg (fun q => q h0), if_neg (fun q => q h0)]
          have := sortGo_check hn l _ (some x) (i + 1) (h.step hn hf ht' h0)
          refine ⟨this.1, fun e => ⟨(this.2 e).1, ?_⟩⟩
          have h2 := (this.2 e).2
          rw [h.flatten hn hf ht' h0, List.append_assoc] at h2
          exact h2
        · rw [if_pos h0, if_pos h0]
          exact ⟨rfl, fun e => (h0 e).elim⟩
    · have hf' : formedB n x = false := by simpa using hf
      rw [if_pos hf']
      have : refusedE n p x = 1 := by unfold refusedE; rw [if_pos hf']
      rw [this]
      exact ⟨rfl, fun e => by simp at e⟩
/-- What sorted says is what the reference says. -/
theorem check_same (n : Int) (l : List Rec) : (sortedP n l).2 = checkP n l := by
  unfold sortedP checkP
  by_cases hn : inB n 2 5 = true
  · rw [if_pos hn, if_pos hn]
    exact (sortGo_check ((inB_iff _ _ _).1 hn).2 l _ none 0 (BSt.start n)).1
  · rw [if_neg hn, if_neg hn]
theorem sorted_book {n : Int} {l : List Rec} (h : (sortedP n l).2.2 = 0) : (2 ≤ n ∧ n ≤ 5) ∧ Book n (sortedP n l).1 ∧ (sortedP n l).1.flatten = l := by
  unfold sortedP at h ⊢
  by_cases hn : inB n 2 5 = true
  · rw [if_pos hn] at h ⊢
    have := (sortGo_check ((inB_iff _ _ _).1 hn).2 l _ none 0 (BSt.start n)).2 h
    exact ⟨(inB_iff _ _ _).1 hn, this.1, by simpa using this.2⟩
  · rw [if_neg hn] at h
    cases h
/-- The records of a row, one behind the other. -/
theorem sortGo_row {n : Int} (hn : n ≤ 5) (s : Nat) (hs : s < 5) (tl : List Rec) : ∀ (k : Nat) (xs : List Rec), xs.length = k → RowOk n s xs → ∀ (rows : List (List Rec)) (p : Option Rec) (i j : Nat), BSt n rows p → j ≤ xs.length → rows.getD s [] = xs.take j → (∀ (t : Nat) ys, s < t → rows[t]? = some ys → ys = []) → (∀ y, p = some y → y.st.toNat < s ∨ (y.st = (s : Int) ∧ y.num = (j : Int) ∧ 0 < j)) →
    ∃ p', sortGo n rows p i (xs.drop j ++ tl) = sortGo n (rows.set s xs) p' (i + (xs.length - j)) tl ∧ BSt n (rows.set s xs) p' ∧ (∀ y, p' = some y → y.st.toNat < s + 1) := by
  intro k xs hk hR rows p i j hB hj hrow hz hp
  obtain ⟨d, hd⟩ : ∃ d, d = xs.length - j := ⟨_, rfl⟩
  induction d generalizing j rows p i with
  | zero =>
    obtain rfl : j = xs.length := by omega
    have hlt5 : s < rows.length := by rw [hB.book.len]; exact hs
    have hget : rows[s]? = some (xs.take xs.length) := by rw [List.getElem?_eq_getElem hlt5]; rw [List.getD_eq_getElem?_getD, List.getElem?_eq_getElem hlt5] at hrow; simpa using hrow
    rw [List.take_length] at hrow hget
    have hself : rows.set s xs = rows := by
      apply List.ext_getElem?
      intro t
      by_cases h : t = s
      · rw [h, List.getElem?_set_self hlt5, hget]
      · rw [List.getElem?_set_ne (Ne.symm h)]
    refine ⟨p, by rw [hself]; simp, by rw [hself]; exact hB, fun y hy => ?_⟩
    rcases hp y hy with q | q <;> omega
  | succ d ih =>
    have hlt5 : s < rows.length := by rw [hB.book.len]; exact hs
    obtain ⟨x, hx⟩ : ∃ x, xs[j]? = some x := ⟨_, List.getElem?_eq_getElem (by omega)⟩
    have hxo := hR.at_ j x hx
    have hdrop : xs.drop j = x :: xs.drop (j + 1) := by rw [List.drop_eq_getElem_cons (by omega)]; rw [List.getElem?_eq_getElem (by omega)] at hx; rw [Option.some.inj hx]
    have hst : x.st.toNat = s := by omega
    have ht : twice p x = false := by
      cases p with
      | none => rfl
      | some y =>
        have hy0 := (hB.last y rfl)
        obtain ⟨_, _, hy0, _⟩ := hy0
        apply Bool.eq_false_iff.2
        rw [Ne, twice_iff]
        rcases hp y rfl with q | q <;> omega
    have hfo : followsE (rows.getD x.st.toNat []) x = 0 := by
      rw [hst, hrow]
      unfold followsE
      rw [if_neg (by rw [List.length_take]; have := hxo.2.1; simp; omega), if_neg]
      rintro ⟨q1, q2⟩
      rw [List.length_take] at q1
      obtain ⟨y, hy⟩ : ∃ y, xs[j - 1]? = some y := ⟨_, List.getElem?_eq_getElem (by omega)⟩
      have hl : (xs.take j).getLast? = some y := by rw [List.getLast?_eq_getElem?, List.length_take, List.getElem?_take, if_pos (by omega), show min j xs.length - 1 = j - 1 from by omega, hy]
      rw [hl] at q2
      simp only [Option.getD_some] at q2
      have := hR.hrs (j - 1) j y x (by omega) hy hx
      omega
    have hnx := hB.step hn hxo.2.2 ht hfo
    have hadd : addRow rows x = rows.set s (xs.take (j + 1)) := by
      unfold addRow
      rw [hst, hrow, List.take_add_one, hx]; rfl
    obtain ⟨p', e1, e2, e3⟩ := ih (addRow rows x) (some x) (i + 1) (j + 1) hnx (by omega) (by rw [hadd, List.getD_eq_getElem?_getD, List.getElem?_set_self hlt5]; rfl)
      (fun t ys hts hy => by rw [addRow_other (by omega)] at hy; exact hz t ys hts hy) (fun y hy => by cases hy; right; refine ⟨hxo.1, by omega, by omega⟩) (by omega)
    have hss : (addRow rows x).set s xs = rows.set s xs := by rw [hadd, List.set_set]
    rw [hss] at e1 e2
    refine ⟨p', ?_, e2, e3⟩
    rw [hdrop, List.cons_append]
    conv => lhs; unfold sortGo
    rw [if_neg (by simp [hxo.2.2]), if_neg (by simp [ht]), if_neg (fun q => q hfo)]
    show sortGo n (addRow rows x) (some x) (i + 1) (xs.drop (j + 1) ++ tl) = _
    rw [e1, show i + 1 + (xs.length - (j + 1)) = i + (xs.length - j) from by omega]
/-- A book's rows, put one behind the other, are sorted into these rows. -/
theorem book_sorted {n : Int} {rows : List (List Rec)} (hn : 2 ≤ n ∧ n ≤ 5) (h : Book n rows) : sortedP n rows.flatten = (rows, 0, 0) := by
  obtain ⟨r0, r1, r2, r3, r4, rfl⟩ := len5 h.len
  have hn' : inB n 2 5 = true := (inB_iff _ _ _).2 hn
  unfold sortedP
  rw [if_pos hn']
  have R := fun (s : Nat) xs e => h.row s xs e
  obtain ⟨p0, a0, b0, c0⟩ := sortGo_row hn.2 0 (by omega) (r1 ++ (r2 ++ (r3 ++ (r4 ++ [])))) _ r0 rfl (R 0 r0 rfl) _ none 0 0 (BSt.start n) (by omega) rfl (fun t ys _ hy => by have := List.mem_of_getElem? hy; rw [List.mem_replicate] at this; exact this.2) (fun y e => by cases e)
  obtain ⟨p1, a1, b1, c1⟩ := sortGo_row hn.2 1 (by omega) (r2 ++ (r3 ++ (r4 ++ []))) _ r1 rfl (R 1 r1 rfl) _ p0 (0 + (r0.length - 0)) 0 b0 (by omega) rfl (fun t ys ht hy => by
    rcases (by have := (List.getElem?_eq_some_iff.1 hy).1; simp at this; omega : t = 2 ∨ t = 3 ∨ t = 4) with rfl | rfl | rfl <;> simpa [eq_comm] using hy) (fun y e => .inl (by have := c0 y e; omega))
  obtain ⟨p2, a2, b2, c2⟩ := sortGo_row hn.2 2 (by omega) (r3 ++ (r4 ++ [])) _ r2 rfl (R 2 r2 rfl) _ p1 (0 + (r0.length - 0) + (r1.length - 0)) 0 b1 (by omega) rfl (fun t ys ht hy => by
    rcases (by have := (List.getElem?_eq_some_iff.1 hy).1; simp at this; omega : t = 3 ∨ t = 4) with rfl | rfl <;> simpa [eq_comm] using hy) (fun y e => .inl (by have := c1 y e; omega))
  obtain ⟨p3, a3, b3, c3⟩ := sortGo_row hn.2 3 (by omega) (r4 ++ []) _ r3 rfl (R 3 r3 rfl) _ p2 (0 + (r0.length - 0) + (r1.length - 0) + (r2.length - 0)) 0 b2 (by omega) rfl (fun t ys ht hy => by
    obtain rfl : t = 4 := by have := (List.getElem?_eq_some_iff.1 hy).1; simp at this; omega
    simpa [eq_comm] using hy) (fun y e => .inl (by have := c2 y e; omega))
  obtain ⟨p4, a4, b4, c4⟩ := sortGo_row hn.2 4 (by omega) [] _ r4 rfl (R 4 r4 rfl) _ p3 (0 + (r0.length - 0) + (r1.length - 0) + (r2.length - 0) + (r3.length - 0)) 0 b3 (by omega) rfl (fun t ys ht hy => by
    have := (List.getElem?_eq_some_iff.1 hy).1; simp at this; omega) (fun y e => .inl (by have := c3 y e; omega))
  simp only [List.drop_zero] at a0 a1 a2 a3 a4
  show sortGo n _ none 0 (r0 ++ (r1 ++ (r2 ++ (r3 ++ (r4 ++ []))))) = _
  rw [a0, a1, a2, a3, a4]
  rfl
end Go.Proofs.YtgjahnomafpnfaaGreatDoor

/- Merging and cutting books: no program in sight. -/
namespace Go.Proofs.YtgjahnomafpnfaaGreatDoor
open Go.RowKit
/-- One of two rows begins the other. -/
def compat : List Rec → List Rec → Bool
  | x :: xs, y :: ys => recB x y && compat xs ys
  | _, _ => true
def longer (xs ys : List Rec) : List Rec := if xs.length < ys.length then ys else xs
def mergeRows : List (List Rec) → List (List Rec) → List (List Rec)
  | x :: xs, y :: ys => longer x y :: mergeRows xs ys
  | _, _ => []
def compatAll : List (List Rec) → List (List Rec) → Bool
  | x :: xs, y :: ys => compat x y && compatAll xs ys
  | _, _ => true
/-- The error and the book of Merge. -/
def mergeE (n : Int) (a b : List Rec) : Int :=
  if (sortedP n a).2.2 ≠ 0 then (sortedP n a).2.2 else if (sortedP n b).2.2 ≠ 0 then (sortedP n b).2.2 else if compatAll (sortedP n a).1 (sortedP n b).1 then 0 else 8
def mergeL (n : Int) (a b : List Rec) : List Rec := if mergeE n a b = 0 then (mergeRows (sortedP n a).1 (sortedP n b).1).flatten else []
theorem compat_iff : ∀ (xs ys : List Rec), compat xs ys = true ↔ (xs <+: ys ∨ ys <+: xs)
  | [], ys => by simp [compat]
  | x :: xs, [] => by simp [compat]
  | x :: xs, y :: ys => by
    unfold compat
    rw [Bool.and_eq_true, recB_iff, compat_iff xs ys, List.cons_prefix_cons, List.cons_prefix_cons]
    constructor
    · rintro ⟨rfl, h | h⟩
      · exact .inl ⟨rfl, h⟩
      · exact .inr ⟨rfl, h⟩
    · rintro (⟨rfl, h⟩ | ⟨rfl, h⟩)
      · exact ⟨rfl, .inl h⟩
      · exact ⟨rfl, .inr h⟩
theorem compat_self (xs : List Rec) : compat xs xs = true := (compat_iff _ _).2 (.inl (List.prefix_refl _))
theorem compat_symm (xs ys : List Rec) : compat xs ys = compat ys xs := by
  rw [Bool.eq_iff_iff, compat_iff, compat_iff]; exact Or.comm
theorem longer_self (xs : List Rec) : longer xs xs = xs := by simp [longer]
theorem longer_comm {xs ys : List Rec} (h : compat xs ys = true) : longer xs ys = longer ys xs := by
  unfold longer
  rcases (compat_iff _ _).1 h with q | q
  · rcases Nat.lt_trichotomy xs.length ys.length with g | g | g
    · rw [if_pos g, if_neg (by omega)]
    · rw [if_neg (by omega), if_neg (by omega)]; exact q.eq_of_length g
    · have := q.length_le; omega
  · rcases Nat.lt_trichotomy xs.length ys.length with g | g | g
    · have := q.length_le; omega
    · rw [if_neg (by omega), if_neg (by omega)]; exact (q.eq_of_length g.symm).symm
    · rw [if_neg (by omega), if_pos g]
theorem longer_pre {xs ys : List Rec} (h : xs <+: ys) : longer xs ys = ys := by
  unfold longer
  split
  · rfl
  · have := h.length_le; exact h.eq_of_length (by omega)
theorem longer_pre' {xs ys : List Rec} (h : ys <+: xs) : longer xs ys = xs := by
  unfold longer
  split
  · have := h.length_le; omega
  · rfl
/-- Of three rows. -/
theorem compat_three {a b c : List Rec} (h1 : compat a b = true) (h2 : compat b c = true) : compat (longer a b) c = compat a (longer b c) ∧ (compat (longer a b) c = true → longer (longer a b) c = longer a (longer b c)) := by
  rcases (compat_iff _ _).1 h1 with q | q <;> rcases (compat_iff _ _).1 h2 with g | g
  · rw [longer_pre q, longer_pre g, h2, longer_pre (q.trans g)]
    exact ⟨((compat_iff _ _).2 (.inl (q.trans g))).symm, fun _ => rfl⟩
  · rw [longer_pre q, longer_pre' g, h2, h1, longer_pre q]
    exact ⟨rfl, fun _ => rfl⟩
  · rw [longer_pre' q, longer_pre g]
    exact ⟨rfl, fun _ => rfl⟩
  · rw [longer_pre' q, longer_pre' g, h1, longer_pre' q, longer_pre' (g.trans q)]
    exact ⟨(compat_iff _ _).2 (.inr (g.trans q)), fun _ => rfl⟩
theorem mergeRows_len : ∀ (xs ys : List (List Rec)), xs.length = ys.length → (mergeRows xs ys).length = xs.length
  | [], [], _ => rfl
  | x :: xs, y :: ys, h => by simp [mergeRows, mergeRows_len xs ys (by simpa using h)]
theorem mergeRows_get : ∀ (xs ys : List (List Rec)) (s : Nat) (a b : List Rec), xs[s]? = some a → ys[s]? = some b → (mergeRows xs ys)[s]? = some (longer a b)
  | x :: xs, y :: ys, 0, a, b, h, h' => by simp at h h'; subst h h'; rfl
  | x :: xs, y :: ys, s + 1, a, b, h, h' => by simpa [mergeRows] using mergeRows_get xs ys s a b (by simpa using h) (by simpa using h')
  | [], _, s, a, b, h, _ => by simp at h
  | _ :: _, [], s, a, b, _, h' => by simp at h'
theorem mergeRows_self : ∀ (xs : List (List Rec)), mergeRows xs xs = xs
  | [] => rfl
  | x :: xs => by rw [mergeRows, longer_self, mergeRows_self xs]
theorem compatAll_self : ∀ (xs : List (List Rec)), compatAll xs xs = true
  | [] => rfl
  | x :: xs => by rw [compatAll, compat_self, compatAll_self xs]; rfl
theorem compatAll_symm : ∀ (xs ys : List (List Rec)), compatAll xs ys = compatAll ys xs
  | [], [] => rfl
  | [], _ :: _ => rfl
  | _ :: _, [] => rfl
  | x :: xs, y :: ys => by rw [compatAll, compatAll, compat_symm, compatAll_symm xs ys]
theorem mergeRows_comm : ∀ (xs ys : List (List Rec)), compatAll xs ys = true → mergeRows xs ys = mergeRows ys xs
  | [], [], _ => rfl
  | [], _ :: _, _ => rfl
  | _ :: _, [], _ => rfl
  | x :: xs, y :: ys, h => by
    rw [compatAll, Bool.and_eq_true] at h
    rw [mergeRows, mergeRows, longer_comm h.1, mergeRows_comm xs ys h.2]
theorem compatAll_three : ∀ (a b c : List (List Rec)), a.length = b.length → b.length = c.length → compatAll a b = true → compatAll b c = true →
    compatAll (mergeRows a b) c = compatAll a (mergeRows b c) ∧ (compatAll (mergeRows a b) c = true → mergeRows (mergeRows a b) c = mergeRows a (mergeRows b c))
  | [], [], [], _, _, _, _ => ⟨rfl, fun _ => rfl⟩
  | x :: a, y :: b, z :: c, l1, l2, h1, h2 => by
    rw [compatAll, Bool.and_eq_true] at h1 h2
    have := compat_three h1.1 h2.1
    have ih := compatAll_three a b c (by simpa using l1) (by simpa using l2) h1.2 h2.2
    simp only [mergeRows, compatAll]
    rw [this.1, ih.1]
    refine ⟨rfl, fun h => ?_⟩
    rw [Bool.and_eq_true] at h
    rw [this.2 (by rw [this.1]; exact h.1), ih.2 (by rw [ih.1]; exact h.2)]
theorem longer_ok {n : Int} {s : Nat} {a b : List Rec} (ha : RowOk n s a) (hb : RowOk n s b) : RowOk n s (longer a b) := by
  unfold longer; split <;> assumption
theorem Book.merge {n : Int} {a b : List (List Rec)} (ha : Book n a) (hb : Book n b) : Book n (mergeRows a b) := by
  refine ⟨by rw [mergeRows_len _ _ (by rw [ha.len, hb.len]), ha.len], fun s xs h => ?_⟩
  have hs : s < 5 := by have := (List.getElem?_eq_some_iff.1 h).1; rw [mergeRows_len _ _ (by rw [ha.len, hb.len]), ha.len] at this; exact this
  obtain ⟨x, hx⟩ : ∃ x, a[s]? = some x := ⟨_, List.getElem?_eq_getElem (by rw [ha.len]; exact hs)⟩
  obtain ⟨y, hy⟩ : ∃ y, b[s]? = some y := ⟨_, List.getElem?_eq_getElem (by rw [hb.len]; exact hs)⟩
  rw [mergeRows_get _ _ s x y hx hy] at h
  cases h
  exact longer_ok (ha.row s x hx) (hb.row s y hy)
/-! ### Merge of books -/
section
variable {n : Int} {a b c : List Rec}
theorem mergeE_ok (h : mergeE n a b = 0) : (sortedP n a).2.2 = 0 ∧ (sortedP n b).2.2 = 0 ∧ compatAll (sortedP n a).1 (sortedP n b).1 = true := by
  unfold mergeE at h
  split at h
  · exact absurd h ‹_›
  · split at h
    · exact absurd h ‹_›
    · split at h
      · rename_i h1 h2 h3
        exact ⟨by omega, by omega, h3⟩
      · cases h
theorem mergeE_of (h1 : (sortedP n a).2.2 = 0) (h2 : (sortedP n b).2.2 = 0) : mergeE n a b = if compatAll (sortedP n a).1 (sortedP n b).1 then 0 else 8 := by
  unfold mergeE; rw [if_neg (by simp [h1]), if_neg (by simp [h2])]
/-- What is merged is a book. -/
theorem merge_sorted (h : mergeE n a b = 0) : sortedP n (mergeL n a b) = (mergeRows (sortedP n a).1 (sortedP n b).1, 0, 0) := by
  obtain ⟨h1, h2, _⟩ := mergeE_ok h
  obtain ⟨hn, ba, _⟩ := sorted_book h1
  obtain ⟨_, bb, _⟩ := sorted_book h2
  unfold mergeL
  rw [if_pos h]
  exact book_sorted hn (ba.merge bb)
theorem merge_self (h : (sortedP n a).2.2 = 0) : mergeE n a a = 0 ∧ mergeL n a a = a := by
  have e : mergeE n a a = 0 := by rw [mergeE_of h h, compatAll_self]; rfl
  refine ⟨e, ?_⟩
  unfold mergeL
  rw [if_pos e, mergeRows_self]
  exact (sorted_book h).2.2
theorem merge_comm (n : Int) (a b : List Rec) : (mergeE n a b = 0 ↔ mergeE n b a = 0) ∧ mergeL n a b = mergeL n b a := by
  have key : ∀ a b, mergeE n a b = 0 → mergeE n b a = 0 := fun a b h => by
    obtain ⟨h1, h2, h3⟩ := mergeE_ok h
    rw [mergeE_of h2 h1, compatAll_symm, h3]; rfl
  refine ⟨⟨key a b, key b a⟩, ?_⟩
  unfold mergeL
  by_cases h : mergeE n a b = 0
  · rw [if_pos h, if_pos (key a b h), mergeRows_comm _ _ (mergeE_ok h).2.2]
  · rw [if_neg h, if_neg (fun q => h (key b a q))]
theorem merge_three (h1 : mergeE n a b = 0) (h2 : mergeE n b c = 0) : mergeE n (mergeL n a b) c = mergeE n a (mergeL n b c) ∧ mergeL n (mergeL n a b) c = mergeL n a (mergeL n b c) := by
  obtain ⟨a0, b0, ab⟩ := mergeE_ok h1
  obtain ⟨_, c0, bc⟩ := mergeE_ok h2
  have s1 := merge_sorted h1
  have s2 := merge_sorted h2
  have l1 := (sorted_book a0).2.1.len
  have l2 := (sorted_book b0).2.1.len
  have l3 := (sorted_book c0).2.1.len
  have t := compatAll_three _ _ _ (l1.trans l2.symm) (l2.trans l3.symm) ab bc
  have e1 : mergeE n (mergeL n a b) c = if compatAll (mergeRows (sortedP n a).1 (sortedP n b).1) (sortedP n c).1 then 0 else 8 := by
    rw [mergeE_of (by rw [s1]) c0, s1]
  have e2 : mergeE n a (mergeL n b c) = if compatAll (sortedP n a).1 (mergeRows (sortedP n b).1 (sortedP n c).1) then 0 else 8 := by
    rw [mergeE_of a0 (by rw [s2]), s2]
  have e3 : mergeE n (mergeL n a b) c = mergeE n a (mergeL n b c) := by rw [e1, e2, t.1]
  refine ⟨e3, ?_⟩
  have L : ∀ a b, mergeL n a b = if mergeE n a b = 0 then (mergeRows (sortedP n a).1 (sortedP n b).1).flatten else [] := fun _ _ => rfl
  rw [L (mergeL n a b) c, L a (mergeL n b c), ← e3]
  by_cases h : mergeE n (mergeL n a b) c = 0
  · rw [if_pos h, if_pos h]
    show (mergeRows (sortedP n (mergeL n a b)).1 (sortedP n c).1).flatten = (mergeRows (sortedP n a).1 (sortedP n (mergeL n b c)).1).flatten
    rw [s1, s2]
    simp only
    rw [t.2]
    rw [e1] at h
    by_cases q : compatAll (mergeRows (sortedP n a).1 (sortedP n b).1) (sortedP n c).1 = true
    · exact q
    · rw [if_neg q] at h; cases h
  · rw [if_neg h, if_neg h]
end
/-! ### Until -/
def upTo (hour : Int) (xs : List Rec) : List Rec := xs.filter fun x => !laterB hour x
theorem later_not (hour : Int) (x : Rec) : (!laterB hour x) = decide (x.hr ≤ hour) := by
  unfold laterB
  by_cases h : hour < x.hr
  · rw [decide_eq_true h, decide_eq_false (by omega)]; rfl
  · rw [decide_eq_false h, decide_eq_true (by omega)]; rfl
/-- Of hours that do not descend, those up to one are the first ones. -/
theorem upTo_pre (hour : Int) : ∀ (xs : List Rec), (∀ (j k : Nat) y z, j < k → xs[j]? = some y → xs[k]? = some z → y.hr ≤ z.hr) → ∃ k, upTo hour xs = xs.take k
  | [], _ => ⟨0, rfl⟩
  | x :: xs, h => by
    have ih := upTo_pre hour xs (fun j k y z hjk hj hk => h (j + 1) (k + 1) y z (by omega) (by simpa using hj) (by simpa using hk))
    obtain ⟨k, hk⟩ := ih
    by_cases hx : x.hr ≤ hour
    · refine ⟨k + 1, ?_⟩
      unfold upTo at hk ⊢
      rw [List.filter_cons, later_not, if_pos (by simpa using hx), hk]; rfl
    · refine ⟨0, ?_⟩
      unfold upTo
      rw [List.take_zero, List.filter_eq_nil_iff]
      intro y hy
      rw [later_not]
      obtain ⟨i, hi⟩ := List.getElem?_of_mem hy
      cases i with
      | zero => simp at hi; subst hi; simpa using hx
      | succ i =>
        have := h 0 (i + 1) x y (by omega) rfl hi
        simp; omega
theorem Book.upTo {n : Int} {rows : List (List Rec)} (h : Book n rows) (hour : Int) : Book n (rows.map (upTo hour)) ∧ ∀ (s : Nat) xs, rows[s]? = some xs → ∃ k, Go.Proofs.YtgjahnomafpnfaaGreatDoor.upTo hour xs = xs.take k := by
  have key : ∀ (s : Nat) xs, rows[s]? = some xs → ∃ k, Go.Proofs.YtgjahnomafpnfaaGreatDoor.upTo hour xs = xs.take k := fun s xs hs => upTo_pre hour xs (h.row s xs hs).hrs
  refine ⟨⟨by simp [h.len], fun s xs hs => ?_⟩, key⟩
  rw [List.getElem?_map] at hs
  cases hr : rows[s]? with
  | none => rw [hr] at hs; cases hs
  | some ys =>
    rw [hr] at hs
    simp only [Option.map_some, Option.some.injEq] at hs
    obtain ⟨k, hk⟩ := key s ys hr
    rw [← hs, hk]
    exact (h.row s ys hr).take k
theorem filter_flatten (p : Rec → Bool) : ∀ (rows : List (List Rec)), (rows.map (List.filter p)).flatten = rows.flatten.filter p
  | [] => rfl
  | r :: rows => by rw [List.map_cons, List.flatten_cons, List.flatten_cons, List.filter_append, filter_flatten p rows]
theorem until_sorted {n : Int} {a : List Rec} (h : (sortedP n a).2.2 = 0) (hour : Int) : sortedP n (upTo hour a) = ((sortedP n a).1.map (upTo hour), 0, 0) := by
  obtain ⟨hn, ba, fa⟩ := sorted_book h
  have := book_sorted hn (ba.upTo hour).1
  have e : ((sortedP n a).1.map (upTo hour)).flatten = upTo hour a := by
    rw [show (upTo hour : List Rec → List Rec) = List.filter (fun x => !laterB hour x) from rfl, filter_flatten, fa]
  rwa [e] at this
theorem compatAll_pre : ∀ (xs ys : List (List Rec)), xs.length = ys.length → (∀ (s : Nat) x y, xs[s]? = some x → ys[s]? = some y → x <+: y) → compatAll xs ys = true ∧ mergeRows xs ys = ys
  | [], [], _, _ => ⟨rfl, rfl⟩
  | x :: xs, y :: ys, l, h => by
    have h0 := h 0 x y rfl rfl
    have ih := compatAll_pre xs ys (by simpa using l) (fun s a b ha hb => h (s + 1) a b (by simpa using ha) (by simpa using hb))
    rw [compatAll, mergeRows, ih.1, ih.2, longer_pre h0, (compat_iff x y).2 (.inl h0)]
    exact ⟨rfl, rfl⟩
theorem merge_until {n : Int} {a : List Rec} (h : (sortedP n a).2.2 = 0) (hour : Int) : mergeE n (upTo hour a) a = 0 ∧ mergeL n (upTo hour a) a = a := by
  obtain ⟨hn, ba, fa⟩ := sorted_book h
  have s := until_sorted h hour
  have hp := compatAll_pre ((sortedP n a).1.map (upTo hour)) (sortedP n a).1 (by simp) (fun s x y hx hy => by
    rw [List.getElem?_map, hy] at hx
    simp only [Option.map_some, Option.some.injEq] at hx
    obtain ⟨k, hk⟩ := (ba.upTo hour).2 s y hy
    rw [← hx, hk]
    exact List.take_prefix k y)
  have e : mergeE n (upTo hour a) a = 0 := by rw [mergeE_of (by rw [s]) h, s, hp.1]; rfl
  refine ⟨e, ?_⟩
  unfold mergeL
  rw [if_pos e, s]
  simp only
  rw [hp.2, fa]
end Go.Proofs.YtgjahnomafpnfaaGreatDoor

/- Merge: the walk. -/
namespace Go.Proofs.YtgjahnomafpnfaaGreatDoor
open Go.RowKit
theorem compat_false : ∀ {xs ys : List Rec} {k : Nat} {x y : Rec}, xs[k]? = some x → ys[k]? = some y → recB x y = false → compat xs ys = false
  | [], _, _, _, _, h, _, _ => by simp at h
  | _ :: _, [], _, _, _, _, h, _ => by simp at h
  | a :: xs, b :: ys, 0, x, y, h, h', hr => by simp at h h'; subst h h'; unfold compat; rw [hr]; rfl
  | a :: xs, b :: ys, k + 1, x, y, h, h', hr => by
    unfold compat
    rw [compat_false (xs := xs) (ys := ys) (k := k) (by simpa using h) (by simpa using h') hr, Bool.and_false]
theorem compat_true : ∀ {xs ys : List Rec}, (∀ (k : Nat) x y, xs[k]? = some x → ys[k]? = some y → recB x y = true) → compat xs ys = true
  | [], _, _ => rfl
  | _ :: _, [], _ => rfl
  | a :: xs, b :: ys, h => by
    unfold compat
    rw [h 0 a b rfl rfl, compat_true (fun k x y hx hy => h (k + 1) x y (by simpa using hx) (by simpa using hy))]
    rfl
theorem compatAll_false : ∀ {ra rb : List (List Rec)} {k : Nat} {x y : List Rec}, ra[k]? = some x → rb[k]? = some y → compat x y = false → compatAll ra rb = false
  | [], _, _, _, _, h, _, _ => by simp at h
  | _ :: _, [], _, _, _, _, h, _ => by simp at h
  | a :: xs, b :: ys, 0, x, y, h, h', hr => by simp at h h'; subst h h'; unfold compatAll; rw [hr]; rfl
  | a :: xs, b :: ys, k + 1, x, y, h, h', hr => by
    unfold compatAll
    rw [compatAll_false (ra := xs) (rb := ys) (k := k) (by simpa using h) (by simpa using h') hr, Bool.and_false]
theorem compatAll_true : ∀ {ra rb : List (List Rec)}, (∀ (k : Nat) x y, ra[k]? = some x → rb[k]? = some y → compat x y = true) → compatAll ra rb = true
  | [], _, _ => rfl
  | _ :: _, [], _ => rfl
  | a :: xs, b :: ys, h => by
    unfold compatAll
    rw [h 0 a b rfl rfl, compatAll_true (fun k x y hx hy => h (k + 1) x y (by simpa using hx) (by simpa using hy))]
    rfl
/-- Of two lists, at each place below k what mergeRows takes, behind it the first one's. -/
def mixV (ra rb : List (List Rec)) (va vb : List Value) (k j : Nat) : Value := if j < k ∧ (ra.getD j []).length < (rb.getD j []).length then vb.getD j undef else va.getD j undef
/-- Where the loop of Merge stands: the two shelves X and Y. -/
structure MRel (W wr : World) (X : Nat) (va vb : List Value) (ra rb : List (List Rec)) (k : Nat) : Prop where
  kn : k ≤ 5
  fr : FrB (fun j => j = X) W wr
  cx : ∀ j, j < 5 → wr.cell? ⟨X, j, none⟩ = some (mixV ra rb va vb k j)
  fx : ∀ j, j < 5 → wr.frozen? ⟨X, j, none⟩ = false
  ok : ∀ j, j < k → compat (ra.getD j []) (rb.getD j []) = true
/-- The two shelves of Merge. -/
structure MPair (W : World) (X Y : Nat) (va vb : List Value) (ra rb : List (List Rec)) : Prop where
  xlt : X < W.heap.size
  ylt : Y < W.heap.size
  ne : Y ≠ X
  la : ra.length = 5
  lb : rb.length = 5
  sa : ∀ j, j < 5 → ∀ wr, FrB (fun i => i = X) W wr → SlR wr (va.getD j undef) (ra.getD j [])
  sb : ∀ j, j < 5 → ∀ wr, FrB (fun i => i = X) W wr → SlR wr (vb.getD j undef) (rb.getD j [])
  cy : ∀ j, j < 5 → W.cell? ⟨Y, j, none⟩ = some (vb.getD j undef)
section
variable {W wr : World} {X Y : Nat} {va vb : List Value} {ra rb : List (List Rec)} {k : Nat}
theorem FrB.setX (a : World) (X j : Nat) (v : Value) : FrB (fun i => i = X) a (a.setCell ⟨X, j, none⟩ v) := FrB.setCell _ a ⟨X, j, none⟩ v rfl
theorem MRel.ext {w2 : World} (h : MRel W wr X va vb ra rb k) (hX : X < W.heap.size) (hE : Ext wr w2) : MRel W w2 X va vb ra rb k :=
  ⟨h.kn, h.fr.trans (FrB.ext hE (S := fun _ => False)) (fun _ _ e => e.elim), fun j hj => hE.keep (h.cx j hj), fun j hj => (hE.frozen (p := ⟨X, j, none⟩) (Nat.lt_of_lt_of_le hX h.fr.size)).trans (h.fx j hj), h.ok⟩
/-- A round's end: nothing is taken over. -/
theorem MRel.stay (h : MRel W wr X va vb ra rb k) (hk : k < 5) (hc : compat (ra.getD k []) (rb.getD k []) = true) (hl : ¬ (ra.getD k []).length < (rb.getD k []).length) : MRel W wr X va vb ra rb (k + 1) := by
  refine ⟨hk, h.fr, fun j hj => ?_, h.fx, fun j hj => ?_⟩
  · rw [h.cx j hj]
    unfold mixV
    by_cases e : j = k
    · subst e; rw [if_neg (by omega), if_neg (fun q => hl q.2)]
    · by_cases q : j < k ∧ (ra.getD j []).length < (rb.getD j []).length
      · rw [if_pos q, if_pos ⟨by omega, q.2⟩]
      · rw [if_neg q, if_neg (fun p => q ⟨by omega, p.2⟩)]
  · rcases (by omega : j < k ∨ j = k) with q | rfl
    · exact h.ok j q
    · exact hc
/-- A round's end: a row is taken over. -/
theorem MRel.take (h : MRel W wr X va vb ra rb k) (hk : k < 5) (hc : compat (ra.getD k []) (rb.getD k []) = true) (hl : (ra.getD k []).length < (rb.getD k []).length) : MRel W (wr.setCell ⟨X, k, none⟩ (vb.getD k undef)) X va vb ra rb (k + 1) := by
  refine ⟨hk, h.fr.trans (FrB.setX _ _ _ _) (fun _ _ e => e), fun j hj => ?_, fun j hj => by rw [World.frozen?_setCell]; exact h.fx j hj, fun j hj => ?_⟩
  · by_cases e : j = k
    · subst e
      rw [World.cell?_setCell_same _ _ _ (h.cx j hj)]
      unfold mixV
      rw [if_pos ⟨by omega, hl⟩]
    · rw [World.cell?_setCell_other _ _ _ _ (fun q => e (congrArg Addr.off q).symm), h.cx j hj]
      unfold mixV
      by_cases q : j < k ∧ (ra.getD j []).length < (rb.getD j []).length
      · rw [if_pos q, if_pos ⟨by omega, q.2⟩]
      · rw [if_neg q, if_neg (fun p => q ⟨by omega, p.2⟩)]
  · rcases (by omega : j < k ∨ j = k) with q | rfl
    · exact h.ok j q
    · exact hc
theorem Rows5.slR {b1 : Nat} {rsa : List (Option Nat)} (h : Rows5 W b1 rsa va ra) (hn : ∀ r ∈ ra, r.length ≤ 1000000) {j : Nat} (hj : j < 5) : SlR W (va.getD j undef) (ra.getD j []) ∧ ∀ g, (va.getD j undef).ownBlock = some g → g < b1 ∨ some g ∈ rsa := by
  have e1 : rsa[j]? = some (rsa.getD j none) := by rw [List.getD_eq_getElem?_getD, List.getElem?_eq_getElem (by rw [h.ls]; exact hj)]; rfl
  have e2 : va[j]? = some (va.getD j undef) := by rw [List.getD_eq_getElem?_getD, List.getElem?_eq_getElem (by rw [h.lv]; exact hj)]; rfl
  have e3 : ra[j]? = some (ra.getD j []) := by rw [List.getD_eq_getElem?_getD, List.getElem?_eq_getElem (by rw [h.lr]; exact hj)]; rfl
  have hr := h.row j _ _ _ e1 e2 e3
  refine ⟨hr.slR h.le (hn _ (List.mem_of_getElem? e3)), fun g hg => ?_⟩
  rcases hr with ⟨_, q⟩ | ⟨⟨g', q, hlt, _⟩, _⟩
  · right; rw [hg] at q; exact q ▸ List.mem_of_getElem? e1
  · left; rw [q] at hg; cases hg; exact hlt
theorem SlR.frB {w w' : World} {v : Value} {xs : List Rec} (h : SlR w v xs) {S : Nat → Prop} (hF : FrB S w w') (hn : ∀ g, v.ownBlock = some g → ¬ S g) : SlR w' v xs := by
  rcases h with h | ⟨b, off, cap, h1, h2, h3, h4, h5⟩
  · exact .inl h
  · exact .inr ⟨b, off, cap, h1, h2, h3, Nat.lt_of_lt_of_le h4 hF.size, fun j u hu => (hF.cell h4 (hn b (by rw [h1]; rfl))).trans (h5 j u hu)⟩
theorem mixV_sl (h : MRel W wr X va vb ra rb k) (P : MPair W X Y va vb ra rb) {j : Nat} (hj : j < 5) : SlR wr (va.getD j undef) (ra.getD j []) ∧ SlR wr (vb.getD j undef) (rb.getD j []) ∧ wr.cell? ⟨Y, j, none⟩ = some (vb.getD j undef) :=
  ⟨P.sa j hj wr h.fr, P.sb j hj wr h.fr, (h.fr.cell P.ylt P.ne).trans (P.cy j hj)⟩
/-- A shelf's row is read while another block's cells, which hold slices, are written. -/
theorem Rows5.away {w1 : World} {b1 : Nat} {rsa : List (Option Nat)} (h : Rows5 w1 b1 rsa va ra) (hn : ∀ r ∈ ra, r.length ≤ 1000000) (hX : (∀ g, some g ∈ rsa → g ≠ X) ∧ (b1 ≤ X ∨ ∃ a l c, w1.cell? ⟨X, 0, none⟩ = some (.slice a l c))) (hE : Ext w1 W) {j : Nat} (hj : j < 5) : ∀ wr, FrB (fun i => i = X) W wr → SlR wr (va.getD j undef) (ra.getD j []) := by
  intro wr hF
  have e1 : rsa[j]? = some (rsa.getD j none) := by rw [List.getD_eq_getElem?_getD, List.getElem?_eq_getElem (by rw [h.ls]; exact hj)]; rfl
  have e2 : va[j]? = some (va.getD j undef) := by rw [List.getD_eq_getElem?_getD, List.getElem?_eq_getElem (by rw [h.lv]; exact hj)]; rfl
  have e3 : ra[j]? = some (ra.getD j []) := by rw [List.getD_eq_getElem?_getD, List.getElem?_eq_getElem (by rw [h.lr]; exact hj)]; rfl
  have hr := h.row j _ _ _ e1 e2 e3
  have hs := (hr.slR h.le (hn _ (List.mem_of_getElem? e3))).ext hE
  rcases hr with ⟨_, q⟩ | ⟨⟨g, q, hlt, hc⟩, _⟩
  · exact hs.frB hF (fun g hg => hX.1 g (by rw [← hg, ← q]; exact List.mem_of_getElem? e1))
  · by_cases hg : g = X
    · rcases hX.2 with k | ⟨a, l, c, k⟩
      · omega
      · cases hra : ra.getD j [] with
        | nil =>
          rw [hra] at hs
          rcases hs with t | ⟨b, off, cap, t1, t2, t3, t4, t5⟩
          · exact .inl t
          · exact .inr ⟨b, off, cap, t1, t2, t3, Nat.lt_of_lt_of_le t4 hF.size, fun j u hu => by simp [flat] at hu⟩
        | cons y ys =>
          have := hc 0 (.int .i64 y.st) (by rw [hra]; rfl)
          rw [hg, k] at this
          cases this
    · exact hs.frB hF (fun g' hg' => by rw [q] at hg'; cases hg'; exact hg)
/-- The shelf that Merge leaves. -/
theorem MRel.done (h : MRel W wr X va vb ra rb 5) (P : MPair W X Y va vb ra rb) {j : Nat} (hj : j < 5) : SlR wr (mixV ra rb va vb 5 j) (longer (ra.getD j []) (rb.getD j [])) := by
  obtain ⟨h1, h2, _⟩ := mixV_sl h P hj
  unfold mixV longer
  by_cases hl : (ra.getD j []).length < (rb.getD j []).length
  · rw [if_pos ⟨hj, hl⟩, if_pos hl]; exact h2
  · rw [if_neg (fun q => hl q.2), if_neg hl]; exact h1
end
set_option maxHeartbeats 400000 in
set_option maxRecDepth 100000 in
theorem all_sl (B o : Nat) (v0 v1 v2 v3 v4 : Value) (r0 r1 r2 r3 r4 : List Rec) (w : World) (hB : B < w.heap.size) (g0 : SlR w v0 r0) (g1 : SlR w v1 r1) (g2 : SlR w v2 r2) (g3 : SlR w v3 r3) (g4 : SlR w v4 r4)
    (hc : ∀ (k : Nat) v, [v0, v1, v2, v3, v4][k]? = some v → w.cell? ⟨B, o + k, none⟩ = some v) (hn : r0.length + (r1.length + (r2.length + (r3.length + r4.length))) ≤ 1000000) :
    Calls Tryz.prog 72 #[.pointer (some ⟨B, o, none⟩)] w fun e w' => ∃ v, e = .returned v ∧ OwnR w' w.heap.size v [r0, r1, r2, r3, r4].flatten ∧ Below w.heap.size w w' := by
  have hcc := Lib.hid (Concat_five B o v0 v1 v2 v3 v4 r0 r1 r2 r3 r4 w hB g0 g1 g2 g3 g4 hc (by omega))
  clear g0 g1 g2 g3 g4 hc
  go_enter Tryz.func72, Tryz.ntmps72
  go_wp2_with fail
  refine hcc.out.mono ?_
  rintro e w1 ⟨v, rfl, hO, hb⟩
  obtain ⟨a, m, c, rfl⟩ := OwnR.shape3 hO
  go_wp2
  go_ret
  exact ⟨_, rfl, hO, hb⟩
end Go.Proofs.YtgjahnomafpnfaaGreatDoor

/- Few and Same of the reference. -/
namespace Go.Proofs.YtgjahnomafpnfaaGreatDoor
open Go.RowKit
/-- Are records few, with short texts? -/
def fewB (xs : List Rec) (most : Nat) : Bool := decide (xs.length ≤ most) && xs.all fun x => decide (x.txt.size ≤ 300)
theorem fewB_iff (xs : List Rec) (most : Nat) : fewB xs most = true ↔ xs.length ≤ most ∧ ∀ x ∈ xs, x.txt.size ≤ 300 := by simp [fewB]
set_option maxHeartbeats 400000 in
set_option maxRecDepth 100000 in
theorem Few_any (v : Value) (xs : List Rec) (most : Nat) (hm : most ≤ 1000) (w : World) (hv : SlR w v xs) :
    Calls Tryz.prog 24 #[v, .int .i64 most] w fun e w' => e = .returned (.bool (fewB xs most)) ∧ w' = w := by
  obtain ⟨ao, cap, rfl, hc⟩ := hv.open
  have HC := Lib.hid hc
  clear hc hv
  by_cases hl : xs.length ≤ most
  · have hl' : ¬ ((most : Int) < xs.length) := by omega
    go_enter Tryz.func24, Tryz.ntmps24
    go_wp2
    go_loop [5] (fun i => ∃ k : Nat, k ≤ xs.length ∧ i = .int .i64 k ∧ ∀ (j : Nat) x, j < k → xs[j]? = some x → x.txt.size ≤ 300) (fun i => xs.length - (intOf i).toNat)
    case atStart => exact ⟨0, by omega, rfl, fun j x h => by omega⟩
    case round =>
      obtain ⟨k, hk, rfl, hj⟩ := hrel
      have HJ := Lib.hid hj
      clear hj
      by_cases hlt : k < xs.length
      · obtain ⟨x, hx⟩ : ∃ x, xs[k]? = some x := ⟨_, List.getElem?_eq_getElem hlt⟩
        obtain ⟨b, off, rfl, hb, x0, x1, x2, x3⟩ := HC.out k x hx
        have hlt' : (k : Int) < xs.length := by omega
        have HX := Lib.hid hx
        clear hx x0 x1 x2
        by_cases hs : 300 < x.txt.size
        · have hs' : (300 : Int) < x.txt.size := by omega
          go_wp2
          go_ret
          refine ⟨ret_bool ?_, rfl⟩
          symm
          rw [Bool.eq_false_iff, Ne, fewB_iff]
          intro q
          have := q.2 x (List.mem_of_getElem? HX.out)
          omega
        · have hs' : ¬ ((300 : Int) < x.txt.size) := by omega
          go_wp2
          go_round
          case rel =>
            refine ⟨k + 1, by omega, by go_num, fun j y hj hy => ?_⟩
            rcases (by omega : j < k ∨ j = k) with q | rfl
            · exact HJ.out j y q hy
            · rw [HX.out] at hy; cases hy; omega
          case measure => simp [intOf]; omega
      · have hlt' : ¬ ((k : Int) < xs.length) := by omega
        go_wp2
        go_ret
        refine ⟨ret_bool ?_, rfl⟩
        symm
        rw [fewB_iff]
        refine ⟨hl, fun x hx => ?_⟩
        obtain ⟨j, hj⟩ := List.getElem?_of_mem hx
        exact HJ.out j x (by have := (List.getElem?_eq_some_iff.1 hj).1; omega) hj
  · have hl' : (most : Int) < xs.length := by omega
    have he : fewB xs most = false := by
      rw [Bool.eq_false_iff, Ne, fewB_iff]
      exact fun q => hl q.1
    rw [he]
    go_enter Tryz.func24, Tryz.ntmps24
    go_wp2
    go_ret
    exact ⟨rfl, rfl⟩
/-- Are two books equal? -/
def sameB (xs ys : List Rec) : Bool := decide (xs.length = ys.length) && compat xs ys
theorem sameB_iff (xs ys : List Rec) : sameB xs ys = true ↔ xs = ys := by
  unfold sameB
  rw [Bool.and_eq_true, decide_eq_true_eq, compat_iff]
  constructor
  · rintro ⟨h, q | q⟩
    · exact q.eq_of_length h
    · exact (q.eq_of_length h.symm).symm
  · rintro rfl
    exact ⟨rfl, .inl (List.prefix_refl _)⟩
theorem neq49r (x y : Rec) (w : World) : (binOp .neq 49 (.agg #[.int .i64 x.st, .int .i64 x.num, .int .i64 x.hr, .string x.txt]) (.agg #[.int .i64 y.st, .int .i64 y.num, .int .i64 y.hr, .string y.txt])).run Tryz.prog w = .ok (.bool (!recB x y)) w := neq49 _ _ _ _ _ _ _ _ w
set_option maxHeartbeats 800000 in
set_option maxRecDepth 100000 in
theorem Same_any (v u : Value) (xs ys : List Rec) (w : World) (hv : SlR w v xs) (hu : SlR w u ys) (hx1 : xs.length ≤ 1000000) (hy1 : ys.length ≤ 1000000) :
    Calls Tryz.prog 23 #[v, u] w fun e w' => e = .returned (.bool (sameB xs ys)) ∧ Ext w w' := by
  obtain ⟨ao, cap, rfl, hc⟩ := hv.open
  obtain ⟨bo, cap2, rfl, hd⟩ := hu.open
  have HC := Lib.hid hc
  have HD := Lib.hid hd
  clear hc hd hv hu
  by_cases hl : xs.length = ys.length
  · have hl' : ((xs.length : Int) != (ys.length : Int)) = false := by simp [hl]
    go_enter Tryz.func23, Tryz.ntmps23
    go_wp2
    go_loopw [5] (fun i wr => ∃ k : Nat, k ≤ xs.length ∧ i = .int .i64 k ∧ Ext w wr ∧ ∀ (j : Nat) x y, j < k → xs[j]? = some x → ys[j]? = some y → recB x y = true) (fun i _ => xs.length - (intOf i).toNat)
    case atStart => exact ⟨0, by omega, rfl, Ext.refl _, fun j x y h => by omega⟩
    case round =>
      obtain ⟨k, hk, rfl, hE, hj⟩ := hrel
      have HJ := Lib.hid hj
      have HE := Lib.hid hE
      clear hj
      by_cases hlt : k < xs.length
      · obtain ⟨x, hx⟩ : ∃ x, xs[k]? = some x := ⟨_, List.getElem?_eq_getElem hlt⟩
        obtain ⟨y, hy⟩ : ∃ y, ys[k]? = some y := ⟨_, List.getElem?_eq_getElem (by omega)⟩
        obtain ⟨b, off, rfl, hb, x0, x1, x2, x3⟩ := HC.out k x hx
        obtain ⟨b2, off2, rfl, hb2, y0, y1, y2, y3⟩ := HD.out k y hy
        replace x0 := hE.keep x0
        replace x1 := hE.keep x1
        replace x2 := hE.keep x2
        replace x3 := hE.keep x3
        replace y0 := hE.keep y0
        replace y1 := hE.keep y1
        replace y2 := hE.keep y2
        replace y3 := hE.keep y3
        have hlt' : (k : Int) < xs.length := by omega
        have hlt2 : (k : Int) < ys.length := by omega
        have hq := neq49r x y
        have HX := Lib.hid (And.intro hx hy)
        clear hx hy hE
        go_wp2_with fail
        go_quiet (fail)
        cases hr : recB x y with
        | true =>
          have hr2 : (!recB x y) = false := by rw [hr]; rfl
          go_wp2
          go_roundw
          case rel =>
            refine ⟨k + 1, by omega, by go_num, HE.out.trans (_root_.Go.below_drewN (Below.refl _ _) _), fun j a c hj ha hc => ?_⟩
            rcases (by omega : j < k ∨ j = k) with q | rfl
            · exact HJ.out j a c q ha hc
            · rw [HX.out.1] at ha; rw [HX.out.2] at hc; cases ha; cases hc; exact hr
          case measure => simp [intOf]; omega
        | false =>
          have hr2 : (!recB x y) = true := by rw [hr]; rfl
          go_wp2
          go_ret
          refine ⟨ret_bool ?_, HE.out.trans (_root_.Go.below_drewN (Below.refl _ _) _)⟩
          unfold sameB
          rw [compat_false HX.out.1 HX.out.2 hr, Bool.and_false]
      · have hlt' : ¬ ((k : Int) < xs.length) := by omega
        go_wp2
        go_ret
        refine ⟨ret_bool ?_, HE.out⟩
        unfold sameB
        rw [compat_true (fun j a c ha hc => HJ.out j a c (by have := (List.getElem?_eq_some_iff.1 ha).1; omega) ha hc), decide_eq_true hl]
        rfl
  · have hl' : ((xs.length : Int) != (ys.length : Int)) = true := by simp; omega
    go_enter Tryz.func23, Tryz.ntmps23
    go_wp2
    go_ret
    refine ⟨ret_bool ?_, Ext.refl _⟩
    unfold sameB
    rw [decide_eq_false hl]
    rfl
end Go.Proofs.YtgjahnomafpnfaaGreatDoor

/- Merge: the walk. -/
namespace Go.Proofs.YtgjahnomafpnfaaGreatDoor
open Go.RowKit
def mixR (ra rb : List (List Rec)) (k j : Nat) : List Rec := if j < k then longer (ra.getD j []) (rb.getD j []) else ra.getD j []
/-- What Merge comes to. -/
def MergePost (n : Int) (a b : List Rec) (w : World) (e : Ending) (w' : World) : Prop :=
  Ext w w' ∧ ∃ v, e = .returned (.tuple #[v, .int .i64 (mergeE n a b)]) ∧ SlR w' v (mergeL n a b) ∧ ((v = .slice none 0 0 ∧ mergeL n a b = []) ∨ OwnR w' w.heap.size v (mergeL n a b))
theorem mergePost_none {n : Int} {a b : List Rec} {w w' : World} {E : Int} (h : mergeE n a b = E) (hl : mergeL n a b = []) (hE : Ext w w') : MergePost n a b w (.returned (.tuple #[.slice none 0 0, .int .i64 E])) w' :=
  ⟨hE, .slice none 0 0, by rw [h], by rw [hl]; exact .inl ⟨rfl, rfl⟩, .inl ⟨rfl, hl⟩⟩
theorem mergePost_some {n : Int} {a b : List Rec} {w w1 w' : World} {v : Value} (h : mergeE n a b = 0) (hO : OwnR w' w1.heap.size v (mergeL n a b)) (hE : Ext w w1) (hb : Below w1.heap.size w1 w') : MergePost n a b w (.returned (.tuple #[v, .int .i64 0])) w' :=
  ⟨hE.trans hb, v, by rw [h], hO.slR, .inr (owns_mono hO hE.size)⟩
theorem five_cells (w : World) (v0 v1 v2 v3 v4 : Value) : ∀ j, j < 5 → (w.alloc (.cells #[v0, v1, v2, v3, v4] 126)).cell? ⟨w.heap.size, j, none⟩ = some ([v0, v1, v2, v3, v4].getD j undef) ∧ (w.alloc (.cells #[v0, v1, v2, v3, v4] 126)).frozen? ⟨w.heap.size, j, none⟩ = false := by
  intro j hj
  refine ⟨?_, World.frozen?_alloc_new w _ _ j⟩
  rw [World.cell?_alloc_new]
  match j, hj with
  | 0, _ => rfl
  | 1, _ => rfl
  | 2, _ => rfl
  | 3, _ => rfl
  | 4, _ => rfl
theorem rows_total : ∀ (rows : List (List Rec)) (j : Nat), (rows.getD j []).length ≤ rows.flatten.length
  | [], j => by simp
  | r :: rows, 0 => by simp
  | r :: rows, j + 1 => by
    have := rows_total rows j
    rw [List.getD_cons_succ, List.flatten_cons, List.length_append]; omega
theorem sorted_total {n : Int} {l : List Rec} (h : (sortedP n l).2.2 = 0) (hl : l.length ≤ 100000) (j : Nat) : ((sortedP n l).1.getD j []).length ≤ 100000 := by
  have := rows_total (sortedP n l).1 j
  rw [(sorted_book h).2.2] at this
  omega
theorem sorted_rows {n : Int} {l : List Rec} (h : (sortedP n l).2.2 = 0) (hl : l.length ≤ 100000) : ∀ r ∈ (sortedP n l).1, r.length ≤ 1000000 := by
  intro r hr
  obtain ⟨j, hj⟩ := List.getElem?_of_mem hr
  have := sorted_total h hl j
  rw [getD_some hj] at this
  omega
theorem mrel_start {W : World} {X : Nat} {va vb : List Value} {ra rb : List (List Rec)} (h1 : ∀ j, j < 5 → W.cell? ⟨X, j, none⟩ = some (va.getD j undef)) (h2 : ∀ j, j < 5 → W.frozen? ⟨X, j, none⟩ = false) : MRel W W X va vb ra rb 0 :=
  ⟨by omega, FrB.refl _ _, fun j hj => by unfold mixV; rw [if_neg (by omega)]; exact h1 j hj, h2, fun j hj => by omega⟩
theorem mpair_of {w w1 w2 : World} {rsa rsb : List (Option Nat)} {v0 v1 v2 v3 v4 u0 u1 u2 u3 u4 : Value} {ra rb : List (List Rec)} (hf1 : Rows5 w1 w.heap.size rsa [v0, v1, v2, v3, v4] ra) {W1 : World} (hf2 : Rows5 w2 W1.heap.size rsb [u0, u1, u2, u3, u4] rb) (hb1 : Below w.heap.size w w1) (hb2 : Below W1.heap.size W1 w2)
    {a : Option Addr} {l c : Nat} (hW1 : W1 = w1.alloc (.cells #[v0, v1, v2, v3, v4] 126)) (hc0 : W1.cell? ⟨w1.heap.size, 0, none⟩ = some (.slice a l c)) (hy : ∀ j, j < 5 → (w2.alloc (.cells #[u0, u1, u2, u3, u4] 126)).cell? ⟨w2.heap.size, j, none⟩ = some ([u0, u1, u2, u3, u4].getD j undef) ∧ (w2.alloc (.cells #[u0, u1, u2, u3, u4] 126)).frozen? ⟨w2.heap.size, j, none⟩ = false)
    (hra : ∀ r ∈ ra, r.length ≤ 1000000) (hrb : ∀ r ∈ rb, r.length ≤ 1000000) : MPair (w2.alloc (.cells #[u0, u1, u2, u3, u4] 126)) w1.heap.size w2.heap.size [v0, v1, v2, v3, v4] [u0, u1, u2, u3, u4] ra rb := by
  have hsz : W1.heap.size = w1.heap.size + 1 := by rw [hW1]; simp
  have hs2 := hb2.size
  have hE1 : Ext w1 W1 := hW1 ▸ Ext.alloc _ _
  have hE2 : Ext w2 (w2.alloc (.cells #[u0, u1, u2, u3, u4] 126)) := Ext.alloc _ _
  refine ⟨by simp; omega, by simp, by omega, hf1.lr, hf2.lr, fun j hj => ?_, fun j hj => ?_, fun j hj => (hy j hj).1⟩
  · exact hf1.away hra ⟨fun g hg e => by have := (hf1.ge g hg).2; omega, .inl hb1.size⟩ (hE1.trans (Ext.trans hb2 hE2)) hj
  · exact hf2.away hrb ⟨fun g hg e => by have := (hf2.ge g hg).1; omega, .inr ⟨a, l, c, Ext.keep hb2 hc0⟩⟩ hE2 hj
set_option maxHeartbeats 1600000 in
set_option maxRecDepth 100000 in
theorem Merge_any (n : Int) (v u : Value) (a b : List Rec) (w : World) (hv : SlR w v a) (hu : SlR w u b) (ha : a.length ≤ 100000) (hb : b.length ≤ 100000) :
    Calls Tryz.prog 44 #[.int .i64 n, v, u] w (MergePost n a b w) := by
  obtain ⟨av, cv, e1⟩ := hv.shape
  obtain ⟨au, cu, e2⟩ := hu.shape
  subst e1 e2
  have HS1 := Lib.hid (sorted_any n _ a w hv ha)
  have HU := Lib.hid hu
  clear hv hu
  go_enter Tryz.func44, Tryz.ntmps44
  go_wp2_with fail
  go_step3
  go_wp2_with fail
  refine HS1.out.mono ?_
  rintro e w1 ⟨rsa, v0, v1, v2, v3, v4, rfl, hf1, hb1⟩
  obtain ⟨⟨a0, n0, c0, rfl⟩, ⟨a1, n1, c1, rfl⟩, ⟨a2, n2, c2, rfl⟩, ⟨a3, n3, c3, rfl⟩, ⟨a4, n4, c4, rfl⟩⟩ := hf1.shapes
  have HF1 := Lib.hid hf1
  have HB1 := Lib.hid hb1
  have HE1 := Lib.hid (Ext.alloc w1 (.cells #[.slice a0 n0 c0, .slice a1 n1 c1, .slice a2 n2 c2, .slice a3 n3 c3, .slice a4 n4 c4] 126))
  have HX0 := Lib.hid (five_cells w1 (.slice a0 n0 c0) (.slice a1 n1 c1) (.slice a2 n2 c2) (.slice a3 n3 c3) (.slice a4 n4 c4))
  have HS2 := Lib.hid (sorted_any n _ b (w1.alloc (.cells #[.slice a0 n0 c0, .slice a1 n1 c1, .slice a2 n2 c2, .slice a3 n3 c3, .slice a4 n4 c4] 126)) ((HU.out.ext hb1).ext HE1.out) hb)
  clear hf1 hb1
  by_cases he1 : (sortedP n a).2.2 = 0
  · have HZ1 := Lib.hid he1
    rw [he1]
    clear he1
    go_wp2_with fail
    refine HS2.out.mono ?_
    rintro e w2 ⟨rsb, u0, u1, u2, u3, u4, rfl, hf2, hb2⟩
    obtain ⟨⟨d0, m0, k0, rfl⟩, ⟨d1, m1, k1, rfl⟩, ⟨d2, m2, k2, rfl⟩, ⟨d3, m3, k3, rfl⟩, ⟨d4, m4, k4, rfl⟩⟩ := hf2.shapes
    have HF2 := Lib.hid hf2
    have HB2 := Lib.hid hb2
    have HE2 := Lib.hid (Ext.alloc w2 (.cells #[.slice d0 m0 k0, .slice d1 m1 k1, .slice d2 m2 k2, .slice d3 m3 k3, .slice d4 m4 k4] 126))
    have HY0 := Lib.hid (five_cells w2 (.slice d0 m0 k0) (.slice d1 m1 k1) (.slice d2 m2 k2) (.slice d3 m3 k3) (.slice d4 m4 k4))
    clear hf2 hb2
    by_cases he2 : (sortedP n b).2.2 = 0
    · have HZ2 := Lib.hid he2
      rw [he2]
      clear he2
      go_wp2_with fail
      have hP : MPair (w2.alloc (.cells #[.slice d0 m0 k0, .slice d1 m1 k1, .slice d2 m2 k2, .slice d3 m3 k3, .slice d4 m4 k4] 126)) w1.heap.size w2.heap.size [.slice a0 n0 c0, .slice a1 n1 c1, .slice a2 n2 c2, .slice a3 n3 c3, .slice a4 n4 c4] [.slice d0 m0 k0, .slice d1 m1 k1, .slice d2 m2 k2, .slice d3 m3 k3, .slice d4 m4 k4] (sortedP n a).1 (sortedP n b).1 :=
        mpair_of HF1.out HF2.out HB1.out HB2.out rfl (HX0.out 0 (by omega)).1 HY0.out (sorted_rows HZ1.out ha) (sorted_rows HZ2.out hb)
      have hR : MRel (w2.alloc (.cells #[.slice d0 m0 k0, .slice d1 m1 k1, .slice d2 m2 k2, .slice d3 m3 k3, .slice d4 m4 k4] 126)) (w2.alloc (.cells #[.slice d0 m0 k0, .slice d1 m1 k1, .slice d2 m2 k2, .slice d3 m3 k3, .slice d4 m4 k4] 126)) w1.heap.size [.slice a0 n0 c0, .slice a1 n1 c1, .slice a2 n2 c2, .slice a3 n3 c3, .slice a4 n4 c4] [.slice d0 m0 k0, .slice d1 m1 k1, .slice d2 m2 k2, .slice d3 m3 k3, .slice d4 m4 k4] (sortedP n a).1 (sortedP n b).1 0 :=
        mrel_start (fun j hj => (Ext.trans HB2.out HE2.out).keep (HX0.out j hj).1) (fun j hj => ((Ext.trans HB2.out HE2.out).frozen (p := ⟨w1.heap.size, j, none⟩) (by simp)).trans (HX0.out j hj).2)
      have hEW : Ext w (w2.alloc (.cells #[.slice d0 m0 k0, .slice d1 m1 k1, .slice d2 m2 k2, .slice d3 m3 k3, .slice d4 m4 k4] 126)) := HB1.out.trans ((HE1.out.trans (Ext.trans HB2.out HE2.out)).mono (Below.size HB1.out))
      have hXw : w.heap.size ≤ w1.heap.size := Below.size HB1.out
      have HP := Lib.hid hP
      have HR := Lib.hid hR
      have HEW := Lib.hid hEW
      have HRT := Lib.hid (And.intro (sorted_total HZ1.out ha) (sorted_total HZ2.out hb))
      clear hP hR hEW
      go_step3
      go_wp2_with fail
      generalize hW : w2.alloc (.cells #[.slice d0 m0 k0, .slice d1 m1 k1, .slice d2 m2 k2, .slice d3 m3 k3, .slice d4 m4 k4] 126) = W at HP HR HEW ⊢
      clear hW HE2 HY0 HF1 HF2 HB1 HB2 HE1 HX0 HS2
      generalize w1.heap.size = X at *
      generalize w2.heap.size = Y at *
      generalize hra : (sortedP n a).1 = ra at *
      generalize hrb : (sortedP n b).1 = rb at *
      generalize (sortedP n a).2.1 = ia at *
      generalize (sortedP n b).2.1 = ib at *
      have HRA := Lib.hid (And.intro hra hrb)
      clear hra hrb
      generalize hva : [Value.slice a0 n0 c0, .slice a1 n1 c1, .slice a2 n2 c2, .slice a3 n3 c3, .slice a4 n4 c4] = va at HP HR
      generalize hvb : [Value.slice d0 m0 k0, .slice d1 m1 k1, .slice d2 m2 k2, .slice d3 m3 k3, .slice d4 m4 k4] = vb at HP HR
      clear hva hvb
      go_loopg [10, 35] 5 (fun g e i wx => ∃ k : Nat, k + g = 5 ∧ e = .int .i64 0 ∧ i = .int .i64 k ∧ MRel W wx X va vb ra rb k)
      case atStart => exact ⟨0, by omega, rfl, rfl, HR.out⟩
      case round =>
        obtain ⟨k, hkg, rfl, rfl, hR⟩ := hrel
        have HR2 := Lib.hid hR
        clear hR
        cases gk with
        | zero =>
          have hk5 : ¬ ((k : Int) < 5) := by omega
          obtain rfl : k = 5 := by omega
          have hm : mergeE n a b = 0 := by
            rw [mergeE_of HZ1.out HZ2.out, HRA.out.1, HRA.out.2, compatAll_true (fun j x y hx hy => ?_)]
            · rfl
            · have := HR2.out.ok j (by have := (List.getElem?_eq_some_iff.1 hx).1; rw [HP.out.la] at this; exact this)
              rwa [getD_some hx, getD_some hy] at this
          have hl0 : mergeL n a b = (mergeRows ra rb).flatten := by unfold mergeL; rw [if_pos hm, HRA.out.1, HRA.out.2]
          have hrows : mergeRows ra rb = [longer (ra.getD 0 []) (rb.getD 0 []), longer (ra.getD 1 []) (rb.getD 1 []), longer (ra.getD 2 []) (rb.getD 2 []), longer (ra.getD 3 []) (rb.getD 3 []), longer (ra.getD 4 []) (rb.getD 4 [])] := by
            obtain ⟨r0, r1, r2, r3, r4, e⟩ := len5 HP.out.la
            obtain ⟨s0, s1, s2, s3, s4, e'⟩ := len5 HP.out.lb
            rw [e, e']; rfl
          have htot : ∀ j, (longer (ra.getD j []) (rb.getD j [])).length ≤ 100000 := fun j => by
            unfold longer
            split
            · exact HRT.out.2 j
            · exact HRT.out.1 j
          have t0 := htot 0
          have t1 := htot 1
          have t2 := htot 2
          have t3 := htot 3
          have t4 := htot 4
          have hcell : ∀ (j : Nat) v, [mixV ra rb va vb 5 0, mixV ra rb va vb 5 1, mixV ra rb va vb 5 2, mixV ra rb va vb 5 3, mixV ra rb va vb 5 4][j]? = some v → wr.cell? ⟨X, 0 + j, none⟩ = some v := by
            intro j v hv
            rw [Nat.zero_add]
            rcases (by have := (List.getElem?_eq_some_iff.1 hv).1; simp at this; omega : j = 0 ∨ j = 1 ∨ j = 2 ∨ j = 3 ∨ j = 4) with rfl | rfl | rfl | rfl | rfl
            all_goals
              simp only [List.getElem?_cons_zero, List.getElem?_cons_succ, Option.some.injEq] at hv
              rw [← hv]
              exact HR2.out.cx _ (by omega)
          have hAll := all_sl X 0 _ _ _ _ _ _ _ _ _ _ wr (Nat.lt_of_lt_of_le HP.out.xlt HR2.out.fr.size) (HR2.out.done HP.out (j := 0) (by omega)) (HR2.out.done HP.out (j := 1) (by omega)) (HR2.out.done HP.out (j := 2) (by omega)) (HR2.out.done HP.out (j := 3) (by omega)) (HR2.out.done HP.out (j := 4) (by omega)) hcell (by omega)
          rw [← hrows, ← hl0] at hAll
          have HA := Lib.hid hAll
          have HM := Lib.hid hm
          have HEF : RowKit.Hid (Ext w wr) := Lib.hid (Below.trans (B := w.heap.size) HEW.out (HR2.out.fr.below (HEW.out.size) (fun j hj => by rw [hj]; exact hXw)))
          clear hm hl0 hrows htot t0 t1 t2 t3 t4 hcell hAll
          go_wp2_with fail
          refine HA.out.mono ?_
          rintro e W6 ⟨v6, rfl, hO, hb6⟩
          obtain ⟨q6, l6, c6, rfl⟩ := OwnR.shape3 hO
          have HO := Lib.hid hO
          have HB6 := Lib.hid hb6
          clear hO hb6
          go_wp2_with fail
          rw [Exit.noGoto_ret]
          go_ret2
          exact mergePost_some HM.out HO.out HEF.out HB6.out
        | succ g =>
          have hk5 : (k : Int) < 5 := by omega
          have hk5n : k < 5 := by omega
          have hk0 : (0 : Int) ≤ (k : Int) := by omega
          have hcx := HR2.out.cx k hk5n
          have hfx := HR2.out.fx k hk5n
          obtain ⟨hsa, hsb, hcy⟩ := mixV_sl HR2.out HP.out hk5n
          rw [show mixV ra rb va vb k k = va.getD k undef from by unfold mixV; rw [if_neg (by omega)]] at hcx
          have hvbs : RowKit.Hid (vb.getD k undef = vb.getD k undef) := Lib.hid rfl
          obtain ⟨xo, xc, hxe, hxat⟩ := hsa.open
          obtain ⟨yo, yc, hye, hyat⟩ := hsb.open
          generalize hvk : vb.getD k undef = vk at *
          rw [hxe] at hcx
          subst hye
          have HVK := Lib.hid hvk
          have HXA := Lib.hid hxat
          have HYA := Lib.hid hyat
          have hlx : (ra.getD k []).length ≤ 1000000 := by have := HRT.out.1 k; omega
          have hly : (rb.getD k []).length ≤ 1000000 := by have := HRT.out.2 k; omega
          clear hsa hsb hxe hvk hxat hyat hvbs
          generalize hxs : ra.getD k [] = xs at *
          generalize hys : rb.getD k [] = ys at *
          have HXS := Lib.hid (And.intro hxs hys)
          clear hxs hys
          go_wp2_with fail
          go_quiet (fail)
          have hE3 : Ext wr (wr.drewN nq) := _root_.Go.below_drewN (Below.refl _ _) nq
          generalize wr.drewN nq = W3 at hE3 ⊢
          have HR3 := Lib.hid (HR2.out.ext HP.out.xlt hE3)
          have HE3 := Lib.hid hE3
          have hcx3 := hE3.keep hcx
          have hcy3 := hE3.keep hcy
          clear hE3 hcx hcy HR2
          have hmin : (min (xs.length : Int) (ys.length : Int)) = ((min xs.length ys.length : Nat) : Int) := by omega
          have hmx : min xs.length ys.length ≤ xs.length := Nat.min_le_left _ _
          have hmy : min xs.length ys.length ≤ ys.length := Nat.min_le_right _ _
          have hmor : min xs.length ys.length = xs.length ∨ min xs.length ys.length = ys.length := by omega
          go_wp2_with fail
          simp only [hmin]
          clear hmin
          generalize min xs.length ys.length = M at hmx hmy hmor ⊢
          go_loopg [10, 47] M (fun g2 e s wx => ∃ q : Nat, q + g2 = M ∧ e = .int .i64 0 ∧ s = .int .i64 q ∧ Ext W3 wx ∧ ∀ (j : Nat) x y, j < q → xs[j]? = some x → ys[j]? = some y → recB x y = true)
          case atStart => exact ⟨0, by omega, rfl, rfl, Ext.refl _, fun j x y h => by omega⟩
          case round =>
            obtain ⟨q, hqg, rfl, rfl, hE4, hj⟩ := hrel
            have HJ := Lib.hid hj
            have HE4 := Lib.hid hE4
            have hcx4 := hE4.keep hcx3
            have hcy4 := hE4.keep hcy3
            have hfx4 := (HR3.out.ext HP.out.xlt hE4).fx k hk5n
            clear hj hE4 hcx3 hcy3 hfx
            cases gk with
            | zero =>
              have hqM : ¬ ((q : Int) < M) := by omega
              have hcmp : compat xs ys = true := compat_true (fun j x y hx hy => HJ.out j x y (by
                have := (List.getElem?_eq_some_iff.1 hx).1
                have := (List.getElem?_eq_some_iff.1 hy).1
                omega) hx hy)
              have HCM := Lib.hid hcmp
              have HR4 := Lib.hid (HR3.out.ext HP.out.xlt HE4.out)
              clear hcmp
              go_wp2_with fail
              go_quiet (fail)
              have hE5 : Ext wr (wr.drewN nq) := _root_.Go.below_drewN (Below.refl _ _) nq
              have hcx5 := hE5.keep hcx4
              have hcy5 := hE5.keep hcy4
              have HR5 := Lib.hid (HR4.out.ext HP.out.xlt hE5)
              have hfx5 := HR5.out.fx k hk5n
              generalize wr.drewN nq = W5 at hE5 hcx5 hcy5 hfx5 HR5 ⊢
              clear hcx4 hcy4 hfx4 hE5 HR4
              by_cases hl : xs.length < ys.length
              · have hlz : (xs.length : Int) < ys.length := by omega
                have hS := HR5.out.take hk5n (by rw [HXS.out.1, HXS.out.2]; exact HCM.out) (by rw [HXS.out.1, HXS.out.2]; exact hl)
                rw [HVK.out] at hS
                have HS5 := Lib.hid hS
                clear hS
                go_wp2_with fail
                go_roundg g
                case measure => omega
                case rel => exact ⟨k + 1, by omega, rfl, by go_num, HS5.out⟩
              · have hlz : ¬ ((xs.length : Int) < ys.length) := by omega
                have hS := HR5.out.stay hk5n (by rw [HXS.out.1, HXS.out.2]; exact HCM.out) (by rw [HXS.out.1, HXS.out.2]; exact hl)
                have HS5 := Lib.hid hS
                clear hS
                go_wp2_with fail
                go_roundg g
                case measure => omega
                case rel => exact ⟨k + 1, by omega, rfl, by go_num, HS5.out⟩
            | succ g2 =>
              have hqM : (q : Int) < M := by omega
              obtain ⟨x, hx⟩ : ∃ x, xs[q]? = some x := ⟨_, List.getElem?_eq_getElem (by omega)⟩
              obtain ⟨y, hy⟩ : ∃ y, ys[q]? = some y := ⟨_, List.getElem?_eq_getElem (by omega)⟩
              obtain ⟨b1, o1, rfl, hbl1, x0, x1, x2, x3⟩ := HXA.out q x hx
              obtain ⟨b2, o2, rfl, hbl2, y0, y1, y2, y3⟩ := HYA.out q y hy
              have hEE := HE3.out.trans HE4.out
              replace x0 := hEE.keep x0
              replace x1 := hEE.keep x1
              replace x2 := hEE.keep x2
              replace x3 := hEE.keep x3
              replace y0 := hEE.keep y0
              replace y1 := hEE.keep y1
              replace y2 := hEE.keep y2
              replace y3 := hEE.keep y3
              have hqx : (q : Int) < xs.length := by omega
              have hqy : (q : Int) < ys.length := by omega
              have hqr := neq49r x y
              have HXY := Lib.hid (And.intro hx hy)
              clear hx hy hEE
              go_wp2_with fail
              go_quiet (fail)
              have hE5 : Ext wr (wr.drewN nq) := _root_.Go.below_drewN (Below.refl _ _) nq
              have HE5 := Lib.hid (HE4.out.trans hE5)
              generalize wr.drewN nq = W5 at hE5 HE5 ⊢
              clear x0 x1 x2 x3 y0 y1 y2 y3 hqr hcx4 hcy4 hfx4 hE5
              cases hr : recB x y with
              | true =>
                go_wp2_with fail
                go_roundg g2
                case measure => omega
                case rel =>
                  refine ⟨q + 1, by omega, rfl, by go_num, HE5.out, fun j a c hj ha hc => ?_⟩
                  rcases (by omega : j < q ∨ j = q) with h | rfl
                  · exact HJ.out j a c h ha hc
                  · rw [HXY.out.1] at ha; rw [HXY.out.2] at hc; cases ha; cases hc; exact hr
              | false =>
                have hbad : compatAll ra rb = false := compatAll_false (k := k) (x := xs) (y := ys) (by
                  have := HP.out.la
                  rw [List.getElem?_eq_getElem (by omega), ← HXS.out.1, List.getD_eq_getElem?_getD, List.getElem?_eq_getElem (by omega)]; rfl) (by
                  have := HP.out.lb
                  rw [List.getElem?_eq_getElem (by omega), ← HXS.out.2, List.getD_eq_getElem?_getD, List.getElem?_eq_getElem (by omega)]; rfl) (compat_false HXY.out.1 HXY.out.2 hr)
                have hm : mergeE n a b = 8 := by
                  rw [mergeE_of HZ1.out HZ2.out, HRA.out.1, HRA.out.2, hbad]; rfl
                have hl0 : mergeL n a b = [] := by unfold mergeL; rw [hm]; rfl
                have HM := Lib.hid (And.intro hm hl0)
                have HEF : RowKit.Hid (Ext w W5) := Lib.hid (Below.trans (B := w.heap.size) HEW.out ((HR3.out.fr.below (HEW.out.size) (fun j hj => by rw [hj]; exact hXw)).trans (HE5.out.mono (Nat.le_trans HEW.out.size HR3.out.fr.size))))
                clear hm hl0 hbad
                go_wp2_with fail
                rw [Exit.noGoto_ret]
                go_ret2
                exact mergePost_none HM.out.1 HM.out.2 HEF.out
    · have hne : ((sortedP n b).2.2 != 0) = true := by simpa using he2
      have hm : mergeE n a b = (sortedP n b).2.2 := by unfold mergeE; rw [if_neg (fun q => q HZ1.out), if_pos he2]
      have hl : mergeL n a b = [] := by unfold mergeL; rw [hm, if_neg he2]
      have HM := Lib.hid (And.intro hm hl)
      clear hm hl he2
      generalize (sortedP n b).2.2 = E at *
      go_wp2_with fail
      rw [Exit.noGoto_ret]
      go_ret2
      exact mergePost_none HM.out.1 HM.out.2 (HB1.out.trans ((HE1.out.trans (Ext.trans HB2.out HE2.out)).mono (Below.size HB1.out)))
  · have hne : ((sortedP n a).2.2 != 0) = true := by simpa using he1
    have hm : mergeE n a b = (sortedP n a).2.2 := by unfold mergeE; rw [if_pos he1]
    have hl : mergeL n a b = [] := by unfold mergeL; rw [hm, if_neg he1]
    have HM := Lib.hid (And.intro hm hl)
    clear hm hl he1
    generalize (sortedP n a).2.2 = E at *
    go_wp2_with fail
    rw [Exit.noGoto_ret]
    go_ret2
    exact mergePost_none HM.out.1 HM.out.2 (HB1.out.trans (HE1.out.mono (Below.size HB1.out)))
end Go.Proofs.YtgjahnomafpnfaaGreatDoor

/- Until, Lacks, StockOf: the walks. -/
namespace Go.Proofs.YtgjahnomafpnfaaGreatDoor
open Go.RowKit
/-- What Until comes to. -/
def UntilPost (n : Int) (xs : List Rec) (hour : Int) (w : World) (e : Ending) (w' : World) : Prop :=
  Ext w w' ∧ ∃ v, e = .returned (.tuple #[v, .int .i64 (sortedP n xs).2.2]) ∧ SlW w' w.heap.size v (if (sortedP n xs).2.2 = 0 then upTo hour xs else [])
theorem SlW.mono {w : World} {base b' : Nat} {v : Value} {xs : List Rec} (h : SlW w base v xs) (hb : b' ≤ base) : SlW w b' v xs := by
  rcases h with q | ⟨g, cap, q1, q2, q3⟩
  · exact .inl q
  · exact .inr ⟨g, cap, q1, by omega, q3⟩
set_option maxHeartbeats 800000 in
set_option maxRecDepth 100000 in
theorem Until_any (n : Int) (v : Value) (xs : List Rec) (hour : Int) (w : World) (h : SlR w v xs) (hn : xs.length ≤ 100000) :
    Calls Tryz.prog 28 #[.int .i64 n, v, .int .i64 hour] w (UntilPost n xs hour w) := by
  obtain ⟨a, m, c, rfl⟩ : ∃ a m c, v = .slice a m c := by
    obtain ⟨a, c, e⟩ := h.shape
    exact ⟨a, _, c, e⟩
  have hE : Ext w (w.alloc (.cells #[.int .i64 hour] 3)) := Ext.alloc _ _
  have HE := Lib.hid hE
  have HH := Lib.hid h
  have hc0 : (w.alloc (.cells #[.int .i64 hour] 3)).cell? ⟨w.heap.size, 0, none⟩ = some (.int .i64 hour) := by rw [World.cell?_alloc_new]; rfl
  have HC0 := Lib.hid hc0
  have hz : (w.alloc (.cells #[.int .i64 hour] 3)).heap.size = w.heap.size + 1 := by simp
  have HZ := Lib.hid hz
  clear h hE hc0 hz
  go_enter Tryz.func28, Tryz.ntmps28
  go_wp2_with fail
  generalize w.alloc (.cells #[.int .i64 hour] 3) = w1 at HE HC0 HZ ⊢
  refine (CheckRecords_any n _ xs w1 (HH.out.ext HE.out) hn).mono ?_
  rintro e w2 ⟨rfl, hb2⟩
  have HB2 := Lib.hid hb2
  by_cases he : (sortedP n xs).2.2 = 0
  · have hc := Clone_any _ xs w2 ((HH.out.ext HE.out).ext hb2) (by omega)
    have HC := Lib.hid hc
    have HQ : RowKit.Hid ((sortedP n xs).2.2 = 0) := Lib.hid he
    rw [he]
    clear hc hb2 he
    go_wp2_with fail
    refine HC.out.mono ?_
    rintro e w3 ⟨v3, rfl, ho, hb3⟩
    obtain ⟨a3, m3, c3, rfl⟩ := OwnR.shape3 ho
    have hw := (OwnR.slW ho).mono (show w.heap.size + 1 ≤ w2.heap.size by have := HB2.out.size; have := HZ.out; omega)
    have hb13 : Below (w.heap.size + 1) w1 w3 := by
      have := HZ.out
      rw [← this]
      exact Below.trans (B := w1.heap.size) HB2.out (hb3.mono HB2.out.size)
    have HW := Lib.hid (And.intro hw hb13)
    have HB3 := Lib.hid hb3
    clear ho hw hb13 hb3
    go_wp2_with fail
    refine (DeleteFunc_any (w.heap.size + 1) w1 86 enters86 (.pointer (some ⟨w.heap.size, 0, none⟩)) (laterB hour) _ xs (fun wr x hxm hB hbr => later_any w.heap.size hour x wr ((hbr.cell (p := ⟨w.heap.size, 0, none⟩) (by simp)).trans HC0.out)) w3 HW.out.1 (by have := HW.out.2.size; have := HZ.out; omega) HW.out.2 (by omega)).mono ?_
    rintro e w4 ⟨v4, rfl, h4, hb4⟩
    obtain ⟨a4, m4, c4, rfl⟩ := h4.shape3
    have H4 := Lib.hid (And.intro h4 hb4)
    clear h4 hb4
    go_wp2_with fail
    go_ret2
    refine ⟨?_, _, by rw [HQ.out]; rfl, ?_⟩
    · have := HZ.out
      exact Ext.trans HE.out (by
        show Below w1.heap.size w1 w4
        rw [HZ.out]
        exact HW.out.2.trans (H4.out.2))
    · rw [if_pos HQ.out]
      exact H4.out.1.mono (by omega)
  · have hne : ((sortedP n xs).2.2 != 0) = true := by simpa using he
    have HQ : RowKit.Hid ((sortedP n xs).2.2 ≠ 0) := Lib.hid he
    clear hb2 he
    generalize hE2 : (sortedP n xs).2.2 = E at *
    have HE2 := Lib.hid hE2
    clear hE2
    go_wp2_with fail
    go_ret2
    refine ⟨Ext.trans HE.out HB2.out, .slice none 0 0, by rw [HE2.out]; rfl, ?_⟩
    rw [HE2.out, if_neg HQ.out]
    exact .inl ⟨rfl, rfl⟩
end Go.Proofs.YtgjahnomafpnfaaGreatDoor

/- The law PostMerging: its walk. -/
namespace Go.Proofs.YtgjahnomafpnfaaGreatDoor
open Go.RowKit
theorem mergeRows_le : ∀ (xs ys : List (List Rec)), (mergeRows xs ys).flatten.length ≤ xs.flatten.length + ys.flatten.length
  | [], _ => by simp [mergeRows]
  | _ :: _, [] => by simp [mergeRows]
  | x :: xs, y :: ys => by
    have := mergeRows_le xs ys
    simp only [mergeRows, List.flatten_cons, List.length_append]
    have h : (longer x y).length ≤ x.length + y.length := by unfold longer; split <;> omega
    omega
theorem mergeL_le (n : Int) (a b : List Rec) : (mergeL n a b).length ≤ a.length + b.length := by
  unfold mergeL
  split
  · rename_i h
    obtain ⟨h1, h2, _⟩ := mergeE_ok h
    have := mergeRows_le (sortedP n a).1 (sortedP n b).1
    rw [(sorted_book h1).2.2, (sorted_book h2).2.2] at this
    exact this
  · simp
theorem upTo_le (hour : Int) (a : List Rec) : (upTo hour a).length ≤ a.length := List.length_filter_le _ _
theorem sameB_self (a : List Rec) : sameB a a = true := (sameB_iff a a).2 rfl
theorem Few_same (v : Value) (xs : List Rec) (most : Nat) (hm : most ≤ 1000) (w : World) (hv : SlR w v xs) :
    Calls Tryz.prog 24 #[v, .int .i64 most] w fun e w' => e = .returned (.bool (fewB xs most)) ∧ w = w' := (Few_any v xs most hm w hv).mono fun _ _ ⟨h, h'⟩ => ⟨h, h'.symm⟩
theorem fewB_no {xs : List Rec} {m : Nat} (h : ¬ fewB xs m = true) : fewB xs m = false := by simpa using h
set_option maxHeartbeats 1600000 in
set_option maxRecDepth 100000 in
theorem PostMerging_any {B : Nat} {w : World} (hL : Laid B w) (n : Int) (va vb vc : Value) (a b c : List Rec) (hour : Int) (ha : SlR w va a) (hb : SlR w vb b) (hc : SlR w vc c) :
    Calls Tryz.prog 14 #[.int .i64 n, va, vb, vc, .int .i64 hour] w fun e w' => e = .returned (.bool true) ∧ Ext w w' := by
  have HFa := Lib.hid (Few_same va a 40 (by omega) w ha)
  have HFb := Lib.hid (Few_same vb b 40 (by omega) w hb)
  have HFc := Lib.hid (Few_same vc c 40 (by omega) w hc)
  have HA := Lib.hid ha
  have HB := Lib.hid hb
  have HC := Lib.hid hc
  have HAL := Lib.hid (fun (W : World) (h : Ext w W) => alive_any (hL.ext h))
  clear hL ha hb hc
  by_cases f1 : fewB a 40 = true
  · by_cases f2 : fewB b 40 = true
    · by_cases f3 : fewB c 40 = true
      · rw [f1] at HFa
        rw [f2] at HFb
        rw [f3] at HFc
        have hla := ((fewB_iff _ _).1 f1).1
        have hlb := ((fewB_iff _ _).1 f2).1
        have hlc := ((fewB_iff _ _).1 f3).1
        clear f1 f2 f3
        go_enter Tryz.func14, Tryz.ntmps14
        go_wp2_with (first | (go_at_call_of 24 va; refine HFa.out.mono ?_; rintro e w' ⟨rfl, rfl⟩) | (go_at_call_of 24 vb; refine HFb.out.mono ?_; rintro e w' ⟨rfl, rfl⟩) | (go_at_call_of 24 vc; refine HFc.out.mono ?_; rintro e w' ⟨rfl, rfl⟩))
        refine (CheckRecords_any n va a w HA.out (by omega)).mono ?_
        rintro e w1 ⟨rfl, hb1⟩
        have HE1 : RowKit.Hid (Ext w w1) := Lib.hid hb1
        clear hb1
        by_cases he : (sortedP n a).2.2 = 0
        · have HQ : RowKit.Hid ((sortedP n a).2.2 = 0) := Lib.hid he
          rw [he]
          clear he
          have HM1 := Lib.hid (merge_self HQ.out)
          have HM3 := Lib.hid (merge_until HQ.out hour)
          have hul := upTo_le hour a
          go_wp2_with fail
          refine (Merge_any n va va a a w1 (HA.out.ext HE1.out) (HA.out.ext HE1.out) (by omega) (by omega)).mono ?_
          rintro e w2 ⟨hE2, v2, rfl, hs2, _⟩
          rw [HM1.out.1]
          rw [HM1.out.2] at hs2
          have HE2 := Lib.hid (HE1.out.trans hE2)
          have HS2 := Lib.hid hs2
          clear hE2 hs2
          go_wp2_with fail
          refine (Until_any n va a hour w2 (HA.out.ext HE2.out) (by omega)).mono ?_
          rintro e w3 ⟨hE3, v3, rfl, hs3⟩
          rw [HQ.out]
          rw [if_pos HQ.out] at hs3
          have HE3 := Lib.hid (HE2.out.trans hE3)
          have HS3 := Lib.hid hs3.slR
          have HS2b := Lib.hid (HS2.out.ext hE3)
          clear hE3 hs3
          go_wp2_with fail
          refine (Merge_any n v3 va (upTo hour a) a w3 HS3.out (HA.out.ext HE3.out) (by omega) (by omega)).mono ?_
          rintro e w4 ⟨hE4, v4, rfl, hs4, _⟩
          rw [HM3.out.1]
          rw [HM3.out.2] at hs4
          have HE4 := Lib.hid (HE3.out.trans hE4)
          have HS4 := Lib.hid hs4
          have HS2c := Lib.hid (HS2b.out.ext hE4)
          clear hE4 hs4
          go_wp2_with fail
          refine (Same_any v2 va a a w4 HS2c.out (HA.out.ext HE4.out) (by omega) (by omega)).mono ?_
          rintro e w5 ⟨rfl, hE5⟩
          rw [sameB_self]
          have HE5 := Lib.hid (HE4.out.trans hE5)
          have HS4b := Lib.hid (HS4.out.ext hE5)
          clear hE5
          go_wp2_with fail
          refine (Same_any v4 va a a w5 HS4b.out (HA.out.ext HE5.out) (by omega) (by omega)).mono ?_
          rintro e w6 ⟨rfl, hE6⟩
          rw [sameB_self]
          have HE6 := Lib.hid (HE5.out.trans hE6)
          clear hE6
          go_wp2_with fail
          refine (Merge_any n va vb a b w6 (HA.out.ext HE6.out) (HB.out.ext HE6.out) (by omega) (by omega)).mono ?_
          rintro e w7 ⟨hE7, v7, rfl, hs7, _⟩
          have HE7 := Lib.hid (HE6.out.trans hE7)
          have HS7 := Lib.hid hs7
          clear hE7 hs7
          go_wp2_with fail
          refine (Merge_any n vb va b a w7 (HB.out.ext HE7.out) (HA.out.ext HE7.out) (by omega) (by omega)).mono ?_
          rintro e w8 ⟨hE8, v8, rfl, hs8, _⟩
          rw [← (merge_comm n a b).2] at hs8
          have HE8 := Lib.hid (HE7.out.trans hE8)
          have HS8 := Lib.hid hs8
          have HS7b := Lib.hid (HS7.out.ext hE8)
          have hmc := (merge_comm n a b).1
          have hll := mergeL_le n a b
          have hll2 := mergeL_le n b c
          clear hE8 hs8
          by_cases h1 : mergeE n a b = 0
          · have h2 : mergeE n b a = 0 := hmc.1 h1
            have HM7 := Lib.hid h1
            rw [h1, h2]
            clear h1 h2 hmc
            go_wp2_with fail
            refine (Same_any v7 v8 _ _ w8 HS7b.out HS8.out (by omega) (by omega)).mono ?_
            rintro e w9 ⟨rfl, hE9⟩
            rw [sameB_self]
            have HE9 := Lib.hid (HE8.out.trans hE9)
            have HS7c := Lib.hid (HS7b.out.ext hE9)
            clear hE9
            go_wp2_with fail
            refine (Merge_any n vb vc b c w9 (HB.out.ext HE9.out) (HC.out.ext HE9.out) (by omega) (by omega)).mono ?_
            rintro e w10 ⟨hE10, v10, rfl, hs10, _⟩
            have HE10 := Lib.hid (HE9.out.trans hE10)
            have HS10 := Lib.hid hs10
            have HS7d := Lib.hid (HS7c.out.ext hE10)
            clear hE10 hs10
            by_cases h3 : mergeE n b c = 0
            · have HM10 := Lib.hid h3
              have HT := Lib.hid (merge_three HM7.out h3)
              rw [h3]
              clear h3
              go_wp2_with fail
              refine (Merge_any n v7 vc (mergeL n a b) c w10 HS7d.out (HC.out.ext HE10.out) (by omega) (by omega)).mono ?_
              rintro e w11 ⟨hE11, v11, rfl, hs11, _⟩
              have HE11 := Lib.hid (HE10.out.trans hE11)
              have HS11 := Lib.hid hs11
              have HS10b := Lib.hid (HS10.out.ext hE11)
              clear hE11 hs11
              go_wp2_with fail
              refine (Merge_any n va v10 a (mergeL n b c) w11 (HA.out.ext HE11.out) HS10b.out (by omega) (by omega)).mono ?_
              rintro e w12 ⟨hE12, v12, rfl, hs12, _⟩
              rw [← HT.out.1]
              rw [← HT.out.2] at hs12
              have HE12 := Lib.hid (HE11.out.trans hE12)
              have HS12 := Lib.hid hs12
              have HS11b := Lib.hid (HS11.out.ext hE12)
              have hl11 := mergeL_le n (mergeL n a b) c
              clear hE12 hs12
              generalize mergeE n (mergeL n a b) c = E at *
              go_wp2_with fail
              refine (HAL.out w12 HE12.out).mono ?_
              rintro e w13 ⟨rfl, hE13⟩
              have HE13 := Lib.hid (HE12.out.trans hE13)
              have HS12b := Lib.hid (HS12.out.ext hE13)
              have HS11c := Lib.hid (HS11b.out.ext hE13)
              clear hE13
              go_wp2_with fail
              refine (Same_any v11 v12 _ _ w13 HS11c.out HS12b.out (by omega) (by omega)).mono ?_
              rintro e w14 ⟨rfl, hE14⟩
              rw [sameB_self]
              have HE14 := Lib.hid (HE13.out.trans hE14)
              clear hE14
              go_wp2_with fail
              go_ret
              exact ⟨rfl, HE14.out⟩
            · have hne : (mergeE n b c != 0) = true := by simpa using h3
              clear h3
              generalize mergeE n b c = E at *
              go_wp2_with fail
              refine (HAL.out w10 HE10.out).mono ?_
              rintro e w13 ⟨rfl, hE13⟩
              have HE13 := Lib.hid (HE10.out.trans hE13)
              clear hE13
              go_wp2_with fail
              go_ret
              exact ⟨rfl, HE13.out⟩
          · have h2 : ¬ mergeE n b a = 0 := fun q => h1 (hmc.2 q)
            have hne1 : (mergeE n a b == 0) = false := by simpa using h1
            have hne2 : (mergeE n b a == 0) = false := by simpa using h2
            have hne3 : (mergeE n a b != 0) = true := by simpa using h1
            clear h1 h2 hmc
            generalize mergeE n a b = E1 at *
            generalize mergeE n b a = E2 at *
            go_wp2_with fail
            refine (Same_any v7 v8 _ _ w8 HS7b.out HS8.out (by omega) (by omega)).mono ?_
            rintro e w9 ⟨rfl, hE9⟩
            rw [sameB_self]
            have HE9 := Lib.hid (HE8.out.trans hE9)
            clear hE9
            go_wp2_with fail
            refine (Merge_any n vb vc b c w9 (HB.out.ext HE9.out) (HC.out.ext HE9.out) (by omega) (by omega)).mono ?_
            rintro e w10 ⟨hE10, v10, rfl, hs10, _⟩
            have HE10 := Lib.hid (HE9.out.trans hE10)
            clear hE10 hs10
            go_wp2_with fail
            refine (HAL.out w10 HE10.out).mono ?_
            rintro e w13 ⟨rfl, hE13⟩
            have HE13 := Lib.hid (HE10.out.trans hE13)
            clear hE13
            go_wp2_with fail
            go_ret
            exact ⟨rfl, HE13.out⟩
        · have hne : ((sortedP n a).2.2 != 0) = true := by simpa using he
          clear he
          generalize (sortedP n a).2.2 = E at *
          generalize (sortedP n a).2.1 = E2 at *
          go_wp2_with fail
          refine (HAL.out w1 HE1.out).mono ?_
          rintro e w13 ⟨rfl, hE13⟩
          have HE13 := Lib.hid (HE1.out.trans hE13)
          clear hE13
          go_wp2_with fail
          go_ret
          exact ⟨rfl, HE13.out⟩
      · have f3' := fewB_no f3
        rw [f1] at HFa
        rw [f2] at HFb
        rw [f3'] at HFc
        go_enter Tryz.func14, Tryz.ntmps14
        go_wp2_with (first | (go_at_call_of 24 va; refine HFa.out.mono ?_; rintro e w' ⟨rfl, rfl⟩) | (go_at_call_of 24 vb; refine HFb.out.mono ?_; rintro e w' ⟨rfl, rfl⟩) | (go_at_call_of 24 vc; refine HFc.out.mono ?_; rintro e w' ⟨rfl, rfl⟩))
        refine (HAL.out w (Ext.refl _)).mono ?_
        rintro e w1 ⟨rfl, hE⟩
        go_wp2_with fail
        go_ret
        exact ⟨rfl, hE⟩
    · have f2' := fewB_no f2
      rw [f1] at HFa
      rw [f2'] at HFb
      go_enter Tryz.func14, Tryz.ntmps14
      go_wp2_with (first | (go_at_call_of 24 va; refine HFa.out.mono ?_; rintro e w' ⟨rfl, rfl⟩) | (go_at_call_of 24 vb; refine HFb.out.mono ?_; rintro e w' ⟨rfl, rfl⟩) | (go_at_call_of 24 vc; refine HFc.out.mono ?_; rintro e w' ⟨rfl, rfl⟩))
      refine (HAL.out w (Ext.refl _)).mono ?_
      rintro e w1 ⟨rfl, hE⟩
      go_wp2_with fail
      go_ret
      exact ⟨rfl, hE⟩
  · have f1' := fewB_no f1
    rw [f1'] at HFa
    go_enter Tryz.func14, Tryz.ntmps14
    go_wp2_with (first | (go_at_call_of 24 va; refine HFa.out.mono ?_; rintro e w' ⟨rfl, rfl⟩) | (go_at_call_of 24 vb; refine HFb.out.mono ?_; rintro e w' ⟨rfl, rfl⟩) | (go_at_call_of 24 vc; refine HFc.out.mono ?_; rintro e w' ⟨rfl, rfl⟩))
    refine (HAL.out w (Ext.refl _)).mono ?_
    rintro e w1 ⟨rfl, hE⟩
    go_wp2_with fail
    go_ret
    exact ⟨rfl, hE⟩
end Go.Proofs.YtgjahnomafpnfaaGreatDoor
