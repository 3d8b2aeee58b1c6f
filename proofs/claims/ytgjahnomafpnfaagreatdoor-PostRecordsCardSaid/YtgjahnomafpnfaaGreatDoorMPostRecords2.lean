/- Lemmas and walks that this claim needs, in one text out of several; each states its own conditions. -/
import Derived.Test.YtgjahnomafpnfaaGreatDoorMB8
import Derived.Test.YtgjahnomafpnfaaGreatDoorMPostRecords1
set_option linter.unusedVariables false
set_option linter.unusedSimpArgs false
/- Rules for a region whose frame is a variable: what an operand holds, what an operation gives. -/
namespace Go.Proofs.YtgjahnomafpnfaaGreatDoor
open Go.RowKit
/-- Does operation i wait for operation j itself? -/
def direct (ops : Array Oper) (i j : Nat) : Bool := (ops[i]?).any fun o => o.after.any fun e => Region.binds .any e && e.on == j
theorem direct_anc {ops : Array Oper} {f i j : Nat} (h : direct ops i j = true) : anc ops (f + 1) i j = true := by
  unfold direct at h
  unfold anc
  cases ho : ops[i]? with
  | none => rw [ho] at h; cases h
  | some o =>
    rw [ho, Option.any_some, Array.any_eq_true'] at h
    rw [Option.any_some, Array.any_eq_true']
    obtain ⟨e, he, h⟩ := h
    refine ⟨e, he, ?_⟩
    rw [Bool.and_eq_true] at h ⊢
    exact ⟨h.1, by rw [h.2]; rfl⟩
/-- The check of a region's text, quick: every operation looks only at what it waits for itself. -/
def drawnFast (ops : Array Oper) (size : Nat) : Bool :=
  (List.range ops.size).all (fun i => (ops[i]?).any fun o =>
    (match o.op with | .select .. => false | _ => true) && o.after.all (fun e => !Region.binds .any e || decide (e.on < i)) &&
    (o.dst.any fun d => decide (d < size)) && (List.range i).all (fun j => (ops[j]?).any fun q => q.dst != o.dst) &&
    (List.range ops.size).all (fun j => (ops[j]?).any fun q => q.dst.all fun d => !(o.looksAt ops).contains d || (j != i && direct ops i j)))
theorem drawnFast_ok {ops : Array Oper} {size : Nat} (h : drawnFast ops size = true) : drawnOk ops ops.size size = true := by
  unfold drawnFast at h
  unfold drawnOk
  rw [List.all_eq_true] at h
  rw [Bool.and_eq_true, decide_eq_true_eq, List.all_eq_true]
  refine ⟨Nat.le_refl _, fun i hi => ?_⟩
  have h1 := h i hi
  have hlt := List.mem_range.1 hi
  obtain ⟨f, hf⟩ : ∃ f, ops.size = f + 1 := ⟨ops.size - 1, by omega⟩
  cases ho : ops[i]? with
  | none => rw [ho] at h1; cases h1
  | some o =>
    rw [ho, Option.any_some] at h1
    rw [Option.any_some]
    rw [Bool.and_eq_true, Bool.and_eq_true, Bool.and_eq_true, Bool.and_eq_true] at h1
    obtain ⟨⟨⟨⟨a1, a2⟩, a3⟩, a4⟩, a5⟩ := h1
    have hd : decide (i < ops.size) = true := decide_eq_true hlt
    rw [Bool.and_eq_true, Bool.and_eq_true, Bool.and_eq_true, hd]
    refine ⟨⟨⟨a1, a2⟩, ?_⟩, rfl⟩
    rw [Bool.not_true, Bool.false_or, Bool.and_eq_true, Bool.and_eq_true]
    refine ⟨⟨a3, a4⟩, ?_⟩
    rw [List.all_eq_true] at a5 ⊢
    intro j hj
    have h5 := a5 j hj
    cases hq : ops[j]? with
    | none => rw [hq] at h5; cases h5
    | some q =>
      rw [hq, Option.any_some] at h5
      rw [Option.any_some]
      cases hqd : q.dst with
      | none => rfl
      | some d =>
        rw [hqd, Option.all_some, Bool.or_eq_true, Bool.and_eq_true] at h5
        rw [Option.all_some, Bool.or_eq_true, Bool.and_eq_true]
        rcases h5 with h6 | ⟨h6, h7⟩
        · exact .inl h6
        · refine .inr ⟨h6, ?_⟩
          rw [hf]
          exact direct_anc h7
section
variable {P : Program} {ops : Array Oper} {o : Oper} {a : Act} {w : World} {X : Value}
theorem sz_put {d n : Nat} (h : a.tmps.size = n) : (a.put (some d) X).tmps.size = n := by
  show (a.tmps.setIfInBounds d X).size = n
  rw [Array.size_setIfInBounds]; exact h
theorem ev_hit {d n : Nat} (hs : a.tmps.size = n) (h : d < n) : (a.put (some d) X).eval (.tmp d) = X := by
  show (a.tmps.setIfInBounds d X).getD d undef = X
  rw [Array.getD_eq_getD_getElem?, Array.getElem?_setIfInBounds_self_of_lt (by omega)]
  rfl
theorem ev_skip {d t : Nat} {v : Value} (hne : d ≠ t) (h : a.eval (.tmp t) = v) : (a.put (some d) X).eval (.tmp t) = v := by
  show (a.tmps.setIfInBounds d X).getD t undef = v
  rw [Array.getD_eq_getD_getElem?, Array.getElem?_setIfInBounds_ne hne, ← Array.getD_eq_getD_getElem?]
  exact h
theorem with_frame {c : Code} {Q : Exit → Act → World → Prop} (h : ∀ A, A = a → c.wp P Q A w) : c.wp P Q a w := h a rfl
theorem want_none (h : o.guard = none) : Region.wanted o (yielded ops a.tmps) = true := by unfold Region.wanted; rw [h]
theorem want_some {g t n : Nat} {want : Bool} (hg : o.guard = some (g, want)) (hd : (ops[g]?).bind (·.dst) = some t) (hn : a.tmps.size = n) (ht : t < n) (he : a.eval (.tmp t) = .bool want) : Region.wanted o (yielded ops a.tmps) = true := by
  have hs : t < a.tmps.size := by omega
  unfold Region.wanted
  rw [hg]
  have h1 : a.tmps[t]? = some (.bool want) := by
    have h2 : a.tmps.getD t undef = .bool want := he
    rw [Array.getD_eq_getD_getElem?, Array.getElem?_eq_getElem hs] at h2
    rw [Array.getElem?_eq_getElem hs]
    exact congrArg some h2
  have h3 : yielded ops a.tmps g = some want := by
    unfold yielded
    rw [hd]
    simp only [Option.bind_some, h1]
  simp only [h3, beq_self_eq_true]
theorem seq_pureD {E : World → World → Prop} {Φ : Nat → Option (Value → World → Prop)} {w0 : World} {T : Act → World → Prop} {ν : Nat → Value} {i d j : Nat} {rest : List Oper} (hj : i + 1 = j) (X : Value) (h0 : Φ i = none) (hd : o.dst = some d) (h : ∀ w', E w0 w' → factsOf ops Φ ν i w' → pureG P ops o a w' X) (hr : Seq E P ops Φ w0 T ν j rest (a.put (some d) X)) : Seq E P ops Φ w0 T ν i (o :: rest) a :=
  Seq.pure X h0 h (by rw [hd, hj]; exact hr)
theorem seq_effD {E : World → World → Prop} {Φ : Nat → Option (Value → World → Prop)} {w0 : World} {T : Act → World → Prop} {ν : Nat → Value} {i d j : Nat} {rest : List Oper} (hj : i + 1 = j) (φ : Value → World → Prop) (h0 : Φ i = some φ) (hd : o.dst = some d) (h : ∀ w', E w0 w' → factsOf ops Φ ν i w' → giveG P ops o a w' (fun v w'' => φ v w'' ∧ E w' w'')) (hr : Seq E P ops Φ w0 T ν j rest (a.put (some d) (ν i))) : Seq E P ops Φ w0 T ν i (o :: rest) a :=
  Seq.eff φ h0 h (by rw [hd, hj]; exact hr)
theorem pg_move {x : Operand} (hw : Region.wanted o (yielded ops a.tmps) = true) (ho : o.op = .move x) (hx : a.eval x = X) : pureG P ops o a w X := by
  unfold pureG
  rw [if_pos hw]
  unfold execOp
  simp only [ho, hx]
  rfl
theorem pg_pick {c x y : Operand} {b : Bool} (hw : Region.wanted o (yielded ops a.tmps) = true) (ho : o.op = .pick c x y) (hc : a.eval c = .bool b) (hx : (if b then a.eval x else a.eval y) = X) : pureG P ops o a w X := by
  unfold pureG
  rw [if_pos hw]
  unfold execOp
  subst hx
  simp only [ho, hc, asBool, Sem.run_bind, Sem.run_pure, Result.andThen_ok]
theorem pg_pickF {c x y : Operand} (hw : Region.wanted o (yielded ops a.tmps) = true) (ho : o.op = .pick c x y) (hc : a.eval c = .bool false) (hx : a.eval y = X) : pureG P ops o a w X := pg_pick (b := false) hw ho hc hx
theorem pg_bin {op : BinOp} {t t2 : TypeId} {x y : Operand} {u v : Value} (hw : Region.wanted o (yielded ops a.tmps) = true) (ho : o.op = .binOp op t x y t2) (hx : a.eval x = u) (hy : a.eval y = v)
    (hq : (eqGuard op t x y u v).run P w = .ok () w) (hb : (binOp op t u v).run P w = .ok X w) : pureG P ops o a w X := by
  unfold pureG
  rw [if_pos hw]
  unfold execOp
  simp only [ho, hx, hy, Sem.run_bind, hq, hb, Result.andThen_ok]
  rfl
theorem pg_load {t : TypeId} {x : Operand} {u : Value} (hw : Region.wanted o (yielded ops a.tmps) = true) (ho : o.op = .load t x) (hx : a.eval x = u) (h : (Instr.loadAt t u).run P w = .ok X w) : pureG P ops o a w X := by
  unfold pureG
  rw [if_pos hw]
  unfold execOp
  simp only [ho, hx, Sem.run_bind, h, Result.andThen_ok]
  rfl
theorem gv_call {f : FuncId} {us : Array Value} {R : Value → World → Prop} (hw : Region.wanted o (yielded ops a.tmps) = true) (he : (execOp a.eval o).run P w = .ok (.enter f us) w)
    (h : Calls P f us w fun e w' => ∃ v, e = .returned v ∧ R v w') : giveG P ops o a w R := by
  unfold giveG
  rw [if_pos hw]
  unfold Oper.wp
  rw [he]
  refine h.mono ?_
  rintro e w' ⟨v, rfl, hr⟩
  exact ⟨v, rfl, hr⟩
end
theorem neqS (t : ByteArray) (w : World) : (binOp .neq 9 (.string t) (.string t)).run Tryz.prog w = .ok (.bool false) w := by simp [go_sem, binOp, Op.stringOp]
theorem neqE (i : Int) (w : World) : (binOp .neq 38 (.int .i64 i) (.int .i64 i)).run Tryz.prog w = .ok (.bool false) w := by simp [go_sem, binOp]
theorem neqI (i : Int) (w : World) : (binOp .neq 3 (.int .i64 i) (.int .i64 i)).run Tryz.prog w = .ok (.bool false) w := by simp [go_sem, binOp]
theorem egS (x y : Operand) (a b : ByteArray) (w : World) : (eqGuard .neq 9 x y (.string a) (.string b)).run Tryz.prog w = .ok () w := rfl
theorem egE (t : TypeId) (x y : Operand) (a b : Int) (w : World) : (eqGuard .neq t x y (.int .i64 a) (.int .i64 b)).run Tryz.prog w = .ok () w := rfl
theorem eg49 (x y : Operand) (a b : Array Value) (w : World) : (eqGuard .neq 49 x y (.agg a) (.agg b)).run Tryz.prog w = .ok () w := run_eqGuard_agg _ _ _ _ _ _ _ (by kernel_rfl)
theorem eg94 (x y : Operand) (a b : Array Value) (w : World) : (eqGuard .neq 94 x y (.agg a) (.agg b)).run Tryz.prog w = .ok () w := run_eqGuard_agg _ _ _ _ _ _ _ (by kernel_rfl)
theorem ld49 {w : World} {X : Nat} {x : Rec} (h : BoxR w X x) : (Instr.loadAt 49 (.pointer (some ⟨X, 0, none⟩))).run Tryz.prog w = .ok (.agg #[.int .i64 x.st, .int .i64 x.num, .int .i64 x.hr, .string x.txt]) w := by
  have c0 := h.c0
  have c1 := h.c1
  have c2 := h.c2
  have c3 := h.c3
  simp [go_sem, c0, c1, c2, c3]
theorem ex_call61 (ρ : Operand → Value) (h1 : ρ (.func 61) = .func (.func 61) #[] #[]) {x0 : Operand} {u0 : Value} (h2 : ρ x0 = u0) {o : Oper} (ho : o.op = .call { callee := .value (.func 61), args := #[x0], argTypes := #[94] }) (w : World) : (execOp ρ o).run Tryz.prog w = .ok (.enter 61 #[u0]) w := by
  unfold execOp
  simp [ho, resolve, h1, h2, go_sem]
theorem ex_call62 (ρ : Operand → Value) (h1 : ρ (.func 62) = .func (.func 62) #[] #[]) {x0 : Operand} {u0 : Value} (h2 : ρ x0 = u0) {o : Oper} (ho : o.op = .call { callee := .value (.func 62), args := #[x0], argTypes := #[94] }) (w : World) : (execOp ρ o).run Tryz.prog w = .ok (.enter 62 #[u0]) w := by
  unfold execOp
  simp [ho, resolve, h1, h2, go_sem]
theorem ex_call63 (ρ : Operand → Value) (h1 : ρ (.func 63) = .func (.func 63) #[] #[]) {x0 x1 : Operand} {u0 u1 : Value} (h2 : ρ x0 = u0) (h3 : ρ x1 = u1) {o : Oper} (ho : o.op = .call { callee := .value (.func 63), args := #[x0, x1], argTypes := #[3, 49] }) (w : World) : (execOp ρ o).run Tryz.prog w = .ok (.enter 63 #[u0, u1]) w := by
  unfold execOp
  simp [ho, resolve, h1, h2, h3, go_sem]
theorem ex_call64 (ρ : Operand → Value) (h1 : ρ (.func 64) = .func (.func 64) #[] #[]) {x0 x1 : Operand} {u0 u1 : Value} (h2 : ρ x0 = u0) (h3 : ρ x1 = u1) {o : Oper} (ho : o.op = .call { callee := .value (.func 64), args := #[x0, x1], argTypes := #[3, 49] }) (w : World) : (execOp ρ o).run Tryz.prog w = .ok (.enter 64 #[u0, u1]) w := by
  unfold execOp
  simp [ho, resolve, h1, h2, h3, go_sem]
end Go.Proofs.YtgjahnomafpnfaaGreatDoor

/- The law PostRecords: its walk up to its great condition. -/
namespace Go.Proofs.YtgjahnomafpnfaaGreatDoor
open Go.RowKit
theorem recB_refl (x : Rec) : recB x x = true := (recB_iff x x).2 rfl
theorem same49 (x : Rec) (w : World) : (binOp .neq 49 (.agg #[.int .i64 x.st, .int .i64 x.num, .int .i64 x.hr, .string x.txt]) (.agg #[.int .i64 x.st, .int .i64 x.num, .int .i64 x.hr, .string x.txt])).run Tryz.prog w = .ok (.bool false) w := by
  rw [neq49, recB_refl]
  rfl
theorem fields94 : Tryz.prog.underlying 94 = some (.struct (Tryz.prog.fieldsOf 94)) := by kernel_rfl
theorem stood94 : Tryz.prog.stoodInHeld 94 = false := by kernel_rfl
theorem same94 (a b : Int) (w : World) : (binOp .neq 94 (.agg #[.int .i64 a, .int .i64 b]) (.agg #[.int .i64 a, .int .i64 b])).run Tryz.prog w = .ok (.bool false) w := by
  rw [run_neq_struct, run_equalIn_agg _ _ _ _ _ fields94 stood94]
  simp [Program.fieldsOf, Tryz.underlying94, Op.eqFields, go_sem]
/-- Two numbers in a block of their own. -/
structure PairX (w : World) (X : Nat) (a b : Int) : Prop where
  c0 : w.cell? ⟨X, 0, none⟩ = some (.int .i64 a)
  c1 : w.cell? ⟨X, 1, none⟩ = some (.int .i64 b)
theorem PairX.ext {w w' : World} {X : Nat} {a b : Int} (h : PairX w X a b) (hE : Ext w w') : PairX w' X a b := ⟨hE.keep h.c0, hE.keep h.c1⟩
theorem PairX.new (w : World) (a b : Int) : PairX (w.alloc (.cells #[.int .i64 a, .int .i64 b] 94)) w.heap.size a b := by
  refine ⟨?_, ?_⟩ <;> (rw [World.cell?_alloc_new]; rfl)
theorem PairX.load {w : World} {X : Nat} {a b : Int} (h : PairX w X a b) : (Instr.loadAt 94 (.pointer (some ⟨X, 0, none⟩))).run Tryz.prog w = .ok (.agg #[.int .i64 a, .int .i64 b]) w := by
  have c0 := h.c0
  have c1 := h.c1
  simp [go_sem, c0, c1]
set_option maxHeartbeats 3200000 in
set_option maxRecDepth 100000 in
theorem PostRecords_any {B : Nat} {w : World} (hL : Laid B w) (n : Int) (x : Rec) (line : ByteArray) (r1 r2 id : Int) (hn : -9223372036854775808 ≤ n ∧ n ≤ 9223372036854775807) :
    Calls Tryz.prog 10 #[.int .i64 n, rv x, .string line, .agg #[.int .i64 r1, .int .i64 r2], .int .i64 id] w fun e w' => e = .returned (.bool true) ∧ Ext w w' := by
  have hE0 : Ext w ((w.alloc (.cells #[.int .i64 x.st, .int .i64 x.num, .int .i64 x.hr, .string x.txt] 49)).alloc (.cells #[.int .i64 r1, .int .i64 r2] 94)) := (Ext.alloc _ _).trans (Ext.alloc _ _)
  have hB6 : BoxR ((w.alloc (.cells #[.int .i64 x.st, .int .i64 x.num, .int .i64 x.hr, .string x.txt] 49)).alloc (.cells #[.int .i64 r1, .int .i64 r2] 94)) w.heap.size x := (BoxR.new w x).ext (Ext.alloc _ _)
  have hP8 : PairX ((w.alloc (.cells #[.int .i64 x.st, .int .i64 x.num, .int .i64 x.hr, .string x.txt] 49)).alloc (.cells #[.int .i64 r1, .int .i64 r2] 94)) (w.heap.size + 1) r1 r2 := by
    have := PairX.new (w.alloc (.cells #[.int .i64 x.st, .int .i64 x.num, .int .i64 x.hr, .string x.txt] 49)) r1 r2
    rwa [show (w.alloc (.cells #[.int .i64 x.st, .int .i64 x.num, .int .i64 x.hr, .string x.txt] 49)).heap.size = w.heap.size + 1 from by simp] at this
  have HE0 := Lib.hid hE0
  have HB6 := Lib.hid hB6
  have HP8 := Lib.hid hP8
  have HL := Lib.hid hL
  clear hL hE0 hB6 hP8
  by_cases ht : 300 < x.txt.size
  · have ht' : (300 : Int) < x.txt.size := by omega
    have HA := Lib.hid (alive_any (HL.out.ext HE0.out))
    go_enter Tryz.func10, Tryz.ntmps10
    go_wp2_with (go_at_call 18; refine HA.out.mono ?_; rintro e w' ⟨rfl, hE⟩)
    go_ret
    exact ⟨rfl, HE0.out.trans hE⟩
  by_cases hl : 400 < line.size
  · have ht' : ¬ ((300 : Int) < x.txt.size) := by omega
    have hl' : (400 : Int) < line.size := by omega
    have HA := Lib.hid (alive_any (HL.out.ext HE0.out))
    go_enter Tryz.func10, Tryz.ntmps10
    go_wp2_with (go_at_call 18; refine HA.out.mono ?_; rintro e w' ⟨rfl, hE⟩)
    go_ret
    exact ⟨rfl, HE0.out.trans hE⟩
  have ht' : ¬ ((300 : Int) < x.txt.size) := by omega
  have hl' : ¬ ((400 : Int) < line.size) := by omega
  have HC1 := Lib.hid (fun (w : World) (h : Laid B w) => WriteRecord_any h n x hn)
  have HC2 := Lib.hid (fun (w : World) => WriteRecordR_any n x w (by omega))
  have HC3 := Lib.hid (fun (w : World) (h : Laid B w) => ReadRecord_any h n line (by omega))
  have hC4 := fun (w : World) => ReadRecordR_any n line w (by omega)
  rw [← (read_same n line).1, ← (read_same n line).2] at hC4
  have HC4 := Lib.hid hC4
  have HC5 := Lib.hid (fun (w : World) => RefOf_any id w)
  have HC6 := Lib.hid (fun (w : World) => RefOfR_any id w)
  have HI := Lib.hid (fun (w : World) => IdOf_any r1 r2 w)
  have HIR := Lib.hid (fun (w : World) => IdOfR_any r1 r2 w)
  have HK := Lib.hid (fun (w : World) => CheckRecord_any n x w)
  have HKR := Lib.hid (fun (w : World) => CheckRecordR_any n x w (by omega))
  have hC7 : ∀ (w : World), Laid B w → checkE n x = 0 → Calls Tryz.prog 57 #[.int .i64 n, .string (writeB n x)] w fun e w' => e = .returned (.tuple #[rv x, .int .i64 0]) ∧ Ext w w' := by
    intro w h he
    have h1 := write_read he
    have h2 := formedB_bounds (checkE_bounds he).2
    have h3 := ReadRecord_any h n (writeB n x) (by
      have := rowB_size [x.num, x.hr] (by intro g hg; simp only [List.mem_cons, List.not_mem_nil, or_false] at hg; rcases hg with rfl | rfl <;> omega) (itoaB x.st)
      have h5 := itoaB_size x.st (by omega) (by omega)
      have h6 : (lineB x).size = (rowB (itoaB x.st) [x.num, x.hr]).size + 1 + x.txt.size := by rw [← rowB_line, ByteArray.size_append, ByteArray.size_append]; rfl
      simp only [List.length_cons, List.length_nil] at this
      rw [writeB_of he, h6]
      omega)
    rw [h1.1, h1.2] at h3
    exact h3
  have hC8 : ∀ (w : World), Laid B w → readPE n line = 0 → Calls Tryz.prog 55 #[.int .i64 n, rv (readPX n line)] w fun e w' => e = .returned (.tuple #[.string line, .int .i64 0]) ∧ Ext w w' := by
    intro w h he
    have h1 := read_write he
    have h3 := WriteRecord_any h n (readPX n line) hn
    rw [h1.1, h1.2] at h3
    exact h3
  have hC9 : ∀ (w : World), 0 < idB r1 r2 → Calls Tryz.prog 59 #[.int .i64 (idB r1 r2)] w fun e w' => e = .returned (.tuple #[.agg #[.int .i64 r1, .int .i64 r2], .int .i64 0]) ∧ Ext w w' := by
    intro w he
    have h1 := id_ref he
    have h3 := RefOf_any (idB r1 r2) w
    unfold refV at h3
    rw [h1.1, h1.2.1, h1.2.2] at h3
    exact h3
  have hC10 : ∀ (w : World), refE id = 0 → Calls Tryz.prog 61 #[.agg #[.int .i64 (refS id), .int .i64 (refN id)]] w fun e w' => e = .returned (.int .i64 id) ∧ Ext w w' := by
    intro w he
    have h3 := IdOf_any (refS id) (refN id) w
    rw [ref_id he] at h3
    exact h3
  have HC7 := Lib.hid hC7
  have HC8 := Lib.hid hC8
  have HC9 := Lib.hid hC9
  have HC10 := Lib.hid hC10
  have HQ := Lib.hid (fun w => same49 (readPX n line) w)
  have HQx := Lib.hid (fun w => same49 x w)
  have HZ := Lib.hid (fun w => same94 (refS id) (refN id) w)
  have HZr := Lib.hid (fun w => same94 r1 r2 w)
  unfold refV at HC5 HC6
  clear hC4 hC7 hC8 hC9 hC10
  generalize writeB n x = T at *
  generalize checkE n x = CE at *
  generalize readPX n line = Y at *
  generalize readPE n line = PE at *
  generalize idB r1 r2 = I at *
  generalize refS id = S2 at *
  generalize refN id = N2 at *
  generalize refE id = R2 at *
  go_enter Tryz.func10, Tryz.ntmps10
  go_wp2_with fail
  generalize (w.alloc (.cells #[.int .i64 x.st, .int .i64 x.num, .int .i64 x.hr, .string x.txt] 49)).alloc (.cells #[.int .i64 r1, .int .i64 r2] 94) = W0 at HE0 HB6 HP8 ⊢
  refine (HC1.out _ (HL.out.ext HE0.out)).mono ?_
  rintro e W1 ⟨rfl, hE1⟩
  have HE1 := Lib.hid hE1
  have c0 := hE1.keep HB6.out.c0
  have c1 := hE1.keep HB6.out.c1
  have c2 := hE1.keep HB6.out.c2
  have c3 := hE1.keep HB6.out.c3
  clear hE1
  go_wp2_with fail
  clear c0 c1 c2 c3
  refine (HC2.out _).mono ?_
  rintro e W2 ⟨rfl, hE2⟩
  have HE2 := Lib.hid (HE1.out.trans hE2)
  clear hE2
  go_wp2_with fail
  refine (HC3.out _ (HL.out.ext (HE0.out.trans HE2.out))).mono ?_
  rintro e W3 ⟨rfl, hE3⟩
  have HE3 := Lib.hid (HE2.out.trans hE3)
  clear hE3
  go_wp2_with fail
  have HY := Lib.hid (BoxR.new W3 Y)
  have HE3a := Lib.hid (HE3.out.trans (Ext.alloc W3 (.cells #[.int .i64 Y.st, .int .i64 Y.num, .int .i64 Y.hr, .string Y.txt] 49)))
  obtain ⟨b15, hb15⟩ : ∃ b, W3.heap.size = b := ⟨_, rfl⟩
  rw [hb15] at HY ⊢
  generalize W3.alloc (.cells #[.int .i64 Y.st, .int .i64 Y.num, .int .i64 Y.hr, .string Y.txt] 49) = W4 at HY HE3a ⊢
  refine (HC4.out _).mono ?_
  rintro e W5 ⟨rfl, hE5⟩
  have HE5 := Lib.hid (HE3a.out.trans hE5)
  have HY5 := Lib.hid (HY.out.ext hE5)
  clear hE5 hb15
  go_wp2_with fail
  have HX := Lib.hid (BoxR.new W5 Y)
  have hE6 := Ext.alloc W5 (.cells #[.int .i64 Y.st, .int .i64 Y.num, .int .i64 Y.hr, .string Y.txt] 49)
  have HE6 := Lib.hid (HE5.out.trans hE6)
  have HY6 := Lib.hid (HY5.out.ext hE6)
  clear hE6
  obtain ⟨b17, hb17⟩ : ∃ b, W5.heap.size = b := ⟨_, rfl⟩
  rw [hb17] at HX ⊢
  generalize W5.alloc (.cells #[.int .i64 Y.st, .int .i64 Y.num, .int .i64 Y.hr, .string Y.txt] 49) = W6 at HX HE6 HY6 ⊢
  refine (HC5.out _).mono ?_
  rintro e W7 ⟨rfl, hE7⟩
  have HE7 := Lib.hid (HE6.out.trans hE7)
  have HY7 := Lib.hid (HY6.out.ext hE7)
  have HX7 := Lib.hid (HX.out.ext hE7)
  clear hE7 hb17
  go_wp2_with fail
  have HU := Lib.hid (PairX.new W7 S2 N2)
  have hE8 := Ext.alloc W7 (.cells #[.int .i64 S2, .int .i64 N2] 94)
  have HE8 := Lib.hid (HE7.out.trans hE8)
  have HY8 := Lib.hid (HY7.out.ext hE8)
  have HX8 := Lib.hid (HX7.out.ext hE8)
  clear hE8
  obtain ⟨b19, hb19⟩ : ∃ b, W7.heap.size = b := ⟨_, rfl⟩
  rw [hb19] at HU ⊢
  generalize W7.alloc (.cells #[.int .i64 S2, .int .i64 N2] 94) = W8 at HU HE8 HY8 HX8 ⊢
  refine (HC6.out _).mono ?_
  rintro e W9 ⟨rfl, hE9⟩
  have HE9 := Lib.hid (HE8.out.trans hE9)
  have HY9 := Lib.hid (HY8.out.ext hE9)
  have HX9 := Lib.hid (HX8.out.ext hE9)
  have HU9 := Lib.hid (HU.out.ext hE9)
  clear hE9 hb19
  go_wp2_with fail
  have HV := Lib.hid (PairX.new W9 S2 N2)
  have hE10 := Ext.alloc W9 (.cells #[.int .i64 S2, .int .i64 N2] 94)
  have HE10 := Lib.hid (HE9.out.trans hE10)
  have HY10 := Lib.hid (HY9.out.ext hE10)
  have HX10 := Lib.hid (HX9.out.ext hE10)
  have HU10 := Lib.hid (HU9.out.ext hE10)
  clear hE10
  obtain ⟨b21, hb21⟩ : ∃ b, W9.heap.size = b := ⟨_, rfl⟩
  rw [hb21] at HV ⊢
  generalize W9.alloc (.cells #[.int .i64 S2, .int .i64 N2] 94) = W at HV HE10 HY10 HX10 HU10 ⊢
  clear hb21
  have HB := Lib.hid (HB6.out.ext HE10.out)
  have HP := Lib.hid (HP8.out.ext HE10.out)
  clear HE1 HE2 HE3 HE3a HE5 HE6 HE7 HE8 HE9 HY HY5 HY6 HY7 HY8 HY9 HX HX7 HX8 HX9 HU HU9 HB6 HP8
  have y0 := HY10.out.c0
  have y1 := HY10.out.c1
  have y2 := HY10.out.c2
  have y3 := HY10.out.c3
  have z0 := HX10.out.c0
  have z1 := HX10.out.c1
  have z2 := HX10.out.c2
  have z3 := HX10.out.c3
  have u0 := HU10.out.c0
  have u1 := HU10.out.c1
  have v0 := HV.out.c0
  have v1 := HV.out.c1
  have k0 := HB.out.c0
  have k1 := HB.out.c1
  have k2 := HB.out.c2
  have k3 := HB.out.c3
  have p0 := HP.out.c0
  have p1 := HP.out.c1
  refine wp_drawn 44 (by kernel_rfl) (drawnFast_ok (by kernel_rfl)) (fun i => match i with
    | 30 => some fun v _ => v = .int .i64 I
    | 32 => some fun v _ => v = .int .i64 I
    | 38 => some fun v _ => v = .int .i64 CE
    | 41 => some fun v _ => v = .int .i64 CE
    | _ => none) ?_ ?_
  · intro j φ hφ v w1 w2 h1 h2
    split at hφ <;> cases hφ
    all_goals exact h1
  intro ν
  simp only [List.take_succ_cons, List.take_zero]
  iterate 9 (refine Seq.pure ?_ rfl (fun w' hw hf => ?_) ?_; rotate_left; (· (skip; unfold pureG; go_simp; with_reducible rfl)); simp only [Act.put, List.setIfInBounds_toArray, List.set_cons_zero, List.set_cons_succ, Nat.reduceAdd, Nat.zero_add])
  iterate 2 (refine Seq.pure ?_ rfl (fun w' hw hf => ?_) ?_; rotate_left; (· (have y0' := hw.keep (w := World.drew _) y0; have y1' := hw.keep (w := World.drew _) y1; have y2' := hw.keep (w := World.drew _) y2; have y3' := hw.keep (w := World.drew _) y3; have z0' := hw.keep (w := World.drew _) z0; have z1' := hw.keep (w := World.drew _) z1; have z2' := hw.keep (w := World.drew _) z2; have z3' := hw.keep (w := World.drew _) z3; unfold pureG; go_simp; with_reducible rfl)); simp only [Act.put, List.setIfInBounds_toArray, List.set_cons_zero, List.set_cons_succ, Nat.reduceAdd, Nat.zero_add])
  iterate 1 (refine Seq.pure ?_ rfl (fun w' hw hf => ?_) ?_; rotate_left; (· (have q := HQ.out; unfold pureG; go_simp; with_reducible rfl)); simp only [Act.put, List.setIfInBounds_toArray, List.set_cons_zero, List.set_cons_succ, Nat.reduceAdd, Nat.zero_add])
  iterate 7 (refine Seq.pure ?_ rfl (fun w' hw hf => ?_) ?_; rotate_left; (· (skip; unfold pureG; go_simp; with_reducible rfl)); simp only [Act.put, List.setIfInBounds_toArray, List.set_cons_zero, List.set_cons_succ, Nat.reduceAdd, Nat.zero_add])
  iterate 2 (refine Seq.pure ?_ rfl (fun w' hw hf => ?_) ?_; rotate_left; (· (have u0' := hw.keep (w := World.drew _) u0; have u1' := hw.keep (w := World.drew _) u1; have v0' := hw.keep (w := World.drew _) v0; have v1' := hw.keep (w := World.drew _) v1; unfold pureG; go_simp; with_reducible rfl)); simp only [Act.put, List.setIfInBounds_toArray, List.set_cons_zero, List.set_cons_succ, Nat.reduceAdd, Nat.zero_add])
  iterate 1 (refine Seq.pure ?_ rfl (fun w' hw hf => ?_) ?_; rotate_left; (· (have q := HZ.out; unfold pureG; go_simp; with_reducible rfl)); simp only [Act.put, List.setIfInBounds_toArray, List.set_cons_zero, List.set_cons_succ, Nat.reduceAdd, Nat.zero_add])
  iterate 7 (refine Seq.pure ?_ rfl (fun w' hw hf => ?_) ?_; rotate_left; (· (skip; unfold pureG; go_simp; with_reducible rfl)); simp only [Act.put, List.setIfInBounds_toArray, List.set_cons_zero, List.set_cons_succ, Nat.reduceAdd, Nat.zero_add])
  iterate 1 (refine Seq.pure ?_ rfl (fun w' hw hf => ?_) ?_; rotate_left; (· (have p0' := hw.keep (w := World.drew _) p0; have p1' := hw.keep (w := World.drew _) p1; unfold pureG; go_simp; with_reducible rfl)); simp only [Act.put, List.setIfInBounds_toArray, List.set_cons_zero, List.set_cons_succ, Nat.reduceAdd, Nat.zero_add])
  refine Seq.eff _ rfl (fun w' hw hf => giveG_of rfl (by simp) fun K hK => ?_) ?_
  · go_simp
    refine (HI.out _).mono ?_
    rintro e w2 ⟨rfl, hb⟩
    exact hK _ _ ⟨rfl, hb⟩
  simp only [Act.put, List.setIfInBounds_toArray, List.set_cons_zero, List.set_cons_succ, Nat.reduceAdd, Nat.zero_add]
  iterate 1 (refine Seq.pure ?_ rfl (fun w' hw hf => ?_) ?_; rotate_left; (· (have p0' := hw.keep (w := World.drew _) p0; have p1' := hw.keep (w := World.drew _) p1; unfold pureG; go_simp; with_reducible rfl)); simp only [Act.put, List.setIfInBounds_toArray, List.set_cons_zero, List.set_cons_succ, Nat.reduceAdd, Nat.zero_add])
  refine Seq.eff _ rfl (fun w' hw hf => giveG_of rfl (by simp) fun K hK => ?_) ?_
  · go_simp
    refine (HIR.out _).mono ?_
    rintro e w2 ⟨rfl, hb⟩
    exact hK _ _ ⟨rfl, hb⟩
  simp only [Act.put, List.setIfInBounds_toArray, List.set_cons_zero, List.set_cons_succ, Nat.reduceAdd, Nat.zero_add]
  iterate 1 (refine Seq.pure ?_ rfl (fun w' hw hf => ?_) ?_; rotate_left; (· (have e30 := hf 30 _ rfl (direct_anc (f := 43) (by kernel_rfl)); have e32 := hf 32 _ rfl (direct_anc (f := 43) (by kernel_rfl)); unfold pureG; go_simp; with_reducible rfl)); simp only [Act.put, List.setIfInBounds_toArray, List.set_cons_zero, List.set_cons_succ, Nat.reduceAdd, Nat.zero_add])
  iterate 3 (refine Seq.pure ?_ rfl (fun w' hw hf => ?_) ?_; rotate_left; (· (skip; unfold pureG; go_simp; with_reducible rfl)); simp only [Act.put, List.setIfInBounds_toArray, List.set_cons_zero, List.set_cons_succ, Nat.reduceAdd, Nat.zero_add])
  iterate 1 (refine Seq.pure ?_ rfl (fun w' hw hf => ?_) ?_; rotate_left; (· (have k0' := hw.keep (w := World.drew _) k0; have k1' := hw.keep (w := World.drew _) k1; have k2' := hw.keep (w := World.drew _) k2; have k3' := hw.keep (w := World.drew _) k3; unfold pureG; go_simp; with_reducible rfl)); simp only [Act.put, List.setIfInBounds_toArray, List.set_cons_zero, List.set_cons_succ, Nat.reduceAdd, Nat.zero_add])
  refine Seq.eff _ rfl (fun w' hw hf => giveG_of rfl (by simp) fun K hK => ?_) ?_
  · go_simp
    refine (HK.out _).mono ?_
    rintro e w2 ⟨rfl, hb⟩
    exact hK _ _ ⟨rfl, hb⟩
  simp only [Act.put, List.setIfInBounds_toArray, List.set_cons_zero, List.set_cons_succ, Nat.reduceAdd, Nat.zero_add]
  iterate 2 (refine Seq.pure ?_ rfl (fun w' hw hf => ?_) ?_; rotate_left; (· (have k0' := hw.keep (w := World.drew _) k0; have k1' := hw.keep (w := World.drew _) k1; have k2' := hw.keep (w := World.drew _) k2; have k3' := hw.keep (w := World.drew _) k3; unfold pureG; go_simp; with_reducible rfl)); simp only [Act.put, List.setIfInBounds_toArray, List.set_cons_zero, List.set_cons_succ, Nat.reduceAdd, Nat.zero_add])
  refine Seq.eff _ rfl (fun w' hw hf => giveG_of rfl (by simp) fun K hK => ?_) ?_
  · go_simp
    refine (HKR.out _).mono ?_
    rintro e w2 ⟨rfl, hb⟩
    exact hK _ _ ⟨rfl, hb⟩
  simp only [Act.put, List.setIfInBounds_toArray, List.set_cons_zero, List.set_cons_succ, Nat.reduceAdd, Nat.zero_add]
  iterate 1 (refine Seq.pure ?_ rfl (fun w' hw hf => ?_) ?_; rotate_left; (· (have e38 := hf 38 _ rfl (direct_anc (f := 43) (by kernel_rfl)); have e41 := hf 41 _ rfl (direct_anc (f := 43) (by kernel_rfl)); unfold pureG; go_simp; with_reducible rfl)); simp only [Act.put, List.setIfInBounds_toArray, List.set_cons_zero, List.set_cons_succ, Nat.reduceAdd, Nat.zero_add])
  iterate 1 (refine Seq.pure ?_ rfl (fun w' hw hf => ?_) ?_; rotate_left; (· (skip; unfold pureG; go_simp; with_reducible rfl)); simp only [Act.put, List.setIfInBounds_toArray, List.set_cons_zero, List.set_cons_succ, Nat.reduceAdd, Nat.zero_add])
  refine Seq.nil fun W' hw hf => tail_none (by kernel_rfl) ?_
  have HE11 := Lib.hid (HE10.out.trans ((Ext.drew W).trans hw))
  have HW := Lib.hid ((Ext.drew W).trans hw)
  clear hf hw y0 y1 y2 y3 z0 z1 z2 z3 u0 u1 v0 v1 k0 k1 k2 k3 p0 p1
  have HBf := Lib.hid (HB.out.ext HW.out)
  have HYf := Lib.hid (HY10.out.ext HW.out)
  have HPf := Lib.hid (HP.out.ext HW.out)
  have HUf := Lib.hid (HU10.out.ext HW.out)
  clear HB HY10 HX10 HV HU10 HP HE10 HW
  have u0 := HUf.out.c0
  have u1 := HUf.out.c1
  have p0 := HPf.out.c0
  have p1 := HPf.out.c1
  have k0 := HBf.out.c0
  have k1 := HBf.out.c1
  have k2 := HBf.out.c2
  have k3 := HBf.out.c3
  have y0 := HYf.out.c0
  have y1 := HYf.out.c1
  have y2 := HYf.out.c2
  have y3 := HYf.out.c3
  by_cases hR : R2 = 0
  · by_cases hI : 0 < I
    · by_cases hC : CE = 0
      · by_cases hP : PE = 0
        · have HD10 := Lib.hid (fun w => HC10.out w hR)
          subst hR
          have HD7 := Lib.hid (fun w h => HC7.out w h hC)
          subst hC
          have HD8 := Lib.hid (fun w h => HC8.out w h hP)
          subst hP
          go_wp2_with fail
          refine (HD10.out _).mono ?_
          rintro e WA ⟨rfl, hE⟩
          replace HE11 := Lib.hid (HE11.out.trans hE)
          replace HBf := Lib.hid (HBf.out.ext hE)
          replace HYf := Lib.hid (HYf.out.ext hE)
          replace HPf := Lib.hid (HPf.out.ext hE)
          clear hE p0 p1 k0 k1 k2 k3 y0 y1 y2 y3
          have p0 := HPf.out.c0
          have p1 := HPf.out.c1
          have k0 := HBf.out.c0
          have k1 := HBf.out.c1
          have k2 := HBf.out.c2
          have k3 := HBf.out.c3
          have y0 := HYf.out.c0
          have y1 := HYf.out.c1
          have y2 := HYf.out.c2
          have y3 := HYf.out.c3
          go_wp2_with fail
          refine (HI.out _).mono ?_
          rintro e WB ⟨rfl, hE⟩
          replace HE11 := Lib.hid (HE11.out.trans hE)
          replace HBf := Lib.hid (HBf.out.ext hE)
          replace HYf := Lib.hid (HYf.out.ext hE)
          replace HPf := Lib.hid (HPf.out.ext hE)
          clear hE p0 p1 k0 k1 k2 k3 y0 y1 y2 y3
          have p0 := HPf.out.c0
          have p1 := HPf.out.c1
          have k0 := HBf.out.c0
          have k1 := HBf.out.c1
          have k2 := HBf.out.c2
          have k3 := HBf.out.c3
          have y0 := HYf.out.c0
          have y1 := HYf.out.c1
          have y2 := HYf.out.c2
          have y3 := HYf.out.c3
          go_wp2_with fail
          refine (HC9.out _ hI).mono ?_
          rintro e WC ⟨rfl, hE⟩
          replace HE11 := Lib.hid (HE11.out.trans hE)
          replace HBf := Lib.hid (HBf.out.ext hE)
          replace HYf := Lib.hid (HYf.out.ext hE)
          replace HPf := Lib.hid (HPf.out.ext hE)
          clear hE p0 p1 k0 k1 k2 k3 y0 y1 y2 y3
          have p0 := HPf.out.c0
          have p1 := HPf.out.c1
          have k0 := HBf.out.c0
          have k1 := HBf.out.c1
          have k2 := HBf.out.c2
          have k3 := HBf.out.c3
          have y0 := HYf.out.c0
          have y1 := HYf.out.c1
          have y2 := HYf.out.c2
          have y3 := HYf.out.c3
          have hX := Ext.alloc WC (.cells #[.int .i64 r1, .int .i64 r2] 94)
          replace HE11 := Lib.hid (HE11.out.trans hX)
          replace HBf := Lib.hid (HBf.out.ext hX)
          replace HYf := Lib.hid (HYf.out.ext hX)
          replace HPf := Lib.hid (HPf.out.ext hX)
          clear hX p0 p1 k0 k1 k2 k3 y0 y1 y2 y3
          have p0 := HPf.out.c0
          have p1 := HPf.out.c1
          have k0 := HBf.out.c0
          have k1 := HBf.out.c1
          have k2 := HBf.out.c2
          have k3 := HBf.out.c3
          have y0 := HYf.out.c0
          have y1 := HYf.out.c1
          have y2 := HYf.out.c2
          have y3 := HYf.out.c3
          have n0 := (PairX.new WC r1 r2).c0
          have n1 := (PairX.new WC r1 r2).c1
          have hq := HZr.out
          go_wp2_with fail
          clear n0 n1 hq
          refine (HD7.out _ (HL.out.ext (HE0.out.trans HE11.out))).mono ?_
          rintro e WD ⟨rfl, hE⟩
          replace HE11 := Lib.hid (HE11.out.trans hE)
          replace HBf := Lib.hid (HBf.out.ext hE)
          replace HYf := Lib.hid (HYf.out.ext hE)
          replace HPf := Lib.hid (HPf.out.ext hE)
          clear hE p0 p1 k0 k1 k2 k3 y0 y1 y2 y3
          have p0 := HPf.out.c0
          have p1 := HPf.out.c1
          have k0 := HBf.out.c0
          have k1 := HBf.out.c1
          have k2 := HBf.out.c2
          have k3 := HBf.out.c3
          have y0 := HYf.out.c0
          have y1 := HYf.out.c1
          have y2 := HYf.out.c2
          have y3 := HYf.out.c3
          have hX := Ext.alloc WD (.cells #[.int .i64 x.st, .int .i64 x.num, .int .i64 x.hr, .string x.txt] 49)
          replace HE11 := Lib.hid (HE11.out.trans hX)
          replace HBf := Lib.hid (HBf.out.ext hX)
          replace HYf := Lib.hid (HYf.out.ext hX)
          replace HPf := Lib.hid (HPf.out.ext hX)
          clear hX p0 p1 k0 k1 k2 k3 y0 y1 y2 y3
          have p0 := HPf.out.c0
          have p1 := HPf.out.c1
          have k0 := HBf.out.c0
          have k1 := HBf.out.c1
          have k2 := HBf.out.c2
          have k3 := HBf.out.c3
          have y0 := HYf.out.c0
          have y1 := HYf.out.c1
          have y2 := HYf.out.c2
          have y3 := HYf.out.c3
          have n0 := (BoxR.new WD x).c0
          have n1 := (BoxR.new WD x).c1
          have n2 := (BoxR.new WD x).c2
          have n3 := (BoxR.new WD x).c3
          have hq := HQx.out
          go_wp2_with fail
          clear n0 n1 n2 n3 hq
          refine (HD8.out _ (HL.out.ext (HE0.out.trans HE11.out))).mono ?_
          rintro e WE ⟨rfl, hE⟩
          replace HE11 := Lib.hid (HE11.out.trans hE)
          replace HBf := Lib.hid (HBf.out.ext hE)
          replace HYf := Lib.hid (HYf.out.ext hE)
          replace HPf := Lib.hid (HPf.out.ext hE)
          clear hE p0 p1 k0 k1 k2 k3 y0 y1 y2 y3
          have p0 := HPf.out.c0
          have p1 := HPf.out.c1
          have k0 := HBf.out.c0
          have k1 := HBf.out.c1
          have k2 := HBf.out.c2
          have k3 := HBf.out.c3
          have y0 := HYf.out.c0
          have y1 := HYf.out.c1
          have y2 := HYf.out.c2
          have y3 := HYf.out.c3
          go_wp2_with fail
          refine (alive_any (HL.out.ext (HE0.out.trans HE11.out))).mono ?_
          rintro e WF ⟨rfl, hE⟩
          go_wp2
          go_ret
          exact ⟨rfl, (HE0.out.trans HE11.out).trans hE⟩
        · have HD10 := Lib.hid (fun w => HC10.out w hR)
          subst hR
          have HD7 := Lib.hid (fun w h => HC7.out w h hC)
          subst hC
          go_wp2_with fail
          refine (HD10.out _).mono ?_
          rintro e WA ⟨rfl, hE⟩
          replace HE11 := Lib.hid (HE11.out.trans hE)
          replace HBf := Lib.hid (HBf.out.ext hE)
          replace HYf := Lib.hid (HYf.out.ext hE)
          replace HPf := Lib.hid (HPf.out.ext hE)
          clear hE p0 p1 k0 k1 k2 k3 y0 y1 y2 y3
          have p0 := HPf.out.c0
          have p1 := HPf.out.c1
          have k0 := HBf.out.c0
          have k1 := HBf.out.c1
          have k2 := HBf.out.c2
          have k3 := HBf.out.c3
          have y0 := HYf.out.c0
          have y1 := HYf.out.c1
          have y2 := HYf.out.c2
          have y3 := HYf.out.c3
          go_wp2_with fail
          refine (HI.out _).mono ?_
          rintro e WB ⟨rfl, hE⟩
          replace HE11 := Lib.hid (HE11.out.trans hE)
          replace HBf := Lib.hid (HBf.out.ext hE)
          replace HYf := Lib.hid (HYf.out.ext hE)
          replace HPf := Lib.hid (HPf.out.ext hE)
          clear hE p0 p1 k0 k1 k2 k3 y0 y1 y2 y3
          have p0 := HPf.out.c0
          have p1 := HPf.out.c1
          have k0 := HBf.out.c0
          have k1 := HBf.out.c1
          have k2 := HBf.out.c2
          have k3 := HBf.out.c3
          have y0 := HYf.out.c0
          have y1 := HYf.out.c1
          have y2 := HYf.out.c2
          have y3 := HYf.out.c3
          go_wp2_with fail
          refine (HC9.out _ hI).mono ?_
          rintro e WC ⟨rfl, hE⟩
          replace HE11 := Lib.hid (HE11.out.trans hE)
          replace HBf := Lib.hid (HBf.out.ext hE)
          replace HYf := Lib.hid (HYf.out.ext hE)
          replace HPf := Lib.hid (HPf.out.ext hE)
          clear hE p0 p1 k0 k1 k2 k3 y0 y1 y2 y3
          have p0 := HPf.out.c0
          have p1 := HPf.out.c1
          have k0 := HBf.out.c0
          have k1 := HBf.out.c1
          have k2 := HBf.out.c2
          have k3 := HBf.out.c3
          have y0 := HYf.out.c0
          have y1 := HYf.out.c1
          have y2 := HYf.out.c2
          have y3 := HYf.out.c3
          have hX := Ext.alloc WC (.cells #[.int .i64 r1, .int .i64 r2] 94)
          replace HE11 := Lib.hid (HE11.out.trans hX)
          replace HBf := Lib.hid (HBf.out.ext hX)
          replace HYf := Lib.hid (HYf.out.ext hX)
          replace HPf := Lib.hid (HPf.out.ext hX)
          clear hX p0 p1 k0 k1 k2 k3 y0 y1 y2 y3
          have p0 := HPf.out.c0
          have p1 := HPf.out.c1
          have k0 := HBf.out.c0
          have k1 := HBf.out.c1
          have k2 := HBf.out.c2
          have k3 := HBf.out.c3
          have y0 := HYf.out.c0
          have y1 := HYf.out.c1
          have y2 := HYf.out.c2
          have y3 := HYf.out.c3
          have n0 := (PairX.new WC r1 r2).c0
          have n1 := (PairX.new WC r1 r2).c1
          have hq := HZr.out
          go_wp2_with fail
          clear n0 n1 hq
          refine (HD7.out _ (HL.out.ext (HE0.out.trans HE11.out))).mono ?_
          rintro e WD ⟨rfl, hE⟩
          replace HE11 := Lib.hid (HE11.out.trans hE)
          replace HBf := Lib.hid (HBf.out.ext hE)
          replace HYf := Lib.hid (HYf.out.ext hE)
          replace HPf := Lib.hid (HPf.out.ext hE)
          clear hE p0 p1 k0 k1 k2 k3 y0 y1 y2 y3
          have p0 := HPf.out.c0
          have p1 := HPf.out.c1
          have k0 := HBf.out.c0
          have k1 := HBf.out.c1
          have k2 := HBf.out.c2
          have k3 := HBf.out.c3
          have y0 := HYf.out.c0
          have y1 := HYf.out.c1
          have y2 := HYf.out.c2
          have y3 := HYf.out.c3
          have hX := Ext.alloc WD (.cells #[.int .i64 x.st, .int .i64 x.num, .int .i64 x.hr, .string x.txt] 49)
          replace HE11 := Lib.hid (HE11.out.trans hX)
          replace HBf := Lib.hid (HBf.out.ext hX)
          replace HYf := Lib.hid (HYf.out.ext hX)
          replace HPf := Lib.hid (HPf.out.ext hX)
          clear hX p0 p1 k0 k1 k2 k3 y0 y1 y2 y3
          have p0 := HPf.out.c0
          have p1 := HPf.out.c1
          have k0 := HBf.out.c0
          have k1 := HBf.out.c1
          have k2 := HBf.out.c2
          have k3 := HBf.out.c3
          have y0 := HYf.out.c0
          have y1 := HYf.out.c1
          have y2 := HYf.out.c2
          have y3 := HYf.out.c3
          have n0 := (BoxR.new WD x).c0
          have n1 := (BoxR.new WD x).c1
          have n2 := (BoxR.new WD x).c2
          have n3 := (BoxR.new WD x).c3
          have hq := HQx.out
          go_wp2_with fail
          clear n0 n1 n2 n3 hq
          refine (alive_any (HL.out.ext (HE0.out.trans HE11.out))).mono ?_
          rintro e WF ⟨rfl, hE⟩
          go_wp2
          go_ret
          exact ⟨rfl, (HE0.out.trans HE11.out).trans hE⟩
      · by_cases hP : PE = 0
        · have HD10 := Lib.hid (fun w => HC10.out w hR)
          subst hR
          have HD8 := Lib.hid (fun w h => HC8.out w h hP)
          subst hP
          go_wp2_with fail
          refine (HD10.out _).mono ?_
          rintro e WA ⟨rfl, hE⟩
          replace HE11 := Lib.hid (HE11.out.trans hE)
          replace HBf := Lib.hid (HBf.out.ext hE)
          replace HYf := Lib.hid (HYf.out.ext hE)
          replace HPf := Lib.hid (HPf.out.ext hE)
          clear hE p0 p1 k0 k1 k2 k3 y0 y1 y2 y3
          have p0 := HPf.out.c0
          have p1 := HPf.out.c1
          have k0 := HBf.out.c0
          have k1 := HBf.out.c1
          have k2 := HBf.out.c2
          have k3 := HBf.out.c3
          have y0 := HYf.out.c0
          have y1 := HYf.out.c1
          have y2 := HYf.out.c2
          have y3 := HYf.out.c3
          go_wp2_with fail
          refine (HI.out _).mono ?_
          rintro e WB ⟨rfl, hE⟩
          replace HE11 := Lib.hid (HE11.out.trans hE)
          replace HBf := Lib.hid (HBf.out.ext hE)
          replace HYf := Lib.hid (HYf.out.ext hE)
          replace HPf := Lib.hid (HPf.out.ext hE)
          clear hE p0 p1 k0 k1 k2 k3 y0 y1 y2 y3
          have p0 := HPf.out.c0
          have p1 := HPf.out.c1
          have k0 := HBf.out.c0
          have k1 := HBf.out.c1
          have k2 := HBf.out.c2
          have k3 := HBf.out.c3
          have y0 := HYf.out.c0
          have y1 := HYf.out.c1
          have y2 := HYf.out.c2
          have y3 := HYf.out.c3
          go_wp2_with fail
          refine (HC9.out _ hI).mono ?_
          rintro e WC ⟨rfl, hE⟩
          replace HE11 := Lib.hid (HE11.out.trans hE)
          replace HBf := Lib.hid (HBf.out.ext hE)
          replace HYf := Lib.hid (HYf.out.ext hE)
          replace HPf := Lib.hid (HPf.out.ext hE)
          clear hE p0 p1 k0 k1 k2 k3 y0 y1 y2 y3
          have p0 := HPf.out.c0
          have p1 := HPf.out.c1
          have k0 := HBf.out.c0
          have k1 := HBf.out.c1
          have k2 := HBf.out.c2
          have k3 := HBf.out.c3
          have y0 := HYf.out.c0
          have y1 := HYf.out.c1
          have y2 := HYf.out.c2
          have y3 := HYf.out.c3
          have hX := Ext.alloc WC (.cells #[.int .i64 r1, .int .i64 r2] 94)
          replace HE11 := Lib.hid (HE11.out.trans hX)
          replace HBf := Lib.hid (HBf.out.ext hX)
          replace HYf := Lib.hid (HYf.out.ext hX)
          replace HPf := Lib.hid (HPf.out.ext hX)
          clear hX p0 p1 k0 k1 k2 k3 y0 y1 y2 y3
          have p0 := HPf.out.c0
          have p1 := HPf.out.c1
          have k0 := HBf.out.c0
          have k1 := HBf.out.c1
          have k2 := HBf.out.c2
          have k3 := HBf.out.c3
          have y0 := HYf.out.c0
          have y1 := HYf.out.c1
          have y2 := HYf.out.c2
          have y3 := HYf.out.c3
          have n0 := (PairX.new WC r1 r2).c0
          have n1 := (PairX.new WC r1 r2).c1
          have hq := HZr.out
          go_wp2_with fail
          clear n0 n1 hq
          refine (HD8.out _ (HL.out.ext (HE0.out.trans HE11.out))).mono ?_
          rintro e WE ⟨rfl, hE⟩
          replace HE11 := Lib.hid (HE11.out.trans hE)
          replace HBf := Lib.hid (HBf.out.ext hE)
          replace HYf := Lib.hid (HYf.out.ext hE)
          replace HPf := Lib.hid (HPf.out.ext hE)
          clear hE p0 p1 k0 k1 k2 k3 y0 y1 y2 y3
          have p0 := HPf.out.c0
          have p1 := HPf.out.c1
          have k0 := HBf.out.c0
          have k1 := HBf.out.c1
          have k2 := HBf.out.c2
          have k3 := HBf.out.c3
          have y0 := HYf.out.c0
          have y1 := HYf.out.c1
          have y2 := HYf.out.c2
          have y3 := HYf.out.c3
          go_wp2_with fail
          refine (alive_any (HL.out.ext (HE0.out.trans HE11.out))).mono ?_
          rintro e WF ⟨rfl, hE⟩
          go_wp2
          go_ret
          exact ⟨rfl, (HE0.out.trans HE11.out).trans hE⟩
        · have HD10 := Lib.hid (fun w => HC10.out w hR)
          subst hR
          go_wp2_with fail
          refine (HD10.out _).mono ?_
          rintro e WA ⟨rfl, hE⟩
          replace HE11 := Lib.hid (HE11.out.trans hE)
          replace HBf := Lib.hid (HBf.out.ext hE)
          replace HYf := Lib.hid (HYf.out.ext hE)
          replace HPf := Lib.hid (HPf.out.ext hE)
          clear hE p0 p1 k0 k1 k2 k3 y0 y1 y2 y3
          have p0 := HPf.out.c0
          have p1 := HPf.out.c1
          have k0 := HBf.out.c0
          have k1 := HBf.out.c1
          have k2 := HBf.out.c2
          have k3 := HBf.out.c3
          have y0 := HYf.out.c0
          have y1 := HYf.out.c1
          have y2 := HYf.out.c2
          have y3 := HYf.out.c3
          go_wp2_with fail
          refine (HI.out _).mono ?_
          rintro e WB ⟨rfl, hE⟩
          replace HE11 := Lib.hid (HE11.out.trans hE)
          replace HBf := Lib.hid (HBf.out.ext hE)
          replace HYf := Lib.hid (HYf.out.ext hE)
          replace HPf := Lib.hid (HPf.out.ext hE)
          clear hE p0 p1 k0 k1 k2 k3 y0 y1 y2 y3
          have p0 := HPf.out.c0
          have p1 := HPf.out.c1
          have k0 := HBf.out.c0
          have k1 := HBf.out.c1
          have k2 := HBf.out.c2
          have k3 := HBf.out.c3
          have y0 := HYf.out.c0
          have y1 := HYf.out.c1
          have y2 := HYf.out.c2
          have y3 := HYf.out.c3
          go_wp2_with fail
          refine (HC9.out _ hI).mono ?_
          rintro e WC ⟨rfl, hE⟩
          replace HE11 := Lib.hid (HE11.out.trans hE)
          replace HBf := Lib.hid (HBf.out.ext hE)
          replace HYf := Lib.hid (HYf.out.ext hE)
          replace HPf := Lib.hid (HPf.out.ext hE)
          clear hE p0 p1 k0 k1 k2 k3 y0 y1 y2 y3
          have p0 := HPf.out.c0
          have p1 := HPf.out.c1
          have k0 := HBf.out.c0
          have k1 := HBf.out.c1
          have k2 := HBf.out.c2
          have k3 := HBf.out.c3
          have y0 := HYf.out.c0
          have y1 := HYf.out.c1
          have y2 := HYf.out.c2
          have y3 := HYf.out.c3
          have hX := Ext.alloc WC (.cells #[.int .i64 r1, .int .i64 r2] 94)
          replace HE11 := Lib.hid (HE11.out.trans hX)
          replace HBf := Lib.hid (HBf.out.ext hX)
          replace HYf := Lib.hid (HYf.out.ext hX)
          replace HPf := Lib.hid (HPf.out.ext hX)
          clear hX p0 p1 k0 k1 k2 k3 y0 y1 y2 y3
          have p0 := HPf.out.c0
          have p1 := HPf.out.c1
          have k0 := HBf.out.c0
          have k1 := HBf.out.c1
          have k2 := HBf.out.c2
          have k3 := HBf.out.c3
          have y0 := HYf.out.c0
          have y1 := HYf.out.c1
          have y2 := HYf.out.c2
          have y3 := HYf.out.c3
          have n0 := (PairX.new WC r1 r2).c0
          have n1 := (PairX.new WC r1 r2).c1
          have hq := HZr.out
          go_wp2_with fail
          clear n0 n1 hq
          refine (alive_any (HL.out.ext (HE0.out.trans HE11.out))).mono ?_
          rintro e WF ⟨rfl, hE⟩
          go_wp2
          go_ret
          exact ⟨rfl, (HE0.out.trans HE11.out).trans hE⟩
    · by_cases hC : CE = 0
      · by_cases hP : PE = 0
        · have HD10 := Lib.hid (fun w => HC10.out w hR)
          subst hR
          have HD7 := Lib.hid (fun w h => HC7.out w h hC)
          subst hC
          have HD8 := Lib.hid (fun w h => HC8.out w h hP)
          subst hP
          go_wp2_with fail
          refine (HD10.out _).mono ?_
          rintro e WA ⟨rfl, hE⟩
          replace HE11 := Lib.hid (HE11.out.trans hE)
          replace HBf := Lib.hid (HBf.out.ext hE)
          replace HYf := Lib.hid (HYf.out.ext hE)
          replace HPf := Lib.hid (HPf.out.ext hE)
          clear hE p0 p1 k0 k1 k2 k3 y0 y1 y2 y3
          have p0 := HPf.out.c0
          have p1 := HPf.out.c1
          have k0 := HBf.out.c0
          have k1 := HBf.out.c1
          have k2 := HBf.out.c2
          have k3 := HBf.out.c3
          have y0 := HYf.out.c0
          have y1 := HYf.out.c1
          have y2 := HYf.out.c2
          have y3 := HYf.out.c3
          go_wp2_with fail
          refine (HI.out _).mono ?_
          rintro e WB ⟨rfl, hE⟩
          replace HE11 := Lib.hid (HE11.out.trans hE)
          replace HBf := Lib.hid (HBf.out.ext hE)
          replace HYf := Lib.hid (HYf.out.ext hE)
          replace HPf := Lib.hid (HPf.out.ext hE)
          clear hE p0 p1 k0 k1 k2 k3 y0 y1 y2 y3
          have p0 := HPf.out.c0
          have p1 := HPf.out.c1
          have k0 := HBf.out.c0
          have k1 := HBf.out.c1
          have k2 := HBf.out.c2
          have k3 := HBf.out.c3
          have y0 := HYf.out.c0
          have y1 := HYf.out.c1
          have y2 := HYf.out.c2
          have y3 := HYf.out.c3
          go_wp2_with fail
          refine (HD7.out _ (HL.out.ext (HE0.out.trans HE11.out))).mono ?_
          rintro e WD ⟨rfl, hE⟩
          replace HE11 := Lib.hid (HE11.out.trans hE)
          replace HBf := Lib.hid (HBf.out.ext hE)
          replace HYf := Lib.hid (HYf.out.ext hE)
          replace HPf := Lib.hid (HPf.out.ext hE)
          clear hE p0 p1 k0 k1 k2 k3 y0 y1 y2 y3
          have p0 := HPf.out.c0
          have p1 := HPf.out.c1
          have k0 := HBf.out.c0
          have k1 := HBf.out.c1
          have k2 := HBf.out.c2
          have k3 := HBf.out.c3
          have y0 := HYf.out.c0
          have y1 := HYf.out.c1
          have y2 := HYf.out.c2
          have y3 := HYf.out.c3
          have hX := Ext.alloc WD (.cells #[.int .i64 x.st, .int .i64 x.num, .int .i64 x.hr, .string x.txt] 49)
          replace HE11 := Lib.hid (HE11.out.trans hX)
          replace HBf := Lib.hid (HBf.out.ext hX)
          replace HYf := Lib.hid (HYf.out.ext hX)
          replace HPf := Lib.hid (HPf.out.ext hX)
          clear hX p0 p1 k0 k1 k2 k3 y0 y1 y2 y3
          have p0 := HPf.out.c0
          have p1 := HPf.out.c1
          have k0 := HBf.out.c0
          have k1 := HBf.out.c1
          have k2 := HBf.out.c2
          have k3 := HBf.out.c3
          have y0 := HYf.out.c0
          have y1 := HYf.out.c1
          have y2 := HYf.out.c2
          have y3 := HYf.out.c3
          have n0 := (BoxR.new WD x).c0
          have n1 := (BoxR.new WD x).c1
          have n2 := (BoxR.new WD x).c2
          have n3 := (BoxR.new WD x).c3
          have hq := HQx.out
          go_wp2_with fail
          clear n0 n1 n2 n3 hq
          refine (HD8.out _ (HL.out.ext (HE0.out.trans HE11.out))).mono ?_
          rintro e WE ⟨rfl, hE⟩
          replace HE11 := Lib.hid (HE11.out.trans hE)
          replace HBf := Lib.hid (HBf.out.ext hE)
          replace HYf := Lib.hid (HYf.out.ext hE)
          replace HPf := Lib.hid (HPf.out.ext hE)
          clear hE p0 p1 k0 k1 k2 k3 y0 y1 y2 y3
          have p0 := HPf.out.c0
          have p1 := HPf.out.c1
          have k0 := HBf.out.c0
          have k1 := HBf.out.c1
          have k2 := HBf.out.c2
          have k3 := HBf.out.c3
          have y0 := HYf.out.c0
          have y1 := HYf.out.c1
          have y2 := HYf.out.c2
          have y3 := HYf.out.c3
          go_wp2_with fail
          refine (alive_any (HL.out.ext (HE0.out.trans HE11.out))).mono ?_
          rintro e WF ⟨rfl, hE⟩
          go_wp2
          go_ret
          exact ⟨rfl, (HE0.out.trans HE11.out).trans hE⟩
        · have HD10 := Lib.hid (fun w => HC10.out w hR)
          subst hR
          have HD7 := Lib.hid (fun w h => HC7.out w h hC)
          subst hC
          go_wp2_with fail
          refine (HD10.out _).mono ?_
          rintro e WA ⟨rfl, hE⟩
          replace HE11 := Lib.hid (HE11.out.trans hE)
          replace HBf := Lib.hid (HBf.out.ext hE)
          replace HYf := Lib.hid (HYf.out.ext hE)
          replace HPf := Lib.hid (HPf.out.ext hE)
          clear hE p0 p1 k0 k1 k2 k3 y0 y1 y2 y3
          have p0 := HPf.out.c0
          have p1 := HPf.out.c1
          have k0 := HBf.out.c0
          have k1 := HBf.out.c1
          have k2 := HBf.out.c2
          have k3 := HBf.out.c3
          have y0 := HYf.out.c0
          have y1 := HYf.out.c1
          have y2 := HYf.out.c2
          have y3 := HYf.out.c3
          go_wp2_with fail
          refine (HI.out _).mono ?_
          rintro e WB ⟨rfl, hE⟩
          replace HE11 := Lib.hid (HE11.out.trans hE)
          replace HBf := Lib.hid (HBf.out.ext hE)
          replace HYf := Lib.hid (HYf.out.ext hE)
          replace HPf := Lib.hid (HPf.out.ext hE)
          clear hE p0 p1 k0 k1 k2 k3 y0 y1 y2 y3
          have p0 := HPf.out.c0
          have p1 := HPf.out.c1
          have k0 := HBf.out.c0
          have k1 := HBf.out.c1
          have k2 := HBf.out.c2
          have k3 := HBf.out.c3
          have y0 := HYf.out.c0
          have y1 := HYf.out.c1
          have y2 := HYf.out.c2
          have y3 := HYf.out.c3
          go_wp2_with fail
          refine (HD7.out _ (HL.out.ext (HE0.out.trans HE11.out))).mono ?_
          rintro e WD ⟨rfl, hE⟩
          replace HE11 := Lib.hid (HE11.out.trans hE)
          replace HBf := Lib.hid (HBf.out.ext hE)
          replace HYf := Lib.hid (HYf.out.ext hE)
          replace HPf := Lib.hid (HPf.out.ext hE)
          clear hE p0 p1 k0 k1 k2 k3 y0 y1 y2 y3
          have p0 := HPf.out.c0
          have p1 := HPf.out.c1
          have k0 := HBf.out.c0
          have k1 := HBf.out.c1
          have k2 := HBf.out.c2
          have k3 := HBf.out.c3
          have y0 := HYf.out.c0
          have y1 := HYf.out.c1
          have y2 := HYf.out.c2
          have y3 := HYf.out.c3
          have hX := Ext.alloc WD (.cells #[.int .i64 x.st, .int .i64 x.num, .int .i64 x.hr, .string x.txt] 49)
          replace HE11 := Lib.hid (HE11.out.trans hX)
          replace HBf := Lib.hid (HBf.out.ext hX)
          replace HYf := Lib.hid (HYf.out.ext hX)
          replace HPf := Lib.hid (HPf.out.ext hX)
          clear hX p0 p1 k0 k1 k2 k3 y0 y1 y2 y3
          have p0 := HPf.out.c0
          have p1 := HPf.out.c1
          have k0 := HBf.out.c0
          have k1 := HBf.out.c1
          have k2 := HBf.out.c2
          have k3 := HBf.out.c3
          have y0 := HYf.out.c0
          have y1 := HYf.out.c1
          have y2 := HYf.out.c2
          have y3 := HYf.out.c3
          have n0 := (BoxR.new WD x).c0
          have n1 := (BoxR.new WD x).c1
          have n2 := (BoxR.new WD x).c2
          have n3 := (BoxR.new WD x).c3
          have hq := HQx.out
          go_wp2_with fail
          clear n0 n1 n2 n3 hq
          refine (alive_any (HL.out.ext (HE0.out.trans HE11.out))).mono ?_
          rintro e WF ⟨rfl, hE⟩
          go_wp2
          go_ret
          exact ⟨rfl, (HE0.out.trans HE11.out).trans hE⟩
      · by_cases hP : PE = 0
        · have HD10 := Lib.hid (fun w => HC10.out w hR)
          subst hR
          have HD8 := Lib.hid (fun w h => HC8.out w h hP)
          subst hP
          go_wp2_with fail
          refine (HD10.out _).mono ?_
          rintro e WA ⟨rfl, hE⟩
          replace HE11 := Lib.hid (HE11.out.trans hE)
          replace HBf := Lib.hid (HBf.out.ext hE)
          replace HYf := Lib.hid (HYf.out.ext hE)
          replace HPf := Lib.hid (HPf.out.ext hE)
          clear hE p0 p1 k0 k1 k2 k3 y0 y1 y2 y3
          have p0 := HPf.out.c0
          have p1 := HPf.out.c1
          have k0 := HBf.out.c0
          have k1 := HBf.out.c1
          have k2 := HBf.out.c2
          have k3 := HBf.out.c3
          have y0 := HYf.out.c0
          have y1 := HYf.out.c1
          have y2 := HYf.out.c2
          have y3 := HYf.out.c3
          go_wp2_with fail
          refine (HI.out _).mono ?_
          rintro e WB ⟨rfl, hE⟩
          replace HE11 := Lib.hid (HE11.out.trans hE)
          replace HBf := Lib.hid (HBf.out.ext hE)
          replace HYf := Lib.hid (HYf.out.ext hE)
          replace HPf := Lib.hid (HPf.out.ext hE)
          clear hE p0 p1 k0 k1 k2 k3 y0 y1 y2 y3
          have p0 := HPf.out.c0
          have p1 := HPf.out.c1
          have k0 := HBf.out.c0
          have k1 := HBf.out.c1
          have k2 := HBf.out.c2
          have k3 := HBf.out.c3
          have y0 := HYf.out.c0
          have y1 := HYf.out.c1
          have y2 := HYf.out.c2
          have y3 := HYf.out.c3
          go_wp2_with fail
          refine (HD8.out _ (HL.out.ext (HE0.out.trans HE11.out))).mono ?_
          rintro e WE ⟨rfl, hE⟩
          replace HE11 := Lib.hid (HE11.out.trans hE)
          replace HBf := Lib.hid (HBf.out.ext hE)
          replace HYf := Lib.hid (HYf.out.ext hE)
          replace HPf := Lib.hid (HPf.out.ext hE)
          clear hE p0 p1 k0 k1 k2 k3 y0 y1 y2 y3
          have p0 := HPf.out.c0
          have p1 := HPf.out.c1
          have k0 := HBf.out.c0
          have k1 := HBf.out.c1
          have k2 := HBf.out.c2
          have k3 := HBf.out.c3
          have y0 := HYf.out.c0
          have y1 := HYf.out.c1
          have y2 := HYf.out.c2
          have y3 := HYf.out.c3
          go_wp2_with fail
          refine (alive_any (HL.out.ext (HE0.out.trans HE11.out))).mono ?_
          rintro e WF ⟨rfl, hE⟩
          go_wp2
          go_ret
          exact ⟨rfl, (HE0.out.trans HE11.out).trans hE⟩
        · have HD10 := Lib.hid (fun w => HC10.out w hR)
          subst hR
          go_wp2_with fail
          refine (HD10.out _).mono ?_
          rintro e WA ⟨rfl, hE⟩
          replace HE11 := Lib.hid (HE11.out.trans hE)
          replace HBf := Lib.hid (HBf.out.ext hE)
          replace HYf := Lib.hid (HYf.out.ext hE)
          replace HPf := Lib.hid (HPf.out.ext hE)
          clear hE p0 p1 k0 k1 k2 k3 y0 y1 y2 y3
          have p0 := HPf.out.c0
          have p1 := HPf.out.c1
          have k0 := HBf.out.c0
          have k1 := HBf.out.c1
          have k2 := HBf.out.c2
          have k3 := HBf.out.c3
          have y0 := HYf.out.c0
          have y1 := HYf.out.c1
          have y2 := HYf.out.c2
          have y3 := HYf.out.c3
          go_wp2_with fail
          refine (HI.out _).mono ?_
          rintro e WB ⟨rfl, hE⟩
          replace HE11 := Lib.hid (HE11.out.trans hE)
          replace HBf := Lib.hid (HBf.out.ext hE)
          replace HYf := Lib.hid (HYf.out.ext hE)
          replace HPf := Lib.hid (HPf.out.ext hE)
          clear hE p0 p1 k0 k1 k2 k3 y0 y1 y2 y3
          have p0 := HPf.out.c0
          have p1 := HPf.out.c1
          have k0 := HBf.out.c0
          have k1 := HBf.out.c1
          have k2 := HBf.out.c2
          have k3 := HBf.out.c3
          have y0 := HYf.out.c0
          have y1 := HYf.out.c1
          have y2 := HYf.out.c2
          have y3 := HYf.out.c3
          go_wp2_with fail
          refine (alive_any (HL.out.ext (HE0.out.trans HE11.out))).mono ?_
          rintro e WF ⟨rfl, hE⟩
          go_wp2
          go_ret
          exact ⟨rfl, (HE0.out.trans HE11.out).trans hE⟩
  · by_cases hI : 0 < I
    · by_cases hC : CE = 0
      · by_cases hP : PE = 0
        · have HD7 := Lib.hid (fun w h => HC7.out w h hC)
          subst hC
          have HD8 := Lib.hid (fun w h => HC8.out w h hP)
          subst hP
          go_wp2_with fail
          refine (HI.out _).mono ?_
          rintro e WB ⟨rfl, hE⟩
          replace HE11 := Lib.hid (HE11.out.trans hE)
          replace HBf := Lib.hid (HBf.out.ext hE)
          replace HYf := Lib.hid (HYf.out.ext hE)
          replace HPf := Lib.hid (HPf.out.ext hE)
          clear hE p0 p1 k0 k1 k2 k3 y0 y1 y2 y3
          have p0 := HPf.out.c0
          have p1 := HPf.out.c1
          have k0 := HBf.out.c0
          have k1 := HBf.out.c1
          have k2 := HBf.out.c2
          have k3 := HBf.out.c3
          have y0 := HYf.out.c0
          have y1 := HYf.out.c1
          have y2 := HYf.out.c2
          have y3 := HYf.out.c3
          go_wp2_with fail
          refine (HC9.out _ hI).mono ?_
          rintro e WC ⟨rfl, hE⟩
          replace HE11 := Lib.hid (HE11.out.trans hE)
          replace HBf := Lib.hid (HBf.out.ext hE)
          replace HYf := Lib.hid (HYf.out.ext hE)
          replace HPf := Lib.hid (HPf.out.ext hE)
          clear hE p0 p1 k0 k1 k2 k3 y0 y1 y2 y3
          have p0 := HPf.out.c0
          have p1 := HPf.out.c1
          have k0 := HBf.out.c0
          have k1 := HBf.out.c1
          have k2 := HBf.out.c2
          have k3 := HBf.out.c3
          have y0 := HYf.out.c0
          have y1 := HYf.out.c1
          have y2 := HYf.out.c2
          have y3 := HYf.out.c3
          have hX := Ext.alloc WC (.cells #[.int .i64 r1, .int .i64 r2] 94)
          replace HE11 := Lib.hid (HE11.out.trans hX)
          replace HBf := Lib.hid (HBf.out.ext hX)
          replace HYf := Lib.hid (HYf.out.ext hX)
          replace HPf := Lib.hid (HPf.out.ext hX)
          clear hX p0 p1 k0 k1 k2 k3 y0 y1 y2 y3
          have p0 := HPf.out.c0
          have p1 := HPf.out.c1
          have k0 := HBf.out.c0
          have k1 := HBf.out.c1
          have k2 := HBf.out.c2
          have k3 := HBf.out.c3
          have y0 := HYf.out.c0
          have y1 := HYf.out.c1
          have y2 := HYf.out.c2
          have y3 := HYf.out.c3
          have n0 := (PairX.new WC r1 r2).c0
          have n1 := (PairX.new WC r1 r2).c1
          have hq := HZr.out
          go_wp2_with fail
          clear n0 n1 hq
          refine (HD7.out _ (HL.out.ext (HE0.out.trans HE11.out))).mono ?_
          rintro e WD ⟨rfl, hE⟩
          replace HE11 := Lib.hid (HE11.out.trans hE)
          replace HBf := Lib.hid (HBf.out.ext hE)
          replace HYf := Lib.hid (HYf.out.ext hE)
          replace HPf := Lib.hid (HPf.out.ext hE)
          clear hE p0 p1 k0 k1 k2 k3 y0 y1 y2 y3
          have p0 := HPf.out.c0
          have p1 := HPf.out.c1
          have k0 := HBf.out.c0
          have k1 := HBf.out.c1
          have k2 := HBf.out.c2
          have k3 := HBf.out.c3
          have y0 := HYf.out.c0
          have y1 := HYf.out.c1
          have y2 := HYf.out.c2
          have y3 := HYf.out.c3
          have hX := Ext.alloc WD (.cells #[.int .i64 x.st, .int .i64 x.num, .int .i64 x.hr, .string x.txt] 49)
          replace HE11 := Lib.hid (HE11.out.trans hX)
          replace HBf := Lib.hid (HBf.out.ext hX)
          replace HYf := Lib.hid (HYf.out.ext hX)
          replace HPf := Lib.hid (HPf.out.ext hX)
          clear hX p0 p1 k0 k1 k2 k3 y0 y1 y2 y3
          have p0 := HPf.out.c0
          have p1 := HPf.out.c1
          have k0 := HBf.out.c0
          have k1 := HBf.out.c1
          have k2 := HBf.out.c2
          have k3 := HBf.out.c3
          have y0 := HYf.out.c0
          have y1 := HYf.out.c1
          have y2 := HYf.out.c2
          have y3 := HYf.out.c3
          have n0 := (BoxR.new WD x).c0
          have n1 := (BoxR.new WD x).c1
          have n2 := (BoxR.new WD x).c2
          have n3 := (BoxR.new WD x).c3
          have hq := HQx.out
          go_wp2_with fail
          clear n0 n1 n2 n3 hq
          refine (HD8.out _ (HL.out.ext (HE0.out.trans HE11.out))).mono ?_
          rintro e WE ⟨rfl, hE⟩
          replace HE11 := Lib.hid (HE11.out.trans hE)
          replace HBf := Lib.hid (HBf.out.ext hE)
          replace HYf := Lib.hid (HYf.out.ext hE)
          replace HPf := Lib.hid (HPf.out.ext hE)
          clear hE p0 p1 k0 k1 k2 k3 y0 y1 y2 y3
          have p0 := HPf.out.c0
          have p1 := HPf.out.c1
          have k0 := HBf.out.c0
          have k1 := HBf.out.c1
          have k2 := HBf.out.c2
          have k3 := HBf.out.c3
          have y0 := HYf.out.c0
          have y1 := HYf.out.c1
          have y2 := HYf.out.c2
          have y3 := HYf.out.c3
          go_wp2_with fail
          refine (alive_any (HL.out.ext (HE0.out.trans HE11.out))).mono ?_
          rintro e WF ⟨rfl, hE⟩
          go_wp2
          go_ret
          exact ⟨rfl, (HE0.out.trans HE11.out).trans hE⟩
        · have HD7 := Lib.hid (fun w h => HC7.out w h hC)
          subst hC
          go_wp2_with fail
          refine (HI.out _).mono ?_
          rintro e WB ⟨rfl, hE⟩
          replace HE11 := Lib.hid (HE11.out.trans hE)
          replace HBf := Lib.hid (HBf.out.ext hE)
          replace HYf := Lib.hid (HYf.out.ext hE)
          replace HPf := Lib.hid (HPf.out.ext hE)
          clear hE p0 p1 k0 k1 k2 k3 y0 y1 y2 y3
          have p0 := HPf.out.c0
          have p1 := HPf.out.c1
          have k0 := HBf.out.c0
          have k1 := HBf.out.c1
          have k2 := HBf.out.c2
          have k3 := HBf.out.c3
          have y0 := HYf.out.c0
          have y1 := HYf.out.c1
          have y2 := HYf.out.c2
          have y3 := HYf.out.c3
          go_wp2_with fail
          refine (HC9.out _ hI).mono ?_
          rintro e WC ⟨rfl, hE⟩
          replace HE11 := Lib.hid (HE11.out.trans hE)
          replace HBf := Lib.hid (HBf.out.ext hE)
          replace HYf := Lib.hid (HYf.out.ext hE)
          replace HPf := Lib.hid (HPf.out.ext hE)
          clear hE p0 p1 k0 k1 k2 k3 y0 y1 y2 y3
          have p0 := HPf.out.c0
          have p1 := HPf.out.c1
          have k0 := HBf.out.c0
          have k1 := HBf.out.c1
          have k2 := HBf.out.c2
          have k3 := HBf.out.c3
          have y0 := HYf.out.c0
          have y1 := HYf.out.c1
          have y2 := HYf.out.c2
          have y3 := HYf.out.c3
          have hX := Ext.alloc WC (.cells #[.int .i64 r1, .int .i64 r2] 94)
          replace HE11 := Lib.hid (HE11.out.trans hX)
          replace HBf := Lib.hid (HBf.out.ext hX)
          replace HYf := Lib.hid (HYf.out.ext hX)
          replace HPf := Lib.hid (HPf.out.ext hX)
          clear hX p0 p1 k0 k1 k2 k3 y0 y1 y2 y3
          have p0 := HPf.out.c0
          have p1 := HPf.out.c1
          have k0 := HBf.out.c0
          have k1 := HBf.out.c1
          have k2 := HBf.out.c2
          have k3 := HBf.out.c3
          have y0 := HYf.out.c0
          have y1 := HYf.out.c1
          have y2 := HYf.out.c2
          have y3 := HYf.out.c3
          have n0 := (PairX.new WC r1 r2).c0
          have n1 := (PairX.new WC r1 r2).c1
          have hq := HZr.out
          go_wp2_with fail
          clear n0 n1 hq
          refine (HD7.out _ (HL.out.ext (HE0.out.trans HE11.out))).mono ?_
          rintro e WD ⟨rfl, hE⟩
          replace HE11 := Lib.hid (HE11.out.trans hE)
          replace HBf := Lib.hid (HBf.out.ext hE)
          replace HYf := Lib.hid (HYf.out.ext hE)
          replace HPf := Lib.hid (HPf.out.ext hE)
          clear hE p0 p1 k0 k1 k2 k3 y0 y1 y2 y3
          have p0 := HPf.out.c0
          have p1 := HPf.out.c1
          have k0 := HBf.out.c0
          have k1 := HBf.out.c1
          have k2 := HBf.out.c2
          have k3 := HBf.out.c3
          have y0 := HYf.out.c0
          have y1 := HYf.out.c1
          have y2 := HYf.out.c2
          have y3 := HYf.out.c3
          have hX := Ext.alloc WD (.cells #[.int .i64 x.st, .int .i64 x.num, .int .i64 x.hr, .string x.txt] 49)
          replace HE11 := Lib.hid (HE11.out.trans hX)
          replace HBf := Lib.hid (HBf.out.ext hX)
          replace HYf := Lib.hid (HYf.out.ext hX)
          replace HPf := Lib.hid (HPf.out.ext hX)
          clear hX p0 p1 k0 k1 k2 k3 y0 y1 y2 y3
          have p0 := HPf.out.c0
          have p1 := HPf.out.c1
          have k0 := HBf.out.c0
          have k1 := HBf.out.c1
          have k2 := HBf.out.c2
          have k3 := HBf.out.c3
          have y0 := HYf.out.c0
          have y1 := HYf.out.c1
          have y2 := HYf.out.c2
          have y3 := HYf.out.c3
          have n0 := (BoxR.new WD x).c0
          have n1 := (BoxR.new WD x).c1
          have n2 := (BoxR.new WD x).c2
          have n3 := (BoxR.new WD x).c3
          have hq := HQx.out
          go_wp2_with fail
          clear n0 n1 n2 n3 hq
          refine (alive_any (HL.out.ext (HE0.out.trans HE11.out))).mono ?_
          rintro e WF ⟨rfl, hE⟩
          go_wp2
          go_ret
          exact ⟨rfl, (HE0.out.trans HE11.out).trans hE⟩
      · by_cases hP : PE = 0
        · have HD8 := Lib.hid (fun w h => HC8.out w h hP)
          subst hP
          go_wp2_with fail
          refine (HI.out _).mono ?_
          rintro e WB ⟨rfl, hE⟩
          replace HE11 := Lib.hid (HE11.out.trans hE)
          replace HBf := Lib.hid (HBf.out.ext hE)
          replace HYf := Lib.hid (HYf.out.ext hE)
          replace HPf := Lib.hid (HPf.out.ext hE)
          clear hE p0 p1 k0 k1 k2 k3 y0 y1 y2 y3
          have p0 := HPf.out.c0
          have p1 := HPf.out.c1
          have k0 := HBf.out.c0
          have k1 := HBf.out.c1
          have k2 := HBf.out.c2
          have k3 := HBf.out.c3
          have y0 := HYf.out.c0
          have y1 := HYf.out.c1
          have y2 := HYf.out.c2
          have y3 := HYf.out.c3
          go_wp2_with fail
          refine (HC9.out _ hI).mono ?_
          rintro e WC ⟨rfl, hE⟩
          replace HE11 := Lib.hid (HE11.out.trans hE)
          replace HBf := Lib.hid (HBf.out.ext hE)
          replace HYf := Lib.hid (HYf.out.ext hE)
          replace HPf := Lib.hid (HPf.out.ext hE)
          clear hE p0 p1 k0 k1 k2 k3 y0 y1 y2 y3
          have p0 := HPf.out.c0
          have p1 := HPf.out.c1
          have k0 := HBf.out.c0
          have k1 := HBf.out.c1
          have k2 := HBf.out.c2
          have k3 := HBf.out.c3
          have y0 := HYf.out.c0
          have y1 := HYf.out.c1
          have y2 := HYf.out.c2
          have y3 := HYf.out.c3
          have hX := Ext.alloc WC (.cells #[.int .i64 r1, .int .i64 r2] 94)
          replace HE11 := Lib.hid (HE11.out.trans hX)
          replace HBf := Lib.hid (HBf.out.ext hX)
          replace HYf := Lib.hid (HYf.out.ext hX)
          replace HPf := Lib.hid (HPf.out.ext hX)
          clear hX p0 p1 k0 k1 k2 k3 y0 y1 y2 y3
          have p0 := HPf.out.c0
          have p1 := HPf.out.c1
          have k0 := HBf.out.c0
          have k1 := HBf.out.c1
          have k2 := HBf.out.c2
          have k3 := HBf.out.c3
          have y0 := HYf.out.c0
          have y1 := HYf.out.c1
          have y2 := HYf.out.c2
          have y3 := HYf.out.c3
          have n0 := (PairX.new WC r1 r2).c0
          have n1 := (PairX.new WC r1 r2).c1
          have hq := HZr.out
          go_wp2_with fail
          clear n0 n1 hq
          refine (HD8.out _ (HL.out.ext (HE0.out.trans HE11.out))).mono ?_
          rintro e WE ⟨rfl, hE⟩
          replace HE11 := Lib.hid (HE11.out.trans hE)
          replace HBf := Lib.hid (HBf.out.ext hE)
          replace HYf := Lib.hid (HYf.out.ext hE)
          replace HPf := Lib.hid (HPf.out.ext hE)
          clear hE p0 p1 k0 k1 k2 k3 y0 y1 y2 y3
          have p0 := HPf.out.c0
          have p1 := HPf.out.c1
          have k0 := HBf.out.c0
          have k1 := HBf.out.c1
          have k2 := HBf.out.c2
          have k3 := HBf.out.c3
          have y0 := HYf.out.c0
          have y1 := HYf.out.c1
          have y2 := HYf.out.c2
          have y3 := HYf.out.c3
          go_wp2_with fail
          refine (alive_any (HL.out.ext (HE0.out.trans HE11.out))).mono ?_
          rintro e WF ⟨rfl, hE⟩
          go_wp2
          go_ret
          exact ⟨rfl, (HE0.out.trans HE11.out).trans hE⟩
        · go_wp2_with fail
          refine (HI.out _).mono ?_
          rintro e WB ⟨rfl, hE⟩
          replace HE11 := Lib.hid (HE11.out.trans hE)
          replace HBf := Lib.hid (HBf.out.ext hE)
          replace HYf := Lib.hid (HYf.out.ext hE)
          replace HPf := Lib.hid (HPf.out.ext hE)
          clear hE p0 p1 k0 k1 k2 k3 y0 y1 y2 y3
          have p0 := HPf.out.c0
          have p1 := HPf.out.c1
          have k0 := HBf.out.c0
          have k1 := HBf.out.c1
          have k2 := HBf.out.c2
          have k3 := HBf.out.c3
          have y0 := HYf.out.c0
          have y1 := HYf.out.c1
          have y2 := HYf.out.c2
          have y3 := HYf.out.c3
          go_wp2_with fail
          refine (HC9.out _ hI).mono ?_
          rintro e WC ⟨rfl, hE⟩
          replace HE11 := Lib.hid (HE11.out.trans hE)
          replace HBf := Lib.hid (HBf.out.ext hE)
          replace HYf := Lib.hid (HYf.out.ext hE)
          replace HPf := Lib.hid (HPf.out.ext hE)
          clear hE p0 p1 k0 k1 k2 k3 y0 y1 y2 y3
          have p0 := HPf.out.c0
          have p1 := HPf.out.c1
          have k0 := HBf.out.c0
          have k1 := HBf.out.c1
          have k2 := HBf.out.c2
          have k3 := HBf.out.c3
          have y0 := HYf.out.c0
          have y1 := HYf.out.c1
          have y2 := HYf.out.c2
          have y3 := HYf.out.c3
          have hX := Ext.alloc WC (.cells #[.int .i64 r1, .int .i64 r2] 94)
          replace HE11 := Lib.hid (HE11.out.trans hX)
          replace HBf := Lib.hid (HBf.out.ext hX)
          replace HYf := Lib.hid (HYf.out.ext hX)
          replace HPf := Lib.hid (HPf.out.ext hX)
          clear hX p0 p1 k0 k1 k2 k3 y0 y1 y2 y3
          have p0 := HPf.out.c0
          have p1 := HPf.out.c1
          have k0 := HBf.out.c0
          have k1 := HBf.out.c1
          have k2 := HBf.out.c2
          have k3 := HBf.out.c3
          have y0 := HYf.out.c0
          have y1 := HYf.out.c1
          have y2 := HYf.out.c2
          have y3 := HYf.out.c3
          have n0 := (PairX.new WC r1 r2).c0
          have n1 := (PairX.new WC r1 r2).c1
          have hq := HZr.out
          go_wp2_with fail
          clear n0 n1 hq
          refine (alive_any (HL.out.ext (HE0.out.trans HE11.out))).mono ?_
          rintro e WF ⟨rfl, hE⟩
          go_wp2
          go_ret
          exact ⟨rfl, (HE0.out.trans HE11.out).trans hE⟩
    · by_cases hC : CE = 0
      · by_cases hP : PE = 0
        · have HD7 := Lib.hid (fun w h => HC7.out w h hC)
          subst hC
          have HD8 := Lib.hid (fun w h => HC8.out w h hP)
          subst hP
          go_wp2_with fail
          refine (HI.out _).mono ?_
          rintro e WB ⟨rfl, hE⟩
          replace HE11 := Lib.hid (HE11.out.trans hE)
          replace HBf := Lib.hid (HBf.out.ext hE)
          replace HYf := Lib.hid (HYf.out.ext hE)
          replace HPf := Lib.hid (HPf.out.ext hE)
          clear hE p0 p1 k0 k1 k2 k3 y0 y1 y2 y3
          have p0 := HPf.out.c0
          have p1 := HPf.out.c1
          have k0 := HBf.out.c0
          have k1 := HBf.out.c1
          have k2 := HBf.out.c2
          have k3 := HBf.out.c3
          have y0 := HYf.out.c0
          have y1 := HYf.out.c1
          have y2 := HYf.out.c2
          have y3 := HYf.out.c3
          go_wp2_with fail
          refine (HD7.out _ (HL.out.ext (HE0.out.trans HE11.out))).mono ?_
          rintro e WD ⟨rfl, hE⟩
          replace HE11 := Lib.hid (HE11.out.trans hE)
          replace HBf := Lib.hid (HBf.out.ext hE)
          replace HYf := Lib.hid (HYf.out.ext hE)
          replace HPf := Lib.hid (HPf.out.ext hE)
          clear hE p0 p1 k0 k1 k2 k3 y0 y1 y2 y3
          have p0 := HPf.out.c0
          have p1 := HPf.out.c1
          have k0 := HBf.out.c0
          have k1 := HBf.out.c1
          have k2 := HBf.out.c2
          have k3 := HBf.out.c3
          have y0 := HYf.out.c0
          have y1 := HYf.out.c1
          have y2 := HYf.out.c2
          have y3 := HYf.out.c3
          have hX := Ext.alloc WD (.cells #[.int .i64 x.st, .int .i64 x.num, .int .i64 x.hr, .string x.txt] 49)
          replace HE11 := Lib.hid (HE11.out.trans hX)
          replace HBf := Lib.hid (HBf.out.ext hX)
          replace HYf := Lib.hid (HYf.out.ext hX)
          replace HPf := Lib.hid (HPf.out.ext hX)
          clear hX p0 p1 k0 k1 k2 k3 y0 y1 y2 y3
          have p0 := HPf.out.c0
          have p1 := HPf.out.c1
          have k0 := HBf.out.c0
          have k1 := HBf.out.c1
          have k2 := HBf.out.c2
          have k3 := HBf.out.c3
          have y0 := HYf.out.c0
          have y1 := HYf.out.c1
          have y2 := HYf.out.c2
          have y3 := HYf.out.c3
          have n0 := (BoxR.new WD x).c0
          have n1 := (BoxR.new WD x).c1
          have n2 := (BoxR.new WD x).c2
          have n3 := (BoxR.new WD x).c3
          have hq := HQx.out
          go_wp2_with fail
          clear n0 n1 n2 n3 hq
          refine (HD8.out _ (HL.out.ext (HE0.out.trans HE11.out))).mono ?_
          rintro e WE ⟨rfl, hE⟩
          replace HE11 := Lib.hid (HE11.out.trans hE)
          replace HBf := Lib.hid (HBf.out.ext hE)
          replace HYf := Lib.hid (HYf.out.ext hE)
          replace HPf := Lib.hid (HPf.out.ext hE)
          clear hE p0 p1 k0 k1 k2 k3 y0 y1 y2 y3
          have p0 := HPf.out.c0
          have p1 := HPf.out.c1
          have k0 := HBf.out.c0
          have k1 := HBf.out.c1
          have k2 := HBf.out.c2
          have k3 := HBf.out.c3
          have y0 := HYf.out.c0
          have y1 := HYf.out.c1
          have y2 := HYf.out.c2
          have y3 := HYf.out.c3
          go_wp2_with fail
          refine (alive_any (HL.out.ext (HE0.out.trans HE11.out))).mono ?_
          rintro e WF ⟨rfl, hE⟩
          go_wp2
          go_ret
          exact ⟨rfl, (HE0.out.trans HE11.out).trans hE⟩
        · have HD7 := Lib.hid (fun w h => HC7.out w h hC)
          subst hC
          go_wp2_with fail
          refine (HI.out _).mono ?_
          rintro e WB ⟨rfl, hE⟩
          replace HE11 := Lib.hid (HE11.out.trans hE)
          replace HBf := Lib.hid (HBf.out.ext hE)
          replace HYf := Lib.hid (HYf.out.ext hE)
          replace HPf := Lib.hid (HPf.out.ext hE)
          clear hE p0 p1 k0 k1 k2 k3 y0 y1 y2 y3
          have p0 := HPf.out.c0
          have p1 := HPf.out.c1
          have k0 := HBf.out.c0
          have k1 := HBf.out.c1
          have k2 := HBf.out.c2
          have k3 := HBf.out.c3
          have y0 := HYf.out.c0
          have y1 := HYf.out.c1
          have y2 := HYf.out.c2
          have y3 := HYf.out.c3
          go_wp2_with fail
          refine (HD7.out _ (HL.out.ext (HE0.out.trans HE11.out))).mono ?_
          rintro e WD ⟨rfl, hE⟩
          replace HE11 := Lib.hid (HE11.out.trans hE)
          replace HBf := Lib.hid (HBf.out.ext hE)
          replace HYf := Lib.hid (HYf.out.ext hE)
          replace HPf := Lib.hid (HPf.out.ext hE)
          clear hE p0 p1 k0 k1 k2 k3 y0 y1 y2 y3
          have p0 := HPf.out.c0
          have p1 := HPf.out.c1
          have k0 := HBf.out.c0
          have k1 := HBf.out.c1
          have k2 := HBf.out.c2
          have k3 := HBf.out.c3
          have y0 := HYf.out.c0
          have y1 := HYf.out.c1
          have y2 := HYf.out.c2
          have y3 := HYf.out.c3
          have hX := Ext.alloc WD (.cells #[.int .i64 x.st, .int .i64 x.num, .int .i64 x.hr, .string x.txt] 49)
          replace HE11 := Lib.hid (HE11.out.trans hX)
          replace HBf := Lib.hid (HBf.out.ext hX)
          replace HYf := Lib.hid (HYf.out.ext hX)
          replace HPf := Lib.hid (HPf.out.ext hX)
          clear hX p0 p1 k0 k1 k2 k3 y0 y1 y2 y3
          have p0 := HPf.out.c0
          have p1 := HPf.out.c1
          have k0 := HBf.out.c0
          have k1 := HBf.out.c1
          have k2 := HBf.out.c2
          have k3 := HBf.out.c3
          have y0 := HYf.out.c0
          have y1 := HYf.out.c1
          have y2 := HYf.out.c2
          have y3 := HYf.out.c3
          have n0 := (BoxR.new WD x).c0
          have n1 := (BoxR.new WD x).c1
          have n2 := (BoxR.new WD x).c2
          have n3 := (BoxR.new WD x).c3
          have hq := HQx.out
          go_wp2_with fail
          clear n0 n1 n2 n3 hq
          refine (alive_any (HL.out.ext (HE0.out.trans HE11.out))).mono ?_
          rintro e WF ⟨rfl, hE⟩
          go_wp2
          go_ret
          exact ⟨rfl, (HE0.out.trans HE11.out).trans hE⟩
      · by_cases hP : PE = 0
        · have HD8 := Lib.hid (fun w h => HC8.out w h hP)
          subst hP
          go_wp2_with fail
          refine (HI.out _).mono ?_
          rintro e WB ⟨rfl, hE⟩
          replace HE11 := Lib.hid (HE11.out.trans hE)
          replace HBf := Lib.hid (HBf.out.ext hE)
          replace HYf := Lib.hid (HYf.out.ext hE)
          replace HPf := Lib.hid (HPf.out.ext hE)
          clear hE p0 p1 k0 k1 k2 k3 y0 y1 y2 y3
          have p0 := HPf.out.c0
          have p1 := HPf.out.c1
          have k0 := HBf.out.c0
          have k1 := HBf.out.c1
          have k2 := HBf.out.c2
          have k3 := HBf.out.c3
          have y0 := HYf.out.c0
          have y1 := HYf.out.c1
          have y2 := HYf.out.c2
          have y3 := HYf.out.c3
          go_wp2_with fail
          refine (HD8.out _ (HL.out.ext (HE0.out.trans HE11.out))).mono ?_
          rintro e WE ⟨rfl, hE⟩
          replace HE11 := Lib.hid (HE11.out.trans hE)
          replace HBf := Lib.hid (HBf.out.ext hE)
          replace HYf := Lib.hid (HYf.out.ext hE)
          replace HPf := Lib.hid (HPf.out.ext hE)
          clear hE p0 p1 k0 k1 k2 k3 y0 y1 y2 y3
          have p0 := HPf.out.c0
          have p1 := HPf.out.c1
          have k0 := HBf.out.c0
          have k1 := HBf.out.c1
          have k2 := HBf.out.c2
          have k3 := HBf.out.c3
          have y0 := HYf.out.c0
          have y1 := HYf.out.c1
          have y2 := HYf.out.c2
          have y3 := HYf.out.c3
          go_wp2_with fail
          refine (alive_any (HL.out.ext (HE0.out.trans HE11.out))).mono ?_
          rintro e WF ⟨rfl, hE⟩
          go_wp2
          go_ret
          exact ⟨rfl, (HE0.out.trans HE11.out).trans hE⟩
        · go_wp2_with fail
          refine (HI.out _).mono ?_
          rintro e WB ⟨rfl, hE⟩
          replace HE11 := Lib.hid (HE11.out.trans hE)
          replace HBf := Lib.hid (HBf.out.ext hE)
          replace HYf := Lib.hid (HYf.out.ext hE)
          replace HPf := Lib.hid (HPf.out.ext hE)
          clear hE p0 p1 k0 k1 k2 k3 y0 y1 y2 y3
          have p0 := HPf.out.c0
          have p1 := HPf.out.c1
          have k0 := HBf.out.c0
          have k1 := HBf.out.c1
          have k2 := HBf.out.c2
          have k3 := HBf.out.c3
          have y0 := HYf.out.c0
          have y1 := HYf.out.c1
          have y2 := HYf.out.c2
          have y3 := HYf.out.c3
          go_wp2_with fail
          refine (alive_any (HL.out.ext (HE0.out.trans HE11.out))).mono ?_
          rintro e WF ⟨rfl, hE⟩
          go_wp2
          go_ret
          exact ⟨rfl, (HE0.out.trans HE11.out).trans hE⟩
end Go.Proofs.YtgjahnomafpnfaaGreatDoor
