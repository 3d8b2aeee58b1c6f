/- Lemmas and walks that this claim needs, in one text out of several; each states its own conditions. -/
import Derived.Test.YtgjahnomafpnfaaGreatDoorMB3
import Derived.RangeFuncNested
import Derived.RangeFuncBound
import Derived.RangeFuncCalls
import Derived.RangeFuncLeaves
import Derived.OwnWalkIn
import Derived.TacticsInMore
import Derived.LoopNIn
import Derived.LoopIn
import Derived.Lib.LazyBuf
import Derived.Stop.RegionWithIn
set_option linter.unusedVariables false
set_option linter.unusedSimpArgs false
/- A range over a function whose iterator keeps its state in one captured variable: the law for the caller. -/
namespace Go.Proofs.YtgjahnomafpnfaaGreatDoor
open Go.RowKit
/-- What changes are cells (or new), and not block bx. -/
def Kc (bx : Nat) (W W' : World) : Prop := ∃ S : Nat → Prop, FrB S W W' ∧ ¬ S bx ∧ ∀ j, S j → ∃ cs t f, W.heap[j]? = some (.cells cs t f)
/-- What an invariant of the caller's must abide: turns of bx and of blocks that are no cells. -/
def Abd (bx lo : Nat) (I : List Sec → World → Prop) : Prop := ∀ pre A B (S : Nat → Prop), I pre A → FrB S A B → (∀ j, S j → j = bx ∨ (lo ≤ j ∧ ∃ o, A.heap[j]? = some o ∧ o.isCells = false)) → I pre B
theorem FrB.putObj (w : World) (l : Nat) (o : Obj) : FrB (fun j => j = l) w (w.putObj l o) := ⟨rfl, rfl, rfl, by simp, fun j hj hn => World.putObj_heap_other hn⟩
theorem Kc.keeps {bx l : Nat} {W W' : World} (h : Kc bx W W') {o : Obj} (ho : W.heap[l]? = some o) (hc : o.isCells = false) : W'.heap[l]? = some o := by
  obtain ⟨S, hF, _, hS⟩ := h
  rw [hF.block l (Array.getElem?_eq_some_iff.1 ho).1 (fun e => by
    obtain ⟨cs, t, f, hq⟩ := hS l e
    rw [ho] at hq; cases hq; cases hc)]
  exact ho
theorem Kc.box {bx : Nat} {W W' : World} (h : Kc bx W W') (hb : bx < W.heap.size) : W'.heap[bx]? = W.heap[bx]? := by
  obtain ⟨S, hF, hn, _⟩ := h
  exact hF.block bx hb hn
theorem Kc.refl (bx : Nat) (W : World) : Kc bx W W := ⟨fun _ => False, FrB.refl _ _, id, fun _ h => h.elim⟩
theorem Kc.ext {bx : Nat} {W W' : World} (h : Ext W W') : Kc bx W W' := ⟨fun _ => False, FrB.ext h, id, fun _ h => h.elim⟩
variable {F : Fence} {n : Nat}
/-- What an iterator with one captured variable does: it hands on xs, one after the other, till a round says no. -/
def SeqBx (F : Fence) (n g : Nat) (bx : Nat) (box : Obj) (xs : List Sec) : Prop :=
  ∀ (l : Nat) (J Jx : List Sec → World → Prop) (W : World), W.heap[bx]? = some box →
    (∀ pre A B, J pre A → FrB (fun j => j = bx) A B → J pre B) → (∀ pre A B, Jx pre A → FrB (fun j => j = bx) A B → Jx pre B) →
    (∀ pre x post W1, xs = pre ++ x :: post → J pre W1 → bx < W1.heap.size → YieldAt F (n - 1) Tryz.prog l #[.agg (scells x).toArray] W1 fun e W' =>
      (e = .returned (.bool true) ∧ J (pre ++ [x]) W' ∧ W1.heap.size ≤ W'.heap.size ∧ W'.heap[bx]? = W1.heap[bx]?) ∨ (e = .returned (.bool false) ∧ Jx (pre ++ [x]) W')) →
    J [] W →
    CallsIn F n Tryz.prog g #[.func (.yield l) #[] #[], .pointer (some ⟨bx, 0, none⟩)] W fun e W' => (∃ v, e = .returned v) ∧ (J xs W' ∨ ∃ pre, Jx pre W')
/-- How a round's body may be left. -/
def bxPost (bx : Nat) (I Ix : List Sec → World → Prop) (xs : List Sec) (W : World) : Exit → Act → World → Prop
  | .normal, _, W' => Kc bx W W' ∧ I xs W'
  | .ret, _, W' => Kc bx W W' ∧ Ix xs W'
  | _, _, _ => False
theorem wpIn_rangeFunc_bx {g : Operand} {p0 : Tmp} {assign body : Code} {Q : Exit → Act → World → Prop} {a : Act} {w : World}
    (hro : F.round = none) (h1 : 1 ≤ n) {gf bx : Nat} {box : Obj} (hg : a.eval g = .func (.func gf) #[] #[.pointer (some ⟨bx, 0, none⟩)]) (hFg : F.fn gf) (eg : ∀ args w, (callFunc gf args).run Tryz.prog w = .ok (.enter gf args) w)
    (hbx : w.heap[bx]? = some box) (hbc : box.isCells = true) {xs : List Sec} (hseq : SeqBx F (n - 1) gf bx box xs)
    (I Ix : List Sec → World → Prop) (hI : Abd bx w.heap.size I) (hIx : Abd bx w.heap.size Ix) (h0 : I [] w)
    (hround : ∀ (l : Nat) (pre : List Sec) (x : Sec) (post : List Sec) (W : World) (K : Act → World → Prop), w.heap.size ≤ l → xs = pre ++ x :: post → I pre W → bx < W.heap.size →
      (∀ a₁ w₁, Kc bx W w₁ → (∀ w₂ o, w₁.heap[l]? = some o → o.isCells = false → FrB (fun j => j = l) w₁ w₂ → body.wpIn (F.inRound l) (n - 1 - 1) Tryz.prog (bxPost bx I Ix (pre ++ [x]) w₂) a₁ w₂) → K a₁ w₁) →
      assign.wpIn (F.inRound l) (n - 1 - 1) Tryz.prog (Exit.then K (fun _ _ _ => False)) { tmps := a.tmps.setIfInBounds p0 (.agg (scells x).toArray), defers := [] } W)
    (hdone : ∀ (D : Nat) (W : World), w.heap.size ≤ D → I xs W → W.heap[D]? = some (.deferred (some [])) → Q .normal { a with defers := { target := .collected D, args := #[] } :: a.defers } W)
    (hstop : ∀ (D : Nat) (pre : List Sec) (W : World), w.heap.size ≤ D → Ix pre W → W.heap[D]? = some (.deferred (some [])) → Code.ret.wpIn F n Tryz.prog Q { a with defers := { target := .collected D, args := #[] } :: a.defers } W) :
    (Code.rangeFunc g #[p0] assign body).wpIn F n Tryz.prog Q a w := by
  refine wpIn_rangeFunc ?_
  intro fn hfn
  rw [hro]
  obtain ⟨rec, hrec⟩ : ∃ rec : LoopState → Option Code → Loop, rec = fun st pe => { state := st, pending := pe, fn, tmps := a.tmps, params := #[p0], assign, body, defers := w.heap.size } := ⟨_, rfl⟩
  obtain ⟨W1, hW1⟩ : ∃ W1, (w.alloc (.deferred (some []))).alloc (.loop (rec .ready none)) = W1 := ⟨_, rfl⟩
  have hlt0 : bx < w.heap.size := (Array.getElem?_eq_some_iff.1 hbx).1
  have hE1 : Ext w W1 := by rw [← hW1]; exact (Ext.alloc _ _).trans (Ext.alloc _ _)
  have hL1 : W1.heap[w.heap.size + 1]? = some (.loop (rec .ready none)) := by
    rw [← hW1]; have := World.alloc_heap_new (w.alloc (.deferred (some []))) (.loop (rec .ready none)); rwa [World.size_alloc] at this
  have hK1 : W1.heap[w.heap.size]? = some (.deferred (some [])) := by
    rw [← hW1]; exact (Below.heap_alloc _ _ _ (by simp)).trans (World.alloc_heap_new w _)
  have hI1 : I [] W1 := hI _ _ _ (fun _ => False) h0 (FrB.ext hE1) (fun _ h => h.elim)
  have hbx1 : W1.heap[bx]? = some box := (hE1.block bx hlt0).trans hbx
  refine ⟨w.heap.size + 1, [{ target := .collected w.heap.size, args := #[] }], W1, { target := .fn (.func gf) #[.pointer (some ⟨bx, 0, none⟩)], args := #[.func (.yield (w.heap.size + 1)) #[] #[]] }, W1, gf,
    #[.func (.yield (w.heap.size + 1)) #[] #[], .pointer (some ⟨bx, 0, none⟩)], W1, ?_, ?_, ?_, ?_, fun _ => h1, ?_⟩
  · rw [← hW1, hrec]; exact run_enterLoop_outer _ _ _ _ _
  · simp only [resolve, hg]
    simp [go_sem]
  · intro f' hf'; simp [Target.leads] at hf'; subst hf'; exact hFg
  · simp [invoke, go_sem, eg]
  · have habk : ∀ {A B : World} {l : Nat} {o : Obj}, FrB (fun j => j = bx) A B → A.heap[l]? = some o → l ≠ bx → B.heap[l]? = some o := fun hF ho hne => (hF.block _ (Array.getElem?_eq_some_iff.1 ho).1 hne).trans ho
    refine (hseq (w.heap.size + 1)
      (fun pre W => I pre W ∧ W.heap[w.heap.size + 1]? = some (.loop (rec .ready none)) ∧ W.heap[w.heap.size]? = some (.deferred (some [])))
      (fun pre W => Ix pre W ∧ W.heap[w.heap.size + 1]? = some (.loop (rec .done (some .ret))) ∧ W.heap[w.heap.size]? = some (.deferred (some [])))
      W1 hbx1
      (fun s A B hs hF => ⟨hI s A B _ hs.1 hF (fun j e => .inl e), habk hF hs.2.1 (by omega), habk hF hs.2.2 (by omega)⟩)
      (fun s A B hs hF => ⟨hIx s A B _ hs.1 hF (fun j e => .inl e), habk hF hs.2.1 (by omega), habk hF hs.2.2 (by omega)⟩)
      ?_ ⟨hI1, hL1, hK1⟩).mono ?_
    · rintro pre x post W hxs ⟨hi, hl, hk⟩ hbW
      have hy := run_yield (P := Tryz.prog) (args := #[.agg (scells x).toArray]) hl (by rw [hrec]; rfl)
      have hy' : (Instr.yield (w.heap.size + 1) #[.agg (scells x).toArray]).run Tryz.prog W = .ok (.round (w.heap.size + 1) fn (a.tmps.setIfInBounds p0 (.agg (scells x).toArray)) assign body) W := by
        rw [hy, hrec]; simp
      refine ⟨fn, _, assign, body, hy', roundIn_of_wpIn hfn (hround _ pre x post W _ (Nat.le_succ _) hxs hi hbW ?_)⟩
      clear hy hy'
      intro a₁ w₁ hkc hbody
      have hl1 := hkc.keeps hl rfl
      have hk1 := hkc.keeps hk rfl
      have hlt1 : w.heap.size + 1 < w₁.heap.size := (Array.getElem?_eq_some_iff.1 hl1).1
      refine ⟨_, run_beginRound hl1 (by rw [hrec]), ?_⟩
      have hl2 : (w₁.putObj (w.heap.size + 1) (.loop { rec .ready none with state := .busy })).heap[w.heap.size + 1]? = some (.loop { rec .ready none with state := .busy }) := World.putObj_heap_same hlt1
      have hk2 : (w₁.putObj (w.heap.size + 1) (.loop { rec .ready none with state := .busy })).heap[w.heap.size]? = some (.deferred (some [])) := (World.putObj_heap_other (by omega)).trans hk1
      have hF2 := FrB.putObj w₁ (w.heap.size + 1) (.loop { rec .ready none with state := .busy })
      have hb1 : bx < w₁.heap.size := by obtain ⟨S, hF, _⟩ := hkc; exact Nat.lt_of_lt_of_le hbW hF.size
      have hbx2 : (w₁.putObj (w.heap.size + 1) (.loop { rec .ready none with state := .busy })).heap[bx]? = W.heap[bx]? := (World.putObj_heap_other (by omega)).trans (hkc.box hbW)
      have hs2 : W.heap.size ≤ (w₁.putObj (w.heap.size + 1) (.loop { rec .ready none with state := .busy })).heap.size := by
        obtain ⟨S, hF, _⟩ := hkc; simpa using hF.size
      refine wpIn_mono (hbody _ _ hl1 rfl hF2) ?_
      generalize w₁.putObj (w.heap.size + 1) (.loop { rec .ready none with state := .busy }) = w₂ at hl2 hk2 hbx2 hs2
      have hb2 : bx < w₂.heap.size := by omega
      have fin : ∀ (jump : Option Code) (W3 : World), Kc bx w₂ W3 →
          (Instr.endRound (w.heap.size + 1) jump).run Tryz.prog W3 = .ok (.bool jump.isNone) (W3.putObj (w.heap.size + 1) (.loop (rec (if jump.isNone then .ready else .done) jump))) ∧
          (W3.putObj (w.heap.size + 1) (.loop (rec (if jump.isNone then .ready else .done) jump))).heap[w.heap.size + 1]? = some (.loop (rec (if jump.isNone then .ready else .done) jump)) ∧
          (W3.putObj (w.heap.size + 1) (.loop (rec (if jump.isNone then .ready else .done) jump))).heap[w.heap.size]? = some (.deferred (some [])) ∧
          W3.heap[w.heap.size + 1]? = some (.loop { rec .ready none with state := .busy }) := fun jump W3 hk3 => by
        have hl3 := hk3.keeps hl2 rfl
        have := run_endRound (P := Tryz.prog) jump hl3
        rw [hrec] at this ⊢
        exact ⟨this, World.putObj_heap_same (Array.getElem?_eq_some_iff.1 hl3).1, (World.putObj_heap_other (by omega)).trans (hk3.keeps hk2 rfl), by rw [hrec] at hl3; exact hl3⟩
      rintro e a3 W3 hp
      cases e with
      | normal =>
        obtain ⟨hk3, hi3⟩ := hp
        obtain ⟨hr, hl4, hk4, hl3⟩ := fin none W3 hk3
        refine ⟨_, _, hr, .inl ⟨rfl, ⟨hI _ _ _ (fun j => j = w.heap.size + 1) hi3 (FrB.putObj _ _ _) (fun j e => .inr ⟨by omega, _, e ▸ hl3, rfl⟩), hl4, hk4⟩, ?_, ?_⟩⟩
        · obtain ⟨S, hF, _⟩ := hk3
          simp only [World.putObj_size]
          exact Nat.le_trans hs2 hF.size
        · exact ((World.putObj_heap_other (by omega)).trans (hk3.box hb2)).trans hbx2
      | ret =>
        obtain ⟨hk3, hi3⟩ := hp
        obtain ⟨hr, hl4, hk4, hl3⟩ := fin (some .ret) W3 hk3
        exact ⟨_, _, hr, .inr ⟨rfl, hIx _ _ _ (fun j => j = w.heap.size + 1) hi3 (FrB.putObj _ _ _) (fun j e => .inr ⟨by omega, _, e ▸ hl3, rfl⟩), hl4, hk4⟩⟩
      | exit id => exact hp.elim
      | goto t => exact hp.elim
      | panic ch => exact hp.elim
      | outgrown => exact hp.elim
    · rintro e W2 ⟨⟨v, rfl⟩, (⟨hi, hl, hk⟩ | ⟨pre, hi, hl, hk⟩)⟩
      · exact ⟨none, _, by have := run_endLoop (P := Tryz.prog) hl (by rw [hrec]; simp); rw [hrec] at this; exact this, hdone _ _ (Nat.le_refl _) (hI _ _ _ (fun j => j = w.heap.size + 1) hi (FrB.putObj _ _ _) (fun j e => .inr ⟨by omega, _, e ▸ hl, rfl⟩)) ((World.putObj_heap_other (by omega)).trans hk)⟩
      · exact ⟨some .ret, _, by have := run_endLoop (P := Tryz.prog) hl (by rw [hrec]; simp); rw [hrec] at this; exact this, hstop _ pre _ (Nat.le_refl _) (hIx _ _ _ (fun j => j = w.heap.size + 1) hi (FrB.putObj _ _ _) (fun j e => .inr ⟨by omega, _, e ▸ hl, rfl⟩)) ((World.putObj_heap_other (by omega)).trans hk)⟩
end Go.Proofs.YtgjahnomafpnfaaGreatDoor

/- The iterator pieces. -/
namespace Go.Proofs.YtgjahnomafpnfaaGreatDoor
open Go.RowKit
attribute [local go_sem] Oper.semAt_some
/-- A piece of an entry. -/
def sectorOf (mark : UInt8) (l : List UInt8) : Sec := [mark, UInt8.ofNat (l.length / 65536), UInt8.ofNat (l.length / 256), UInt8.ofNat l.length] ++ (l.take 59 ++ List.replicate (59 - l.length) 0) ++ [3]
theorem sectorOf_length (mark : UInt8) (l : List UInt8) : (sectorOf mark l).length = 64 := by
  simp [sectorOf]; omega
def piecesGo : Nat → UInt8 → List UInt8 → List Sec
  | 0, _, _ => []
  | k + 1, mark, l => if l = [] then [] else sectorOf mark l :: piecesGo k 2 (l.drop 59)
def piecesL (l : List UInt8) : List Sec := piecesGo l.length 1 l
theorem piecesGo_fuel : ∀ (k k' : Nat) (mark : UInt8) (l : List UInt8), l.length ≤ k → l.length ≤ k' → piecesGo k mark l = piecesGo k' mark l
  | 0, 0, _, _, _, _ => rfl
  | 0, k' + 1, mark, l, h, _ => by
    have : l = [] := List.eq_nil_of_length_eq_zero (by omega)
    subst this; simp [piecesGo]
  | k + 1, 0, mark, l, _, h => by
    have : l = [] := List.eq_nil_of_length_eq_zero (by omega)
    subst this; simp [piecesGo]
  | k + 1, k' + 1, mark, l, h, h' => by
    unfold piecesGo
    split
    · rfl
    · rename_i hl
      have hp : 0 < l.length := List.length_pos_iff.2 hl
      rw [piecesGo_fuel k k' 2 (l.drop 59) (by simp; omega) (by simp; omega)]
def boxB (b : ByteArray) : Obj := .cells #[.string b] 9 (0, 0)
theorem bsz (b : ByteArray) : b.data.toList.length = b.size := rfl
theorem wpListIn_load_wide {n : Nat} {ops : Array Oper} {rest : List Oper} {o : Oper} {a : Act} {w : World} {Q : Exit → Act → World → Prop} (hg : o.guard = none) (ty : TypeId) (x : Operand) (ho : o.op = .load ty x) (b off : Nat) (hx : a.eval x = .pointer (some ⟨b, off, none⟩)) (cs : List Value) (d : TypeDesc) (hc : w.rangeAt b off cs)
    (hu : Tryz.prog.underlying ty = some d) (hd : d.isRow = true) (hi : (Tryz.prog.info? ty).map (·.size) = some cs.length)
    (h : wpListIn Fence.wide n Tryz.prog ops Q rest (a.put o.dst (.agg cs.toArray)) w) : wpListIn Fence.wide n Tryz.prog ops Q (o :: rest) a w := by
  refine wpListIn_plain hg fun K hK => ⟨fun f _ => trivial, ?_⟩
  have hs : (o.semAt Fence.wide.round a.eval).run Tryz.prog w = .ok (.value (.agg cs.toArray)) w := by
    show ((execOp a.eval o)).run Tryz.prog w = _
    unfold execOp
    simp only [ho, hx, Sem.run_bind, run_loadAt_mid w b off ty cs d hc hu hd hi, Result.andThen_ok]
    rfl
  rw [hs]
  exact hK _ _ h
theorem strs (b : ByteArray) : (b.data.toList.map fun x => Value.int .u8 (x.toNat : Int)) = scells b.data.toList := rfl
end Go.Proofs.YtgjahnomafpnfaaGreatDoor

/- The making of a sector's cells. -/
namespace Go.Proofs.YtgjahnomafpnfaaGreatDoor
open Go.RowKit
def headC (v0 v1 v2 v3 : Int) : List Value := [.int .u8 v0, .int .u8 v1, .int .u8 v2, .int .u8 v3] ++ List.replicate 60 (.int .u8 0)
theorem build_head (a b c d : Int) (w : World) : (Instr.build 157 #[(0, .int .u8 a), (1, .int .u8 b), (2, .int .u8 c), (3, .int .u8 d)]).run Tryz.prog w = .ok (.agg (headC a b c d).toArray) w := by
  refine run_build w 157 _ _ ?_
  obtain ⟨i0, hi0, hz0, hz1, hz2⟩ := info_parts info157
  obtain ⟨i5, hi5⟩ : ∃ i5, Tryz.prog.info? 5 = some i5 := by
    cases h : Tryz.prog.info? 5 with
    | none => have := info5; rw [h] at this; cases this
    | some i => exact ⟨i, rfl⟩
  have hs5 : i5.size = 1 := by have := info5; rw [hi5] at this; simpa using this
  unfold Program.built
  simp only [hi0, hi5, Tryz.underlying157, hz0, Value.cells, hs5]
  rfl
theorem wpList_build4 {ops : Array Oper} {rest : List Oper} {o : Oper} {a : Act} {w : World} {Q : Exit → Act → World → Prop} (hg : o.guard = none) (x0 x1 x2 x3 : Operand) (ho : o.op = .build 157 #[(0, x0), (1, x1), (2, x2), (3, x3)]) (v0 v1 v2 v3 : Int)
    (h0 : a.eval x0 = .int .u8 v0) (h1 : a.eval x1 = .int .u8 v1) (h2 : a.eval x2 = .int .u8 v2) (h3 : a.eval x3 = .int .u8 v3)
    (h : wpList Tryz.prog ops Q rest (a.put o.dst (.agg (headC v0 v1 v2 v3).toArray)) w) : wpList Tryz.prog ops Q (o :: rest) a w := by
  refine wpList_plain hg fun K hK => ?_
  unfold Oper.wp execOp
  simp only [ho, List.map_toArray, List.map_cons, List.map_nil, h0, h1, h2, h3, Sem.run_bind, build_head v0 v1 v2 v3 w, Result.andThen_ok]
  exact hK _ _ h
theorem headC_length (v0 v1 v2 v3 : Int) : (headC v0 v1 v2 v3).length = 64 := by simp [headC]
theorem headC_one (v0 v1 v2 v3 : Int) : ∀ u ∈ headC v0 v1 v2 v3, u.oneCell' = true := by
  intro u hu
  simp [headC] at hu
  rcases hu with rfl | rfl | rfl | rfl | rfl <;> rfl
/-- The sector's cells before its end is marked. -/
def midC (v0 v1 v2 v3 : Int) (l : List UInt8) : List Value := [.int .u8 v0, .int .u8 v1, .int .u8 v2, .int .u8 v3] ++ scells (l.take 59 ++ List.replicate (59 - l.length) 0) ++ [.int .u8 0]
theorem sizeOf5 (w : World) : (Go.sizeOf 5).run Tryz.prog w = .ok 1 w := by
  cases h : Tryz.prog.info? 5 with
  | none => have := info5; rw [h] at this; cases this
  | some i =>
    have h2 := info5
    rw [h] at h2
    simp at h2
    simp [sizeOf, typeInfo, h, h2]
theorem copy_str (w : World) (ty : TypeId) (g dCap : Nat) (b : ByteArray) (v0 v1 v2 v3 : Int) (hr : w.rangeAt g 0 (headC v0 v1 v2 v3)) (ht : w.there g 0 64) :
    ∃ w', (Builtin.copy_ #[69, 9] ty #[.slice (some ⟨g, 4, none⟩) 59 dCap, .string b]).run Tryz.prog w = .ok (goInt (Nat.min b.size 59)) w' ∧ FrB (fun j => j = g) w w' ∧ w'.rangeAt g 0 (midC v0 v1 v2 v3 b.data.toList) ∧ w'.there g 0 64 := by
  have hlen : (scells (b.data.toList.take 59)).length = Nat.min b.size 59 := by rw [scells_length, List.length_take, bsz]; exact Nat.min_comm _ _
  have hm : Nat.min b.size 59 ≤ 59 := Nat.min_le_right _ _
  have hst := run_storeCells_cells (P := Tryz.prog) g 4 (scells (b.data.toList.take 59)) 0 w (fun j hj => by have := (ht (4 + j) (by omega)).1; simpa using this) (fun j hj => by have := (ht (4 + j) (by omega)).2; simpa using this) (scells_oneCell _)
  have he : List.take (Nat.min b.size 59) (b.data.toList.map fun x => Value.int .u8 (x.toNat : Int)) = scells (b.data.toList.take 59) := by
    rw [← List.map_take]
    show scells _ = _
    congr 1
    have hb := bsz b
    by_cases h59 : b.size ≤ 59
    · rw [show Nat.min b.size 59 = b.size from Nat.min_eq_left h59, List.take_of_length_le (by omega), List.take_of_length_le (by omega)]
    · rw [show Nat.min b.size 59 = 59 from Nat.min_eq_right (by omega)]
  refine ⟨w.setCells g 4 (scells (b.data.toList.take 59)), ?_, FrB.setCells _ _ _ _ _ rfl, fun j u hu => ?_, World.there_setCells ht _ _ _⟩
  · simp only [Nat.add_zero] at hst
    simp [Builtin.copy_, run_underlying Tryz.underlying69, Builtin.lenOf, Builtin.firstCells, sizeOf5, he, hst]
  · rw [Nat.zero_add]
    have hb := bsz b
    by_cases h4 : j < 4
    · rw [World.cell?_setCells_out g _ 4 w ⟨g, j, none⟩ (fun _ _ => .inl h4)]
      have := hr j u (by
        rw [← hu]
        simp only [headC, midC, List.append_assoc]
        rw [List.getElem?_append_left (by simpa using h4), List.getElem?_append_left (by simpa using h4)])
      rwa [Nat.zero_add] at this
    · obtain ⟨i, rfl⟩ : ∃ i, j = 4 + i := ⟨j - 4, by omega⟩
      simp only [midC, List.append_assoc] at hu
      rw [List.getElem?_append_right (by simp)] at hu
      simp only [List.length_cons, List.length_nil, Nat.reduceAdd, Nat.add_sub_cancel_left] at hu
      have hml : Nat.min b.size 59 = min b.size 59 := rfl
      by_cases hi : i < Nat.min b.size 59
      · have := World.cell?_setCells_in g (scells (b.data.toList.take 59)) 4 w (fun k hk => by have := (ht (4 + k) (by omega)).1; rwa [Nat.zero_add] at this) i (by omega)
        rw [this, ← hu, ← List.getElem?_eq_getElem]
        simp only [scells, List.map_append, List.append_assoc]
        rw [List.getElem?_append_left (by simp [hb]; omega)]
      · rw [World.cell?_setCells_out g _ 4 w ⟨g, 4 + i, none⟩ (fun _ _ => .inr (by rw [hlen]; show 4 + Nat.min b.size 59 ≤ 4 + i; omega))]
        have := hr (4 + i) u (by
          rw [← hu]
          simp only [headC]
          rw [List.getElem?_append_right (by simp)]
          simp only [List.length_cons, List.length_nil, Nat.reduceAdd, Nat.add_sub_cancel_left, scells, List.map_append, List.map_replicate, List.append_assoc]
          rw [List.getElem?_append_right (by simp [hb]; omega), show [Value.int .u8 0] = List.replicate 1 (Value.int .u8 ((0 : UInt8).toNat : Int)) from rfl, List.replicate_append_replicate, List.getElem?_replicate, List.getElem?_replicate]
          simp only [List.length_map, List.length_take, hb]
          by_cases h6 : i < 60
          · rw [if_pos h6, if_pos (by omega)]; rfl
          · rw [if_neg h6, if_neg (by omega)])
        rwa [Nat.zero_add] at this
theorem sector_end (w : World) (g : Nat) (mark : UInt8) (v1 v2 v3 : Int) (l : List UInt8) (h1 : v1 = ((l.length / 65536 % 256 : Nat) : Int)) (h2 : v2 = ((l.length / 256 % 256 : Nat) : Int)) (h3 : v3 = ((l.length % 256 : Nat) : Int)) (hr : w.rangeAt g 0 (midC (mark.toNat : Int) v1 v2 v3 l)) (ht : w.there g 0 64) :
    (w.setCell ⟨g, 63, none⟩ (.int .u8 3)).rangeAt g 0 (scells (sectorOf mark l)) := by
  intro j u hu
  rw [Nat.zero_add]
  have hml : (l.take 59 ++ List.replicate (59 - l.length) (0 : UInt8)).length = 59 := by simp; omega
  have hu' : ([Value.int .u8 (mark.toNat : Int), .int .u8 v1, .int .u8 v2, .int .u8 v3] ++ scells (l.take 59 ++ List.replicate (59 - l.length) 0) ++ [.int .u8 3])[j]? = some u := by
    rw [← hu]
    subst h1 h2 h3
    simp [scells, sectorOf]
  have hl63 : ([Value.int .u8 (mark.toNat : Int), .int .u8 v1, .int .u8 v2, .int .u8 v3] ++ scells (l.take 59 ++ List.replicate (59 - l.length) 0)).length = 63 := by
    rw [List.length_append, scells_length, hml]; rfl
  by_cases hj : j < 63
  · rw [World.cell?_setCell_other _ _ _ _ (fun e => by have := congrArg Addr.off e; simp at this; omega)]
    have := hr j u (by
      rw [← hu']
      simp only [midC]
      rw [List.getElem?_append_left (l₂ := [Value.int .u8 0]) (by omega), List.getElem?_append_left (l₂ := [Value.int .u8 3]) (by omega)])
    rwa [Nat.zero_add] at this
  · have hj63 : j = 63 := by
      have := (List.getElem?_eq_some_iff.1 hu').1
      rw [List.length_append, hl63] at this
      simp at this; omega
    subst hj63
    rw [List.getElem?_append_right (by omega), hl63] at hu'
    simp at hu'
    subst hu'
    obtain ⟨v, hv⟩ := Option.isSome_iff_exists.1 (ht 63 (by omega)).1
    exact World.cell?_setCell_same _ _ _ (by rw [Nat.zero_add] at hv; exact hv)
end Go.Proofs.YtgjahnomafpnfaaGreatDoor

/- The iterator pieces: its contract. -/
namespace Go.Proofs.YtgjahnomafpnfaaGreatDoor
open Go.RowKit
attribute [local go_sem] Oper.semAt_some
theorem boxB_cell {w : World} {bx : Nat} {b : ByteArray} (h : w.heap[bx]? = some (boxB b)) : w.cell? ⟨bx, 0, none⟩ = some (.string b) ∧ w.frozen? ⟨bx, 0, none⟩ = false := by
  constructor
  · simp [World.cell?, h, boxB]
  · simp [World.frozen?, h, boxB]
theorem boxB_set {w : World} {bx : Nat} {b : ByteArray} (h : w.heap[bx]? = some (boxB b)) (b' : ByteArray) : (w.setCell ⟨bx, 0, none⟩ (.string b')).heap[bx]? = some (boxB b') := by
  have hlt : bx < w.heap.size := (Array.getElem?_eq_some_iff.1 h).1
  simp only [World.setCell, Array.getElem?_modify, h, boxB, Option.map_some, if_true]
  rfl
def Halt1 (p : Prop) : Prop := p
theorem wpList_store_halt {ops : Array Oper} {rest : List Oper} {o : Oper} {a : Act} {w : World} {Q : Exit → Act → World → Prop} (hg : o.guard = none) (x y : Operand) (ho : o.op = .store 9 x y) (bx : Nat) (v v' : ByteArray) (hx : a.eval x = .pointer (some ⟨bx, 0, none⟩)) (hy : a.eval y = .string v')
    (hc : w.cell? ⟨bx, 0, none⟩ = some (.string v)) (hf : w.frozen? ⟨bx, 0, none⟩ = false) (h : Halt1 (wpList Tryz.prog ops Q rest (a.put o.dst undef) (w.setCell ⟨bx, 0, none⟩ (.string v')))) : wpList Tryz.prog ops Q (o :: rest) a w := by
  refine wpList_plain hg fun K hK => ?_
  have hs : (Instr.storeAt 9 (.pointer (some ⟨bx, 0, none⟩)) (.string v')).run Tryz.prog w = .ok () (w.setCell ⟨bx, 0, none⟩ (.string v')) := by
    have hu := Tryz.underlying9
    simp [go_sem, hc, hf, run_underlying hu]
  unfold Oper.wp execOp
  simp only [ho, hx, hy, Sem.run_bind, hs, Result.andThen_ok]
  exact hK _ _ h
theorem laid_new' (w : World) (cs : List Value) (zs : Array Value) (ty : TypeId) (hl : zs.size = cs.length) (h1 : ∀ v ∈ cs, v.oneCell' = true) : ∃ w2, Sem.run Tryz.prog (storeCells ⟨w.heap.size, 0, none⟩ cs) (w.alloc (.cells zs ty)) = .ok () w2 ∧ Ext w w2 ∧ w2.rangeAt w.heap.size 0 cs ∧ w.heap.size < w2.heap.size ∧ w2.there w.heap.size 0 cs.length := by
  have ht := there_new w zs ty w.heap.size cs.length rfl (by omega)
  have hst := run_storeCells_cells (P := Tryz.prog) w.heap.size 0 cs 0 (w.alloc (.cells zs ty)) (fun j hj => by first | (simp; done) | simpa using (ht j hj).1) (fun j hj => by first | (simp; done) | simpa using (ht j hj).2) h1
  exact ⟨_, hst, below_setCells (Nat.le_refl _) _ _ _ (Ext.alloc _ _), World.rangeAt_setCells_same _ _ _ _ ht, by rw [size_setCells]; simp, World.there_setCells ht _ _ _⟩
theorem there_ext {w w' : World} {g o n : Nat} (h : w.there g o n) (hE : Ext w w') (hg : g < w.heap.size) : w'.there g o n := fun j hj => by
  rw [hE.cell (p := ⟨g, o + j, none⟩) hg, hE.frozen (p := ⟨g, o + j, none⟩) hg]; exact h j hj
set_option maxHeartbeats 1600000 in
set_option maxRecDepth 100000 in
theorem pieces_seq (n bx : Nat) (b0 : ByteArray) (hl0 : b0.size ≤ 1000000) (hn : 1 ≤ n) : SeqBx Fence.wide n 194 bx (boxB b0) (piecesL b0.data.toList) := by
  intro l J Jx W hW hJ hJx hY h0
  have hJJ := Lib.hid hJ
  have hYY := Lib.hid hY
  have hJ0 := Lib.hid h0
  have HW := Lib.hid hW
  clear hJ hY h0 hW
  refine callsIn_wide.2 ?_
  go_enter Tryz.func194, Tryz.ntmps194
  go_wp2
  go_loopw [3, 4, 5] (fun mk _ _ wr => ∃ (pre : List Sec) (mark : UInt8) (b : ByteArray), mk = .int .u8 (mark.toNat : Int) ∧ b.size ≤ b0.size ∧ piecesL b0.data.toList = pre ++ piecesGo b.size mark b.data.toList ∧ wr.heap[bx]? = some (boxB b) ∧ J pre wr) (fun _ _ _ wr => match wr.cell? ⟨bx, 0, none⟩ with | some (.string b) => b.size | _ => 0)
  case atStart => exact ⟨[], 1, b0, rfl, Nat.le_refl _, rfl, HW.out, hJ0.out⟩
  case round =>
    obtain ⟨pre, mark, b, rfl, hlb, hpc, hbox, hJr⟩ := hrel
    obtain ⟨hc0, hf0⟩ := boxB_cell hbox
    have hbx : bx < wr.heap.size := World.block_lt_of_cell? _ _ hc0
    have HJr := Lib.hid hJr
    have HB := Lib.hid hbox
    clear hJr hbox
    by_cases hz : b.size = 0
    · have hz' : ¬ (0 : Int) < b.size := by omega
      have hp0 : piecesL b0.data.toList = pre := by rw [hpc, hz]; simp [piecesGo]
      clear hpc
      have HP := Lib.hid hp0
      clear hp0
      go_wp2
      refine bodyPost_end (results_none rfl _ _ _) rfl ⟨⟨_, rfl⟩, .inl ?_⟩
      rw [HP.out]; exact HJr.out
    · obtain ⟨k, hk⟩ : ∃ k, b.size = k + 1 := ⟨b.size - 1, by omega⟩
      have hne : b.data.toList ≠ [] := fun e => hz (by rw [← bsz, e]; rfl)
      have hpc2 : piecesL b0.data.toList = pre ++ sectorOf mark b.data.toList :: piecesGo k 2 (b.data.toList.drop 59) := by
        rw [hpc, hk]; simp [piecesGo, hne]
      have HP := Lib.hid hpc2
      have HK := Lib.hid hk
      clear hpc hpc2 hk hne
      have hz' : (0 : Int) < b.size := by omega
      have hb1 : (b.size : Int) ≤ 1000000 := by omega
      have hcl := headC_length (mark.toNat : Int) ((b.size : Int) / 65536) ((b.size : Int) / 256 % 256) ((b.size : Int) % 256)
      obtain ⟨w2, l1, l2, l3, l4, l5⟩ := laid_new' wr (headC (mark.toNat : Int) ((b.size : Int) / 65536) ((b.size : Int) / 256 % 256) ((b.size : Int) % 256)) (scells zsec).toArray 157 (by rw [hcl]; simp [scells_length, zsec]) (headC_one _ _ _ _)
      go_wp2_with (first | (refine wpList_build4 rfl (.tmp 9) (.tmp 13) (.tmp 17) (.tmp 20) rfl _ _ _ _ rfl rfl rfl rfl ?_) | (refine wpList_allocV rfl 157 rfl _ (run_alloc157' _) ?_))
      rw [hcl] at l5
      have hbb := (l2.block bx hbx).trans HB.out
      have HW2 := Lib.hid (And.intro l2 (And.intro l3 (And.intro l4 (And.intro l5 hbb))))
      have hc2 := l2.keep hc0
      clear l1 l2 l3 l4 l5 hbb hc0 hf0 hcl
      refine wp_drawn 2 (by kernel_rfl) (by kernel_rfl) (fun _ => none) (fun j φ hφ => by cases hφ) ?_
      intro ν
      simp only [List.take_succ_cons, List.take_zero]
      iterate 2 (refine Seq.pure ?_ rfl (fun w' hw hf => ?_) ?_; rotate_left; (· (have d0 := hw.keep (w := World.drew _) hc2; unfold pureG; go_simp; with_reducible rfl)); simp only [Act.put, List.setIfInBounds_toArray, List.set_cons_zero, List.set_cons_succ, Nat.reduceAdd, Nat.zero_add])
      refine Seq.nil fun w3 hw3 hf3 => tail_list [2, 3] [_, _] _ _ _ (by kernel_rfl) rfl ?_
      have hE3 : Ext w2 w3 := (Ext.drew w2).trans hw3
      obtain ⟨w4, e4, f4, r4, t4⟩ := copy_str w3 3 wr.heap.size 60 b _ _ _ _ (fun j u hu => hE3.keep (HW2.out.2.1 j u hu)) (there_ext HW2.out.2.2.2.1 hE3 HW2.out.2.2.1)
      have hml : Nat.min b.size 59 ≤ 59 := Nat.min_le_right _ _
      have hmb : Nat.min b.size 59 ≤ b.size := Nat.min_le_left _ _
      generalize hmq : Nat.min b.size 59 = mm at *
      have hg4 : wr.heap.size < w4.heap.size := Nat.lt_of_lt_of_le (Nat.lt_of_lt_of_le HW2.out.2.2.1 hE3.size) f4.size
      have hb4 : w4.heap[bx]? = some (boxB b) := ((f4.block bx (Nat.lt_of_lt_of_le (Nat.lt_of_lt_of_le hbx (Nat.le_of_lt HW2.out.2.2.1)) hE3.size) (by omega)).trans (hE3.block bx (by have := HW2.out.2.2.1; omega))).trans HW2.out.2.2.2.2
      obtain ⟨hcb, hfb⟩ := boxB_cell hb4
      obtain ⟨u63, h63⟩ := Option.isSome_iff_exists.1 (t4 63 (by omega)).1
      have z63 := (t4 63 (by omega)).2
      rw [Nat.zero_add] at h63 z63
      have hcb' : (w4.setCell ⟨wr.heap.size, 63, none⟩ (.int .u8 3)).cell? ⟨bx, 0, none⟩ = some (.string b) := by rw [World.cell?_setCell_far _ _ _ _ (show wr.heap.size ≠ bx by omega)]; exact hcb
      have hfb' : (w4.setCell ⟨wr.heap.size, 63, none⟩ (.int .u8 3)).frozen? ⟨bx, 0, none⟩ = false := by rw [World.frozen?_setCell]; exact hfb
      have HW4 := Lib.hid (And.intro f4 (And.intro r4 (And.intro t4 hb4)))
      clear f4 r4 t4 hb4
      go_wp2_with (first | (refine wpList_store_halt rfl (.tmp 1) (.tmp 28) rfl bx b _ rfl rfl hcb' hfb' ?_))
      rename_i K7 hK7
      show K7 _ _
      refine hK7 _ _ ?_
      refine (wpIn_wide (n := n)).1 ?_
      have hmm : mm = Nat.min b.size 59 := hmq.symm
      have hdr : (b.extract mm b.size).data.toList = b.data.toList.drop 59 := by
        have hb := bsz b
        have e1 : (b.extract mm b.size).data.toList = (b.data.toList.drop mm).take (b.size - mm) := by
          rw [ByteArray.data_extract]; simp [Array.toList_extract, List.extract]
        rw [e1, hmm, List.take_of_length_le (by simp [hb])]
        by_cases h59 : b.size ≤ 59
        · rw [show Nat.min b.size 59 = b.size from Nat.min_eq_left h59, List.drop_eq_nil_of_le (by omega), List.drop_eq_nil_of_le (by omega)]
        · rw [show Nat.min b.size 59 = 59 from Nat.min_eq_right (by omega)]
      have hg3 := HW2.out.2.2.1
      have hr5 : ((w4.setCell ⟨wr.heap.size, 63, none⟩ (.int .u8 3)).setCell ⟨bx, 0, none⟩ (.string (b.extract mm b.size))).rangeAt wr.heap.size 0 (scells (sectorOf mark b.data.toList)) := fun j u hu => by
        rw [World.cell?_setCell_far _ _ _ _ (show bx ≠ wr.heap.size by omega)]
        exact sector_end w4 wr.heap.size mark _ _ _ b.data.toList (by rw [bsz]; omega) (by rw [bsz]; omega) (by rw [bsz]; omega) HW4.out.2.1 HW4.out.2.2.1 j u hu
      have hb5 : ((w4.setCell ⟨wr.heap.size, 63, none⟩ (.int .u8 3)).setCell ⟨bx, 0, none⟩ (.string (b.extract mm b.size))).heap[bx]? = some (boxB (b.extract mm b.size)) :=
        boxB_set ((Below.heap_setCell _ _ _ _ (show bx ≠ wr.heap.size by omega)).trans HW4.out.2.2.2) _
      have hF5 : FrB (fun j => j = bx) wr ((w4.setCell ⟨wr.heap.size, 63, none⟩ (.int .u8 3)).setCell ⟨bx, 0, none⟩ (.string (b.extract mm b.size))) := by
        refine FrB.trans (S' := fun j => j = wr.heap.size ∨ j = bx) (FrB.ext (HW2.out.1.trans hE3)) ?_ (fun j hj e => by rcases e with e | e; omega; exact e)
        exact ((HW4.out.1.mono (S' := fun j => j = wr.heap.size ∨ j = bx) (fun _ _ e => .inl e)).trans (FrB.setCell (fun j => j = wr.heap.size ∨ j = bx) _ _ _ (.inl rfl)) (fun _ _ e => e)).trans (FrB.setCell (fun j => j = wr.heap.size ∨ j = bx) _ _ _ (.inr rfl)) (fun _ _ e => e)
      have hs5 : bx < ((w4.setCell ⟨wr.heap.size, 63, none⟩ (.int .u8 3)).setCell ⟨bx, 0, none⟩ (.string (b.extract mm b.size))).heap.size := (Array.getElem?_eq_some_iff.1 hb5).1
      have hJ5 := hJJ.out pre _ _ HJr.out hF5
      obtain ⟨fn, tmps, assign, body, hy, hR⟩ := hYY.out pre _ _ _ HP.out hJ5 hs5
      have hbs : (b.extract mm b.size).size = b.size - mm := by rw [← bsz, hdr, List.length_drop, bsz]; rw [hmm]; show b.size - 59 = b.size - min b.size 59; omega
      have HH5 := Lib.hid (And.intro hb5 (And.intro hF5 (And.intro hdr hbs)))
      clear hdr hb5 hF5 hJ5 hcb' hfb' hcb hfb h63 z63 e4 hc2
      generalize ((w4.setCell ⟨wr.heap.size, 63, none⟩ (.int .u8 3)).setCell ⟨bx, 0, none⟩ (.string (b.extract mm b.size))) = w5 at *
      gi_wp2_with (first | (refine wpListIn_load_wide rfl 157 (.tmp 4) rfl wr.heap.size 0 rfl _ _ hr5 Tryz.underlying157 rfl (size157 _ (by rw [scells_length, sectorOf_length])) ?_))
      simp only [Act.put, List.setIfInBounds_toArray, List.set_cons_zero, List.set_cons_succ, Nat.reduceAdd, Nat.zero_add]
      gi_wp2
      refine hR.mono ?_
      rintro e W' (⟨rfl, hJ', hsz, hbx'⟩ | ⟨rfl, hJx'⟩)
      · have HN := Lib.hid (And.intro hJ' (And.intro hsz hbx'))
        clear hJ' hsz hbx'
        dsimp only
        gi_wp2
        go_wp2
        have hbW : W'.heap[bx]? = some (boxB (b.extract mm b.size)) := HN.out.2.2.trans HH5.out.1
        have hcW := (boxB_cell hbW).1
        have hcr := (boxB_cell HB.out).1
        refine ⟨⟨_, 2, b.extract mm b.size, rfl, by omega, ?_, hbW, HN.out.1⟩, ?_⟩
        · have hk := HK.out
          have hln : (b.data.toList.drop 59).length = b.size - mm := by rw [List.length_drop, bsz, hmm]; show b.size - 59 = b.size - min b.size 59; omega
          have hm1 : 1 ≤ mm := by rw [hmm]; show 1 ≤ min b.size 59; omega
          rw [HP.out, HH5.out.2.2.1, piecesGo_fuel k (b.extract mm b.size).size 2 _ (by omega) (by omega)]
          simp
        · have hm1 : 1 ≤ mm := by rw [hmm]; show 1 ≤ min b.size 59; omega
          rw [hcW, hcr]
          show (b.extract mm b.size).size < b.size
          omega
      · have HN := Lib.hid hJx'
        clear hJx'
        dsimp only
        gi_wp2
        exact bodyPost_ret (results_none rfl _ _ _) rfl ⟨⟨_, rfl⟩, .inr ⟨_, HN.out⟩⟩
end Go.Proofs.YtgjahnomafpnfaaGreatDoor

/- pieces; (*Disk).save: its words. -/
namespace Go.Proofs.YtgjahnomafpnfaaGreatDoor
open Go.RowKit
set_option maxHeartbeats 400000 in
set_option maxRecDepth 100000 in
theorem pieces_any (b : ByteArray) (w : World) : Calls Tryz.prog 176 #[.string b] w fun e w' => e = .returned (.func (.func 194) #[] #[.pointer (some ⟨w.heap.size, 0, none⟩)]) ∧ w' = w.alloc (boxB b) := by
  go_enter Tryz.func176, Tryz.ntmps176
  go_wp2
  go_ret
  exact ⟨rfl, rfl⟩
theorem enters194 : Enters 194 := by intro args w; unfold callFunc; simp [go_sem, Tryz.func194]; rfl
section
variable {n l : Nat} {ops : Array Oper} {rest : List Oper} {o : Oper} {a : Act} {w : World} {Q : Exit → Act → World → Prop}
theorem wpListIn_valueR (hg : o.guard = none) (hd : ∀ c, o.op ≠ .defer c) (v : Value) (w' : World) (he : (execOp a.eval o).run Tryz.prog w = .ok (.value v) w') (h : wpListIn (Fence.wide.inRound l) n Tryz.prog ops Q rest (a.put o.dst v) w') : wpListIn (Fence.wide.inRound l) n Tryz.prog ops Q (o :: rest) a w := by
  refine wpListIn_plain hg fun K hK => ⟨fun f _ => trivial, ?_⟩
  rw [Oper.semAt_eq _ _ _ hd, he]
  exact hK _ _ h
theorem wpListIn_skipR (hg : o.guard = none) (hd : ∀ c, o.op ≠ .defer c) (w' : World) (he : (execOp a.eval o).run Tryz.prog w = .ok .skip w') (h : wpListIn (Fence.wide.inRound l) n Tryz.prog ops Q rest (a.put o.dst undef) w') : wpListIn (Fence.wide.inRound l) n Tryz.prog ops Q (o :: rest) a w := by
  refine wpListIn_plain hg fun K hK => ⟨fun f _ => trivial, ?_⟩
  rw [Oper.semAt_eq _ _ _ hd, he]
  exact hK _ _ h
/-- The loop's variable is laid and set. -/
theorem assign_laid (id : Nat) (t0 t1 : Tmp) (ops' : List Oper) (o1 o2 : Oper) (hops : ops' = [o1, o2]) (hg1 : o1.guard = none) (hg2 : o2.guard = none) (ho1 : o1.op = .alloc 157) (hd1 : o1.dst = some t0) (ho2 : o2.op = .store 157 (.tmp t0) (.tmp t1)) (hd2 : o2.dst = none) (ht : t0 < a.tmps.size) (hne : t0 ≠ t1)
    (x : Sec) (hx : x.length = 64) (hv : a.eval (.tmp t1) = .agg (scells x).toArray)
    (h : ∀ w', Ext w w' → w'.rangeAt w.heap.size 0 (scells x) → w.heap.size < w'.heap.size → Q .normal { a with tmps := a.tmps.setIfInBounds t0 (.pointer (some ⟨w.heap.size, 0, none⟩)) } w') :
    (Code.region id ops'.toArray false).wpIn (Fence.wide.inRound l) n Tryz.prog Q a w := by
  subst hops
  have hl : (scells x).length = 64 := by rw [scells_length]; exact hx
  obtain ⟨w2, l1, l2, l3, l4⟩ := laid_new w (scells x) (scells zsec).toArray 157 (by rw [hl]; simp [scells_length, zsec]) (scells_oneCell x)
  refine wpIn_region_lit ?_
  refine wpListIn_valueR hg1 (by rw [ho1]; intro c e; cases e) (.pointer (some ⟨w.heap.size, 0, none⟩)) (w.alloc (.cells (scells zsec).toArray 157)) ?_ ?_
  · unfold execOp
    simp only [ho1, Sem.run_bind, run_alloc157', Result.andThen_ok]
    rfl
  · have e1 : (a.put o1.dst (.pointer (some ⟨w.heap.size, 0, none⟩))).eval (.tmp t0) = .pointer (some ⟨w.heap.size, 0, none⟩) := by
      simp [Act.put, hd1, Act.eval, ht]
    have e2 : (a.put o1.dst (.pointer (some ⟨w.heap.size, 0, none⟩))).eval (.tmp t1) = .agg (scells x).toArray := by
      rw [← hv]
      simp [Act.put, hd1, Act.eval, hne]
    have hst : (Instr.storeAt 157 (.pointer (some ⟨w.heap.size, 0, none⟩)) (.agg (scells x).toArray)).run Tryz.prog (w.alloc (.cells (scells zsec).toArray 157)) = .ok () w2 := by
      obtain ⟨i0, hi0, hz0, hz1, hz2⟩ := info_parts info157
      simp [Instr.storeAt, Instr.sureAddr, storeVar, sizeOf, typeInfo, hi0, hz1, Value.cells, hl, l1]
    refine wpListIn_skipR hg2 (by rw [ho2]; intro c e; cases e) w2 ?_ ?_
    · unfold execOp
      simp only [ho2, e1, e2, Sem.run_bind, hst, Result.andThen_ok]
      rfl
    · refine wpListIn_nil ?_
      have := h w2 l2 l3 l4
      simpa [Act.put, hd1, hd2] using this
end
/-- What the loop of save does. -/
def saveGo (n : Nat) : List Sec → Dk → Nat → Nat × Int × Dk
  | [], m, at_ => (at_, 0, m)
  | x :: xs, m, at_ => if (writeP m n at_ x).1 ≠ 0 then (at_, (writeP m n at_ x).1, (writeP m n at_ x).2) else saveGo n xs (writeP m n at_ x).2 (at_ + 1)
/-- What save does. -/
def saveP (n : Nat) (m : Dk) (at_ : Nat) (s : List UInt8) : Nat × Int × Dk :=
  if m.down then (at_, 80, m) else if n < at_ + (s.length + 58) / 59 then (at_, 82, m) else
  if (saveGo n (piecesL s) m at_).2.1 ≠ 0 then saveGo n (piecesL s) m at_ else
  ((saveGo n (piecesL s) m at_).1, (flushP (saveGo n (piecesL s) m at_).2.2).1, (flushP (saveGo n (piecesL s) m at_).2.2).2)
theorem padS_full {x : Sec} (h : x.length = 64) : padS x = x := by simp [padS, h]
theorem piecesGo_64 : ∀ (k : Nat) (mark : UInt8) (l : List UInt8), ∀ x ∈ piecesGo k mark l, x.length = 64
  | 0, _, _, x, h => by simp [piecesGo] at h
  | k + 1, mark, l, x, h => by
    unfold piecesGo at h
    split at h
    · simp at h
    · rcases List.mem_cons.1 h with rfl | h
      · exact sectorOf_length _ _
      · exact piecesGo_64 k 2 _ x h
end Go.Proofs.YtgjahnomafpnfaaGreatDoor

/- (*Disk).save. -/
namespace Go.Proofs.YtgjahnomafpnfaaGreatDoor
open Go.RowKit
attribute [local go_sem] Oper.semAt_some
/-- The four boxes of save. -/
structure Boxes (w W : World) (D : Nat) (at_ : Int) (r e : Int) : Prop where
  ext : Ext w W
  size : W.heap.size = w.heap.size + 4
  d : W.cell? ⟨w.heap.size, 0, none⟩ = some (.pointer (some ⟨D, 0, none⟩))
  a : W.cell? ⟨w.heap.size + 1, 0, none⟩ = some (.int .i64 at_)
  r : W.cell? ⟨w.heap.size + 1 + 1, 0, none⟩ = some (.int .i64 r)
  e : W.cell? ⟨w.heap.size + 1 + 1 + 1, 0, none⟩ = some (.int .i64 e)
  fa : W.frozen? ⟨w.heap.size + 1, 0, none⟩ = false
  fr : W.frozen? ⟨w.heap.size + 1 + 1, 0, none⟩ = false
  fe : W.frozen? ⟨w.heap.size + 1 + 1 + 1, 0, none⟩ = false
theorem boxes_new (w : World) (D : Nat) (at_ : Int) : Boxes w ((((w.alloc (.cells #[.pointer (some ⟨D, 0, none⟩)] 32)).alloc (.cells #[.int .i64 at_] 3)).alloc (.cells #[.int .i64 0] 3)).alloc (.cells #[.int .i64 0] 38)) D at_ 0 0 := by
  have hE : Ext w ((((w.alloc (.cells #[.pointer (some ⟨D, 0, none⟩)] 32)).alloc (.cells #[.int .i64 at_] 3)).alloc (.cells #[.int .i64 0] 3)).alloc (.cells #[.int .i64 0] 38)) := (((Ext.alloc _ _).trans (Ext.alloc _ _)).trans (Ext.alloc _ _)).trans (Ext.alloc _ _)
  refine ⟨hE, by simp, ?_, ?_, ?_, ?_, ?_, ?_, ?_⟩
  · rw [World.cell?_alloc_past _ _ _ (by simp <;> omega), World.cell?_alloc_past _ _ _ (by simp <;> omega), World.cell?_alloc_past _ _ _ (by simp), World.cell?_alloc_at _ _ _ _ rfl]; rfl
  · rw [World.cell?_alloc_past _ _ _ (by simp <;> omega), World.cell?_alloc_past _ _ _ (by simp), World.cell?_alloc_at _ _ _ _ (by simp)]; rfl
  · rw [World.cell?_alloc_past _ _ _ (by simp), World.cell?_alloc_at _ _ _ _ (by simp)]; rfl
  · rw [World.cell?_alloc_at _ _ _ _ (by simp)]; rfl
  · rw [World.frozen?_alloc_past _ _ _ (by simp <;> omega), World.frozen?_alloc_past _ _ _ (by simp), World.frozen?_alloc_at _ _ _ _ (by simp)]
  · rw [World.frozen?_alloc_past _ _ _ (by simp), World.frozen?_alloc_at _ _ _ _ (by simp)]
  · rw [World.frozen?_alloc_at _ _ _ _ (by simp)]
set_option maxHeartbeats 800000 in
set_option maxRecDepth 100000 in
theorem save_full {w : World} {base n D N K : Nat} {wv : Value} {m : Dk} (h : DkX w base n D N K wv m) (at_ : Nat) (b : ByteArray) (ha : at_ ≤ 1000000) (hb : b.size ≤ 1000000) (hd : m.down = false) (hf : n < at_ + (b.size + 58) / 59) :
    Calls Tryz.prog 149 #[.pointer (some ⟨D, 0, none⟩), .int .i64 at_, .string b] w fun e w' => e = .returned (.tuple #[.int .i64 at_, .int .i64 82]) ∧ Ext w w' := by
  have hms := h.ok.most
  have c0 := h.c0
  have c5 := h.c5
  rw [hd] at c5
  have hD := h.lt.1
  have hq : Int.tdiv ((b.size : Int) + 59 - 1) 59 = (((b.size + 58) / 59 : Nat) : Int) := by
    rw [Int.tdiv_eq_ediv_of_nonneg (by omega)]; omega
  have hw1 : IntKind.i64.wrap ((b.size : Int) + 59) = b.size + 59 := IntWalk.i64_in _ (by omega)
  have hw2 : IntKind.i64.wrap ((b.size : Int) + 59 - 1) = b.size + 59 - 1 := IntWalk.i64_in _ (by omega)
  have hlt : (n : Int) < (at_ : Int) + (((b.size + 58) / 59 : Nat) : Int) := by omega
  have hle : (b.size + 58) / 59 ≤ 1000000 := by omega
  generalize hQ : (b.size + 58) / 59 = q at *
  have hB := boxes_new w D at_
  have c0' := hB.ext.keep c0
  have c5' := hB.ext.keep c5
  have bd := hB.d
  have ba := hB.a
  have br := hB.r
  have be := hB.e
  have fr := hB.fr
  have fe := hB.fe
  have HB := Lib.hid hB
  clear h hB c0 c5
  go_enter Tryz.func149, Tryz.ntmps149
  go_wp2_with fail
  generalize ((((w.alloc (.cells #[.pointer (some ⟨D, 0, none⟩)] 32)).alloc (.cells #[.int .i64 at_] 3)).alloc (.cells #[.int .i64 0] 3)).alloc (.cells #[.int .i64 0] 38)) = W at c0' c5' bd ba br be fr fe HB ⊢
  go_quiet (fail)
  go_wp2
  refine bodyPost_ret (v := .tuple #[.int .i64 at_, .int .i64 82]) ?_ rfl ⟨rfl, ?_⟩
  · simp [results, Tryz.results149, go_sem, *]
  · exact ((below_drewN HB.out.ext nq).setCell (by show w.heap.size ≤ w.heap.size + 1 + 1; omega) _).setCell (by show w.heap.size ≤ w.heap.size + 1 + 1 + 1; omega) _
set_option maxHeartbeats 400000 in
set_option maxRecDepth 100000 in
theorem save_down {w : World} {base n D N K : Nat} {wv : Value} {m : Dk} (h : DkX w base n D N K wv m) (at_ : Nat) (b : ByteArray) (hd : m.down = true) :
    Calls Tryz.prog 149 #[.pointer (some ⟨D, 0, none⟩), .int .i64 at_, .string b] w fun e w' => e = .returned (.tuple #[.int .i64 at_, .int .i64 80]) ∧ Ext w w' := by
  have c5 := h.c5
  rw [hd] at c5
  have hB := boxes_new w D at_
  have c5' := hB.ext.keep c5
  have bd := hB.d
  have ba := hB.a
  have br := hB.r
  have be := hB.e
  have fr := hB.fr
  have fe := hB.fe
  have HB := Lib.hid hB
  clear h hB c5
  go_enter Tryz.func149, Tryz.ntmps149
  go_wp2_with fail
  refine bodyPost_ret (v := .tuple #[.int .i64 at_, .int .i64 80]) ?_ rfl ⟨rfl, ?_⟩
  · simp [results, Tryz.results149, go_sem, *]
  · exact (((Ext.alloc _ _).trans (Ext.alloc _ _)).trans (Ext.alloc _ _)).trans (Ext.alloc _ _)
end Go.Proofs.YtgjahnomafpnfaaGreatDoor

/- (*Disk).save: the long way. -/
namespace Go.Proofs.YtgjahnomafpnfaaGreatDoor
open Go.RowKit
attribute [local go_sem] Oper.semAt_some
/-- Between two rounds of save: the disk, the boxes. -/
structure SvI (w W0 : World) (base n D N K : Nat) (wv : Value) (bx : Nat) (b : ByteArray) (m : Dk) (at_ : Nat) (pre : List Sec) (W : World) : Prop where
  ex : ∃ (m' : Dk) (wv' : Value) (post : List Sec), piecesL b.data.toList = pre ++ post ∧ saveGo n (piecesL b.data.toList) m at_ = saveGo n post m' (at_ + pre.length) ∧ DkStep w W base n D N K wv wv' m' ∧ m'.writes.length ≤ m.writes.length + pre.length ∧ ¬ dkS D N K wv' bx ∧
    (∀ j, dkS D N K wv' j → ¬ (w.heap.size ≤ j ∧ j ≤ w.heap.size + 3))
  d : W.cell? ⟨w.heap.size, 0, none⟩ = some (.pointer (some ⟨D, 0, none⟩))
  a : W.cell? ⟨w.heap.size + 1, 0, none⟩ = some (.int .i64 ((at_ + pre.length : Nat) : Int))
  r : W.cell? ⟨w.heap.size + 1 + 1, 0, none⟩ = some (.int .i64 0)
  e : W.cell? ⟨w.heap.size + 1 + 1 + 1, 0, none⟩ = some (.int .i64 0)
  fa : W.frozen? ⟨w.heap.size + 1, 0, none⟩ = false
  fr : W.frozen? ⟨w.heap.size + 1 + 1, 0, none⟩ = false
  fe : W.frozen? ⟨w.heap.size + 1 + 1 + 1, 0, none⟩ = false
  sz : W0.heap.size ≤ W.heap.size
/-- A round has failed. -/
structure SvX (w W0 : World) (base n D N K : Nat) (wv : Value) (b : ByteArray) (m : Dk) (at_ : Nat) (bx : Nat) (W : World) : Prop where
  ex : ∃ (m' : Dk) (wv' : Value) (k : Nat) (e' : Int), e' ≠ 0 ∧ saveGo n (piecesL b.data.toList) m at_ = (k, e', m') ∧ DkStep w W base n D N K wv wv' m' ∧ ¬ dkS D N K wv' bx ∧
    W.cell? ⟨w.heap.size + 1 + 1, 0, none⟩ = some (.int .i64 (k : Int)) ∧ W.cell? ⟨w.heap.size + 1 + 1 + 1, 0, none⟩ = some (.int .i64 e')
theorem cells_of_cell {w : World} {j o : Nat} {v : Value} (h : w.cell? ⟨j, o, none⟩ = some v) : ∃ cs t f, w.heap[j]? = some (.cells cs t f) := by
  unfold World.cell? at h
  split at h
  · exact ⟨_, _, _, by assumption⟩
  · cases h
theorem DkX.cellsS {w : World} {base n D N K : Nat} {wv : Value} {m : Dk} (h : DkX w base n D N K wv m) : ∀ j, dkS D N K wv j → ∃ cs t f, w.heap[j]? = some (.cells cs t f) := by
  have h64 := h.ok.pos
  rintro j (rfl | rfl | rfl | hj)
  · exact cells_of_cell h.c0
  · obtain ⟨v, hv⟩ := Option.isSome_iff_exists.1 (h.tn 0 (by omega)).1
    exact cells_of_cell hv
  · obtain ⟨v, hv⟩ := Option.isSome_iff_exists.1 (h.tk 0 (by omega)).1
    exact cells_of_cell hv
  · rcases h.row.2 with ⟨h1, _⟩ | ⟨g, cap, cur, h1, h2, h3, _⟩
    · rw [h1] at hj; cases hj
    · rw [h1] at hj
      simp only [Value.ownBlock, Option.some.injEq] at hj
      subst hj
      exact ⟨_, _, _, h3⟩
theorem not_noncells {w : World} {j : Nat} {cs : Array Value} {t : TypeId} {f : Nat × Nat} (h : w.heap[j]? = some (.cells cs t f)) : ¬ ∃ o, w.heap[j]? = some o ∧ o.isCells = false := by
  rintro ⟨o, ho, hc⟩
  rw [h] at ho; cases ho; cases hc
theorem abd_cell {A B : World} {S : Nat → Prop} {bx lo j o : Nat} {v : Value} (hF : FrB S A B) (hS : ∀ j, S j → j = bx ∨ (lo ≤ j ∧ ∃ o, A.heap[j]? = some o ∧ o.isCells = false)) (hj : j ≠ bx) (h : A.cell? ⟨j, o, none⟩ = some v) : B.cell? ⟨j, o, none⟩ = some v ∧ B.frozen? ⟨j, o, none⟩ = A.frozen? ⟨j, o, none⟩ := by
  obtain ⟨cs, t, f, hc⟩ := cells_of_cell h
  have hn : ¬ S j := fun e => by
    rcases hS j e with q | q
    · exact hj q
    · exact not_noncells hc q.2
  have hl := World.block_lt_of_cell? _ _ h
  exact ⟨(hF.cell hl hn).trans h, hF.frozen hl hn⟩
theorem DkStep.abd {w A B : World} {base n D N K : Nat} {wv wv' : Value} {m' : Dk} {bx lo : Nat} {S : Nat → Prop} (h : DkStep w A base n D N K wv wv' m') (hF : FrB S A B) (hS : ∀ j, S j → j = bx ∨ (lo ≤ j ∧ ∃ o, A.heap[j]? = some o ∧ o.isCells = false)) (hb : ¬ dkS D N K wv' bx) (hbw : w.heap.size ≤ bx) (hlo : w.heap.size ≤ lo) :
    DkStep w B base n D N K wv wv' m' := by
  refine ⟨h.x.frB hF fun j hj e => ?_, h.fr.trans hF fun j hj e => ?_, h.own⟩
  · rcases hS j e with q | q
    · exact hb (q ▸ hj)
    · obtain ⟨cs, t, f, hc⟩ := h.x.cellsS j hj
      exact not_noncells hc q.2
  · rcases hS j e with q | q <;> omega
end Go.Proofs.YtgjahnomafpnfaaGreatDoor

/- (*Disk).save: the long way, the walk. -/
namespace Go.Proofs.YtgjahnomafpnfaaGreatDoor
open Go.RowKit
attribute [local go_sem] Oper.semAt_some
theorem SvI.abd {w W0 : World} {base n D N K : Nat} {wv : Value} {bx lo : Nat} {b : ByteArray} {m : Dk} {at_ : Nat} (hb : w.heap.size + 4 ≤ bx) (hlo : w.heap.size ≤ lo) (pre : List Sec) (A B : World) (S : Nat → Prop) (h : SvI w W0 base n D N K wv bx b m at_ pre A) (hF : FrB S A B) (hS : ∀ j, S j → j = bx ∨ (lo ≤ j ∧ ∃ o, A.heap[j]? = some o ∧ o.isCells = false)) : SvI w W0 base n D N K wv bx b m at_ pre B := by
  obtain ⟨m', wv', post, h1, h2, h3, h4, h5, h6⟩ := h.ex
  have k := fun (j : Nat) (v : Value) (hj : j ≠ bx) (hc : A.cell? ⟨j, 0, none⟩ = some v) => abd_cell hF hS hj hc
  exact ⟨⟨m', wv', post, h1, h2, h3.abd hF hS h5 (by omega) hlo, h4, h5, h6⟩, (k _ _ (by omega) h.d).1, (k _ _ (by omega) h.a).1, (k _ _ (by omega) h.r).1, (k _ _ (by omega) h.e).1,
    (k _ _ (by omega) h.a).2.trans h.fa, (k _ _ (by omega) h.r).2.trans h.fr, (k _ _ (by omega) h.e).2.trans h.fe, Nat.le_trans h.sz hF.size⟩
theorem SvX.abd {w W0 : World} {base n D N K : Nat} {wv : Value} {bx lo : Nat} {b : ByteArray} {m : Dk} {at_ : Nat} (hb : w.heap.size + 4 ≤ bx) (hlo : w.heap.size ≤ lo) (A B : World) (S : Nat → Prop) (h : SvX w W0 base n D N K wv b m at_ bx A) (hF : FrB S A B) (hS : ∀ j, S j → j = bx ∨ (lo ≤ j ∧ ∃ o, A.heap[j]? = some o ∧ o.isCells = false)) : SvX w W0 base n D N K wv b m at_ bx B := by
  obtain ⟨m', wv', k, e', h1, h2, h3, h4, h5, h6⟩ := h.ex
  have k := fun (j : Nat) (v : Value) (hj : j ≠ bx) (hc : A.cell? ⟨j, 0, none⟩ = some v) => abd_cell hF hS hj hc
  exact ⟨m', wv', _, e', h1, h2, h3.abd hF hS h4 (by omega) hlo, h4, (k _ _ (by omega) h5).1, (k _ _ (by omega) h6).1⟩
/-- What save comes to. -/
def SavePost (w : World) (base n D N K : Nat) (wv : Value) (b : ByteArray) (m : Dk) (at_ : Nat) (e : Ending) (w' : World) : Prop :=
  ∃ (k : Nat) (e' : Int) (m' : Dk) (wv' : Value), e = .returned (.tuple #[.int .i64 k, .int .i64 e']) ∧ DkStep w w' base n D N K wv wv' m' ∧
        (k, e', m') = (if (saveGo n (piecesL b.data.toList) m at_).2.1 ≠ 0 then saveGo n (piecesL b.data.toList) m at_ else ((saveGo n (piecesL b.data.toList) m at_).1, (flushP (saveGo n (piecesL b.data.toList) m at_).2.2).1, (flushP (saveGo n (piecesL b.data.toList) m at_).2.2).2))
theorem save_leave {w W3 : World} {base n D N K : Nat} {wv : Value} {b : ByteArray} {m : Dk} {at_ : Nat} (x : Exit) (hx : x = .normal ∨ x = .ret) (a : Act) (Dd k : Nat) (e' : Int) (m' : Dk) (wv' : Value) (hd : a.defers = [{ target := Target.collected Dd, args := #[] }])
    (h6 : a.tmps.getD 6 undef = .pointer (some ⟨w.heap.size + 1 + 1, 0, none⟩)) (h7 : a.tmps.getD 7 undef = .pointer (some ⟨w.heap.size + 1 + 1 + 1, 0, none⟩))
    (hk : W3.heap[Dd]? = some (.deferred (some []))) (hw : w.heap.size ≤ Dd)
    (hr : W3.cell? ⟨w.heap.size + 1 + 1, 0, none⟩ = some (.int .i64 (k : Int))) (he : W3.cell? ⟨w.heap.size + 1 + 1 + 1, 0, none⟩ = some (.int .i64 e'))
    (hst : DkStep w W3 base n D N K wv wv' m')
    (hres : (k, e', m') = (if (saveGo n (piecesL b.data.toList) m at_).2.1 ≠ 0 then saveGo n (piecesL b.data.toList) m at_ else ((saveGo n (piecesL b.data.toList) m at_).1, (flushP (saveGo n (piecesL b.data.toList) m at_).2.2).1, (flushP (saveGo n (piecesL b.data.toList) m at_).2.2).2))) :
    bodyPostM Fence.wide 3 Tryz.prog Tryz.f149 (fun e w' => SavePost w base n D N K wv b m at_ e w') x a W3 := by
  have hF := FrB.putObj W3 Dd (.deferred none)
  have hne : ∀ {j o : Nat} {v : Value}, W3.cell? ⟨j, o, none⟩ = some v → j ≠ Dd := fun hc e => by
    obtain ⟨cs, t, f, hq⟩ := cells_of_cell hc
    rw [e, hk] at hq; cases hq
  have hr2 := (hF.cell (World.block_lt_of_cell? _ _ hr) (hne hr)).trans hr
  have he2 := (hF.cell (World.block_lt_of_cell? _ _ he) (hne he)).trans he
  have hst2 : DkStep w (W3.putObj Dd (.deferred none)) base n D N K wv wv' m' := by
    refine ⟨hst.x.frB hF fun j hj e => ?_, hst.fr.trans hF fun j hj e => by omega, hst.own⟩
    obtain ⟨cs, t, f, hc⟩ := hst.x.cellsS j hj
    rw [e, hk] at hc; cases hc
  have fin : LeavesInM Fence.wide 3 Tryz.prog Tryz.f149 a.tmps (fun e w' => SavePost w base n D N K wv b m at_ e w') a.defers .returning W3 := by
    rw [hd]
    refine ⟨by simp, .inl ⟨_, _, rfl, run_takeDeferred hk, ?_⟩⟩
    refine ⟨.tuple #[.int .i64 k, .int .i64 e'], ?_, k, e', m', wv', rfl, hst2, hres⟩
    generalize W3.putObj Dd (.deferred none) = W4 at hr2 he2
    have h6' : a.tmps[6]?.getD undef = .pointer (some ⟨w.heap.size + 1 + 1, 0, none⟩) := by rw [← h6]; simp
    have h7' : a.tmps[7]?.getD undef = .pointer (some ⟨w.heap.size + 1 + 1 + 1, 0, none⟩) := by rw [← h7]; simp
    simp only at hr2 he2
    simp [results, Tryz.results149, go_sem, h6', h7', hr2, he2]
  rcases hx with rfl | rfl <;> exact fin
theorem kc_boxes {w w2 w3 : World} {base n D N K bx : Nat} {wv wv' : Value} {m' : Dk} (h3 : DkStep w w2 base n D N K wv wv' m') (hF : FrB (dkS D N K wv') w2.drew w3) (hb : ¬ dkS D N K wv' bx) (hbx : w.heap.size + 4 ≤ bx) (hsz : w.heap.size + 4 ≤ w2.heap.size)
    (hbox : ∀ j, w.heap.size ≤ j ∧ j ≤ w.heap.size + 3 → ∃ cs t f, w2.heap[j]? = some (.cells cs t f)) (W' : World) (hW : FrB (fun j => w.heap.size ≤ j ∧ j ≤ w.heap.size + 3) w3 W') : Kc bx w2 W' := by
  refine ⟨fun j => dkS D N K wv' j ∨ (w.heap.size ≤ j ∧ j ≤ w.heap.size + 3), ?_, ?_, ?_⟩
  · exact ((FrB.ext (S := fun j => dkS D N K wv' j ∨ (w.heap.size ≤ j ∧ j ≤ w.heap.size + 3)) (Ext.drew w2)).trans hF (fun _ _ e => .inl e)).trans hW (fun _ _ e => .inr e)
  · rintro (e | e)
    · exact hb e
    · omega
  · rintro j (e | e)
    · exact h3.x.cellsS j e
    · exact hbox j e
theorem four_boxes {w W : World} {D : Nat} {v1 v2 v3 : Value} (hd : W.cell? ⟨w.heap.size, 0, none⟩ = some (.pointer (some ⟨D, 0, none⟩))) (ha : W.cell? ⟨w.heap.size + 1, 0, none⟩ = some v1) (hr : W.cell? ⟨w.heap.size + 1 + 1, 0, none⟩ = some v2) (he : W.cell? ⟨w.heap.size + 1 + 1 + 1, 0, none⟩ = some v3) :
    ∀ j, w.heap.size ≤ j ∧ j ≤ w.heap.size + 3 → ∃ cs t f, W.heap[j]? = some (.cells cs t f) := by
  intro j hj
  rcases (by omega : j = w.heap.size ∨ j = w.heap.size + 1 ∨ j = w.heap.size + 1 + 1 ∨ j = w.heap.size + 1 + 1 + 1) with rfl | rfl | rfl | rfl
  · exact cells_of_cell hd
  · exact cells_of_cell ha
  · exact cells_of_cell hr
  · exact cells_of_cell he
/-- A step of the disk stays one while boxes are written. -/
theorem DkStep.boxes {w w3 W' : World} {base n D N K : Nat} {wv wv3 : Value} {m2 : Dk} (h : DkStep w w3 base n D N K wv wv3 m2) (hn : ∀ j, dkS D N K wv3 j → ¬ (w.heap.size ≤ j ∧ j ≤ w.heap.size + 3)) (hW : FrB (fun j => w.heap.size ≤ j ∧ j ≤ w.heap.size + 3) w3 W') : DkStep w W' base n D N K wv wv3 m2 :=
  ⟨h.x.frB hW hn, h.fr.trans hW (fun j hj e => by omega), h.own⟩
set_option maxHeartbeats 1600000 in
set_option maxRecDepth 100000 in
theorem save_main {w : World} {base n D N K : Nat} {wv : Value} {m : Dk} (h : DkX w base n D N K wv m) (at_ : Nat) (b : ByteArray) (ha : at_ ≤ 1000000) (hb : b.size ≤ 1000000) (hd : m.down = false) (hf : at_ + (b.size + 58) / 59 ≤ n) (hn : m.writes.length + (piecesL b.data.toList).length ≤ 1000000) :
    Calls Tryz.prog 149 #[.pointer (some ⟨D, 0, none⟩), .int .i64 at_, .string b] w fun e w' =>
      SavePost w base n D N K wv b m at_ e w' := by
  have hms := h.ok.most
  have c0 := h.c0
  have c5 := h.c5
  rw [hd] at c5
  have hq : Int.tdiv ((b.size : Int) + 59 - 1) 59 = (((b.size + 58) / 59 : Nat) : Int) := by
    rw [Int.tdiv_eq_ediv_of_nonneg (by omega)]; omega
  have hw1 : IntKind.i64.wrap ((b.size : Int) + 59) = b.size + 59 := IntWalk.i64_in _ (by omega)
  have hw2 : IntKind.i64.wrap ((b.size : Int) + 59 - 1) = b.size + 59 - 1 := IntWalk.i64_in _ (by omega)
  have hlt : ¬ ((n : Int) < (at_ : Int) + (((b.size + 58) / 59 : Nat) : Int)) := by omega
  have hle : (b.size + 58) / 59 ≤ 1000000 := by omega
  generalize hQ : (b.size + 58) / 59 = q at *
  have hlt2 : decide ((n : Int) < (at_ : Int) + (q : Int)) = false := by simpa using hlt
  have hB := boxes_new w D at_
  have c0' := hB.ext.keep c0
  have c5' := hB.ext.keep c5
  have bd := hB.d
  have ba := hB.a
  have br := hB.r
  have be := hB.e
  have fr := hB.fr
  have fe := hB.fe
  have HB := Lib.hid hB
  have HX := Lib.hid h
  clear h hB c0 c5
  refine (callsIn_wide (n := 3)).1 (callsIn_of_wp_marks Tryz.func149 rfl trivial ?_)
  simp only [Tryz.ntmps149, List.size_toArray, List.length_cons, List.length_nil, Nat.reduceAdd, Nat.reduceSub, Array.replicate_succ, Array.replicate_zero, List.push_toArray, List.append_toArray, List.nil_append, List.cons_append]
  refine wpIn_wide.2 ?_
  go_wp2_with fail
  generalize ((((w.alloc (.cells #[.pointer (some ⟨D, 0, none⟩)] 32)).alloc (.cells #[.int .i64 at_] 3)).alloc (.cells #[.int .i64 0] 3)).alloc (.cells #[.int .i64 0] 38)) = W at c0' c5' bd ba br be fr fe HB ⊢
  go_quiet (fail)
  go_wp2_with (go_at_call 176; refine (pieces_any _ _).mono ?_; rintro e w' ⟨rfl, rfl⟩)
  have hs4 := HB.out.size
  have hbxw : ((W.drewN nq).alloc (boxB b)).heap[W.heap.size]? = some (boxB b) := World.alloc_heap_new (W.drewN nq) (boxB b)
  have hE0 : Ext W ((W.drewN nq).alloc (boxB b)) := (below_drewN (Below.refl _ _) nq).alloc (Nat.le_refl _) _
  have hsz0 : ((W.drewN nq).alloc (boxB b)).heap.size = W.heap.size + 1 := by simp
  have hI0 : SvI w ((W.drewN nq).alloc (boxB b)) base n D N K wv W.heap.size b m at_ [] ((W.drewN nq).alloc (boxB b)) := by
    have hst : DkStep w ((W.drewN nq).alloc (boxB b)) base n D N K wv wv m := (DkStep.refl HX.out).ext (HB.out.ext.trans hE0)
    refine ⟨⟨m, wv, piecesL b.data.toList, rfl, rfl, hst, by simp, fun e => ?_, fun j e => ?_⟩, hE0.keep bd, hE0.keep ba, hE0.keep br, hE0.keep be, ?_, ?_, ?_, Nat.le_refl _⟩
    · have := (HX.out.S_ge _ e).2; omega
    · have := (HX.out.S_ge _ e).2; omega
    · exact (hE0.frozen (p := ⟨w.heap.size + 1, 0, none⟩) (by show w.heap.size + 1 < W.heap.size; omega)).trans HB.out.fa
    · exact (hE0.frozen (p := ⟨w.heap.size + 1 + 1, 0, none⟩) (by show w.heap.size + 1 + 1 < W.heap.size; omega)).trans fr
    · exact (hE0.frozen (p := ⟨w.heap.size + 1 + 1 + 1, 0, none⟩) (by show w.heap.size + 1 + 1 + 1 < W.heap.size; omega)).trans fe
  have HI0 := Lib.hid hI0
  clear c0' c5' bd ba br be fr fe hI0 hE0
  generalize (W.drewN nq).alloc (boxB b) = W0 at hbxw hsz0 HI0 ⊢
  refine (wpIn_wide (n := 3)).1 ?_
  refine wpIn_rangeFunc_bx (F := Fence.wide) (n := 3) rfl (by omega) (gf := 194) (bx := W.heap.size) (box := boxB b) rfl trivial enters194 hbxw rfl (pieces_seq 2 W.heap.size b hb (by omega)) (fun pre W' => SvI w W0 base n D N K wv W.heap.size b m at_ pre W') (fun _ W' => SvX w W0 base n D N K wv b m at_ W.heap.size W')
    (fun pre A B S h hF hS => h.abd (by omega) (by omega) pre A B S hF hS) (fun pre A B S h hF hS => h.abd (by omega) (by omega) A B S hF hS) HI0.out ?round ?done ?stop
  case round =>
    intro l pre x post W1 KK hl0 hxs hi hbx hK
    have hx64 : x.length = 64 := piecesGo_64 _ _ _ x (by rw [show piecesGo b.data.toList.length 1 b.data.toList = piecesL b.data.toList from rfl, hxs]; simp)
    refine assign_laid 7 9 34 [_, _] _ _ rfl rfl rfl rfl rfl rfl rfl (by simp) (by decide) x hx64 rfl ?_
    intro w1 hE1 hr1 hlt1
    refine hK _ _ (Kc.ext hE1) ?_
    intro w2 o ho hoc hF2
    have hi1 := hi.abd (lo := w.heap.size) (by omega) (by omega) pre W1 w1 (fun _ => False) (FrB.ext hE1) (fun _ h => h.elim)
    have hi2 := hi1.abd (lo := w.heap.size) (by omega) (by omega) pre w1 w2 (fun j => j = l) hF2 (fun j e => .inr ⟨by omega, o, e ▸ ho, hoc⟩)
    have hlg : l ≠ W1.heap.size := fun e => by
      have := hr1 0 _ (List.getElem?_eq_getElem (by rw [scells_length]; omega))
      obtain ⟨cs, t, f, hc⟩ := cells_of_cell this
      rw [e, hc] at ho; cases ho; cases hoc
    have hr2 : w2.rangeAt W1.heap.size 0 (scells x) := fun j u hu => (hF2.cell hlt1 (fun e => hlg e.symm)).trans (hr1 j u hu)
    have hlt2 : W1.heap.size < w2.heap.size := Nat.lt_of_lt_of_le hlt1 hF2.size
    obtain ⟨m', wv', post', h1, h2, g3, h4, h5, h6⟩ := hi.ex
    have hgS : ¬ dkS D N K wv' W1.heap.size := fun e => by have := (g3.x.S_ge _ e).2; omega
    have h3 := (g3.ext hE1).abd (bx := W.heap.size) (lo := w.heap.size) hF2 (fun j e => .inr ⟨by omega, o, e ▸ ho, hoc⟩) h5 (by omega) (Nat.le_refl _)
    have hpost : post' = x :: post := by rw [hxs] at h1; exact (List.append_cancel_left h1).symm
    subst hpost
    have hpl : pre.length + 1 + post.length = (piecesL b.data.toList).length := by rw [hxs]; simp; omega
    have hW := Lib.hid (Write_any (h3.x.ext (Ext.drew w2)) ((at_ + pre.length : Nat) : Int) (.slice (some ⟨W1.heap.size, 0, none⟩) x.length 64) x (.inr ⟨W1.heap.size, 0, 64, rfl, by omega, by decide, hlt2, hr2⟩) (fun g e => by cases e; exact hgS) (by omega))
    have hsv : saveGo n (piecesL b.data.toList) m at_ = if (writeP m' n ((at_ : Int) + (pre.length : Int)) x).1 ≠ 0 then (at_ + pre.length, (writeP m' n ((at_ : Int) + (pre.length : Int)) x).1, (writeP m' n ((at_ : Int) + (pre.length : Int)) x).2) else saveGo n post (writeP m' n ((at_ : Int) + (pre.length : Int)) x).2 (at_ + pre.length + 1) := by
      rw [h2, show (at_ : Int) + (pre.length : Int) = ((at_ + pre.length : Nat) : Int) from by omega]; rfl
    have hlw := writeP_len m' n ((at_ : Int) + (pre.length : Int)) x
    rw [hx64, show (((at_ + pre.length : Nat) : Int)) = (at_ : Int) + (pre.length : Int) from by omega] at hW
    have hkeep : ∀ w3, FrB (dkS D N K wv') w2.drew w3 → w3.cell? ⟨w.heap.size, 0, none⟩ = some (.pointer (some ⟨D, 0, none⟩)) ∧ w3.cell? ⟨w.heap.size + 1, 0, none⟩ = some (.int .i64 ((at_ + pre.length : Nat) : Int)) ∧
        w3.cell? ⟨w.heap.size + 1 + 1, 0, none⟩ = some (.int .i64 0) ∧ w3.cell? ⟨w.heap.size + 1 + 1 + 1, 0, none⟩ = some (.int .i64 0) ∧ w3.frozen? ⟨w.heap.size + 1, 0, none⟩ = false ∧ w3.frozen? ⟨w.heap.size + 1 + 1, 0, none⟩ = false ∧ w3.frozen? ⟨w.heap.size + 1 + 1 + 1, 0, none⟩ = false := by
      intro w3 hfr
      have hl := fun (i : Nat) (hi : i ≤ 3) => fun e => h6 (w.heap.size + i) e (by omega)
      have hW1 : w.heap.size + 4 < w2.heap.size := by have := hi2.sz; omega
      exact ⟨(hfr.cell (g := w.heap.size) (by show w.heap.size < w2.heap.size; omega) (hl 0 (by omega))).trans hi2.d, (hfr.cell (g := w.heap.size + 1) (by show w.heap.size + 1 < w2.heap.size; omega) (hl 1 (by omega))).trans hi2.a,
        (hfr.cell (g := w.heap.size + 1 + 1) (by show w.heap.size + 1 + 1 < w2.heap.size; omega) (hl 2 (by omega))).trans hi2.r, (hfr.cell (g := w.heap.size + 1 + 1 + 1) (by show w.heap.size + 1 + 1 + 1 < w2.heap.size; omega) (hl 3 (by omega))).trans hi2.e,
        (hfr.frozen (g := w.heap.size + 1) (by show w.heap.size + 1 < w2.heap.size; omega) (hl 1 (by omega))).trans hi2.fa, (hfr.frozen (g := w.heap.size + 1 + 1) (by show w.heap.size + 1 + 1 < w2.heap.size; omega) (hl 2 (by omega))).trans hi2.fr, (hfr.frozen (g := w.heap.size + 1 + 1 + 1) (by show w.heap.size + 1 + 1 + 1 < w2.heap.size; omega) (hl 3 (by omega))).trans hi2.fe⟩
    have bd := hi2.d
    have ba := hi2.a
    have hz2 := hi2.sz
    have HFB := Lib.hid (four_boxes hi2.d hi2.a hi2.r hi2.e)
    generalize writeP m' n ((at_ : Int) + (pre.length : Int)) x = r1 at *
    obtain ⟨e1, m2⟩ := r1
    simp only at hsv hlw hW
    have HSV := Lib.hid hsv
    clear hsv
    have HKp := Lib.hid hkeep
    have H3 := Lib.hid h3
    have H2 := Lib.hid h2
    have H4 := Lib.hid h4
    have H5 := Lib.hid h5
    have H6 := Lib.hid h6
    have HR2 := Lib.hid hr2
    clear hkeep h3 h2 h4 h5 h6 hr2 hi2 hi1 hi g3 hr1 hK ho hF2 hE1 hgS
    have h1n : 1 ≤ 3 - 1 - 1 := by omega
    gi_wp2
    gi_region_with (refine ⟨trivial, ?_⟩; gi_at_call 36; refine (CallsIn.inRound l (callsIn_wide.2 hW.out)).mono ?_; rintro e w3 ⟨rfl, wv3, hst⟩; obtain ⟨bd3, ba3, br3, be3, fa3, fr3, fe3⟩ := HKp.out _ hst.fr; have HST := Lib.hid hst; clear hst)
    all_goals
      have hst2 := (H3.out.ext (Ext.drew w2)).trans HST.out
      have hd2 : w2.drew.heap.size = w2.heap.size := rfl
      have hno : ∀ j, dkS D N K wv3 j → ¬ (w.heap.size ≤ j ∧ j ≤ w.heap.size + 3) ∧ j ≠ W.heap.size := fun j hj => by
        rcases hj with e | e | e | e
        · have := HX.out.lt.1; omega
        · have := HX.out.lt.2.1; omega
        · have := HX.out.lt.2.2; omega
        · rcases HST.out.own _ e with q2 | q2
          · omega
          · exact ⟨H6.out _ (.inr (.inr (.inr q2))), fun e2 => H5.out (e2 ▸ .inr (.inr (.inr q2)))⟩
      have HST2 := Lib.hid (And.intro hst2 hno)
      clear hst2 hno
      by_cases he : e1 = 0
      · subst he
        have h0 := HSV.out
        rw [if_neg (by simp)] at h0
        have HSV2 := Lib.hid h0
        clear h0
        have hsl : ((at_ : Int) + (pre.length : Int)) + 1 = ((at_ + (pre.length + 1) : Nat) : Int) := by omega
        have hwq : IntKind.i64.wrap ((at_ : Int) + (pre.length : Int) + 1) = (at_ : Int) + (pre.length : Int) + 1 := IntWalk.i64_in _ (by omega)
        gi_wp2
        have hW' : FrB (fun j => w.heap.size ≤ j ∧ j ≤ w.heap.size + 3) w3 (w3.setCell ⟨w.heap.size + 1, 0, none⟩ (.int .i64 ((at_ : Int) + ((pre.length : Int) + 1)))) := FrB.setCell _ _ _ _ ⟨by show w.heap.size ≤ w.heap.size + 1; omega, by show w.heap.size + 1 ≤ w.heap.size + 3; omega⟩
        have hs3 := HST.out.fr.size
        have hlx : (pre ++ [x]).length = pre.length + 1 := by simp
        refine ⟨kc_boxes H3.out HST.out.fr H5.out (by omega) (by omega) HFB.out _ hW', ⟨⟨m2, wv3, post, by rw [hxs]; simp, by rw [hlx]; exact HSV2.out, HST2.out.1.boxes (fun j hj => (HST2.out.2 j hj).1) hW', by have := H4.out; omega, fun e => (HST2.out.2 _ e).2 rfl, fun j hj => (HST2.out.2 j hj).1⟩, ?_, ?_, ?_, ?_, ?_, ?_, ?_, ?_⟩⟩
        · exact (World.cell?_setCell_far _ _ _ _ (by show w.heap.size + 1 ≠ w.heap.size; omega)).trans bd3
        · rw [World.cell?_setCell_same _ _ _ ba3, hlx]
          simp
        · exact (World.cell?_setCell_far _ _ _ _ (by show w.heap.size + 1 ≠ w.heap.size + 1 + 1; omega)).trans br3
        · exact (World.cell?_setCell_far _ _ _ _ (by show w.heap.size + 1 ≠ w.heap.size + 1 + 1 + 1; omega)).trans be3
        · rw [World.frozen?_setCell]; exact fa3
        · rw [World.frozen?_setCell]; exact fr3
        · rw [World.frozen?_setCell]; exact fe3
        · simp only [World.size_setCell]; omega
      · have hne : (e1 != 0) = true := by simpa using he
        have h0 := HSV.out
        rw [if_pos he] at h0
        have HSV2 := Lib.hid h0
        clear h0
        gi_wp2
        have hW' : FrB (fun j => w.heap.size ≤ j ∧ j ≤ w.heap.size + 3) w3 ((w3.setCell ⟨w.heap.size + 1 + 1, 0, none⟩ (.int .i64 ((at_ : Int) + (pre.length : Int)))).setCell ⟨w.heap.size + 1 + 1 + 1, 0, none⟩ (.int .i64 e1)) :=
          (FrB.setCell (fun j => w.heap.size ≤ j ∧ j ≤ w.heap.size + 3) _ _ _ ⟨by show w.heap.size ≤ w.heap.size + 1 + 1; omega, by show w.heap.size + 1 + 1 ≤ w.heap.size + 3; omega⟩).trans (FrB.setCell (fun j => w.heap.size ≤ j ∧ j ≤ w.heap.size + 3) _ _ _ ⟨by show w.heap.size ≤ w.heap.size + 1 + 1 + 1; omega, by show w.heap.size + 1 + 1 + 1 ≤ w.heap.size + 3; omega⟩) (fun _ _ e => e)
        refine ⟨kc_boxes H3.out HST.out.fr H5.out (by omega) (by omega) HFB.out _ hW', ⟨⟨m2, wv3, at_ + pre.length, e1, he, HSV2.out, HST2.out.1.boxes (fun j hj => (HST2.out.2 j hj).1) hW', fun e => (HST2.out.2 _ e).2 rfl, ?_, ?_⟩⟩⟩
        · rw [World.cell?_setCell_far _ _ _ _ (by show w.heap.size + 1 + 1 + 1 ≠ w.heap.size + 1 + 1; omega), World.cell?_setCell_same _ _ _ br3]
          simp
        · exact World.cell?_setCell_same _ _ _ ((World.cell?_setCell_far _ _ _ _ (by show w.heap.size + 1 + 1 ≠ w.heap.size + 1 + 1 + 1; omega)).trans be3)
  case done =>
    intro Dd W1 hDd hi hk
    obtain ⟨m', wv', post, h1, h2, h3, h4, h5, h6⟩ := hi.ex
    have hp : post = [] := by
      have := congrArg List.length h1
      rw [List.length_append] at this
      exact List.eq_nil_of_length_eq_zero (by omega)
    subst hp
    have H3 := Lib.hid h3
    have hF := Lib.hid (Flush_any (h3.x.ext (Ext.drew W1)) (by omega))
    have bd := hi.d
    have ba := hi.a
    have br := hi.r
    have be := hi.e
    have fr := hi.fr
    have fe := hi.fe
    have hkeep : ∀ w2, FrB (dkS D N K wv') W1.drew w2 → w2.cell? ⟨w.heap.size, 0, none⟩ = some (.pointer (some ⟨D, 0, none⟩)) ∧ w2.cell? ⟨w.heap.size + 1, 0, none⟩ = some (.int .i64 ((at_ + (piecesL b.data.toList).length : Nat) : Int)) ∧
        w2.cell? ⟨w.heap.size + 1 + 1, 0, none⟩ = some (.int .i64 0) ∧ w2.cell? ⟨w.heap.size + 1 + 1 + 1, 0, none⟩ = some (.int .i64 0) ∧ w2.frozen? ⟨w.heap.size + 1 + 1, 0, none⟩ = false ∧ w2.frozen? ⟨w.heap.size + 1 + 1 + 1, 0, none⟩ = false := by
      intro w2 hfr
      have hl := fun (i : Nat) (hi : i ≤ 3) => fun e => h6 (w.heap.size + i) e (by omega)
      have hW1 : w.heap.size + 4 < W1.heap.size := by have := hi.sz; omega
      exact ⟨(hfr.cell (g := w.heap.size) (by show w.heap.size < W1.heap.size; omega) (hl 0 (by omega))).trans bd, (hfr.cell (g := w.heap.size + 1) (by show w.heap.size + 1 < W1.heap.size; omega) (hl 1 (by omega))).trans ba,
        (hfr.cell (g := w.heap.size + 1 + 1) (by show w.heap.size + 1 + 1 < W1.heap.size; omega) (hl 2 (by omega))).trans br, (hfr.cell (g := w.heap.size + 1 + 1 + 1) (by show w.heap.size + 1 + 1 + 1 < W1.heap.size; omega) (hl 3 (by omega))).trans be,
        (hfr.frozen (g := w.heap.size + 1 + 1) (by show w.heap.size + 1 + 1 < W1.heap.size; omega) (hl 2 (by omega))).trans fr, (hfr.frozen (g := w.heap.size + 1 + 1 + 1) (by show w.heap.size + 1 + 1 + 1 < W1.heap.size; omega) (hl 3 (by omega))).trans fe⟩
    have h2' : saveGo n (piecesL b.data.toList) m at_ = (at_ + (piecesL b.data.toList).length, 0, m') := h2
    have HS := Lib.hid h2'
    have HK := Lib.hid hk
    have HKp := Lib.hid hkeep
    have H6 := Lib.hid h6
    have hsz1 := hi.sz
    clear h1 h2 h2' h3 h5 h6 hi hk hkeep
    generalize (piecesL b.data.toList).length = lp at *
    go_wp2
    go_region_with (go_at_call 37; refine hF.out.mono ?_; rintro e w2 ⟨rfl, wv2, hst⟩; obtain ⟨bd2, ba2, br2, be2, fr2, fe2⟩ := HKp.out _ hst.fr; have HST := Lib.hid hst; clear hst)
    all_goals
      go_wp2
      have hle0 : w.heap.size ≤ Dd := by omega
      have hD1 : Dd < W1.heap.size := (Array.getElem?_eq_some_iff.1 HK.out).1
      have hnS : ¬ dkS D N K wv' Dd := fun e => by
        obtain ⟨cs, t, f, hc⟩ := H3.out.x.cellsS Dd e
        rw [HK.out] at hc; cases hc
      have hk2 : w2.heap[Dd]? = some (.deferred (some [])) := (HST.out.fr.block Dd (by show Dd < W1.heap.size; exact hD1) hnS).trans HK.out
      have hne2 : ∀ i, i ≤ 3 → Dd ≠ w.heap.size + i := fun i hi => by omega
      refine save_leave (W3 := (w2.setCell ⟨w.heap.size + 1 + 1, 0, none⟩ (.int .i64 ((at_ : Int) + (lp : Int)))).setCell ⟨w.heap.size + 1 + 1 + 1, 0, none⟩ (.int .i64 (flushP m').1)) _ (by first | exact .inl rfl | exact .inr rfl) _ Dd (at_ + lp) (flushP m').1 (flushP m').2 wv2 rfl rfl rfl ?_ hle0 ?_ ?_ ?_ ?_
      · rw [Below.heap_setCell _ _ _ _ (hne2 3 (by omega)), Below.heap_setCell _ _ _ _ (hne2 2 (by omega))]; exact hk2
      · rw [World.cell?_setCell_far _ _ _ _ (by show w.heap.size + 1 + 1 + 1 ≠ w.heap.size + 1 + 1; omega), World.cell?_setCell_same _ _ _ br2]
        simp
      · exact World.cell?_setCell_same _ _ _ ((World.cell?_setCell_far _ _ _ _ (by show w.heap.size + 1 + 1 ≠ w.heap.size + 1 + 1 + 1; omega)).trans be2)
      · have hst := (H3.out.ext (Ext.drew W1)).trans HST.out
        have hno : ∀ i, i ≤ 3 → ¬ dkS D N K wv2 (w.heap.size + i) := fun i hi e => by
          have hS := HST.out
          rcases e with e | e | e | e
          · have := HX.out.lt.1; omega
          · have := HX.out.lt.2.1; omega
          · have := HX.out.lt.2.2; omega
          · rcases hst.own _ e with q | q
            · rcases hS.own _ e with q2 | q2
              · have : W1.drew.heap.size = W1.heap.size := rfl
                omega
              · exact H6.out _ (.inr (.inr (.inr q2))) (by omega)
            · have := (HX.out.row.lt _ q).2; omega
        have hx2 := (hst.x.frB (FrB.setCell (fun j => j = w.heap.size + 2) w2 ⟨w.heap.size + 1 + 1, 0, none⟩ (.int .i64 ((at_ : Int) + (lp : Int))) rfl) (fun j hj e => hno 2 (by omega) (e ▸ hj)))
        have hx3 := (hx2.frB (FrB.setCell (fun j => j = w.heap.size + 3) _ ⟨w.heap.size + 1 + 1 + 1, 0, none⟩ (.int .i64 (flushP m').1) rfl) (fun j hj e => hno 3 (by omega) (e ▸ hj)))
        exact ⟨hx3, (hst.fr.trans (FrB.setCell (fun j => j = w.heap.size + 2) w2 ⟨w.heap.size + 1 + 1, 0, none⟩ (.int .i64 ((at_ : Int) + (lp : Int))) rfl) (fun j hj e => by omega)).trans (FrB.setCell (fun j => j = w.heap.size + 3) _ ⟨w.heap.size + 1 + 1 + 1, 0, none⟩ (.int .i64 (flushP m').1) rfl) (fun j hj e => by omega), hst.own⟩
      · rw [HS.out, if_neg (by simp)]
  case stop =>
    intro Dd pre W1 hDd hx hk
    obtain ⟨m', wv', k', e', h1, h2, h3, h4, h5, h6⟩ := hx.ex
    have HH := Lib.hid (And.intro h1 (And.intro h2 h3))
    have HKk := Lib.hid hk
    clear h1 h2 h3 h4 hx hk
    refine wpIn_wide.2 ?_
    go_wp2
    refine save_leave (W3 := W1) _ (.inr rfl) _ Dd k' e' m' wv' rfl rfl rfl HKk.out (by omega) h5 h6 HH.out.2.2 ?_
    rw [HH.out.2.1, if_pos HH.out.1]
end Go.Proofs.YtgjahnomafpnfaaGreatDoor

/- (*Disk).save, every way. -/
namespace Go.Proofs.YtgjahnomafpnfaaGreatDoor
open Go.RowKit
theorem save_any {w : World} {base n D N K : Nat} {wv : Value} {m : Dk} (h : DkX w base n D N K wv m) (at_ : Nat) (b : ByteArray) (ha : at_ ≤ 1000000) (hb : b.size ≤ 1000000) (hn : m.writes.length + (piecesL b.data.toList).length ≤ 1000000) :
    Calls Tryz.prog 149 #[.pointer (some ⟨D, 0, none⟩), .int .i64 at_, .string b] w fun e w' =>
      e = .returned (.tuple #[.int .i64 ((saveP n m at_ b.data.toList).1 : Int), .int .i64 (saveP n m at_ b.data.toList).2.1]) ∧ ∃ wv', DkStep w w' base n D N K wv wv' (saveP n m at_ b.data.toList).2.2 := by
  unfold saveP
  cases hd : m.down
  case true =>
    rw [if_pos rfl]
    refine (save_down h at_ b hd).mono ?_
    rintro e w' ⟨rfl, hE⟩
    exact ⟨rfl, wv, (DkStep.refl h).ext hE⟩
  case false =>
    rw [if_neg (by decide), bsz]
    by_cases hf : n < at_ + (b.size + 58) / 59
    · rw [if_pos hf]
      refine (save_full h at_ b ha hb hd hf).mono ?_
      rintro e w' ⟨rfl, hE⟩
      exact ⟨rfl, wv, (DkStep.refl h).ext hE⟩
    · rw [if_neg hf]
      refine (save_main h at_ b ha hb hd (by omega) hn).mono ?_
      rintro e w' ⟨k, e', m', wv', rfl, hst, hres⟩
      rw [← hres]
      exact ⟨rfl, wv', hst⟩
theorem piecesGo_len : ∀ (k : Nat) (mark : UInt8) (l : List UInt8), (piecesGo k mark l).length ≤ k
  | 0, _, _ => by simp [piecesGo]
  | k + 1, mark, l => by
    unfold piecesGo
    split
    · simp
    · have := piecesGo_len k 2 (l.drop 59)
      simp; omega
theorem piecesL_len (b : ByteArray) : (piecesL b.data.toList).length ≤ b.size := piecesGo_len _ _ _
end Go.Proofs.YtgjahnomafpnfaaGreatDoor
