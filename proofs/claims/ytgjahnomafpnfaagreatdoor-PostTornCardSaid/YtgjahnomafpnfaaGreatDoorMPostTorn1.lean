/- The law PostTorn: its row and its tied card: for every input the law returns true; no condition but what the row lists (package-level variables as the program's text lays them). -/
import Derived.Test.YtgjahnomafpnfaaGreatDoorMB8
import Derived.Carry
import Derived.ChangeSlices
import Derived.ChangeMaps5
import Derived.OpenShut
import Derived.Test.YtgjahnomafpnfaaGreatDoorTie
import Derived.Test.YtgjahnomafpnfaaGreatDoorCards
import Derived.SevenTiedAt
set_option linter.unusedVariables false
set_option linter.unusedSimpArgs false
/- Arguments that nobody wrote read as they did; slices of bytes among the arguments. -/
namespace Go.Proofs.YtgjahnomafpnfaaGreatDoor
open Go.ChangeShapes Go.WideShapes Go.ChangeAt Go.RowKit
theorem laidOutT : laidOutB Tryz.prog = true := by kernel_rfl
/-- One closed fact: each of these types can be read and is a row of the table. -/
def typesRowed (P : Program) (ts : List TypeId) : Bool := ts.all fun t => P.readableRec t && decide (t < P.types.size)
theorem trodAll_staysP {P : Program} (hl : laidOutB P = true) {H : Type} {enc : TypeId × Value → H} {W W' : World} (hb : Below W.heap.size W W') : ∀ {ts : List TypeId} {vs : List Value} {ds : List (DataW H)} {ps : List MemPlace}, typesRowed P ts = true →
    DataW.TrodAll enc P W 0 (fun _ => true) true ts vs ds ps → (∀ x ∈ ps, x.block < W.heap.size) → DataW.TrodAll enc P W' 0 (fun b => decide (b < W.heap.size)) true ts vs ds ps
  | [], [], [], _, _, h, _ => h
  | [], [], _ :: _, _, _, h, _ => h.elim
  | [], _ :: _, _, _, _, h, _ => h.elim
  | _ :: _, [], _, _, _, h, _ => h.elim
  | _ :: _, _ :: _, [], _, _, h, _ => h.elim
  | t :: ts, v :: vs, d :: ds, ps, hr, h, hlt => by
    obtain ⟨p, q, h1, h2, rfl⟩ := h
    simp only [typesRowed, List.all_cons, Bool.and_eq_true, decide_eq_true_eq] at hr
    exact ⟨p, q, Below.trod hl hr.1.1 hr.1.2 h1 hb (fun x hx => hlt x (List.mem_append_left _ hx)), trodAll_staysP hl hb (by simpa [typesRowed] using hr.2) h2 (fun x hx => hlt x (List.mem_append_right _ hx)), rfl⟩
theorem trodAll_stays {H : Type} {enc : TypeId × Value → H} {W W' : World} (hb : Below W.heap.size W W') {ts : List TypeId} {vs : List Value} {ds : List (DataW H)} {ps : List MemPlace} (hr : typesRowed Tryz.prog ts = true)
    (h : DataW.TrodAll enc Tryz.prog W 0 (fun _ => true) true ts vs ds ps) (hlt : ∀ x ∈ ps, x.block < W.heap.size) : DataW.TrodAll enc Tryz.prog W' 0 (fun b => decide (b < W.heap.size)) true ts vs ds ps := trodAll_staysP laidOutT hb hr h hlt
/-- A slice's address is a place in memory. -/
theorem okWide_has {P : Program} {w : World} {base : Nat} {t e : TypeId} {a : Addr} {len cap : Nat} (ht : P.underlying t = some (.slice e)) (h : Value.okWide P w .any base t (.slice (some a) len cap)) : a.spot = none ∧ a.block < w.heap.size := by
  simp only [Value.okWide, ht, Cell.okWide, Cell.ok, World.has] at h
  obtain ⟨_, _, _, h1, row, cells, h2, _⟩ := h
  refine ⟨h1, ?_⟩
  unfold World.shape? at h2
  cases hh : w.heap[a.block]? with
  | none => rw [hh] at h2; cases h2
  | some o => exact (Array.getElem?_eq_some_iff.1 hh).1
theorem cells5T : Tryz.prog.cellsOf 5 = 1 := by kernel_rfl
theorem slB_ofP {P : Program} {t e : TypeId} (ht : P.underlying t = some (.slice e)) (he : P.underlying e = some (.int .u8)) (hc : P.cellsOf e = 1) {H : Type} {enc : TypeId × Value → H} {w : World} {base : Nat} {v : Value} {d : DataW H} {p : List MemPlace} (hval : Value.okWide P w .any base t v) (hd : DataW.Trod enc P w 0 (fun _ => true) true t v d p) : ∃ bs, SlB w v bs := by
  obtain ⟨a0, len, cap, rfl⟩ := okWide_slice ht hval
  obtain ⟨fuel, hf⟩ := hd
  rcases open_ints ht he hc hf with ⟨hcs, hx⟩ | ⟨a, len', cap', zs, hcs, _, hl, hm, hz, hx, hcell, hwz⟩
  · simp [Value.cells] at hcs
    obtain ⟨rfl, rfl, rfl⟩ := hcs
    exact ⟨[], .inl ⟨rfl, rfl⟩⟩
  · simp [Value.cells] at hcs
    obtain ⟨rfl, rfl, rfl⟩ := hcs
    obtain ⟨hs, hb⟩ := okWide_has ht hval
    obtain ⟨b, off, spot⟩ := a
    simp only at hs hb
    subst hs
    simp only [if_true] at hz
    have hlen : (zs.take len).length = len := by rw [List.length_take, hz]; omega
    refine ⟨(zs.take len).map (fun z => UInt8.ofNat z.toNat), .inr ⟨b, off, cap, by rw [List.length_map, hlen], by rw [List.length_map, hlen]; exact hl, hm, hb, fun j u hu => ?_⟩⟩
    unfold scells at hu
    rw [List.getElem?_map, List.getElem?_map] at hu
    cases hj : (zs.take len)[j]? with
    | none => rw [hj] at hu; cases hu
    | some z =>
      rw [hj] at hu
      simp only [Option.map_some, Option.some.injEq] at hu
      have hzz : zs[j]? = some z := by
        rw [List.getElem?_take] at hj
        split at hj
        · exact hj
        · cases hj
      have hjl := (List.getElem?_eq_some_iff.1 hzz).1
      have hb8 := bounds_u8 (hwz z (List.mem_of_getElem? hzz))
      have := hcell j hjl
      rw [Addr.add_mid, show zs.getD j 0 = z from by rw [List.getD_eq_getElem?_getD, hzz]; rfl] at this
      rw [this, ← hu]
      congr 2
      rw [UInt8.toNat_ofNat']
      omega
set_option maxRecDepth 100000 in
theorem slB_of {H : Type} {enc : TypeId × Value → H} {w : World} {base : Nat} {v : Value} {d : DataW H} {p : List MemPlace} (hval : Value.okWide Tryz.prog w .any base 69 v) (hd : DataW.Trod enc Tryz.prog w 0 (fun _ => true) true 69 v d p) : ∃ bs, SlB w v bs :=
  slB_ofP (P := Tryz.prog) (t := 69) (e := 5) Tryz.underlying69 Tryz.underlying5 cells5T hval hd
end Go.Proofs.YtgjahnomafpnfaaGreatDoor

/- (*Disk).Read, Down, Stop, Crash. -/
namespace Go.Proofs.YtgjahnomafpnfaaGreatDoor
open Go.RowKit
set_option maxHeartbeats 400000 in
set_option maxRecDepth 100000 in
theorem Down_any {w : World} {base n D N K : Nat} {wv : Value} {m : Dk} (h : DkX w base n D N K wv m) :
    Calls Tryz.prog 42 #[.pointer (some ⟨D, 0, none⟩)] w fun e w' => e = .returned (.bool m.down) ∧ w' = w := by
  have c5 := h.c5
  clear h
  go_enter Tryz.func42, Tryz.ntmps42
  go_wp2
  go_ret
  exact ⟨rfl, rfl⟩
end Go.Proofs.YtgjahnomafpnfaaGreatDoor

/- (*Disk).Crash. -/
namespace Go.Proofs.YtgjahnomafpnfaaGreatDoor
open Go.RowKit
/-- What a crash leaves of a sector that was being written: the first c bytes are new. -/
def mixS (c : Nat) (s t : Sec) : Sec := s.take c ++ t.drop c
theorem mixS_length {c : Nat} {s t : Sec} (hs : s.length = 64) (ht : t.length = 64) (hc : c ≤ 64) : (mixS c s t).length = 64 := by simp [mixS]; omega
def clampN (c : Int) : Nat := (min (max c 0) 64).toNat
theorem clampN_le (c : Int) : clampN c ≤ 64 := by unfold clampN; omega
def crashStep (K : List Sec) (x : (Nat × Sec) × Int) : List Sec := K.set x.1.1 (mixS (clampN x.2) x.1.2 (K.getD x.1.1 []))
def crashK (kept : List Sec) (xs : List ((Nat × Sec) × Int)) : List Sec := xs.foldl crashStep kept
theorem crashK_snoc (kept : List Sec) (xs : List ((Nat × Sec) × Int)) (k : Nat) (x : (Nat × Sec) × Int) (h : xs[k]? = some x) : crashK kept (xs.take (k + 1)) = crashStep (crashK kept (xs.take k)) x := by
  rw [List.take_add_one, h]
  simp [crashK]
theorem take_end {α : Type} (xs : List α) (k : Nat) (h : xs.length ≤ k) : xs.take (k + 1) = xs.take k := by rw [List.take_of_length_le h, List.take_of_length_le (by omega)]
def crashP (m : Dk) (keep : List Int) : Dk := { m with kept := crashK m.kept (m.writes.zip keep), now := crashK m.kept (m.writes.zip keep), writes := [], stops := false, down := false }
theorem SlI.frB {w w' : World} {v : Value} {xs : List Int} (h : SlI w v xs) {S : Nat → Prop} (hF : FrB S w w') (hn : ∀ g, v.ownBlock = some g → ¬ S g) : SlI w' v xs := by
  rcases h with h | ⟨b, off, cap, h1, h2, h3, h4, h5⟩
  · exact .inl h
  · exact .inr ⟨b, off, cap, h1, h2, h3, Nat.lt_of_lt_of_le h4 hF.size, fun j u hu => (hF.cell h4 (hn b (by rw [h1]; rfl))).trans (h5 j u hu)⟩
theorem SlI.at {w : World} {a : Option Addr} {c : Nat} {xs : List Int} (h : SlI w (.slice a xs.length c) xs) {k : Nat} {x : Int} (hk : xs[k]? = some x) : ∃ q off, a = some ⟨q, off, none⟩ ∧ w.cell? ⟨q, off + k, none⟩ = some (.int .i64 x) := by
  obtain ⟨ao, cap, h1, h2⟩ := h.open
  simp only [Value.slice.injEq] at h1
  obtain ⟨b, off, h3, h4⟩ := h2 k x hk
  exact ⟨b, off, h1.1.trans h3, h4⟩
section
variable {w : World} {base n D N K : Nat} {wv : Value} {m : Dk}
theorem range_setPart {w : World} {g i k : Nat} {l : List Sec} (hl : ∀ s ∈ l, s.length = 64) (h : w.rangeAt g 0 (flatS l)) (ht : w.there g 0 (k * 64)) (hk : l.length = k) (s : Sec) (hs : s.length = 64) (hi : i < k) (c : Nat) (hc : c ≤ 64) : (w.setCells g (i * 64) (scells (s.take c))).rangeAt g 0 (flatS (l.set i (mixS c s (l.getD i [])))) := by
  have hi' : l[i]? = some (l.getD i []) := by rw [List.getD_eq_getElem?_getD, List.getElem?_eq_getElem (by omega)]; rfl
  have ho := hl _ (List.mem_of_getElem? hi')
  have hm := mixS_length hs ho hc
  generalize l.getD i [] = old at hi' ho hm ⊢
  intro j v hv
  rw [flatS_set l hl i _ hm (by omega) j] at hv
  rw [Nat.zero_add]
  split at hv
  · rename_i hj
    by_cases hjc : j - i * 64 < c
    · have hl : j - i * 64 < (scells (s.take c)).length := by rw [scells_length, List.length_take]; omega
      have := World.cell?_setCells_in g (scells (s.take c)) (i * 64) w (fun q hq => by
        rw [scells_length, List.length_take] at hq
        have := (ht (i * 64 + q) (by omega)).1
        rwa [Nat.zero_add] at this) (j - i * 64) hl
      rw [show i * 64 + (j - i * 64) = j from by omega] at this
      rw [this, ← hv, ← List.getElem?_eq_getElem hl]
      simp only [mixS, scells, List.map_append]
      rw [List.getElem?_append_left (by simp; omega)]
    · rw [World.cell?_setCells_out g (scells (s.take c)) (i * 64) w ⟨g, j, none⟩ (fun _ _ => by rw [scells_length, List.length_take, hs]; show j < i * 64 ∨ i * 64 + min c 64 ≤ j; omega)]
      have := h j v (by
        rw [show j = i * 64 + (j - i * 64) from by omega, flatS_get l hl i (j - i * 64) old hi' (by omega), ← hv]
        simp only [mixS, scells, List.map_append, List.map_drop]
        rw [List.getElem?_append_right (by simp; omega), List.getElem?_drop]
        congr 1
        simp; omega)
      rwa [Nat.zero_add] at this
  · rename_i hj
    rw [World.cell?_setCells_out g (scells (s.take c)) (i * 64) w ⟨g, j, none⟩ (fun _ _ => by rw [scells_length, List.length_take, hs]; show j < i * 64 ∨ i * 64 + min c 64 ≤ j; omega)]
    simpa using h j v hv
/-- The first bytes of a sector are written. -/
theorem DkX.setKeptPart (h : DkX w base n D N K wv m) (i : Nat) (s : Sec) (hs : s.length = 64) (hi : i < n) (c : Nat) (hc : c ≤ 64) : DkX (w.setCells K (i * 64) (scells (s.take c))) base n D N K wv { m with kept := m.kept.set i (mixS c s (m.kept.getD i [])) } := by
  have hF := FrB.setCells (fun j => j = K) w K (i * 64) (scells (s.take c)) rfl
  have kD := fun o => hF.cell (o := o) h.lt.1 h.ne.2.1
  have hi' : m.kept[i]? = some (m.kept.getD i []) := by rw [List.getD_eq_getElem?_getD, List.getElem?_eq_getElem (by have := h.ok.kept; omega)]; rfl
  refine ⟨⟨h.ok.now, by simpa using h.ok.kept, h.ok.nows, fun x hx => ?_, h.ok.ats, h.ok.pos, h.ok.most, h.ok.calls, h.ok.i64⟩, (kD 0).trans h.c0, (kD 1).trans h.c1, (kD 2).trans h.c2, (kD 3).trans h.c3, (kD 4).trans h.c4, (kD 5).trans h.c5, fun i hi => (hF.frozen h.lt.1 h.ne.2.1).trans (h.free i hi),
    fun j v hv => (hF.cell h.lt.2.1 h.ne.2.2).trans (h.rn j v hv), fun j hj => ?_, range_setPart h.ok.kepts h.rk h.tk h.ok.kept s hs hi c hc, World.there_setCells h.tk _ _ _, owns_setCells h.row h.off.2.2 _ _, h.ge, by rw [size_setCells]; exact h.lt, h.ne, h.off, by rw [size_setCells]; exact h.le⟩
  · rcases List.mem_or_eq_of_mem_set hx with q | q
    · exact h.ok.kepts x q
    · rw [q]; exact mixS_length hs (h.ok.kepts _ (List.mem_of_getElem? hi')) hc
  · rw [hF.cell h.lt.2.1 h.ne.2.2, hF.frozen h.lt.2.1 h.ne.2.2]; exact h.tn j hj
/-- All sectors are written. -/
theorem DkX.setNowAll (h : DkX w base n D N K wv m) : DkX (w.setCells N 0 (flatS m.kept)) base n D N K wv { m with now := m.kept } := by
  have hF := FrB.setCells (fun j => j = N) w N 0 (flatS m.kept) rfl
  have kD := fun o => hF.cell (o := o) h.lt.1 h.ne.1
  have hlen := flatS_length m.kept h.ok.kepts
  rw [h.ok.kept] at hlen
  refine ⟨⟨h.ok.kept, h.ok.kept, h.ok.kepts, h.ok.kepts, h.ok.ats, h.ok.pos, h.ok.most, h.ok.calls, h.ok.i64⟩, (kD 0).trans h.c0, (kD 1).trans h.c1, (kD 2).trans h.c2, (kD 3).trans h.c3, (kD 4).trans h.c4, (kD 5).trans h.c5, fun i hi => (hF.frozen h.lt.1 h.ne.1).trans (h.free i hi),
    World.rangeAt_setCells_same _ _ _ _ (by rw [hlen]; exact h.tn), World.there_setCells h.tn _ _ _, fun j v hv => (hF.cell h.lt.2.2 (Ne.symm h.ne.2.2)).trans (h.rk j v hv), fun j hj => ?_, owns_setCells h.row h.off.2.1 _ _, h.ge, by rw [size_setCells]; exact h.lt, h.ne, h.off, by rw [size_setCells]; exact h.le⟩
  rw [hF.cell h.lt.2.2 (Ne.symm h.ne.2.2), hF.frozen h.lt.2.2 (Ne.symm h.ne.2.2)]; exact h.tk j hj
end
theorem wpList_copyV {ops : Array Oper} {rest : List Oper} {o : Oper} {a : Act} {w : World} {Q : Exit → Act → World → Prop} (hg : o.guard = none) (d s : Operand) (t t' : TypeId)
    (ho : o.op = .call { callee := .builtin .copy, args := #[d, s], argTypes := #[t, t'] }) (v u : Value) (hd : a.eval d = v) (hs : a.eval s = u) {v' : Value} {w' : World}
    (hr : (Builtin.copy_ #[t, t'] o.type #[v, u]).run Tryz.prog w = .ok v' w') (h : wpList Tryz.prog ops Q rest (a.put o.dst v') w') : wpList Tryz.prog ops Q (o :: rest) a w := by
  refine wpList_plain hg fun K hK => ?_
  unfold Oper.wp execOp
  simp only [ho, resolve, invoke, builtin, Sem.run_bind, Sem.run_pure, Result.andThen_ok, List.map_toArray, List.map_cons, List.map_nil, hd, hs, hr]
  exact hK _ _ h
/-- A copy of elements of several cells. -/
theorem run_copy_wide (w : World) (dT sT ty elem : TypeId) (b o dLen dCap : Nat) (a : Addr) (sLen sCap sz : Nat) (cs : List Value)
    (hu : Tryz.prog.underlying dT = some (.slice elem)) (hs : (Tryz.prog.info? elem).map (·.size) = some sz) (hn : cs.length = Nat.min sLen dLen * sz)
    (hsrc : ∀ j v, cs[j]? = some v → w.cell? (a.add j) = some v) (ht : w.there b o cs.length) (h1 : ∀ v ∈ cs, v.oneCell' = true) :
    (Builtin.copy_ #[dT, sT] ty #[.slice (some ⟨b, o, none⟩) dLen dCap, .slice (some a) sLen sCap]).run Tryz.prog w = .ok (goInt (Nat.min sLen dLen)) (w.setCells b o cs) := by
  have hl := run_loadCells_list (P := Tryz.prog) w a cs hsrc
  have hst := run_storeCells_cells (P := Tryz.prog) b o cs 0 w (fun j hj => (by simpa using (ht j hj).1)) (fun j hj => (by simpa using (ht j hj).2)) h1
  cases hq : Tryz.prog.info? elem with
  | none => simp [hq] at hs
  | some i =>
    have hi : i.size = sz := by simpa [hq] using hs
    simp [Builtin.copy_, run_underlying hu, Builtin.lenOf, Builtin.firstCells, sizeOf, typeInfo, hq, hi, ← hn, hl, hst]
theorem info157s : (Tryz.prog.info? 157).map (·.size) = some 64 := by kernel_rfl
theorem flatS_oneCell (l : List Sec) : ∀ u ∈ flatS l, u.oneCell' = true := by
  intro u hu
  obtain ⟨s, _, h⟩ := List.mem_flatMap.1 hu
  exact scells_oneCell s u h
set_option maxHeartbeats 800000 in
set_option maxRecDepth 100000 in
theorem Crash_any {w : World} {base n D N K : Nat} {wv : Value} {m : Dk} (h : DkX w base n D N K wv m) (v : Value) (keep : List Int) (hv : SlI w v keep) (hvS : ∀ g, v.ownBlock = some g → ¬ dkS D N K wv g) (hn : m.writes.length ≤ 1000000) :
    Calls Tryz.prog 39 #[.pointer (some ⟨D, 0, none⟩), v] w fun e w' => e = .returned (.tuple #[]) ∧ DkStep w w' base n D N K wv (.slice none 0 0) (crashP m keep) := by
  obtain ⟨ao, cap, rfl, hws⟩ := h.writes_at
  obtain ⟨av, cv, rfl, _⟩ := hv.open
  have c2 := h.c2
  have HX1 := Lib.hid h
  have HWS := Lib.hid hws
  have HV := Lib.hid (And.intro hv hvS)
  clear h hws hv hvS
  go_enter Tryz.func39, Tryz.ntmps39
  go_wp2
  go_loopw [4, 5, 13] (fun _ _ i wr => ∃ k : Nat, k ≤ m.writes.length ∧ i = .int .i64 k ∧ DkX wr base n D N K (.slice ao m.writes.length cap) { m with kept := crashK m.kept ((m.writes.zip keep).take k) } ∧ FrB (fun j => j = K) w wr) (fun _ _ i _ => m.writes.length - (intOf i).toNat)
  case atStart => exact ⟨0, by omega, rfl, HX1.out, FrB.refl _ _⟩
  case round =>
    obtain ⟨k, hk, rfl, hX, hF⟩ := hrel
    have HX := Lib.hid hX
    have HF := Lib.hid hF
    by_cases hlt : k < m.writes.length
    · obtain ⟨p, hp⟩ : ∃ p, m.writes[k]? = some p := ⟨_, List.getElem?_eq_getElem hlt⟩
      obtain ⟨q, rfl, hrq, hq, hqn⟩ := HWS.out k p hp
      have hrr : wr.rangeAt q (k * 65) (pcells p) := fun j u hu => (HF.out.cell hq (fun e => hqn (.inr (.inr e)))).trans (hrq j u hu)
      have hp2 := HX1.out.ok.ats p (List.mem_of_getElem? hp)
      have hpl := pcells_length hp2.2
      have hlt' : (k : Int) < m.writes.length := by omega
      obtain ⟨w2, l1, l2, l3, l4⟩ := laid_new wr (pcells p) (#[.int .i64 0] ++ Array.replicate 64 (.int .u8 0)) 159 (by rw [hpl]; simp) (pcells_oneCell p)
      clear hX hF hrq
      by_cases hkl : k < keep.length
      · obtain ⟨x, hx⟩ : ∃ x, keep[k]? = some x := ⟨_, List.getElem?_eq_getElem hkl⟩
        have hkl' : (k : Int) < keep.length := by omega
        go_wp2_with (first | (refine wpList_load_mid rfl 159 (.tmp 16) rfl q (k * 65) rfl (pcells p) _ hrr Tryz.underlying159 rfl (size159 _ hpl) ?_) | (refine wpList_allocV rfl 159 rfl _ (run_alloc159 _) ?_))
        have HX2 := Lib.hid (HX.out.ext l2)
        have L2 := Lib.hid l2
        have r0 : w2.cell? ⟨wr.heap.size, 0, none⟩ = some (.int .i64 p.1) := l3 0 _ rfl
        have r1 : w2.rangeAt wr.heap.size 1 (scells p.2) := fun j u hu => by have := l3 (j + 1) u (by simpa [pcells] using hu); rwa [Nat.zero_add, Nat.add_comm] at this
        have d1 := HX2.out.c1
        have hvK : ∀ g, (Value.slice av keep.length cv).ownBlock = some g → ¬ g = K := fun g hg e => HV.out.2 g hg (.inr (.inr (.inl e)))
        obtain ⟨kb, ko, rfl, k5⟩ := SlI.at ((HV.out.1.frB HF.out hvK).ext l2) hx
        have HC := Lib.hid (clampN_le x)
        have hatz : (p.1 : Int) < n := by omega
        clear l1 l2 l3 hvK
        refine wp_drawn 16 (by kernel_rfl) (by kernel_rfl) (fun _ => none) (fun j φ hφ => by cases hφ) ?_
        intro ν
        simp only [List.take_succ_cons, List.take_zero]
        iterate 15 (refine Seq.pure ?_ rfl (fun w' hw hf => ?_) ?_; rotate_left; (· (have e1 := hw.keep (w := World.drew _) d1; have e0 := hw.keep (w := World.drew _) r0; have e5 := hw.keep (w := World.drew _) k5; unfold pureG; go_simp; with_reducible rfl)); simp only [Act.put, List.setIfInBounds_toArray, List.set_cons_zero, List.set_cons_succ, Nat.reduceAdd, Nat.zero_add])
        have hcx : min (max x 0) 64 = ((clampN x : Nat) : Int) := by unfold clampN; omega
        rw [hcx]
        clear hcx
        obtain ⟨c, hcc⟩ : ∃ c, clampN x = c := ⟨_, rfl⟩
        rw [hcc] at HC ⊢
        have hc64 := HC.out
        have hc64' : (c : Int) ≤ 64 := by omega
        iterate 1 (refine Seq.pure ?_ rfl (fun w' hw hf => ?_) ?_; rotate_left; (· (skip; unfold pureG; go_simp; with_reducible rfl)); simp only [Act.put, List.setIfInBounds_toArray, List.set_cons_zero, List.set_cons_succ, Nat.reduceAdd, Nat.zero_add])
        refine Seq.nil fun w3 hw3 hf3 => tail_one (i := 16) (by kernel_rfl) rfl (by kernel_rfl) rfl ?_
        have HX3 := Lib.hid (HX2.out.ext ((Ext.drew w2).trans hw3))
        have hcl : (scells (p.2.take c)).length = c := by rw [scells_length, List.length_take, hp2.2]; omega
        have htk : ∀ j, j < c → (w3.cell? ⟨K, p.1 * 64 + j, none⟩).isSome = true ∧ w3.frozen? ⟨K, p.1 * 64 + j, none⟩ = false := fun j hj => by have := HX3.out.tk (p.1 * 64 + j) (by omega); rwa [Nat.zero_add] at this
        refine wpList_copyV rfl (.tmp 29) (.tmp 37) 69 69 rfl _ _ rfl rfl (run_copy_cells (P := Tryz.prog) w3 69 69 _ 5 K (p.1 * 64) 64 64 ⟨wr.heap.size, 1, none⟩ c 64 (scells (p.2.take c)) Tryz.underlying69 info5 (by rw [hcl]; exact (Nat.min_eq_left hc64).symm) (fun j u hu => ?_) (fun j hj => (htk j (by omega)).1) (fun j hj => (htk j (by omega)).2) (scells_oneCell _)) ?_
        · rw [Addr.add_mid]
          refine hw3.keep (w := World.drew _) (r1 j u ?_)
          unfold scells at hu ⊢
          rw [List.map_take, List.getElem?_take] at hu
          split at hu
          · exact hu
          · cases hu
        have HX4 := Lib.hid (HX3.out.setKeptPart p.1 p.2 hp2.2 hp2.1 c hc64)
        have HF4 := Lib.hid (((HF.out.trans (FrB.ext L2.out) (S' := fun _ => False) (fun _ _ e => e.elim)).trans (FrB.ext ((Ext.drew w2).trans hw3)) (S' := fun _ => False) (fun _ _ e => e.elim)).trans (FrB.setCells (fun j => j = K) w3 K (p.1 * 64) (scells (p.2.take c)) rfl) (fun _ _ e => e))
        simp only [Act.put]
        generalize w3.setCells K (p.1 * 64) (scells (p.2.take c)) = w4 at HX4 HF4
        go_wp2
        go_roundw
        case rel =>
          have := HX4.out
          rw [← hcc] at this
          refine ⟨k + 1, by omega, by go_num, ?_, HF4.out⟩
          rw [crashK_snoc _ _ _ (p, x) (by rw [List.getElem?_zip_eq_some]; exact ⟨hp, hx⟩)]
          exact this
        case measure => simp [intOf]; omega
      · have hkl' : ¬ ((k : Int) < keep.length) := by omega
        go_wp2_with (first | (refine wpList_load_mid rfl 159 (.tmp 16) rfl q (k * 65) rfl (pcells p) _ hrr Tryz.underlying159 rfl (size159 _ hpl) ?_) | (refine wpList_allocV rfl 159 rfl _ (run_alloc159 _) ?_))
        go_roundw
        case rel =>
          refine ⟨k + 1, by omega, by go_num, ?_, HF.out.trans (FrB.ext l2) (S' := fun _ => False) (fun _ _ e => e.elim)⟩
          rw [take_end _ _ (by rw [List.length_zip]; omega)]
          exact HX.out.ext l2
        case measure => simp [intOf]; omega
    · obtain rfl : k = m.writes.length := by omega
      have hXe := hX
      rw [List.take_of_length_le (by rw [List.length_zip]; omega)] at hXe
      have c0 := hXe.c0
      have c1 := hXe.c1
      have HXe := Lib.hid hXe
      clear hX hF hXe
      go_wp2_with fail
      refine wp_drawn 8 (by kernel_rfl) (by kernel_rfl) (fun _ => none) (fun j φ hφ => by cases hφ) ?_
      intro ν
      simp only [List.take_succ_cons, List.take_zero]
      iterate 8 (refine Seq.pure ?_ rfl (fun w' hw hf => ?_) ?_; rotate_left; (· (have e0 := hw.keep (w := World.drew _) c0; have e1 := hw.keep (w := World.drew _) c1; unfold pureG; go_simp; with_reducible rfl)); simp only [Act.put, List.setIfInBounds_toArray, List.set_cons_zero, List.set_cons_succ, Nat.reduceAdd, Nat.zero_add])
      refine Seq.nil fun w3 hw3 hf3 => tail_one (i := 8) (by kernel_rfl) rfl (by kernel_rfl) rfl ?_
      have HX3 := Lib.hid (HXe.out.ext ((Ext.drew wr).trans hw3))
      obtain ⟨M, hM⟩ : ∃ M, crashK m.kept (m.writes.zip keep) = M := ⟨_, rfl⟩
      rw [hM] at HX3
      have hlen : (flatS M).length = n * 64 := by rw [flatS_length M HX3.out.ok.kepts]; exact congrArg (· * 64) HX3.out.ok.kept
      refine wpList_copyV rfl (.tmp 43) (.tmp 47) 152 152 rfl _ _ rfl rfl (run_copy_wide w3 152 152 _ 157 N 0 n n ⟨K, 0, none⟩ n n 64 (flatS M) Tryz.underlying152 info157s (by rw [hlen]; exact congrArg (· * 64) (Nat.min_self n).symm) (fun j u hu => by rw [Addr.add_mid]; exact HX3.out.rk j u hu) (by rw [hlen]; exact HX3.out.tn) (flatS_oneCell _)) ?_
      have HX4 := Lib.hid HX3.out.setNowAll
      have HF4 := Lib.hid ((HF.out.trans (FrB.ext ((Ext.drew wr).trans hw3)) (S' := fun _ => False) (fun _ _ e => e.elim) |>.mono (S' := dkS D N K (.slice ao m.writes.length cap)) (fun _ _ e => .inr (.inr (.inl e)))).trans (FrB.setCells (dkS D N K (.slice ao m.writes.length cap)) w3 N 0 (flatS M) (.inr (.inl rfl))) (fun _ _ e => e))
      simp only [Act.put] at HX4 ⊢
      generalize w3.setCells N 0 (flatS M) = w4 at HX4 HF4 ⊢
      have c2 := HX4.out.c2
      have c3 := HX4.out.c3
      have c5 := HX4.out.c5
      have f2 := HX4.out.free 2 (by omega)
      have f3 := HX4.out.free 3 (by omega)
      have f5 := HX4.out.free 5 (by omega)
      go_wp2
      refine bodyPost_end (results_none rfl _ _ _) rfl ⟨rfl, ?_, ?_, fun j hj => by cases hj⟩
      · have := ((HX4.out.setWrites (.slice none 0 0) [] (World.ownsRow_nil _ _ _ _) (by simp [Value.ownBlock]) (fun p hp => by cases hp)).setStops false (fun e => by cases e)).setDown false
        unfold crashP
        rw [hM]
        exact this
      · exact ((HF4.out.trans (FrB.setCell (dkS D N K _) _ _ _ (.inl rfl)) (fun _ _ e => e)).trans (FrB.setCell (dkS D N K _) _ _ _ (.inl rfl)) (fun _ _ e => e)).trans (FrB.setCell (dkS D N K _) _ _ _ (.inl rfl)) (fun _ _ e => e)
end Go.Proofs.YtgjahnomafpnfaaGreatDoor

/- (*Disk).Read. -/
namespace Go.Proofs.YtgjahnomafpnfaaGreatDoor
open Go.RowKit
/-- What Read answers. -/
def readE (m : Dk) (n : Nat) (i : Int) : Int := if m.down then 80 else if inB i 0 ((n : Int) - 1) = false then 1 else 0
set_option maxHeartbeats 800000 in
set_option maxRecDepth 100000 in
theorem Read_any {w : World} {base n D N K : Nat} {wv : Value} {m : Dk} (h : DkX w base n D N K wv m) (i : Int) (hi : -9223372036854775808 ≤ i ∧ i ≤ 9223372036854775807) :
    Calls Tryz.prog 35 #[.pointer (some ⟨D, 0, none⟩), .int .i64 i] w fun e w' => ∃ v, e = .returned (.tuple #[v, .int .i64 (readE m n i)]) ∧ Ext w w' ∧ (readE m n i ≠ 0 → v = .slice none 0 0) ∧ (readE m n i = 0 → ∃ g, v = .slice (some ⟨g, 0, none⟩) 64 64 ∧ w.heap.size ≤ g ∧ g < w'.heap.size ∧ w'.rangeAt g 0 (scells (m.now.getD i.toNat []))) := by
  have hr := Lib.hid (ready_any h)
  have H := Lib.hid h
  have c0 := h.c0
  have hms := h.ok.most
  have hps := h.ok.pos
  clear h
  unfold readE
  cases hd : m.down
  case true =>
    rw [hd] at hr
    rw [if_pos rfl]
    go_enter Tryz.func35, Tryz.ntmps35
    go_wp2_with (first | (go_at_call 90; refine hr.out.mono ?_; rintro e w' ⟨rfl, rfl⟩))
    go_ret2
    exact ⟨_, rfl, Ext.refl _, fun _ => rfl, fun e => by cases e⟩
  case false =>
    rw [hd] at hr
    rw [if_neg (by decide)]
    have hwn : IntKind.i64.wrap ((n : Int) - 1) = (n : Int) - 1 := IntWalk.i64_in _ (by omega)
    cases hin : inB i 0 ((n : Int) - 1)
    · have HIn := Lib.hid hin
      rw [if_pos rfl]
      clear hin
      go_enter Tryz.func35, Tryz.ntmps35
      go_wp2_with (first | (go_at_call 90; refine hr.out.mono ?_; rintro e w' ⟨rfl, rfl⟩) | (go_at_call 91; refine (in_any _ _ _ _).mono ?_; rw [HIn.out]; rintro e w' ⟨rfl, rfl⟩))
      go_ret2
      exact ⟨_, rfl, Ext.refl _, fun _ => rfl, fun e => by cases e⟩
    · have HIn := Lib.hid hin
      have hb := (inB_iff _ _ _).1 hin
      rw [if_neg (by decide)]
      clear hin
      obtain ⟨k, rfl⟩ : ∃ k : Nat, i = (k : Int) := ⟨i.toNat, by omega⟩
      have hkn : k < n := by omega
      have hkn' : (k : Int) < n := by omega
      obtain ⟨h64, hrn⟩ := H.out.nowAt hkn
      have hkt : ((k : Int)).toNat = k := by omega
      rw [hkt]
      generalize m.now.getD k [] = s at h64 hrn ⊢
      have hl : (scells s).length = 64 := by rw [scells_length]; exact h64
      obtain ⟨w2, l1, l2, l3, l4⟩ := laid_new w (scells s) (scells zsec).toArray 157 (by rw [hl]; rfl) (scells_oneCell s)
      go_enter Tryz.func35, Tryz.ntmps35
      go_wp2_with (first | (go_at_call 90; refine hr.out.mono ?_; rintro e w' ⟨rfl, rfl⟩) | (go_at_call 91; refine (in_any _ _ _ _).mono ?_; rw [HIn.out]; rintro e w' ⟨rfl, rfl⟩) | (refine wpList_load_mid rfl 157 (.tmp 27) rfl N (k * 64) rfl (scells s) _ hrn Tryz.underlying157 rfl (size157 _ hl) ?_) | (refine wpList_allocV rfl 157 rfl _ (run_alloc157' _) ?_))
      go_ret2
      exact ⟨_, rfl, l2, fun e => absurd rfl e, fun _ => ⟨_, rfl, Nat.le_refl _, l4, l3⟩⟩
end Go.Proofs.YtgjahnomafpnfaaGreatDoor

/- The law PostTorn: its walk. -/
namespace Go.Proofs.YtgjahnomafpnfaaGreatDoor
open Go.RowKit
/-- A disk that does not stop takes a write. -/
theorem writeP_ok (m : Dk) (n k : Nat) (bs : List UInt8) (hd : m.down = false) (hs : m.stops = false) (hk : k < n) (hb : bs.length ≤ 64) : writeP m n (k : Int) bs = (0, { m with now := m.now.set k (padS bs), writes := m.writes ++ [(k, padS bs)] }) := by
  have h1 : inB (k : Int) 0 ((n : Int) - 1) = true := by rw [inB_iff]; omega
  have h2 : powerP m = (0, m) := by unfold powerP; rw [hs]; rfl
  unfold writeP
  obtain ⟨now, kept, writes, stops, calls, down⟩ := m
  simp only at hd hs
  subst hd hs
  rw [h1, h2, if_neg (by simp), if_neg (by simp), if_neg (by omega), if_neg (by simp)]
  rfl
theorem flushP_ok (m : Dk) (hd : m.down = false) (hs : m.stops = false) : flushP m = (0, { m with kept := flushK m.kept m.writes, writes := [] }) := by
  have h2 : powerP m = (0, m) := by unfold powerP; rw [hs]; rfl
  unfold flushP
  obtain ⟨now, kept, writes, stops, calls, down⟩ := m
  simp only at hd hs
  subst hd hs
  rw [h2, if_neg (by simp), if_neg (by simp)]
def torn0 (k : Nat) (b1 : List UInt8) : Dk := { newDk 64 with now := (newDk 64).now.set k (padS b1), kept := (newDk 64).kept.set k (padS b1) }
def torn1 (k : Nat) (b1 b2 : List UInt8) : Dk := { torn0 k b1 with now := (torn0 k b1).now.set k (padS b2), writes := [(k, padS b2)] }
theorem torn_read (k : Nat) (hk : k < 64) (b1 b2 : List UInt8) (c : Int) : (crashP (torn1 k b1 b2) [c]).now.getD k [] = mixS (clampN c) (padS b2) (padS b1) := by
  simp [crashP, torn1, torn0, crashK, crashStep, newDk, hk]
theorem slB_off {w : World} {v : Value} {bs : List UInt8} (h : SlB w v bs) : ∀ g, v.ownBlock = some g → g < w.heap.size := by
  intro g hg
  rcases h with ⟨rfl, _⟩ | ⟨b, off, cap, rfl, _, _, hb, _⟩
  · cases hg
  · cases hg; exact hb
theorem SlB.at {w : World} {a : Option Addr} {l c : Nat} {bs : List UInt8} (h : SlB w (.slice a l c) bs) {j : Nat} {y : UInt8} (hj : bs[j]? = some y) : ∃ b off, a = some ⟨b, off, none⟩ ∧ w.cell? ⟨b, off + j, none⟩ = some (.int .u8 y.toNat) := by
  rcases h with ⟨_, rfl⟩ | ⟨b, off, cap, h1, h2, h3, h4, h5⟩
  · simp at hj
  · simp only [Value.slice.injEq] at h1
    exact ⟨b, off, h1.1, h5 j _ (by unfold scells; rw [List.getElem?_map, hj]; rfl)⟩
theorem padS_at (bs : List UInt8) (hb : bs.length ≤ 64) (j : Nat) (hj : j < 64) : (padS bs)[j]? = some (bs.getD j 0) := by
  unfold padS
  by_cases h : j < bs.length
  · rw [List.getElem?_append_left h, List.getD_eq_getElem?_getD, List.getElem?_eq_getElem h]; rfl
  · rw [List.getElem?_append_right (by omega), List.getElem?_replicate, if_pos (by omega), List.getD_eq_getElem?_getD, List.getElem?_eq_none (by omega)]; rfl
theorem torn_at (c : Int) (b1 b2 : List UInt8) (h1 : b1.length ≤ 64) (h2 : b2.length ≤ 64) (j : Nat) (hj : j < 64) : (mixS (clampN c) (padS b2) (padS b1))[j]? = some (if (j : Int) < c then b2.getD j 0 else b1.getD j 0) := by
  have l2 := padS_length h2
  unfold mixS
  by_cases h : (j : Int) < c
  · have hc : j < clampN c := by unfold clampN; omega
    rw [if_pos h, List.getElem?_append_left (by rw [List.length_take, l2]; omega), List.getElem?_take, if_pos hc, padS_at b2 h2 j hj]
  · have hc : clampN c ≤ j := by unfold clampN; omega
    have hm := clampN_le c
    rw [if_neg h, List.getElem?_append_right (by rw [List.length_take, l2]; omega), List.getElem?_drop, List.length_take, l2, show clampN c + (j - min (clampN c) 64) = j from by omega, padS_at b1 h1 j hj]
set_option maxHeartbeats 1600000 in
set_option maxRecDepth 100000 in
theorem PostTorn_any {B : Nat} {w : World} (hL : Laid B w) (x : Int) (v1 v2 : Value) (b1 b2 : List UInt8) (h1 : SlB w v1 b1) (h2 : SlB w v2 b2) (c : Int) (hc : -9223372036854775808 ≤ c ∧ c ≤ 9223372036854775807) (hx : -9223372036854775808 ≤ x ∧ x ≤ 9223372036854775807) :
    Calls Tryz.prog 9 #[.int .i64 x, v1, v2, .int .i64 c] w fun e w' => e = .returned (.bool true) ∧ Ext w w' := by
  have HA := Lib.hid (alive_any hL)
  have HL := Lib.hid hL
  obtain ⟨a1, c1, e1⟩ := h1.shape
  obtain ⟨a2, c2, e2⟩ := h2.shape
  subst e1
  subst e2
  have H12 := Lib.hid (And.intro h1 h2)
  clear hL
  by_cases hl1 : 64 < b1.length
  · have hl1' : (64 : Int) < b1.length := by omega
    clear h1 h2
    go_enter Tryz.func9, Tryz.ntmps9
    go_wp2_with (first | (go_at_call 18; refine HA.out.mono ?_; rintro e w' ⟨rfl, hE⟩))
    go_ret
    exact ⟨rfl, hE⟩
  by_cases hl2 : 64 < b2.length
  · have hl1' : ¬ ((64 : Int) < b1.length) := by omega
    have hl2' : (64 : Int) < b2.length := by omega
    clear h1 h2
    go_enter Tryz.func9, Tryz.ntmps9
    go_wp2_with (first | (go_at_call 18; refine HA.out.mono ?_; rintro e w' ⟨rfl, hE⟩))
    go_ret
    exact ⟨rfl, hE⟩
  have hl1' : ¬ ((64 : Int) < b1.length) := by omega
  have hl2' : ¬ ((64 : Int) < b2.length) := by omega
  clear h1 h2
  go_enter Tryz.func9, Tryz.ntmps9
  go_wp2_with fail
  obtain ⟨k, hk, hk64⟩ : ∃ k : Nat, wrap64 ((IntKind.u64.wrap x).tmod 64) = (k : Int) ∧ k < 64 := by
    have h0 : 0 ≤ IntKind.u64.wrap x := by simp only [IntKind.wrap, IntKind.bits, IntKind.signed]; simp; omega
    rw [Int.tmod_eq_emod_of_nonneg h0]
    refine ⟨((IntKind.u64.wrap x) % 64).toNat, ?_, by omega⟩
    rw [IntWalk.wrap64_in _ (by omega)]; omega
  rw [hk]
  refine (NewDisk_any 64 w (by omega) (by omega)).mono ?_
  rintro e W1 ⟨D, N, K, rfl, hX1, hE1⟩
  have HX1 := Lib.hid hX1
  have HE1 := Lib.hid hE1
  have HO := Lib.hid (And.intro (slB_off H12.out.1) (slB_off H12.out.2))
  have HS1 := Lib.hid (And.intro (H12.out.1.ext hE1) (H12.out.2.ext hE1))
  clear hX1 hE1 hk
  have HN := Lib.hid (show ∀ (W : World) (wv : Value) (m : Dk), DkX W w.heap.size 64 D N K wv m → ∀ g, g < w.heap.size → ¬ dkS D N K wv g from fun W wv m hX g hg hd => by have := (hX.S_ge g hd).1; omega)
  go_wp2_with fail
  refine (Write_any HX1.out (k : Int) _ b1 HS1.out.1 (fun g hg => HN.out _ _ _ HX1.out g (HO.out.1 g hg)) (by simp [newDk])).mono ?_
  rw [writeP_ok (newDk 64) 64 k b1 rfl rfl hk64 (by omega)]
  rintro e W2 ⟨rfl, wv2, hX2⟩
  have HX2 := Lib.hid hX2
  have HS2 := Lib.hid (HS1.out.2.frB hX2.fr (fun g hg => HN.out _ _ _ HX1.out g (HO.out.2 g hg)))
  clear hX2
  go_wp2_with fail
  refine (Flush_any HX2.out.x (by simp [newDk])).mono ?_
  rw [flushP_ok _ rfl rfl]
  rintro e W3 ⟨rfl, wv3, hX3⟩
  have HX3 := Lib.hid (show DkStep W2 W3 w.heap.size 64 D N K wv2 wv3 (torn0 k b1) from hX3)
  have HS3 := Lib.hid (HS2.out.frB hX3.fr (fun g hg => HN.out _ _ _ HX2.out.x g (HO.out.2 g hg)))
  clear hX3
  go_wp2_with fail
  refine (Write_any HX3.out.x (k : Int) _ b2 HS3.out (fun g hg => HN.out _ _ _ HX3.out.x g (HO.out.2 g hg)) (by simp [torn0, newDk])).mono ?_
  rw [writeP_ok (torn0 k b1) 64 k b2 rfl rfl hk64 (by omega)]
  rintro e W4 ⟨rfl, wv4, hX4⟩
  have HX4 := Lib.hid (((DkStep.refl HX1.out).trans HX2.out).trans HX3.out |>.trans (show DkStep W3 W4 w.heap.size 64 D N K wv3 wv4 (torn1 k b1 b2) from hX4))
  have HS4 := Lib.hid (HS3.out.frB hX4.fr (fun g hg => HN.out _ _ _ HX3.out.x g (HO.out.2 g hg)))
  clear hX4
  obtain ⟨W5, hW5⟩ : ∃ W5, W4.alloc (.cells #[.int .i64 c] 3) = W5 := ⟨_, rfl⟩
  have hE5 : Ext W4 W5 := hW5 ▸ Ext.alloc _ _
  have hk5 : SlI W5 (.slice (some ⟨W4.heap.size, 0, none⟩) 1 1) [c] := .inr ⟨W4.heap.size, 0, 1, rfl, by simp, by decide, by rw [← hW5]; simp, fun j g hj => by
    have := rangeAt_new W4 #[.int .i64 c] 3 W4.heap.size rfl j (.int .i64 g) (by cases j with
      | zero => simpa using hj
      | succ j => simp at hj)
    rw [← hW5]; exact this⟩
  have hX5 := HX4.out.x.ext hE5
  have hO5 : ∀ g, (Value.slice (some ⟨W4.heap.size, 0, none⟩) 1 1).ownBlock = some g → ¬ dkS D N K wv4 g := fun g hg hd => by
    have := (HX4.out.x.S_ge g hd).2
    have : W4.heap.size = g := by simpa [Value.ownBlock] using hg
    omega
  have HCr := Lib.hid (Crash_any hX5 _ [c] hk5 hO5 (by simp [torn1]))
  have HE5 := Lib.hid hE5
  have HS5 := Lib.hid (And.intro (HS1.out.1.frB HX4.out.fr (fun g hg => HN.out _ _ _ HX1.out g (HO.out.1 g hg)) |>.ext hE5) (HS4.out.ext hE5))
  clear hX5 hO5 hk5 hE5
  go_wp2_with fail
  refine HCr.out.mono ?_
  rintro e W6 ⟨rfl, hX6⟩
  have HX6 := Lib.hid hX6
  have HS6 := Lib.hid (And.intro (HS5.out.1.frB hX6.fr (fun g hg => HN.out _ _ _ HX4.out.x g (HO.out.1 g hg))) (HS5.out.2.frB hX6.fr (fun g hg => HN.out _ _ _ HX4.out.x g (HO.out.2 g hg))))
  clear hX6 hW5
  have hre : readE (crashP (torn1 k b1 b2) [c]) 64 (k : Int) = 0 := by
    have : inB (k : Int) 0 (((64 : Nat) : Int) - 1) = true := by rw [inB_iff]; omega
    unfold readE
    rw [this]
    rfl
  have HR := Read_any HX6.out.x (k : Int) (by omega)
  rw [hre, show ((k : Int)).toNat = k from by omega, torn_read k hk64] at HR
  have HR := Lib.hid HR
  clear hre
  go_wp2_with fail
  refine HR.out.mono ?_
  rintro e W7 ⟨v, rfl, hE7, _, hv⟩
  obtain ⟨g, rfl, hg1, hg2, hr⟩ := hv trivial
  clear hv
  have hdn := Down_any (HX6.out.x.ext hE7)
  have HD := Lib.hid hdn
  have HS7 := Lib.hid (And.intro (HS6.out.1.ext hE7) (HS6.out.2.ext hE7))
  have hb4 : Below w.heap.size w W4 := HE1.out.trans (HX4.out.fr.below HE1.out.size (fun j hj => (HX1.out.S_ge j hj).1))
  have hb5 : Below w.heap.size w W5 := hb4.trans (HE5.out.mono hb4.size)
  have hb6 : Below w.heap.size w W6 := hb5.trans (HX6.out.fr.below hb5.size (fun j hj => (HX4.out.x.S_ge j hj).1))
  have HE7 := Lib.hid (show Ext w W7 from hb6.trans (hE7.mono hb6.size))
  have HA7 := Lib.hid (alive_any (HL.out.ext HE7.out))
  clear hdn hb4 hb5 hb6 hE7 hg1 hg2
  go_wp2_with fail
  refine HD.out.mono ?_
  rintro e W8 ⟨rfl, rfl⟩
  have hdf : (crashP (torn1 k b1 b2) [c]).down = false := rfl
  rw [hdf]
  clear hdf
  go_wp2_with fail
  go_loopw [17, 18, 85] (fun _ _ i wr => ∃ j : Nat, j ≤ 64 ∧ i = .int .i64 j ∧ wr = W8) (fun _ _ i _ => 64 - (intOf i).toNat)
  case atStart => exact ⟨0, by omega, rfl, rfl⟩
  case round =>
    obtain ⟨j, hj, rfl, rfl⟩ := hrel
    by_cases hlt : j < 64
    · have hlt' : (j : Int) < 64 := by omega
      have hs := torn_at c b1 b2 (by omega) (by omega) j hlt
      have hsc := hr j _ (by unfold scells; rw [List.getElem?_map, hs]; rfl)
      rw [Nat.zero_add] at hsc
      clear hs hr
      by_cases hjc : (j : Int) < c
      · rw [if_pos hjc] at hsc
        by_cases hj2 : j < b2.length
        · obtain ⟨gb, go, rfl, hcell⟩ := HS7.out.2.at (List.getElem?_eq_getElem hj2)
          rw [show b2.getD j 0 = b2[j] from by rw [List.getD_eq_getElem?_getD, List.getElem?_eq_getElem hj2]; rfl] at hsc
          generalize b2[j] = y at hsc hcell
          have hj2' : (j : Int) < b2.length := by omega
          go_wp2_with fail
          go_roundw
          case rel => exact ⟨j + 1, by omega, by go_num, trivial⟩
          case measure => simp [intOf]; omega
        · rw [show b2.getD j 0 = 0 from by rw [List.getD_eq_getElem?_getD, List.getElem?_eq_none (by omega)]; rfl] at hsc
          have hj2' : ¬ ((j : Int) < b2.length) := by omega
          go_wp2_with fail
          go_roundw
          case rel => exact ⟨j + 1, by omega, by go_num, trivial⟩
          case measure => simp [intOf]; omega
      · rw [if_neg hjc] at hsc
        by_cases hj2 : j < b1.length
        · obtain ⟨gb, go, rfl, hcell⟩ := HS7.out.1.at (List.getElem?_eq_getElem hj2)
          rw [show b1.getD j 0 = b1[j] from by rw [List.getD_eq_getElem?_getD, List.getElem?_eq_getElem hj2]; rfl] at hsc
          generalize b1[j] = y at hsc hcell
          have hj2' : (j : Int) < b1.length := by omega
          go_wp2_with fail
          go_roundw
          case rel => exact ⟨j + 1, by omega, by go_num, trivial⟩
          case measure => simp [intOf]; omega
        · rw [show b1.getD j 0 = 0 from by rw [List.getD_eq_getElem?_getD, List.getElem?_eq_none (by omega)]; rfl] at hsc
          have hj2' : ¬ ((j : Int) < b1.length) := by omega
          go_wp2_with fail
          go_roundw
          case rel => exact ⟨j + 1, by omega, by go_num, trivial⟩
          case measure => simp [intOf]; omega
    · obtain rfl : j = 64 := by omega
      clear hr
      go_wp2_with (first | (go_at_call 18; refine HA7.out.mono ?_; rintro e w' ⟨rfl, hE⟩))
      go_ret
      exact ⟨rfl, HE7.out.trans hE⟩
end Go.Proofs.YtgjahnomafpnfaaGreatDoor

/- The law PostTorn: its row and its tied card: for every input the law returns true; no condition but what the row lists (package-level variables as the program's text lays them). -/
namespace Go.Proofs.YtgjahnomafpnfaaGreatDoor
open Go.ChangeShapes Go.WideShapes Go.ChangeAt Go.ChangeMaps Go.RowKit
set_option maxRecDepth 100000 in
theorem postTorn_lifted (os : Os) (started : os.Started) (H : Type) (enc : TypeId × Value → H) :
    ReturnsInHanded {} Tryz.checked os 9 .any (fun w args => (Rows.postTornSpec.pre enc Tryz.prog Tryz.f9 [] false w args ∧ laidMetH Tryz.prog laidAll w) ∧ sizedMet enc Tryz.prog Tryz.f9 (OpenSpec.ofChange Rows.postTornSpec) false w args)
      (Rows.postTornSpec.post enc Tryz.prog Tryz.f9 false true false false) := by
  refine returnsInHanded_of_law (C := Tryz.checked) (X := fun w _ => laidMetH Tryz.prog laidAll w) (fun _ _ _ hh h => h.of_heap hh) ownKnobNone started (by kernel_rfl) Tryz.func9
    (ChangeSpec.witness_shaped (enc := enc) (C := Tryz.checked) (os := os) (X := fun w _ => laidMetH Tryz.prog laidAll w) false (World.laidAll Tryz.prog os laidAll) #[.int .i64 0, .slice none 0 0, .slice none 0 0, .int .i64 0] 8 (World.laidAll_os _ _ _)
      (shaped_all os _) (by kernel_rfl) (by kernel_rfl) (by kernel_rfl) (met_all os _)) ?_
  intro W base args ds gs before hval0 hW _ hL hS
  have hval : ∀ (j : Nat) t v, Tryz.f9.params[j]? = some t → args[j]? = some v → Value.okWide Tryz.prog W .any base t v := hval0
  have hW' := hW
  obtain ⟨p, q, hA0, hV, rfl, _, _⟩ := hW
  have hA : DataW.TrodAll enc Tryz.prog W 0 (fun _ => true) true Tryz.f9.params.toList args.toList ds p := hA0
  rw [Tryz.params9] at hA hval
  have hA1 := hA
  obtain ⟨v0, v1, v2, v3, d0, d1, d2, d3, p0, p1, p2, p3, rfl, rfl, rfl, h0, h1, h2, h3⟩ := trodAll_four hA
  obtain ⟨rfl, rfl⟩ := trodVars_none hV
  obtain ⟨x, rfl, rfl, rfl, wx⟩ := open_int Tryz.underlying3 (hval 0 3 v0 rfl rfl) h0
  obtain ⟨b1, hb1⟩ := slB_of (hval 1 69 v1 rfl rfl) h1
  obtain ⟨b2, hb2⟩ := slB_of (hval 2 69 v2 rfl rfl) h2
  obtain ⟨c, rfl, rfl, rfl, wc⟩ := open_int Tryz.underlying3 (hval 3 3 v3 rfl rfl) h3
  simp only [List.append_nil] at hW' hA1
  refine (PostTorn_any (laid_of hS hL) x v1 v2 b1 b2 hb1 hb2 c (bounds_i64 wc) (bounds_i64 wx)).mono fun e W' ⟨he, hb⟩ => ?_
  subst he
  exact ⟨_, rfl, _, _, _, [], _, [], hW', trodAll_mk1 (shut_bool Tryz.underlying4 _), trodAll_stays hb (by kernel_rfl) hA1 (fun x hx => by simpa using hW'.lt x hx), rfl, Below.frame hb _, fun h => by cases h⟩
theorem postTorn_holds : Rows.PostTornSaid :=
  OpenClaim.holds_of_wide 9 Tryz.f9 rfl rfl rfl rfl rfl rfl rfl ⟨rfl, rfl, rfl, rfl, rfl⟩ rfl rfl rfl rfl rfl (by kernel_rfl) Tryz.func9 (by kernel_rfl)
    (of_decide_eq_true (by kernel_rfl)) (by unfold Func.isWrapper; first | (rw [if_pos (by decide +kernel)]; kernel_rfl) | (rw [if_neg (by decide +kernel)]; exact ⟨rfl, rfl⟩))
    (fun os started H enc _ => postTorn_lifted os started H enc)
theorem postTorn_card_holds : Rows.PostTornCardSaid :=
  Claim7.holds_tied_plain_at .later [] [.data, .data, .data, .data, .sentinel, .sentinel, .pinned] true (true, "5602a450e1ab95971c0953086e83602e1da3cc71aa9ac35c473bc850be45bc02") true postTorn_holds (fun _ h => by cases h) (by kernel_rfl) (fun _ h => by cases h) postTorn_row_tie rfl ⟨rfl, rfl⟩ (by kernel_rfl) rfl
    (fun f fn hf hfn => by
      obtain rfl : f = 9 := Option.some.inj ((show Tryz.prog.funcNamed "lagan/laganlaw08.PostTorn" = some 9 by kernel_rfl).symm.trans hf) |>.symm
      obtain rfl : fn = Tryz.f9 := (Option.some.inj (Tryz.func9.symm.trans hfn)).symm
      exact ⟨by kernel_rfl, fun j t ht => by
        rw [Tryz.params9] at ht
        have hm : t ∈ [3, 69, 69, 3] := by simpa using Array.mem_of_getElem? ht
        have hall : ([3, 69, 69, 3].all fun u => !Tryz.prog.wantsStandIn u) = true := by kernel_rfl
        exact (show Tryz.prog.wantsStandIn t = false by simpa using List.all_eq_true.1 hall t hm)⟩)
    (by kernel_rfl)
#print axioms postTorn_card_holds
end Go.Proofs.YtgjahnomafpnfaaGreatDoor
