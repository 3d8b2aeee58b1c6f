/- The law PostNil: its row and its tied card: for every input the law returns true; no condition but what the row lists (package-level variables as the program's text lays them). -/
import Derived.Test.YtgjahnomafpnfaaGreatDoorMB8
import Derived.Test.YtgjahnomafpnfaaGreatDoorTie
import Derived.Test.YtgjahnomafpnfaaGreatDoorCards
import Derived.SevenTiedAt
import Derived.ChangeMaps5
set_option linter.unusedVariables false
set_option linter.unusedSimpArgs false
/- Methods of nil disks and stations; PostNil's walk. -/
namespace Go.Proofs.YtgjahnomafpnfaaGreatDoor
open Go.RowKit
set_option maxHeartbeats 400000 in
set_option maxRecDepth 100000 in
theorem Read_nil (i : Int) (w : World) : Calls Tryz.prog 35 #[.pointer none, .int .i64 i] w fun e w' => e = .returned (.tuple #[.slice none 0 0, .int .i64 3]) ∧ w' = w := by
  go_enter Tryz.func35, Tryz.ntmps35
  go_wp2_with (first | (go_at_call 90; refine (ready_nil _).mono ?_; rintro e w' ⟨rfl, rfl⟩))
  go_ret2
  exact ⟨rfl, rfl⟩
set_option maxHeartbeats 400000 in
set_option maxRecDepth 100000 in
theorem Write_nilX (i : Int) (a : Option Addr) (l c : Nat) (w : World) : Calls Tryz.prog 36 #[.pointer none, .int .i64 i, .slice a l c] w fun e w' => e = .returned (.int .i64 3) ∧ w' = w := by
  go_enter Tryz.func36, Tryz.ntmps36
  go_wp2_with (first | (go_at_call 90; refine (ready_nil _).mono ?_; rintro e w' ⟨rfl, rfl⟩))
  go_ret
  exact ⟨rfl, rfl⟩
set_option maxHeartbeats 400000 in
set_option maxRecDepth 100000 in
theorem Stop_nil (i : Int) (w : World) : Calls Tryz.prog 38 #[.pointer none, .int .i64 i] w fun e w' => e = .returned (.int .i64 3) ∧ w' = w := by
  go_enter Tryz.func38, Tryz.ntmps38
  go_wp2_with (first | (go_at_call 90; refine (ready_nil _).mono ?_; rintro e w' ⟨rfl, rfl⟩))
  go_ret
  exact ⟨rfl, rfl⟩
set_option maxHeartbeats 400000 in
set_option maxRecDepth 100000 in
theorem Crash_nil (a : Option Addr) (l c : Nat) (w : World) : Calls Tryz.prog 39 #[.pointer none, .slice a l c] w fun e w' => e = .returned (.tuple #[]) ∧ w' = w := by
  go_enter Tryz.func39, Tryz.ntmps39
  go_wp2
  exact bodyPost_ret (results_none rfl _ _ _) rfl ⟨rfl, rfl⟩
set_option maxHeartbeats 400000 in
set_option maxRecDepth 100000 in
theorem Down_nil (w : World) : Calls Tryz.prog 42 #[.pointer none] w fun e w' => e = .returned (.bool true) ∧ w' = w := by
  go_enter Tryz.func42, Tryz.ntmps42
  go_wp2
  go_ret
  exact ⟨rfl, rfl⟩
set_option maxHeartbeats 400000 in
set_option maxRecDepth 100000 in
theorem Own_nil (w : World) : Calls Tryz.prog 33 #[.pointer none] w fun e w' => e = .returned (.slice none 0 0) ∧ w' = w := by
  go_enter Tryz.func33, Tryz.ntmps33
  go_wp2
  go_ret
  exact ⟨rfl, rfl⟩
theorem build26 (w : World) : (Instr.build 26 #[]).run Tryz.prog w = .ok (.agg #[.int .i64 0, .int .i64 0, .int .i64 0, .int .i64 0, .int .i64 0]) w := run_build w 26 #[] _ (by kernel_rfl)
theorem eql26z (w : World) : (binOp .eql 26 (.agg #[.int .i64 0, .int .i64 0, .int .i64 0, .int .i64 0, .int .i64 0]) (.agg #[.int .i64 0, .int .i64 0, .int .i64 0, .int .i64 0, .int .i64 0])).run Tryz.prog w = .ok (.bool true) w := by kernel_rfl
set_option maxHeartbeats 1600000 in
set_option maxRecDepth 100000 in
theorem PostNil_any {B : Nat} {w : World} (hL : Laid B w) (sector hour : Int) (text : ByteArray) :
    Calls Tryz.prog 6 #[.int .i64 sector, .string text, .int .i64 hour] w fun e w' => e = .returned (.bool true) ∧ Ext w w' := by
  have HL := Lib.hid hL
  clear hL
  by_cases hs : 300 < text.size
  · have hs' : (300 : Int) < text.size := by omega
    go_enter Tryz.func6, Tryz.ntmps6
    go_wp2_with fail
    refine (alive_any HL.out).mono ?_
    rintro e w1 ⟨rfl, hE⟩
    go_wp2
    go_ret
    exact ⟨rfl, hE⟩
  · have hs' : ¬ (300 : Int) < text.size := by omega
    have hconv := fun w => run_bytes_of_string (P := Tryz.prog) w 9 69 5 text Tryz.underlying9 Tryz.underlying69 Tryz.underlying5
    have hbu := build26
    have heq := eql26z
    go_enter Tryz.func6, Tryz.ntmps6
    have hBx : Ext w ((w.alloc (.cells (bytesRow text (grownCap w text.size 0 5)) 5 ((bytesRow text (grownCap w text.size 0 5)).size, (bytesRow text (grownCap w text.size 0 5)).size + 1))).drew) := (Ext.alloc _ _).trans (Ext.drew _)
    have HBx := Lib.hid hBx
    clear hBx
    go_wp2_with (first | (go_at_call 35; refine (Read_nil _ _).mono ?_; rintro e w' ⟨rfl, hw⟩; subst hw) | (go_at_call 36; refine (Write_nilX _ _ _ _ _).mono ?_; rintro e w1 ⟨rfl, hw⟩; subst hw) | (go_at_call 37; refine (Flush_nil _).mono ?_; rintro e w' ⟨rfl, rfl⟩) | (go_at_call 38; refine (Stop_nil _ _).mono ?_; rintro e w' ⟨rfl, rfl⟩) | (go_at_call 39; refine (Crash_nil _ _ _ _).mono ?_; rintro e w' ⟨rfl, rfl⟩) | (go_at_call 40; refine (Add_nil _ _ _).mono ?_; rintro e w' ⟨rfl, rfl⟩) | (go_at_call 22; refine (Hear_nil _ _).mono ?_; rintro e w' ⟨rfl, rfl⟩) | (go_at_call 41; refine (Open_nil _ _ _ (by decide) (by decide)).mono ?_; rintro e w' ⟨rfl, rfl⟩))
    generalize (w'.alloc (.cells (bytesRow text (grownCap w' text.size 0 5)) 5 ((bytesRow text (grownCap w' text.size 0 5)).size, (bytesRow text (grownCap w' text.size 0 5)).size + 1))).drew = W1 at HBx ⊢
    refine (alive_any (HL.out.ext HBx.out)).mono ?_
    rintro e W2 ⟨rfl, hE⟩
    have HE2 : RowKit.Hid (Ext w' W2) := Lib.hid (HBx.out.trans hE)
    clear hE
    go_wp2_with (first | (go_at_call 42; refine (Down_nil _).mono ?_; rintro e w1 ⟨rfl, rfl⟩) | (go_at_call 20; refine (Records_nil _).mono ?_; rintro e w1 ⟨rfl, rfl⟩) | (go_at_call 33; refine (Own_nil _).mono ?_; rintro e w1 ⟨rfl, rfl⟩) | (go_at_call 43; refine (Have_nil _).mono ?_; rintro e W3 ⟨rfl, hE3⟩; have HE3 := Lib.hid hE3; clear hE3) | (go_at_call 34; refine (Greeting_nil _).mono ?_; rintro e w1 ⟨rfl, rfl⟩))
    go_ret
    exact ⟨rfl, HE2.out.trans HE3.out⟩
end Go.Proofs.YtgjahnomafpnfaaGreatDoor

/- The law PostNil: its row and its tied card: for every input the law returns true; no condition but what the row lists (package-level variables as the program's text lays them). -/
namespace Go.Proofs.YtgjahnomafpnfaaGreatDoor
open Go.ChangeShapes Go.WideShapes Go.ChangeAt Go.ChangeMaps Go.RowKit
set_option maxRecDepth 100000 in
theorem postNil_lifted (os : Os) (started : os.Started) (H : Type) (enc : TypeId × Value → H) :
    ReturnsInHanded {} Tryz.checked os 6 .any (fun w args => (Rows.postNilSpec.pre enc Tryz.prog Tryz.f6 [] false w args ∧ laidMetH Tryz.prog laidAll w) ∧ sizedMet enc Tryz.prog Tryz.f6 (OpenSpec.ofChange Rows.postNilSpec) false w args)
      (Rows.postNilSpec.post enc Tryz.prog Tryz.f6 false true false false) := by
  refine returnsInHanded_of_law (C := Tryz.checked) (X := fun w _ => laidMetH Tryz.prog laidAll w) (fun _ _ _ hh h => h.of_heap hh) ownKnobNone started (by kernel_rfl) Tryz.func6
    (ChangeSpec.witness_shaped (enc := enc) (C := Tryz.checked) (os := os) (X := fun w _ => laidMetH Tryz.prog laidAll w) false (World.laidAll Tryz.prog os laidAll) #[.int .i64 0, .string ⟨#[]⟩, .int .i64 0] 8 (World.laidAll_os _ _ _)
      (shaped_all os _) (by kernel_rfl) (by kernel_rfl) (by kernel_rfl) (met_all os _)) ?_
  intro W base args ds gs before hval0 hW _ hL hS
  have hval : ∀ (j : Nat) t v, Tryz.f6.params[j]? = some t → args[j]? = some v → Value.okWide Tryz.prog W .any base t v := hval0
  have hW' := hW
  obtain ⟨p, q, hA0, hV, rfl, _, _⟩ := hW
  have hA : DataW.TrodAll enc Tryz.prog W 0 (fun _ => true) true Tryz.f6.params.toList args.toList ds p := hA0
  rw [Tryz.params6] at hA hval
  obtain ⟨v0, v1, v2, d0, d1, d2, p0, p1, p2, rfl, rfl, rfl, h0, h1, h2⟩ := trodAll_three hA
  obtain ⟨rfl, rfl⟩ := trodVars_none hV
  obtain ⟨x, rfl, rfl, rfl, wx⟩ := open_int Tryz.underlying3 (hval 0 3 v0 rfl rfl) h0
  obtain ⟨s, rfl, rfl, rfl, hs⟩ := open_string Tryz.underlying9 (hval 1 9 v1 rfl rfl) h1
  obtain ⟨y, rfl, rfl, rfl, wy⟩ := open_int Tryz.underlying3 (hval 2 3 v2 rfl rfl) h2
  simp only [List.append_nil] at hW'
  refine (PostNil_any (laid_of hS hL) x y s).mono fun e W' ⟨he, hb⟩ => ?_
  subst he
  exact ⟨_, rfl, _, _, _, [], [], [], hW', trodAll_mk1 (shut_bool Tryz.underlying4 _), trodAll_mk3 (shut_int Tryz.underlying3 wx) (shut_string Tryz.underlying9 hs) (shut_int Tryz.underlying3 wy), rfl, Below.frame hb _, fun h => by cases h⟩
theorem postNil_holds : Rows.PostNilSaid :=
  OpenClaim.holds_of_wide 6 Tryz.f6 rfl rfl rfl rfl rfl rfl rfl ⟨rfl, rfl, rfl, rfl, rfl⟩ rfl rfl rfl rfl rfl (by kernel_rfl) Tryz.func6 (by kernel_rfl)
    (of_decide_eq_true (by kernel_rfl)) (by unfold Func.isWrapper; first | (rw [if_pos (by decide +kernel)]; kernel_rfl) | (rw [if_neg (by decide +kernel)]; exact ⟨rfl, rfl⟩))
    (fun os started H enc _ => postNil_lifted os started H enc)
theorem postNil_card_holds : Rows.PostNilCardSaid :=
  Claim7.holds_tied_plain_at .later [] [.data, .data, .data, .data, .sentinel, .sentinel, .pinned] true (true, "5602a450e1ab95971c0953086e83602e1da3cc71aa9ac35c473bc850be45bc02") true postNil_holds (fun _ h => by cases h) (by kernel_rfl) (fun _ h => by cases h) postNil_row_tie rfl ⟨rfl, rfl⟩ (by kernel_rfl) rfl
    (fun f fn hf hfn => by
      obtain rfl : f = 6 := Option.some.inj ((show Tryz.prog.funcNamed "lagan/laganlaw08.PostNil" = some 6 by kernel_rfl).symm.trans hf) |>.symm
      obtain rfl : fn = Tryz.f6 := (Option.some.inj (Tryz.func6.symm.trans hfn)).symm
      exact ⟨by kernel_rfl, fun j t ht => by
        rw [Tryz.params6] at ht
        have hm : t ∈ [3, 9, 3] := by simpa using Array.mem_of_getElem? ht
        have hall : ([3, 9, 3].all fun u => !Tryz.prog.wantsStandIn u) = true := by kernel_rfl
        exact (show Tryz.prog.wantsStandIn t = false by simpa using List.all_eq_true.1 hall t hm)⟩)
    (by kernel_rfl)
#print axioms postNil_card_holds
end Go.Proofs.YtgjahnomafpnfaaGreatDoor
