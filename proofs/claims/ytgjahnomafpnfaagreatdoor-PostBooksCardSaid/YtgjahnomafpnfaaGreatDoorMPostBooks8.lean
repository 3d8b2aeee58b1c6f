/- The law PostBooks: its row and its tied card: for every input the law returns true; no condition but what the row lists (package-level variables as the program's text lays them). -/
import Derived.Test.YtgjahnomafpnfaaGreatDoorMPostBooks3
import Derived.Test.YtgjahnomafpnfaaGreatDoorMPostBooks6
import Derived.Test.YtgjahnomafpnfaaGreatDoorTie
import Derived.Test.YtgjahnomafpnfaaGreatDoorMPostBooks7
import Derived.Test.YtgjahnomafpnfaaGreatDoorCards
import Derived.SevenTiedAt
set_option linter.unusedVariables false
set_option linter.unusedSimpArgs false
/- The law PostBooks: its row and its tied card: for every input the law returns true; no condition but what the row lists (package-level variables as the program's text lays them). -/
namespace Go.Proofs.YtgjahnomafpnfaaGreatDoor
open Go.ChangeShapes Go.WideShapes Go.ChangeAt Go.ChangeMaps Go.RowKit
set_option maxHeartbeats 400000 in
set_option maxRecDepth 100000 in
theorem postBooks_lifted (os : Os) (started : os.Started) (H : Type) (enc : TypeId × Value → H) :
    ReturnsInHanded {} Tryz.checked os 8 .any (fun w args => (Rows.postBooksSpec.pre enc Tryz.prog Tryz.f8 [] false w args ∧ laidMetH Tryz.prog laidAll w) ∧ sizedMet enc Tryz.prog Tryz.f8 (OpenSpec.ofChange Rows.postBooksSpec) false w args)
      (Rows.postBooksSpec.post enc Tryz.prog Tryz.f8 false true false false) := by
  refine returnsInHanded_of_law (C := Tryz.checked) (X := fun w _ => laidMetH Tryz.prog laidAll w) (fun _ _ _ hh h => h.of_heap hh) ownKnobNone started (by kernel_rfl) Tryz.func8
    (ChangeSpec.witness_shaped (enc := enc) (C := Tryz.checked) (os := os) (X := fun w _ => laidMetH Tryz.prog laidAll w) false (World.laidAll Tryz.prog os laidAll) #[.int .i64 0, .slice none 0 0, .int .i64 0, .agg #[.int .i64 0, .int .i64 0, .int .i64 0, .int .i64 0, .int .i64 0]] 8 (World.laidAll_os _ _ _)
      (shaped_all os _) (by kernel_rfl) (by kernel_rfl) (by kernel_rfl) (met_all os _)) ?_
  intro W base args ds gs before hval0 hW _ hL hS
  have hval : ∀ (j : Nat) t v, Tryz.f8.params[j]? = some t → args[j]? = some v → Value.okWide Tryz.prog W .any base t v := hval0
  have hW' := hW
  obtain ⟨p, q, hA0, hV, rfl, _, _⟩ := hW
  have hA : DataW.TrodAll enc Tryz.prog W 0 (fun _ => true) true Tryz.f8.params.toList args.toList ds p := hA0
  rw [Tryz.params8] at hA hval
  have hA1 := hA
  obtain ⟨v0, v1, v2, v3, d0, d1, d2, d3, p0, p1, p2, p3, rfl, rfl, rfl, g0, g1, g2, g3⟩ := trodAll_four hA
  obtain ⟨rfl, rfl⟩ := trodVars_none hV
  obtain ⟨x0, rfl, rfl, rfl, wx0⟩ := open_int Tryz.underlying3 (hval 0 3 v0 rfl rfl) g0
  have b0 := bounds_i64 wx0
  obtain ⟨x1, h1, b1⟩ := slR_of (hval 1 23 v1 rfl rfl) g1
  obtain ⟨x2, rfl, rfl, rfl, wx2⟩ := open_int Tryz.underlying3 (hval 2 3 v2 rfl rfl) g2
  have b2 := bounds_i64 wx2
  obtain ⟨s0, s1, s2, s3, s4, rfl, b3⟩ := stock_of (hval 3 26 v3 rfl rfl) g3
  simp only [List.append_nil] at hW' hA1
  refine (PostBooks_any (laid_of hS hL) x0 v1 x1 x2 s0 s1 s2 s3 s4 h1).mono fun e W' ⟨he, hb⟩ => ?_
  subst he
  exact ⟨_, rfl, _, _, _, [], _, [], hW', trodAll_mk1 (shut_bool Tryz.underlying4 _), trodAll_stays hb (by kernel_rfl) hA1 (fun x hx => by simpa using hW'.lt x hx), rfl, Below.frame hb _, fun h => by cases h⟩
theorem postBooks_holds : Rows.PostBooksSaid :=
  OpenClaim.holds_of_wide 8 Tryz.f8 rfl rfl rfl rfl rfl rfl rfl ⟨rfl, rfl, rfl, rfl, rfl⟩ rfl rfl rfl rfl rfl (by kernel_rfl) Tryz.func8 postBooks_facts
    (of_decide_eq_true (by kernel_rfl)) (by unfold Func.isWrapper; first | (rw [if_pos (by decide +kernel)]; kernel_rfl) | (rw [if_neg (by decide +kernel)]; exact ⟨rfl, rfl⟩))
    (fun os started H enc _ => postBooks_lifted os started H enc)
theorem postBooks_card_holds : Rows.PostBooksCardSaid :=
  Claim7.holds_tied_plain_at .later [] [.data, .data, .data, .data, .sentinel, .sentinel, .pinned] true (true, "5602a450e1ab95971c0953086e83602e1da3cc71aa9ac35c473bc850be45bc02") true postBooks_holds (fun _ h => by cases h) (by kernel_rfl) (fun _ h => by cases h) postBooks_row_tie rfl ⟨rfl, rfl⟩ (by kernel_rfl) rfl
    (fun f fn hf hfn => by
      obtain rfl : f = 8 := Option.some.inj ((show Tryz.prog.funcNamed "lagan/laganlaw08.PostBooks" = some 8 by kernel_rfl).symm.trans hf) |>.symm
      obtain rfl : fn = Tryz.f8 := (Option.some.inj (Tryz.func8.symm.trans hfn)).symm
      exact ⟨by kernel_rfl, fun j t ht => by
        rw [Tryz.params8] at ht
        have hm : t ∈ [3, 23, 3, 26] := by simpa using Array.mem_of_getElem? ht
        have hall : ([3, 23, 3, 26].all fun u => !Tryz.prog.wantsStandIn u) = true := by kernel_rfl
        exact (show Tryz.prog.wantsStandIn t = false by simpa using List.all_eq_true.1 hall t hm)⟩)
    (by kernel_rfl)
#print axioms postBooks_card_holds
end Go.Proofs.YtgjahnomafpnfaaGreatDoor
