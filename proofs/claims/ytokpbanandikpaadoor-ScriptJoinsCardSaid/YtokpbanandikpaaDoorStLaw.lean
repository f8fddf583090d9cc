/- ScriptJoins answers true at any two texts that came in, and leaves them as they were; there is no condition. -/
import Derived.Test.YtokpbanandikpaaDoorSt3
import Derived.Test.YtokpbanandikpaaDoorCards
import Derived.Test.YtokpbanandikpaaDoorTie
import Derived.SevenTiedAt
import Derived.Lib.Split
import Derived.Lib.CountLaws
import Derived.Lib.AtoiAllCases
import Derived.Lib.ItoaLen
import Derived.Laws.Strings
import Derived.Laws.BytesArg
import Derived.Below
import Derived.Lib.AtoiErrMem
import Derived.Deep.Draws
import Derived.Test.YtokpbanandikpaaDoorShelf
import Derived.Lib.IndexMore
import Derived.Test.YtokpbanandikpaaDoorRows
import Derived.Lib.LaidTab
import Derived.LaidLaws
import Derived.LaidHandle
import Derived.LaidMore
import Derived.Lay
import Derived.Stop.Joined
import Derived.HandedShaped
import Derived.Shelf.Vars
import Derived.OpenShut
import Derived.ProofKit
set_option linter.unusedVariables false
set_option linter.unusedSimpArgs false
set_option linter.all false

set_option maxRecDepth 100000
set_option linter.unusedVariables false
set_option linter.unusedSimpArgs false
namespace Go.Proofs.YtokpbanandikpaaDoor
open Go Go.V Go.Proofs
open Go.ChangeShapes Go.WideShapes Go.ChangeAt Go.RowKit
theorem joins_params : (Tryd.f7).params.toList = [9, 9] := by kernel_rfl
set_option maxHeartbeats 1000000 in
theorem scriptJoins_lifted (os : Os) (started : os.Started) (H : Type) (enc : TypeId × Value → H) :
    ReturnsInHanded {} Tryd.checked os 7 .any (fun w args => (Rows.scriptJoinsSpec.pre enc Tryd.prog Tryd.f7 Rows.scriptJoinsRow.domain false w args ∧ laidMetH Tryd.prog laidL w) ∧ sizedMet enc Tryd.prog Tryd.f7 (OpenSpec.ofChange Rows.scriptJoinsSpec) false w args) (Rows.scriptJoinsSpec.post enc Tryd.prog Tryd.f7 false true false false) := by
  refine returns_laid (C := Tryd.checked) (X := fun w _ => laidMetH Tryd.prog laidL w) (fun _ _ _ hh h => h.of_heap hh) own_ started (by kernel_rfl) Tryd.func7
    (ChangeSpec.witness_shaped (enc := enc) (C := Tryd.checked) (os := os) (X := fun w _ => laidMetH Tryd.prog laidL w) false (World.laidAll Tryd.prog os laidL) #[.string ⟨#[]⟩, .string ⟨#[]⟩] 8 (World.laidAll_os _ _ _)
      (World.shaped_of_ZipB (by kernel_rfl) (by kernel_rfl)) (by kernel_rfl) (by kernel_rfl) (by kernel_rfl)
      (by rw [MakeChecks.laidMetH_plain _ _ _ (by kernel_rfl)]; exact laidMet_laidAll _ (by kernel_rfl) (by kernel_rfl))) ?_
  intro W base args ds gs before hval0 hW hL hsh
  have hval : ∀ (j : Nat) t v, Tryd.f7.params[j]? = some t → args[j]? = some v → Value.okWide Tryd.prog W .any base t v := hval0
  have hW' := hW
  obtain ⟨p, q, hA0, hV, rfl, hfz, hnd⟩ := hW
  have hA : DataW.TrodAll enc Tryd.prog W 0 (fun _ => true) true Tryd.f7.params.toList args.toList ds p := hA0
  rw [joins_params] at hA
  obtain ⟨v0, v1, d0, d1, p0, p1, rfl, rfl, rfl, h0, h1⟩ := trodAll_two hA
  obtain ⟨rfl, rfl⟩ := trodVars_none hV
  have hp0 : Tryd.f7.params[0]? = some 9 := by kernel_rfl
  have hp1 : Tryd.f7.params[1]? = some 9 := by kernel_rfl
  obtain ⟨l, rfl, rfl, rfl, _⟩ := Go.ChangeMaps.open_string (by kernel_rfl) (hval 0 _ v0 hp0 rfl) h0
  obtain ⟨l2, rfl, rfl, rfl, _⟩ := Go.ChangeMaps.open_string (by kernel_rfl) (hval 1 _ v1 hp1 rfl) h1
  refine Calls.mono (lawJoins (a := l.data.toList) (b := l2.data.toList) (glb_of_laid hL hsh) (K := fun v w' => v = .bool true ∧ Old W w') fun w' ho => ⟨rfl, ho⟩) ?_
  rintro e W' ⟨v, rfl, rfl, ho⟩
  exact ⟨_, rfl, post_true (P := Tryd.prog) laid_ (by kernel_rfl) (tb := 4) (by kernel_rfl) (by kernel_rfl) rfl rfl rfl rfl hW' ho⟩
theorem scriptJoins_said : Rows.ScriptJoinsSaid :=
  OpenClaim.holds_of_wide 7 Tryd.f7 rfl rfl rfl rfl rfl rfl rfl ⟨rfl, rfl, rfl, rfl, rfl⟩ rfl rfl rfl rfl rfl (by kernel_rfl) Tryd.func7 (by kernel_rfl)
    (of_decide_eq_true (by kernel_rfl)) (by unfold Func.isWrapper; rw [if_neg (of_decide_eq_false (by kernel_rfl))]; exact ⟨rfl, rfl⟩)
    (fun os started H enc _ => scriptJoins_lifted os started H enc)
theorem scriptJoins_holds : Rows.ScriptJoinsCardSaid :=
  Claim7.holds_tied_plain_at .later [] [.data, .data, .data, .data, .sentinel, .sentinel, .widerDeep, .data, .pinned] true (true, "b0625a82f3ab108ac06f3e5a00d453b2774ce6ced41bf7131daac876e44fe0c5") true
    scriptJoins_said (fun _ h => by cases h) (by kernel_rfl) (fun _ h => by cases h) scriptJoins_row_tie rfl ⟨rfl, rfl⟩ (by kernel_rfl) rfl
    (fun f fn hf hfn => by
      obtain rfl : f = 7 := Option.some.inj ((show Tryd.prog.funcNamed "besom/besomlaw17.ScriptJoins" = some 7 by kernel_rfl).symm.trans hf) |>.symm
      obtain rfl : fn = Tryd.f7 := (Option.some.inj (Tryd.func7.symm.trans hfn)).symm
      exact ⟨by kernel_rfl, fun j t ht => by
        have hm : t ∈ [9, 9] := by rw [← joins_params]; exact Array.mem_toList_iff.2 (Array.mem_of_getElem? ht)
        have hall : ([9, 9].all fun u => !Tryd.prog.wantsStandIn u) = true := by kernel_rfl
        exact (show Tryd.prog.wantsStandIn t = false by simpa using List.all_eq_true.1 hall t hm)⟩)
    (by kernel_rfl)

end Go.Proofs.YtokpbanandikpaaDoor
