/- TallyForms answers true at every graph and every number that came in, and leaves them as they were; there is no condition. -/
import Derived.Test.YtokpbanandikpaaTf4
import Derived.Test.YtokpbanandikpaaRows
import Derived.Deep.Slices
import Derived.ChangeArms
set_option linter.unusedVariables false
set_option linter.unusedSimpArgs false
set_option linter.all false

set_option maxRecDepth 100000
set_option linter.unusedVariables false
set_option linter.unusedSimpArgs false
namespace Go.Proofs.Ytokpbanandikpaa
open Go Go.V Go.Proofs
open Go.ChangeShapes Go.WideShapes Go.ChangeAt Go.RowKit
theorem own_ : ownKnob Try.prog.godebug = none := by kernel_rfl
theorem laid_ : laidOutB Try.prog = true := by kernel_rfl
theorem tf_params : (Try.f3).params.toList = [25, 5] := by kernel_rfl
theorem tallyForms_lifted (os : Os) (started : os.Started) (H : Type) (enc : TypeId × Value → H) :
    ReturnsInHanded {} Try.checked os 3 .any (Rows.tallyFormsSpec.pre6 enc Try.prog Try.f3 Rows.tallyFormsRow.domain false) (Rows.tallyFormsSpec.post enc Try.prog Try.f3 false true false false) := by
  refine returnsInHanded_of_change (C := Try.checked) own_ started (by kernel_rfl) Try.func3
    (ChangeSpec.witness6 (enc := enc) (C := Try.checked) false ⟨#[], #[.agg #[.slice none 0 0, .slice none 0 0], .int .u8 0], []⟩ 8 (by kernel_rfl) (by kernel_rfl) (by kernel_rfl) (by kernel_rfl)) ?_
  intro W base args ds gs before hval0 hW hcnd _
  have hval : ∀ (j : Nat) t v, Try.f3.params[j]? = some t → args[j]? = some v → Value.okWide Try.prog W .any base t v := hval0
  have hW' := hW
  obtain ⟨p, q, hA0, hV, rfl, hfz, hnd⟩ := hW
  have hA : DataW.TrodAll enc Try.prog W 0 (fun _ => true) true Try.f3.params.toList args.toList ds p := hA0
  rw [tf_params] at hA
  obtain ⟨v0, v1, d0, d1, p0, p1, rfl, rfl, rfl, h0, h1⟩ := trodAll_two hA
  obtain ⟨rfl, rfl⟩ := trodVars_none hV
  have hp0 : Try.f3.params[0]? = some 25 := by kernel_rfl
  have hp1 : Try.f3.params[1]? = some 5 := by kernel_rfl
  obtain ⟨np, rp, nc, rl, rc, ns, rs, rfl, g1, g2, g3, g4, g5, g6⟩ := open_graph (hval 0 _ v0 hp0 rfl) h0
  obtain ⟨b, rfl, rfl, rfl, wb⟩ := open_int (k := .u8) (by kernel_rfl) (hval 1 _ v1 hp1 rfl) h1
  refine Calls.mono (tallyForms_ret (more := b) g1 rfl g2 (Nat.le_trans g3 (by simp [maxLen])) g4 g5 g6 (wf_u8 wb) (K := fun v w' => v = .bool true ∧ Old W w') fun w' ho => ⟨rfl, ho⟩) ?_
  rintro e W' ⟨v, rfl, rfl, ho⟩
  exact ⟨_, rfl, post_true (P := Try.prog) laid_ (by kernel_rfl) (tb := 4) (by kernel_rfl) (by kernel_rfl) rfl rfl rfl rfl hW' ho⟩
theorem tallyForms_holds : Rows.TallyFormsSaid :=
  OpenClaim.holds_of_wide 3 Try.f3 rfl rfl rfl rfl rfl rfl rfl ⟨rfl, rfl, rfl, rfl, rfl⟩ rfl rfl rfl rfl rfl (by kernel_rfl) Try.func3 (by kernel_rfl)
    (of_decide_eq_true (by kernel_rfl)) (by unfold Func.isWrapper; rw [if_neg (of_decide_eq_false (by kernel_rfl))]; exact ⟨rfl, rfl⟩)
    (fun os started H enc _ => tallyForms_lifted os started H enc)

end Go.Proofs.Ytokpbanandikpaa
