/- Any flow has the key that the reference says, or is refused. Conditions: none beyond the statement's own. -/
import Derived.Test.YtfdhifigndmgaaaBase
import Derived.Test.YtfdhifigndmgaaaCFlowKeys
import Derived.Test.YtfdhifigndmgaaaQx9
namespace Go.Proofs.Ytfdhifigndmgaaa.Pure
open Go Go.RowKit Go.Proofs.Ytfdhifigndmgaaa.Q Go.Proofs.Ytfdhifigndmgaaa.Base Go.Proofs.Ytfdhifigndmgaaa.LAt Go.Proofs.Ytfdhifigndmgaaa.L09 Go.Proofs.YtfdhifigndmgaaaW.PrintWords Go.Proofs.YtfdhifigndmgaaaW.PrintMore
set_option linter.unusedVariables false
set_option linter.unusedSimpArgs false
theorem FlowKeys (src dst : ByteArray) (proto sp dp : Int) (_ : src.size ≤ 140737488351232) (_ : dst.size ≤ 140737488351232) (_ : (Lit.int .i64 proto).wf = true) (_ : (Lit.int .i64 sp).wf = true) (_ : (Lit.int .i64 dp).wf = true) :
    ∃ k, rillmeterlaw09_FlowKeys.f k src dst proto sp dp = some true := by
  obtain ⟨f, hf⟩ : ∃ f : Fl, f = ⟨src, dst, proto, sp, dp⟩ := ⟨_, rfl⟩
  refine ⟨60, ?_⟩
  have e1 := key_eq ⟨src, dst, proto, sp, dp⟩ 60 (by omega)
  have e2 := refright_eq ⟨src, dst, proto, sp, dp⟩ 56
  have e3 := fright_eq ⟨src, dst, proto, sp, dp⟩ 60 (by omega)
  dsimp only at e1 e2 e3
  rw [← hf] at e1 e2 e3
  unfold rillmeterlaw09_FlowKeys.f
  rw [e1, Option.bind_some, e2, Option.bind_some, e3, Option.bind_some, if_neg (by simp)]
  by_cases ho : okF f
  · obtain ⟨o1, o2⟩ := of_key f ho
    have e4 := refkey_eq f ho
    rw [hf] at e4
    dsimp only at e4
    rw [← hf] at e4
    have ek : keyS f = (mkB (keyL f), 0) := by unfold keyS; rw [if_pos ho]
    have x1 : (mkB (keyL f)).extract 0 16 = src := by have := congrArg Fl.src o1; rw [hf] at this ⊢; exact this
    have x2 : (mkB (keyL f)).extract 16 32 = dst := by have := congrArg Fl.dst o1; rw [hf] at this ⊢; exact this
    rw [decide_eq_true ho, if_pos rfl, ek]
    dsimp only
    rw [of_eq _ o2 _ (by omega), Option.bind_some, e4, Option.bind_some, if_pos rfl, if_pos rfl, o1]
    rw [show f.src = src by rw [hf], show f.dst = dst by rw [hf], show f.proto = proto by rw [hf], show f.sp = sp by rw [hf], show f.dp = dp by rw [hf]]
    rw [if_pos (by simp), if_pos rfl, source_eq, if_pos o2, Option.bind_some, x1, if_pos rfl, target_eq, if_pos o2, Option.bind_some, x2, if_pos rfl, L09.awake_eq _ (by omega)]; rfl
  · have ek : keyS f = (mkB [], 1) := by unfold keyS; rw [if_neg ho]
    rw [decide_eq_false ho, if_neg (by decide), ek]
    dsimp only
    rw [mkB_toList, if_pos rfl, if_pos rfl, L09.awake_eq _ (by omega)]; rfl
end Go.Proofs.Ytfdhifigndmgaaa.Pure
