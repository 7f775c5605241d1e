/- What stands behind the 40 bytes is refused just if it has more than 65535. Conditions: none beyond the statement's own. -/
import Derived.Test.YtmjpemnlilcpkaaBase
import Derived.Test.YtmjpemnlilcpkaaL7
import Derived.Test.YtmjpemnlilcpkaaQx24
namespace Go.Proofs.Ytmjpemnlilcpkaa.Pure
open Go Go.RowKit Go.Proofs.Ytmjpemnlilcpkaa.Q Go.Proofs.Ytmjpemnlilcpkaa.Base Go.Proofs.Ytmjpemnlilcpkaa.L07 Go.Proofs.Ytmjpemnlilcpkaa.LAt Go.Proofs.YtmjpemnlilcpkaaW.PrintWords Go.Proofs.YtmjpemnlilcpkaaW.PrintMore
set_option linter.unusedVariables false
set_option linter.unusedSimpArgs false
def hL : H6 := ⟨0, 0, 0, 59, ⟨#[115, 115, 115, 115, 115, 115, 115, 115, 115, 115, 115, 115, 115, 115, 115, 115]⟩, ⟨#[100, 100, 100, 100, 100, 100, 100, 100, 100, 100, 100, 100, 100, 100, 100, 100]⟩, []⟩
theorem IpsixLong : rillmeterlaw07_IpsixLong.Pure := by
  intro m hm
  refine ⟨60, ?_⟩
  have hw : -128 ≤ m ∧ m ≤ 127 := by
    simp only [Lit.wf, Bool.and_eq_true, decide_eq_true_eq] at hm
    have h1 : IntKind.i8.min = -128 := rfl
    have h2 : IntKind.i8.max = 127 := rfl
    omega
  unfold rillmeterlaw07_IpsixLong.f
  rw [w64 (n := m) (by omega) (by omega), w64 (n := 65535 + m) (by omega) (by omega), w64 (by omega) (by omega), if_pos (by omega), if_pos (by omega)]
  obtain ⟨n, hn⟩ : ∃ n : Nat, n = (65535 + m).toNat := ⟨_, rfl⟩
  obtain ⟨b, hb⟩ : ∃ b, b = strOfNums (List.replicate (65535 + m).toNat 0) := ⟨_, rfl⟩
  have hbz : b.size = n := by rw [hb, nums_mkB, mkB_size, List.length_map, List.length_replicate, hn]
  rw [← hb]
  have hs : small hL.ch := ⟨by decide, fun p hp => by cases hp⟩
  have hr : right hL = true := by decide +kernel
  have e1 := put6_eq hL hs b (by omega) 60 (by decide)
  refine (congrArg (fun x => Option.bind x _) e1).trans ?_
  rw [Option.bind_some]
  by_cases c : 65535 + m > 65535
  · rw [if_pos c, put6S_no (fun q => by have := q.2; unfold fits at this; change 0 + b.size ≤ 65535 at this; omega)]
    dsimp only
    rw [mkB_toList, if_pos rfl, if_pos rfl, L07.awake_eq _ (by omega)]; rfl
  · have hf : fits hL b := by unfold fits; change 0 + b.size ≤ 65535; omega
    have hl := put6_length hL ((right_iff hL).mp hr).2 b
    change _ = 40 + (0 + b.size) at hl
    rw [if_neg c, put6S_yes hr hf]
    dsimp only
    rw [if_pos (by rw [mkB_size]; omega), if_pos rfl, L07.awake_eq _ (by omega)]; rfl
end Go.Proofs.Ytmjpemnlilcpkaa.Pure
