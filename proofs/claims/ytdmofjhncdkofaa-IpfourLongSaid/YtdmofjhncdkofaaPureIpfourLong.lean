/- Header and body are refused just if they have more than 2^16 - 1 bytes. Conditions: none beyond the statement's own. -/

import Derived.Test.YtdmofjhncdkofaaLAt
import Derived.Test.YtdmofjhncdkofaaL06
import Derived.Test.YtdmofjhncdkofaaQx7
namespace Go.Proofs.Ytdmofjhncdkofaa.Pure
open Go Go.RowKit Go.Proofs.Ytdmofjhncdkofaa.Q Go.Proofs.Ytdmofjhncdkofaa.Base Go.Proofs.Ytdmofjhncdkofaa.L04 Go.Proofs.Ytdmofjhncdkofaa.LAt Go.Proofs.Ytdmofjhncdkofaa.L06 Go.Proofs.YtdmofjhncdkofaaW.PrintWords Go.Proofs.YtdmofjhncdkofaaW.PrintMore
set_option linter.unusedVariables false
set_option linter.unusedSimpArgs false
theorem wf8 {n : Int} (h : (Lit.int .i8 n).wf = true) : -128 ≤ n ∧ n ≤ 127 := by
  simp only [Lit.wf, Bool.and_eq_true, decide_eq_true_eq] at h
  have h1 : IntKind.i8.min = -128 := rfl
  have h2 : IntKind.i8.max = 127 := rfl
  omega
theorem IpfourLong : rillmeterlaw06_IpfourLong.Pure := by
  intro n hn
  have hN := wf8 hn
  refine ⟨260, ?_⟩
  unfold rillmeterlaw06_IpfourLong.f
  have e1 : wrap64 n = n := w64 (by omega) (by omega)
  have e2 : wrap64 (65515 + n) = 65515 + n := w64 (by omega) (by omega)
  have e3 : wrap64 (65515 + n + 20) = 65515 + n + 20 := w64 (by omega) (by omega)
  rw [e1, e2, e3, if_pos (by omega), if_pos (by omega)]
  obtain ⟨b, hbd⟩ : ∃ b, strOfNums (List.replicate (65515 + n).toNat 0) = b := ⟨_, rfl⟩
  have hs : b.size = (65515 + n).toNat := by rw [← hbd, strOfNums_size, List.length_replicate]
  rw [hbd]
  have hp := put4_eq ⟨0, 0, 0, 0, 0, 0, ⟨#[97, 97, 97, 97]⟩, ⟨#[98, 98, 98, 98]⟩, ⟨#[]⟩⟩ b (by decide) (by omega) 260 (by omega)
  have hr : right ⟨0, 0, 0, 0, 0, 0, ⟨#[97, 97, 97, 97]⟩, ⟨#[98, 98, 98, 98]⟩, ⟨#[]⟩⟩ := by decide
  have ho : ∀ H : H4, H = ⟨0, 0, 0, 0, 0, 0, ⟨#[97, 97, 97, 97]⟩, ⟨#[98, 98, 98, 98]⟩, ⟨#[]⟩⟩ → H.opt.size = 0 := by rintro H rfl; rfl
  generalize hH : (⟨0, 0, 0, 0, 0, 0, ⟨#[97, 97, 97, 97]⟩, ⟨#[98, 98, 98, 98]⟩, ⟨#[]⟩⟩ : H4) = H at hp hr
  have ho' := ho H hH.symm
  have hp' : ipfour_Put.f 260 0 0 0 0 0 0 ⟨#[97, 97, 97, 97]⟩ ⟨#[98, 98, 98, 98]⟩ ⟨#[]⟩ b = some (put4S H b) := by rw [← hp, ← hH]
  rw [hp', Option.bind_some]
  by_cases h : 65515 + n > 65515
  · have e : put4S H b = (mkB [], 1) := by
      unfold put4S
      rw [if_neg (fun o : ok4 H b => by have := o.2; omega)]
    rw [if_pos h, e]
    simp only [mkB_toList, if_true]
    rw [L06.awake_eq _ (by omega)]; rfl
  · have e : put4S H b = (mkB (put4 H b), 0) := by
      unfold put4S
      rw [if_pos (show ok4 H b from ⟨hr, by omega⟩)]
    rw [if_neg h, e]
    simp only [mkB_size, put4, List.length_append, head_length, two_length, tail_length hr, len, hs, ho']
    rw [if_pos (by omega), if_pos trivial, L06.awake_eq _ (by omega)]; rfl
end Go.Proofs.Ytdmofjhncdkofaa.Pure
