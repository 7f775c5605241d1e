/- A frame that was taken, written again, gives the same bytes; a refused one is empty. Conditions: none beyond the statement's own. -/
import Derived.Test.YtngcelombflnfaaLAt
import Derived.Test.YtngcelombflnfaaL05
import Derived.Test.YtngcelombflnfaaL05b
import Derived.Test.YtngcelombflnfaaQx19
namespace Go.Proofs.Ytngcelombflnfaa.Pure
open Go Go.RowKit Go.Proofs.Ytngcelombflnfaa.Q Go.Proofs.Ytngcelombflnfaa.Base Go.Proofs.Ytngcelombflnfaa.LAt Go.Proofs.Ytngcelombflnfaa.L05 Go.Proofs.YtngcelombflnfaaW.PrintWords Go.Proofs.YtngcelombflnfaaW.PrintMore
set_option linter.unusedVariables false
set_option linter.unusedSimpArgs false
theorem EtherBack : rillmeterlaw05_EtherBack.Pure := by
  intro s hs
  refine ⟨62, ?_⟩
  unfold rillmeterlaw05_EtherBack.f
  by_cases h : (s.size : Int) > 4096
  · rw [if_pos h, L05.awake_eq _ (by omega)]; rfl
  rw [if_neg h, ethtake_eq s _ (by omega), Option.bind_some]
  cases t : tk0 s with
  | error e =>
    rw [res_err t1 s e t, if_neg (tk0_err s e t)]
    dsimp only
    rw [ref_nil _ (by omega), Option.bind_some]
    dsimp only
    rw [show (⟨#[]⟩ : ByteArray) = mkB [] from rfl, equal_nil _ (by omega), Option.bind_some, if_pos rfl, if_pos (mkB_toList []), L05.awake_eq _ (by omega)]; rfl
  | ok v =>
    obtain ⟨ts, n, q⟩ := v
    have hl := tk0_len s ts n q t
    rw [res_ok t1 s ts n q t]
    dsimp only
    rw [if_pos rfl]
    have t' := t
    unfold tk0 at t'
    by_cases c : s.size < 12
    · rw [if_pos c] at t'; cases t'
    rw [if_neg c] at t'
    obtain ⟨e, ho, hn, h2, hq⟩ := tk_back s 3 12 [] ts n q t' (by simp)
    have d1 : (s.extract 0 6).size = 6 := by rw [ByteArray.size_extract]; omega
    have d2 : (s.extract 6 12).size = 6 := by rw [ByteArray.size_extract]; omega
    have d3 : (s.extract q s.size).size ≤ 140737488351232 := by rw [ByteArray.size_extract]; omega
    rw [ethput_ok _ _ _ ts n d1 d2 hl h2 hn ho d3 _ (by omega), Option.bind_some]
    dsimp only
    have hls := len s
    have e3 : (s.extract q s.size).data.toList = s.data.toList.drop q := by rw [extract_list, List.take_of_length_le (by rw [List.length_drop, hls]; omega)]
    have f6 : List.take 6 (List.drop 6 s.data.toList) ++ List.drop 12 s.data.toList = List.drop 6 s.data.toList := by
      have := List.take_append_drop 6 (List.drop 6 s.data.toList); rwa [List.drop_drop] at this
    rw [e3, e, extract_list, extract_list, mkB_toList, toL]
    simp only [encT, List.flatMap_nil, List.nil_append, List.drop_zero, Nat.sub_zero, Nat.reduceSub, List.append_assoc]
    rw [f6, List.take_append_drop, if_pos rfl, if_pos trivial, right_ok _ _ ts n d1 d2 hl h2 hn ho _ (by omega), Option.bind_some, if_pos rfl, L05.awake_eq _ (by omega)]; rfl
end Go.Proofs.Ytngcelombflnfaa.Pure
