/- A frame cut off inside its header is refused. Conditions: none beyond the statement's own. -/
import Derived.Test.YtngcelombflnfaaLAt
import Derived.Test.YtngcelombflnfaaL05
import Derived.Test.YtngcelombflnfaaL05b
import Derived.Test.YtngcelombflnfaaQx13
namespace Go.Proofs.Ytngcelombflnfaa.Pure
open Go Go.RowKit Go.Proofs.Ytngcelombflnfaa.Q Go.Proofs.Ytngcelombflnfaa.Base Go.Proofs.Ytngcelombflnfaa.LAt Go.Proofs.Ytngcelombflnfaa.L05 Go.Proofs.YtngcelombflnfaaW.PrintWords Go.Proofs.YtngcelombflnfaaW.PrintMore
set_option linter.unusedVariables false
set_option linter.unusedSimpArgs false
theorem EtherShort : rillmeterlaw05_EtherShort.Pure := by
  intro s c hs hc
  refine ⟨62, ?_⟩
  unfold rillmeterlaw05_EtherShort.f
  have j1 : rillmeterlaw05_EtherShort.j0 62 s c true = some true := by
    simp only [rillmeterlaw05_EtherShort.j0, if_true]
    rw [L05.awake_eq _ (by omega)]; rfl
  by_cases h : (s.size : Int) > 4096
  · rw [if_pos h, L05.awake_eq _ (by omega)]; rfl
  · rw [if_neg h, ethtake_eq s _ (by omega), Option.bind_some]
    cases t : tk0 s with
    | error e =>
      rw [res_err t1 s e t, if_neg (tk0_err s e t), j1]
    | ok v =>
      obtain ⟨ts, n, q⟩ := v
      rw [res_ok t1 s ts n q t]
      dsimp only
      rw [if_pos rfl]
      by_cases c0 : c < 0
      · rw [if_pos c0, j1]
      rw [if_neg c0]
      have hz : (s.extract q s.size).size = s.size - q := by rw [ByteArray.size_extract]; omega
      rw [hz, w64 (by omega) (by omega)]
      by_cases c1 : c ≥ (s.size : Int) - ((s.size - q : Nat) : Int)
      · rw [decide_eq_true c1, j1]
      · rw [decide_eq_false c1]
        simp only [rillmeterlaw05_EtherShort.j0]
        rw [if_neg (by decide), if_pos (by omega), if_pos (by omega), ethtake_eq _ _ (by omega), Option.bind_some, res_err t1 _ 2 (tk0_short s c.toNat q (by omega) (by omega) ts n t)]
        dsimp only
        rw [ref_nil _ (by omega), Option.bind_some]
        have := equal_nil 61 (by omega)
        dsimp only
        rw [show (⟨#[]⟩ : ByteArray) = mkB [] from rfl, this, Option.bind_some, if_pos rfl, if_pos rfl, if_pos (mkB_toList []), L05.awake_eq _ (by omega)]; rfl
end Go.Proofs.Ytngcelombflnfaa.Pure
