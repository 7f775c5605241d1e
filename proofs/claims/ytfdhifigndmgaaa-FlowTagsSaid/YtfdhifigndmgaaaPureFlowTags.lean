/- Tags ahead, and bytes behind, turn no flow. Conditions: none beyond the statement's own. -/
import Derived.Test.YtfdhifigndmgaaaBase
import Derived.Test.YtfdhifigndmgaaaCFlowTags
import Derived.Test.YtfdhifigndmgaaaQx33
namespace Go.Proofs.Ytfdhifigndmgaaa.Pure
open Go Go.RowKit Go.Proofs.Ytfdhifigndmgaaa.Q Go.Proofs.Ytfdhifigndmgaaa.Base Go.Proofs.Ytfdhifigndmgaaa.LAt Go.Proofs.Ytfdhifigndmgaaa.L09 Go.Proofs.YtfdhifigndmgaaaW.PrintWords Go.Proofs.YtfdhifigndmgaaaW.PrintMore
set_option linter.unusedVariables false
set_option linter.unusedSimpArgs false
theorem FlowTags : rillmeterlaw09_FlowTags.Pure := by
  intro s v t hs hv ht
  refine ⟨300, ?_⟩
  have skip : rillmeterlaw09_FlowTags.j0 300 s v t true = some true := by
    rw [show (300 : Nat) = 299 + 1 from rfl]
    simp only [rillmeterlaw09_FlowTags.j0, if_true]
    rw [L09.awake_eq _ (by omega)]; rfl
  unfold rillmeterlaw09_FlowTags.f
  by_cases h1 : (s.size : Int) > 1024
  · rw [if_pos h1, skip]
  rw [if_neg h1]
  by_cases h2 : (t.size : Int) > 100
  · rw [if_pos h2, skip]
  rw [if_neg h2]
  by_cases h3 : (s.size : Int) < 14
  · rw [decide_eq_true h3, skip]
  rw [decide_eq_false h3, show (300 : Nat) = 299 + 1 from rfl]
  have skip2 : ∀ (b : Bool) (x y : ByteArray) (p q r : Int), b = true → rillmeterlaw09_FlowTags.j1 299 s v t b x y p q r = some true := by
    intro b x y p q r hb
    rw [hb, show (299 : Nat) = 298 + 1 from rfl]
    simp only [rillmeterlaw09_FlowTags.j1, if_true]
    rw [L09.awake_eq _ (by omega)]; rfl
  simp only [rillmeterlaw09_FlowTags.j0]
  rw [if_neg (by decide), extr_eq s hs _ (by omega), Option.bind_some, L05.ethtake_eq s _ (by omega), Option.bind_some]
  unfold tupE
  dsimp only
  by_cases e : (extr s).2 = 0
  case neg => rw [if_neg e, skip2 _ _ _ _ _ _ rfl]
  rw [if_pos e]
  cases k : L05.tk0 s with
  | error x =>
    exfalso
    unfold extr at e
    rw [if_neg (by omega), k] at e
    exact L05.tk0_err s x k e
  | ok w =>
    obtain ⟨ts, n, q⟩ := w
    rw [L05.res_ok L05.t1 s ts n q k]
    dsimp only
    by_cases h4 : ((ts.map L05.t1).length : Int) > 1
    · rw [decide_eq_true h4, skip2 _ _ _ _ _ _ rfl]
    rw [decide_eq_false h4, show (299 : Nat) = 298 + 1 from rfl]
    rw [List.length_map] at h4
    simp only [rillmeterlaw09_FlowTags.j1]
    have hg : strOfNums [129, 0, (v / 256) % 256, v % 256] = mkB [129, 0, UInt8.ofNat ((v / 256) % 256).toNat, UInt8.ofNat (v % 256).toNat] := by rw [nums_mkB]; rfl
    have hT : ((s.extract 0 12 ++ strOfNums [129, 0, (v / 256) % 256, v % 256]) ++ s.extract 12 s.size) ++ t = tagged s (mkB [129, 0, UInt8.ofNat ((v / 256) % 256).toNat, UInt8.ofNat (v % 256).toNat]) t := by rw [hg]; rfl
    have z0 : (strOfNums [129, 0, (v / 256) % 256, v % 256]).size = 4 := by rw [hg]; rfl
    have z1 := tagged_size s (mkB [129, 0, UInt8.ofNat ((v / 256) % 256).toNat, UInt8.ofNat (v % 256).toNat]) t (by omega) rfl
    have z2 : (s.extract 0 12).size = 12 := by rw [ByteArray.size_extract]; omega
    have z3 : (s.extract 12 s.size).size = s.size - 12 := by rw [ByteArray.size_extract]; omega
    rw [if_neg (by decide), Option.bind_some, if_pos (by decide), if_pos (by omega), if_pos (by omega), if_pos (by rw [ByteArray.size_append]; omega), if_pos (by rw [ByteArray.size_append, ByteArray.size_append]; omega), hT,
      extr_eq _ (by omega) _ (by omega), Option.bind_some, extr_tagged s t _ _ (by omega) (by omega) ts n q k (by omega) e]
    unfold tupE
    dsimp only
    rw [if_pos (by simp), if_pos e, L09.awake_eq _ (by omega)]; rfl
end Go.Proofs.Ytfdhifigndmgaaa.Pure
