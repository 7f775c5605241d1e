import Derived.Test.YtbhbfiijkkcoeaaGreatDoorAw3
namespace Go.Proofs.YtbhbfiijkkcoeaaGreatDoor
open Go.Run
namespace Aw
theorem thenR_assoc (f g : Env → St → Res) (r : Res) : thenR (fun env σ => thenR g (f env σ)) r = thenR g (thenR f r) := by cases r <;> rfl
theorem seq0 : c0 = .seq (fst c0) c1 := by kernel_rfl
theorem seq1 : c1 = .seq (fst c1) c2 := by kernel_rfl
theorem seq2 : c2 = .seq (fst c2) c3 := by kernel_rfl
theorem seq3 : c3 = .seq (fst c3) c4 := by kernel_rfl
theorem run0 (env : Env) (σ : St) : comp c0 cx0 call env σ = thenR (comp c1 cx0 call) (comp (fst c0) cx0 call env σ) := by rw [seq0]; rfl
theorem run1 (env : Env) (σ : St) : comp c1 cx0 call env σ = thenR (comp c2 cx0 call) (comp (fst c1) cx0 call env σ) := by rw [seq1]; rfl
theorem run2 (env : Env) (σ : St) : comp c2 cx0 call env σ = thenR (comp c3 cx0 call) (comp (fst c2) cx0 call env σ) := by rw [seq2]; rfl
theorem run3 (env : Env) (σ : St) : comp c3 cx0 call env σ = thenR (comp c4 cx0 call) (comp (fst c3) cx0 call env σ) := by rw [seq3]; rfl
theorem whole : comp c0 cx0 call ⟨.leaf, .leaf, []⟩ σE = comp c4 cx0 call a4E a4S := by
  rw [run0, show (comp c1 cx0 call) = (fun env σ => thenR (comp c2 cx0 call) (comp (fst c1) cx0 call env σ)) from funext fun env => funext fun σ => run1 env σ, thenR_assoc, show (comp c2 cx0 call) = (fun env σ => thenR (comp c3 cx0 call) (comp (fst c2) cx0 call env σ)) from funext fun env => funext fun σ => run2 env σ, thenR_assoc, part3, show ∀ (g : Env → St → Res), thenR g (.nrm a3E a3S) = g a3E a3S from fun _ => rfl, run3, part4, show ∀ (g : Env → St → Res), thenR g (.nrm a4E a4S) = g a4E a4S from fun _ => rfl]
theorem bodyEq : Tryz.f7.body = some c0 := by kernel_rfl
theorem bodyOk : (Nat.ble (lenN ([] : List AV)) Tryz.f7.ntmps && codeOk Tryz.f7.ntmps c0) = true := by kernel_rfl
theorem env0 : (⟨argsEnv [] 0 .leaf, cx0.g, []⟩ : Env) = ⟨.leaf, .leaf, []⟩ := rfl
theorem enter : callN cx0 (999999 + 1) 7 [] σE = finish cx0 (callN cx0 999999) Tryz.f7.results.toList (comp c0 cx0 (callN cx0 999999) ⟨argsEnv [] 0 .leaf, cx0.g, []⟩ σE) :=
  callN_body rfl Tryz.func7 bodyEq bodyOk
theorem isTrue_some : ∀ {r : Option (AV × St)}, isTrue r = true → ∃ σ', r = some (.one (.bool true), σ')
  | some (.one (.bool true), σ'), _ => ⟨σ', rfl⟩
theorem entered : callN cx0 (999999 + 1) 7 [] σE = finish cx0 call Tryz.f7.results.toList (comp c4 cx0 call a4E a4S) :=
  enter.trans (congrArg (finish cx0 call Tryz.f7.results.toList) ((congrArg (fun e => comp c0 cx0 call e σE) env0).trans whole))
end Aw
theorem awake_run : ∃ σ', callN cx0 (999999 + 1) 7 [] σE = some (.one (.bool true), σ') := by
  obtain ⟨σ', h⟩ := Aw.isTrue_some Aw.last
  exact ⟨σ', Aw.entered.trans h⟩
theorem tabOk : TabOk cx := by
  intro f t h args σ v σ' hs π w vs hR hG hargs
  have h' : (bif Nat.beq f 7 then some awS else none) = some t := h
  cases hb : Nat.beq f 7 with
  | false => rw [hb] at h'; cases h'
  | true =>
    rw [hb] at h'
    cases h'
    have := Nat.eq_of_beq_eq_true hb
    subst this
    unfold awS at hs
    split at hs
    · cases hs
      obtain ⟨σ2, h2⟩ := awake_run
      exact flat_call (callN_ok extOk0 tabOk0 mixed (999999 + 1)) h2 rfl rfl hR (fun g => rfl) hargs
    · cases hs
end Go.Proofs.YtbhbfiijkkcoeaaGreatDoor
