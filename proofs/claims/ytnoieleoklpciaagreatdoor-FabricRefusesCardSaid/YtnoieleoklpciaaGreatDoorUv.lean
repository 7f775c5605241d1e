/- univ.Add, by the kernel. -/
import Derived.Test.YtnoieleoklpciaaGreatDoorMade
import Derived.Test.YtnoieleoklpciaaGreatDoorFx3
set_option linter.unusedVariables false
set_option linter.unusedSimpArgs false
namespace Go.Proofs.YtnoieleoklpciaaGreatDoor
open Go.Run Go
namespace Core
open Ty
set_option maxRecDepth 1000000
def kf (f : Nat → UInt8) : List UInt8 := [f 0, f 1, f 2, f 3, f 4, f 5, f 6, f 7, f 8, f 9, f 10, f 11, f 12, f 13, f 14, f 15, f 16, f 17, f 18, f 19, f 20, f 21, f 22, f 23, f 24, f 25, f 26, f 27, f 28, f 29, f 30, f 31, f 32, f 33, f 34, f 35, f 36]
theorem key_f {key : List UInt8} (h : key.length = 37) : ∃ f, key = kf f := by
  refine ⟨fun i => key.getD i 0, ?_⟩
  have e : kf (fun i => key.getD i 0) = (List.range 37).map fun i => key.getD i 0 := rfl
  rw [e]
  refine List.ext_getElem (by rw [List.length_map, List.length_range]; exact h) fun i h1 h2 => ?_
  rw [List.getElem_map, List.getElem_range, List.getD, List.getElem?_eq_getElem h1]
  rfl
def skL (a : Nat) : List CV := [.int .u64 127512553921, st a 1 1]
noncomputable def U0 : St := partsG deB uvB
noncomputable def UA : St := pushAll σE [.ro deB, .ro [.int .u64 127512553921, st 2 1 1, ns], .ro [st 3 1 1], .ro [iC 0], .cells [.int .u64 119025, iC 1, st 12 1 3] 98 true, .cells [.int .u64 0, iC 0, ns] 98 true, .cells [.int .u64 119025, iC 1, st 1 1 3] 98 true, .cells [.int .u64 127512553921, st 2 1 1] 256 true, .cells [.int .u64 127512553921, st 2 1 1, ns] 259 true, .cells [.int .u64 127512553921, st 2 1 1] 256 true, .cells [.int .u64 127512553921, st 2 1 1] 256 true, .cells [] 259 true, .cells [.int .u64 127512553921, st 2 1 1, ns] 259 false, .cells [.int .u64 119025, iC 1, st 12 1 3] 98 true]
noncomputable def UB : St := pushAll σE [.ro deB, .ro [.int .u64 127512553921, st 2 1 1, ns], .ro [st 3 1 1], .ro [iC 0], .cells [.int .u64 119025, iC 1, st 12 1 3] 98 true, .cells [.int .u64 0, iC 0, ns] 98 true, .cells [.int .u64 119025, iC 1, st 1 1 3] 98 true, .cells [.int .u64 127512553921, st 2 1 1] 256 true, .cells [.int .u64 127512553921, st 2 1 1, ns] 259 true, .cells [.int .u64 127512553921, st 2 1 1] 256 true, .cells [.int .u64 127512553921, st 2 1 1] 256 true, .cells [] 259 true, .cells [.int .u64 127512553921, st 2 1 1, ns] 259 false, .cells [.int .u64 119025, iC 1, st 12 1 3] 98 true, .cells [.int .u64 127512553921, st 19 1 1] 256 true, .cells [.int .u64 0, ns] 256 true, .cells [.int .u64 127512553921, st 2 1 1] 256 true, .cells [.int .u64 127512553921, st 19 1 1] 256 true, .cells [.int .u64 127512553921, st 19 1 1] 256 true, .cells [st 21 1 1] 56 true, .cells [] 3 true, .cells [iC 0] 3 false, .cells [.int .u64 127512553921, st 19 1 1] 256 true]
noncomputable def UC (x : Int) : St := pushAll σE [.ro deB, .ro [.int .u64 127512553921, st 2 1 1, ns], .ro [st 3 1 1], .ro [iC 0], .cells [.int .u64 119025, iC 1, st 12 1 3] 98 true, .cells [.int .u64 0, iC 0, ns] 98 true, .cells [.int .u64 119025, iC 1, st 1 1 3] 98 true, .cells [.int .u64 127512553921, st 2 1 1] 256 true, .cells [.int .u64 127512553921, st 2 1 1, ns] 259 true, .cells [.int .u64 127512553921, st 2 1 1] 256 true, .cells [.int .u64 127512553921, st 2 1 1] 256 true, .cells [] 259 true, .cells [.int .u64 127512553921, st 2 1 1, ns] 259 false, .cells [.int .u64 119025, iC 1, st 12 1 3] 98 true, .cells [.int .u64 127512553921, st 19 1 1] 256 true, .cells [.int .u64 127512553921, st 19 1 1] 256 true, .cells [.int .u64 127512553921, st 2 1 1] 256 true, .cells [.int .u64 127512553921, st 19 1 1] 256 true, .cells [.int .u64 127512553921, st 19 1 1] 256 true, .cells [st 21 1 1] 56 true, .cells [] 3 true, .cells [iC x] 3 false, .cells [.int .u64 127512553921, st 19 1 1] 256 true]
noncomputable def UD (x : Int) : St := pushAll σE [.ro deB, .ro [.int .u64 127512553921, st 2 1 1, ns], .ro [st 3 1 1], .ro [iC 0], .cells [.int .u64 119025, iC 1, st 12 1 3] 98 true, .cells [.int .u64 0, iC 0, ns] 98 true, .cells [.int .u64 119025, iC 1, st 1 1 3] 98 true, .cells [.int .u64 127512553921, st 2 1 1] 256 true, .cells [.int .u64 127512553921, st 2 1 1, ns] 259 true, .cells [.int .u64 127512553921, st 2 1 1] 256 true, .cells [.int .u64 127512553921, st 2 1 1] 256 true, .cells [] 259 true, .cells [.int .u64 127512553921, st 2 1 1, ns] 259 false, .cells [.int .u64 119025, iC 1, st 12 1 3] 98 true, .cells [.int .u64 127512553921, st 19 1 1] 256 true, .cells [.int .u64 127512553921, st 19 1 1] 256 true, .cells [.int .u64 127512553921, st 2 1 1] 256 true, .cells [.int .u64 127512553921, st 19 1 1] 256 true, .cells [.int .u64 127512553921, st 19 1 1] 256 true, .cells [st 21 1 1] 56 true, .cells [] 3 true, .cells [iC x] 3 false, .cells [.int .u64 127512553921, st 19 1 1] 256 true, .cells [.int .u64 127512553921, st 19 1 1] 256 true, .map [] 0, .cells [iC 1, ns, .map (some 24)] 405 true]
noncomputable def UE (x : Int) : St := pushAll σE [.ro deB, .ro [.int .u64 127512553921, st 2 1 1, ns], .ro [st 3 1 1], .ro [iC 0], .cells [.int .u64 119025, iC 1, st 12 1 3] 98 true, .cells [.int .u64 0, iC 0, ns] 98 true, .cells [.int .u64 119025, iC 1, st 1 1 3] 98 true, .cells [.int .u64 127512553921, st 2 1 1] 256 true, .cells [.int .u64 127512553921, st 2 1 1, ns] 259 true, .cells [.int .u64 127512553921, st 2 1 1] 256 true, .cells [.int .u64 127512553921, st 2 1 1] 256 true, .cells [] 259 true, .cells [.int .u64 127512553921, st 2 1 1, ns] 259 false, .cells [.int .u64 119025, iC 1, st 12 1 3] 98 true, .cells [.int .u64 127512553921, st 19 1 1] 256 true, .cells [.int .u64 127512553921, st 19 1 1] 256 true, .cells [.int .u64 127512553921, st 2 1 1] 256 true, .cells [.int .u64 127512553921, st 19 1 1] 256 true, .cells [.int .u64 127512553921, st 19 1 1] 256 true, .cells [st 21 1 1] 56 true, .cells [] 3 true, .cells [iC x] 3 false, .cells [.int .u64 127512553921, st 19 1 1] 256 true, .cells [.int .u64 127512553921, st 19 1 1] 256 true, .map [] 0, .cells [iC 1, ns, .map (some 24)] 405 true, .cells [.int .u64 127512553921, st 19 1 1] 256 true, .cells [.int .u64 127512553921, st 19 1 1] 256 true, .cells [.int .u64 127512553921, st 19 1 1] 256 true]
noncomputable def UF (x : Int) : St := pushAll σE [.ro deB, .ro [.int .u64 127512553921, st 2 1 1, ns], .ro [st 3 1 1], .ro [iC 0], .cells [.int .u64 119025, iC 1, st 12 1 3] 98 true, .cells [.int .u64 0, iC 0, ns] 98 true, .cells [.int .u64 119025, iC 1, st 1 1 3] 98 true, .cells [.int .u64 127512553921, st 2 1 1] 256 true, .cells [.int .u64 127512553921, st 2 1 1, ns] 259 true, .cells [.int .u64 127512553921, st 2 1 1] 256 true, .cells [.int .u64 127512553921, st 2 1 1] 256 true, .cells [] 259 true, .cells [.int .u64 127512553921, st 2 1 1, ns] 259 false, .cells [.int .u64 119025, iC 1, st 12 1 3] 98 true, .cells [.int .u64 127512553921, st 19 1 1] 256 true, .cells [.int .u64 127512553921, st 19 1 1] 256 true, .cells [.int .u64 127512553921, st 2 1 1] 256 true, .cells [.int .u64 127512553921, st 19 1 1] 256 true, .cells [.int .u64 127512553921, st 19 1 1] 256 true, .cells [st 21 1 1] 56 true, .cells [] 3 true, .cells [iC x] 3 false, .cells [.int .u64 127512553921, st 19 1 1] 256 true, .cells [.int .u64 127512553921, st 19 1 1] 256 true, .map [] 0, .cells [iC 1, ns, .map (some 24)] 405 true, .cells [.int .u64 127512553921, st 19 1 1] 256 true, .cells [.int .u64 127512553921, st 19 1 1] 256 true, .cells [.int .u64 127512553921, st 19 1 1] 256 true, .cells [iC 1] 3 true, .cells [iC 1] 3 false]
noncomputable def cl (n : Nat) : CallF := callK (C M) tab4 n
noncomputable def sgn (key : List UInt8) : Int := sgO 1653627095001279367 key
theorem sgn_cases (key : List UInt8) : sgn key = 1 ∨ sgn key = -1 := by
  unfold sgn
  rw [sgO_eq]
  rcases Nat.mod_two_eq_zero_or_one (sumP 1653627095001279367 key) with h | h <;> rw [h]
  · exact .inr rfl
  · exact .inl rfl
noncomputable def RA (key : List UInt8) (x : Int) : Kt := bnd (binO (C M) .mul 3 (I x) (I 1)) fun v6 => bnd (binO (C M) .add 3 (I 0) v6) fun v7 => bnd (iadO (C M) 56 (.one (st 21 1 1)) (I 0)) fun v8 => bnd (stO (C M) 3 v8 v7) fun _ =>
  bnd (iadO (C M) 56 (.one (st 21 1 1)) (I 0)) fun v9 => bnd (ldO (C M) 3 v9) fun v10 => bnd (calO (C M) (cl 198) (fnV 221) [v10]) fun v11 => bnd (unO .not v11) fun v12 =>
  ifB v12 (bnd (bldO (C M) 256 []) fun v13 => bnd (stO (C M) 256 (P 15 0) v13) fun _ => retV (C M) [(some 256, P 15 0), (none, I 5)])
   (K167_9 M (cl 198) (fun t1 t2 t3 t6 t24 t25 v0 => L167_6 M (cl 198) 999999 t1 t2 t3 t6 t24 t25 v0) (S key) (I 1) (P 14 0) (P 15 0) (.one (st 19 1 1)) (I 1) (I 0))
theorem add_a (f : Nat → UInt8) : K167_0 M (cl 198) (.agg (skL 2)) (S (kf f)) (I 1) UA = RA (kf f) (sgn (kf f)) UB := by kernel_rfl
theorem add_p (f : Nat → UInt8) : RA (kf f) 1 UB = some (.tup [.agg (skL 19), I 0], UC 1) := by kernel_rfl
theorem add_m (f : Nat → UInt8) : RA (kf f) (-1) UB = some (.tup [.agg (skL 19), I 0], UC (-1)) := by kernel_rfl
theorem add_cl (f : Nat → UInt8) : cl 199 167 [.agg (skL 2), S (kf f), I 1] UA = some (.tup [.agg (skL 19), I 0], UC (sgn (kf f))) := by
  refine callK_body rfl Tryz.func167 (by kernel_rfl) ?_
  rw [F167_eq]
  refine (add_a f).trans ?_
  rcases sgn_cases (kf f) with h | h <;> rw [h]
  · exact add_p f
  · exact add_m f
noncomputable def RG (key : List UInt8) (y : Int) : Kt := bnd (iadO (C M) 56 (.one (st 21 1 1)) (I 0)) fun v6 => bnd (ldO (C M) 3 v6) fun v7 => bnd (binO (C M) .mul 3 (I y) v7) fun v8 => bnd (bslO (C M) 56 1 [(0, v8)]) fun v9 => bnd (bltO (C M) .append [56, 56] [NS, v9]) fun v10 =>
  K170_9 M (cl 198) (fun t1 t2 t5 t14 t15 v0 => L170_6 M (cl 198) 999999 t1 t2 t5 t14 t15 v0) (S key) (P 26 0) v10 (.one (st 19 1 1)) (I 1) (I 0)
theorem get_ap (f : Nat → UInt8) : K170_0 M (cl 198) (.agg (skL 19)) (S (kf f)) (UD 1) = RG (kf f) (sgn (kf f)) (UE 1) := by kernel_rfl
theorem get_am (f : Nat → UInt8) : K170_0 M (cl 198) (.agg (skL 19)) (S (kf f)) (UD (-1)) = RG (kf f) (sgn (kf f)) (UE (-1)) := by kernel_rfl
theorem get_p (f : Nat → UInt8) : RG (kf f) 1 (UE 1) = some (I 1, UF 1) := by kernel_rfl
theorem get_m (f : Nat → UInt8) : RG (kf f) (-1) (UE (-1)) = some (I 1, UF (-1)) := by kernel_rfl
theorem get_cl (f : Nat → UInt8) : cl 199 170 [.agg (skL 19), S (kf f)] (UD (sgn (kf f))) = some (I 1, UF (sgn (kf f))) := by
  refine callK_body rfl Tryz.func170 (by kernel_rfl) ?_
  rw [F170_eq]
  rcases sgn_cases (kf f) with h | h
  · rw [h]
    refine (get_ap f).trans ?_
    rw [h]; exact get_p f
  · rw [h]
    refine (get_am f).trans ?_
    rw [h]; exact get_m f
noncomputable def H6 : AV → AV → AV → AV → AV → Kt := fun t1 t2 t4 t21 v0 => L114_6 M (cl 199) 999999 t1 t2 t4 t21 v0
noncomputable def R1 (key : List UInt8) : AV → Kt := fun v5 => bnd (extO v5 0) fun v6 => bnd (extO v5 1) fun v7 => bnd (newO (C M) 256) fun v8 => bnd (stO (C M) 256 v8 v6) fun _ => K114_11 M (cl 199) H6 (S key) (P 4 0) (P 5 0) (I 0) v8 v7 (I 1) (I 0)
noncomputable def R2 (key : List UInt8) : AV → Kt := fun v12 => bnd (calO (C M) (cl 199) (fnV 169) [P 25 0, S key, v12]) fun _ => dIn fun sv14 => dEff (calO (C M) (cl 199) (fnV 171) [P 25 0]) fun v15 sv15 => dVal (fadO (C M) 98 (P 4 0) 2) fun v16 =>
  dSam (some true) (ldO (C M) 96 v16) (fun v17 => (eqIn (ldO (C M) 96 v16) v17 sv15 && (eqIn (ldO (C M) 96 v16) v17 sv14 && true))) fun v18 => dSam (some true) (ldO (C M) 256 (P 23 0)) (fun v19 => (eqIn (ldO (C M) 256 (P 23 0)) v19 sv15 && (eqIn (ldO (C M) 256 (P 23 0)) v19 sv14 && true))) fun v20 =>
  dVal (bldO (C M) 259 [(0, v20), (1, v15)]) fun v21 => dVal (iadO (C M) 96 v18 (I 0)) fun v22 => dEff (stO (C M) 259 v22 v21) fun _ _ => K114_9 M (cl 199) H6 (S key) (P 4 0) (P 5 0) (I 1) (I 0)
theorem uv_a (f : Nat → UInt8) : K114_0 M (cl 199) (.agg (uvL 1)) (S (kf f)) U0 = bnd (calO (C M) (cl 199) (fnV 167) [.agg (skL 2), S (kf f), I 1]) (R1 (kf f)) UA := by kernel_rfl
theorem uv_b (f : Nat → UInt8) (x : Int) : R1 (kf f) (.tup [.agg (skL 19), I 0]) (UC x) = bnd (calO (C M) (cl 199) (fnV 170) [.agg (skL 19), S (kf f)]) (R2 (kf f)) (UD x) := by kernel_rfl
theorem uv_c (f : Nat → UInt8) (x : Int) : okM 4 (shA 3) (R2 (kf f) (I 1) (UF x)) = true := by kernel_rfl
theorem uv_run (f : Nat → UInt8) : okM 4 (shA 3) (callK (C M) tab4 200 114 [.agg (uvL 1), S (kf f)] (partsG deB uvB)) = true := by
  have h1 : callK (C M) tab4 200 114 [.agg (uvL 1), S (kf f)] (partsG deB uvB) = R2 (kf f) (I 1) (UF (sgn (kf f))) := by
    have key : ∀ r, R2 (kf f) (I 1) (UF (sgn (kf f))) = some r → callK (C M) tab4 200 114 [.agg (uvL 1), S (kf f)] (partsG deB uvB) = some r := by
      intro r hr
      refine callK_body rfl Tryz.func114 (by kernel_rfl) ?_
      rw [F114_eq]
      refine (uv_a f).trans ?_
      obtain ⟨v, s⟩ := r
      refine Yl.eq ?_
      refine y_cal rfl (add_cl f) ?_
      rw [uv_b]
      refine y_cal rfl (get_cl f) ?_
      exact y_of hr ⟨rfl, rfl⟩
    have h2 := uv_c f (sgn (kf f))
    cases hr : R2 (kf f) (I 1) (UF (sgn (kf f))) with
    | none => rw [hr] at h2; cases h2
    | some r => exact key r hr
  rw [h1]
  exact uv_c f _
end Core
end Go.Proofs.YtnoieleoklpciaaGreatDoor
