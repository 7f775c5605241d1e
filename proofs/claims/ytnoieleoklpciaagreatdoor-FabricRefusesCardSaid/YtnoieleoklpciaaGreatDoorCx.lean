/- The setting of the interpreter for this program: which functions the model gives. -/
import Derived.Test.YtnoieleoklpciaaGreatDoorProg
import Derived.Test.YtnoieleoklpciaaGreatDoorR4
import Derived.KernelRfl
set_option linter.unusedVariables false
set_option linter.unusedSimpArgs false
namespace Go.Proofs.YtnoieleoklpciaaGreatDoor
open Go.Run
def assocN : List (Nat × Ext) → Nat → Option Ext
  | [], _ => none
  | p :: r, f => bif Nat.beq f p.1 then some p.2 else assocN r f
theorem assocN_mem : ∀ (l : List (Nat × Ext)) (f : Nat) (e : Ext), assocN l f = some e → (f, e) ∈ l
  | p :: r, f, e, h => by
    unfold assocN at h
    cases hb : Nat.beq f p.1 with
    | true =>
      rw [hb] at h
      cases h
      have := Nat.eq_of_beq_eq_true hb
      subst this
      exact List.mem_cons_self ..
    | false => rw [hb] at h; exact List.mem_cons_of_mem _ (assocN_mem r f e h)
def extList : List (Nat × Ext) := [(84, .load .i64), (109, .add .i64), (145, .same), (187, .load .u32), (242, .store .u32), (276, .mark0 .disable), (277, .cas .i32), (278, .mark0 .enable), (279, .mark1 .acquire), (281, .mark1 .releaseMerge), (282, .add .i32), (324, .cmp)]
noncomputable def nx : Nat → (Nat → AV) → Kt := fun _ _ => noK
/-- variable 0 lies in block 0 -/
noncomputable def G0 : AV := .one (.ptr (some (0, 0)))
noncomputable def gl : Tr AV := .node (.one (.ptr (some (0, 0)))) .leaf .leaf
/-- with fuel m for loops -/
noncomputable def C (m : Nat) : Cx := { P := Tryz.prog, ext := assocN extList, fuel := m, g := gl }
def tab : Tab := noTab
theorem given84 : Given Tryz.prog 84 (.load .i64) := ⟨_, Tryz.func84, by kernel_rfl, by kernel_rfl, by kernel_rfl, by kernel_rfl⟩
theorem given109 : Given Tryz.prog 109 (.add .i64) := ⟨_, Tryz.func109, by kernel_rfl, by kernel_rfl, by kernel_rfl, by kernel_rfl⟩
theorem given145 : Given Tryz.prog 145 (.same) := ⟨_, Tryz.func145, by kernel_rfl, by kernel_rfl, by kernel_rfl, by kernel_rfl⟩
theorem given187 : Given Tryz.prog 187 (.load .u32) := ⟨_, Tryz.func187, by kernel_rfl, by kernel_rfl, by kernel_rfl, by kernel_rfl⟩
theorem given242 : Given Tryz.prog 242 (.store .u32) := ⟨_, Tryz.func242, by kernel_rfl, by kernel_rfl, by kernel_rfl, by kernel_rfl⟩
theorem given276 : Given Tryz.prog 276 (.mark0 .disable) := ⟨_, Tryz.func276, by kernel_rfl, by kernel_rfl, by kernel_rfl, by kernel_rfl⟩
theorem given277 : Given Tryz.prog 277 (.cas .i32) := ⟨_, Tryz.func277, by kernel_rfl, by kernel_rfl, by kernel_rfl, by kernel_rfl⟩
theorem given278 : Given Tryz.prog 278 (.mark0 .enable) := ⟨_, Tryz.func278, by kernel_rfl, by kernel_rfl, by kernel_rfl, by kernel_rfl⟩
theorem given279 : Given Tryz.prog 279 (.mark1 .acquire) := ⟨_, Tryz.func279, by kernel_rfl, by kernel_rfl, by kernel_rfl, by kernel_rfl⟩
theorem given281 : Given Tryz.prog 281 (.mark1 .releaseMerge) := ⟨_, Tryz.func281, by kernel_rfl, by kernel_rfl, by kernel_rfl, by kernel_rfl⟩
theorem given282 : Given Tryz.prog 282 (.add .i32) := ⟨_, Tryz.func282, by kernel_rfl, by kernel_rfl, by kernel_rfl, by kernel_rfl⟩
theorem given324 : Given Tryz.prog 324 (.cmp) := ⟨_, Tryz.func324, by kernel_rfl, by kernel_rfl, by kernel_rfl, by kernel_rfl⟩
theorem names : (Tryz.prog.funcs.toList.all fun fn => !(fn.name == "runtime.NumGoroutine")) = true := by kernel_rfl
theorem mixed : Tryz.prog.follows .mixedOrders = true := by kernel_rfl
theorem nameOk (f : FuncId) (fn : Func) (h : Tryz.prog.funcs[f]? = some fn) : (fn.name == "runtime.NumGoroutine") = false := by
  have := List.all_eq_true.1 names fn (Array.mem_toList_iff.2 (Array.mem_of_getElem? h))
  simpa using this
theorem extOk (m : Nat) : ExtOk (C m) where
  ext f e h := by
    have h' := assocN_mem _ _ _ h
    simp only [extList, List.mem_cons, Prod.mk.injEq, List.not_mem_nil, or_false] at h'
    rcases h' with ⟨rfl, rfl⟩ | ⟨rfl, rfl⟩ | ⟨rfl, rfl⟩ | ⟨rfl, rfl⟩ | ⟨rfl, rfl⟩ | ⟨rfl, rfl⟩ | ⟨rfl, rfl⟩ | ⟨rfl, rfl⟩ | ⟨rfl, rfl⟩ | ⟨rfl, rfl⟩ | ⟨rfl, rfl⟩ | ⟨rfl, rfl⟩
    · exact given84
    · exact given109
    · exact given145
    · exact given187
    · exact given242
    · exact given276
    · exact given277
    · exact given278
    · exact given279
    · exact given281
    · exact given282
    · exact given324
  name := nameOk
theorem glob0 (m : Nat) : Glob0 (C m) := fun g => by
  show gl.get .bad g = .bad ∨ gl.get .bad g = _
  have e : gl = Tr.set .bad (.one (.ptr (some (0, 0)))) .leaf 0 := rfl
  rw [e, Tr.get_set]
  by_cases h : g = 0
  · rw [if_pos h]; exact .inr rfl
  · rw [if_neg h]; exact .inl rfl
end Go.Proofs.YtnoieleoklpciaaGreatDoor
