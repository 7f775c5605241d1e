/- The setting of the interpreter for this program: which functions the model gives. -/
import Derived.Test.YtkikpolmfaiabaaGreatDoorProg
import Derived.Test.YtkikpolmfaiabaaGreatDoorR3
import Derived.KernelRfl
namespace Go.Proofs.YtkikpolmfaiabaaGreatDoor
open Go.Run
def assocN : List (Nat × Ext) → Nat → Option Ext
  | [], _ => none
  | p :: r, f => bif Nat.beq f p.1 then some p.2 else assocN r f
theorem assocN_mem : ∀ (l : List (Nat × Ext)) (f : Nat) (e : Ext), assocN l f = some e → (f, e) ∈ l
  | p :: r, f, e, h => by
    unfold assocN at h
    cases hb : Nat.beq f p.1 with
    | true =>
      rw [hb] at h
      cases h
      have := Nat.eq_of_beq_eq_true hb
      subst this
      exact List.mem_cons_self ..
    | false => rw [hb] at h; exact List.mem_cons_of_mem _ (assocN_mem r f e h)
def extList : List (Nat × Ext) := [(121, .add .i64), (122, .load .i64), (188, .same), (303, .cmp)]
/-- with fuel m for loops -/
noncomputable def C (m : Nat) : Cx := { P := Tryz.prog, ext := assocN extList, fuel := m, g := .leaf }
def tab : Tab := noTab
theorem given121 : Given Tryz.prog 121 (.add .i64) := ⟨_, Tryz.func121, by kernel_rfl, by kernel_rfl, by kernel_rfl, by kernel_rfl⟩
theorem given122 : Given Tryz.prog 122 (.load .i64) := ⟨_, Tryz.func122, by kernel_rfl, by kernel_rfl, by kernel_rfl, by kernel_rfl⟩
theorem given188 : Given Tryz.prog 188 (.same) := ⟨_, Tryz.func188, by kernel_rfl, by kernel_rfl, by kernel_rfl, by kernel_rfl⟩
theorem given303 : Given Tryz.prog 303 (.cmp) := ⟨_, Tryz.func303, by kernel_rfl, by kernel_rfl, by kernel_rfl, by kernel_rfl⟩
theorem names : (Tryz.prog.funcs.toList.all fun fn => !(fn.name == "runtime.NumGoroutine")) = true := by kernel_rfl
theorem mixed : Tryz.prog.follows .mixedOrders = true := by kernel_rfl
theorem nameOk (f : FuncId) (fn : Func) (h : Tryz.prog.funcs[f]? = some fn) : (fn.name == "runtime.NumGoroutine") = false := by
  have := List.all_eq_true.1 names fn (Array.mem_toList_iff.2 (Array.mem_of_getElem? h))
  simpa using this
theorem extOk (m : Nat) : ExtOk (C m) where
  ext f e h := by
    have h' := assocN_mem _ _ _ h
    simp only [extList, List.mem_cons, Prod.mk.injEq, List.not_mem_nil, or_false] at h'
    rcases h' with ⟨rfl, rfl⟩ | ⟨rfl, rfl⟩ | ⟨rfl, rfl⟩ | ⟨rfl, rfl⟩
    · exact given121
    · exact given122
    · exact given188
    · exact given303
  name := nameOk
end Go.Proofs.YtkikpolmfaiabaaGreatDoor
