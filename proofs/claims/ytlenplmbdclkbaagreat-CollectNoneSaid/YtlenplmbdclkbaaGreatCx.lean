/- The setting of the interpreter for this program: which functions the model gives. -/
import Derived.Test.YtlenplmbdclkbaaGreatProg
import Derived.Test.YtlenplmbdclkbaaGreatR3
import Derived.KernelRfl
namespace Go.Proofs.YtlenplmbdclkbaaGreat
open Go.Run
def assocN : List (Nat × Ext) → Nat → Option Ext
  | [], _ => none
  | p :: r, f => bif Nat.beq f p.1 then some p.2 else assocN r f
theorem assocN_mem : ∀ (l : List (Nat × Ext)) (f : Nat) (e : Ext), assocN l f = some e → (f, e) ∈ l
  | p :: r, f, e, h => by
    unfold assocN at h
    cases hb : Nat.beq f p.1 with
    | true =>
      rw [hb] at h
      cases h
      have := Nat.eq_of_beq_eq_true hb
      subst this
      exact List.mem_cons_self ..
    | false => rw [hb] at h; exact List.mem_cons_of_mem _ (assocN_mem r f e h)
def extList : List (Nat × Ext) := [(138, .same), (164, .load .u32), (197, .store .u32), (231, .mark0 .disable), (232, .cas .i32), (233, .mark0 .enable), (234, .mark1 .acquire), (236, .mark1 .releaseMerge), (237, .add .i32), (263, .cmp)]
noncomputable def cx : Cx := { P := Tryz.prog, ext := assocN extList, tab := fun _ => none, fuel := 1000000, g := .leaf }
theorem given138 : Given Tryz.prog 138 (.same) := ⟨_, Tryz.func138, by kernel_rfl, by kernel_rfl, by kernel_rfl, by kernel_rfl⟩
theorem given164 : Given Tryz.prog 164 (.load .u32) := ⟨_, Tryz.func164, by kernel_rfl, by kernel_rfl, by kernel_rfl, by kernel_rfl⟩
theorem given197 : Given Tryz.prog 197 (.store .u32) := ⟨_, Tryz.func197, by kernel_rfl, by kernel_rfl, by kernel_rfl, by kernel_rfl⟩
theorem given231 : Given Tryz.prog 231 (.mark0 .disable) := ⟨_, Tryz.func231, by kernel_rfl, by kernel_rfl, by kernel_rfl, by kernel_rfl⟩
theorem given232 : Given Tryz.prog 232 (.cas .i32) := ⟨_, Tryz.func232, by kernel_rfl, by kernel_rfl, by kernel_rfl, by kernel_rfl⟩
theorem given233 : Given Tryz.prog 233 (.mark0 .enable) := ⟨_, Tryz.func233, by kernel_rfl, by kernel_rfl, by kernel_rfl, by kernel_rfl⟩
theorem given234 : Given Tryz.prog 234 (.mark1 .acquire) := ⟨_, Tryz.func234, by kernel_rfl, by kernel_rfl, by kernel_rfl, by kernel_rfl⟩
theorem given236 : Given Tryz.prog 236 (.mark1 .releaseMerge) := ⟨_, Tryz.func236, by kernel_rfl, by kernel_rfl, by kernel_rfl, by kernel_rfl⟩
theorem given237 : Given Tryz.prog 237 (.add .i32) := ⟨_, Tryz.func237, by kernel_rfl, by kernel_rfl, by kernel_rfl, by kernel_rfl⟩
theorem given263 : Given Tryz.prog 263 (.cmp) := ⟨_, Tryz.func263, by kernel_rfl, by kernel_rfl, by kernel_rfl, by kernel_rfl⟩
theorem names : (Tryz.prog.funcs.toList.all fun fn => !(fn.name == "runtime.NumGoroutine")) = true := by kernel_rfl
theorem mixed : Tryz.prog.follows .mixedOrders = true := by kernel_rfl
theorem nameOk (f : FuncId) (fn : Func) (h : Tryz.prog.funcs[f]? = some fn) : (fn.name == "runtime.NumGoroutine") = false := by
  have := List.all_eq_true.1 names fn (Array.mem_toList_iff.2 (Array.mem_of_getElem? h))
  simpa using this
theorem extOk : ExtOk cx where
  ext f e h := by
    have h' := assocN_mem _ _ _ h
    simp only [extList, List.mem_cons, Prod.mk.injEq, List.not_mem_nil, or_false] at h'
    rcases h' with ⟨rfl, rfl⟩ | ⟨rfl, rfl⟩ | ⟨rfl, rfl⟩ | ⟨rfl, rfl⟩ | ⟨rfl, rfl⟩ | ⟨rfl, rfl⟩ | ⟨rfl, rfl⟩ | ⟨rfl, rfl⟩ | ⟨rfl, rfl⟩ | ⟨rfl, rfl⟩
    · exact given138
    · exact given164
    · exact given197
    · exact given231
    · exact given232
    · exact given233
    · exact given234
    · exact given236
    · exact given237
    · exact given263
  name := nameOk
end Go.Proofs.YtlenplmbdclkbaaGreat
