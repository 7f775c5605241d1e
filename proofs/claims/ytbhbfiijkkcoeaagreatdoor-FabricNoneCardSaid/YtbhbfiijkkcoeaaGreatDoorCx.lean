/- The setting of the interpreter for this program: which functions the model gives. -/
import Derived.Test.YtbhbfiijkkcoeaaGreatDoorProg
import Derived.Test.YtbhbfiijkkcoeaaGreatDoorR3
import Derived.KernelRfl
namespace Go.Proofs.YtbhbfiijkkcoeaaGreatDoor
open Go.Run
def assocN : List (Nat × Ext) → Nat → Option Ext
  | [], _ => none
  | p :: r, f => bif Nat.beq f p.1 then some p.2 else assocN r f
theorem assocN_mem : ∀ (l : List (Nat × Ext)) (f : Nat) (e : Ext), assocN l f = some e → (f, e) ∈ l
  | p :: r, f, e, h => by
    unfold assocN at h
    cases hb : Nat.beq f p.1 with
    | true =>
      rw [hb] at h
      cases h
      have := Nat.eq_of_beq_eq_true hb
      subst this
      exact List.mem_cons_self ..
    | false => rw [hb] at h; exact List.mem_cons_of_mem _ (assocN_mem r f e h)
def extList : List (Nat × Ext) := [(120, .load .i64), (143, .add .i64), (190, .same), (235, .load .u32), (304, .store .u32), (354, .mark0 .disable), (355, .cas .i32), (356, .mark0 .enable), (357, .mark1 .acquire), (359, .mark1 .releaseMerge), (360, .add .i32), (406, .cmp)]
noncomputable def cx0 : Cx := { P := Tryz.prog, ext := assocN extList, tab := fun _ => none, fuel := 1000000, g := .leaf }
theorem tabOk0 : TabOk cx0 := fun _ _ h => by cases h
/-- awake answers true, and leaves what there is as it was -/
def awS (args : List AV) (σ : St) : Option (AV × St) := match args with
  | [] => some (.one (.bool true), σ)
  | _ => none
noncomputable def cx : Cx := { cx0 with tab := fun f => bif Nat.beq f 7 then some awS else none }
theorem given120 : Given Tryz.prog 120 (.load .i64) := ⟨_, Tryz.func120, by kernel_rfl, by kernel_rfl, by kernel_rfl, by kernel_rfl⟩
theorem given143 : Given Tryz.prog 143 (.add .i64) := ⟨_, Tryz.func143, by kernel_rfl, by kernel_rfl, by kernel_rfl, by kernel_rfl⟩
theorem given190 : Given Tryz.prog 190 (.same) := ⟨_, Tryz.func190, by kernel_rfl, by kernel_rfl, by kernel_rfl, by kernel_rfl⟩
theorem given235 : Given Tryz.prog 235 (.load .u32) := ⟨_, Tryz.func235, by kernel_rfl, by kernel_rfl, by kernel_rfl, by kernel_rfl⟩
theorem given304 : Given Tryz.prog 304 (.store .u32) := ⟨_, Tryz.func304, by kernel_rfl, by kernel_rfl, by kernel_rfl, by kernel_rfl⟩
theorem given354 : Given Tryz.prog 354 (.mark0 .disable) := ⟨_, Tryz.func354, by kernel_rfl, by kernel_rfl, by kernel_rfl, by kernel_rfl⟩
theorem given355 : Given Tryz.prog 355 (.cas .i32) := ⟨_, Tryz.func355, by kernel_rfl, by kernel_rfl, by kernel_rfl, by kernel_rfl⟩
theorem given356 : Given Tryz.prog 356 (.mark0 .enable) := ⟨_, Tryz.func356, by kernel_rfl, by kernel_rfl, by kernel_rfl, by kernel_rfl⟩
theorem given357 : Given Tryz.prog 357 (.mark1 .acquire) := ⟨_, Tryz.func357, by kernel_rfl, by kernel_rfl, by kernel_rfl, by kernel_rfl⟩
theorem given359 : Given Tryz.prog 359 (.mark1 .releaseMerge) := ⟨_, Tryz.func359, by kernel_rfl, by kernel_rfl, by kernel_rfl, by kernel_rfl⟩
theorem given360 : Given Tryz.prog 360 (.add .i32) := ⟨_, Tryz.func360, by kernel_rfl, by kernel_rfl, by kernel_rfl, by kernel_rfl⟩
theorem given406 : Given Tryz.prog 406 (.cmp) := ⟨_, Tryz.func406, by kernel_rfl, by kernel_rfl, by kernel_rfl, by kernel_rfl⟩
theorem names : (Tryz.prog.funcs.toList.all fun fn => !(fn.name == "runtime.NumGoroutine")) = true := by kernel_rfl
theorem mixed : Tryz.prog.follows .mixedOrders = true := by kernel_rfl
theorem nameOk (f : FuncId) (fn : Func) (h : Tryz.prog.funcs[f]? = some fn) : (fn.name == "runtime.NumGoroutine") = false := by
  have := List.all_eq_true.1 names fn (Array.mem_toList_iff.2 (Array.mem_of_getElem? h))
  simpa using this
theorem extOk0 : ExtOk cx0 where
  ext f e h := by
    have h' := assocN_mem _ _ _ h
    simp only [extList, List.mem_cons, Prod.mk.injEq, List.not_mem_nil, or_false] at h'
    rcases h' with ⟨rfl, rfl⟩ | ⟨rfl, rfl⟩ | ⟨rfl, rfl⟩ | ⟨rfl, rfl⟩ | ⟨rfl, rfl⟩ | ⟨rfl, rfl⟩ | ⟨rfl, rfl⟩ | ⟨rfl, rfl⟩ | ⟨rfl, rfl⟩ | ⟨rfl, rfl⟩ | ⟨rfl, rfl⟩ | ⟨rfl, rfl⟩
    · exact given120
    · exact given143
    · exact given190
    · exact given235
    · exact given304
    · exact given354
    · exact given355
    · exact given356
    · exact given357
    · exact given359
    · exact given360
    · exact given406
  name := nameOk
theorem extOk : ExtOk cx := ⟨extOk0.ext, extOk0.name⟩
end Go.Proofs.YtbhbfiijkkcoeaaGreatDoor
