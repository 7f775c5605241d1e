/- The setting of the interpreter for this program: which functions the model gives. -/
import Derived.Test.YtggjhmhjjghncaaGreatProg
import Derived.Test.YtggjhmhjjghncaaGreatR3
import Derived.KernelRfl
namespace Go.Proofs.YtggjhmhjjghncaaGreat
open Go.Run
def assocN : List (Nat × Ext) → Nat → Option Ext
  | [], _ => none
  | p :: r, f => bif Nat.beq f p.1 then some p.2 else assocN r f
theorem assocN_mem : ∀ (l : List (Nat × Ext)) (f : Nat) (e : Ext), assocN l f = some e → (f, e) ∈ l
  | p :: r, f, e, h => by
    unfold assocN at h
    cases hb : Nat.beq f p.1 with
    | true =>
      rw [hb] at h
      cases h
      have := Nat.eq_of_beq_eq_true hb
      subst this
      exact List.mem_cons_self ..
    | false => rw [hb] at h; exact List.mem_cons_of_mem _ (assocN_mem r f e h)
def extList : List (Nat × Ext) := [(94, .same), (135, .load .u32), (159, .store .u32), (168, .mark0 .disable), (169, .cas .i32), (170, .mark0 .enable), (171, .mark1 .acquire), (173, .mark1 .releaseMerge), (174, .add .i32), (185, .cmp)]
/-- with fuel m for loops -/
noncomputable def C (m : Nat) : Cx := { P := Tryz.prog, ext := assocN extList, fuel := m, g := .leaf }
def tab : Tab := noTab
theorem given94 : Given Tryz.prog 94 (.same) := ⟨_, Tryz.func94, by kernel_rfl, by kernel_rfl, by kernel_rfl, by kernel_rfl⟩
theorem given135 : Given Tryz.prog 135 (.load .u32) := ⟨_, Tryz.func135, by kernel_rfl, by kernel_rfl, by kernel_rfl, by kernel_rfl⟩
theorem given159 : Given Tryz.prog 159 (.store .u32) := ⟨_, Tryz.func159, by kernel_rfl, by kernel_rfl, by kernel_rfl, by kernel_rfl⟩
theorem given168 : Given Tryz.prog 168 (.mark0 .disable) := ⟨_, Tryz.func168, by kernel_rfl, by kernel_rfl, by kernel_rfl, by kernel_rfl⟩
theorem given169 : Given Tryz.prog 169 (.cas .i32) := ⟨_, Tryz.func169, by kernel_rfl, by kernel_rfl, by kernel_rfl, by kernel_rfl⟩
theorem given170 : Given Tryz.prog 170 (.mark0 .enable) := ⟨_, Tryz.func170, by kernel_rfl, by kernel_rfl, by kernel_rfl, by kernel_rfl⟩
theorem given171 : Given Tryz.prog 171 (.mark1 .acquire) := ⟨_, Tryz.func171, by kernel_rfl, by kernel_rfl, by kernel_rfl, by kernel_rfl⟩
theorem given173 : Given Tryz.prog 173 (.mark1 .releaseMerge) := ⟨_, Tryz.func173, by kernel_rfl, by kernel_rfl, by kernel_rfl, by kernel_rfl⟩
theorem given174 : Given Tryz.prog 174 (.add .i32) := ⟨_, Tryz.func174, by kernel_rfl, by kernel_rfl, by kernel_rfl, by kernel_rfl⟩
theorem given185 : Given Tryz.prog 185 (.cmp) := ⟨_, Tryz.func185, by kernel_rfl, by kernel_rfl, by kernel_rfl, by kernel_rfl⟩
theorem names : (Tryz.prog.funcs.toList.all fun fn => !(fn.name == "runtime.NumGoroutine")) = true := by kernel_rfl
theorem mixed : Tryz.prog.follows .mixedOrders = true := by kernel_rfl
theorem nameOk (f : FuncId) (fn : Func) (h : Tryz.prog.funcs[f]? = some fn) : (fn.name == "runtime.NumGoroutine") = false := by
  have := List.all_eq_true.1 names fn (Array.mem_toList_iff.2 (Array.mem_of_getElem? h))
  simpa using this
theorem extOk (m : Nat) : ExtOk (C m) where
  ext f e h := by
    have h' := assocN_mem _ _ _ h
    simp only [extList, List.mem_cons, Prod.mk.injEq, List.not_mem_nil, or_false] at h'
    rcases h' with ⟨rfl, rfl⟩ | ⟨rfl, rfl⟩ | ⟨rfl, rfl⟩ | ⟨rfl, rfl⟩ | ⟨rfl, rfl⟩ | ⟨rfl, rfl⟩ | ⟨rfl, rfl⟩ | ⟨rfl, rfl⟩ | ⟨rfl, rfl⟩ | ⟨rfl, rfl⟩
    · exact given94
    · exact given135
    · exact given159
    · exact given168
    · exact given169
    · exact given170
    · exact given171
    · exact given173
    · exact given174
    · exact given185
  name := nameOk
end Go.Proofs.YtggjhmhjjghncaaGreat
