import Derived.Test.YtkikpolmfaiabaaGreatDoorProg
import Derived.Test.YtkikpolmfaiabaaGreatDoorRunS28
import Derived.KernelRfl
namespace Go.Proofs.YtkikpolmfaiabaaGreatDoor
open Go.Run

def ext (f : Nat) : Option Ext := bif Nat.beq f 121 then some .addI64 else bif Nat.beq f 122 then some .loadI64 else bif Nat.beq f 188 then some .same else bif Nat.beq f 303 then some .cmp else none
noncomputable def cx : Cx := { P := Tryz.prog, ext := ext, tab := fun _ => none, fuel := 1000000, g := .leaf }
def σ0 : St := { next := 2, m := .leaf }

theorem ext_of {f : Nat} {e : Ext} (h : ext f = some e) : (f = 121 ∧ e = .addI64) ∨ (f = 122 ∧ e = .loadI64) ∨ (f = 188 ∧ e = .same) ∨ (f = 303 ∧ e = .cmp) := by
  unfold ext at h
  by_cases h1 : f = 121
  · subst h1; cases h; exact .inl ⟨rfl, rfl⟩
  · by_cases h2 : f = 122
    · subst h2; cases h; exact .inr (.inl ⟨rfl, rfl⟩)
    · by_cases h3 : f = 188
      · subst h3; cases h; exact .inr (.inr (.inl ⟨rfl, rfl⟩))
      · by_cases h4 : f = 303
        · subst h4; cases h; exact .inr (.inr (.inr ⟨rfl, rfl⟩))
        · have e1 : Nat.beq f 121 = false := by cases hb : Nat.beq f 121 with | false => rfl | true => exact absurd (Nat.eq_of_beq_eq_true hb) h1
          have e2 : Nat.beq f 122 = false := by cases hb : Nat.beq f 122 with | false => rfl | true => exact absurd (Nat.eq_of_beq_eq_true hb) h2
          have e3 : Nat.beq f 188 = false := by cases hb : Nat.beq f 188 with | false => rfl | true => exact absurd (Nat.eq_of_beq_eq_true hb) h3
          have e4 : Nat.beq f 303 = false := by cases hb : Nat.beq f 303 with | false => rfl | true => exact absurd (Nat.eq_of_beq_eq_true hb) h4
          rw [e1, e2, e3, e4] at h; cases h

theorem find121 : Extern.find Tryz.f121 = some (entry .addI64) := by kernel_rfl
theorem find122 : Extern.find Tryz.f122 = some (entry .loadI64) := by kernel_rfl
theorem find188 : Extern.find Tryz.f188 = some (entry .same) := by kernel_rfl
theorem find303 : Extern.find Tryz.f303 = some (entry .cmp) := by kernel_rfl
theorem next121 : Extern.findNext Tryz.f121 = none := by kernel_rfl
theorem next122 : Extern.findNext Tryz.f122 = none := by kernel_rfl
theorem next188 : Extern.findNext Tryz.f188 = none := by kernel_rfl
theorem next303 : Extern.findNext Tryz.f303 = none := by kernel_rfl
theorem names : (Tryz.prog.funcs.toList.all fun fn => !(fn.name == "runtime.NumGoroutine")) = true := by kernel_rfl
theorem mixed : Tryz.prog.follows .mixedOrders = true := by kernel_rfl

theorem extOk : ExtOk cx where
  ext f e h := by
    rcases ext_of h with ⟨rfl, rfl⟩ | ⟨rfl, rfl⟩ | ⟨rfl, rfl⟩ | ⟨rfl, rfl⟩
    · exact ⟨_, Tryz.func121, by kernel_rfl, next121, find121⟩
    · exact ⟨_, Tryz.func122, by kernel_rfl, next122, find122⟩
    · exact ⟨_, Tryz.func188, by kernel_rfl, next188, find188⟩
    · exact ⟨_, Tryz.func303, by kernel_rfl, next303, find303⟩
  name f fn h := by
    have := List.all_eq_true.1 names fn (by
      have h' : Tryz.prog.funcs[f]? = some fn := h
      exact Array.mem_toList_iff.2 (Array.mem_of_getElem? h'))
    simpa using this
end Go.Proofs.YtkikpolmfaiabaaGreatDoor
