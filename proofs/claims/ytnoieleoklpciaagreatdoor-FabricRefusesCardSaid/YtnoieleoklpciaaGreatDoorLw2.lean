/- The law: Do, whatever the step. -/
import Derived.Test.YtnoieleoklpciaaGreatDoorLw1
set_option linter.unusedVariables false
set_option linter.unusedSimpArgs false
namespace Go.Proofs.YtnoieleoklpciaaGreatDoor
open Go.Run Go
namespace Core
open Ty
set_option maxRecDepth 1000000
noncomputable def W2 (k w n : Int) (fr : List UInt8) : St := (W1 k w n fr).push (.cells (stepL k w n fr) 23 true)
noncomputable def doC (k w n : Int) (fr : List UInt8) : Option (AV × St) := cL 999 8 [P 101 0, .agg (stepL k w n fr)] (W1 k w n fr)
/-- what is left as it was -/
noncomputable def see (r : Option (AV × St)) : Option (AV × Option Blk × Bool × Option Blk) := r.map fun r => (r.1, r.2.get 0, Nat.blt 0 r.2.next, r.2.get 1)
theorem see_ok {k w n : Int} {fr : List UInt8} {r : Option (AV × St)} {v : AV} (h : see r = some (v, some (.ro deB), true, some (.cells (stepL k w n fr) 23 true))) : ∃ s, r = some (v, s) ∧ Old k w n fr s := by
  obtain ⟨⟨v', s⟩, h1, h2⟩ := Option.map_eq_some_iff.mp h
  obtain ⟨h3, h4⟩ := Prod.mk.inj h2
  obtain ⟨h5, h6⟩ := Prod.mk.inj h4
  obtain ⟨h7, h8⟩ := Prod.mk.inj h6
  exact ⟨s, by rw [h1]; exact congrArg (fun x => some (x, s)) h3, h5, Nat.le_of_ble_eq_true h7, h8⟩
theorem n_neg (m : Nat) (w n : Int) (fr : List UInt8) : doC (.negSucc m) w n fr = some (I 1, W2 (.negSucc m) w n fr) := by kernel_rfl
theorem n_0 (w n : Int) (fr : List UInt8) : doC 0 w n fr = some (I 1, W2 0 w n fr) := by kernel_rfl
theorem n_big (m : Nat) (w n : Int) (fr : List UInt8) : doC (.ofNat (m + 9)) w n fr = some (I 1, W2 (.ofNat (m + 9)) w n fr) := by kernel_rfl
theorem w1_neg (m : Nat) (n : Int) (fr : List UInt8) : doC 1 (.negSucc m) n fr = some (I 6, W3 1 (.negSucc m) n fr) := by kernel_rfl
theorem w1_0 (n : Int) (fr : List UInt8) : doC 1 0 n fr = some (I 6, W3 1 0 n fr) := by kernel_rfl
theorem w1_big (m : Nat) (n : Int) (fr : List UInt8) : doC 1 (.ofNat (m + 3)) n fr = some (I 6, W3 1 (.ofNat (m + 3)) n fr) := by kernel_rfl
theorem w2_neg (m : Nat) (n : Int) (fr : List UInt8) : doC 2 (.negSucc m) n fr = some (I 6, W3 2 (.negSucc m) n fr) := by kernel_rfl
theorem w2_0 (n : Int) (fr : List UInt8) : doC 2 0 n fr = some (I 6, W3 2 0 n fr) := by kernel_rfl
theorem w2_big (m : Nat) (n : Int) (fr : List UInt8) : doC 2 (.ofNat (m + 3)) n fr = some (I 6, W3 2 (.ofNat (m + 3)) n fr) := by kernel_rfl
theorem w3_neg (m : Nat) (n : Int) (fr : List UInt8) : doC 3 (.negSucc m) n fr = some (I 6, W3 3 (.negSucc m) n fr) := by kernel_rfl
theorem w3_0 (n : Int) (fr : List UInt8) : doC 3 0 n fr = some (I 6, W3 3 0 n fr) := by kernel_rfl
theorem w3_big (m : Nat) (n : Int) (fr : List UInt8) : doC 3 (.ofNat (m + 3)) n fr = some (I 6, W3 3 (.ofNat (m + 3)) n fr) := by kernel_rfl
theorem w4_neg (m : Nat) (n : Int) (fr : List UInt8) : doC 4 (.negSucc m) n fr = some (I 6, W3 4 (.negSucc m) n fr) := by kernel_rfl
theorem w4_0 (n : Int) (fr : List UInt8) : doC 4 0 n fr = some (I 6, W3 4 0 n fr) := by kernel_rfl
theorem w4_big (m : Nat) (n : Int) (fr : List UInt8) : doC 4 (.ofNat (m + 3)) n fr = some (I 6, W3 4 (.ofNat (m + 3)) n fr) := by kernel_rfl
theorem x3_1 (n : Int) (fr : List UInt8) : doC 3 1 n fr = some (I 6, W3 3 1 n fr) := by kernel_rfl
theorem x3_2 (n : Int) (fr : List UInt8) : doC 3 2 n fr = some (I 6, W3 3 2 n fr) := by kernel_rfl
theorem m5_neg (m : Nat) (w : Int) (fr : List UInt8) : doC 5 w (.negSucc m) fr = some (I 6, W3 5 w (.negSucc m) fr) := by kernel_rfl
theorem m5_pos (m : Nat) (w : Int) (fr : List UInt8) : doC 5 w (.ofNat m) fr = some (I 6, W3 5 w (.ofNat m) fr) := by kernel_rfl
theorem m6_neg (m : Nat) (w : Int) (fr : List UInt8) : doC 6 w (.negSucc m) fr = some (I 6, W3 6 w (.negSucc m) fr) := by kernel_rfl
theorem m6_pos (m : Nat) (w : Int) (fr : List UInt8) : doC 6 w (.ofNat m) fr = some (I 6, W3 6 w (.ofNat m) fr) := by kernel_rfl
theorem m7_neg (m : Nat) (w : Int) (fr : List UInt8) : doC 7 w (.negSucc m) fr = some (I 6, W3 7 w (.negSucc m) fr) := by kernel_rfl
theorem m7_pos (m : Nat) (w : Int) (fr : List UInt8) : doC 7 w (.ofNat m) fr = some (I 6, W3 7 w (.ofNat m) fr) := by kernel_rfl
theorem h4_1 (n : Int) (fr : List UInt8) : see (doC 4 1 n fr) = some (I 0, some (.ro deB), true, some (.cells (stepL 4 1 n fr) 23 true)) := by kernel_rfl
theorem h4_2 (n : Int) (fr : List UInt8) : see (doC 4 2 n fr) = some (I 0, some (.ro deB), true, some (.cells (stepL 4 2 n fr) 23 true)) := by kernel_rfl
theorem r8 (w n : Int) (fr : List UInt8) : see (doC 8 w n fr) = some (I 0, some (.ro deB), true, some (.cells (stepL 8 w n fr) 23 true)) := by kernel_rfl
theorem d1_1 (n : Int) (fr : List UInt8) : K8_0 M (cL 998) (P 101 0) (.agg (stepL 1 1 n fr)) (W1 1 1 n fr) = bnd (calO (C M) (cL 998) (fnV 16) [P 101 0, .agg (stepL 1 1 n fr)]) (fun v => retV (C M) [(none, v)]) (W2 1 1 n fr) := by kernel_rfl
theorem a1_1 (n : Int) (fr : List UInt8) : K16_0 M (cL 997) (P 101 0) (.agg (stepL 1 1 n fr)) (W2 1 1 n fr) = bnd (calO (C M) (cL 997) (fnV 34) [P 196 0, S fr]) (fun v => retV (C M) [(none, v)]) (W3 1 1 n fr) := by kernel_rfl
theorem do1_1 (n : Int) {fr : List UInt8} (hl : fr.length ≤ 4096) : Yl (doC 1 1 n fr) (fun v s => Old 1 1 n fr s ∧ ∃ e, v = I e) := by
  unfold doC
  refine y_body (tab := tabL) (n := 998) rfl Tryz.func8 (by kernel_rfl) ?_
  rw [F8_eq]
  refine y_eq (d1_1 n fr) ?_
  have ha : Yl (cL 998 16 [P 101 0, .agg (stepL 1 1 n fr)] (W2 1 1 n fr)) (fun v s => Old 1 1 n fr s ∧ ∃ e, v = I e) := by
    refine y_body (tab := tabL) (n := 997) rfl Tryz.func16 (by kernel_rfl) ?_
    rw [F16_eq]
    refine y_eq (a1_1 n fr) ?_
    exact y_cyl rfl (feed1 n hl) fun v s h => y_ret0 h
  exact y_cyl rfl ha fun v s h => y_ret0 h
theorem d2_1 (n : Int) (fr : List UInt8) : K8_0 M (cL 998) (P 101 0) (.agg (stepL 2 1 n fr)) (W1 2 1 n fr) = bnd (calO (C M) (cL 998) (fnV 16) [P 101 0, .agg (stepL 2 1 n fr)]) (fun v => retV (C M) [(none, v)]) (W2 2 1 n fr) := by kernel_rfl
theorem a2_1 (n : Int) (fr : List UInt8) : K16_0 M (cL 997) (P 101 0) (.agg (stepL 2 1 n fr)) (W2 2 1 n fr) = bnd (calO (C M) (cL 997) (fnV 35) [P 196 0, I n]) (fun _ => retV (C M) [(none, I 0)]) (W3 2 1 n fr) := by kernel_rfl
theorem do2_1 (n : Int) (fr : List UInt8) : Yl (doC 2 1 n fr) (fun v s => Old 2 1 n fr s ∧ ∃ e, v = I e) := by
  unfold doC
  refine y_body (tab := tabL) (n := 998) rfl Tryz.func8 (by kernel_rfl) ?_
  rw [F8_eq]
  refine y_eq (d2_1 n fr) ?_
  have ha : Yl (cL 998 16 [P 101 0, .agg (stepL 2 1 n fr)] (W2 2 1 n fr)) (fun v s => Old 2 1 n fr s ∧ ∃ e, v = I e) := by
    refine y_body (tab := tabL) (n := 997) rfl Tryz.func16 (by kernel_rfl) ?_
    rw [F16_eq]
    refine y_eq (a2_1 n fr) ?_
    exact y_cyl rfl (tick1 n fr) fun v s h => y_ret0 ⟨h, 0, rfl⟩
  exact y_cyl rfl ha fun v s h => y_ret0 h
theorem d1_2 (n : Int) (fr : List UInt8) : K8_0 M (cL 998) (P 101 0) (.agg (stepL 1 2 n fr)) (W1 1 2 n fr) = bnd (calO (C M) (cL 998) (fnV 16) [P 101 0, .agg (stepL 1 2 n fr)]) (fun v => retV (C M) [(none, v)]) (W2 1 2 n fr) := by kernel_rfl
theorem a1_2 (n : Int) (fr : List UInt8) : K16_0 M (cL 997) (P 101 0) (.agg (stepL 1 2 n fr)) (W2 1 2 n fr) = bnd (calO (C M) (cL 997) (fnV 34) [P 293 0, S fr]) (fun v => retV (C M) [(none, v)]) (W3 1 2 n fr) := by kernel_rfl
theorem do1_2 (n : Int) {fr : List UInt8} (hl : fr.length ≤ 4096) : Yl (doC 1 2 n fr) (fun v s => Old 1 2 n fr s ∧ ∃ e, v = I e) := by
  unfold doC
  refine y_body (tab := tabL) (n := 998) rfl Tryz.func8 (by kernel_rfl) ?_
  rw [F8_eq]
  refine y_eq (d1_2 n fr) ?_
  have ha : Yl (cL 998 16 [P 101 0, .agg (stepL 1 2 n fr)] (W2 1 2 n fr)) (fun v s => Old 1 2 n fr s ∧ ∃ e, v = I e) := by
    refine y_body (tab := tabL) (n := 997) rfl Tryz.func16 (by kernel_rfl) ?_
    rw [F16_eq]
    refine y_eq (a1_2 n fr) ?_
    exact y_cyl rfl (feed2 n hl) fun v s h => y_ret0 h
  exact y_cyl rfl ha fun v s h => y_ret0 h
theorem d2_2 (n : Int) (fr : List UInt8) : K8_0 M (cL 998) (P 101 0) (.agg (stepL 2 2 n fr)) (W1 2 2 n fr) = bnd (calO (C M) (cL 998) (fnV 16) [P 101 0, .agg (stepL 2 2 n fr)]) (fun v => retV (C M) [(none, v)]) (W2 2 2 n fr) := by kernel_rfl
theorem a2_2 (n : Int) (fr : List UInt8) : K16_0 M (cL 997) (P 101 0) (.agg (stepL 2 2 n fr)) (W2 2 2 n fr) = bnd (calO (C M) (cL 997) (fnV 35) [P 293 0, I n]) (fun _ => retV (C M) [(none, I 0)]) (W3 2 2 n fr) := by kernel_rfl
theorem do2_2 (n : Int) (fr : List UInt8) : Yl (doC 2 2 n fr) (fun v s => Old 2 2 n fr s ∧ ∃ e, v = I e) := by
  unfold doC
  refine y_body (tab := tabL) (n := 998) rfl Tryz.func8 (by kernel_rfl) ?_
  rw [F8_eq]
  refine y_eq (d2_2 n fr) ?_
  have ha : Yl (cL 998 16 [P 101 0, .agg (stepL 2 2 n fr)] (W2 2 2 n fr)) (fun v s => Old 2 2 n fr s ∧ ∃ e, v = I e) := by
    refine y_body (tab := tabL) (n := 997) rfl Tryz.func16 (by kernel_rfl) ?_
    rw [F16_eq]
    refine y_eq (a2_2 n fr) ?_
    exact y_cyl rfl (tick2 n fr) fun v s h => y_ret0 ⟨h, 0, rfl⟩
  exact y_cyl rfl ha fun v s h => y_ret0 h
theorem see_yl {k w n : Int} {fr : List UInt8} {r : Option (AV × St)} {e : Int} (h : see r = some (I e, some (.ro deB), true, some (.cells (stepL k w n fr) 23 true))) : Yl r (fun v s => Old k w n fr s ∧ ∃ e, v = I e) := by
  obtain ⟨s, h1, h2⟩ := see_ok h
  exact y_of h1 ⟨h2, e, rfl⟩
/-- which steps are refused, and why -/
def Bad1 (k : Int) : Prop := k < 1 ∨ 8 < k
def Bad6 (k w : Int) : Prop := ¬ Bad1 k ∧ (k ≤ 4 ∧ (w < 1 ∨ 2 < w) ∨ k = 3 ∨ 5 ≤ k ∧ k ≤ 7)
theorem do_bad1 {k : Int} (w n : Int) (fr : List UInt8) (h : Bad1 k) : doC k w n fr = some (I 1, W2 k w n fr) := by
  unfold Bad1 at h
  cases k with
  | negSucc m => exact n_neg m w n fr
  | ofNat j =>
    rcases Nat.lt_or_ge j 1 with h1 | h1
    · obtain rfl : j = 0 := by omega
      exact n_0 w n fr
    · have h' : 8 < (j : Int) := by
        rcases h with h | h
        · have : ((j : Nat) : Int) < 1 := h
          omega
        · exact h
      obtain ⟨m, rfl⟩ : ∃ m, j = m + 9 := ⟨j - 9, by omega⟩
      exact n_big m w n fr
theorem w_cases {w : Int} (h : w < 1 ∨ 2 < w) : (∃ m, w = .negSucc m) ∨ w = 0 ∨ ∃ m : Nat, w = .ofNat (m + 3) := by
  cases w with
  | negSucc m => exact .inl ⟨m, rfl⟩
  | ofNat j =>
    rcases Nat.lt_or_ge j 1 with h1 | h1
    · obtain rfl : j = 0 := by omega
      exact .inr (.inl rfl)
    · refine .inr (.inr ⟨j - 3, ?_⟩)
      have : 2 < (j : Int) := by
        rcases h with h | h
        · have : ((j : Nat) : Int) < 1 := h
          omega
        · exact h
      have e : j = (j - 3) + 3 := by omega
      rw [← e]
theorem do_bad6 {k w : Int} (n : Int) (fr : List UInt8) (h : Bad6 k w) : doC k w n fr = some (I 6, W3 k w n fr) := by
  unfold Bad6 Bad1 at h
  obtain ⟨h0, h1⟩ := h
  rcases (by omega : k = 1 ∨ k = 2 ∨ k = 3 ∨ k = 4 ∨ k = 5 ∨ k = 6 ∨ k = 7) with rfl | rfl | rfl | rfl | rfl | rfl | rfl
  · rcases w_cases (w := w) (by omega) with ⟨m, rfl⟩ | rfl | ⟨m, rfl⟩
    · exact w1_neg m n fr
    · exact w1_0 n fr
    · exact w1_big m n fr
  · rcases w_cases (w := w) (by omega) with ⟨m, rfl⟩ | rfl | ⟨m, rfl⟩
    · exact w2_neg m n fr
    · exact w2_0 n fr
    · exact w2_big m n fr
  · rcases (by omega : w = 1 ∨ w = 2 ∨ (w < 1 ∨ 2 < w)) with rfl | rfl | hw
    · exact x3_1 n fr
    · exact x3_2 n fr
    · rcases w_cases hw with ⟨m, rfl⟩ | rfl | ⟨m, rfl⟩
      · exact w3_neg m n fr
      · exact w3_0 n fr
      · exact w3_big m n fr
  · rcases w_cases (w := w) (by omega) with ⟨m, rfl⟩ | rfl | ⟨m, rfl⟩
    · exact w4_neg m n fr
    · exact w4_0 n fr
    · exact w4_big m n fr
  · cases n with
    | ofNat m => exact m5_pos m w fr
    | negSucc m => exact m5_neg m w fr
  · cases n with
    | ofNat m => exact m6_pos m w fr
    | negSucc m => exact m6_neg m w fr
  · cases n with
    | ofNat m => exact m7_pos m w fr
    | negSucc m => exact m7_neg m w fr
theorem do_ends {k w : Int} (n : Int) {fr : List UInt8} (h1 : ¬ Bad1 k) (h6 : ¬ Bad6 k w) (hl : fr.length ≤ 4096) : Yl (doC k w n fr) (fun v s => Old k w n fr s ∧ ∃ e, v = I e) := by
  unfold Bad6 at h6
  unfold Bad1 at h1 h6
  rcases (by omega : k = 8 ∨ ((k = 1 ∨ k = 2 ∨ k = 4) ∧ (w = 1 ∨ w = 2))) with rfl | ⟨rfl | rfl | rfl, rfl | rfl⟩
  · exact see_yl (r8 w n fr)
  · exact do1_1 n hl
  · exact do1_2 n hl
  · exact do2_1 n fr
  · exact do2_2 n fr
  · exact see_yl (h4_1 n fr)
  · exact see_yl (h4_2 n fr)
end Core
end Go.Proofs.YtnoieleoklpciaaGreatDoor
