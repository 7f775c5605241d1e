/- The law: whatever the step. -/
import Derived.Test.YtnoieleoklpciaaGreatDoorLw2
import Derived.Test.YtnoieleoklpciaaGreatDoorSm1
import Derived.Test.YtnoieleoklpciaaGreatDoorSm2
set_option linter.unusedVariables false
set_option linter.unusedSimpArgs false
namespace Go.Proofs.YtnoieleoklpciaaGreatDoor
open Go.Run Go
namespace Core
open Ty
set_option maxRecDepth 1000000
section
variable {k w n : Int} {fr : List UInt8} {s : St} {Q : AV → St → Prop}
theorem aw_call {m : Nat} (h : Old k w n fr s) : ∃ v s', callK (C M) tabL (m + 1) 4 [] s = some (v, s') ∧ Gr s s' ∧ QT v :=
  call_mk (t := tabL) (t0 := tab4) (f := 4) (Q := QT) (sh := shT) (bl := []) (ad := []) (args0 := []) rfl (fun _ _ => shT_ok) h.1 deB_flat h.2.1 rfl blk_nil rfl (fun _ => rfl) aw_run
theorem y_aw {c : AV → Kt} (h : Old k w n fr s) (hk : ∀ s', Yl (c (B true) s') Q) : Yl (bnd (calO (C M) (cL 999) (fnV 4) []) c s) Q := by
  obtain ⟨v, s', h1, h2, rfl⟩ := aw_call (m := 998) h
  exact y_cal rfl h1 (hk s')
/-- the answer that is wanted -/
theorem want {e : AV} (h : Old k w n fr s) : (Bad1 k → Yl (K3_8 M (cL 999) (P 101 0) (P 444 0) e (I 1) s) Q) → (Bad6 k w → Yl (K3_8 M (cL 999) (P 101 0) (P 444 0) e (I 6) s) Q) → (¬ Bad1 k → ¬ Bad6 k w → Yl (K3_8 M (cL 999) (P 101 0) (P 444 0) e (I 0) s) Q) →
    Yl (K3_7 M (cL 999) (P 1 0) (P 101 0) (P 444 0) e (I 0) s) Q := by
  intro q1 q6 q0
  have g := h.2.2
  have L := Lies.of g
  unfold Bad6 at q6 q0
  unfold Bad1 at q1 q6 q0
  by_cases c1 : k < 1
  · unfold K3_7
    refine y_val (fa23_0) ?_
    refine y_val (ld_fld L ag3 rfl) ?_
    refine y_val (k_lssT (by omega)) ?_
    refine y_val (gd_off) ?_
    refine y_val (gd_off) ?_
    refine y_val (gd_off) ?_
    refine y_val (rfl) ?_
    refine y_ift (rfl) ?_
    exact q1 (.inl c1)
  by_cases c2 : 8 < k
  · unfold K3_7
    refine y_val (fa23_0) ?_
    refine y_val (ld_fld L ag3 rfl) ?_
    refine y_val (k_lssF (by omega)) ?_
    refine y_val (gd_on (fa23_0)) ?_
    refine y_val (gd_on (ld_fld L ag3 rfl)) ?_
    refine y_val (gd_on (k_gtrT (by omega))) ?_
    refine y_val (rfl) ?_
    refine y_ift (rfl) ?_
    exact q1 (.inr c2)
  by_cases c3 : k ≤ 4
  · by_cases c4 : w < 1
    · unfold K3_7
      refine y_val (fa23_0) ?_
      refine y_val (ld_fld L ag3 rfl) ?_
      refine y_val (k_lssF (by omega)) ?_
      refine y_val (gd_on (fa23_0)) ?_
      refine y_val (gd_on (ld_fld L ag3 rfl)) ?_
      refine y_val (gd_on (k_gtrF (by omega))) ?_
      refine y_val (rfl) ?_
      refine y_iff (rfl) ?_
      refine y_val (fa23_0) ?_
      refine y_val (ld_fld L ag3 rfl) ?_
      refine y_val (k_leqT (by omega)) ?_
      refine y_val (gd_on (fa23_1)) ?_
      refine y_val (gd_on (ld_fld L ag3 rfl)) ?_
      refine y_val (gd_on (k_lssT (by omega))) ?_
      refine y_val (gd_on (rfl)) ?_
      refine y_val (gd_off) ?_
      refine y_val (gd_off) ?_
      refine y_val (gd_off) ?_
      refine y_val (gd_on (rfl)) ?_
      refine y_val (rfl) ?_
      refine y_val (gd_off) ?_
      refine y_val (gd_off) ?_
      refine y_val (gd_off) ?_
      refine y_val (rfl) ?_
      refine y_val (gd_off) ?_
      refine y_val (gd_off) ?_
      refine y_val (gd_off) ?_
      refine y_val (gd_off) ?_
      refine y_val (gd_off) ?_
      refine y_val (gd_off) ?_
      refine y_val (gd_off) ?_
      refine y_val (gd_off) ?_
      refine y_val (rfl) ?_
      refine y_ift (rfl) ?_
      exact q6 ⟨by omega, by omega⟩
    by_cases c5 : 2 < w
    · unfold K3_7
      refine y_val (fa23_0) ?_
      refine y_val (ld_fld L ag3 rfl) ?_
      refine y_val (k_lssF (by omega)) ?_
      refine y_val (gd_on (fa23_0)) ?_
      refine y_val (gd_on (ld_fld L ag3 rfl)) ?_
      refine y_val (gd_on (k_gtrF (by omega))) ?_
      refine y_val (rfl) ?_
      refine y_iff (rfl) ?_
      refine y_val (fa23_0) ?_
      refine y_val (ld_fld L ag3 rfl) ?_
      refine y_val (k_leqT (by omega)) ?_
      refine y_val (gd_on (fa23_1)) ?_
      refine y_val (gd_on (ld_fld L ag3 rfl)) ?_
      refine y_val (gd_on (k_lssF (by omega))) ?_
      refine y_val (gd_on (rfl)) ?_
      refine y_val (gd_on (fa23_1)) ?_
      refine y_val (gd_on (ld_fld L ag3 rfl)) ?_
      refine y_val (gd_on (k_gtrT (by omega))) ?_
      refine y_val (gd_on (rfl)) ?_
      refine y_val (rfl) ?_
      refine y_val (gd_off) ?_
      refine y_val (gd_off) ?_
      refine y_val (gd_off) ?_
      refine y_val (rfl) ?_
      refine y_val (gd_off) ?_
      refine y_val (gd_off) ?_
      refine y_val (gd_off) ?_
      refine y_val (gd_off) ?_
      refine y_val (gd_off) ?_
      refine y_val (gd_off) ?_
      refine y_val (gd_off) ?_
      refine y_val (gd_off) ?_
      refine y_val (rfl) ?_
      refine y_ift (rfl) ?_
      exact q6 ⟨by omega, by omega⟩
    by_cases c6 : k = 3
    · unfold K3_7
      refine y_val (fa23_0) ?_
      refine y_val (ld_fld L ag3 rfl) ?_
      refine y_val (k_lssF (by omega)) ?_
      refine y_val (gd_on (fa23_0)) ?_
      refine y_val (gd_on (ld_fld L ag3 rfl)) ?_
      refine y_val (gd_on (k_gtrF (by omega))) ?_
      refine y_val (rfl) ?_
      refine y_iff (rfl) ?_
      refine y_val (fa23_0) ?_
      refine y_val (ld_fld L ag3 rfl) ?_
      refine y_val (k_leqT (by omega)) ?_
      refine y_val (gd_on (fa23_1)) ?_
      refine y_val (gd_on (ld_fld L ag3 rfl)) ?_
      refine y_val (gd_on (k_lssF (by omega))) ?_
      refine y_val (gd_on (rfl)) ?_
      refine y_val (gd_on (fa23_1)) ?_
      refine y_val (gd_on (ld_fld L ag3 rfl)) ?_
      refine y_val (gd_on (k_gtrF (by omega))) ?_
      refine y_val (gd_on (rfl)) ?_
      refine y_val (rfl) ?_
      refine y_val (gd_on (fa23_0)) ?_
      refine y_val (gd_on (ld_fld L ag3 rfl)) ?_
      refine y_val (gd_on (k_eqlT (by omega))) ?_
      refine y_val (rfl) ?_
      refine y_val (gd_off) ?_
      refine y_val (gd_off) ?_
      refine y_val (gd_off) ?_
      refine y_val (gd_off) ?_
      refine y_val (gd_off) ?_
      refine y_val (gd_off) ?_
      refine y_val (gd_off) ?_
      refine y_val (gd_off) ?_
      refine y_val (rfl) ?_
      refine y_ift (rfl) ?_
      exact q6 ⟨by omega, by omega⟩
    · unfold K3_7
      refine y_val (fa23_0) ?_
      refine y_val (ld_fld L ag3 rfl) ?_
      refine y_val (k_lssF (by omega)) ?_
      refine y_val (gd_on (fa23_0)) ?_
      refine y_val (gd_on (ld_fld L ag3 rfl)) ?_
      refine y_val (gd_on (k_gtrF (by omega))) ?_
      refine y_val (rfl) ?_
      refine y_iff (rfl) ?_
      refine y_val (fa23_0) ?_
      refine y_val (ld_fld L ag3 rfl) ?_
      refine y_val (k_leqT (by omega)) ?_
      refine y_val (gd_on (fa23_1)) ?_
      refine y_val (gd_on (ld_fld L ag3 rfl)) ?_
      refine y_val (gd_on (k_lssF (by omega))) ?_
      refine y_val (gd_on (rfl)) ?_
      refine y_val (gd_on (fa23_1)) ?_
      refine y_val (gd_on (ld_fld L ag3 rfl)) ?_
      refine y_val (gd_on (k_gtrF (by omega))) ?_
      refine y_val (gd_on (rfl)) ?_
      refine y_val (rfl) ?_
      refine y_val (gd_on (fa23_0)) ?_
      refine y_val (gd_on (ld_fld L ag3 rfl)) ?_
      refine y_val (gd_on (k_eqlF (by omega))) ?_
      refine y_val (rfl) ?_
      refine y_val (gd_on (fa23_0)) ?_
      refine y_val (gd_on (ld_fld L ag3 rfl)) ?_
      refine y_val (gd_on (k_geqF (by omega))) ?_
      refine y_val (gd_on (rfl)) ?_
      refine y_val (gd_off) ?_
      refine y_val (gd_off) ?_
      refine y_val (gd_off) ?_
      refine y_val (gd_on (rfl)) ?_
      refine y_val (rfl) ?_
      refine y_iff (rfl) ?_
      exact q0 (by omega) (by omega)
  · by_cases c7 : k ≤ 7
    · unfold K3_7
      refine y_val (fa23_0) ?_
      refine y_val (ld_fld L ag3 rfl) ?_
      refine y_val (k_lssF (by omega)) ?_
      refine y_val (gd_on (fa23_0)) ?_
      refine y_val (gd_on (ld_fld L ag3 rfl)) ?_
      refine y_val (gd_on (k_gtrF (by omega))) ?_
      refine y_val (rfl) ?_
      refine y_iff (rfl) ?_
      refine y_val (fa23_0) ?_
      refine y_val (ld_fld L ag3 rfl) ?_
      refine y_val (k_leqF (by omega)) ?_
      refine y_val (gd_off) ?_
      refine y_val (gd_off) ?_
      refine y_val (gd_off) ?_
      refine y_val (gd_off) ?_
      refine y_val (gd_off) ?_
      refine y_val (gd_off) ?_
      refine y_val (gd_off) ?_
      refine y_val (gd_off) ?_
      refine y_val (rfl) ?_
      refine y_val (gd_on (fa23_0)) ?_
      refine y_val (gd_on (ld_fld L ag3 rfl)) ?_
      refine y_val (gd_on (k_eqlF (by omega))) ?_
      refine y_val (rfl) ?_
      refine y_val (gd_on (fa23_0)) ?_
      refine y_val (gd_on (ld_fld L ag3 rfl)) ?_
      refine y_val (gd_on (k_geqT (by omega))) ?_
      refine y_val (gd_on (rfl)) ?_
      refine y_val (gd_on (fa23_0)) ?_
      refine y_val (gd_on (ld_fld L ag3 rfl)) ?_
      refine y_val (gd_on (k_leqT (by omega))) ?_
      refine y_val (gd_on (rfl)) ?_
      refine y_val (rfl) ?_
      refine y_ift (rfl) ?_
      exact q6 ⟨by omega, by omega⟩
    · unfold K3_7
      refine y_val (fa23_0) ?_
      refine y_val (ld_fld L ag3 rfl) ?_
      refine y_val (k_lssF (by omega)) ?_
      refine y_val (gd_on (fa23_0)) ?_
      refine y_val (gd_on (ld_fld L ag3 rfl)) ?_
      refine y_val (gd_on (k_gtrF (by omega))) ?_
      refine y_val (rfl) ?_
      refine y_iff (rfl) ?_
      refine y_val (fa23_0) ?_
      refine y_val (ld_fld L ag3 rfl) ?_
      refine y_val (k_leqF (by omega)) ?_
      refine y_val (gd_off) ?_
      refine y_val (gd_off) ?_
      refine y_val (gd_off) ?_
      refine y_val (gd_off) ?_
      refine y_val (gd_off) ?_
      refine y_val (gd_off) ?_
      refine y_val (gd_off) ?_
      refine y_val (gd_off) ?_
      refine y_val (rfl) ?_
      refine y_val (gd_on (fa23_0)) ?_
      refine y_val (gd_on (ld_fld L ag3 rfl)) ?_
      refine y_val (gd_on (k_eqlF (by omega))) ?_
      refine y_val (rfl) ?_
      refine y_val (gd_on (fa23_0)) ?_
      refine y_val (gd_on (ld_fld L ag3 rfl)) ?_
      refine y_val (gd_on (k_geqT (by omega))) ?_
      refine y_val (gd_on (rfl)) ?_
      refine y_val (gd_on (fa23_0)) ?_
      refine y_val (gd_on (ld_fld L ag3 rfl)) ?_
      refine y_val (gd_on (k_leqF (by omega))) ?_
      refine y_val (gd_on (rfl)) ?_
      refine y_val (rfl) ?_
      refine y_iff (rfl) ?_
      exact q0 (by omega) (by omega)
/-- the answer is that, all is the same, and awake -/
theorem told {e : Int} (he : e ≠ 0) (h : Old k w n fr s) (hx : ldO (C M) 39 (P 444 0) s = .val (.agg xL)) {s' : St} (hs : cL 999 9 [P 101 0, .agg xL] s = some (B true, s')) (h' : s'.get 0 = some (.ro deB)) (hn : 0 < s'.next) :
    Yl (K3_8 M (cL 999) (P 101 0) (P 444 0) (I e) (I e) s) (fun v _ => v = B true) := by
  unfold K3_8
  refine y_val (k_eqlF he) ?_
  refine y_iff (rfl) ?_
  refine y_val (k_eqlT rfl) ?_
  refine y_gon rfl (rfl) ?_
  refine y_gon rfl (hx) ?_
  refine y_gcal rfl rfl (hs) ?_
  refine y_val (rfl) ?_
  obtain ⟨v, s2, h1, h2, rfl⟩ := call_mk (t := tabL) (t0 := tab4) (n := 998) (f := 4) (Q := QT) (sh := shT) (bl := []) (ad := []) (args0 := []) (σ := s') rfl (fun _ _ => shT_ok) h' deB_flat hn rfl blk_nil rfl (fun _ => rfl) aw_run
  refine y_gcal rfl rfl (h1) ?_
  refine y_val (rfl) ?_
  exact y_ret0 rfl
theorem mp_ok {r : Option (AV × St)} (h : r.map (fun r => (r.1, r.2.get 0, Nat.blt 0 r.2.next)) = some (B true, some (.ro deB), true)) : ∃ s, r = some (B true, s) ∧ s.get 0 = some (.ro deB) ∧ 0 < s.next := by
  obtain ⟨⟨v', s⟩, h1, h2⟩ := Option.map_eq_some_iff.mp h
  obtain ⟨h3, h4⟩ := Prod.mk.inj h2
  obtain ⟨h5, h6⟩ := Prod.mk.inj h4
  exact ⟨s, by rw [h1]; exact congrArg (fun x => some (x, s)) h3, h5, Nat.le_of_ble_eq_true h6⟩
theorem old2 (k w n : Int) (fr : List UInt8) : Old k w n fr (W2 k w n fr) := ⟨by kernel_rfl, Nat.le_of_ble_eq_true (show Nat.ble 1 (W2 k w n fr).next = true by kernel_rfl), by kernel_rfl⟩
theorem ld2 (k w n : Int) (fr : List UInt8) : ldO (C M) 39 (P 444 0) (W2 k w n fr) = .val (.agg xL) := by kernel_rfl
theorem ld3 (k w n : Int) (fr : List UInt8) : ldO (C M) 39 (P 444 0) (W3 k w n fr) = .val (.agg xL) := by kernel_rfl
theorem ld1 (k w n : Int) (fr : List UInt8) : ldO (C M) 23 (P 1 0) (W1 k w n fr) = .val (.agg (stepL k w n fr)) := by kernel_rfl
theorem sm1' (k w n : Int) (fr : List UInt8) : (cL 999 9 [P 101 0, .agg xL] (W2 k w n fr)).map (fun r => (r.1, r.2.get 0, Nat.blt 0 r.2.next)) = some (B true, some (.ro deB), true) := by
  unfold W2
  exact sm1 k w n fr
theorem sm2' (k w n : Int) (fr : List UInt8) : (cL 999 9 [P 101 0, .agg xL] (W3 k w n fr)).map (fun r => (r.1, r.2.get 0, Nat.blt 0 r.2.next)) = some (B true, some (.ro deB), true) := by
  unfold W3
  exact sm2 k w n fr
theorem law_b1 {k : Int} (w n : Int) (fr : List UInt8) (b1 : Bad1 k) : Yl (K3_7 M (cL 999) (P 1 0) (P 101 0) (P 444 0) (I 1) (I 0) (W2 k w n fr)) (fun v _ => v = B true) := by
  obtain ⟨s', h1, h2, h3⟩ := mp_ok (sm1' k w n fr)
  exact want (old2 k w n fr) (fun _ => told (by decide) (old2 k w n fr) (ld2 k w n fr) h1 h2 h3) (fun h => absurd b1 h.1) (fun h => absurd b1 h)
theorem law_b6 {k w : Int} (n : Int) (fr : List UInt8) (b1 : ¬ Bad1 k) (b6 : Bad6 k w) : Yl (K3_7 M (cL 999) (P 1 0) (P 101 0) (P 444 0) (I 6) (I 0) (W3 k w n fr)) (fun v _ => v = B true) := by
  obtain ⟨s', h1, h2, h3⟩ := mp_ok (sm2' k w n fr)
  exact want (old3 k w n fr) (fun h => absurd h b1) (fun _ => told (by decide) (old3 k w n fr) (ld3 k w n fr) h1 h2 h3) (fun _ h => absurd b6 h)
theorem law_do (k w n : Int) (fr : List UInt8) (hl : fr.length ≤ 4096) : Yl (K3_5 M (cL 999) (P 1 0) (P 101 0) (P 444 0) (W1 k w n fr)) (fun v _ => v = B true) := by
  unfold K3_5
  refine y_val (ld1 _ _ _ _) ?_
  by_cases b1 : Bad1 k
  · have hd : cL 999 8 [P 101 0, .agg (stepL k w n fr)] (W1 k w n fr) = some (I 1, W2 k w n fr) := do_bad1 w n fr b1
    refine y_cal rfl hd ?_
    unfold K3_6
    exact law_b1 w n fr b1
  by_cases b6 : Bad6 k w
  · have hd : cL 999 8 [P 101 0, .agg (stepL k w n fr)] (W1 k w n fr) = some (I 6, W3 k w n fr) := do_bad6 n fr b6
    refine y_cal rfl hd ?_
    unfold K3_6
    exact law_b6 n fr b1 b6
  · have hd : Yl (cL 999 8 [P 101 0, .agg (stepL k w n fr)] (W1 k w n fr)) (fun v s => Old k w n fr s ∧ ∃ e, v = I e) := do_ends n b1 b6 hl
    refine y_cyl rfl hd fun v s ⟨ho, e, hv⟩ => ?_
    subst hv
    unfold K3_6
    refine want ho (fun h => absurd h b1) (fun h => absurd h b6) (fun _ _ => ?_)
    unfold K3_8
    refine y_val (k_eqlT rfl) ?_
    refine y_ift (rfl) ?_
    exact y_aw ho fun s' => y_ret0 rfl
/-- the law -/
theorem law_run (k w n : Int) (fr : List UInt8) : Yl (callK (C M) tabL 1000 3 [.agg (stepL k w n fr)] (σE.push (.ro deB))) (fun v _ => v = B true) := by
  refine y_body (tab := tabL) (n := 999) rfl Tryz.func3 (by kernel_rfl) ?_
  rw [F3_eq]
  unfold K3_0
  refine y_new box_of ?_
  show Yl (K3_1 M (cL 999) (P 1 0) (W0 k w n fr)) _
  have g : (W0 k w n fr).get 1 = some (.cells (stepL k w n fr) 23 true) := by kernel_rfl
  have o0 : Old k w n fr (W0 k w n fr) := ⟨by kernel_rfl, Nat.le_of_ble_eq_true (show Nat.ble 1 (W0 k w n fr).next = true by kernel_rfl), g⟩
  unfold K3_1
  refine y_val (fa23_3) ?_
  refine y_val (o_ld g rfl (partA_one ag9 rfl)) ?_
  refine y_val (o_slen un9) ?_
  by_cases hl : (4096 : Int) < (fr.length : Int)
  · refine y_val (k_gtrT hl) ?_
    refine y_ift (rfl) ?_
    exact y_aw o0 fun s' => y_ret0 rfl
  refine y_val (k_gtrF (by omega)) ?_
  refine y_iff (rfl) ?_
  refine y_eq (l_a k w n fr) ?_
  exact law_do k w n fr (by omega)
end
end Core
end Go.Proofs.YtnoieleoklpciaaGreatDoor
