/- The law's loop over the readings. -/
import Derived.Test.YtkikpolmfaiabaaGreatDoorClk6
namespace Go.Proofs.YtkikpolmfaiabaaGreatDoor
open Go.Run Go
namespace Clk
set_option maxRecDepth 100000
/-- the readings, as they lie -/
def LAt (B0 : Option Blk) (p : Option (Nat × Nat)) (zs : List Int) : Prop := ∀ (j : Nat) (z : Int), zs[j]? = some z → p = some (0, 0) ∧ ∃ l, B0 = some (.ro l) ∧ nth l j = some (i z)
theorem iad {σ : St} {n : Nat} {cap : Cap} {j : Nat} (h : j < n) : iadO (C M) 22 (.one (.slice (some (0, 0)) n cap)) (I (j : Nat)) σ = .val (P 0 j) := by
  show indexAddrA (C M) 22 (.one (.slice (some (0, 0)) n cap)) (I (j : Nat)) = _
  unfold indexAddrA
  simp only [un22]
  show (match size (C M) 3 with | some sz => bif Nat.blt j n then Out.val (.one (.ptr (some (0, Nat.add 0 (Nat.mul j sz))))) else Out.no | none => Out.no) = _
  rw [sz3]
  have : Nat.blt j n = true := Nat.ble_eq_true_of_le h
  simp only [this, cond_true, Nat.add_eq, Nat.mul_eq, Nat.zero_add, Nat.mul_one]
theorem neqB {σ : St} {a b : Bool} : binO (C M) .neq 4 (B a) (B b) σ = .val (B (!(a == b))) := by kernel_rfl
theorem back {n : Nat} {σ : St} : Yl (K3_5 M (cc (n + 1)) σ) (fun v _ => v = B true) := by
  unfold K3_5
  refine y_cal rfl call_aw ?_
  exact y_ret0 rfl
theorem loop_run {B0 : Option Blk} {n mp : Nat} {p : Option (Nat × Nat)} {cap : Cap} {zs : List Int} {len : Int} (hL : LAt B0 p zs) (hlen : 1 ≤ len) : ∀ (k fuel j q : Nat) (clk : Int) (σ : St), 60 ≤ j + k → k < fuel → j ≤ 60 → q ≤ j → 0 ≤ clk → clk ≤ 4294967296 → zs.length < 9223372036854775808 →
    MAt B0 σ mp len clk q → Yl (L3_7 M (cc (n + 2)) fuel (.one (.slice p zs.length cap)) (P mp 0) (I clk) (I (j : Nat)) σ) (fun v _ => v = B true) := by
  intro k
  induction k with
  | zero =>
    intro fuel j q clk σ h1 h2 h3 h4 h5 h6 h7 hM
    obtain ⟨f, rfl⟩ : ∃ f, fuel = f + 1 := ⟨fuel - 1, by omega⟩
    rw [L3_7_succ]
    unfold L3_7_b
    refine y_val (o_len un22) ?_
    refine y_val o_lss ?_
    by_cases ha : (j : Int) < (zs.length : Int)
    · rw [decide_eq_true ha]
      refine y_gon rfl rfl ?_
      refine y_gon rfl o_lss ?_
      refine y_val rfl ?_
      refine y_iff (decide_eq_false (by omega)) ?_
      exact back
    · rw [decide_eq_false ha]
      refine y_goff rfl ?_
      refine y_goff rfl ?_
      refine y_val rfl ?_
      refine y_iff rfl ?_
      exact back
  | succ k ih =>
    intro fuel j q clk σ h1 h2 h3 h4 h5 h6 h7 hM
    obtain ⟨f, rfl⟩ : ∃ f, fuel = f + 1 := ⟨fuel - 1, by omega⟩
    rw [L3_7_succ]
    unfold L3_7_b
    refine y_val (o_len un22) ?_
    refine y_val o_lss ?_
    by_cases ha : (j : Int) < (zs.length : Int)
    · rw [decide_eq_true ha]
      refine y_gon rfl rfl ?_
      refine y_gon rfl o_lss ?_
      refine y_val rfl ?_
      by_cases hb : (j : Int) < 60
      · refine y_ift (decide_eq_true hb) ?_
        have hj : j < zs.length := by omega
        obtain ⟨rfl, l, hB0, hz⟩ := hL j _ (List.getElem?_eq_getElem hj)
        generalize hzz : zs[j] = z at hz
        obtain ⟨σ', q', ht, hM', hq'⟩ := tick_run (n := n) (r := z) hM hlen h5 h6 (by omega)
        generalize hc : max clk (min z 4294967296) = c at ht hM'
        have c0 : clk ≤ c := by omega
        have c1 : 0 ≤ c := by omega
        have c2 : c ≤ 4294967296 := by omega
        have hd : clk / len ≤ c / len := Int.ediv_le_ediv (by omega) c0
        obtain ⟨b, cv, g0, gp, glt, gb, gbn, gmb, gm, gB, gQ⟩ := hM
        obtain ⟨b', cv', g0', gp', glt', gb', gbn', gmb', gm', gB', gQ'⟩ := id hM'
        obtain ⟨p', cap', rfl⟩ : ∃ p' cap', cv' = .slice p' q' cap' := by
          rcases gQ' with ⟨rfl, rfl⟩ | ⟨j', l', rfl, _⟩
          · exact ⟨none, .ex 0, rfl⟩
          · exact ⟨_, _, rfl⟩
        unfold K3_8
        refine y_cal rfl (clock_run gm rfl) ?_
        refine y_cal rfl (epoch_run gm rfl rfl hlen h5 h6) ?_
        refine y_val (iad hj) ?_
        refine y_val (o_ld (g0.trans hB0) rfl (partA_one ty3 hz)) ?_
        refine y_cal rfl ht ?_
        refine y_val (iad hj) ?_
        refine y_val (o_ld (g0'.trans hB0) rfl (partA_one ty3 hz)) ?_
        refine y_val o_min ?_
        refine y_val o_max ?_
        rw [hc]
        refine y_cal rfl (clock_run gm' rfl) ?_
        refine y_val o_lss ?_
        rw [decide_eq_false (show ¬ c < clk by omega)]
        refine y_gon rfl rfl ?_
        refine y_gcal rfl rfl (clock_run gm' rfl) ?_
        refine y_gon rfl rfl ?_
        refine y_gon rfl o_neq ?_
        rw [show (!(c == c)) = false by simp]
        refine y_val rfl ?_
        refine y_gon rfl rfl ?_
        refine y_gcal rfl rfl (epoch_run gm' rfl rfl hlen c1 c2) ?_
        refine y_gon rfl rfl ?_
        refine y_gon rfl o_lss ?_
        rw [decide_eq_false (show ¬ c / len < clk / len by omega)]
        refine y_val rfl ?_
        refine y_gon rfl rfl ?_
        refine y_gon rfl rfl ?_
        refine y_gcal rfl rfl (epoch_run gm' rfl rfl hlen c1 c2) ?_
        refine y_gon rfl rfl ?_
        refine y_gon rfl o_gtr ?_
        refine y_gon rfl neqB ?_
        have hbe : (!((!(c / len == clk / len)) == decide (clk / len < c / len))) = false := by
          by_cases he : c / len = clk / len
          · have e1 : (c / len == clk / len) = true := by simp [he]
            have e2 : decide (clk / len < c / len) = false := decide_eq_false (by omega)
            rw [e1, e2]; rfl
          · have e1 : (c / len == clk / len) = false := by simpa using he
            have e2 : decide (clk / len < c / len) = true := decide_eq_true (by omega)
            rw [e1, e2]; rfl
        rw [hbe]
        refine y_val rfl ?_
        refine y_gon rfl rfl ?_
        refine y_gcal rfl rfl (waiting_run gm' (n41 ..)) ?_
        refine y_gon rfl o_gtr ?_
        rw [decide_eq_false (show ¬ (64 : Int) < (q' : Int) by omega)]
        refine y_val rfl ?_
        refine y_iff rfl ?_
        unfold K3_9
        refine y_val o_add ?_
        rw [wrap_id (by omega) (by omega)]
        exact ih f (j + 1) q' c σ' (by omega) (by omega) (by omega) (by omega) c1 c2 h7 hM'
      · refine y_iff (decide_eq_false hb) ?_
        exact back
    · rw [decide_eq_false ha]
      refine y_goff rfl ?_
      refine y_goff rfl ?_
      refine y_val rfl ?_
      refine y_iff rfl ?_
      exact back

theorem nilnil {σ : St} : binO (C M) .eql 23 NP NP σ = .val (B true) := by kernel_rfl
/-- THE LAW, run. -/
theorem run_law {B0 : Option Blk} {σ : St} {p : Option (Nat × Nat)} {cap : Cap} {zs : List Int} {len : Int} (hL : LAt B0 p zs) (h0 : σ.get 0 = B0) (hn : 0 < σ.next) (hz : zs.length < 9223372036854775808) :
    Yl (cc (3 + 1) 3 [I len, .one (.slice p zs.length cap)] σ) (fun v _ => v = B true) := by
  refine y_body rfl Tryz.func3 (by kernel_rfl) ?_
  rw [F3_eq]
  unfold K3_0 K3_1
  refine y_cal rfl call_one ?_
  by_cases hl : 1 ≤ len ∧ len ≤ 1048576
  · obtain ⟨σ', mp, h1, h2⟩ := new_ok (n := 1) h0 hn hl.1 hl.2
    refine y_cal rfl h1 ?_
    unfold K3_2
    refine y_val eq23 ?_
    refine y_iff rfl ?_
    unfold K3_3 K3_4 K3_6
    exact loop_run (n := 1) hL hl.1 60 M 0 0 0 σ' (by omega) (by unfold M; omega) (by omega) (by omega) (by omega) (by omega) hz h2
  · obtain ⟨v, σ', h1, rfl⟩ := new_bad (n := 1) (σ := σ) (len := len) (by omega)
    refine y_cal rfl h1 ?_
    unfold K3_2
    refine y_val nilnil ?_
    refine y_ift rfl ?_
    refine y_val o_lss ?_
    by_cases h1 : len < 1
    · rw [decide_eq_true h1]
      refine y_goff rfl ?_
      refine y_goff rfl ?_
      refine y_val rfl ?_
      refine y_gcal rfl rfl call_aw ?_
      refine y_val rfl ?_
      exact y_ret0 rfl
    · rw [decide_eq_false h1]
      refine y_gon rfl rfl ?_
      refine y_gon rfl o_gtr ?_
      rw [decide_eq_true (show (1048576 : Int) < len by omega)]
      refine y_val rfl ?_
      refine y_gcal rfl rfl call_aw ?_
      refine y_val rfl ?_
      exact y_ret0 rfl
end Clk
end Go.Proofs.YtkikpolmfaiabaaGreatDoor
