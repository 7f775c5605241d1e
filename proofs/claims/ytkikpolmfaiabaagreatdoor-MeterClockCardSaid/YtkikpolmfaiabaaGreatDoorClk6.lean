/- A new meter; the law. -/
import Derived.Test.YtkikpolmfaiabaaGreatDoorClk5
namespace Go.Proofs.YtkikpolmfaiabaaGreatDoor
open Go.Run Go
namespace Clk
set_option maxRecDepth 100000
theorem z53 (b : Nat) : (zeroCells (C M) 53).bind (fun z => over 0 (bankC b) z) = some (bankC b) := by kernel_rfl
theorem bld116 {σ : St} {len : Int} {b : Nat} : bldO (C M) 116 [(0, I 1), (1, I len), (3, .agg (bankC b))] σ = .val (.agg (mC len 0 b ns)) := by kernel_rfl
theorem new_bad {n : Nat} {σ : St} {len : Int} (h : len < 1 ∨ 1048576 < len) : Yl (cc (n + 2) 9 [I 1, .agg oneL, I len] σ) (fun v _ => v = NP) := by
  obtain ⟨z, hz, ho⟩ := Option.bind_eq_some_iff.mp (z53 (σ.push (.cells oneL 27 true)).next)
  refine y_body rfl Tryz.func9 (by kernel_rfl) ?_
  rw [F9_eq]
  unfold K9_0
  refine y_new rfl ?_
  refine y_val (o_ld (by rw [St.get_push, if_pos rfl]) rfl (partA_agg (l := oneL) (r := oneL) ty27 sz27 rfl)) ?_
  refine y_cal rfl call_new ?_
  refine y_val rfl ?_
  refine y_val rfl ?_
  refine y_new (by unfold newO newCells; rw [hz]) ?_
  refine y_st (o_st (by rw [St.get_push, if_pos rfl]) rfl sz53 (bank38 _) ho) ?_
  refine y_val o_neq ?_
  refine y_gon rfl rfl ?_
  refine y_gon rfl o_lss ?_
  refine y_val rfl ?_
  refine y_gon rfl rfl ?_
  refine y_gon rfl o_gtr ?_
  refine y_val rfl ?_
  refine y_gon rfl rfl ?_
  refine y_gon rfl o_lss ?_
  refine y_val rfl ?_
  by_cases h1 : len < 1
  · rw [decide_eq_true h1]
    refine y_goff rfl ?_
    refine y_goff rfl ?_
    refine y_val rfl ?_
    refine y_ift rfl ?_
    exact y_ret0 rfl
  · rw [decide_eq_false h1]
    refine y_gon rfl rfl ?_
    refine y_gon rfl o_gtr ?_
    refine y_val rfl ?_
    refine y_ift (decide_eq_true (by omega)) ?_
    exact y_ret0 rfl
theorem new_ok {B0 : Option Blk} {n : Nat} {σ : St} {len : Int} (h0 : σ.get 0 = B0) (hn : 0 < σ.next) (h1 : 1 ≤ len) (h2 : len ≤ 1048576) : ∃ σ' mp, cc (n + 2) 9 [I 1, .agg oneL, I len] σ = some (P mp 0, σ') ∧ MAt B0 σ' mp len 0 0 := by
  obtain ⟨z, hz, ho⟩ := Option.bind_eq_some_iff.mp (z53 (σ.push (.cells oneL 27 true)).next)
  generalize hσ1 : σ.push (.cells oneL 27 true) = σ1 at ho
  have n1 : σ1.next = σ.next + 1 := by rw [← hσ1]; rfl
  generalize hσ2 : pushAll σ1 (bankB σ1.next) = σ2
  have n2 : σ2.next = σ.next + 15 := by rw [← hσ2, pushAll_next, bankB_len, n1]
  generalize hσ4 : (σ2.push (.cells z 53 true)).put σ2.next (.cells (bankC σ1.next) 53 true) = σ4
  have n4 : σ4.next = σ.next + 16 := by rw [← hσ4]; show σ2.next + 1 = _; omega
  refine ⟨σ4.push (.cells (mC len 0 σ1.next ns) 116 true), σ4.next, callK_body rfl Tryz.func9 (by kernel_rfl) ?_, σ1.next, ns, ?_, by omega, by rw [St.next_push]; omega, by omega, by rw [St.next_push]; omega, .inr (by omega), ?_, ?_, .inl ⟨rfl, rfl⟩⟩
  · rw [F9_eq]
    refine Yl.eq ?_
    unfold K9_0
    refine y_new rfl ?_
    rw [hσ1]
    refine y_val (o_ld (b := .cells oneL 27 true) (by rw [← hσ1, St.get_push, if_pos rfl]) rfl (partA_agg (l := oneL) (r := oneL) ty27 sz27 rfl)) ?_
    refine y_cal rfl call_new ?_
    rw [hσ2]
    refine y_val rfl ?_
    refine y_val rfl ?_
    refine y_new (by unfold newO newCells; rw [hz]) ?_
    refine y_st (o_st (by rw [St.get_push, if_pos rfl]) rfl sz53 (bank38 _) ho) ?_
    rw [hσ4]
    refine y_val o_neq ?_
    refine y_gon rfl rfl ?_
    refine y_gon rfl o_lss ?_
    refine y_val rfl ?_
    refine y_gon rfl rfl ?_
    refine y_gon rfl o_gtr ?_
    refine y_val rfl ?_
    refine y_gon rfl rfl ?_
    refine y_gon rfl o_lss ?_
    refine y_val rfl ?_
    rw [decide_eq_false (show ¬ len < 1 by omega)]
    refine y_gon rfl rfl ?_
    refine y_gon rfl o_gtr ?_
    refine y_val rfl ?_
    refine y_iff (decide_eq_false (by omega)) ?_
    refine y_val (o_ld (b := .cells (bankC σ1.next) 53 true) (by rw [← hσ4, St.get_put, if_pos rfl]) rfl (partA_agg (l := bankC σ1.next) (r := bankC σ1.next) ty53 sz53 (by kernel_rfl))) ?_
    refine y_val bld116 ?_
    refine y_new rfl ?_
    exact y_ret0 ⟨rfl, rfl⟩
  · rw [St.get_push, if_neg (by omega), ← hσ4, St.get_put, if_neg (by omega), St.get_push, if_neg (by omega), ← hσ2, pushAll_old (by omega), ← hσ1, St.get_push, if_neg (by omega)]; exact h0
  · rw [St.get_push, if_pos rfl]
  · intro k blk hk
    have := bank_lt hk
    rw [St.get_push, if_neg (by omega), ← hσ4, St.get_put, if_neg (by omega), St.get_push, if_neg (by omega), ← hσ2]
    exact pushAll_new hk
end Clk
end Go.Proofs.YtkikpolmfaiabaaGreatDoor
