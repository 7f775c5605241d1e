/- The meter's small functions: what they answer, wherever the meter lies. -/
import Derived.Test.YtkikpolmfaiabaaGreatDoorClk2
import Derived.Test.YtkikpolmfaiabaaGreatDoorFx
import Derived.Test.YtkikpolmfaiabaaGreatDoorR4
namespace Go.Proofs.YtkikpolmfaiabaaGreatDoor
open Go.Run Go
namespace Clk
set_option maxRecDepth 100000
abbrev M : Nat := 1000000
noncomputable abbrev cc (n : Nat) : CallF := callK (C M) tabC n
/-- a meter's cells -/
def mC (len clk : Int) (b : Nat) (q : CV) : List CV := i 1 :: i len :: i clk :: (bankC b ++ [q, ns, i 0])
theorem ty3 : Go.Run.isAgg (C M) 3 = some false := by kernel_rfl
theorem ty57 : Go.Run.isAgg (C M) 57 = some false := by kernel_rfl
theorem ty53 : Go.Run.isAgg (C M) 53 = some true := by kernel_rfl
theorem ty27 : Go.Run.isAgg (C M) 27 = some true := by kernel_rfl
theorem sz3 : size (C M) 3 = some 1 := by kernel_rfl
theorem sz57 : size (C M) 57 = some 1 := by kernel_rfl
theorem sz53 : size (C M) 53 = some 38 := by kernel_rfl
theorem sz27 : size (C M) 27 = some 18 := by kernel_rfl
theorem un57 : und (C M) 57 = some (.slice 66) := by kernel_rfl
theorem un22 : und (C M) 22 = some (.slice 3) := by kernel_rfl
section
variable {σ : St} {j o : Nat}
theorem eq23 : binO (C M) .eql 23 (P j o) NP σ = .val (B false) := by kernel_rfl
theorem nilP : nilO (P j o) σ = .val (P j o) := rfl
theorem fa0 : fadO (C M) 116 (P j 0) 0 σ = .val (P j 0) := by kernel_rfl
theorem fa1 : fadO (C M) 116 (P j 0) 1 σ = .val (P j 1) := by kernel_rfl
theorem fa2 : fadO (C M) 116 (P j 0) 2 σ = .val (P j 2) := by kernel_rfl
theorem fa3 : fadO (C M) 116 (P j 0) 3 σ = .val (P j 3) := by kernel_rfl
theorem fa4 : fadO (C M) 116 (P j 0) 4 σ = .val (P j 41) := by kernel_rfl
theorem fa5 : fadO (C M) 116 (P j 0) 5 σ = .val (P j 42) := by kernel_rfl
theorem fb0 : fadO (C M) 53 (P j 3) 0 σ = .val (P j 3) := by kernel_rfl
end
theorem clock_run {n mp : Nat} {σ : St} {l : List CV} {x : Bool} {clk : Int} (h : σ.get mp = some (.cells l 116 x)) (hl : nth l 2 = some (i clk)) : cc (n + 1) 12 [P mp 0] σ = some (I clk, σ) := by
  refine callK_body rfl Tryz.func12 (by kernel_rfl) ?_
  rw [F12_eq]
  refine Yl.eq ?_
  unfold K12_0
  refine y_val eq23 ?_
  refine y_iff rfl ?_
  refine y_val nilP ?_
  refine y_val fa2 ?_
  refine y_val (o_ld h rfl (partA_one ty3 hl)) ?_
  exact y_ret0 ⟨rfl, rfl⟩
theorem epoch_run {n mp : Nat} {σ : St} {l : List CV} {x : Bool} {clk len : Int} (h : σ.get mp = some (.cells l 116 x)) (h1 : nth l 1 = some (i len)) (h2 : nth l 2 = some (i clk)) (hlen : 1 ≤ len) (h0 : 0 ≤ clk) (hc : clk ≤ 4294967296) :
    cc (n + 1) 13 [P mp 0] σ = some (I (clk / len), σ) := by
  refine callK_body rfl Tryz.func13 (by kernel_rfl) ?_
  rw [F13_eq]
  refine Yl.eq ?_
  unfold K13_0
  refine y_val eq23 ?_
  refine y_iff rfl ?_
  refine y_dval nilP ?_
  refine y_dval fa2 ?_
  refine y_dchk (o_ld h rfl (partA_one ty3 h2)) rfl ?_
  refine y_dval nilP ?_
  refine y_dval fa1 ?_
  refine y_dchk (o_ld h rfl (partA_one ty3 h1)) rfl ?_
  refine y_dval (o_quo (by omega)) ?_
  have hd : Int.tdiv clk len = clk / len := Int.tdiv_eq_ediv_of_nonneg h0
  have hle : clk / len ≤ clk := Int.ediv_le_self _ h0
  have hge : 0 ≤ clk / len := Int.ediv_nonneg h0 (by omega)
  rw [hd, wrap_id (by omega) (by omega)]
  exact y_ret0 ⟨rfl, rfl⟩
theorem waiting_run {n mp : Nat} {σ : St} {l : List CV} {x : Bool} {p : Option (Nat × Nat)} {k : Nat} {c : Cap} (h : σ.get mp = some (.cells l 116 x)) (hl : nth l 41 = some (.slice p k c)) : cc (n + 1) 15 [P mp 0] σ = some (I (k : Nat), σ) := by
  refine callK_body rfl Tryz.func15 (by kernel_rfl) ?_
  rw [F15_eq]
  refine Yl.eq ?_
  unfold K15_0
  refine y_val eq23 ?_
  refine y_iff rfl ?_
  refine y_val nilP ?_
  refine y_val fa4 ?_
  refine y_val (o_ld h rfl (partA_one ty57 hl)) ?_
  refine y_val (o_len un57) ?_
  exact y_ret0 ⟨rfl, rfl⟩
end Clk
end Go.Proofs.YtkikpolmfaiabaaGreatDoor
