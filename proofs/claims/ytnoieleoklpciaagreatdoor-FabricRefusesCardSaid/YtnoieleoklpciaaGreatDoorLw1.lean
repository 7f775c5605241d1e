/- The law: a frame comes to a meter; a meter's clock is read. -/
import Derived.Test.YtnoieleoklpciaaGreatDoorLw0
set_option linter.unusedVariables false
set_option linter.unusedSimpArgs false
namespace Go.Proofs.YtnoieleoklpciaaGreatDoor
open Go.Run Go
namespace Core
open Ty
set_option maxRecDepth 1000000
def mL (id : Int) (c : CV) (fc : Int) (bk : List CV) : List CV := [iC id, iC 10, c] ++ (bk ++ [ns, ns, iC fc])
/-- what is left as it was -/
def Old (k w n : Int) (fr : List UInt8) (s : St) : Prop := s.get 0 = some (.ro deB) ∧ 0 < s.next ∧ s.get 1 = some (.cells (stepL k w n fr) 23 true)
theorem Old.put {k w n : Int} {fr : List UInt8} {s : St} (h : Old k w n fr s) {i : Nat} (hi : 1 < i) (b : Blk) : Old k w n fr (s.put i b) :=
  ⟨by rw [St.get_put, if_neg (by omega)]; exact h.1, by rw [St.next_put]; exact h.2.1, by rw [St.get_put, if_neg (by omega)]; exact h.2.2⟩
theorem Old.ext {k w n : Int} {fr : List UInt8} {s s' : St} (h : Old k w n fr s) (h1 : 1 < s.next) (e : Gr s s') : Old k w n fr s' :=
  ⟨(e.2 _ h.2.1).trans h.1, Nat.lt_of_lt_of_le h.2.1 e.1, (e.2 _ h1).trans h.2.2⟩
/-- behind Do's and at's copies of the step -/
noncomputable def W3 (k w n : Int) (fr : List UInt8) : St := ((W1 k w n fr).push (.cells (stepL k w n fr) 23 true)).push (.cells (stepL k w n fr) 23 true)
theorem old3 (k w n : Int) (fr : List UInt8) : Old k w n fr (W3 k w n fr) := ⟨by kernel_rfl, Nat.le_of_ble_eq_true (show Nat.ble 1 (W3 k w n fr).next = true by kernel_rfl), by kernel_rfl⟩
theorem quo10 {t : TypeId} {c : Nat} {σ : St} (h : c ≤ 4294967296) : binO (C M) .quo t (I (c : Nat)) (I 10) σ = .val (I ((c / 10 : Nat) : Int)) := by
  have e : Int.tdiv ((c : Nat) : Int) 10 = ((c / 10 : Nat) : Int) := by
    rw [Int.tdiv_eq_ediv_of_nonneg (Int.natCast_nonneg _)]; omega
  rw [o_quo (by decide), e, wrap_id (by omega) (by omega)]
/-! meter 1 -/
noncomputable def F1 (n : Int) (fr : List UInt8) : St := (W3 1 1 n fr).put 196 (.cells (mL 1 (iC 0) 1 (bkL 106 127 121 134 150 166 193)) 121 true)
theorem at1 (n : Int) (fr : List UInt8) : BankAt 106 127 121 116 134 150 149 166 163 158 193 192 178 173 (F1 n fr) :=
  ⟨(by have e : (F1 n fr).next = 447 := by kernel_rfl
       omega), by kernel_rfl, by kernel_rfl, by kernel_rfl, by kernel_rfl, by kernel_rfl, by kernel_rfl, by kernel_rfl, by kernel_rfl, by kernel_rfl, by kernel_rfl, by kernel_rfl, by kernel_rfl, by kernel_rfl, by kernel_rfl, by kernel_rfl, fun i hi => by
    have e : (F1 n fr).next = 447 := by kernel_rfl
    rw [e]
    simp only [List.mem_cons, List.not_mem_nil, or_false] at hi
    omega⟩
noncomputable def FR1 : AV → Kt := fun v3 => bnd (extO v3 0) fun v4 => bnd (extO v3 1) fun v5 => bnd (newO (C M) 103) fun v6 => bnd (stO (C M) 103 v6 v4) fun _ => K34_4 M (cL 996) (P 196 0) v6 v5
theorem fe1_a (n : Int) (fr : List UInt8) : K34_0 M (cL 996) (P 196 0) (S fr) (W3 1 1 n fr) = bnd (calO (C M) (cL 996) (fnV 71) [.agg (bkL 106 127 121 134 150 166 193), S fr]) FR1 (F1 n fr) := by kernel_rfl
theorem fe1_m (n : Int) (fr : List UInt8) : (F1 n fr).get 196 = some (.cells (mL 1 (iC 0) 1 (bkL 106 127 121 134 150 166 193)) 121 true) := by kernel_rfl
theorem fe1_n (n : Int) (fr : List UInt8) : (F1 n fr).next = 447 := by kernel_rfl
theorem feed1 (n : Int) {fr : List UInt8} (hl : fr.length ≤ 4096) : Yl (cL 997 34 [P 196 0, S fr] (W3 1 1 n fr)) (fun v s => Old 1 1 n fr s ∧ ∃ e, v = I e) := by
  refine y_body (tab := tabL) (n := 996) rfl Tryz.func34 (by kernel_rfl) ?_
  rw [F34_eq]
  refine y_eq (fe1_a n fr) ?_
  have hf : Yl (cL 996 71 [.agg (bkL 106 127 121 134 150 166 193), S fr] (F1 n fr)) (FdQ (F1 n fr)) := by
    have e : cL 996 71 [.agg (bkL 106 127 121 134 150 166 193), S fr] (F1 n fr) = callK (C M) tab5 1000 71 [.agg (bkL 106 127 121 134 150 166 193), S fr] (F1 n fr) := callK_tab rfl
    rw [e]
    exact feed_run (n := 992) (at1 n fr) hl
  refine y_cyl rfl hf fun v s ⟨hg, l, e, hv, hll⟩ => ?_
  subst hv
  have n0 := fe1_n n fr
  have o0 : Old 1 1 n fr (F1 n fr) := (old3 1 1 n fr).put (by decide) _
  have o1 := o0.ext (by omega) hg
  have n1 := hg.1
  have gm := (hg.2 196 (by omega)).trans (fe1_m n fr)
  unfold FR1
  refine y_val (rfl) ?_
  refine y_val (rfl) ?_
  refine y_new (new103) ?_
  have g6 : (s.push (.cells zB 103 true)).get s.next = some (.cells zB 103 true) := by rw [St.get_push, if_pos rfl]
  refine y_st (st103 g6 rfl hll) ?_
  generalize hs2 : (s.push (.cells zB 103 true)).put s.next (.cells l 103 true) = s2
  have e2 : Gr s s2 := by rw [← hs2]; exact (Gr.push _ _).put _ (Nat.le_refl _)
  have g62 : s2.get s.next = some (.cells l 103 true) := by rw [← hs2, St.get_put, if_pos rfl]
  have o2 := o1.ext (by omega) e2
  have gm2 := (e2.2 196 (by omega)).trans gm
  unfold K34_4
  by_cases h5 : e = 5
  · refine y_val (k_neqF h5) ?_
    refine y_iff (rfl) ?_
    unfold K34_5
    exact y_ret0 ⟨o2, e, rfl⟩
  · have ov : over 3 l (mL 1 (iC 0) 1 (bkL 106 127 121 134 150 166 193)) = some (mL 1 (iC 0) 1 l) := by
      have := over_app [iC 1, iC 10, iC 0] l (bkL 106 127 121 134 150 166 193) [ns, ns, iC 1] (by rw [hll]; rfl)
      simpa [mL] using this
    refine y_val (k_neqT h5) ?_
    refine y_ift (rfl) ?_
    refine y_val (ld103 g62 hll) ?_
    refine y_val (rfl) ?_
    refine y_val (fa121_3) ?_
    refine y_st (o_st gm2 rfl sz103 (by rw [lenN_eq, hll]) ov) ?_
    unfold K34_5
    exact y_ret0 ⟨o2.put (by decide) _, e, rfl⟩
/-! its clock -/
noncomputable def T1 (n : Int) (fr : List UInt8) (c : Nat) : St := (W3 2 1 n fr).put 196 (.cells (mL 1 (iC (c : Nat)) 0 (bkL 106 127 121 134 150 166 193)) 121 true)
noncomputable def TR1 : AV → Kt := fun v3 => bnd (bltO (C M) .max [3, 3] [I 0, v3]) fun v4 => bnd (nilO (P 196 0)) fun v5 => bnd (fadO (C M) 121 v5 2) fun v6 => bnd (stO (C M) 3 v6 v4) fun _ => K35_4 M (cL 996) (P 196 0) (I 0)
theorem ti1_a (n : Int) (fr : List UInt8) : K35_0 M (cL 996) (P 196 0) (I n) (W3 2 1 n fr) = bnd (bltO (C M) .min [3, 3] [I n, I 4294967296]) TR1 (W3 2 1 n fr) := by kernel_rfl
theorem ti1_m (n : Int) (fr : List UInt8) : (W3 2 1 n fr).get 196 = some (.cells (mL 1 (iC 0) 0 (bkL 106 127 121 134 150 166 193)) 121 true) := by kernel_rfl
theorem ti1_b (n : Int) (fr : List UInt8) (c : Nat) : (K35_5 M (cL 996) (P 196 0) (I 0) (T1 n fr c)).map (fun r => (r.1, r.2.get 0, Nat.blt 0 r.2.next, r.2.get 1)) = some (B true, some (.ro deB), true, some (.cells (stepL 2 1 n fr) 23 true)) := by kernel_rfl
theorem ep1 (n : Int) (fr : List UInt8) {c : Nat} (hc : c ≤ 4294967296) : cL 996 72 [P 196 0] (T1 n fr c) = some (I ((c / 10 : Nat) : Int), T1 n fr c) := by
  refine callK_body (tab := tabL) (n := 995) rfl Tryz.func72 (by kernel_rfl) ?_
  rw [F72_eq]
  refine Yl.eq ?_
  unfold K72_0
  have g : (T1 n fr c).get 196 = some (.cells (mL 1 (iC (c : Nat)) 0 (bkL 106 127 121 134 150 166 193)) 121 true) := by unfold T1; rw [St.get_put, if_pos rfl]
  refine y_val (v := B false) (by kernel_rfl) ?_
  refine y_iff rfl ?_
  refine y_din ?_
  refine y_dval (rfl) ?_
  refine y_dval (fa121_2) ?_
  refine y_dchk (o_ld g rfl (partA_one ag3 rfl)) rfl ?_
  refine y_dval (rfl) ?_
  refine y_dval (fa121_1) ?_
  refine y_dchk (o_ld g rfl (partA_one ag3 rfl)) rfl ?_
  refine y_dval (quo10 hc) ?_
  exact y_ret0 ⟨rfl, rfl⟩
theorem tick1 (n : Int) (fr : List UInt8) : Yl (cL 997 35 [P 196 0, I n] (W3 2 1 n fr)) (fun v s => Old 2 1 n fr s) := by
  refine y_body (tab := tabL) (n := 996) rfl Tryz.func35 (by kernel_rfl) ?_
  rw [F35_eq]
  refine y_eq (ti1_a n fr) ?_
  refine y_val (o_min) ?_
  unfold TR1
  refine y_val (o_max) ?_
  obtain ⟨c, hc⟩ : ∃ c : Nat, max 0 (min n 4294967296) = (c : Int) := ⟨(max 0 (min n 4294967296)).toNat, by omega⟩
  rw [hc]
  have ov : over 2 [iC (c : Nat)] (mL 1 (iC 0) 0 (bkL 106 127 121 134 150 166 193)) = some (mL 1 (iC (c : Nat)) 0 (bkL 106 127 121 134 150 166 193)) := by
    have := over_app [iC 1, iC 10] [iC (c : Nat)] [iC 0] ((bkL 106 127 121 134 150 166 193) ++ [ns, ns, iC 0]) rfl
    simpa [mL] using this
  refine y_val (rfl) ?_
  refine y_val (fa121_2) ?_
  refine y_st (o_st (ti1_m n fr) rfl sz3 rfl ov) ?_
  show Yl (K35_4 M (cL 996) (P 196 0) (I 0) (T1 n fr c)) _
  unfold K35_4
  have o0 : Old 2 1 n fr (T1 n fr c) := (old3 2 1 n fr).put (by decide) _
  refine y_cal rfl (ep1 n fr (c := c) (by omega)) ?_
  by_cases h : ((c / 10 : Nat) : Int) = 0
  · refine y_val (k_eqlT h) ?_
    refine y_ift (rfl) ?_
    exact y_ret0 o0
  · refine y_val (k_eqlF h) ?_
    refine y_iff (rfl) ?_
    have hb := ti1_b n fr c
    obtain ⟨⟨v, s⟩, h1, h2⟩ := Option.map_eq_some_iff.mp hb
    obtain ⟨h3, h4⟩ := Prod.mk.inj h2
    obtain ⟨h5, h6⟩ := Prod.mk.inj h4
    obtain ⟨h7, h8⟩ := Prod.mk.inj h6
    exact y_of h1 ⟨h5, Nat.le_of_ble_eq_true h7, h8⟩
/-! meter 2 -/
noncomputable def F2 (n : Int) (fr : List UInt8) : St := (W3 1 2 n fr).put 293 (.cells (mL 2 (iC 0) 1 (bkL 203 224 218 231 247 263 290)) 121 true)
theorem at2 (n : Int) (fr : List UInt8) : BankAt 203 224 218 213 231 247 246 263 260 255 290 289 275 270 (F2 n fr) :=
  ⟨(by have e : (F2 n fr).next = 447 := by kernel_rfl
       omega), by kernel_rfl, by kernel_rfl, by kernel_rfl, by kernel_rfl, by kernel_rfl, by kernel_rfl, by kernel_rfl, by kernel_rfl, by kernel_rfl, by kernel_rfl, by kernel_rfl, by kernel_rfl, by kernel_rfl, by kernel_rfl, by kernel_rfl, fun i hi => by
    have e : (F2 n fr).next = 447 := by kernel_rfl
    rw [e]
    simp only [List.mem_cons, List.not_mem_nil, or_false] at hi
    omega⟩
noncomputable def FR2 : AV → Kt := fun v3 => bnd (extO v3 0) fun v4 => bnd (extO v3 1) fun v5 => bnd (newO (C M) 103) fun v6 => bnd (stO (C M) 103 v6 v4) fun _ => K34_4 M (cL 996) (P 293 0) v6 v5
theorem fe2_a (n : Int) (fr : List UInt8) : K34_0 M (cL 996) (P 293 0) (S fr) (W3 1 2 n fr) = bnd (calO (C M) (cL 996) (fnV 71) [.agg (bkL 203 224 218 231 247 263 290), S fr]) FR2 (F2 n fr) := by kernel_rfl
theorem fe2_m (n : Int) (fr : List UInt8) : (F2 n fr).get 293 = some (.cells (mL 2 (iC 0) 1 (bkL 203 224 218 231 247 263 290)) 121 true) := by kernel_rfl
theorem fe2_n (n : Int) (fr : List UInt8) : (F2 n fr).next = 447 := by kernel_rfl
theorem feed2 (n : Int) {fr : List UInt8} (hl : fr.length ≤ 4096) : Yl (cL 997 34 [P 293 0, S fr] (W3 1 2 n fr)) (fun v s => Old 1 2 n fr s ∧ ∃ e, v = I e) := by
  refine y_body (tab := tabL) (n := 996) rfl Tryz.func34 (by kernel_rfl) ?_
  rw [F34_eq]
  refine y_eq (fe2_a n fr) ?_
  have hf : Yl (cL 996 71 [.agg (bkL 203 224 218 231 247 263 290), S fr] (F2 n fr)) (FdQ (F2 n fr)) := by
    have e : cL 996 71 [.agg (bkL 203 224 218 231 247 263 290), S fr] (F2 n fr) = callK (C M) tab5 1000 71 [.agg (bkL 203 224 218 231 247 263 290), S fr] (F2 n fr) := callK_tab rfl
    rw [e]
    exact feed_run (n := 992) (at2 n fr) hl
  refine y_cyl rfl hf fun v s ⟨hg, l, e, hv, hll⟩ => ?_
  subst hv
  have n0 := fe2_n n fr
  have o0 : Old 1 2 n fr (F2 n fr) := (old3 1 2 n fr).put (by decide) _
  have o1 := o0.ext (by omega) hg
  have n1 := hg.1
  have gm := (hg.2 293 (by omega)).trans (fe2_m n fr)
  unfold FR2
  refine y_val (rfl) ?_
  refine y_val (rfl) ?_
  refine y_new (new103) ?_
  have g6 : (s.push (.cells zB 103 true)).get s.next = some (.cells zB 103 true) := by rw [St.get_push, if_pos rfl]
  refine y_st (st103 g6 rfl hll) ?_
  generalize hs2 : (s.push (.cells zB 103 true)).put s.next (.cells l 103 true) = s2
  have e2 : Gr s s2 := by rw [← hs2]; exact (Gr.push _ _).put _ (Nat.le_refl _)
  have g62 : s2.get s.next = some (.cells l 103 true) := by rw [← hs2, St.get_put, if_pos rfl]
  have o2 := o1.ext (by omega) e2
  have gm2 := (e2.2 293 (by omega)).trans gm
  unfold K34_4
  by_cases h5 : e = 5
  · refine y_val (k_neqF h5) ?_
    refine y_iff (rfl) ?_
    unfold K34_5
    exact y_ret0 ⟨o2, e, rfl⟩
  · have ov : over 3 l (mL 2 (iC 0) 1 (bkL 203 224 218 231 247 263 290)) = some (mL 2 (iC 0) 1 l) := by
      have := over_app [iC 2, iC 10, iC 0] l (bkL 203 224 218 231 247 263 290) [ns, ns, iC 1] (by rw [hll]; rfl)
      simpa [mL] using this
    refine y_val (k_neqT h5) ?_
    refine y_ift (rfl) ?_
    refine y_val (ld103 g62 hll) ?_
    refine y_val (rfl) ?_
    refine y_val (fa121_3) ?_
    refine y_st (o_st gm2 rfl sz103 (by rw [lenN_eq, hll]) ov) ?_
    unfold K34_5
    exact y_ret0 ⟨o2.put (by decide) _, e, rfl⟩
/-! its clock -/
noncomputable def T2 (n : Int) (fr : List UInt8) (c : Nat) : St := (W3 2 2 n fr).put 293 (.cells (mL 2 (iC (c : Nat)) 0 (bkL 203 224 218 231 247 263 290)) 121 true)
noncomputable def TR2 : AV → Kt := fun v3 => bnd (bltO (C M) .max [3, 3] [I 0, v3]) fun v4 => bnd (nilO (P 293 0)) fun v5 => bnd (fadO (C M) 121 v5 2) fun v6 => bnd (stO (C M) 3 v6 v4) fun _ => K35_4 M (cL 996) (P 293 0) (I 0)
theorem ti2_a (n : Int) (fr : List UInt8) : K35_0 M (cL 996) (P 293 0) (I n) (W3 2 2 n fr) = bnd (bltO (C M) .min [3, 3] [I n, I 4294967296]) TR2 (W3 2 2 n fr) := by kernel_rfl
theorem ti2_m (n : Int) (fr : List UInt8) : (W3 2 2 n fr).get 293 = some (.cells (mL 2 (iC 0) 0 (bkL 203 224 218 231 247 263 290)) 121 true) := by kernel_rfl
theorem ti2_b (n : Int) (fr : List UInt8) (c : Nat) : (K35_5 M (cL 996) (P 293 0) (I 0) (T2 n fr c)).map (fun r => (r.1, r.2.get 0, Nat.blt 0 r.2.next, r.2.get 1)) = some (B true, some (.ro deB), true, some (.cells (stepL 2 2 n fr) 23 true)) := by kernel_rfl
theorem ep2 (n : Int) (fr : List UInt8) {c : Nat} (hc : c ≤ 4294967296) : cL 996 72 [P 293 0] (T2 n fr c) = some (I ((c / 10 : Nat) : Int), T2 n fr c) := by
  refine callK_body (tab := tabL) (n := 995) rfl Tryz.func72 (by kernel_rfl) ?_
  rw [F72_eq]
  refine Yl.eq ?_
  unfold K72_0
  have g : (T2 n fr c).get 293 = some (.cells (mL 2 (iC (c : Nat)) 0 (bkL 203 224 218 231 247 263 290)) 121 true) := by unfold T2; rw [St.get_put, if_pos rfl]
  refine y_val (v := B false) (by kernel_rfl) ?_
  refine y_iff rfl ?_
  refine y_din ?_
  refine y_dval (rfl) ?_
  refine y_dval (fa121_2) ?_
  refine y_dchk (o_ld g rfl (partA_one ag3 rfl)) rfl ?_
  refine y_dval (rfl) ?_
  refine y_dval (fa121_1) ?_
  refine y_dchk (o_ld g rfl (partA_one ag3 rfl)) rfl ?_
  refine y_dval (quo10 hc) ?_
  exact y_ret0 ⟨rfl, rfl⟩
theorem tick2 (n : Int) (fr : List UInt8) : Yl (cL 997 35 [P 293 0, I n] (W3 2 2 n fr)) (fun v s => Old 2 2 n fr s) := by
  refine y_body (tab := tabL) (n := 996) rfl Tryz.func35 (by kernel_rfl) ?_
  rw [F35_eq]
  refine y_eq (ti2_a n fr) ?_
  refine y_val (o_min) ?_
  unfold TR2
  refine y_val (o_max) ?_
  obtain ⟨c, hc⟩ : ∃ c : Nat, max 0 (min n 4294967296) = (c : Int) := ⟨(max 0 (min n 4294967296)).toNat, by omega⟩
  rw [hc]
  have ov : over 2 [iC (c : Nat)] (mL 2 (iC 0) 0 (bkL 203 224 218 231 247 263 290)) = some (mL 2 (iC (c : Nat)) 0 (bkL 203 224 218 231 247 263 290)) := by
    have := over_app [iC 2, iC 10] [iC (c : Nat)] [iC 0] ((bkL 203 224 218 231 247 263 290) ++ [ns, ns, iC 0]) rfl
    simpa [mL] using this
  refine y_val (rfl) ?_
  refine y_val (fa121_2) ?_
  refine y_st (o_st (ti2_m n fr) rfl sz3 rfl ov) ?_
  show Yl (K35_4 M (cL 996) (P 293 0) (I 0) (T2 n fr c)) _
  unfold K35_4
  have o0 : Old 2 2 n fr (T2 n fr c) := (old3 2 2 n fr).put (by decide) _
  refine y_cal rfl (ep2 n fr (c := c) (by omega)) ?_
  by_cases h : ((c / 10 : Nat) : Int) = 0
  · refine y_val (k_eqlT h) ?_
    refine y_ift (rfl) ?_
    exact y_ret0 o0
  · refine y_val (k_eqlF h) ?_
    refine y_iff (rfl) ?_
    have hb := ti2_b n fr c
    obtain ⟨⟨v, s⟩, h1, h2⟩ := Option.map_eq_some_iff.mp hb
    obtain ⟨h3, h4⟩ := Prod.mk.inj h2
    obtain ⟨h5, h6⟩ := Prod.mk.inj h4
    obtain ⟨h7, h8⟩ := Prod.mk.inj h6
    exact y_of h1 ⟨h5, Nat.le_of_ble_eq_true h7, h8⟩
end Core
end Go.Proofs.YtnoieleoklpciaaGreatDoor
