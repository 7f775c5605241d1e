/- octet.Put, flow.Key. -/
import Derived.Test.YtnoieleoklpciaaGreatDoorNet
set_option linter.unusedVariables false
set_option linter.unusedSimpArgs false
namespace Go.Proofs.YtnoieleoklpciaaGreatDoor
open Go.Run Go
namespace Core
open Ty
set_option maxRecDepth 1000000
theorem row5 {k : Nat} (h : 1 ≤ k) : rowOf (C M) 5 1 k = some (List.replicate k (.int .u8 0)) := by
  have z : zeroCells (C M) 5 = some [.int .u8 0] := by kernel_rfl
  unfold rowOf
  have hb : Nat.beq k 0 = false := by
    cases hb : Nat.beq k 0 with
    | false => rfl
    | true => have := Nat.eq_of_beq_eq_true hb; omega
  rw [hb, z]
  show (bif Nat.beq 1 1 then some (repN k [CV.int .u8 0]) else none) = _
  rw [repN_one]; rfl
/-- the byte at a place -/
def byteAt (k : Nat) (n : Nat) (j : Nat) : UInt8 := UInt8.ofNat (n / 256 ^ (k - 1 - j) % 256)
def cellsAt (k n i : Nat) : List CV := (List.range k).map fun j => if j < i then .int .u8 ((byteAt k n j).toNat : Nat) else .int .u8 0
theorem cellsAt_len (k n i : Nat) : (cellsAt k n i).length = k := by simp [cellsAt]
theorem cellsAt_zero (k n : Nat) : cellsAt k n 0 = List.replicate k (.int .u8 0) := by
  unfold cellsAt
  apply List.ext_getElem
  · simp
  · intro j h1 h2; simp
theorem cellsAt_set (k n i : Nat) : (cellsAt k n i).set i (.int .u8 ((byteAt k n i).toNat : Nat)) = cellsAt k n (i + 1) := by
  unfold cellsAt
  apply List.ext_getElem
  · simp
  · intro j h1 h2
    rw [List.getElem_set]
    simp only [List.getElem_map, List.getElem_range]
    by_cases hj : i = j
    · subst hj; simp
    · rw [if_neg hj]
      by_cases h : j < i
      · rw [if_pos h, if_pos (by omega)]
      · rw [if_neg h, if_neg (by omega)]
theorem cellsAt_all (k n : Nat) : cellsAt k n k = cellsOfBytes (be k n) := by
  unfold cellsAt cellsOfBytes be
  rw [List.map_map]
  refine List.map_congr_left fun j hj => ?_
  rw [if_pos (List.mem_range.mp hj)]
  rfl
theorem shift_byte {k n i : Nat} (hi : i < k) : wrapA .u8 ((n : Int) / ((2 ^ (8 * (k - 1 - i)) : Nat) : Int)) = ((byteAt k n i).toNat : Nat) := by
  rw [wrap8]
  have e : (2 ^ (8 * (k - 1 - i)) : Nat) = 256 ^ (k - 1 - i) := by rw [Nat.pow_mul]
  rw [e, ← Int.natCast_ediv]
  show ((n / 256 ^ (k - 1 - i) : Nat) : Int) % 256 = _
  unfold byteAt
  rw [UInt8.toNat_ofNat']
  have : n / 256 ^ (k - 1 - i) % 256 % 2 ^ 8 = n / 256 ^ (k - 1 - i) % 256 := Nat.mod_eq_of_lt (by omega)
  rw [this]
  rfl
theorem put_loop {call : CallF} {k n b : Nat} {cap : Cap} {σ0 : St} (hk : k ≤ 7) (hb0 : σ0.next ≤ b) : ∀ (d i fuel : Nat) (σ : St), i + d = k → d < fuel → Gr σ0 σ → σ.get b = some (.cells (cellsAt k n i) 5 true) →
    Yl (L94_6 M call fuel (I (n : Nat)) (I (k : Nat)) (.one (.slice (some (b, 0)) k cap)) (I (k : Nat)) (I (i : Nat)) σ) (fun v s => Gr σ0 s ∧ v = .tup [S (be k n), I 0]) := by
  intro d
  induction d with
  | zero =>
    intro i fuel σ hi hf hgr hg
    obtain ⟨f, rfl⟩ : ∃ f, fuel = f + 1 := ⟨fuel - 1, by omega⟩
    have : i = k := by omega
    subst this
    rw [L94_6_succ]
    unfold L94_6_b
    refine y_val (o_lss) ?_
    unfold K94_7
    refine y_iff (decide_eq_false (by omega)) ?_
    unfold K94_4
    refine y_val (o_cvS un133 un5 un9 hg rfl (by rw [dropN_zero, cellsAt_all]; exact takeN_len (by rw [cellsOf_len, be_len]))) ?_
    exact y_ret2 ⟨hgr, rfl⟩
  | succ d ih =>
    intro i fuel σ hi hf hgr hg
    obtain ⟨f, rfl⟩ : ∃ f, fuel = f + 1 := ⟨fuel - 1, by omega⟩
    rw [L94_6_succ]
    unfold L94_6_b
    refine y_val (o_lss) ?_
    unfold K94_7
    refine y_ift (decide_eq_true (by omega)) ?_
    unfold K94_8
    refine y_val (o_sub) ?_
    rw [wrap_id (by omega) (by omega)]
    refine y_val (o_sub) ?_
    rw [wrap_id (by omega) (by omega)]
    refine y_val (o_mul) ?_
    rw [wrap_id (by omega) (by omega), show (8 * ((k : Int) - 1 - (i : Int))) = ((8 * (k - 1 - i) : Nat) : Int) by omega]
    refine y_val (o_shr (by omega)) ?_
    refine y_val (o_cv8 un3 un5) ?_
    rw [shift_byte (by omega)]
    refine y_val (o_iad un133 sz5 (by omega)) ?_
    refine y_st (o_st hg rfl sz5 rfl (over_one _ _ _ (by rw [cellsAt_len]; omega))) ?_
    unfold K94_9
    refine y_val (o_add) ?_
    rw [wrap_id (by omega) (by omega)]
    refine ih (i + 1) f _ (by omega) (by omega) (hgr.put _ hb0) ?_
    rw [St.get_put, if_pos rfl, Nat.zero_add, Nat.mul_one, cellsAt_set]
theorem div_zero {k : Nat} {n : Int} (h0 : 0 ≤ n) : (n / ((2 ^ (8 * k) : Nat) : Int) == 0) = decide (n < ((256 ^ k : Nat) : Int)) := by
  have e : (2 ^ (8 * k) : Nat) = 256 ^ k := by rw [Nat.pow_mul]
  rw [e]
  have hp : (0 : Int) < ((256 ^ k : Nat) : Int) := by have := Nat.pow_pos (n := k) (show 0 < 256 by omega); omega
  by_cases h : n < ((256 ^ k : Nat) : Int)
  · rw [decide_eq_true h, Int.ediv_eq_zero_of_lt h0 h]; rfl
  · rw [decide_eq_false h]
    have h1 : 1 ≤ n / ((256 ^ k : Nat) : Int) := Int.le_ediv_of_mul_le hp (by omega)
    simp only [beq_eq_false_iff_ne, ne_eq]
    omega
section
variable {n : Nat} {σ : St} {tab : Tab}
theorem put_run (ht : Fr tab) {k nn : Nat} (h1 : 1 ≤ k) (h7 : k ≤ 7) (hn : nn < 256 ^ k) : Yl (callK (C M) tab (n + 1) 94 [I (nn : Nat), I (k : Nat)] σ) (fun v s => Gr σ s ∧ v = .tup [S (be k nn), I 0]) := by
  refine y_body (ht _ rfl) Tryz.func94 (by kernel_rfl) ?_
  rw [F94_eq]
  unfold K94_0 K94_1
  refine y_val (k_lssF (by omega)) ?_
  refine y_gon rfl (rfl) ?_
  refine y_gon rfl (k_gtrF (by omega)) ?_
  refine y_val (rfl) ?_
  refine y_gon rfl (rfl) ?_
  refine y_gon rfl (k_lssF (by omega)) ?_
  refine y_val (rfl) ?_
  refine y_gon rfl (rfl) ?_
  refine y_gon rfl (rfl) ?_
  refine y_gon rfl (o_mul) ?_
  rw [wrap_id (by omega) (by omega), show (8 * (k : Int)) = ((8 * k : Nat) : Int) by omega]
  refine y_gon rfl (o_shr (by omega)) ?_
  refine y_gon rfl (o_neq) ?_
  rw [div_zero (by omega), decide_eq_true (by omega)]
  refine y_val (rfl) ?_
  refine y_iff (rfl) ?_
  unfold K94_2
  obtain ⟨inf, hi, he⟩ := Option.map_eq_some_iff.mp (in5 (m := M))
  obtain ⟨he1, he2⟩ := Prod.mk.inj he
  have he1 : inf.size = 1 := he1
  have he2 : inf.bytes = 1 := he2
  refine y_new (o_mks un133 hi (by rw [he1]; exact row5 h1) (by rw [he1, he2, Nat.ble_eq_true_of_le (by omega), Nat.ble_eq_true_of_le (by omega), Nat.ble_eq_true_of_le (by omega)]; rfl)) ?_
  unfold K94_3
  refine y_val (o_len un133) ?_
  unfold K94_5
  exact put_loop h7 (Nat.le_refl _) k 0 M _ (by omega) (by unfold M; omega) (Gr.push _ _) (by rw [St.get_push, if_pos rfl, cellsAt_zero])
theorem key_run (ht : Fr tab) {src dst : List UInt8} {p a b : Nat} (hs : src.length = 16) (hd : dst.length = 16) (hp : p < 256) (ha : a < 65536) (hb : b < 65536) :
    Yl (callK (C M) tab (n + 2) 111 [.agg [sC src, sC dst, iC (p : Nat), iC (a : Nat), iC (b : Nat)]] σ) (fun v s => Gr σ s ∧ ∃ key, v = .tup [S key, I 0] ∧ key.length = 37) := by
  refine y_body (ht _ rfl) Tryz.func111 (by kernel_rfl) ?_
  rw [F111_eq]
  unfold K111_0
  refine y_box fun s1 b1 e1 a1 _ => ?_
  have g1 := a1.2
  unfold K111_1
  refine y_val (fa276_2) ?_
  refine y_val (ld_fld g1 ag3 rfl) ?_
  refine y_cyl rfl (put_run (n := n) (k := 1) ht (by decide) (by decide) (by omega)) fun v s2 ⟨e2, hv⟩ => ?_
  subst hv
  refine y_val (rfl) ?_
  refine y_val (rfl) ?_
  unfold K111_2
  have a2 := a1.ext e2
  refine y_val (fa276_3) ?_
  refine y_val (ld_fld a2.2 ag3 rfl) ?_
  refine y_cyl rfl (put_run (n := n) (k := 2) ht (by decide) (by decide) (by omega)) fun v s3 ⟨e3, hv⟩ => ?_
  subst hv
  refine y_val (rfl) ?_
  refine y_val (rfl) ?_
  unfold K111_3
  have a3 := a2.ext e3
  refine y_val (fa276_4) ?_
  refine y_val (ld_fld a3.2 ag3 rfl) ?_
  refine y_cyl rfl (put_run (n := n) (k := 2) ht (by decide) (by decide) (by omega)) fun v s4 ⟨e4, hv⟩ => ?_
  subst hv
  have a4 := a3.ext e4
  have lp := be_len 1 p
  have la := be_len 2 a
  have lb := be_len 2 b
  refine y_val (rfl) ?_
  refine y_val (rfl) ?_
  refine y_val (fa276_0) ?_
  refine y_val (ld_at a4.2 ag9 rfl) ?_
  refine y_val (o_slen un9) ?_
  refine y_val (k_neqF (by omega)) ?_
  refine y_gon rfl fa276_1 ?_
  refine y_gon rfl (ld_fld a4.2 ag9 rfl) ?_
  refine y_gon rfl (o_slen un9) ?_
  refine y_gon rfl (k_neqF (by omega)) ?_
  refine y_val (rfl) ?_
  refine y_gon rfl (rfl) ?_
  refine y_gon rfl (rfl) ?_
  refine y_gon rfl (rfl) ?_
  refine y_gon rfl (rfl) ?_
  refine y_gon rfl (k_neqF rfl) ?_
  refine y_val (rfl) ?_
  refine y_iff (rfl) ?_
  refine y_val (fa276_0) ?_
  refine y_val (ld_at a4.2 ag9 rfl) ?_
  refine y_val (fa276_1) ?_
  refine y_val (ld_fld a4.2 ag9 rfl) ?_
  refine y_val (o_sadd (by omega)) ?_
  refine y_val (o_sadd (by rw [List.length_append]; omega)) ?_
  refine y_val (o_sadd (by rw [List.length_append, List.length_append]; omega)) ?_
  refine y_val (o_sadd (by rw [List.length_append, List.length_append, List.length_append]; omega)) ?_
  exact y_ret2 ⟨((e1.trans e2).trans e3).trans e4, _, rfl, by simp only [List.length_append]; omega⟩
end
end Core
end Go.Proofs.YtnoieleoklpciaaGreatDoor
