/- Numbers as bytes: the program's octet.Put, the document's Put, and what calls them. -/
import Derived.Test.YtggjhmhjjghncaaGreatFx1
import Derived.Test.YtggjhmhjjghncaaGreatFx2
import Derived.Test.YtggjhmhjjghncaaGreatTy
import Derived.Test.YtggjhmhjjghncaaGreatR4
namespace Go.Proofs.YtggjhmhjjghncaaGreat
open Go.Run Go
namespace Oct
open Ty
set_option maxRecDepth 100000
abbrev M : Nat := 1000000
theorem row5 {k : Nat} (h : 1 ≤ k) : rowOf (C M) 5 1 k = some (List.replicate k (.int .u8 0)) := by
  have z : zeroCells (C M) 5 = some [.int .u8 0] := by kernel_rfl
  unfold rowOf
  have hb : Nat.beq k 0 = false := by
    cases hb : Nat.beq k 0 with
    | false => rfl
    | true => have := Nat.eq_of_beq_eq_true hb; omega
  rw [hb, z]
  show (bif Nat.beq 1 1 then some (repN k [CV.int .u8 0]) else none) = _
  rw [repN_one]; rfl
/-- the byte at a place -/
def byteAt (k : Nat) (n : Nat) (j : Nat) : UInt8 := UInt8.ofNat (n / 256 ^ (k - 1 - j) % 256)
def cellsAt (k n i : Nat) : List CV := (List.range k).map fun j => if j < i then .int .u8 ((byteAt k n j).toNat : Nat) else .int .u8 0
theorem cellsAt_len (k n i : Nat) : (cellsAt k n i).length = k := by simp [cellsAt]
theorem cellsAt_zero (k n : Nat) : cellsAt k n 0 = List.replicate k (.int .u8 0) := by
  unfold cellsAt
  apply List.ext_getElem
  · simp
  · intro j h1 h2; simp
theorem cellsAt_set (k n i : Nat) : (cellsAt k n i).set i (.int .u8 ((byteAt k n i).toNat : Nat)) = cellsAt k n (i + 1) := by
  unfold cellsAt
  apply List.ext_getElem
  · simp
  · intro j h1 h2
    rw [List.getElem_set]
    simp only [List.getElem_map, List.getElem_range]
    by_cases hj : i = j
    · subst hj; simp
    · rw [if_neg hj]
      by_cases h : j < i
      · rw [if_pos h, if_pos (by omega)]
      · rw [if_neg h, if_neg (by omega)]
theorem cellsAt_all (k n : Nat) : cellsAt k n k = cellsOfBytes (be k n) := by
  unfold cellsAt cellsOfBytes be
  rw [List.map_map]
  refine List.map_congr_left fun j hj => ?_
  rw [if_pos (List.mem_range.mp hj)]
  rfl
theorem shift_byte {k n i : Nat} (hi : i < k) : wrapA .u8 ((n : Int) / ((2 ^ (8 * (k - 1 - i)) : Nat) : Int)) = ((byteAt k n i).toNat : Nat) := by
  rw [wrap8]
  have e : (2 ^ (8 * (k - 1 - i)) : Nat) = 256 ^ (k - 1 - i) := by rw [Nat.pow_mul]
  rw [e, ← Int.natCast_ediv]
  show ((n / 256 ^ (k - 1 - i) : Nat) : Int) % 256 = _
  unfold byteAt
  rw [UInt8.toNat_ofNat']
  have : n / 256 ^ (k - 1 - i) % 256 % 2 ^ 8 = n / 256 ^ (k - 1 - i) % 256 := Nat.mod_eq_of_lt (by omega)
  rw [this]
  rfl
theorem put_loop {call : CallF} {k n b : Nat} {cap : Cap} (hk : k ≤ 7) : ∀ (d i fuel : Nat) (σ : St), i + d = k → d < fuel → σ.get b = some (.cells (cellsAt k n i) 5 true) →
    Yl (L20_6 M call fuel (I (n : Nat)) (I (k : Nat)) (.one (.slice (some (b, 0)) k cap)) (I (k : Nat)) (I (i : Nat)) σ) (fun v _ => v = .tup [S (be k n), I 0]) := by
  intro d
  induction d with
  | zero =>
    intro i fuel σ hi hf hg
    obtain ⟨f, rfl⟩ : ∃ f, fuel = f + 1 := ⟨fuel - 1, by omega⟩
    have : i = k := by omega
    subst this
    rw [L20_6_succ]
    unfold L20_6_b
    refine y_val (o_lss) ?_
    unfold K20_7
    refine y_iff (decide_eq_false (by omega)) ?_
    unfold K20_4
    refine y_val (o_cvS un126 un5 un9 hg rfl (by rw [dropN_zero, cellsAt_all]; exact takeN_len (by rw [cellsOf_len, be_len]))) ?_
    exact y_ret2 rfl
  | succ d ih =>
    intro i fuel σ hi hf hg
    obtain ⟨f, rfl⟩ : ∃ f, fuel = f + 1 := ⟨fuel - 1, by omega⟩
    rw [L20_6_succ]
    unfold L20_6_b
    refine y_val (o_lss) ?_
    unfold K20_7
    refine y_ift (decide_eq_true (by omega)) ?_
    unfold K20_8
    refine y_val (o_sub) ?_
    rw [wrap_id (by omega) (by omega)]
    refine y_val (o_sub) ?_
    rw [wrap_id (by omega) (by omega)]
    refine y_val (o_mul) ?_
    rw [wrap_id (by omega) (by omega), show (8 * ((k : Int) - 1 - (i : Int))) = ((8 * (k - 1 - i) : Nat) : Int) by omega]
    refine y_val (o_shr (by omega)) ?_
    refine y_val (o_cv8 un3 un5) ?_
    rw [shift_byte (by omega)]
    refine y_val (o_iad un126 sz5 (by omega)) ?_
    refine y_st (o_st hg rfl sz5 rfl (over_one _ _ _ (by rw [cellsAt_len]; omega))) ?_
    unfold K20_9
    refine y_val (o_add) ?_
    rw [wrap_id (by omega) (by omega)]
    refine ih (i + 1) f _ (by omega) (by omega) ?_
    rw [St.get_put, if_pos rfl, Nat.zero_add, Nat.mul_one, cellsAt_set]
theorem div_zero {k : Nat} {n : Int} (h0 : 0 ≤ n) : (n / ((2 ^ (8 * k) : Nat) : Int) == 0) = decide (n < ((256 ^ k : Nat) : Int)) := by
  have e : (2 ^ (8 * k) : Nat) = 256 ^ k := by rw [Nat.pow_mul]
  rw [e]
  have hp : (0 : Int) < ((256 ^ k : Nat) : Int) := by have := Nat.pow_pos (n := k) (show 0 < 256 by omega); omega
  by_cases h : n < ((256 ^ k : Nat) : Int)
  · rw [decide_eq_true h, Int.ediv_eq_zero_of_lt h0 h]; rfl
  · rw [decide_eq_false h]
    have h1 : 1 ≤ n / ((256 ^ k : Nat) : Int) := Int.le_ediv_of_mul_le hp (by omega)
    simp only [beq_eq_false_iff_ne, ne_eq]
    omega
theorem put_run {k : Nat} {n : Int} (h1 : 1 ≤ k) (h7 : k ≤ 7) : Yl (callK (C M) noTab 1 20 [I n, I (k : Nat)] σE) (fun v _ => v = .tup [S (beS k n), I (if fits k n = true then 0 else 1)]) := by
  refine y_body rfl Tryz.func20 (by kernel_rfl) ?_
  rw [F20_eq]
  unfold K20_0 K20_1
  refine y_val (o_lss) ?_
  rw [decide_eq_false (show ¬ (k : Int) < 1 by omega)]
  refine y_gon rfl (rfl) ?_
  refine y_gon rfl (o_gtr) ?_
  refine y_val (rfl) ?_
  rw [decide_eq_false (show ¬ (7 : Int) < (k : Int) by omega)]
  refine y_gon rfl (rfl) ?_
  refine y_gon rfl (o_lss) ?_
  refine y_val (rfl) ?_
  by_cases h0 : n < 0
  · have hf : fits k n = false := by unfold fits; rw [decide_eq_false (by omega)]; rfl
    rw [decide_eq_true h0]
    refine y_goff rfl ?_
    refine y_goff rfl ?_
    refine y_goff rfl ?_
    refine y_goff rfl ?_
    refine y_goff rfl ?_
    refine y_val (rfl) ?_
    refine y_ift (rfl) ?_
    refine y_ret2 ?_
    rw [beS_no hf, hf]; rfl
  · rw [decide_eq_false h0]
    refine y_gon rfl (rfl) ?_
    refine y_gon rfl (rfl) ?_
    refine y_gon rfl (o_mul) ?_
    rw [wrap_id (by omega) (by omega), show (8 * (k : Int)) = ((8 * k : Nat) : Int) by omega]
    refine y_gon rfl (o_shr (by omega)) ?_
    refine y_gon rfl (o_neq) ?_
    rw [div_zero (by omega)]
    refine y_val (rfl) ?_
    by_cases hn : n < ((256 ^ k : Nat) : Int)
    · have hf : fits k n = true := fits_iff.mpr ⟨by omega, hn⟩
      rw [decide_eq_true hn]
      refine y_iff (rfl) ?_
      unfold K20_2
      obtain ⟨inf, hi, he⟩ := Option.map_eq_some_iff.mp (in5 (m := M))
      obtain ⟨he1, he2⟩ := Prod.mk.inj he
      have he1 : inf.size = 1 := he1
      have he2 : inf.bytes = 1 := he2
      refine y_new (o_mks un126 hi (by rw [he1]; exact row5 h1) (by rw [he1, he2, Nat.ble_eq_true_of_le (by omega), Nat.ble_eq_true_of_le (by omega), Nat.ble_eq_true_of_le (by omega)]; rfl)) ?_
      unfold K20_3
      refine y_val (o_len un126) ?_
      unfold K20_5
      obtain ⟨nn, rfl⟩ : ∃ nn : Nat, n = (nn : Int) := ⟨n.toNat, by omega⟩
      rw [beS, if_pos hf, if_pos hf, Int.toNat_natCast]
      exact put_loop h7 k 0 M _ (by omega) (by unfold M; omega) (by rw [St.get_push, if_pos rfl, cellsAt_zero])
    · have hf : fits k n = false := by
        cases hff : fits k n with
        | false => rfl
        | true => exact absurd (fits_iff.mp hff).2 hn
      rw [decide_eq_false hn]
      refine y_ift (rfl) ?_
      refine y_ret2 ?_
      rw [beS_no hf, hf]; rfl

/-! The document's Put. -/
theorem power_loop {call : CallF} {k : Nat} (hk : k ≤ 7) : ∀ (d i fuel : Nat) (σ : St), i + d = k → d < fuel →
    Yl (L48_5 M call fuel (I (k : Nat)) (I ((256 ^ i : Nat) : Int)) (I (i : Nat)) σ) (fun v _ => v = I ((256 ^ k : Nat) : Int)) := by
  intro d
  induction d with
  | zero =>
    intro i fuel σ hi hf
    obtain ⟨f, rfl⟩ : ∃ f, fuel = f + 1 := ⟨fuel - 1, by omega⟩
    have : i = k := by omega
    subst this
    rw [L48_5_succ]
    unfold L48_5_b
    refine y_val (o_lss) ?_
    refine y_iff (decide_eq_false (by omega)) ?_
    unfold K48_3
    exact y_ret0 rfl
  | succ d ih =>
    intro i fuel σ hi hf
    obtain ⟨f, rfl⟩ : ∃ f, fuel = f + 1 := ⟨fuel - 1, by omega⟩
    rw [L48_5_succ]
    unfold L48_5_b
    refine y_val (o_lss) ?_
    refine y_ift (decide_eq_true (by omega)) ?_
    unfold K48_6
    refine y_val (o_mul) ?_
    have hle : 256 ^ (i + 1) ≤ 256 ^ 7 := Nat.pow_le_pow_right (by omega) (by omega)
    have e : ((256 ^ i : Nat) : Int) * 256 = ((256 ^ (i + 1) : Nat) : Int) := by rw [Nat.pow_succ]; push_cast; rfl
    have h7 : (256 : Nat) ^ 7 = 72057594037927936 := by decide
    rw [e]
    have hq2 : 256 ^ (i + 1) ≤ 72057594037927936 := by rw [← h7]; exact hle
    generalize hq : 256 ^ (i + 1) = q
    rw [hq] at hq2
    rw [wrap_id (by omega) (by omega)]
    unfold K48_7
    refine y_val (o_add) ?_
    rw [wrap_id (by omega) (by omega), ← hq]
    exact ih (i + 1) f _ (by omega) (by omega)
theorem power_run {n k : Nat} {σ : St} {tab : Tab} (ht : tab 48 = none) (hk : k ≤ 7) : Yl (callK (C M) tab (n + 1) 48 [I (k : Nat)] σ) (fun v _ => v = I ((256 ^ k : Nat) : Int)) := by
  refine y_body ht Tryz.func48 (by kernel_rfl) ?_
  rw [F48_eq]
  unfold K48_0 K48_1 K48_2 K48_4
  exact power_loop hk k 0 M σ (by omega) (by unfold M; omega)
theorem pow_table : ∀ {k : Nat}, k ≤ 7 → 256 ^ k ≤ 72057594037927936 := fun {k} hk => by
  have hle : 256 ^ k ≤ 256 ^ 7 := Nat.pow_le_pow_right (by omega) hk
  have h7 : (256 : Nat) ^ 7 = 72057594037927936 := by decide
  omega
theorem byte_cells (a : Nat) : cellsOfBytes [UInt8.ofNat (a % 256)] = [CV.int .u8 ((a % 256 : Nat) : Int)] := by
  show [CV.int .u8 (.ofNat (UInt8.ofNat (a % 256)).toNat)] = _
  rw [UInt8.toNat_ofNat']
  have : a % 256 % 2 ^ 8 = a % 256 := Nat.mod_eq_of_lt (by omega)
  rw [this]; rfl
/-- a slice of one byte -/
theorem bsl1 {σ : St} {c : CV} : bslO (C M) 126 1 [(0, .one c)] σ = .new (.cells [c] 5 true) (fun i => .one (.slice (some (i, 0)) 1 (.to 1))) := by kernel_rfl
theorem rput_loop {call : CallF} {k : Nat} (hk : k ≤ 7) : ∀ (d i fuel n : Nat) (l : List UInt8) (σ : St), i + d = k → d < fuel → n ≤ 72057594037927936 → l.length = i →
    Yl (L24_6 M call fuel (I (n : Nat)) (I (k : Nat)) (S l) (I (i : Nat)) σ) (fun v _ => v = .tup [S (be d n ++ l), B true]) := by
  intro d
  induction d with
  | zero =>
    intro i fuel n l σ hi hf hn hl
    obtain ⟨f, rfl⟩ : ∃ f, fuel = f + 1 := ⟨fuel - 1, by omega⟩
    rw [L24_6_succ]
    unfold L24_6_b
    refine y_val (o_lss) ?_
    refine y_iff (decide_eq_false (by omega)) ?_
    unfold K24_4
    exact y_ret2 rfl
  | succ d ih =>
    intro i fuel n l σ hi hf hn hl
    obtain ⟨f, rfl⟩ : ∃ f, fuel = f + 1 := ⟨fuel - 1, by omega⟩
    rw [L24_6_succ]
    unfold L24_6_b
    refine y_val (o_lss) ?_
    refine y_ift (decide_eq_true (by omega)) ?_
    unfold K24_7
    have e1 : Int.tmod (n : Int) 256 = ((n % 256 : Nat) : Int) := by rw [Int.tmod_eq_emod_of_nonneg (by omega)]; rfl
    have e2 : wrapA .u8 ((n % 256 : Nat) : Int) = ((n % 256 : Nat) : Int) := by rw [wrap8]; omega
    have e3 : Int.tdiv (n : Int) 256 = ((n / 256 : Nat) : Int) := by rw [Int.tdiv_eq_ediv_of_nonneg (by omega)]; rfl
    refine y_val (o_rem (by omega)) ?_
    rw [e1]
    refine y_val (o_cv8 un3 un5) ?_
    rw [e2]
    refine y_new (bsl1) ?_
    refine y_val (o_cvS (bs := [UInt8.ofNat (n % 256)]) un126 un5 un9 (by rw [St.get_push, if_pos rfl]) rfl (by rw [byte_cells]; rfl)) ?_
    refine y_val (o_sadd (by simp only [List.length_cons, List.length_nil, hl]; omega)) ?_
    refine y_val (o_quo (by omega)) ?_
    rw [e3, wrap_id (by omega) (by omega)]
    unfold K24_8
    refine y_val (o_add) ?_
    rw [wrap_id (by omega) (by omega)]
    refine (ih (i + 1) f (n / 256) ([UInt8.ofNat (n % 256)] ++ l) _ (by omega) (by omega) (by omega) (by simp [hl])).mono fun v _ hv => ?_
    rw [hv, be_succ, List.append_assoc]
theorem rput_run {k : Nat} {n : Int} (h1 : 1 ≤ k) (h7 : k ≤ 7) : Yl (callK (C M) noTab 2 24 [I n, I (k : Nat)] σE) (fun v _ => v = .tup [S (beS k n), B (fits k n)]) := by
  have hp := pow_table h7
  refine y_body rfl Tryz.func24 (by kernel_rfl) ?_
  rw [F24_eq]
  unfold K24_0 K24_1
  refine y_val (o_lss) ?_
  rw [decide_eq_false (show ¬ (k : Int) < 1 by omega)]
  refine y_gon rfl (rfl) ?_
  refine y_gon rfl (o_gtr) ?_
  refine y_val (rfl) ?_
  rw [decide_eq_false (show ¬ (7 : Int) < (k : Int) by omega)]
  refine y_gon rfl (rfl) ?_
  refine y_gon rfl (o_lss) ?_
  refine y_val (rfl) ?_
  by_cases h0 : n < 0
  · have hf : fits k n = false := by unfold fits; rw [decide_eq_false (by omega)]; rfl
    rw [decide_eq_true h0]
    refine y_goff rfl ?_
    refine y_goff rfl ?_
    refine y_goff rfl ?_
    refine y_goff rfl ?_
    refine y_val (rfl) ?_
    refine y_ift (rfl) ?_
    refine y_ret2 ?_
    rw [beS_no hf, hf]
  · rw [decide_eq_false h0]
    obtain ⟨v, σ', hpow, rfl⟩ := power_run (n := 0) (k := k) (σ := σE) (tab := noTab) rfl h7
    refine y_gon rfl (rfl) ?_
    refine y_gon rfl (rfl) ?_
    refine y_gcal rfl rfl (hpow) ?_
    refine y_gon rfl (o_geq) ?_
    refine y_val (rfl) ?_
    by_cases hn : n < ((256 ^ k : Nat) : Int)
    · have hf : fits k n = true := fits_iff.mpr ⟨by omega, hn⟩
      rw [decide_eq_true hn]
      refine y_iff (rfl) ?_
      unfold K24_2 K24_3 K24_5
      obtain ⟨nn, rfl⟩ : ∃ nn : Nat, n = (nn : Int) := ⟨n.toNat, by omega⟩
      rw [beS, if_pos hf, hf, Int.toNat_natCast]
      refine (rput_loop h7 k 0 M nn [] _ (by omega) (by unfold M; omega) (by omega) rfl).mono fun v _ hv => ?_
      rw [hv, List.append_nil]
    · have hf : fits k n = false := by
        cases hff : fits k n with
        | false => rfl
        | true => exact absurd (fits_iff.mp hff).2 hn
      rw [decide_eq_false hn]
      refine y_ift (rfl) ?_
      refine y_ret2 ?_
      rw [beS_no hf, hf]
end Oct
end Go.Proofs.YtggjhmhjjghncaaGreat
