/- hash.Sum, Cell, Sign: what they give. -/
import Derived.Test.YtnoieleoklpciaaGreatDoorKey
set_option linter.unusedVariables false
set_option linter.unusedSimpArgs false
namespace Go.Proofs.YtnoieleoklpciaaGreatDoor
open Go.Run Go
namespace Core
open Ty
set_option maxRecDepth 1000000
def powP : Nat → Nat → Nat → Nat → Nat
  | 0, _, _, out => out
  | f + 1, e, a, out => powP f (e / 2) (mulP a a) (if e % 2 = 1 then mulP out a else out)
/-- the first k bytes of the word at i -/
def wdP (key : List UInt8) (i : Nat) : Nat → Nat
  | 0 => 0
  | k + 1 => wdP key i k * 256 + (key.getD (i + k) 0).toNat
def sumL (key : List UInt8) (a : Nat) : Nat → Nat
  | 0 => key.length
  | j + 1 => addP (mulP (sumL key a j) a) (wdP key (4 * j) 4 + 1)
def sumP (seed : Nat) (key : List UInt8) : Nat := powP 5 17 (mulP (sumL key (addP seed 2) ((key.length + 3) / 4)) (addP seed 2)) 1
theorem powP_lt : ∀ (f e a out : Nat), out < 18446744073709551616 → powP f e a out < 18446744073709551616
  | 0, _, _, _, h => h
  | f + 1, e, a, out, h => powP_lt f _ _ _ (by
      by_cases h2 : e % 2 = 1
      · rw [if_pos h2]; have := mulP_lt out a; omega
      · rw [if_neg h2]; exact h)
theorem sumP_lt (seed : Nat) (key : List UInt8) : sumP seed key < 18446744073709551616 := powP_lt _ _ _ _ (by decide)
theorem wdP_lt (key : List UInt8) (i : Nat) : ∀ k, wdP key i k < 256 ^ k
  | 0 => Nat.one_pos
  | k + 1 => by
    have h1 := wdP_lt key i k
    have h2 := (key.getD (i + k) 0).toNat_lt
    show wdP key i k * 256 + _ < _
    rw [Nat.pow_succ]
    omega
theorem sumL_lt (key : List UInt8) (a : Nat) (hl : key.length ≤ 1000) (j : Nat) : sumL key a j < 18446744073709551616 := by
  cases j with
  | zero => show key.length < _; omega
  | succ j => have := addP_lt (mulP (sumL key a j) a) (wdP key (4 * j) 4 + 1); show addP _ _ < _; omega
section
variable {n : Nat} {σ : St} {tab : Tab}
theorem pow_loop (ht : Fr tab) : ∀ (k fuel e a out : Nat) (s : St), e < 18446744073709551616 → e < 2 ^ k → k < fuel → a < 18446744073709551616 → out < 18446744073709551616 →
    Yl (L273_5 M (callK (C M) tab (n + 2)) fuel (Iu (a : Nat)) (Iu (e : Nat)) (Iu (out : Nat)) s) (fun v s2 => s2 = s ∧ v = Iu (powP k e a out : Nat)) := by
  intro k
  induction k with
  | zero =>
    intro fuel e a out s hle he hf ha ho
    obtain ⟨f, rfl⟩ : ∃ f, fuel = f + 1 := ⟨fuel - 1, by omega⟩
    have e0 : e = 0 := by simpa using he
    rw [L273_5_succ]
    unfold L273_5_b
    refine y_val (ou_gtr (b := 0)) ?_
    refine y_iff (decide_eq_false (by omega)) ?_
    unfold K273_3
    exact y_ret0 ⟨rfl, rfl⟩
  | succ k ih =>
    intro fuel e a out s hle he hf ha ho
    obtain ⟨f, rfl⟩ : ∃ f, fuel = f + 1 := ⟨fuel - 1, by omega⟩
    rw [L273_5_succ]
    unfold L273_5_b
    have stop : ∀ (f2 e2 a2 o2 : Nat), e2 = 0 → powP f2 e2 a2 o2 = o2 := by
      intro f2
      induction f2 with
      | zero => intro e2 a2 o2 _; rfl
      | succ f2 ih2 => intro e2 a2 o2 h; subst h; exact ih2 _ _ _ rfl
    by_cases h0 : e = 0
    · refine y_val (ou_gtr (b := 0)) ?_
      refine y_iff (decide_eq_false (by omega)) ?_
      unfold K273_3
      exact y_ret0 ⟨rfl, by rw [stop _ _ _ _ h0]⟩
    · refine y_val (ou_gtr (b := 0)) ?_
      refine y_ift (decide_eq_true (by omega)) ?_
      unfold K273_6
      have m1 := mulP_lt a a
      have m2 := mulP_lt out a
      have sq : ∀ (o2 : Nat) (s2 : St), o2 < 18446744073709551616 → Yl (K273_8 M (callK (C M) tab (n + 2)) (fun t0 t1 t5 => L273_5 M (callK (C M) tab (n + 2)) f t0 t1 t5) (Iu (a : Nat)) (Iu (e : Nat)) (Iu (o2 : Nat)) s2) (fun v s3 => s3 = s2 ∧ v = Iu (powP k (e / 2) (mulP a a) o2 : Nat)) := by
        intro o2 s2 ho2
        unfold K273_8
        refine y_cal rfl (mul_run (ht _ rfl) (ht _ rfl) (ht _ rfl) ha ha) ?_
        unfold K273_7
        refine y_val (ou_shr (k := .u64) (c := 1) (by decide)) ?_
        exact ih f (e / 2 ^ 1) (mulP a a) o2 s2 (by rw [Nat.pow_one]; omega) (by rw [Nat.pow_one]; rw [Nat.pow_succ] at he; omega) (by omega) (by omega) ho2
      have hand : e &&& 1 = e % 2 := Nat.and_one_is_mod e
      · refine y_val (ou_and (b := 1) hle (by decide)) ?_
        rw [hand]
        refine y_val (ou_eql (b := 1)) ?_
        by_cases h1 : e % 2 = 1
        · refine y_ift (decide_eq_true h1) ?_
          refine y_cal rfl (mul_run (ht _ rfl) (ht _ rfl) (ht _ rfl) ho ha) ?_
          have := sq (mulP out a) s (by omega)
          refine Yl.mono this fun v s2 ⟨h, h2⟩ => ⟨h, h2.trans ?_⟩
          show _ = Iu (powP k (e / 2) (mulP a a) (if e % 2 = 1 then mulP out a else out) : Nat)
          rw [if_pos h1]
        · refine y_iff (decide_eq_false h1) ?_
          have := sq out s ho
          refine Yl.mono this fun v s2 ⟨h, h2⟩ => ⟨h, h2.trans ?_⟩
          show _ = Iu (powP k (e / 2) (mulP a a) (if e % 2 = 1 then mulP out a else out) : Nat)
          rw [if_neg h1]
theorem powK (ht : Fr tab) {a : Nat} (ha : a < 18446744073709551616) : callK (C M) tab (n + 3) 273 [Iu (a : Nat), Iu 17] σ = some (Iu (powP 5 17 (a % PR) 1 : Nat), σ) := by
  refine callK_body (ht _ rfl) Tryz.func273 (by kernel_rfl) ?_
  rw [F273_eq]
  refine Yl.eq ?_
  unfold K273_0 K273_1 K273_2
  refine y_cal rfl (of_run (ht _ rfl) ha) ?_
  unfold K273_4
  have := lt_PR a
  exact Yl.mono (pow_loop (n := n) ht 5 M 17 (a % PR) 1 σ (by decide) (by decide) (by unfold M; omega) (by omega) (by decide)) fun v s ⟨h1, h2⟩ => ⟨h2, h1⟩
theorem word_loop {call : CallF} {h6 : AV → AV → AV → AV → Kt} {key : List UInt8} {a out : AV} {i : Nat} {Q : AV → St → Prop} (hi : i < 100000) (hl : key.length ≤ 1000)
    (hk : Yl (K231_10 M call h6 (S key) a out (I (i : Nat)) (Iu (wdP key i 4 : Nat)) σ) Q) : ∀ (d k fuel : Nat), k + d = 4 → d < fuel →
    Yl (L231_12 M call h6 fuel (S key) a out (I (i : Nat)) (Iu (wdP key i k : Nat)) (I (k : Nat)) σ) Q := by
  intro d
  induction d with
  | zero =>
    intro k fuel h hf
    obtain ⟨f, rfl⟩ : ∃ f, fuel = f + 1 := ⟨fuel - 1, by omega⟩
    have : k = 4 := by omega
    subst this
    rw [L231_12_succ]
    unfold L231_12_b
    refine y_val (k_lssF (by omega)) ?_
    unfold K231_13
    refine y_iff (rfl) ?_
    exact hk
  | succ d ih =>
    intro k fuel h hf
    obtain ⟨f, rfl⟩ : ∃ f, fuel = f + 1 := ⟨fuel - 1, by omega⟩
    rw [L231_12_succ]
    unfold L231_12_b
    refine y_val (k_lssT (by omega)) ?_
    unfold K231_13
    refine y_ift (rfl) ?_
    unfold K231_14
    have hw := wdP_lt key i k
    have hp : 256 ^ k ≤ 256 ^ 3 := Nat.pow_le_pow_right (by decide) (by omega)
    have h3 : (256 : Nat) ^ 3 = 16777216 := by decide
    refine y_val (ou_shl (k := .u64) (c := 8) (by decide)) ?_
    rw [show wdP key i k * 2 ^ 8 = wdP key i k * 256 from rfl, Nat.mod_eq_of_lt (by omega)]
    refine y_val (o_addw (by omega) (by omega)) ?_
    refine y_val (o_slen un9) ?_
    have e0 : (i : Int) + (k : Int) = ((i + k : Nat) : Int) := by omega
    rw [e0]
    by_cases hb : i + k < key.length
    · obtain ⟨b, hb'⟩ := get_lt (l := key) (j := i + k) hb
      have hbb := b.toNat_lt
      refine y_val (k_lssT (by omega)) ?_
      refine y_ift (rfl) ?_
      refine y_val (o_addw (by omega) (by omega)) ?_
      rw [e0]
      refine y_val (o_idx hb') ?_
      refine y_val (o_cv64 un5 un27 (by omega)) ?_
      refine y_val (ou_or (by omega) (by omega)) ?_
      have e1 : wdP key i k * 256 ||| b.toNat = wdP key i (k + 1) := by
        show _ = wdP key i k * 256 + (key.getD (i + k) 0).toNat
        rw [List.getD, hb']
        have := Nat.two_pow_add_eq_or_of_lt (i := 8) (b := b.toNat) (by omega) (wdP key i k)
        rw [Nat.mul_comm (wdP key i k) 256]
        exact this.symm
      rw [e1]
      unfold K231_15
      refine y_val (o_inc (by omega)) ?_
      exact ih (k + 1) f (by omega) (by omega)
    · refine y_val (k_lssF (by omega)) ?_
      refine y_iff (rfl) ?_
      have e1 : wdP key i k * 256 = wdP key i (k + 1) := by
        show _ = wdP key i k * 256 + (key.getD (i + k) 0).toNat
        rw [List.getD, List.getElem?_eq_none (by omega)]
        rfl
      rw [e1]
      unfold K231_15
      refine y_val (o_inc (by omega)) ?_
      exact ih (k + 1) f (by omega) (by omega)
theorem sum_loop (ht : Fr tab) {key : List UInt8} {a : Nat} (ha : a < 18446744073709551616) (hl : key.length ≤ 1000) : ∀ (d j fuel : Nat), j + d = (key.length + 3) / 4 → d < fuel →
    Yl (L231_6 M (callK (C M) tab (n + 3)) fuel (S key) (Iu (a : Nat)) (Iu (sumL key a j : Nat)) (I ((4 * j : Nat) : Int)) σ) (fun v s => s = σ ∧ v = Iu (powP 5 17 (mulP (sumL key a ((key.length + 3) / 4)) a) 1 : Nat)) := by
  intro d
  induction d with
  | zero =>
    intro j fuel h hf
    obtain ⟨f, rfl⟩ : ∃ f, fuel = f + 1 := ⟨fuel - 1, by omega⟩
    have : j = (key.length + 3) / 4 := by omega
    subst this
    have hj : key.length ≤ 4 * ((key.length + 3) / 4) := by omega
    have hs := sumL_lt key a hl ((key.length + 3) / 4)
    have hm := mulP_lt (sumL key a ((key.length + 3) / 4)) a
    rw [L231_6_succ]
    unfold L231_6_b
    refine y_val (o_slen un9) ?_
    refine y_val (k_lssF (by omega)) ?_
    refine y_iff (rfl) ?_
    unfold K231_4
    refine y_cal rfl (mul_run (ht _ rfl) (ht _ rfl) (ht _ rfl) hs ha) ?_
    refine y_cal rfl (powK ht (by omega)) ?_
    refine y_ret0 ⟨rfl, ?_⟩
    rw [Nat.mod_eq_of_lt (show mulP (sumL key a ((key.length + 3) / 4)) a < PR from hm)]
  | succ d ih =>
    intro j fuel h hf
    obtain ⟨f, rfl⟩ : ∃ f, fuel = f + 1 := ⟨fuel - 1, by omega⟩
    have hj : 4 * j < key.length := by omega
    have hs := sumL_lt key a hl j
    have hm := mulP_lt (sumL key a j) a
    have hw := wdP_lt key (4 * j) 4
    have h4 : (256 : Nat) ^ 4 = 4294967296 := by decide
    rw [L231_6_succ]
    unfold L231_6_b
    refine y_val (o_slen un9) ?_
    refine y_val (k_lssT (by omega)) ?_
    refine y_ift (rfl) ?_
    unfold K231_7 K231_9 K231_11
    refine word_loop (i := 4 * j) (by omega) hl ?_ 4 0 M rfl (by unfold M; omega)
    unfold K231_10
    refine y_cal rfl (mul_run (ht _ rfl) (ht _ rfl) (ht _ rfl) hs ha) ?_
    refine y_val (ou_add (b := 1)) ?_
    rw [Nat.mod_eq_of_lt (show wdP key (4 * j) 4 + 1 < 18446744073709551616 by omega)]
    refine y_cal rfl (add_run (ht _ rfl) (ht _ rfl) (by omega) (by omega)) ?_
    unfold K231_8
    refine y_val (o_addw (by omega) (by omega)) ?_
    rw [show ((4 * j : Nat) : Int) + 4 = ((4 * (j + 1) : Nat) : Int) by omega]
    exact ih (j + 1) f (by omega) (by omega)
theorem sumK (ht : Fr tab) {key : List UInt8} {seed : Nat} (ha : seed < 18446744073709551616) (hl : key.length ≤ 1000) : callK (C M) tab (n + 4) 231 [Iu (seed : Nat), S key] σ = some (Iu (sumP seed key : Nat), σ) := by
  refine callK_body (ht _ rfl) Tryz.func231 (by kernel_rfl) ?_
  rw [F231_eq]
  refine Yl.eq ?_
  unfold K231_0 K231_1
  have h2 := addP_lt seed 2
  refine y_cal rfl (add_run (b := 2) (ht _ rfl) (ht _ rfl) ha (by decide)) ?_
  unfold K231_2
  refine y_val (o_slen un9) ?_
  refine y_val (o_cv64 un3 un27 (by omega)) ?_
  unfold K231_3 K231_5
  exact Yl.mono (sum_loop (n := n) ht (by omega) hl ((key.length + 3) / 4) 0 M (by omega) (by unfold M; omega)) fun v s ⟨h1, h2⟩ => ⟨h2, h1⟩
end
end Core
end Go.Proofs.YtnoieleoklpciaaGreatDoor
