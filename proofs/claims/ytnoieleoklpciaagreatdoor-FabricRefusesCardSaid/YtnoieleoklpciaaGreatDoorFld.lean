/- Numbers modulo the prime; a row's seed. -/
import Derived.Test.YtnoieleoklpciaaGreatDoorBs
import Derived.Test.YtnoieleoklpciaaGreatDoorFx1
set_option linter.unusedVariables false
set_option linter.unusedSimpArgs false
namespace Go.Proofs.YtnoieleoklpciaaGreatDoor
open Go.Run Go
namespace Core
open Ty
set_option maxRecDepth 1000000
def addP (a b : Nat) : Nat := (a % PR + b % PR) % PR
def mulP (a b : Nat) : Nat := (a % PR) * (b % PR) % PR
def rowP (seed i : Nat) : Nat := mulP (addP (mulP (addP seed 3) (addP i 2)) 5) (addP (mulP (addP seed 3) (addP i 2)) 5)
theorem lt_PR (a : Nat) : a % PR < 2305843009213693951 := Nat.mod_lt _ (by decide)
theorem addP_lt (a b : Nat) : addP a b < 2305843009213693951 := lt_PR _
theorem mulP_lt (a b : Nat) : mulP a b < 2305843009213693951 := lt_PR _
/-- a spec of numbers without a sign -/
def spec1 (f : Nat → Nat) (args : List AV) : Option AV := match args with
  | [.one (.int .u64 (.ofNat a))] => if a < 18446744073709551616 then some (Iu (f a : Nat)) else none
  | _ => none
def spec2 (f : Nat → Nat → Nat) (args : List AV) : Option AV := match args with
  | [.one (.int .u64 (.ofNat a)), .one (.int .u64 (.ofNat b))] => if a < 18446744073709551616 ∧ b < 18446744073709551616 then some (Iu (f a b : Nat)) else none
  | _ => none
def specM (args : List AV) : Option AV := match args with
  | [.one (.int .u64 (.ofNat a)), .one (.int .u64 (.ofNat b))] => if a < 18446744073709551616 ∧ b < 18446744073709551616 then some (.tup [Iu ((a * b / 18446744073709551616 : Nat) : Int), Iu ((a * b % 18446744073709551616 : Nat) : Int)]) else none
  | _ => none
def specR (args : List AV) : Option AV := match args with
  | [.one (.int .u64 (.ofNat a)), .one (.int .i64 b)] => if a < 18446744073709551616 ∧ b < 9223372036854775808 then some (Iu (rowP a b.toNat : Nat)) else none
  | _ => none
theorem of_run {n a : Nat} {σ : St} {tab : Tab} (ht : tab 146 = none) (h : a < 18446744073709551616) : callK (C M) tab (n + 1) 146 [Iu (a : Nat)] σ = some (Iu ((a % PR : Nat) : Int), σ) := by
  refine callK_body ht Tryz.func146 (by kernel_rfl) ?_
  rw [F146_eq]
  refine Yl.eq ?_
  unfold K146_0 K146_1
  refine y_val (ou_and (b := 2305843009213693951) h (by decide)) ?_
  rw [and_PR]
  refine y_val (ou_shr (k := .u64) (c := 61) (by decide)) ?_
  rw [show (2 ^ 61 : Nat) = 2305843009213693952 from rfl]
  refine y_val (ou_add) ?_
  rw [Nat.mod_eq_of_lt (show a % 2305843009213693952 + a / 2305843009213693952 < 18446744073709551616 by omega)]
  unfold K146_2
  refine y_val (ou_geq (b := 2305843009213693951)) ?_
  have key := of_PR h
  by_cases hc : 2305843009213693951 ≤ a % 2305843009213693952 + a / 2305843009213693952
  · rw [if_pos hc] at key
    refine y_ift (decide_eq_true hc) ?_
    refine y_val (ou_sub (b := 2305843009213693951) hc (by omega)) ?_
    rw [key]
    unfold K146_3
    exact y_ret0 ⟨rfl, rfl⟩
  · rw [if_neg hc] at key
    refine y_iff (decide_eq_false hc) ?_
    rw [key]
    unfold K146_3
    exact y_ret0 ⟨rfl, rfl⟩
theorem add_run {n a b : Nat} {σ : St} {tab : Tab} (ht : tab 146 = none) (ht2 : tab 99 = none) (ha : a < 18446744073709551616) (hb : b < 18446744073709551616) : callK (C M) tab (n + 2) 99 [Iu (a : Nat), Iu (b : Nat)] σ = some (Iu (addP a b : Nat), σ) := by
  refine callK_body ht2 Tryz.func99 (by kernel_rfl) ?_
  rw [F99_eq]
  refine Yl.eq ?_
  unfold K99_0
  have h1 := lt_PR a
  have h2 := lt_PR b
  refine y_cal rfl (of_run ht ha) ?_
  refine y_cal rfl (of_run ht hb) ?_
  refine y_val (ou_add) ?_
  rw [Nat.mod_eq_of_lt (show a % PR + b % PR < 18446744073709551616 by omega)]
  refine y_cal rfl (of_run ht (by omega)) ?_
  exact y_ret0 ⟨rfl, rfl⟩
/-- a product in two words -/
theorem split_mul {a b : Nat} (ha : a < 18446744073709551616) (hb : b < 18446744073709551616) : ∃ p00 p01 p10 p11 : Nat, p00 = a % 4294967296 * (b % 4294967296) ∧ p01 = a % 4294967296 * (b / 4294967296) ∧ p10 = a / 4294967296 * (b % 4294967296) ∧ p11 = a / 4294967296 * (b / 4294967296) ∧
    p00 ≤ 18446744065119617025 ∧ p01 ≤ 18446744065119617025 ∧ p10 ≤ 18446744065119617025 ∧ p11 ≤ 18446744065119617025 ∧ a * b = p11 * 18446744073709551616 + (p10 + p01) * 4294967296 + p00 := by
  have hx0 : a % 4294967296 ≤ 4294967295 := by omega
  have hx1 : a / 4294967296 ≤ 4294967295 := by omega
  have hy0 : b % 4294967296 ≤ 4294967295 := by omega
  have hy1 : b / 4294967296 ≤ 4294967295 := by omega
  refine ⟨_, _, _, _, rfl, rfl, rfl, rfl, Nat.mul_le_mul hx0 hy0, Nat.mul_le_mul hx0 hy1, Nat.mul_le_mul hx1 hy0, Nat.mul_le_mul hx1 hy1, ?_⟩
  have ea : a = a / 4294967296 * 4294967296 + a % 4294967296 := by omega
  have eb : b = b / 4294967296 * 4294967296 + b % 4294967296 := by omega
  generalize a / 4294967296 = x1 at *
  generalize a % 4294967296 = x0 at *
  generalize b / 4294967296 = y1 at *
  generalize b % 4294967296 = y0 at *
  subst ea eb
  rw [Nat.add_mul, Nat.mul_add, Nat.mul_add]
  have e1 : x1 * 4294967296 * (y1 * 4294967296) = x1 * y1 * 18446744073709551616 := by
    rw [Nat.mul_assoc, Nat.mul_left_comm 4294967296 y1, ← Nat.mul_assoc]
  have e2 : x1 * 4294967296 * y0 = x1 * y0 * 4294967296 := by rw [Nat.mul_right_comm]
  have e3 : x0 * (y1 * 4294967296) = x0 * y1 * 4294967296 := by rw [Nat.mul_assoc]
  rw [e1, e2, e3]
  omega
theorem mul64_run {n a b : Nat} {σ : St} {tab : Tab} (ht : tab 147 = none) (ha : a < 18446744073709551616) (hb : b < 18446744073709551616) :
    callK (C M) tab (n + 1) 147 [Iu (a : Nat), Iu (b : Nat)] σ = some (.tup [Iu ((a * b / 18446744073709551616 : Nat) : Int), Iu ((a * b % 18446744073709551616 : Nat) : Int)], σ) := by
  refine callK_body ht Tryz.func147 (by kernel_rfl) ?_
  rw [F147_eq]
  refine Yl.eq ?_
  unfold K147_0 K147_1 K147_2 K147_3 K147_4 K147_5 K147_6 K147_7 K147_8
  obtain ⟨p00, p01, p10, p11, d1, d2, d3, d4, b1, b2, b3, b4, he⟩ := split_mul ha hb
  have and32 : ∀ x : Nat, x &&& 4294967295 = x % 4294967296 := fun x => by
    have : (4294967295 : Nat) = 2 ^ 32 - 1 := by decide
    rw [this, Nat.and_two_pow_sub_one_eq_mod]
  have s32 : (2 ^ 32 : Nat) = 4294967296 := by decide
  have lt : ∀ x : Nat, x < 18446744073709551616 → x % 18446744073709551616 = x := fun x h => Nat.mod_eq_of_lt h
  refine y_val (ou_and (b := 4294967295) ha (by decide)) ?_
  rw [and32]
  refine y_val (ou_shr (k := .u64) (c := 32) (by decide)) ?_
  rw [s32]
  refine y_val (ou_and (b := 4294967295) hb (by decide)) ?_
  rw [and32]
  refine y_val (ou_shr (k := .u64) (c := 32) (by decide)) ?_
  rw [s32]
  refine y_val (ou_mul) ?_
  rw [← d1, lt p00 (by omega)]
  refine y_val (ou_mul) ?_
  rw [← d3, lt p10 (by omega)]
  refine y_val (ou_shr (k := .u64) (c := 32) (by decide)) ?_
  rw [s32]
  refine y_val (ou_add) ?_
  rw [lt (p10 + p00 / 4294967296) (by omega)]
  refine y_val (ou_and (b := 4294967295) (by omega) (by decide)) ?_
  rw [and32]
  refine y_val (ou_shr (k := .u64) (c := 32) (by decide)) ?_
  rw [s32]
  refine y_val (ou_mul) ?_
  rw [← d2, lt p01 (by omega)]
  refine y_val (ou_add) ?_
  rw [lt ((p10 + p00 / 4294967296) % 4294967296 + p01) (by omega)]
  refine y_val (ou_mul) ?_
  rw [← d4, lt p11 (by omega)]
  refine y_val (ou_add) ?_
  rw [lt (p11 + (p10 + p00 / 4294967296) / 4294967296) (by omega)]
  refine y_val (ou_shr (k := .u64) (c := 32) (by decide)) ?_
  rw [s32]
  refine y_val (ou_add) ?_
  have e2 : (p11 + (p10 + p00 / 4294967296) / 4294967296 + ((p10 + p00 / 4294967296) % 4294967296 + p01) / 4294967296) = a * b / 18446744073709551616 := by rw [he]; omega
  rw [e2, lt (a * b / 18446744073709551616) (by rw [he]; omega)]
  refine y_val (ou_mul) ?_
  exact y_ret2 ⟨rfl, rfl⟩
theorem mul_run {n a b : Nat} {σ : St} {tab : Tab} (ht : tab 146 = none) (ht2 : tab 147 = none) (ht3 : tab 100 = none) (ha : a < 18446744073709551616) (hb : b < 18446744073709551616) : callK (C M) tab (n + 2) 100 [Iu (a : Nat), Iu (b : Nat)] σ = some (Iu (mulP a b : Nat), σ) := by
  refine callK_body ht3 Tryz.func100 (by kernel_rfl) ?_
  rw [F100_eq]
  refine Yl.eq ?_
  unfold K100_0
  have h1 := lt_PR a
  have h2 := lt_PR b
  have hm : a % PR * (b % PR) ≤ 2305843009213693950 * 2305843009213693950 := Nat.mul_le_mul (by omega) (by omega)
  refine y_cal rfl (of_run ht ha) ?_
  refine y_cal rfl (of_run ht hb) ?_
  refine y_cal rfl (mul64_run ht2 (by omega) (by omega)) ?_
  refine y_val (rfl) ?_
  refine y_val (rfl) ?_
  generalize hp : a % PR * (b % PR) = p at hm
  have l1 : p % 18446744073709551616 < 18446744073709551616 := by omega
  refine y_val (ou_and (b := 2305843009213693951) l1 (by decide)) ?_
  rw [and_PR]
  refine y_val (ou_shr (k := .u64) (c := 61) (by decide)) ?_
  refine y_val (ou_shl (k := .u64) (c := 3) (by decide)) ?_
  rw [show (2 ^ 61 : Nat) = 2305843009213693952 from rfl, show (2 ^ 3 : Nat) = 8 from rfl]
  have l2 : p / 18446744073709551616 * 8 < 18446744073709551616 := by omega
  rw [Nat.mod_eq_of_lt l2]
  refine y_val (ou_or (by omega) l2) ?_
  have e1 : (p % 18446744073709551616 / 2305843009213693952) ||| (p / 18446744073709551616 * 8) = p / 2305843009213693952 := by
    have hlt : p % 18446744073709551616 / 2305843009213693952 < 2 ^ 3 := by omega
    rw [Nat.or_comm, Nat.mul_comm, show (8 : Nat) = 2 ^ 3 from rfl, ← Nat.two_pow_add_eq_or_of_lt hlt]
    show 8 * _ + _ = _
    omega
  rw [e1]
  refine y_val (ou_add) ?_
  have e2 : p % 18446744073709551616 % 2305843009213693952 = p % 2305843009213693952 := by omega
  rw [e2, Nat.mod_eq_of_lt (show p % 2305843009213693952 + p / 2305843009213693952 < 18446744073709551616 by omega)]
  refine y_cal rfl (of_run ht (by omega)) ?_
  refine y_ret0 ⟨?_, rfl⟩
  rw [fold_PR]
  unfold mulP
  rw [hp]
theorem o_cv64 {s d : TypeId} {su : TypeDesc} {k : IntKind} {a : Nat} {σ : St} (hs : und (C M) s = some su) (hd : und (C M) d = some (.int .u64)) (h : a < 18446744073709551616) : cvO (C M) s d (.one (.int k (a : Int))) σ = .val (Iu (a : Nat)) := by
  show convA (C M) s d (.one (.int k (a : Int))) σ = _
  unfold convA
  simp only [hs, hd]
  show intV .u64 (wrapA .u64 (a : Int)) = _
  rw [intV_eq, u_wrap, Nat.mod_eq_of_lt h]; rfl
theorem row_run {n a : Nat} {b : Int} {σ : St} {tab : Tab} (t1 : tab 146 = none) (t2 : tab 147 = none) (t3 : tab 100 = none) (t4 : tab 99 = none) (t5 : tab 60 = none) (ha : a < 18446744073709551616) (hb : b < 9223372036854775808) :
    callK (C M) tab (n + 3) 60 [Iu (a : Nat), I b] σ = some (Iu (rowP a b.toNat : Nat), σ) := by
  refine callK_body t5 Tryz.func60 (by kernel_rfl) ?_
  rw [F60_eq]
  refine Yl.eq ?_
  unfold K60_0
  have e : max b 0 = ((b.toNat : Nat) : Int) := by omega
  have l1 := addP_lt a 3
  have l2 := addP_lt b.toNat 2
  have l3 := mulP_lt (addP a 3) (addP b.toNat 2)
  have l4 := addP_lt (mulP (addP a 3) (addP b.toNat 2)) 5
  refine y_cal rfl (add_run (b := 3) t1 t4 ha (by decide)) ?_
  refine y_val (o_max) ?_
  rw [e]
  refine y_val (o_cv64 un3 un27 (by omega)) ?_
  refine y_cal rfl (add_run (b := 2) t1 t4 (by omega) (by decide)) ?_
  refine y_cal rfl (mul_run t1 t2 t3 (by omega) (by omega)) ?_
  refine y_cal rfl (add_run (b := 5) t1 t4 (by omega) (by decide)) ?_
  refine y_cal rfl (mul_run t1 t2 t3 (by omega) (by omega)) ?_
  exact y_ret0 ⟨rfl, rfl⟩
end Core
end Go.Proofs.YtnoieleoklpciaaGreatDoor
