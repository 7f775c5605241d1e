import Derived.Test.YtkikpolmfaiabaaGreatDoorRunS4
import Derived.Laws.Strings
namespace Go.Run

theorem kindEq_ok {j k : IntKind} (h : kindEq j k = true) : j = k := by
  cases j <;> cases k <;> first | rfl | (exact absurd h (by decide))
theorem kindEq_refl (j : IntKind) : kindEq j j = true := by cases j <;> rfl
theorem intEq_ok (a b : Int) : intEq a b = (a == b) := by
  cases a <;> cases b
  · rename_i x y
    show Nat.beq x y = _
    cases h : Nat.beq x y
    · have := Nat.ne_of_beq_eq_false h; symm; simp; omega
    · have := Nat.eq_of_beq_eq_true h; subst this; simp
  · symm; show (Int.ofNat _ == Int.negSucc _) = false; simp
  · symm; show (Int.negSucc _ == Int.ofNat _) = false; simp
  · rename_i x y
    show Nat.beq x y = _
    cases h : Nat.beq x y
    · have := Nat.ne_of_beq_eq_false h; symm; simp; omega
    · have := Nat.eq_of_beq_eq_true h; subst this; simp
theorem blt_eq (a b : Nat) : Nat.blt a b = decide (a < b) := by
  cases h : Nat.blt a b
  · have : ¬ a < b := fun e => by have := Nat.ble_eq_true_of_le (show a + 1 ≤ b from e); unfold Nat.blt at h; rw [this] at h; cases h
    simp [this]
  · have : a < b := Nat.le_of_ble_eq_true h
    simp [this]
theorem ble_eq (a b : Nat) : Nat.ble a b = decide (a ≤ b) := by
  cases h : Nat.ble a b
  · have : ¬ a ≤ b := fun e => by rw [Nat.ble_eq_true_of_le e] at h; cases h
    simp [this]
  · have : a ≤ b := Nat.le_of_ble_eq_true h
    simp [this]
theorem beq_eq (a b : Nat) : Nat.beq a b = decide (a = b) := by
  cases h : Nat.beq a b
  · have := Nat.ne_of_beq_eq_false h; simp [this]
  · have := Nat.eq_of_beq_eq_true h; simp [this]
theorem intLt_ok (a b : Int) : intLt a b = decide (a < b) := by
  cases a <;> cases b <;> simp only [intLt, blt_eq] <;> simp <;> omega
theorem wrapA_ok (k : IntKind) (n : Int) : wrapA k n = k.wrap n := by
  have hs : ∀ (h m : Nat), 0 < m → wrapS h m n = if n % (m : Int) ≥ (h : Int) then n % (m : Int) - (m : Int) else n % (m : Int) := by
    intro h m hm
    have h0 : 0 ≤ n % (m : Int) := Int.emod_nonneg _ (by omega)
    have hw : wrapS h m n = match n % (m : Int) with | .ofNat r => bif Nat.ble h r then Int.subNatNat r m else .ofNat r | x => x := rfl
    rw [hw]
    generalize n % (m : Int) = r at h0
    cases r with
    | ofNat r =>
      simp only [ble_eq]
      by_cases hc : h ≤ r
      · rw [decide_eq_true hc, cond_true, if_pos (by simpa using hc), Int.subNatNat_eq_coe]; rfl
      · rw [decide_eq_false hc, cond_false, if_neg (by simpa using hc)]
    | negSucc r => omega
  cases k <;> simp only [wrapA, IntKind.wrap, IntKind.bits, IntKind.signed]
  · rw [hs 128 256 (by omega)]; simp
  · rw [hs 32768 65536 (by omega)]; simp
  · rw [hs 2147483648 4294967296 (by omega)]; simp
  · rw [hs 9223372036854775808 18446744073709551616 (by omega)]; simp
  all_goals simp [wrapU]; rfl
theorem bits_ok (k : IntKind) (x : Int) : bits k x = (BitVec.ofInt k.bits x).toNat := by
  rw [BitVec.toNat_ofInt]
  have h0 : 0 ≤ x % ((2 ^ k.bits : Nat) : Int) := Int.emod_nonneg _ (by have : 0 < 2 ^ k.bits := Nat.two_pow_pos _; omega)
  have : bits k x = match x % ((2 ^ k.bits : Nat) : Int) with | .ofNat n => n | .negSucc _ => 0 := rfl
  rw [this]
  generalize x % ((2 ^ k.bits : Nat) : Int) = r at h0
  cases r with
  | ofNat r => rfl
  | negSucc r => omega
theorem u8eq_ok (a b : UInt8) : u8eq a b = (a == b) := by
  unfold u8eq
  rw [beq_eq]
  by_cases h : a = b
  · subst h; simp
  · have : ¬ a.toNat = b.toNat := fun e => h (UInt8.toNat_inj.1 e)
    simp [this, h]
theorem bytesEq_ok : ∀ (x y : List UInt8), bytesEq x y = (x == y)
  | [], [] => rfl
  | [], _ :: _ => rfl
  | _ :: _, [] => rfl
  | a :: x, b :: y => by rw [bytesEq, u8eq_ok, bytesEq_ok x y]; rfl
theorem bytesLt_ok : ∀ (x y : List UInt8), bytesLt x y = Op.bytesLess x y
  | [], [] => rfl
  | [], _ :: _ => rfl
  | _ :: _, [] => rfl
  | a :: x, b :: y => by
    rw [bytesLt, Op.bytesLess, u8eq_ok, bytesLt_ok x y, blt_eq]
    congr 1
theorem bytesOf_ok (s : ByteArray) : bytesOf s = s.toList := (ByteArray.toList_eq s).symm
theorem bytesArr_eq (a b : ByteArray) : (a == b) = bytesEq (bytesOf a) (bytesOf b) := by
  rw [bytesEq_ok]
  show (a.data == b.data) = (a.data.toList == b.data.toList)
  by_cases h : a.data = b.data
  · rw [h]; simp
  · have : a.data.toList ≠ b.data.toList := fun e => h (Array.toList_inj.1 e)
    rw [beq_eq_false_iff_ne.2 h, beq_eq_false_iff_ne.2 this]

variable {cx : Cx} {π : Pl} {σ : St} {w : World}

theorem yields_val {P : Program} {s : Sem Value} {v : AV} {x : Value} (h : s.run P w = .ok x w) (r : RA π v x) : Yields P π σ w s (.val v) := ⟨x, h, r⟩
theorem RA_int (k : IntKind) (n : Int) : RA π (.one (.int k n)) (.int k n) := by simp [RA, RC]
theorem RA_bool (b : Bool) : RA π (.one (.bool b)) (.bool b) := by simp [RA, RC]
theorem RA_str (s : ByteArray) : RA π (.one (.str s)) (.string s) := by simp [RA, RC]
theorem int_of {k : IntKind} {n : Int} {x : Value} (h : RA π (.one (.int k n)) x) : x = .int k n := by simpa [RA, RC] using h
theorem str_of {s : ByteArray} {x : Value} (h : RA π (.one (.str s)) x) : x = .string s := by simpa [RA, RC] using h
theorem bool_of {b : Bool} {x : Value} (h : RA π (.one (.bool b)) x) : x = .bool b := by simpa [RA, RC] using h
theorem yields_int {P : Program} {s : Sem Value} {k : IntKind} {n m : Int} (h : s.run P w = .ok (.int k m) w) (e : n = m) : Yields P π σ w s (intV k n) := by
  rw [intV_eq, e]; exact yields_val h (RA_int _ _)
theorem yields_bool {P : Program} {s : Sem Value} {b c : Bool} (h : s.run P w = .ok (.bool c) w) (e : b = c) : Yields P π σ w s (boolV b) := by
  rw [e]; exact yields_val h (RA_bool _)

def guardOf (op : BinOp) (t : TypeId) (xo yo : Operand) (x y : Value) : Sem Value := do eqGuard op t xo yo x y; Go.binOp op t x y

theorem arith_ok {op : BinOp} {f : Int → Int → Int} (h : ∀ (k : IntKind) (a b : Int) t xo yo, (guardOf op t xo yo (.int k a) (.int k b)).run cx.P w = .ok (.int k (k.wrap (f a b))) w)
    {t : TypeId} {xo yo : Operand} {x y : AV} {X Y : Value} (hx : RA π x X) (hy : RA π y Y) : Yields cx.P π σ w (guardOf op t xo yo X Y) (arith f cx t x y) := by
  unfold arith
  split
  · rename_i k a k' b
    cases hk : kindEq k k'
    · trivial
    · have := kindEq_ok hk; subst this
      rw [int_of hx, int_of hy]
      exact yields_int (h k a b t xo yo) (wrapA_ok _ _)
  · trivial

theorem sub_ok {t : TypeId} {xo yo : Operand} {x y : AV} {X Y : Value} (hx : RA π x X) (hy : RA π y Y) : Yields cx.P π σ w (guardOf .sub t xo yo X Y) (arith Int.sub cx t x y) :=
  arith_ok (fun k a b t xo yo => by simp [guardOf, eqGuard, Go.binOp, Op.intArith]; rfl) hx hy
theorem mul_ok {t : TypeId} {xo yo : Operand} {x y : AV} {X Y : Value} (hx : RA π x X) (hy : RA π y Y) : Yields cx.P π σ w (guardOf .mul t xo yo X Y) (arith Int.mul cx t x y) :=
  arith_ok (fun k a b t xo yo => by simp [guardOf, eqGuard, Go.binOp, Op.intArith]) hx hy
theorem add_ok {t : TypeId} {xo yo : Operand} {x y : AV} {X Y : Value} (hx : RA π x X) (hy : RA π y Y) : Yields cx.P π σ w (guardOf .add t xo yo X Y) (addF cx t x y) := by
  unfold addF
  split
  · rename_i k a k' b
    cases hk : kindEq k k'
    · trivial
    · have := kindEq_ok hk; subst this
      rw [int_of hx, int_of hy]
      exact yields_int (m := k.wrap (a + b)) (by simp [guardOf, eqGuard, Go.binOp, Op.intArith]) (wrapA_ok _ _)
  · rename_i a b
    rw [ble_eq]
    by_cases hl : Nat.add (lenN (bytesOf a)) (lenN (bytesOf b)) ≤ 4611686018427387904
    · rw [decide_eq_true hl]
      rw [str_of hx, str_of hy]
      have hs : a.size + b.size ≤ 4611686018427387904 := by
        have : ∀ s : ByteArray, lenN (bytesOf s) = s.size := fun s => by rw [lenN_eq]; rfl
        rw [this, this] at hl; exact hl
      refine yields_val (x := .string (a ++ b)) ?_ ?_
      · have : ¬ (((a.size + b.size : Nat) : Int) > IntKind.i64.max) := by
          have : IntKind.i64.max = 9223372036854775807 := by decide
          rw [this]; omega
        simp [guardOf, eqGuard, Go.binOp, Op.stringOp]
        omega
      · have : a ++ b = ofBytes (bytesOf a ++ bytesOf b) := by
          apply ByteArray.ext
          rw [ByteArray.data_append]
          apply Array.toList_inj.1
          simp [ofBytes, bytesOf]
        rw [this]; exact RA_str _
    · rw [decide_eq_false hl]; trivial
  · trivial
theorem quo_ok {t : TypeId} {xo yo : Operand} {x y : AV} {X Y : Value} (hx : RA π x X) (hy : RA π y Y) : Yields cx.P π σ w (guardOf .quo t xo yo X Y) (quoF cx t x y) := by
  unfold quoF
  split
  · rename_i k a k' b
    cases hk : kindEq k k'
    · trivial
    · have := kindEq_ok hk; subst this
      cases hb : intEq b 0
      · rw [intEq_ok] at hb
        have hb' : b ≠ 0 := by simpa using hb
        rw [int_of hx, int_of hy]
        exact yields_int (m := k.wrap (a.tdiv b)) (by simp [guardOf, eqGuard, Go.binOp, Op.intDiv, hb']) (wrapA_ok _ _)
      · trivial
  · trivial
theorem rem_ok {t : TypeId} {xo yo : Operand} {x y : AV} {X Y : Value} (hx : RA π x X) (hy : RA π y Y) : Yields cx.P π σ w (guardOf .rem t xo yo X Y) (remF cx t x y) := by
  unfold remF
  split
  · rename_i k a k' b
    cases hk : kindEq k k'
    · trivial
    · have := kindEq_ok hk; subst this
      cases hb : intEq b 0
      · rw [intEq_ok] at hb
        have hb' : b ≠ 0 := by simpa using hb
        rw [int_of hx, int_of hy]
        exact yields_int (m := a.tmod b) (by simp [guardOf, eqGuard, Go.binOp, Op.intDiv, hb']) rfl
      · trivial
  · trivial
theorem bits_ok' {op : BinOp} {f : Nat → Nat → Nat} (h : ∀ (k : IntKind) (a b : Int) t xo yo, (guardOf op t xo yo (.int k a) (.int k b)).run cx.P w = .ok (.int k (k.wrap (f (BitVec.ofInt k.bits a).toNat (BitVec.ofInt k.bits b).toNat))) w)
    {t : TypeId} {xo yo : Operand} {x y : AV} {X Y : Value} (hx : RA π x X) (hy : RA π y Y) : Yields cx.P π σ w (guardOf op t xo yo X Y) (bitsF f cx t x y) := by
  unfold bitsF
  split
  · rename_i k a k' b
    cases hk : kindEq k k'
    · trivial
    · have := kindEq_ok hk; subst this
      rw [int_of hx, int_of hy]
      exact yields_int (h k a b t xo yo) (by rw [wrapA_ok, bits_ok, bits_ok]; rfl)
  · trivial
theorem and_ok {t : TypeId} {xo yo : Operand} {x y : AV} {X Y : Value} (hx : RA π x X) (hy : RA π y Y) : Yields cx.P π σ w (guardOf .and t xo yo X Y) (bitsF Nat.land cx t x y) :=
  bits_ok' (fun k a b t xo yo => by simp [guardOf, eqGuard, Go.binOp, Op.intBits]) hx hy
theorem or_ok {t : TypeId} {xo yo : Operand} {x y : AV} {X Y : Value} (hx : RA π x X) (hy : RA π y Y) : Yields cx.P π σ w (guardOf .or t xo yo X Y) (bitsF Nat.lor cx t x y) :=
  bits_ok' (fun k a b t xo yo => by simp [guardOf, eqGuard, Go.binOp, Op.intBits]) hx hy
theorem xor_ok {t : TypeId} {xo yo : Operand} {x y : AV} {X Y : Value} (hx : RA π x X) (hy : RA π y Y) : Yields cx.P π σ w (guardOf .xor t xo yo X Y) (bitsF Nat.xor cx t x y) :=
  bits_ok' (fun k a b t xo yo => by simp [guardOf, eqGuard, Go.binOp, Op.intBits]) hx hy
theorem min_bits (b : Nat) (k : IntKind) : (bif Nat.ble b k.bits then b else k.bits) = min b k.bits := by
  rw [ble_eq]; by_cases h : b ≤ k.bits
  · rw [decide_eq_true h]; simp; omega
  · rw [decide_eq_false h]; simp; omega
theorem shl_ok {t : TypeId} {xo yo : Operand} {x y : AV} {X Y : Value} (hx : RA π x X) (hy : RA π y Y) : Yields cx.P π σ w (guardOf .shl t xo yo X Y) (shlF cx t x y) := by
  unfold shlF
  split
  · rename_i k a k' b
    rw [int_of hx, int_of hy, min_bits]
    refine yields_int (m := k.wrap (a * 2 ^ (min b k.bits))) ?_ ?_
    · have : ¬ ((Int.ofNat b) < 0) := by simp
      simp [guardOf, eqGuard, Go.binOp, Op.shift, this]
      omega
    · rw [wrapA_ok]; congr 1
  · trivial
theorem shr_ok {t : TypeId} {xo yo : Operand} {x y : AV} {X Y : Value} (hx : RA π x X) (hy : RA π y Y) : Yields cx.P π σ w (guardOf .shr t xo yo X Y) (shrF cx t x y) := by
  unfold shrF
  split
  · rename_i k a k' b
    rw [int_of hx, int_of hy, min_bits]
    refine yields_int (m := a.fdiv (2 ^ (min b k.bits))) ?_ ?_
    · have : ¬ ((Int.ofNat b) < 0) := by simp
      simp [guardOf, eqGuard, Go.binOp, Op.shift, this]
      omega
    · show a.fdiv ((2 ^ (min b k.bits) : Nat) : Int) = _
      rw [Int.natCast_pow]; rfl
  · trivial
end Go.Run
