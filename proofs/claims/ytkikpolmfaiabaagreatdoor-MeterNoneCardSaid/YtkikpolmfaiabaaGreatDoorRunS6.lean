import Derived.Test.YtkikpolmfaiabaaGreatDoorRunS5
import Derived.Laws.StructEq
namespace Go.Run
variable {cx : Cx} {π : Pl} {σ : St} {w : World}

theorem u8_lt {a b : UInt8} : a < b ↔ a.toNat < b.toNat := UInt8.lt_iff_toNat_lt
theorem u8_eq {a b : UInt8} : a = b ↔ a.toNat = b.toNat := UInt8.toNat_inj.symm

theorem less_total : ∀ (x y : List UInt8), (!(Op.bytesLess y x)) = (Op.bytesLess x y || x == y)
  | [], [] => rfl
  | [], _ :: _ => rfl
  | _ :: _, [] => rfl
  | a :: x, b :: y => by
    have ih := less_total x y
    simp only [Op.bytesLess]
    have hc : (a :: x == b :: y) = (a == b && x == y) := rfl
    rw [hc]
    rcases Nat.lt_trichotomy a.toNat b.toNat with h | h | h
    · have h1 : decide (a < b) = true := by simp [u8_lt]; exact h
      have h2 : decide (b < a) = false := by simp [u8_lt]; omega
      have h3 : (b == a) = false := by rw [beq_eq_false_iff_ne]; intro e; subst e; omega
      rw [h1, h2, h3]; rfl
    · have h0 : a = b := u8_eq.2 h
      subst h0
      have h1 : decide (a < a) = false := by simp [u8_lt]
      rw [h1]
      simpa using ih
    · have h1 : decide (a < b) = false := by simp [u8_lt]; omega
      have h2 : decide (b < a) = true := by simp [u8_lt]; exact h
      have h3 : (a == b) = false := by rw [beq_eq_false_iff_ne]; intro e; subst e; omega
      rw [h1, h2, h3]; rfl

theorem lt_ok {op : BinOp} {neg swap : Bool} (hi : ∀ (k : IntKind) (a b : Int) t xo yo, (guardOf op t xo yo (.int k a) (.int k b)).run cx.P w = .ok (.bool (xor neg (bif swap then decide (b < a) else decide (a < b)))) w)
    (hs : ∀ (a b : ByteArray) t xo yo, (guardOf op t xo yo (.string a) (.string b)).run cx.P w = .ok (.bool (xor neg (bif swap then Op.bytesLess b.toList a.toList else Op.bytesLess a.toList b.toList))) w)
    {t : TypeId} {xo yo : Operand} {x y : AV} {X Y : Value} (hx : RA π x X) (hy : RA π y Y) : Yields cx.P π σ w (guardOf op t xo yo X Y) (ltF neg swap cx t x y) := by
  unfold ltF
  split
  · rename_i k a k' b
    cases hk : kindEq k k'
    · trivial
    · have := kindEq_ok hk; subst this
      rw [int_of hx, int_of hy]
      exact yields_bool (hi k a b t xo yo) (by rw [intLt_ok, intLt_ok])
  · rename_i a b
    rw [str_of hx, str_of hy]
    exact yields_bool (hs a b t xo yo) (by rw [bytesLt_ok, bytesLt_ok, bytesOf_ok, bytesOf_ok])
  · trivial
section
variable {t : TypeId} {xo yo : Operand} {x y : AV} {X Y : Value}
theorem lss_ok (hx : RA π x X) (hy : RA π y Y) : Yields cx.P π σ w (guardOf .lss t xo yo X Y) (ltF false false cx t x y) :=
  lt_ok (fun k a b t xo yo => by simp [guardOf, eqGuard, Go.binOp, Op.intCmp]) (fun a b t xo yo => by simp [guardOf, eqGuard, Go.binOp, Op.stringOp]) hx hy
theorem leq_ok (hx : RA π x X) (hy : RA π y Y) : Yields cx.P π σ w (guardOf .leq t xo yo X Y) (ltF true true cx t x y) :=
  lt_ok (fun k a b t xo yo => by
      simp [guardOf, eqGuard, Go.binOp, Op.intCmp]
      by_cases h : a ≤ b
      · simp [h]
      · simp [h]; omega) (fun a b t xo yo => by simp only [guardOf, eqGuard, Go.binOp, Op.stringOp]; simp; rw [less_total]) hx hy
theorem gtr_ok (hx : RA π x X) (hy : RA π y Y) : Yields cx.P π σ w (guardOf .gtr t xo yo X Y) (ltF false true cx t x y) :=
  lt_ok (fun k a b t xo yo => by simp [guardOf, eqGuard, Go.binOp, Op.intCmp]) (fun a b t xo yo => by
      simp only [guardOf, eqGuard, Go.binOp, Op.stringOp]
      have := less_total a.toList b.toList
      simp [← this]) hx hy
theorem geq_ok (hx : RA π x X) (hy : RA π y Y) : Yields cx.P π σ w (guardOf .geq t xo yo X Y) (ltF true false cx t x y) :=
  lt_ok (fun k a b t xo yo => by
      simp [guardOf, eqGuard, Go.binOp, Op.intCmp]
      by_cases h : b ≤ a
      · simp [h]
      · simp [h]; omega) (fun a b t xo yo => by simp [guardOf, eqGuard, Go.binOp, Op.stringOp]) hx hy
end

theorem ofNat_land (k : IntKind) (a b : Nat) : Nat.land a (Nat.sub (Nat.sub (Nat.pow 2 k.bits) 1) b) = a &&& (2 ^ k.bits - 1 - b) := rfl
theorem andNot_ok {t : TypeId} {xo yo : Operand} {x y : AV} {X Y : Value} (hx : RA π x X) (hy : RA π y Y) : Yields cx.P π σ w (guardOf .andNot t xo yo X Y) (andNotF cx t x y) := by
  unfold andNotF
  split
  · rename_i k a k' b
    cases hk : kindEq k k'
    · trivial
    · have := kindEq_ok hk; subst this
      rw [int_of hx, int_of hy]
      refine yields_int (m := k.wrap (((BitVec.ofInt k.bits a) &&& ~~~(BitVec.ofInt k.bits b)).toNat)) (by simp [guardOf, eqGuard, Go.binOp, Op.intBits]) ?_
      rw [wrapA_ok, bits_ok, bits_ok, ofNat_land]
      rw [BitVec.toNat_and, BitVec.toNat_not]; rfl
  · trivial
theorem un_ok {op : UnOp} {x : AV} {X : Value} (hx : RA π x X) : Yields cx.P π σ w (Op.unary op X) (unA op x) := by
  unfold unA
  split
  · rename_i k n
    rw [int_of hx]
    exact yields_int (m := k.wrap (0 - n)) (by simp [Op.unary, Op.intArith]) (wrapA_ok _ _)
  · rename_i k n
    rw [int_of hx]
    have hb : ∀ v : Int, (bif k.signed then (-1 : Int) else k.max) = if k.signed then -1 else k.max := fun _ => by cases k.signed <;> rfl
    refine yields_int (m := k.wrap (((BitVec.ofInt k.bits (if k.signed then -1 else k.max)) ^^^ (BitVec.ofInt k.bits n)).toNat)) (by simp [Op.unary, Op.intBits]) ?_
    rw [wrapA_ok, bits_ok, bits_ok, hb 0]
    rw [BitVec.toNat_xor]; rfl
  · rename_i b
    rw [bool_of hx]
    exact yields_bool (by simp [Op.unary]) rfl
  · trivial

theorem addr_beq (b o p : Nat) : ((⟨b, o, none⟩ : Addr) == ⟨b, p, none⟩) = decide (o = p) := by
  by_cases h : o = p
  · subst h; simp
  · simp [h]

theorem eq_both (d : Nat) : (∀ (t : TypeId) (x y : AV) (r : Bool) (X Y : Value), eqA cx d t x y = some r → RA π x X → RA π y Y → ∀ D, d ≤ D → (Op.equalIn D t X Y).run cx.P w = .ok r w) ∧
    (∀ (fs : List Field) (xs ys : List CV) (r : Bool) (X Y : Array Value), eqFields cx d fs xs ys = some r → RL π xs X.toList → RL π ys Y.toList → ∀ D, d ≤ D → (Op.eqFields D X Y fs).run cx.P w = .ok r w) := by
  induction d with
  | zero => exact ⟨fun t x y r X Y h => by simp [eqA] at h, fun fs xs ys r X Y h => by simp [eqFields] at h⟩
  | succ d ih =>
    obtain ⟨ih1, ih2⟩ := ih
    refine ⟨fun t x y r X Y h hx hy D hD => ?_, fun fs xs ys r X Y h hx hy D hD => ?_⟩
    · obtain ⟨D, rfl⟩ : ∃ D', D = D' + 1 := ⟨D - 1, by omega⟩
      unfold eqA at h
      split at h
      · rename_i hu; cases h; rw [bool_of hx, bool_of hy]; simp [Op.equalIn, und_run hu]
      · rename_i hu
        rename_i k a k' b
        cases hk : kindEq k k'
        · rw [hk] at h; cases h
        · have := kindEq_ok hk; subst this
          rw [hk] at h; cases h
          rw [int_of hx, int_of hy, intEq_ok]; simp [Op.equalIn, und_run hu]
      · rename_i hu; cases h; rw [str_of hx, str_of hy, ← bytesArr_eq]; simp [Op.equalIn, und_run hu]
      · rename_i b hu; cases h
        have e1 : X = .pointer none := by simpa [RA, RC] using hx
        subst e1
        cases b with
        | none => have e2 : Y = .pointer none := by simpa [RA, RC] using hy
                  subst e2; simp [Op.equalIn, und_run hu]
        | some p => simp only [RA] at hy; obtain ⟨_, _, _, _, rfl⟩ := hy; simp [Op.equalIn, und_run hu]
      · rename_i p hu; cases h
        have e2 : Y = .pointer none := by simpa [RA, RC] using hy
        subst e2
        simp only [RA] at hx; obtain ⟨_, _, _, _, rfl⟩ := hx; simp [Op.equalIn, und_run hu]
      · rename_i e p q hu
        split at h
        · rename_i n hn
          rw [beq_eq] at h
          by_cases hpq : p.1 = q.1
          · rw [decide_eq_true hpq] at h; cases h
            simp only [RA] at hx hy
            obtain ⟨b1, base1, s1, e1, rfl⟩ := hx
            obtain ⟨b2, base2, s2, e2, rfl⟩ := hy
            rw [hpq, e2] at e1; cases e1
            simp only [Op.equalIn, Sem.run_bind, und_run hu, Result.andThen_ok, size_run hn]
            rw [beq_eq]
            simp [sameAddr]
            rw [addr_beq]
            by_cases hh : p.2 = q.2
            · simp [hh]
            · simp [hh]
          · rw [decide_eq_false hpq] at h; cases h
        · cases h
      · rename_i b _ _ hu; cases h
        have e1 : X = .slice none 0 0 := by simp only [RA] at hx; exact hx.2
        subst e1
        cases b with
        | none => have e2 : Y = .slice none 0 0 := by simp only [RA] at hy; exact hy.2
                  subst e2; simp [Op.equalIn, und_run hu]
        | some p => simp only [RA] at hy; obtain ⟨_, _, _, _, _, _, rfl, _⟩ := hy; simp [Op.equalIn, und_run hu]
      · rename_i hu; cases h
        have e2 : Y = .slice none 0 0 := by simp only [RA] at hy; exact hy.2
        subst e2
        simp only [RA] at hx; obtain ⟨_, _, _, _, _, _, rfl, _⟩ := hx; simp [Op.equalIn, und_run hu]
      · rename_i b hu; cases h
        have e1 : X = .map none := by simpa [RA, RC] using hx
        subst e1
        cases b with
        | none => have e2 : Y = .map none := by simpa [RA, RC] using hy
                  subst e2; simp [Op.equalIn, und_run hu]
        | some p => simp only [RA] at hy; obtain ⟨_, _, rfl⟩ := hy; simp [Op.equalIn, und_run hu]
      · rename_i hu; cases h
        have e2 : Y = .map none := by simpa [RA, RC] using hy
        subst e2
        simp only [RA] at hx; obtain ⟨_, _, rfl⟩ := hx; simp [Op.equalIn, und_run hu]
      · rename_i hu; cases h
        have e1 : X = .nilFunc := by simpa [RA, RC] using hx
        have e2 : Y = .nilFunc := by simpa [RA, RC] using hy
        subst e1 e2; simp [Op.equalIn, und_run hu]
      · rename_i hu; cases h
        have e1 : X = .nilFunc := by simpa [RA, RC] using hx
        subst e1
        simp only [RA] at hy; obtain ⟨_, rfl, _⟩ := hy; simp [Op.equalIn, und_run hu]
      · rename_i hu; cases h
        have e2 : Y = .nilFunc := by simpa [RA, RC] using hy
        subst e2
        simp only [RA] at hx; obtain ⟨_, rfl, _⟩ := hx; simp [Op.equalIn, und_run hu]
      · rename_i fields xs ys hu
        cases hst : cx.P.stoodInHeld t
        · rw [hst] at h
          simp only [RA] at hx hy
          obtain ⟨A, rfl, hA⟩ := hx
          obtain ⟨B, rfl, hB⟩ := hy
          have hf : cx.P.fieldsOf t = fields := by unfold Program.fieldsOf; have : cx.P.underlying t = some (.struct fields) := hu; rw [this]
          rw [run_equalIn_struct w D t A B (by rw [hf]; exact hu) hst, hf]
          exact ih2 _ _ _ _ _ _ h hA hB D (by omega)
        · rw [hst] at h; cases h
      · cases h
    · cases fs with
      | nil => simp [eqFields] at h; subst h; rfl
      | cons f fs =>
        simp only [eqFields] at h
        simp only [Op.eqFields]
        cases hn : f.name == "_"
        · rw [hn] at h
          simp only [cond_false] at h
          rw [if_pos (by simpa using hn)]
          split at h
          · rename_i u v hu hv
            obtain ⟨U, hU, rU⟩ := part_ok hu hx w
            obtain ⟨V, hV, rV⟩ := part_ok hv hy w
            simp only [Sem.run_bind, hU, hV, Result.andThen_ok]
            split at h
            · rename_i he
              rw [ih1 _ _ _ _ _ _ he rU rV D (by omega)]
              simp only [Result.andThen_ok, Bool.not_true, Bool.false_eq_true, if_false]
              exact ih2 _ _ _ _ _ _ h hx hy D (by omega)
            · rename_i he
              cases r with
              | true => exact absurd h he
              | false =>
                rw [ih1 _ _ _ _ _ _ h rU rV D (by omega)]
                simp
          · cases h
        · rw [hn] at h
          simp only [cond_true] at h
          rw [if_neg (by simpa using hn)]
          exact ih2 _ _ _ _ _ _ h hx hy D (by omega)
end Go.Run
