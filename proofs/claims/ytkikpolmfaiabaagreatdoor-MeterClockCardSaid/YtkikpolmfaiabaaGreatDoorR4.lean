/- An abstract interpreter of the model's code and the proof that it is sound: part 4 of 4. -/
import Derived.Test.YtkikpolmfaiabaaGreatDoorR3
namespace Go.Run
variable {cx : Cx} {call : CallF} {σ σ' : St} {Q : AV → St → Prop}

/-! Append. -/
theorem takeN_all {α : Type} : ∀ (l : List α), takeN (lenN l) l = some l
  | [] => rfl
  | a :: r => by show (match takeN (lenN r) r with | some l => some (a :: l) | none => none) = _; rw [takeN_all r]
theorem lenN_len {α : Type} : ∀ (l : List α), lenN l = l.length
  | [] => rfl
  | a :: r => by show Nat.succ (lenN r) = _; rw [lenN_len r]; rfl
theorem takeN_len {α : Type} {l : List α} {n : Nat} (h : l.length = n) : takeN n l = some l := by rw [← h, ← lenN_len]; exact takeN_all l
theorem o_append {t e n len : Nat} {ts : List TypeId} {inf : TypeInfo} {p : Option (Nat × Nat)} {cap : Cap} {x : AV} {new row : List CV} (hu : und cx t = some (.slice e)) (hi : cx.P.info? e = some inf) (hl : lenA x = some n)
    (hc : (noInt cx ts && !(Nat.beq inf.size 0) && Nat.ble (Nat.mul (Nat.add (Nat.mul 2 (Nat.add len n)) 2048) inf.bytes) 140737488355328 && Nat.ble (Nat.add len n) 4611686018427387904) = true)
    (hf : firstA inf.size n x σ = some new) (hr : rowOf cx e inf.size 1 = some row) (hn : Nat.beq n 0 = false) : bltO cx .append (t :: ts) [.one (.slice p len cap), x] σ = appendTo e inf.size p len cap n new σ := by
  show appendA cx (t :: ts) [.one (.slice p len cap), x] σ = _
  unfold appendA
  simp only [hu, hi, hl, hc, cond_true, hf, hr, hn, cond_false]
theorem append_nil {e sz len n : Nat} {cap : Cap} {new : List CV} : appendTo e sz none len cap n new σ = .st (.one (.slice (some (σ.next, 0)) (Nat.add len n) (.to sz))) (σ.push (.cells new e false)) := rfl
/-- behind a block that is full -/
theorem append_full {e sz len n j : Nat} {new l : List CV} (hj : σ.get j = some (.cells l e false)) (hlen : l.length = len * (sz + 1)) (hn : n ≠ 0) :
    appendTo e (sz + 1) (some (j, 0)) len (.to (sz + 1)) n new σ = .st (.one (.slice (some (σ.next, 0)) (len + n) (.to (sz + 1)))) ((σ.kill j).push (.cells (l ++ new) e false)) := by
  unfold appendTo
  have hc : capOf (j, 0) (.to (sz + 1)) (sz + 1) σ = some (len, false) := by
    unfold capOf
    simp only [Nat.beq_refl, cond_true, hj]
    rw [lenN_len, hlen]
    show some (len * (sz + 1) / (sz + 1), false) = _
    rw [Nat.mul_div_cancel _ (Nat.succ_pos sz)]
  simp only [hc]
  have h1 : Nat.ble (Nat.add len n) len = false := by
    cases hb : Nat.ble (Nat.add len n) len with
    | false => rfl
    | true => have := Nat.le_of_ble_eq_true hb; simp only [Nat.add_eq] at this; omega
  have h2 : elemIs σ j e = true := by unfold elemIs; simp only [hj, Nat.beq_refl]
  simp only [h1, cond_false, h2, Bool.or_true, cond_true]
  have h3 : firstA (sz + 1) len (.one (.slice (some (j, 0)) len (.to (sz + 1)))) σ = some l := by
    unfold firstA
    cases h0 : Nat.beq len 0 with
    | true =>
      have := Nat.eq_of_beq_eq_true h0
      subst this
      simp only [Nat.zero_mul, List.length_eq_zero_iff] at hlen
      rw [hlen]
      simp only [cond_true]
    | false =>
      simp only [cond_false, hj, Blk.rd]
      exact takeN_len hlen
  simp only [h3]
  rfl
theorem get_kp (σ : St) (j i : Nat) (b : Blk) : ((σ.kill j).push b).get i = if i = σ.next then some b else if i = j then none else σ.get i := by
  rw [St.get_push, St.get_kill]; rfl
theorem y_cal {v : AV} {k : AV → Kt} {f : FuncId} {args : List AV} (hx : cx.ext f = none) (h : call f args σ = some (v, σ')) (hk : Yl (k v σ') Q) : Yl (bnd (calO cx call (fnV f) args) k σ) Q := y_call (r := none) hx h hk
theorem y_body {tab : Tab} {n f : Nat} {args : List AV} {fn : Func} (ht : tab f = none) (hf : cx.P.funcs[f]? = some fn) (hok : (match fn.body with | some c => Nat.ble (lenN args) fn.ntmps && codeOk fn.ntmps c | none => false) = true)
    (h : Yl (enterK cx (callK cx tab n) fn args σ) Q) : Yl (callK cx tab (n + 1) f args σ) Q := by
  obtain ⟨v, σ', h1, h2⟩ := h
  exact ⟨v, σ', callK_body ht hf hok h1, h2⟩
theorem y_gon {v : AV} {k : AV → Kt} {w : Option Bool} {o : St → Out} (hw : w = some true) (h : o σ = .val v) (hk : Yl (k v σ) Q) : Yl (bnd (gdO w o) k σ) Q := by subst hw; exact y_val h hk
theorem y_goff {k : AV → Kt} {w : Option Bool} {o : St → Out} (hw : w = some false) (hk : Yl (k (.tup []) σ) Q) : Yl (bnd (gdO w o) k σ) Q := by subst hw; exact y_val rfl hk
theorem y_gcal {v : AV} {k : AV → Kt} {w : Option Bool} {f : FuncId} {args : List AV} (hw : w = some true) (hx : cx.ext f = none) (h : call f args σ = some (v, σ')) (hk : Yl (k v σ') Q) : Yl (bnd (gdO w (calO cx call (fnV f) args)) k σ) Q := by subst hw; exact y_cal hx h hk
theorem y_eq {r r' : Rs} (h : r = r') (hy : Yl r' Q) : Yl r Q := h ▸ hy
end Go.Run
