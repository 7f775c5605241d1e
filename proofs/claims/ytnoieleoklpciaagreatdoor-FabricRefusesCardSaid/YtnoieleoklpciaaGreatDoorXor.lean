/- radar.xor, radar.fits, radar.wrong. -/
import Derived.Test.YtnoieleoklpciaaGreatDoorUv
set_option linter.unusedVariables false
set_option linter.unusedSimpArgs false
namespace Go.Proofs.YtnoieleoklpciaaGreatDoor
open Go.Run Go
namespace Core
open Ty
set_option maxRecDepth 1000000
/-- the first j bytes of two strings, met; the others -/
def xl (a b : List UInt8) (j : Nat) : List UInt8 := (List.zipWith (· ^^^ ·) a b).take j ++ a.drop j
noncomputable def xst (a b : List UInt8) (σ : St) : Nat → St
  | 0 => σ.push (.cells (cellsOfBytes a) 5 false)
  | j + 1 => (xst a b σ j).put σ.next (.cells (cellsOfBytes (xl a b (j + 1))) 5 false)
theorem xl_zero (a b : List UInt8) : xl a b 0 = a := by simp [xl]
theorem xl_len {a b : List UInt8} (h : a.length ≤ b.length) (j : Nat) : (xl a b j).length = a.length := by
  unfold xl
  rw [List.length_append, List.length_take, List.length_zipWith, List.length_drop]
  omega
theorem xl_get {a b : List UInt8} (h : a.length ≤ b.length) {j : Nat} {x : UInt8} (hx : a[j]? = some x) : (xl a b j)[j]? = some x := by
  have hj := (List.getElem?_eq_some_iff.mp hx).1
  unfold xl
  rw [List.getElem?_append_right (by rw [List.length_take, List.length_zipWith]; omega), List.length_take, List.length_zipWith, List.getElem?_drop]
  rw [show j + (j - min j (min a.length b.length)) = j by omega]
  exact hx
theorem xl_set {a b : List UInt8} (h : a.length ≤ b.length) {j : Nat} {x y : UInt8} (hx : a[j]? = some x) (hy : b[j]? = some y) : (xl a b j).set j (x ^^^ y) = xl a b (j + 1) := by
  have hj := (List.getElem?_eq_some_iff.mp hx).1
  apply List.ext_getElem?
  intro i
  rw [List.getElem?_set]
  have l0 := xl_len h j
  unfold xl
  have e1 : ∀ m, ((List.zipWith (· ^^^ ·) a b).take m).length = min m a.length := fun m => by rw [List.length_take, List.length_zipWith]; omega
  by_cases hi : j = i
  · subst hi
    rw [if_pos rfl]
    unfold xl at l0
    rw [if_pos (by omega), List.getElem?_append_left (by rw [e1]; omega), List.getElem?_take, if_pos (by omega), List.getElem?_zipWith, hx, hy]
  · rw [if_neg hi]
    by_cases hlt : i < j
    · rw [List.getElem?_append_left (by rw [e1]; omega), List.getElem?_append_left (by rw [e1]; omega), List.getElem?_take, List.getElem?_take, if_pos hlt, if_pos (by omega)]
    · rw [List.getElem?_append_right (by rw [e1]; omega), List.getElem?_append_right (by rw [e1]; omega), e1, e1, List.getElem?_drop, List.getElem?_drop]
      congr 1
      omega
section
variable {n : Nat} {σ : St} {tab : Tab}
theorem o_xor8 {t : TypeId} {x y : UInt8} : binO (C M) .xor t (.one (.int .u8 (x.toNat : Nat))) (.one (.int .u8 (y.toNat : Nat))) σ = .val (.one (.int .u8 ((x ^^^ y).toNat : Nat))) := by
  have e : binO (C M) .xor t (.one (.int .u8 (x.toNat : Nat))) (.one (.int .u8 (y.toNat : Nat))) σ = intV .u8 (wrapA .u8 (.ofNat (Nat.xor (Go.Run.bits .u8 ((x.toNat : Nat) : Int)) (Go.Run.bits .u8 ((y.toNat : Nat) : Int))))) := rfl
  have e1 : ∀ z : UInt8, Go.Run.bits .u8 ((z.toNat : Nat) : Int) = z.toNat := fun z => by
    show z.toNat % (2 ^ 8) = z.toNat
    exact Nat.mod_eq_of_lt z.toNat_lt
  have e2 : Nat.xor x.toNat y.toNat = (x ^^^ y).toNat := (UInt8.toNat_xor x y).symm
  rw [e, e1, e1, e2, intV_eq]
  have := (x ^^^ y).toNat_lt
  have e3 : wrapA .u8 (.ofNat (x ^^^ y).toNat) = (((x ^^^ y).toNat : Nat) : Int) := by
    show wrapA .u8 (((x ^^^ y).toNat : Nat) : Int) = _
    rw [wrap8]; omega
  rw [e3]
theorem cells_nth {l : List UInt8} {j : Nat} {x : UInt8} (h : l[j]? = some x) : nth (cellsOfBytes l) j = some (.int .u8 (x.toNat : Nat)) := by
  unfold cellsOfBytes
  rw [nth_get, List.getElem?_map, h]; rfl
theorem xst_next (a b : List UInt8) (σ : St) : ∀ j, (xst a b σ j).next = σ.next + 1
  | 0 => rfl
  | j + 1 => by show ((xst a b σ j).put _ _).next = _; rw [St.next_put]; exact xst_next a b σ j
theorem xst_get (a b : List UInt8) (σ : St) (j : Nat) : (xst a b σ j).get σ.next = some (.cells (cellsOfBytes (xl a b j)) 5 false) := by
  cases j with
  | zero => show (σ.push _).get _ = _; rw [St.get_push, if_pos rfl, xl_zero]
  | succ j => show ((xst a b σ j).put _ _).get _ = _; rw [St.get_put, if_pos rfl]
theorem xor_run (ht : Fr tab) {a b : List UInt8} (h : a.length ≤ b.length) (hl : b.length ≤ 1000) (h1 : 1 ≤ a.length) : callK (C M) tab (n + 1) 163 [S a, S b] σ = some (S (xl a b a.length), xst a b σ a.length) := by
  refine callK_body (ht _ rfl) Tryz.func163 (by kernel_rfl) ?_
  rw [F163_eq]
  refine Yl.eq ?_
  unfold K163_0 K163_1
  have cv : cvO (C M) 9 133 (S a) σ = .new (.cells (cellsOfBytes a) 5 false) (fun i => .one (.slice (some (i, 0)) a.length (.to 1))) := by
    have e : cvO (C M) 9 133 (S a) σ = .new (.cells (cellsOfBytes a) 5 false) (fun i => .one (.slice (some (i, 0)) (lenN a) (.to 1))) := by kernel_rfl
    rw [e, lenN_eq]
  refine y_new (cv) ?_
  unfold K163_2
  refine y_val (o_len un133) ?_
  unfold K163_4
  refine y_for (L := fun f j s => L163_5 M (callK (C M) tab n) f (S b) (.one (.slice (some (σ.next, 0)) a.length (.to 1))) (I (a.length : Nat)) (I (j : Nat)) s) (n := a.length) (fun j s => s = xst a b σ j) (fun f j s hj hi hk => ?_) (fun f s hi => ?_) 0 M (σ.push (.cells (cellsOfBytes a) 5 false)) (by omega) (by unfold M; omega) rfl
  · subst hi
    rw [L163_5_succ]
    obtain ⟨x, hx⟩ := get_lt (l := a) (j := j) hj
    obtain ⟨y, hy⟩ := get_lt (l := b) (j := j) (by omega)
    unfold L163_5_b
    refine y_val (k_lssT (by omega)) ?_
    unfold K163_6
    refine y_ift (rfl) ?_
    unfold K163_7
    refine y_din ?_
    have hg := xst_get a b σ j
    have hn := cells_nth (xl_get h hx)
    refine y_dval (o_iad un133 sz5 hj) ?_
    refine y_dchk (o_ld hg rfl (partA_one ag5 (by rw [Nat.zero_add, Nat.mul_one]; exact hn))) rfl ?_
    refine y_dval (o_idx hy) ?_
    refine y_dval (o_xor8) ?_
    refine y_dval (o_iad un133 sz5 hj) ?_
    refine y_deff (o_st hg rfl sz5 rfl (by rw [Nat.zero_add, Nat.mul_one]; exact over_one _ _ _ (by rw [cellsOf_len, xl_len h]; exact hj))) ?_
    have e : (cellsOfBytes (xl a b j)).set j (.int .u8 ((x ^^^ y).toNat : Nat)) = cellsOfBytes (xl a b (j + 1)) := by
      rw [← xl_set h hx hy]
      unfold cellsOfBytes
      rw [List.map_set]; rfl
    rw [e]
    unfold K163_8
    refine y_val (o_inc (by omega)) ?_
    exact hk _ rfl
  · subst hi
    rw [L163_5_succ]
    unfold L163_5_b
    refine y_val (k_lssF (by omega)) ?_
    unfold K163_6
    refine y_iff (rfl) ?_
    unfold K163_3
    refine y_val (o_cvS un133 un5 un9 (xst_get a b σ a.length) rfl (by rw [dropN_zero]; exact takeN_len (by rw [cellsOf_len, xl_len h]))) ?_
    exact y_ret0 ⟨rfl, rfl⟩
theorem fits_run (ht : Fr tab) {x : Int} (h0 : 0 ≤ x) (h1 : x ≤ 1099511627776) : callK (C M) tab (n + 1) 158 [I x] σ = some (B true, σ) := by
  refine callK_body (ht _ rfl) Tryz.func158 (by kernel_rfl) ?_
  rw [F158_eq]
  refine Yl.eq ?_
  unfold K158_0
  refine y_val (k_geqT h0) ?_
  refine y_gon rfl (rfl) ?_
  refine y_gon rfl (k_leqT h1) ?_
  refine y_val (rfl) ?_
  exact y_ret0 ⟨rfl, rfl⟩
theorem wrong_run (ht : Fr tab) {key : List UInt8} {f p b : Int} (hk : key.length = 37) (hf : -1099511627776 ≤ f) (hf2 : f ≤ 1099511627776) (hp : 0 ≤ p) (hp2 : p ≤ 1099511627776) (hb : 0 ≤ b) (hb2 : b ≤ 1099511627776) :
    callK (C M) tab (n + 2) 164 [.agg [sC key, iC f, iC p, iC b]] σ = some (B false, σ.push (.cells [sC key, iC f, iC p, iC b] 177 true)) := by
  refine callK_body (ht _ rfl) Tryz.func164 (by kernel_rfl) ?_
  rw [F164_eq]
  refine Yl.eq ?_
  unfold K164_0
  refine y_new box_of ?_
  have g : (σ.push (.cells [sC key, iC f, iC p, iC b] 177 true)).get σ.next = some (.cells [sC key, iC f, iC p, iC b] 177 true) := by rw [St.get_push, if_pos rfl]
  refine y_val (fa177_0) ?_
  refine y_val (o_ld g rfl (partA_one ag9 rfl)) ?_
  refine y_val (o_slen un9) ?_
  refine y_val (k_neqF (by omega)) ?_
  refine y_gon rfl fa177_1 ?_
  refine y_gon rfl (o_ld g rfl (partA_one ag3 rfl)) ?_
  refine y_gon rfl (k_lssF hf) ?_
  refine y_val (rfl) ?_
  refine y_gon rfl fa177_1 ?_
  refine y_gon rfl (o_ld g rfl (partA_one ag3 rfl)) ?_
  refine y_gon rfl (k_gtrF hf2) ?_
  refine y_val (rfl) ?_
  refine y_gon rfl fa177_2 ?_
  refine y_gon rfl (o_ld g rfl (partA_one ag3 rfl)) ?_
  refine y_gcal rfl rfl (fits_run ht hp hp2) ?_
  refine y_gon rfl (rfl) ?_
  refine y_val (rfl) ?_
  refine y_gon rfl fa177_3 ?_
  refine y_gon rfl (o_ld g rfl (partA_one ag3 rfl)) ?_
  refine y_gcal rfl rfl (fits_run ht hb hb2) ?_
  refine y_gon rfl (rfl) ?_
  refine y_val (rfl) ?_
  exact y_ret0 ⟨rfl, rfl⟩
end
end Core
end Go.Proofs.YtnoieleoklpciaaGreatDoor
