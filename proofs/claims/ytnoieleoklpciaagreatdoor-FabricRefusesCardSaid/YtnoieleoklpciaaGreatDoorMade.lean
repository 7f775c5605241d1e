/- Calls that are run by the kernel from blocks alone: elastic.Add, spread.Add, what is right. -/
import Derived.Test.YtnoieleoklpciaaGreatDoorLev
set_option linter.unusedVariables false
set_option linter.unusedSimpArgs false
namespace Go.Proofs.YtnoieleoklpciaaGreatDoor
open Go.Run Go
namespace Core
open Ty
set_option maxRecDepth 1000000
/-! what a value speaks of -/
def refC : CV → List Nat
  | .ptr (some p) => [p.1]
  | .slice (some p) _ _ => [p.1]
  | .map (some i) => [i]
  | _ => []
def refL : List CV → List Nat
  | [] => []
  | c :: r => refC c ++ refL r
def refV : AV → List Nat
  | .one c => refC c
  | .agg l => refL l
  | _ => []
def refT : List AV → List Nat
  | [] => []
  | v :: r => refV v ++ refT r
def refR : AV → List Nat
  | .tup l => refT l
  | v => refV v
noncomputable def reach (k : Nat) (τ : St) : Nat → List Nat → List Nat → List Nat
  | 0, _, acc => acc
  | _ + 1, [], acc => acc
  | f + 1, i :: r, acc => bif Nat.blt i k || memN acc i then reach k τ f r acc else match τ.get i with
    | some (.cells l _ _) => reach k τ f (refL l ++ r) (acc ++ [i])
    | _ => reach k τ f r acc
/-- a run that came to an answer of a shape -/
noncomputable def okM (k : Nat) (sh : AV → Bool) (r : Option (AV × St)) : Bool := match r with
  | some (v, τ) => chkM k (reach k τ 100 (refR v) []) v τ && sh v
  | none => false
def shA (n : Nat) (v : AV) : Bool := match v with
  | .tup [.agg l, .one (.int .i64 e)] => Nat.beq (lenN l) n && intEq e 0
  | _ => false
def shL (n : Nat) (v : AV) : Bool := match v with
  | .agg l => Nat.beq (lenN l) n
  | _ => false
def shT (v : AV) : Bool := match v with
  | .one (.bool b) => b
  | _ => false
def QA (n : Nat) (v : AV) : Prop := ∃ l, v = .tup [.agg l, I 0] ∧ l.length = n
def QL (n : Nat) (v : AV) : Prop := ∃ l, v = .agg l ∧ l.length = n
def QT (v : AV) : Prop := v = B true
theorem shA_ok {n : Nat} {φ : Ren} {v : AV} (h : shA n v = true) : QA n (rnR φ v) := by
  unfold shA at h
  split at h
  · rename_i l e
    rw [Bool.and_eq_true] at h
    have h1 := Nat.eq_of_beq_eq_true h.1
    have h2 : e = 0 := by have := h.2; rw [intEq_ok] at this; simpa using this
    subst h2
    rw [lenN_eq] at h1
    exact ⟨l.map (rnC φ), rfl, by rw [List.length_map]; exact h1⟩
  · cases h
theorem shL_ok {n : Nat} {φ : Ren} {v : AV} (h : shL n v = true) : QL n (rnR φ v) := by
  unfold shL at h
  split at h
  · rename_i l
    have h1 := Nat.eq_of_beq_eq_true h
    rw [lenN_eq] at h1
    exact ⟨l.map (rnC φ), rfl, by rw [List.length_map]; exact h1⟩
  · cases h
theorem shT_ok {φ : Ren} {v : AV} (h : shT v = true) : QT (rnR φ v) := by
  unfold shT at h
  split at h
  · subst h; rfl
  · cases h
/-- blocks that lie there -/
def BlkAt (bl : List Blk) (ad : List Nat) (σ : St) : Prop := ad.length = bl.length ∧ ∀ (i : Nat) (a : Nat) (b : Blk), ad[i]? = some a → bl[i]? = some b → ∀ n, σ.get a = some (rnB (psiG ad n) b)
theorem call_mk {t t0 : Tab} {n n0 f : Nat} {args args0 : List AV} {σ : St} {Q : AV → Prop} {sh : AV → Bool} {tb : List CV} {bl : List Blk} {ad : List Nat} (ht : t f = some (madeS (C M) t0 f fun _ => Q)) (hsh : ∀ (φ : Ren) (v : AV), sh v = true → Q (rnR φ v))
    (h0 : σ.get 0 = some (.ro tb)) (hf : flatCs tb = true) (hn : 0 < σ.next) (hc : allB isCells bl = true) (hb : BlkAt bl ad σ) (h1 : allB is1 args0 = true) (ha : ∀ n, args = args0.map (rn1 (psiG ad n)))
    (hr : okM (bl.length + 1) sh (callK (C M) t0 n0 f args0 (partsG tb bl)) = true) : ∃ v s, callK (C M) t (n + 1) f args σ = some (v, s) ∧ Gr σ s ∧ Q v := by
  unfold okM at hr
  split at hr
  · rename_i v τ' hv
    rw [Bool.and_eq_true] at hr
    have hm : MadeAt (C M) t0 f args σ (rnR (phiM (psiG ad σ.next) (bl.length + 1) (reach (bl.length + 1) τ' 100 (refR v) []) σ.next) v) (pushAll σ ((blks τ' (reach (bl.length + 1) τ' 100 (refR v) [])).map (rnB (phiM (psiG ad σ.next) (bl.length + 1) (reach (bl.length + 1) τ' 100 (refR v) []) σ.next)))) :=
      ⟨tb, bl, ad, args0, n0, v, τ', _, h0, hf, hn, hb.1, hc, fun i a b x y => hb.2 i a b x y _, h1, ha _, hv, hr.1, rfl, rfl⟩
    obtain ⟨v', bs, h2, h3⟩ := call_made (n := n) ht hm (hsh _ _ hr.2)
    exact ⟨v', _, h2, ⟨by rw [pushAll_next]; omega, fun i hi => pushAll_old hi⟩, h3⟩
  · cases hr
/-! the table of bits -/
def deB : List CV := [.int .u8 0, .int .u8 1, .int .u8 56, .int .u8 2, .int .u8 57, .int .u8 49, .int .u8 28, .int .u8 3, .int .u8 61, .int .u8 58, .int .u8 42, .int .u8 50, .int .u8 38, .int .u8 29, .int .u8 17, .int .u8 4, .int .u8 62, .int .u8 47, .int .u8 59, .int .u8 36, .int .u8 45, .int .u8 43, .int .u8 51, .int .u8 22, .int .u8 53, .int .u8 39, .int .u8 33, .int .u8 30, .int .u8 24, .int .u8 18, .int .u8 12, .int .u8 5, .int .u8 63, .int .u8 55, .int .u8 48, .int .u8 27, .int .u8 60, .int .u8 41, .int .u8 37, .int .u8 16, .int .u8 46, .int .u8 35, .int .u8 44, .int .u8 21, .int .u8 52, .int .u8 32, .int .u8 23, .int .u8 11, .int .u8 54, .int .u8 26, .int .u8 40, .int .u8 15, .int .u8 34, .int .u8 20, .int .u8 31, .int .u8 10, .int .u8 25, .int .u8 14, .int .u8 19, .int .u8 9, .int .u8 13, .int .u8 8, .int .u8 7, .int .u8 6]
theorem deB_flat : flatCs deB = true := by kernel_rfl
def st (a n c : Nat) : CV := .slice (some (a, 0)) n (.to c)
def ns : CV := .slice none 0 (.ex 0)
def z37 : List UInt8 := [0, 0, 0, 0, 0, 0, 0, 0, 0, 0, 0, 0, 0, 0, 0, 0, 0, 0, 0, 0, 0, 0, 0, 0, 0, 0, 0, 0, 0, 0, 0, 0, 0, 0, 0, 0, 0]
/-! elastic.Add -/
def elL (a b : Nat) : List CV := [.int .u64 105625, iC 1, iC 1, st a 1 2, .int .u64 100418638321, iC 255, st b 1 1]
def elB : List Blk := [.cells [ns, iC 0] 253 true, .cells [st 3 1 1] 56 false, .cells [iC 0] 3 true]
theorem el_run (k0 k1 k2 k3 k4 k5 k6 k7 k8 k9 k10 k11 k12 k13 k14 k15 k16 k17 k18 k19 k20 k21 k22 k23 k24 k25 k26 k27 k28 k29 k30 k31 k32 k33 k34 k35 k36 : UInt8) : okM 4 (shA 7) (callK (C M) tab4 200 112 [.agg (elL 1 2), S [k0, k1, k2, k3, k4, k5, k6, k7, k8, k9, k10, k11, k12, k13, k14, k15, k16, k17, k18, k19, k20, k21, k22, k23, k24, k25, k26, k27, k28, k29, k30, k31, k32, k33, k34, k35, k36]] (partsG deB elB)) = true := by kernel_rfl
/-! spread.Add -/
def spL (a : Nat) : List CV := [.int .u64 126025, st a 1 1]
def spB : List Blk := [.cells [st 2 1 4] 183 false, .cells [.int .u64 63534747721, st 3 1 1, sC [], iC (-1)] 188 true, .cells [st 4 1 1] 63 false, .cells [.bool false] 4 true]
theorem sp_run (a0 a1 a2 a3 a4 a5 a6 a7 a8 a9 a10 a11 a12 a13 a14 a15 b0 b1 b2 b3 b4 b5 b6 b7 b8 b9 b10 b11 b12 b13 b14 b15 : UInt8) : okM 5 (shL 2) (callK (C M) tab4 200 115 [.agg (spL 1), S [a0, a1, a2, a3, a4, a5, a6, a7, a8, a9, a10, a11, a12, a13, a14, a15], S [b0, b1, b2, b3, b4, b5, b6, b7, b8, b9, b10, b11, b12, b13, b14, b15]] (partsG deB spB)) = true := by kernel_rfl
/-! what is right -/
def raL (a b : Nat) : List CV := [.int .u64 112225, .int .u64 50382740521, iC 1, st a 8 1, st b 1 1]
def ceL : List CV := [sC z37, iC 0, iC 0, iC 0, sC z37, iC 0, iC 0, iC 0]
def biL : List CV := [.bool false, .bool false, .bool false, .bool false, .bool false, .bool false, .bool false, .bool false]
def raB : List Blk := [.cells biL 4 true, .cells [st 3 2 4] 176 false, .cells ceL 177 true]
theorem ra_run : okM 4 shT (callK (C M) tab4 200 134 [.agg (raL 1 2)] (partsG deB raB)) = true := by kernel_rfl
def uvL (a : Nat) : List CV := [.int .u64 119025, iC 1, st a 1 3]
def uvB : List Blk := [.cells [.int .u64 127512553921, st 2 1 1, ns] 259 false, .cells [st 3 1 1] 56 false, .cells [iC 0] 3 true]
def cfL : List CV := [.int .u64 7, iC 1, iC 1, iC 1, iC 1, iC 1, iC 8, iC 1, iC 1, iC 2, iC 1, iC 1, iC 1, iC 1, iC 1, iC 1, iC 1, iC 1]
def rjL : List CV := [iC 0, iC 0, iC 0, iC 0, iC 0, iC 0, iC 0, iC 0, iC 0, iC 0, iC 0, iC 0, iC 0, iC 0, iC 0, iC 0, iC 0, iC 0]
def bkL (a1 a2 a3 a5 a6 a8 a11 : Nat) : List CV := cfL ++ ([iC 0, iC 0, st a1 18 1] ++ (elL a2 a3 ++ (raL a5 a6 ++ (uvL a8 ++ spL a11))))
def bkB : List Blk := [.cells rjL 3 true, .cells [ns, iC 0] 253 true, .cells [st 4 1 1] 56 false, .cells [iC 0] 3 true, .cells biL 4 true, .cells [st 7 2 4] 176 false, .cells ceL 177 true,
  .cells [.int .u64 127512553921, st 9 1 1, ns] 259 false, .cells [st 10 1 1] 56 false, .cells [iC 0] 3 true, .cells [st 12 1 4] 183 false, .cells [.int .u64 63534747721, st 13 1 1, sC [], iC (-1)] 188 true, .cells [st 14 1 1] 63 false, .cells [.bool false] 4 true]
theorem bk_run : okM 15 shT (callK (C M) tab4 300 51 [.agg (bkL 1 2 3 5 6 8 11)] (partsG deB bkB)) = true := by kernel_rfl
end Core
end Go.Proofs.YtnoieleoklpciaaGreatDoor
