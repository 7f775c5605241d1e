/- The meter's Tick. -/
import Derived.Test.YtkikpolmfaiabaaGreatDoorClk3
namespace Go.Proofs.YtkikpolmfaiabaaGreatDoor
open Go.Run Go
namespace Clk
set_option maxRecDepth 100000
/-- what waits, q pieces -/
def QAt (σ : St) (mp b : Nat) (cv : CV) (q : Nat) : Prop :=
  (cv = ns ∧ q = 0) ∨ ∃ j l, cv = .slice (some (j, 0)) q (.to (4 + 1)) ∧ 0 < j ∧ j < σ.next ∧ j ≠ mp ∧ (j < b ∨ b + 14 ≤ j) ∧ σ.get j = some (.cells l 66 false) ∧ l.length = q * (4 + 1)
/-- a meter at mp -/
def MAt (B0 : Option Blk) (σ : St) (mp : Nat) (len clk : Int) (q : Nat) : Prop := ∃ b cv, σ.get 0 = B0 ∧ 0 < mp ∧ mp < σ.next ∧ 0 < b ∧ b + 14 ≤ σ.next ∧ (mp < b ∨ b + 14 ≤ mp) ∧
  σ.get mp = some (.cells (mC len clk b cv) 116 true) ∧ BankAt b σ ∧ QAt σ mp b cv q
theorem bankB_len (b : Nat) : (bankB b).length = 14 := rfl
theorem bank_lt {b k : Nat} {blk : Blk} (h : (bankB b)[k]? = some blk) : k < 14 := (List.getElem?_eq_some_iff.mp h).1
theorem call_new {n : Nat} {σ : St} : cc (n + 1) 16 [.agg oneL] σ = some (.tup [.agg (bankC σ.next), I 0], pushAll σ (bankB σ.next)) := by
  show callK (C M) tabC (n + 1) 16 [.agg oneL] σ = _
  rw [callK_tab (s := newS) rfl]
  unfold newS
  simp only [if_true]
theorem call_pieces {n b : Nat} {σ : St} {e : Int} (h : BankAt b σ) : cc (n + 1) 17 [I 1, I e, .agg (bankC b)] σ = some (.one (st σ.next 0 1 5), σ.push (pieceB e)) := by
  show callK (C M) tabC (n + 1) 17 [I 1, I e, .agg (bankC b)] σ = _
  rw [callK_tab (s := pieceF) rfl]
  unfold pieceF I
  simp only
  rw [if_pos ⟨rfl, b, rfl, h⟩]
theorem call_aw {n : Nat} {σ : St} : cc (n + 1) 11 [] σ = some (B true, σ) := by
  show callK (C M) tabC (n + 1) 11 [] σ = _
  rw [callK_tab (s := awS) rfl]
  rfl
theorem call_one {n : Nat} {σ : St} : cc (n + 1) 10 [] σ = some (.agg oneL, σ) := by
  show callK (C M) tabC (n + 1) 10 [] σ = _
  rw [callK_tab (s := oneS) rfl]
  rfl
theorem ex_none {f : Nat} (h : assocN extList f = none) : (C M).ext f = none := h
theorem over2 (len a c : Int) (b : Nat) (q : CV) : over 2 [i c] (mC len a b q) = some (mC len c b q) := rfl
theorem over41 (len a : Int) (b : Nat) (q q' : CV) : over 41 [q'] (mC len a b q) = some (mC len a b q') := by kernel_rfl
theorem over3 (len a : Int) (b b' : Nat) (q : CV) : over 3 (bankC b') (mC len a b q) = some (mC len a b' q) := by kernel_rfl
theorem ld53 (len a : Int) (b : Nat) (q : CV) : takeN 38 (dropN 3 (mC len a b q)) = some (bankC b) := by kernel_rfl
theorem ld27 (len a : Int) (b : Nat) (q : CV) : takeN 18 (dropN 3 (mC len a b q)) = some oneL := by kernel_rfl
theorem n41 (len a : Int) (b : Nat) (q : CV) : nth (mC len a b q) 41 = some q := by kernel_rfl
theorem bank38 (b : Nat) : lenN (bankC b) = 38 := by kernel_rfl

/-- behind the epoch: a new bank -/
theorem tick7 {n mp b : Nat} {σ : St} {len clk : Int} {cv : CV} (hm : σ.get mp = some (.cells (mC len clk b cv) 116 true)) (hlt : mp < σ.next) :
    K14_7 M (cc (n + 1)) (P mp 0) σ = some (B true, (pushAll σ (bankB σ.next)).put mp (.cells (mC len clk σ.next cv) 116 true)) := by
  refine Yl.eq ?_
  unfold K14_7
  refine y_val nilP ?_
  refine y_val fa3 ?_
  refine y_val fb0 ?_
  refine y_val (o_ld hm rfl (partA_agg ty27 sz27 (ld27 ..))) ?_
  refine y_cal rfl call_new ?_
  refine y_val rfl ?_
  refine y_val rfl ?_
  refine y_val nilP ?_
  refine y_val fa3 ?_
  refine y_st (o_st (by rw [pushAll_old hlt]; exact hm) rfl sz53 (bank38 _) (over3 ..)) ?_
  exact y_ret0 ⟨rfl, rfl⟩

theorem inf66 : ((C M).P.info? 66).map (fun t => (t.size, t.bytes)) = some (5, 48) := by kernel_rfl
theorem row66 : rowOf (C M) 66 5 1 = some [i 0, i 0, i 0, i 0, s []] := by kernel_rfl
/-- a piece more -/
theorem append_piece {σ : St} {j q : Nat} {e : Int} {p : Option (Nat × Nat)} {cap : Cap} (hj : σ.get j = some (pieceB e)) (hq : q < 60) :
    bltO (C M) .append [57, 57] [.one (.slice p q cap), .one (st j 0 1 5)] σ = appendTo 66 5 p q cap 1 (pieceC e) σ := by
  obtain ⟨inf, h1, h2⟩ := Option.map_eq_some_iff.mp inf66
  obtain ⟨h3, h4⟩ := Prod.mk.inj h2
  have h3 : inf.size = 5 := h3
  have h4 : inf.bytes = 48 := h4
  have := o_append (cx := C M) (σ := σ) (t := 57) (ts := [57]) (p := p) (len := q) (cap := cap) (x := .one (st j 0 1 5)) (n := 1) (new := pieceC e) (row := [i 0, i 0, i 0, i 0, s []]) un57 h1 rfl (by
      rw [h3, h4]
      have a1 : noInt (C M) [57] = true := by kernel_rfl
      have a2 : Nat.ble (Nat.mul (Nat.add (Nat.mul 2 (Nat.add q 1)) 2048) 48) 140737488355328 = true := Nat.ble_eq_true_of_le (by show (2 * (q + 1) + 2048) * 48 ≤ _; omega)
      have a3 : Nat.ble (Nat.add q 1) 4611686018427387904 = true := Nat.ble_eq_true_of_le (by show q + 1 ≤ _; omega)
      rw [a1, a2, a3]; rfl) (by
      rw [h3]
      show (match Blk.rd (σ.get j) with | some l => takeN (Nat.mul 1 5) (dropN 0 l) | none => none) = _
      rw [hj]; rfl) (by rw [h3]; exact row66) rfl
  rw [h3] at this
  exact this
end Clk
end Go.Proofs.YtkikpolmfaiabaaGreatDoor
