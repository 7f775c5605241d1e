-- made by a program of this session (wip/print-patch.py, over the kit's print)
import Derived.Test.YtfdhifigndmgaaaQx0
namespace Go.Proofs.Ytfdhifigndmgaaa.Q
open Go.RowKit Go.Proofs.YtfdhifigndmgaaaW.PrintWords Go.Proofs.YtfdhifigndmgaaaW.PrintLast Go.Proofs.YtfdhifigndmgaaaW.PrintMore
attribute [local go_sem] max2_int min2_int max_two min_two max_three min_three max_four min_four   -- for this text's walks alone
set_option linter.unusedVariables false
set_option linter.unusedSimpArgs false

attribute [local go_sem] cell_twice_ cell_twiceN_
-- NOT PRINTED: function 58 (ipsix_Ext_58)
-- NOT PRINTED: function 55 (ipsix_Ext_55)
/-! ### ipsix_Piece_1: function 56 -/
def ipsix_Piece_1.f (a0_0 : Int) (a0_1 : ByteArray) : Option (Bool) := if a0_0 = 44 then (if (a0_1.size : Int) > 2 then (if 1 < (a0_1.size : Int) then (if 2 < (a0_1.size : Int) then (some (decide ((wrap64 ((wrap64 ((wrap64 (bt a0_1 1)) * 256)) + (wrap64 (bt a0_1 2)))) ≥ 8))) else (none)) else (none)) else (some false)) else (some false)
set_option maxHeartbeats 8000000 in
set_option maxRecDepth 100000 in
theorem ipsix_Piece_1.calls (a0_0 : Int) (a0_1 : ByteArray) (r : Bool) (w : World) (h : ipsix_Piece_1.f a0_0 a0_1 = some r) :
  Calls Try.prog 56 #[.agg #[.int .i64 a0_0, .string a0_1]] w fun e w' => e = .returned (.bool r) ∧ Below w.heap.size w w' := by
 have hu102 := Try.underlying102
 have HB := Aside0.mk (Below.refl w.heap.size w)
 have H : (if a0_0 = 44 then (if (a0_1.size : Int) > 2 then (if 1 < (a0_1.size : Int) then (if 2 < (a0_1.size : Int) then (some (decide ((wrap64 ((wrap64 ((wrap64 (bt a0_1 1)) * 256)) + (wrap64 (bt a0_1 2)))) ≥ 8))) else (none)) else (none)) else (some false)) else (some false)) = some r := h
 clear h
 by_cases c2 : a0_0 = 44
 ·rw [if_pos c2] at H
  have c2b0 : (a0_0 == 44) = true := beq_iff_eq.mpr c2
  have c2b1 : (a0_0 != 44) = false := bne_eq_false_iff_eq.mpr c2
  clear c2
  by_cases c3 : (a0_1.size : Int) > 2
  ·rw [if_pos c3] at H
   have c3b0 : decide (2 < (a0_1.size : Int)) = true := decide_eq_true c3
   have c3b1 : decide (2 < a0_1.size) = true := decide_eq_true (by omega)
   clear c3
   by_cases c4 : 1 < (a0_1.size : Int)
   rotate_left
   ·rw [if_neg c4] at H; exact absurd H (by simp)
   rw [if_pos c4] at H
   have c4b0 : decide (1 < (a0_1.size : Int)) = true := decide_eq_true c4
   have c4b1 : decide (1 < a0_1.size) = true := decide_eq_true (by omega)
   clear c4
   by_cases c6 : 2 < (a0_1.size : Int)
   rotate_left
   ·rw [if_neg c6] at H; exact absurd H (by simp)
   rw [if_pos c6] at H
   have c6b0 : decide (2 < (a0_1.size : Int)) = true := decide_eq_true c6
   have c6b1 : decide (2 < a0_1.size) = true := decide_eq_true (by omega)
   clear c6
   obtain rfl := Option.some.inj H
   go_enter Try.func56, Try.ntmps56
   go_wp2_with (first | ((with_reducible refine gate_dst (N := 1) rfl ?_); (try (refine gate_guard (by rfl) ?_; dsimp only)); refine bE_ (N := 1) (cs := #[.int .i64 a0_0, .string a0_1]) (t := 102) ?_; intro gb101 hg w8 hbox hb; have n0_ := Aside0.mk (below_step (bU_ HB.out) hb); have n1_ := Aside0.mk (hbox); have n2_ := Aside0.mk (bZ_ hg (bU_ HB.out) : w.heap.size ≤ gb101); have n3_ := n2_; clear HB; have HB := n0_; have BK101 := n1_; have GW101 := n2_; have GE101 := n3_; clear n0_ n1_ n2_ n3_; clear hb hbox hg; have hcz9_0 : w8.cell? ⟨gb101, 0, none⟩ = some (.int .i64 a0_0) := (blk_cell BK101.out 0).trans rfl; have hcz9_1 : w8.cell? ⟨gb101, 1, none⟩ = some (.string a0_1) := (blk_cell BK101.out 1).trans rfl; have hfz9_0 := blk_frozen BK101.out 0; have hfz9_1 := blk_frozen BK101.out 1; have p5 : 0 ≤ (1 : Int) := (by omega); have q5 : 1 < a0_1.size := (by have : (1 : Int) < (a0_1.size : Int) := oD_; omega); have hx5 : ∀ h : 1 < a0_1.size, ((a0_1[1]'h).toNat : Int) = bt a0_1 1 := bt_at a0_1 1; clear p5; have qi5 : (1 < (a0_1.size : Int)) = True := eq_true oD_; replace q5 := eq_true q5; have p7 : 0 ≤ (2 : Int) := (by omega); have q7 : 2 < a0_1.size := (by have : (2 : Int) < (a0_1.size : Int) := oD_; omega); have hx7 : ∀ h : 2 < a0_1.size, ((a0_1[2]'h).toNat : Int) = bt a0_1 2 := bt_at a0_1 2; clear p7; have qi7 : (2 < (a0_1.size : Int)) = True := eq_true oD_; replace q7 := eq_true q7))
   repeat (go_quiet (first | ((with_reducible refine gate_dst (N := 1) rfl ?_); (try (refine gate_guard (by rfl) ?_; dsimp only)); refine bE_ (N := 1) (cs := #[.int .i64 a0_0, .string a0_1]) (t := 102) ?_; intro gb101 hg w8 hbox hb; have n0_ := Aside0.mk (below_step (bU_ HB.out) hb); have n1_ := Aside0.mk (hbox); have n2_ := Aside0.mk (bZ_ hg (bU_ HB.out) : w.heap.size ≤ gb101); have n3_ := n2_; clear HB; have HB := n0_; have BK101 := n1_; have GW101 := n2_; have GE101 := n3_; clear n0_ n1_ n2_ n3_; clear hb hbox hg; have hcz9_0 : w8.cell? ⟨gb101, 0, none⟩ = some (.int .i64 a0_0) := (blk_cell BK101.out 0).trans rfl; have hcz9_1 : w8.cell? ⟨gb101, 1, none⟩ = some (.string a0_1) := (blk_cell BK101.out 1).trans rfl; have hfz9_0 := blk_frozen BK101.out 0; have hfz9_1 := blk_frozen BK101.out 1; have p5 : 0 ≤ (1 : Int) := (by omega); have q5 : 1 < a0_1.size := (by have : (1 : Int) < (a0_1.size : Int) := oD_; omega); have hx5 : ∀ h : 1 < a0_1.size, ((a0_1[1]'h).toNat : Int) = bt a0_1 1 := bt_at a0_1 1; clear p5; have qi5 : (1 < (a0_1.size : Int)) = True := eq_true oD_; replace q5 := eq_true q5; have p7 : 0 ≤ (2 : Int) := (by omega); have q7 : 2 < a0_1.size := (by have : (2 : Int) < (a0_1.size : Int) := oD_; omega); have hx7 : ∀ h : 2 < a0_1.size, ((a0_1[2]'h).toNat : Int) = bt a0_1 2 := bt_at a0_1 2; clear p7; have qi7 : (2 < (a0_1.size : Int)) = True := eq_true oD_; replace q7 := eq_true q7)); try go_wp2_with (first | ((with_reducible refine gate_dst (N := 1) rfl ?_); (try (refine gate_guard (by rfl) ?_; dsimp only)); refine bE_ (N := 1) (cs := #[.int .i64 a0_0, .string a0_1]) (t := 102) ?_; intro gb101 hg w8 hbox hb; have n0_ := Aside0.mk (below_step (bU_ HB.out) hb); have n1_ := Aside0.mk (hbox); have n2_ := Aside0.mk (bZ_ hg (bU_ HB.out) : w.heap.size ≤ gb101); have n3_ := n2_; clear HB; have HB := n0_; have BK101 := n1_; have GW101 := n2_; have GE101 := n3_; clear n0_ n1_ n2_ n3_; clear hb hbox hg; have hcz9_0 : w8.cell? ⟨gb101, 0, none⟩ = some (.int .i64 a0_0) := (blk_cell BK101.out 0).trans rfl; have hcz9_1 : w8.cell? ⟨gb101, 1, none⟩ = some (.string a0_1) := (blk_cell BK101.out 1).trans rfl; have hfz9_0 := blk_frozen BK101.out 0; have hfz9_1 := blk_frozen BK101.out 1; have p5 : 0 ≤ (1 : Int) := (by omega); have q5 : 1 < a0_1.size := (by have : (1 : Int) < (a0_1.size : Int) := oD_; omega); have hx5 : ∀ h : 1 < a0_1.size, ((a0_1[1]'h).toNat : Int) = bt a0_1 1 := bt_at a0_1 1; clear p5; have qi5 : (1 < (a0_1.size : Int)) = True := eq_true oD_; replace q5 := eq_true q5; have p7 : 0 ≤ (2 : Int) := (by omega); have q7 : 2 < a0_1.size := (by have : (2 : Int) < (a0_1.size : Int) := oD_; omega); have hx7 : ∀ h : 2 < a0_1.size, ((a0_1[2]'h).toNat : Int) = bt a0_1 2 := bt_at a0_1 2; clear p7; have qi7 : (2 < (a0_1.size : Int)) = True := eq_true oD_; replace q7 := eq_true q7)))
   go_ret
   exact rE_ (bU_ HB.out)
  ·rw [if_neg c3] at H
   have c3b0 : decide (2 < (a0_1.size : Int)) = false := decide_eq_false c3
   have c3b1 : decide (2 < a0_1.size) = false := decide_eq_false (by omega)
   clear c3
   obtain rfl := Option.some.inj H
   go_enter Try.func56, Try.ntmps56
   go_wp2_with (first | ((with_reducible refine gate_dst (N := 1) rfl ?_); (try (refine gate_guard (by rfl) ?_; dsimp only)); refine bE_ (N := 1) (cs := #[.int .i64 a0_0, .string a0_1]) (t := 102) ?_; intro gb101 hg w10 hbox hb; have n0_ := Aside0.mk (below_step (bU_ HB.out) hb); have n1_ := Aside0.mk (hbox); have n2_ := Aside0.mk (bZ_ hg (bU_ HB.out) : w.heap.size ≤ gb101); have n3_ := n2_; clear HB; have HB := n0_; have BK101 := n1_; have GW101 := n2_; have GE101 := n3_; clear n0_ n1_ n2_ n3_; clear hb hbox hg; have hcz11_0 : w10.cell? ⟨gb101, 0, none⟩ = some (.int .i64 a0_0) := (blk_cell BK101.out 0).trans rfl; have hcz11_1 : w10.cell? ⟨gb101, 1, none⟩ = some (.string a0_1) := (blk_cell BK101.out 1).trans rfl; have hfz11_0 := blk_frozen BK101.out 0; have hfz11_1 := blk_frozen BK101.out 1))
   repeat (go_quiet (first | ((with_reducible refine gate_dst (N := 1) rfl ?_); (try (refine gate_guard (by rfl) ?_; dsimp only)); refine bE_ (N := 1) (cs := #[.int .i64 a0_0, .string a0_1]) (t := 102) ?_; intro gb101 hg w10 hbox hb; have n0_ := Aside0.mk (below_step (bU_ HB.out) hb); have n1_ := Aside0.mk (hbox); have n2_ := Aside0.mk (bZ_ hg (bU_ HB.out) : w.heap.size ≤ gb101); have n3_ := n2_; clear HB; have HB := n0_; have BK101 := n1_; have GW101 := n2_; have GE101 := n3_; clear n0_ n1_ n2_ n3_; clear hb hbox hg; have hcz11_0 : w10.cell? ⟨gb101, 0, none⟩ = some (.int .i64 a0_0) := (blk_cell BK101.out 0).trans rfl; have hcz11_1 : w10.cell? ⟨gb101, 1, none⟩ = some (.string a0_1) := (blk_cell BK101.out 1).trans rfl; have hfz11_0 := blk_frozen BK101.out 0; have hfz11_1 := blk_frozen BK101.out 1)); try go_wp2_with (first | ((with_reducible refine gate_dst (N := 1) rfl ?_); (try (refine gate_guard (by rfl) ?_; dsimp only)); refine bE_ (N := 1) (cs := #[.int .i64 a0_0, .string a0_1]) (t := 102) ?_; intro gb101 hg w10 hbox hb; have n0_ := Aside0.mk (below_step (bU_ HB.out) hb); have n1_ := Aside0.mk (hbox); have n2_ := Aside0.mk (bZ_ hg (bU_ HB.out) : w.heap.size ≤ gb101); have n3_ := n2_; clear HB; have HB := n0_; have BK101 := n1_; have GW101 := n2_; have GE101 := n3_; clear n0_ n1_ n2_ n3_; clear hb hbox hg; have hcz11_0 : w10.cell? ⟨gb101, 0, none⟩ = some (.int .i64 a0_0) := (blk_cell BK101.out 0).trans rfl; have hcz11_1 : w10.cell? ⟨gb101, 1, none⟩ = some (.string a0_1) := (blk_cell BK101.out 1).trans rfl; have hfz11_0 := blk_frozen BK101.out 0; have hfz11_1 := blk_frozen BK101.out 1)))
   go_ret
   exact rE_ (bU_ HB.out)
 ·rw [if_neg c2] at H
  have c2b0 : (a0_0 == 44) = false := beq_eq_false_iff_ne.mpr c2
  have c2b1 : (a0_0 != 44) = true := bne_iff_ne.mpr c2
  obtain rfl := Option.some.inj H
  go_enter Try.func56, Try.ntmps56
  go_wp2_with (first | ((with_reducible refine gate_dst (N := 1) rfl ?_); (try (refine gate_guard (by rfl) ?_; dsimp only)); refine bE_ (N := 1) (cs := #[.int .i64 a0_0, .string a0_1]) (t := 102) ?_; intro gb101 hg w12 hbox hb; have n0_ := Aside0.mk (below_step (bU_ HB.out) hb); have n1_ := Aside0.mk (hbox); have n2_ := Aside0.mk (bZ_ hg (bU_ HB.out) : w.heap.size ≤ gb101); have n3_ := n2_; clear HB; have HB := n0_; have BK101 := n1_; have GW101 := n2_; have GE101 := n3_; clear n0_ n1_ n2_ n3_; clear hb hbox hg; have hcz13_0 : w12.cell? ⟨gb101, 0, none⟩ = some (.int .i64 a0_0) := (blk_cell BK101.out 0).trans rfl; have hcz13_1 : w12.cell? ⟨gb101, 1, none⟩ = some (.string a0_1) := (blk_cell BK101.out 1).trans rfl; have hfz13_0 := blk_frozen BK101.out 0; have hfz13_1 := blk_frozen BK101.out 1))
  repeat (go_quiet (first | ((with_reducible refine gate_dst (N := 1) rfl ?_); (try (refine gate_guard (by rfl) ?_; dsimp only)); refine bE_ (N := 1) (cs := #[.int .i64 a0_0, .string a0_1]) (t := 102) ?_; intro gb101 hg w12 hbox hb; have n0_ := Aside0.mk (below_step (bU_ HB.out) hb); have n1_ := Aside0.mk (hbox); have n2_ := Aside0.mk (bZ_ hg (bU_ HB.out) : w.heap.size ≤ gb101); have n3_ := n2_; clear HB; have HB := n0_; have BK101 := n1_; have GW101 := n2_; have GE101 := n3_; clear n0_ n1_ n2_ n3_; clear hb hbox hg; have hcz13_0 : w12.cell? ⟨gb101, 0, none⟩ = some (.int .i64 a0_0) := (blk_cell BK101.out 0).trans rfl; have hcz13_1 : w12.cell? ⟨gb101, 1, none⟩ = some (.string a0_1) := (blk_cell BK101.out 1).trans rfl; have hfz13_0 := blk_frozen BK101.out 0; have hfz13_1 := blk_frozen BK101.out 1)); try go_wp2_with (first | ((with_reducible refine gate_dst (N := 1) rfl ?_); (try (refine gate_guard (by rfl) ?_; dsimp only)); refine bE_ (N := 1) (cs := #[.int .i64 a0_0, .string a0_1]) (t := 102) ?_; intro gb101 hg w12 hbox hb; have n0_ := Aside0.mk (below_step (bU_ HB.out) hb); have n1_ := Aside0.mk (hbox); have n2_ := Aside0.mk (bZ_ hg (bU_ HB.out) : w.heap.size ≤ gb101); have n3_ := n2_; clear HB; have HB := n0_; have BK101 := n1_; have GW101 := n2_; have GE101 := n3_; clear n0_ n1_ n2_ n3_; clear hb hbox hg; have hcz13_0 : w12.cell? ⟨gb101, 0, none⟩ = some (.int .i64 a0_0) := (blk_cell BK101.out 0).trans rfl; have hcz13_1 : w12.cell? ⟨gb101, 1, none⟩ = some (.string a0_1) := (blk_cell BK101.out 1).trans rfl; have hfz13_0 := blk_frozen BK101.out 0; have hfz13_1 := blk_frozen BK101.out 1)))
  go_ret
  exact rE_ (bU_ HB.out)
/-! ### slices_IndexFunc_of_56_58: function 58 -/
def slices_IndexFunc_of_56_58.l0 : Nat → List (S102) → Int → Int → Option (Int)
 | 0, _, _, _ => none
 | k + 1, x0, x7, x8 => if x8 < x7 then (if 0 ≤ x8 then (if x8 < (x0.length : Int) then ((ipsix_Piece_1.f ((rd_T102 x0 x8).f0) ((rd_T102 x0 x8).f1)).bind fun t102 => (if t102 = true then (some x8) else (slices_IndexFunc_of_56_58.l0 k x0 x7 (wrap64 (x8 + 1))))) else (none)) else (none)) else (some (-1))
def slices_IndexFunc_of_56_58.f (k : Nat) (l0 : List (S102))  : Option (Int) := slices_IndexFunc_of_56_58.l0 k l0 (l0.length : Int) 0
theorem slices_IndexFunc_of_56_58.mono_l : ∀ k, (∀ y0 y1 y2, LeO (slices_IndexFunc_of_56_58.l0 k y0 y1 y2) (slices_IndexFunc_of_56_58.l0 (k + 1) y0 y1 y2))
 | 0 => fun _ _ _ r h => by simp [slices_IndexFunc_of_56_58.l0] at h
 | k + 1 => by
  have ih0 := slices_IndexFunc_of_56_58.mono_l k
  ·intro y0 y1 y2
   unfold slices_IndexFunc_of_56_58.l0
   repeat' first
   | (with_reducible exact ih0 _ _ _)
   | (with_reducible exact LeO.refl _)
   | (with_reducible exact LeO.none _)
   | (with_reducible refine LeO.ite ?_ ?_)
   | (with_reducible refine LeO.bind ?_ (fun _ => ?_))
   | exact ih0 _ _ _
   | exact LeO.none _
   | refine LeO.ite ?_ ?_
   | refine LeO.bind ?_ (fun _ => ?_)
theorem slices_IndexFunc_of_56_58.mono : ∀ a0 k, LeO (slices_IndexFunc_of_56_58.f k a0) (slices_IndexFunc_of_56_58.f (k + 1) a0) := by
 intro a0 k
 have ih0 := slices_IndexFunc_of_56_58.mono_l k
 unfold slices_IndexFunc_of_56_58.f
 repeat' first
   | (with_reducible exact ih0 _ _ _)
   | (with_reducible exact LeO.refl _)
   | (with_reducible exact LeO.none _)
   | (with_reducible refine LeO.ite ?_ ?_)
   | (with_reducible refine LeO.bind ?_ (fun _ => ?_))
   | exact ih0 _ _ _
   | exact LeO.none _
   | refine LeO.ite ?_ ?_
   | refine LeO.bind ?_ (fun _ => ?_)
set_option maxHeartbeats 8000000 in
set_option maxRecDepth 100000 in
theorem slices_IndexFunc_of_56_58.calls (k : Nat) (A0 : Option Addr) (c0 : Nat) (l0 : List (S102))  (r : Int) (w : World) (hr0 : Kd.C k102 w A0 l0.length l0) (hc0 : l0.length ≤ c0) (h : slices_IndexFunc_of_56_58.f k l0 = some r) :
  Calls Try.prog 58 #[.slice A0 l0.length c0, .func (.func 56) #[] #[]] w fun e w' => e = .returned (.int .i64 r) ∧ Below w.heap.size w w' := by
 have hu102 := Try.underlying102
 have HR0 := Aside0.mk hr0
 have HC0 := Aside0.mk hc0
 clear hr0 hc0
 have HB := Aside0.mk (Below.refl w.heap.size w)
 have H : (slices_IndexFunc_of_56_58.l0 k l0 (l0.length : Int) 0) = some r := h
 clear h
 have H' := Aside0.mk H
 clear H
 go_enter Try.func58, Try.ntmps58
 go_wp2
 go_loopg [8] k (fun kq v8 w' => ∃ (x8_1 : Int), v8 = .int .i64 x8_1 ∧ Aside0 (slices_IndexFunc_of_56_58.l0 kq l0 (l0.length : Int) x8_1 = some r) ∧ Aside0 (kq ≤ k) ∧ Aside0 (Below w.heap.size w w'))
 case atStart => exact ⟨(0), (by first | rfl | (simp; done) | (simp [*]; done)), H', ⟨Nat.le_refl _⟩, ⟨bU_ HB.out⟩⟩
 case round =>
  clear H'
  try clear p2
  obtain ⟨x8_1, rfl, HA, HK1, HB⟩ := hrel
  cases gk with
  | zero => exact absurd HA.out (by simp [slices_IndexFunc_of_56_58.l0])
  | succ k1 =>
   have H := HA.out
   clear HA
   simp only [slices_IndexFunc_of_56_58.l0] at H
   by_cases c3 : x8_1 < (l0.length : Int)
   ·rw [if_pos c3] at H
    have c3b0 : decide (x8_1 < (l0.length : Int)) = true := decide_eq_true c3
    clear c3
    by_cases c4 : 0 ≤ x8_1
    rotate_left
    ·rw [if_neg c4] at H; exact absurd H (by simp)
    rw [if_pos c4] at H
    have c4b0 : decide (0 ≤ x8_1) = true := decide_eq_true c4
    clear c4
    by_cases c5 : x8_1 < (l0.length : Int)
    rotate_left
    ·rw [if_neg c5] at H; exact absurd H (by simp)
    rw [if_pos c5] at H
    have c5b0 : decide (x8_1 < (l0.length : Int)) = true := decide_eq_true c5
    clear c5
    replace H := Option.bind_eq_some_iff.mp H
    obtain ⟨t102, A60, H⟩ := H
    replace H : (if t102 = true then (some x8_1) else (slices_IndexFunc_of_56_58.l0 k1 l0 (l0.length : Int) (wrap64 (x8_1 + 1)))) = some r := H
    have A6 := Aside0.mk A60
    clear A60
    by_cases c7 : t102 = true
    ·subst c7
     have H1 : (some x8_1) = some r := by rw [if_pos rfl] at H; exact H
     clear H
     have H := H1
     clear H1
     obtain rfl := Option.some.inj H
     have p101 : 0 ≤ (x8_1 : Int) := oD_
     have q101 : x8_1 < (l0.length : Int) := oD_
     obtain ⟨ad101, e101, hx101_0, hx101_1⟩ := at_T102 HR0.out x8_1 p101 q101
     cases e101
     replace hx101_0 := (HB.out.cell (World.block_lt_of_cell? w _ hx101_0)).trans hx101_0
     replace hx101_1 := (HB.out.cell (World.block_lt_of_cell? w _ hx101_1)).trans hx101_1
     replace p101 := eq_true p101
     replace q101 := eq_true q101
     go_wp2_with (first | (go_at_call 56; (with_reducible refine (ipsix_Piece_1.calls ((rd_T102 l0 x8_1).f0) ((rd_T102 l0 x8_1).f1) true _ A6.out).mono ?_); rintro e w8 ⟨rfl, hb⟩; have n0_ := Aside0.mk (below_step (bU_ HB.out) hb); clear HB; have HB := n0_; clear n0_; (try clear hb); (try clear hb2); (try clear hk); (try clear hi)))
     go_ret
     exact rE_ (bU_ HB.out)
    ·replace c7 := Bool.eq_false_iff.mpr c7
     subst c7
     have H1 : (slices_IndexFunc_of_56_58.l0 k1 l0 (l0.length : Int) (wrap64 (x8_1 + 1))) = some r := by rw [if_neg (show ¬ (false = true) by decide)] at H; exact H
     clear H
     have H := H1
     clear H1
     have H' := Aside0.mk H
     clear H
     have p101 : 0 ≤ (x8_1 : Int) := oD_
     have q101 : x8_1 < (l0.length : Int) := oD_
     obtain ⟨ad101, e101, hx101_0, hx101_1⟩ := at_T102 HR0.out x8_1 p101 q101
     cases e101
     replace hx101_0 := (HB.out.cell (World.block_lt_of_cell? w _ hx101_0)).trans hx101_0
     replace hx101_1 := (HB.out.cell (World.block_lt_of_cell? w _ hx101_1)).trans hx101_1
     replace p101 := eq_true p101
     replace q101 := eq_true q101
     go_wp2_with (first | (go_at_call 56; (with_reducible refine (ipsix_Piece_1.calls ((rd_T102 l0 x8_1).f0) ((rd_T102 l0 x8_1).f1) false _ A6.out).mono ?_); rintro e w9 ⟨rfl, hb⟩; have n0_ := Aside0.mk (below_step (bU_ HB.out) hb); clear HB; have HB := n0_; clear n0_; (try clear hb); (try clear hb2); (try clear hk); (try clear hi)))
     go_roundg k1
     case measure => have := HK1.out; omega
     case rel => exact ⟨(wrap64 (x8_1 + 1)), (by first | rfl | (simp; done) | (simp [*]; done)), H', ⟨by have := HK1.out; omega⟩, ⟨bU_ HB.out⟩⟩
   ·rw [if_neg c3] at H
    have c3b0 : decide (x8_1 < (l0.length : Int)) = false := decide_eq_false c3
    clear c3
    obtain rfl := Option.some.inj H
    go_wp2
    go_ret
    exact rE_ (bU_ HB.out)
/-! ### slices_ContainsFunc_of_56_55: function 55 -/
def slices_ContainsFunc_of_56_55.f (k : Nat) (l0 : List (S102))  : Option (Bool) := (slices_IndexFunc_of_56_58.f k l0).bind fun t101 => (some (decide (t101 ≥ 0)))
theorem slices_ContainsFunc_of_56_55.mono : ∀ a0 k, LeO (slices_ContainsFunc_of_56_55.f k a0) (slices_ContainsFunc_of_56_55.f (k + 1) a0) := by
 intro a0 k
 unfold slices_ContainsFunc_of_56_55.f
 repeat' first
   | (with_reducible exact slices_IndexFunc_of_56_58.mono _ _)
   | (with_reducible exact LeO.refl _)
   | (with_reducible exact LeO.none _)
   | (with_reducible refine LeO.ite ?_ ?_)
   | (with_reducible refine LeO.bind ?_ (fun _ => ?_))
   | exact slices_IndexFunc_of_56_58.mono _ _
   | exact LeO.none _
   | refine LeO.ite ?_ ?_
   | refine LeO.bind ?_ (fun _ => ?_)
set_option maxHeartbeats 8000000 in
set_option maxRecDepth 100000 in
theorem slices_ContainsFunc_of_56_55.calls (k : Nat) (A0 : Option Addr) (c0 : Nat) (l0 : List (S102))  (r : Bool) (w : World) (hr0 : Kd.C k102 w A0 l0.length l0) (hc0 : l0.length ≤ c0) (h : slices_ContainsFunc_of_56_55.f k l0 = some r) :
  Calls Try.prog 55 #[.slice A0 l0.length c0, .func (.func 56) #[] #[]] w fun e w' => e = .returned (.bool r) ∧ Below w.heap.size w w' := by
 have HR0 := Aside0.mk hr0
 have HC0 := Aside0.mk hc0
 clear hr0 hc0
 have HB := Aside0.mk (Below.refl w.heap.size w)
 have H : ((slices_IndexFunc_of_56_58.f k l0).bind fun t101 => (some (decide (t101 ≥ 0)))) = some r := h
 clear h
 replace H := Option.bind_eq_some_iff.mp H
 obtain ⟨t101, A30, H⟩ := H
 replace H : (some (decide (t101 ≥ 0))) = some r := H
 have A3 := Aside0.mk A30
 clear A30
 obtain rfl := Option.some.inj H
 go_enter Try.func55, Try.ntmps55
 go_wp2_with (first | ((with_reducible refine gate_callee (f := 58) rfl ?_); refine gL_ (some 7) rfl rfl Try.func58 (by kernel_rfl) rfl #[.slice A0 l0.length c0, .func (.func 56) #[] #[]] rfl ?_; (with_reducible refine (slices_IndexFunc_of_56_58.calls k _ _ l0  t101 _ ?side1 ?side2 A3.out).mono ?_); (case side1 => repeat (first | exact HR0.out | (with_reducible refine Kd.C_alloc ?_ _) | (with_reducible refine Kd.C_drewN ?_ _) | (with_reducible refine Kd.C_drew ?_))); (case side2 => exact HC0.out); rintro e w4 ⟨rfl, hb⟩; refine ⟨_, rfl, ?_⟩; have n0_ := Aside0.mk (below_step (bU_ HB.out) hb); clear HB; have HB := n0_; clear n0_; (try clear hb); (try clear hb2); (try clear hk); (try clear hi)))
 go_ret
 exact rE_ (bU_ HB.out)
end Go.Proofs.Ytfdhifigndmgaaa.Q
