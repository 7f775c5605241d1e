-- made by a program of this session (wip/print-patch.py, over the kit's print)
import Derived.Test.YtdmofjhncdkofaaQx0
import Derived.Test.YtdmofjhncdkofaaQx1
import Derived.Test.YtdmofjhncdkofaaQx3
import Derived.Test.YtdmofjhncdkofaaQx6
import Derived.Test.YtdmofjhncdkofaaQx7
import Derived.Test.YtdmofjhncdkofaaQx9
import Derived.Test.YtdmofjhncdkofaaQx13
import Derived.Test.YtdmofjhncdkofaaQx16
namespace Go.Proofs.Ytdmofjhncdkofaa.Q
open Go.RowKit Go.Proofs.YtdmofjhncdkofaaW.PrintWords Go.Proofs.YtdmofjhncdkofaaW.PrintLast Go.Proofs.YtdmofjhncdkofaaW.PrintMore
attribute [local go_sem] max2_int min2_int max_two min_two max_three min_three max_four min_four   -- for this text's walks alone
set_option linter.unusedVariables false
set_option linter.unusedSimpArgs false

attribute [local go_sem] cell_twice_ cell_twiceN_
abbrev Z17_0 : Array Value := #[.int .i64 0, .int .i64 0, .int .i64 0, .int .i64 0, .int .i64 0, .int .i64 0, .string ⟨#[]⟩, .string ⟨#[]⟩, .string ⟨#[]⟩]
attribute [local go_sem high] eqA27
/-! ### rillmeterlaw06_IpfourPuts: function 5 -/
def rillmeterlaw06_IpfourPuts.j0 : Nat → ByteArray → ByteArray → Bool → Int → Int → Int → Int → Int → Int → ByteArray → ByteArray → ByteArray → Option (Bool)
 | 0, _, _, _, _, _, _, _, _, _, _, _, _ => none
 | k + 1, x1, x2, x37, x102000, x102001, x102002, x102003, x102004, x102005, x102006, x102007, x102008 => if x37 = true then ((rillmeterlaw06_awake.f k).bind fun t102 => (some t102)) else ((ipfour_Put.f k x102000 x102001 x102002 x102003 x102004 x102005 x102006 x102007 x102008 x1).bind fun bt103 => ((rillmeterref06_Right.f k x102000 x102001 x102002 x102003 x102004 x102005 x102006 x102007 x102008).bind fun t106 => ((ipfour_Right.f x102000 x102001 x102002 x102003 x102004 x102005 x102006 x102007 x102008).bind fun t107 => (if (t107 != t106) = true then (some false) else (if t106 = true then (if bt103.1.size + x2.size ≤ 9223372036854775807 then ((ipfour_Take.f k (bt103.1 ++ x2)).bind fun bt108 => ((rillmeterref06_Put.f k x102000 x102001 x102002 x102003 x102004 x102005 x102006 x102007 x102008 (x1.size : Int)).bind fun t120 => (if t120.size + x1.size ≤ 9223372036854775807 then (if bt103.1.toList = (t120 ++ x1).toList then (if bt103.2 = 0 then (if (bt108.1 == x102000 && (bt108.2.1 == x102001 && (bt108.2.2.1 == x102002 && (bt108.2.2.2.1 == x102003 && (bt108.2.2.2.2.1 == x102004 && (bt108.2.2.2.2.2.1 == x102005 && (bt108.2.2.2.2.2.2.1.toList == x102006.toList && (bt108.2.2.2.2.2.2.2.1.toList == x102007.toList && (bt108.2.2.2.2.2.2.2.2.1.toList == x102008.toList))))))))) = true then (if bt108.2.2.2.2.2.2.2.2.2.1.toList = x1.toList then (if bt108.2.2.2.2.2.2.2.2.2.2 = 0 then ((rillmeterlaw06_awake.f k).bind fun t121 => (some t121)) else (some false)) else (some false)) else (some false)) else (some false)) else (some false)) else (none)))) else (none)) else (if bt103.1.toList = ([] : List UInt8) then (if bt103.2 = 1 then ((rillmeterlaw06_awake.f k).bind fun t122 => (some t122)) else (some false)) else (some false)))))))
def rillmeterlaw06_IpfourPuts.f (k : Nat) (a0_0 : Int) (a0_1 : Int) (a0_2 : Int) (a0_3 : Int) (a0_4 : Int) (a0_5 : Int) (a0_6 : ByteArray) (a0_7 : ByteArray) (a0_8 : ByteArray) (a1 : ByteArray) (a2 : ByteArray) : Option (Bool) := if (a1.size : Int) > 4096 then (rillmeterlaw06_IpfourPuts.j0 k a1 a2 true a0_0 a0_1 a0_2 a0_3 a0_4 a0_5 a0_6 a0_7 a0_8) else (if (a2.size : Int) > 4096 then (rillmeterlaw06_IpfourPuts.j0 k a1 a2 true a0_0 a0_1 a0_2 a0_3 a0_4 a0_5 a0_6 a0_7 a0_8) else (if (a0_8.size : Int) > 4096 then (rillmeterlaw06_IpfourPuts.j0 k a1 a2 true a0_0 a0_1 a0_2 a0_3 a0_4 a0_5 a0_6 a0_7 a0_8) else (rillmeterlaw06_IpfourPuts.j0 k a1 a2 (decide ((wrap64 ((a0_6.size : Int) + (a0_7.size : Int))) > 100)) a0_0 a0_1 a0_2 a0_3 a0_4 a0_5 a0_6 a0_7 a0_8)))
theorem rillmeterlaw06_IpfourPuts.mono_l : ∀ k, (∀ y0 y1 y2 y3 y4 y5 y6 y7 y8 y9 y10 y11, LeO (rillmeterlaw06_IpfourPuts.j0 k y0 y1 y2 y3 y4 y5 y6 y7 y8 y9 y10 y11) (rillmeterlaw06_IpfourPuts.j0 (k + 1) y0 y1 y2 y3 y4 y5 y6 y7 y8 y9 y10 y11))
 | 0 => fun _ _ _ _ _ _ _ _ _ _ _ _ r h => by simp [rillmeterlaw06_IpfourPuts.j0] at h
 | k + 1 => by
  have ih0 := rillmeterlaw06_IpfourPuts.mono_l k
  ·intro y0 y1 y2 y3 y4 y5 y6 y7 y8 y9 y10 y11
   unfold rillmeterlaw06_IpfourPuts.j0
   repeat' first
   | (with_reducible exact ih0 _ _ _ _ _ _ _ _ _ _ _ _)
   | (with_reducible exact ipfour_Put.mono _ _ _ _ _ _ _ _ _ _ _)
   | (with_reducible exact ipfour_Take.mono _ _)
   | (with_reducible exact rillmeterlaw06_awake.mono _)
   | (with_reducible exact rillmeterref06_Put.mono _ _ _ _ _ _ _ _ _ _ _)
   | (with_reducible exact rillmeterref06_Right.mono _ _ _ _ _ _ _ _ _ _)
   | (with_reducible exact LeO.refl _)
   | (with_reducible exact LeO.none _)
   | (with_reducible refine LeO.ite ?_ ?_)
   | (with_reducible refine LeO.bind ?_ (fun _ => ?_))
   | exact ih0 _ _ _ _ _ _ _ _ _ _ _ _
   | exact ipfour_Put.mono _ _ _ _ _ _ _ _ _ _ _
   | exact ipfour_Take.mono _ _
   | exact rillmeterlaw06_awake.mono _
   | exact rillmeterref06_Put.mono _ _ _ _ _ _ _ _ _ _ _
   | exact rillmeterref06_Right.mono _ _ _ _ _ _ _ _ _ _
   | exact LeO.none _
   | refine LeO.ite ?_ ?_
   | refine LeO.bind ?_ (fun _ => ?_)
theorem rillmeterlaw06_IpfourPuts.mono : ∀ a0 a1 a2 a3 a4 a5 a6 a7 a8 a9 a10 k, LeO (rillmeterlaw06_IpfourPuts.f k a0 a1 a2 a3 a4 a5 a6 a7 a8 a9 a10) (rillmeterlaw06_IpfourPuts.f (k + 1) a0 a1 a2 a3 a4 a5 a6 a7 a8 a9 a10) := by
 intro a0 a1 a2 a3 a4 a5 a6 a7 a8 a9 a10 k
 have ih0 := rillmeterlaw06_IpfourPuts.mono_l k
 unfold rillmeterlaw06_IpfourPuts.f
 repeat' first
   | (with_reducible exact ih0 _ _ _ _ _ _ _ _ _ _ _ _)
   | (with_reducible exact ipfour_Put.mono _ _ _ _ _ _ _ _ _ _ _)
   | (with_reducible exact ipfour_Take.mono _ _)
   | (with_reducible exact rillmeterlaw06_awake.mono _)
   | (with_reducible exact rillmeterref06_Put.mono _ _ _ _ _ _ _ _ _ _ _)
   | (with_reducible exact rillmeterref06_Right.mono _ _ _ _ _ _ _ _ _ _)
   | (with_reducible exact LeO.refl _)
   | (with_reducible exact LeO.none _)
   | (with_reducible refine LeO.ite ?_ ?_)
   | (with_reducible refine LeO.bind ?_ (fun _ => ?_))
   | exact ih0 _ _ _ _ _ _ _ _ _ _ _ _
   | exact ipfour_Put.mono _ _ _ _ _ _ _ _ _ _ _
   | exact ipfour_Take.mono _ _
   | exact rillmeterlaw06_awake.mono _
   | exact rillmeterref06_Put.mono _ _ _ _ _ _ _ _ _ _ _
   | exact rillmeterref06_Right.mono _ _ _ _ _ _ _ _ _ _
   | exact LeO.none _
   | refine LeO.ite ?_ ?_
   | refine LeO.bind ?_ (fun _ => ?_)
set_option maxHeartbeats 8000000 in
set_option maxRecDepth 100000 in
theorem rillmeterlaw06_IpfourPuts.calls (k : Nat) (a0_0 : Int) (a0_1 : Int) (a0_2 : Int) (a0_3 : Int) (a0_4 : Int) (a0_5 : Int) (a0_6 : ByteArray) (a0_7 : ByteArray) (a0_8 : ByteArray) (a1 : ByteArray) (a2 : ByteArray) (r : Bool) (w : World) (hrt : Aside0 (r = true)) (h : rillmeterlaw06_IpfourPuts.f k a0_0 a0_1 a0_2 a0_3 a0_4 a0_5 a0_6 a0_7 a0_8 a1 a2 = some r) :
  Calls Try.prog 5 #[.agg #[.int .i64 a0_0, .int .i64 a0_1, .int .i64 a0_2, .int .i64 a0_3, .int .i64 a0_4, .int .i64 a0_5, .string a0_6, .string a0_7, .string a0_8], .string a1, .string a2] w fun e w' => e = .returned (.bool r) ∧ Below w.heap.size w w' := by
 have hu27 := Try.underlying27
 have hu33 := Try.underlying33
 have HB := Aside0.mk (Below.refl w.heap.size w)
 have H : (if (a1.size : Int) > 4096 then (rillmeterlaw06_IpfourPuts.j0 k a1 a2 true a0_0 a0_1 a0_2 a0_3 a0_4 a0_5 a0_6 a0_7 a0_8) else (if (a2.size : Int) > 4096 then (rillmeterlaw06_IpfourPuts.j0 k a1 a2 true a0_0 a0_1 a0_2 a0_3 a0_4 a0_5 a0_6 a0_7 a0_8) else (if (a0_8.size : Int) > 4096 then (rillmeterlaw06_IpfourPuts.j0 k a1 a2 true a0_0 a0_1 a0_2 a0_3 a0_4 a0_5 a0_6 a0_7 a0_8) else (rillmeterlaw06_IpfourPuts.j0 k a1 a2 (decide ((wrap64 ((a0_6.size : Int) + (a0_7.size : Int))) > 100)) a0_0 a0_1 a0_2 a0_3 a0_4 a0_5 a0_6 a0_7 a0_8)))) = some r := h
 clear h
 have HC4 := Aside0.mk H
 clear H
 go_enter Try.func5, Try.ntmps5
 go_upto_region 1 with (first | ((with_reducible refine gate_dst (N := 3) rfl ?_); (try (refine gate_guard (by rfl) ?_; dsimp only)); refine box_event ?hg (N := 3) ?hd (cs := #[.int .i64 a0_0, .int .i64 a0_1, .int .i64 a0_2, .int .i64 a0_3, .int .i64 a0_4, .int .i64 a0_5, .string a0_6, .string a0_7, .string a0_8]) (t := 27) ?hr ?_; (case hd => rfl); (case hg => rfl); (case hr => first | (go_simp; done) | (go_simp; rfl)); intro gb101 hg w5 hbox hb; have n0_ := Aside0.mk (below_step (bU_ HB.out) hb); have n1_ := Aside0.mk (hbox); have n2_ := Aside0.mk ((by rw [hg]; exact (below_size (bU_ HB.out)) : w.heap.size ≤ gb101)); have n3_ := Aside0.mk ((by rw [hg]; exact (below_size (bU_ HB.out)) : w.heap.size ≤ gb101)); clear HB; have HB := n0_; have BK101 := n1_; have GW101 := n2_; have GE101 := n3_; clear n0_ n1_ n2_ n3_; clear hb hbox hg))
 (try simp only [Act.put, List.setIfInBounds_toArray, List.set_cons_zero, List.set_cons_succ])
 go_cut [37] (fun v37 wc => ∃ (kq : Nat) (x37_3 : Bool), v37 = .bool x37_3 ∧ Aside0 (rillmeterlaw06_IpfourPuts.j0 kq a1 a2 x37_3 a0_0 a0_1 a0_2 a0_3 a0_4 a0_5 a0_6 a0_7 a0_8 = some r) ∧ Aside0 (kq ≤ k) ∧ Aside0 (wc.heap[gb101]? = some (.cells #[.int .i64 a0_0, .int .i64 a0_1, .int .i64 a0_2, .int .i64 a0_3, .int .i64 a0_4, .int .i64 a0_5, .string a0_6, .string a0_7, .string a0_8] 27 (0, 0))) ∧ Aside0 (Below w.heap.size w wc))
 case first =>
  have H := HC4.out
  clear HC4
  by_cases c6 : (a1.size : Int) > 4096
  ·rw [if_pos c6] at H
   have c6b0 : decide (4096 < (a1.size : Int)) = true := decide_eq_true c6
   have c6b1 : decide (4096 < a1.size) = true := decide_eq_true (by omega)
   clear c6
   (first | rw [c6b0] | (simp only [i64_w, i32_w]; rw [c6b0]) | skip)
   have H' := Aside0.mk H
   clear H
   go_wp2
   go_meet
   case rel => exact ⟨_, (true), (by first | rfl | (simp; done) | (simp [*]; done)), H', ⟨by first | omega | exact Nat.le_refl _⟩, ⟨by (with_reducible repeat first | apply pN_ | apply pD_ | apply pA_); exact BK101.out⟩, ⟨bU_ HB.out⟩⟩
  ·rw [if_neg c6] at H
   have c6b0 : decide (4096 < (a1.size : Int)) = false := decide_eq_false c6
   have c6b1 : decide (4096 < a1.size) = false := decide_eq_false (by omega)
   clear c6
   (first | rw [c6b0] | (simp only [i64_w, i32_w]; rw [c6b0]) | skip)
   by_cases c7 : (a2.size : Int) > 4096
   ·rw [if_pos c7] at H
    have c7b0 : decide (4096 < (a2.size : Int)) = true := decide_eq_true c7
    have c7b1 : decide (4096 < a2.size) = true := decide_eq_true (by omega)
    clear c7
    have H' := Aside0.mk H
    clear H
    go_wp2
    go_meet
    case rel => exact ⟨_, (true), (by first | rfl | (simp; done) | (simp [*]; done)), H', ⟨by first | omega | exact Nat.le_refl _⟩, ⟨by (with_reducible repeat first | apply pN_ | apply pD_ | apply pA_); exact BK101.out⟩, ⟨bU_ HB.out⟩⟩
   ·rw [if_neg c7] at H
    have c7b0 : decide (4096 < (a2.size : Int)) = false := decide_eq_false c7
    have c7b1 : decide (4096 < a2.size) = false := decide_eq_false (by omega)
    clear c7
    by_cases c8 : (a0_8.size : Int) > 4096
    ·rw [if_pos c8] at H
     have c8b0 : decide (4096 < (a0_8.size : Int)) = true := decide_eq_true c8
     have c8b1 : decide (4096 < a0_8.size) = true := decide_eq_true (by omega)
     clear c8
     have H' := Aside0.mk H
     clear H
     have hcz9_0 : w5.cell? ⟨gb101, 0, none⟩ = some (.int .i64 a0_0) := (blk_cell BK101.out 0).trans rfl
     have hcz9_1 : w5.cell? ⟨gb101, 1, none⟩ = some (.int .i64 a0_1) := (blk_cell BK101.out 1).trans rfl
     have hcz9_2 : w5.cell? ⟨gb101, 2, none⟩ = some (.int .i64 a0_2) := (blk_cell BK101.out 2).trans rfl
     have hcz9_3 : w5.cell? ⟨gb101, 3, none⟩ = some (.int .i64 a0_3) := (blk_cell BK101.out 3).trans rfl
     have hcz9_4 : w5.cell? ⟨gb101, 4, none⟩ = some (.int .i64 a0_4) := (blk_cell BK101.out 4).trans rfl
     have hcz9_5 : w5.cell? ⟨gb101, 5, none⟩ = some (.int .i64 a0_5) := (blk_cell BK101.out 5).trans rfl
     have hcz9_6 : w5.cell? ⟨gb101, 6, none⟩ = some (.string a0_6) := (blk_cell BK101.out 6).trans rfl
     have hcz9_7 : w5.cell? ⟨gb101, 7, none⟩ = some (.string a0_7) := (blk_cell BK101.out 7).trans rfl
     have hcz9_8 : w5.cell? ⟨gb101, 8, none⟩ = some (.string a0_8) := (blk_cell BK101.out 8).trans rfl
     have hfz9_0 := blk_frozen BK101.out 0
     have hfz9_1 := blk_frozen BK101.out 1
     have hfz9_2 := blk_frozen BK101.out 2
     have hfz9_3 := blk_frozen BK101.out 3
     have hfz9_4 := blk_frozen BK101.out 4
     have hfz9_5 := blk_frozen BK101.out 5
     have hfz9_6 := blk_frozen BK101.out 6
     have hfz9_7 := blk_frozen BK101.out 7
     have hfz9_8 := blk_frozen BK101.out 8
     go_wp2
     go_meet
     case rel => exact ⟨_, (true), (by first | rfl | (simp; done) | (simp [*]; done)), H', ⟨by first | omega | exact Nat.le_refl _⟩, ⟨by (with_reducible repeat first | apply pN_ | apply pD_ | apply pA_); exact BK101.out⟩, ⟨bU_ HB.out⟩⟩
    ·rw [if_neg c8] at H
     have c8b0 : decide (4096 < (a0_8.size : Int)) = false := decide_eq_false c8
     have c8b1 : decide (4096 < a0_8.size) = false := decide_eq_false (by omega)
     clear c8
     have H' := Aside0.mk H
     clear H
     have hcz10_0 : w5.cell? ⟨gb101, 0, none⟩ = some (.int .i64 a0_0) := (blk_cell BK101.out 0).trans rfl
     have hcz10_1 : w5.cell? ⟨gb101, 1, none⟩ = some (.int .i64 a0_1) := (blk_cell BK101.out 1).trans rfl
     have hcz10_2 : w5.cell? ⟨gb101, 2, none⟩ = some (.int .i64 a0_2) := (blk_cell BK101.out 2).trans rfl
     have hcz10_3 : w5.cell? ⟨gb101, 3, none⟩ = some (.int .i64 a0_3) := (blk_cell BK101.out 3).trans rfl
     have hcz10_4 : w5.cell? ⟨gb101, 4, none⟩ = some (.int .i64 a0_4) := (blk_cell BK101.out 4).trans rfl
     have hcz10_5 : w5.cell? ⟨gb101, 5, none⟩ = some (.int .i64 a0_5) := (blk_cell BK101.out 5).trans rfl
     have hcz10_6 : w5.cell? ⟨gb101, 6, none⟩ = some (.string a0_6) := (blk_cell BK101.out 6).trans rfl
     have hcz10_7 : w5.cell? ⟨gb101, 7, none⟩ = some (.string a0_7) := (blk_cell BK101.out 7).trans rfl
     have hcz10_8 : w5.cell? ⟨gb101, 8, none⟩ = some (.string a0_8) := (blk_cell BK101.out 8).trans rfl
     have hfz10_0 := blk_frozen BK101.out 0
     have hfz10_1 := blk_frozen BK101.out 1
     have hfz10_2 := blk_frozen BK101.out 2
     have hfz10_3 := blk_frozen BK101.out 3
     have hfz10_4 := blk_frozen BK101.out 4
     have hfz10_5 := blk_frozen BK101.out 5
     have hfz10_6 := blk_frozen BK101.out 6
     have hfz10_7 := blk_frozen BK101.out 7
     have hfz10_8 := blk_frozen BK101.out 8
     go_wp2
     go_meet
     case rel => exact ⟨_, (decide ((wrap64 ((a0_6.size : Int) + (a0_7.size : Int))) > 100)), (by first | rfl | (simp; done) | (simp [*]; done)), H', ⟨by first | omega | exact Nat.le_refl _⟩, ⟨by (with_reducible repeat first | apply pN_ | apply pD_ | apply pA_); exact BK101.out⟩, ⟨bU_ HB.out⟩⟩
 case rest =>
  clear HC4
  try clear p2
  try clear c5
  try clear c6
  try clear c6b0
  try clear c6b1
  try clear p6
  try clear c7
  try clear c7b0
  try clear c7b1
  try clear c8
  try clear c8b0
  try clear c8b1
  try clear hcz10_0
  try clear hcz10_1
  try clear hcz10_2
  try clear hcz10_3
  try clear hcz10_4
  try clear hcz10_5
  try clear hcz10_6
  try clear hcz10_7
  try clear hcz10_8
  try clear hcz9_0
  try clear hcz9_1
  try clear hcz9_2
  try clear hcz9_3
  try clear hcz9_4
  try clear hcz9_5
  try clear hcz9_6
  try clear hcz9_7
  try clear hcz9_8
  try clear hfz10_0
  try clear hfz10_1
  try clear hfz10_2
  try clear hfz10_3
  try clear hfz10_4
  try clear hfz10_5
  try clear hfz10_6
  try clear hfz10_7
  try clear hfz10_8
  try clear hfz9_0
  try clear hfz9_1
  try clear hfz9_2
  try clear hfz9_3
  try clear hfz9_4
  try clear hfz9_5
  try clear hfz9_6
  try clear hfz9_7
  try clear hfz9_8
  obtain ⟨kq, x37_3, rfl, HA, HJ3, BK101, HB⟩ := hcut
  cases kq with
  | zero => exact absurd HA.out (by simp [rillmeterlaw06_IpfourPuts.j0])
  | succ kj3 =>
   have H := HA.out
   clear HA
   simp only [rillmeterlaw06_IpfourPuts.j0] at H
   by_cases c11 : x37_3 = true
   ·subst c11
    have H1 : ((rillmeterlaw06_awake.f kj3).bind fun t102 => (some t102)) = some r := by rw [if_pos rfl] at H; exact H
    clear H
    have H := H1
    clear H1
    replace H := Option.bind_eq_some_iff.mp H
    obtain ⟨t102, A120, H⟩ := H
    replace H : (some t102) = some r := H
    have A12 := Aside0.mk A120
    clear A120
    obtain rfl := Option.some.inj H
    go_wp2_with (first | ((with_reducible refine gate_callee (f := 9) rfl ?_); refine gL_ (some 38) rfl rfl Try.func9 (by kernel_rfl) rfl #[] rfl ?_; (with_reducible refine (rillmeterlaw06_awake.calls kj3  t102 _ hrt A12.out).mono ?_); rintro e w13 ⟨rfl, hb⟩; refine ⟨_, rfl, ?_⟩; have n0_ := Aside0.mk (blk_below (g := gb101) (o := .cells #[.int .i64 a0_0, .int .i64 a0_1, .int .i64 a0_2, .int .i64 a0_3, .int .i64 a0_4, .int .i64 a0_5, .string a0_6, .string a0_7, .string a0_8] 27 (0, 0)) (by (with_reducible repeat first | apply pN_ | apply pD_ | apply pA_); exact BK101.out) hb); have n1_ := Aside0.mk (below_step (bU_ HB.out) hb); clear BK101 HB; have BK101 := n0_; have HB := n1_; clear n0_ n1_; (try clear hb); (try clear hb2); (try clear hk); (try clear hi)))
    go_ret
    exact ⟨by first | rfl | (simp [errW_none, errW_some] <;> rfl) | (simp [*, errW_none, errW_some] <;> rfl), bU_ HB.out⟩
   ·replace c11 := Bool.eq_false_iff.mpr c11
    subst c11
    have H1 : ((ipfour_Put.f kj3 a0_0 a0_1 a0_2 a0_3 a0_4 a0_5 a0_6 a0_7 a0_8 a1).bind fun bt103 => ((rillmeterref06_Right.f kj3 a0_0 a0_1 a0_2 a0_3 a0_4 a0_5 a0_6 a0_7 a0_8).bind fun t106 => ((ipfour_Right.f a0_0 a0_1 a0_2 a0_3 a0_4 a0_5 a0_6 a0_7 a0_8).bind fun t107 => (if (t107 != t106) = true then (some false) else (if t106 = true then (if bt103.1.size + a2.size ≤ 9223372036854775807 then ((ipfour_Take.f kj3 (bt103.1 ++ a2)).bind fun bt108 => ((rillmeterref06_Put.f kj3 a0_0 a0_1 a0_2 a0_3 a0_4 a0_5 a0_6 a0_7 a0_8 (a1.size : Int)).bind fun t120 => (if t120.size + a1.size ≤ 9223372036854775807 then (if bt103.1.toList = (t120 ++ a1).toList then (if bt103.2 = 0 then (if (bt108.1 == a0_0 && (bt108.2.1 == a0_1 && (bt108.2.2.1 == a0_2 && (bt108.2.2.2.1 == a0_3 && (bt108.2.2.2.2.1 == a0_4 && (bt108.2.2.2.2.2.1 == a0_5 && (bt108.2.2.2.2.2.2.1.toList == a0_6.toList && (bt108.2.2.2.2.2.2.2.1.toList == a0_7.toList && (bt108.2.2.2.2.2.2.2.2.1.toList == a0_8.toList))))))))) = true then (if bt108.2.2.2.2.2.2.2.2.2.1.toList = a1.toList then (if bt108.2.2.2.2.2.2.2.2.2.2 = 0 then ((rillmeterlaw06_awake.f kj3).bind fun t121 => (some t121)) else (some false)) else (some false)) else (some false)) else (some false)) else (some false)) else (none)))) else (none)) else (if bt103.1.toList = ([] : List UInt8) then (if bt103.2 = 1 then ((rillmeterlaw06_awake.f kj3).bind fun t122 => (some t122)) else (some false)) else (some false))))))) = some r := by rw [if_neg (show ¬ (false = true) by decide)] at H; exact H
    clear H
    have H := H1
    clear H1
    replace H := Option.bind_eq_some_iff.mp H
    obtain ⟨⟨t103, t104⟩, A140, H⟩ := H
    replace H : ((rillmeterref06_Right.f kj3 a0_0 a0_1 a0_2 a0_3 a0_4 a0_5 a0_6 a0_7 a0_8).bind fun t106 => ((ipfour_Right.f a0_0 a0_1 a0_2 a0_3 a0_4 a0_5 a0_6 a0_7 a0_8).bind fun t107 => (if (t107 != t106) = true then (some false) else (if t106 = true then (if t103.size + a2.size ≤ 9223372036854775807 then ((ipfour_Take.f kj3 (t103 ++ a2)).bind fun bt108 => ((rillmeterref06_Put.f kj3 a0_0 a0_1 a0_2 a0_3 a0_4 a0_5 a0_6 a0_7 a0_8 (a1.size : Int)).bind fun t120 => (if t120.size + a1.size ≤ 9223372036854775807 then (if t103.toList = (t120 ++ a1).toList then (if t104 = 0 then (if (bt108.1 == a0_0 && (bt108.2.1 == a0_1 && (bt108.2.2.1 == a0_2 && (bt108.2.2.2.1 == a0_3 && (bt108.2.2.2.2.1 == a0_4 && (bt108.2.2.2.2.2.1 == a0_5 && (bt108.2.2.2.2.2.2.1.toList == a0_6.toList && (bt108.2.2.2.2.2.2.2.1.toList == a0_7.toList && (bt108.2.2.2.2.2.2.2.2.1.toList == a0_8.toList))))))))) = true then (if bt108.2.2.2.2.2.2.2.2.2.1.toList = a1.toList then (if bt108.2.2.2.2.2.2.2.2.2.2 = 0 then ((rillmeterlaw06_awake.f kj3).bind fun t121 => (some t121)) else (some false)) else (some false)) else (some false)) else (some false)) else (some false)) else (none)))) else (none)) else (if t103.toList = ([] : List UInt8) then (if t104 = 1 then ((rillmeterlaw06_awake.f kj3).bind fun t122 => (some t122)) else (some false)) else (some false)))))) = some r := H
    have A14 := Aside0.mk A140
    clear A140
    replace H := Option.bind_eq_some_iff.mp H
    obtain ⟨t106, A150, H⟩ := H
    replace H : ((ipfour_Right.f a0_0 a0_1 a0_2 a0_3 a0_4 a0_5 a0_6 a0_7 a0_8).bind fun t107 => (if (t107 != t106) = true then (some false) else (if t106 = true then (if t103.size + a2.size ≤ 9223372036854775807 then ((ipfour_Take.f kj3 (t103 ++ a2)).bind fun bt108 => ((rillmeterref06_Put.f kj3 a0_0 a0_1 a0_2 a0_3 a0_4 a0_5 a0_6 a0_7 a0_8 (a1.size : Int)).bind fun t120 => (if t120.size + a1.size ≤ 9223372036854775807 then (if t103.toList = (t120 ++ a1).toList then (if t104 = 0 then (if (bt108.1 == a0_0 && (bt108.2.1 == a0_1 && (bt108.2.2.1 == a0_2 && (bt108.2.2.2.1 == a0_3 && (bt108.2.2.2.2.1 == a0_4 && (bt108.2.2.2.2.2.1 == a0_5 && (bt108.2.2.2.2.2.2.1.toList == a0_6.toList && (bt108.2.2.2.2.2.2.2.1.toList == a0_7.toList && (bt108.2.2.2.2.2.2.2.2.1.toList == a0_8.toList))))))))) = true then (if bt108.2.2.2.2.2.2.2.2.2.1.toList = a1.toList then (if bt108.2.2.2.2.2.2.2.2.2.2 = 0 then ((rillmeterlaw06_awake.f kj3).bind fun t121 => (some t121)) else (some false)) else (some false)) else (some false)) else (some false)) else (some false)) else (none)))) else (none)) else (if t103.toList = ([] : List UInt8) then (if t104 = 1 then ((rillmeterlaw06_awake.f kj3).bind fun t122 => (some t122)) else (some false)) else (some false))))) = some r := H
    have A15 := Aside0.mk A150
    clear A150
    replace H := Option.bind_eq_some_iff.mp H
    obtain ⟨t107, A160, H⟩ := H
    replace H : (if (t107 != t106) = true then (some false) else (if t106 = true then (if t103.size + a2.size ≤ 9223372036854775807 then ((ipfour_Take.f kj3 (t103 ++ a2)).bind fun bt108 => ((rillmeterref06_Put.f kj3 a0_0 a0_1 a0_2 a0_3 a0_4 a0_5 a0_6 a0_7 a0_8 (a1.size : Int)).bind fun t120 => (if t120.size + a1.size ≤ 9223372036854775807 then (if t103.toList = (t120 ++ a1).toList then (if t104 = 0 then (if (bt108.1 == a0_0 && (bt108.2.1 == a0_1 && (bt108.2.2.1 == a0_2 && (bt108.2.2.2.1 == a0_3 && (bt108.2.2.2.2.1 == a0_4 && (bt108.2.2.2.2.2.1 == a0_5 && (bt108.2.2.2.2.2.2.1.toList == a0_6.toList && (bt108.2.2.2.2.2.2.2.1.toList == a0_7.toList && (bt108.2.2.2.2.2.2.2.2.1.toList == a0_8.toList))))))))) = true then (if bt108.2.2.2.2.2.2.2.2.2.1.toList = a1.toList then (if bt108.2.2.2.2.2.2.2.2.2.2 = 0 then ((rillmeterlaw06_awake.f kj3).bind fun t121 => (some t121)) else (some false)) else (some false)) else (some false)) else (some false)) else (some false)) else (none)))) else (none)) else (if t103.toList = ([] : List UInt8) then (if t104 = 1 then ((rillmeterlaw06_awake.f kj3).bind fun t122 => (some t122)) else (some false)) else (some false)))) = some r := H
    have A16 := Aside0.mk A160
    clear A160
    by_cases c17 : (t107 != t106) = true
    ·rw [if_pos c17] at H
     obtain rfl := Option.some.inj H
     exact absurd hrt.out (by decide)
    rw [if_neg c17] at H
    have c17b0 : (t107 != t106) = false := by simpa using c17
    (try (have c17b1 : decide (t107 = t106) = true := by simpa using c17))
    (try (have c17b2 : (t107 == t106) = true := by simpa using c17))
    clear c17
    have HC18 := Aside0.mk H
    clear H
    have hcz19_0 : wc.cell? ⟨gb101, 0, none⟩ = some (.int .i64 a0_0) := (blk_cell BK101.out 0).trans rfl
    have hcz19_1 : wc.cell? ⟨gb101, 1, none⟩ = some (.int .i64 a0_1) := (blk_cell BK101.out 1).trans rfl
    have hcz19_2 : wc.cell? ⟨gb101, 2, none⟩ = some (.int .i64 a0_2) := (blk_cell BK101.out 2).trans rfl
    have hcz19_3 : wc.cell? ⟨gb101, 3, none⟩ = some (.int .i64 a0_3) := (blk_cell BK101.out 3).trans rfl
    have hcz19_4 : wc.cell? ⟨gb101, 4, none⟩ = some (.int .i64 a0_4) := (blk_cell BK101.out 4).trans rfl
    have hcz19_5 : wc.cell? ⟨gb101, 5, none⟩ = some (.int .i64 a0_5) := (blk_cell BK101.out 5).trans rfl
    have hcz19_6 : wc.cell? ⟨gb101, 6, none⟩ = some (.string a0_6) := (blk_cell BK101.out 6).trans rfl
    have hcz19_7 : wc.cell? ⟨gb101, 7, none⟩ = some (.string a0_7) := (blk_cell BK101.out 7).trans rfl
    have hcz19_8 : wc.cell? ⟨gb101, 8, none⟩ = some (.string a0_8) := (blk_cell BK101.out 8).trans rfl
    have hfz19_0 := blk_frozen BK101.out 0
    have hfz19_1 := blk_frozen BK101.out 1
    have hfz19_2 := blk_frozen BK101.out 2
    have hfz19_3 := blk_frozen BK101.out 3
    have hfz19_4 := blk_frozen BK101.out 4
    have hfz19_5 := blk_frozen BK101.out 5
    have hfz19_6 := blk_frozen BK101.out 6
    have hfz19_7 := blk_frozen BK101.out 7
    have hfz19_8 := blk_frozen BK101.out 8
    go_upto_if 53 with (first | ((with_reducible refine gate_callee (f := 8) rfl ?_); refine gL_ (some 42) rfl rfl Try.func8 (by kernel_rfl) rfl #[.agg #[.int .i64 a0_0, .int .i64 a0_1, .int .i64 a0_2, .int .i64 a0_3, .int .i64 a0_4, .int .i64 a0_5, .string a0_6, .string a0_7, .string a0_8], .string a1] rfl ?_; (with_reducible refine (ipfour_Put.calls kj3 a0_0 a0_1 a0_2 a0_3 a0_4 a0_5 a0_6 a0_7 a0_8 a1 t103 t104 _ A14.out).mono ?_); rintro e w20 ⟨rfl, hb⟩; refine ⟨_, rfl, ?_⟩; have n0_ := Aside0.mk (blk_below (g := gb101) (o := .cells #[.int .i64 a0_0, .int .i64 a0_1, .int .i64 a0_2, .int .i64 a0_3, .int .i64 a0_4, .int .i64 a0_5, .string a0_6, .string a0_7, .string a0_8] 27 (0, 0)) (by (with_reducible repeat first | apply pN_ | apply pD_ | apply pA_); exact BK101.out) hb); have n1_ := Aside0.mk (below_step (bU_ HB.out) hb); clear BK101 HB; have BK101 := n0_; have HB := n1_; clear n0_ n1_; (try clear hb); (try clear hb2); (try clear hk); (try clear hi); have hcz21_0 : w20.cell? ⟨gb101, 0, none⟩ = some (.int .i64 a0_0) := (blk_cell BK101.out 0).trans rfl; have hcz21_1 : w20.cell? ⟨gb101, 1, none⟩ = some (.int .i64 a0_1) := (blk_cell BK101.out 1).trans rfl; have hcz21_2 : w20.cell? ⟨gb101, 2, none⟩ = some (.int .i64 a0_2) := (blk_cell BK101.out 2).trans rfl; have hcz21_3 : w20.cell? ⟨gb101, 3, none⟩ = some (.int .i64 a0_3) := (blk_cell BK101.out 3).trans rfl; have hcz21_4 : w20.cell? ⟨gb101, 4, none⟩ = some (.int .i64 a0_4) := (blk_cell BK101.out 4).trans rfl; have hcz21_5 : w20.cell? ⟨gb101, 5, none⟩ = some (.int .i64 a0_5) := (blk_cell BK101.out 5).trans rfl; have hcz21_6 : w20.cell? ⟨gb101, 6, none⟩ = some (.string a0_6) := (blk_cell BK101.out 6).trans rfl; have hcz21_7 : w20.cell? ⟨gb101, 7, none⟩ = some (.string a0_7) := (blk_cell BK101.out 7).trans rfl; have hcz21_8 : w20.cell? ⟨gb101, 8, none⟩ = some (.string a0_8) := (blk_cell BK101.out 8).trans rfl; have hfz21_0 := blk_frozen BK101.out 0; have hfz21_1 := blk_frozen BK101.out 1; have hfz21_2 := blk_frozen BK101.out 2; have hfz21_3 := blk_frozen BK101.out 3; have hfz21_4 := blk_frozen BK101.out 4; have hfz21_5 := blk_frozen BK101.out 5; have hfz21_6 := blk_frozen BK101.out 6; have hfz21_7 := blk_frozen BK101.out 7; have hfz21_8 := blk_frozen BK101.out 8) | ((with_reducible refine gate_dst (N := 9) rfl ?_); (try (refine gate_guard (by rfl) ?_; dsimp only)); refine box_event ?hg (N := 9) ?hd (cs := Z17_0) (t := 33) ?hr ?_; (case hd => rfl); (case hg => rfl); (case hr => first | (go_simp; done) | (go_simp; rfl)); intro gb105 hg w22 hbox hb; have n0_ := Aside0.mk (blk_below (g := gb101) (o := .cells #[.int .i64 a0_0, .int .i64 a0_1, .int .i64 a0_2, .int .i64 a0_3, .int .i64 a0_4, .int .i64 a0_5, .string a0_6, .string a0_7, .string a0_8] 27 (0, 0)) (by (with_reducible repeat first | apply pN_ | apply pD_ | apply pA_); exact BK101.out) hb); have n1_ := Aside0.mk (below_step (bU_ HB.out) hb); have n2_ := Aside0.mk (hbox); have n3_ := Aside0.mk ((by rw [hg]; exact (below_size (bU_ HB.out)) : w.heap.size ≤ gb105)); have n4_ := Aside0.mk ((by rw [hg]; exact (below_size (bU_ HB.out)) : w.heap.size ≤ gb105)); have n5_ := Aside0.mk ((by rw [hg]; exact Nat.ne_of_lt (blk_lt (g := gb101) (o := .cells #[.int .i64 a0_0, .int .i64 a0_1, .int .i64 a0_2, .int .i64 a0_3, .int .i64 a0_4, .int .i64 a0_5, .string a0_6, .string a0_7, .string a0_8] 27 (0, 0)) (by (with_reducible repeat first | apply pN_ | apply pD_ | apply pA_); exact BK101.out)) : gb101 ≠ gb105)); have n6_ := Aside0.mk (Ne.symm n5_.out); clear BK101 HB; have BK101 := n0_; have HB := n1_; have BK105 := n2_; have GW105 := n3_; have GE105 := n4_; have NB101_105 := n5_; have NB105_101 := n6_; clear n0_ n1_ n2_ n3_ n4_ n5_ n6_; clear hb hbox hg; have hnb23 := NB105_101.out; have hnc23 := NB101_105.out; have hcz24_0 : w22.cell? ⟨gb105, 0, none⟩ = some (.int .i64 0) := (blk_cell BK105.out 0).trans rfl; have hcz24_1 : w22.cell? ⟨gb105, 1, none⟩ = some (.int .i64 0) := (blk_cell BK105.out 1).trans rfl; have hcz24_2 : w22.cell? ⟨gb105, 2, none⟩ = some (.int .i64 0) := (blk_cell BK105.out 2).trans rfl; have hcz24_3 : w22.cell? ⟨gb105, 3, none⟩ = some (.int .i64 0) := (blk_cell BK105.out 3).trans rfl; have hcz24_4 : w22.cell? ⟨gb105, 4, none⟩ = some (.int .i64 0) := (blk_cell BK105.out 4).trans rfl; have hcz24_5 : w22.cell? ⟨gb105, 5, none⟩ = some (.int .i64 0) := (blk_cell BK105.out 5).trans rfl; have hcz24_6 : w22.cell? ⟨gb105, 6, none⟩ = some (.string ⟨#[]⟩) := (blk_cell BK105.out 6).trans rfl; have hcz24_7 : w22.cell? ⟨gb105, 7, none⟩ = some (.string ⟨#[]⟩) := (blk_cell BK105.out 7).trans rfl; have hcz24_8 : w22.cell? ⟨gb105, 8, none⟩ = some (.string ⟨#[]⟩) := (blk_cell BK105.out 8).trans rfl; have hfz24_0 := blk_frozen BK105.out 0; have hfz24_1 := blk_frozen BK105.out 1; have hfz24_2 := blk_frozen BK105.out 2; have hfz24_3 := blk_frozen BK105.out 3; have hfz24_4 := blk_frozen BK105.out 4; have hfz24_5 := blk_frozen BK105.out 5; have hfz24_6 := blk_frozen BK105.out 6; have hfz24_7 := blk_frozen BK105.out 7; have hfz24_8 := blk_frozen BK105.out 8) | ((with_reducible refine gate_callee (f := 12) rfl ?_); refine gL_ (some 47) rfl rfl Try.func12 (by kernel_rfl) rfl #[.agg #[.int .i64 a0_0, .int .i64 a0_1, .int .i64 a0_2, .int .i64 a0_3, .int .i64 a0_4, .int .i64 a0_5, .string a0_6, .string a0_7, .string a0_8]] rfl ?_; (with_reducible refine (rillmeterref06_Right.calls kj3 a0_0 a0_1 a0_2 a0_3 a0_4 a0_5 a0_6 a0_7 a0_8 t106 _ A15.out).mono ?_); rintro e w25 ⟨rfl, hb⟩; refine ⟨_, rfl, ?_⟩; have n0_ := Aside0.mk (blk_below (g := gb101) (o := .cells #[.int .i64 a0_0, .int .i64 a0_1, .int .i64 a0_2, .int .i64 a0_3, .int .i64 a0_4, .int .i64 a0_5, .string a0_6, .string a0_7, .string a0_8] 27 (0, 0)) (by (iterate 9 ((with_reducible repeat first | apply pN_ | apply pD_ | apply pA_); refine blk_far ?_ NB101_105.out _)); (with_reducible repeat first | apply pN_ | apply pD_ | apply pA_); exact BK101.out) hb); have n1_ := Aside0.mk (blk_below (g := gb105) (o := .cells #[.int .i64 a0_0, .int .i64 a0_1, .int .i64 a0_2, .int .i64 a0_3, .int .i64 a0_4, .int .i64 a0_5, .string a0_6, .string a0_7, .string a0_8] 33 (0, 0)) (by (with_reducible repeat first | apply pN_ | apply pD_ | apply pA_); refine blk_put (cs := #[.int .i64 a0_0, .int .i64 a0_1, .int .i64 a0_2, .int .i64 a0_3, .int .i64 a0_4, .int .i64 a0_5, .string a0_6, .string a0_7, .string ⟨#[]⟩]) ?_ 8 _ rfl; (with_reducible repeat first | apply pN_ | apply pD_ | apply pA_); refine blk_put (cs := #[.int .i64 a0_0, .int .i64 a0_1, .int .i64 a0_2, .int .i64 a0_3, .int .i64 a0_4, .int .i64 a0_5, .string a0_6, .string ⟨#[]⟩, .string ⟨#[]⟩]) ?_ 7 _ rfl; (with_reducible repeat first | apply pN_ | apply pD_ | apply pA_); refine blk_put (cs := #[.int .i64 a0_0, .int .i64 a0_1, .int .i64 a0_2, .int .i64 a0_3, .int .i64 a0_4, .int .i64 a0_5, .string ⟨#[]⟩, .string ⟨#[]⟩, .string ⟨#[]⟩]) ?_ 6 _ rfl; (with_reducible repeat first | apply pN_ | apply pD_ | apply pA_); refine blk_put (cs := #[.int .i64 a0_0, .int .i64 a0_1, .int .i64 a0_2, .int .i64 a0_3, .int .i64 a0_4, .int .i64 0, .string ⟨#[]⟩, .string ⟨#[]⟩, .string ⟨#[]⟩]) ?_ 5 _ rfl; (with_reducible repeat first | apply pN_ | apply pD_ | apply pA_); refine blk_put (cs := #[.int .i64 a0_0, .int .i64 a0_1, .int .i64 a0_2, .int .i64 a0_3, .int .i64 0, .int .i64 0, .string ⟨#[]⟩, .string ⟨#[]⟩, .string ⟨#[]⟩]) ?_ 4 _ rfl; (with_reducible repeat first | apply pN_ | apply pD_ | apply pA_); refine blk_put (cs := #[.int .i64 a0_0, .int .i64 a0_1, .int .i64 a0_2, .int .i64 0, .int .i64 0, .int .i64 0, .string ⟨#[]⟩, .string ⟨#[]⟩, .string ⟨#[]⟩]) ?_ 3 _ rfl; (with_reducible repeat first | apply pN_ | apply pD_ | apply pA_); refine blk_put (cs := #[.int .i64 a0_0, .int .i64 a0_1, .int .i64 0, .int .i64 0, .int .i64 0, .int .i64 0, .string ⟨#[]⟩, .string ⟨#[]⟩, .string ⟨#[]⟩]) ?_ 2 _ rfl; (with_reducible repeat first | apply pN_ | apply pD_ | apply pA_); refine blk_put (cs := #[.int .i64 a0_0, .int .i64 0, .int .i64 0, .int .i64 0, .int .i64 0, .int .i64 0, .string ⟨#[]⟩, .string ⟨#[]⟩, .string ⟨#[]⟩]) ?_ 1 _ rfl; (with_reducible repeat first | apply pN_ | apply pD_ | apply pA_); refine blk_put (cs := Z17_0) ?_ 0 _ rfl; (with_reducible repeat first | apply pN_ | apply pD_ | apply pA_); exact BK105.out) hb); have n2_ := Aside0.mk (below_step (bU_ HB.out) hb); clear BK101 BK105 HB; have BK101 := n0_; have BK105 := n1_; have HB := n2_; clear n0_ n1_ n2_; (try clear hb); (try clear hb2); (try clear hk); (try clear hi); have hcz26_0 : w25.cell? ⟨gb101, 0, none⟩ = some (.int .i64 a0_0) := (blk_cell BK101.out 0).trans rfl; have hcz26_1 : w25.cell? ⟨gb101, 1, none⟩ = some (.int .i64 a0_1) := (blk_cell BK101.out 1).trans rfl; have hcz26_2 : w25.cell? ⟨gb101, 2, none⟩ = some (.int .i64 a0_2) := (blk_cell BK101.out 2).trans rfl; have hcz26_3 : w25.cell? ⟨gb101, 3, none⟩ = some (.int .i64 a0_3) := (blk_cell BK101.out 3).trans rfl; have hcz26_4 : w25.cell? ⟨gb101, 4, none⟩ = some (.int .i64 a0_4) := (blk_cell BK101.out 4).trans rfl; have hcz26_5 : w25.cell? ⟨gb101, 5, none⟩ = some (.int .i64 a0_5) := (blk_cell BK101.out 5).trans rfl; have hcz26_6 : w25.cell? ⟨gb101, 6, none⟩ = some (.string a0_6) := (blk_cell BK101.out 6).trans rfl; have hcz26_7 : w25.cell? ⟨gb101, 7, none⟩ = some (.string a0_7) := (blk_cell BK101.out 7).trans rfl; have hcz26_8 : w25.cell? ⟨gb101, 8, none⟩ = some (.string a0_8) := (blk_cell BK101.out 8).trans rfl; have hfz26_0 := blk_frozen BK101.out 0; have hfz26_1 := blk_frozen BK101.out 1; have hfz26_2 := blk_frozen BK101.out 2; have hfz26_3 := blk_frozen BK101.out 3; have hfz26_4 := blk_frozen BK101.out 4; have hfz26_5 := blk_frozen BK101.out 5; have hfz26_6 := blk_frozen BK101.out 6; have hfz26_7 := blk_frozen BK101.out 7; have hfz26_8 := blk_frozen BK101.out 8) | ((with_reducible refine gate_callee (f := 13) rfl ?_); refine gL_ (some 49) rfl rfl Try.func13 (by kernel_rfl) rfl #[.agg #[.int .i64 a0_0, .int .i64 a0_1, .int .i64 a0_2, .int .i64 a0_3, .int .i64 a0_4, .int .i64 a0_5, .string a0_6, .string a0_7, .string a0_8]] rfl ?_; (with_reducible refine (ipfour_Right.calls a0_0 a0_1 a0_2 a0_3 a0_4 a0_5 a0_6 a0_7 a0_8 t107 _ A16.out).mono ?_); rintro e w27 ⟨rfl, hb⟩; refine ⟨_, rfl, ?_⟩; have n0_ := Aside0.mk (blk_below (g := gb101) (o := .cells #[.int .i64 a0_0, .int .i64 a0_1, .int .i64 a0_2, .int .i64 a0_3, .int .i64 a0_4, .int .i64 a0_5, .string a0_6, .string a0_7, .string a0_8] 27 (0, 0)) (by (with_reducible repeat first | apply pN_ | apply pD_ | apply pA_); exact BK101.out) hb); have n1_ := Aside0.mk (blk_below (g := gb105) (o := .cells #[.int .i64 a0_0, .int .i64 a0_1, .int .i64 a0_2, .int .i64 a0_3, .int .i64 a0_4, .int .i64 a0_5, .string a0_6, .string a0_7, .string a0_8] 33 (0, 0)) (by (with_reducible repeat first | apply pN_ | apply pD_ | apply pA_); exact BK105.out) hb); have n2_ := Aside0.mk (below_step (bU_ HB.out) hb); clear BK101 BK105 HB; have BK101 := n0_; have BK105 := n1_; have HB := n2_; clear n0_ n1_ n2_; (try clear hb); (try clear hb2); (try clear hk); (try clear hi)))
    (try simp only [Act.put, List.setIfInBounds_toArray, List.set_cons_zero, List.set_cons_succ])
    have H := HC18.out
    clear HC18
    by_cases c28 : t106 = true
    ·subst c28
     have H1 : (if t103.size + a2.size ≤ 9223372036854775807 then ((ipfour_Take.f kj3 (t103 ++ a2)).bind fun bt108 => ((rillmeterref06_Put.f kj3 a0_0 a0_1 a0_2 a0_3 a0_4 a0_5 a0_6 a0_7 a0_8 (a1.size : Int)).bind fun t120 => (if t120.size + a1.size ≤ 9223372036854775807 then (if t103.toList = (t120 ++ a1).toList then (if t104 = 0 then (if (bt108.1 == a0_0 && (bt108.2.1 == a0_1 && (bt108.2.2.1 == a0_2 && (bt108.2.2.2.1 == a0_3 && (bt108.2.2.2.2.1 == a0_4 && (bt108.2.2.2.2.2.1 == a0_5 && (bt108.2.2.2.2.2.2.1.toList == a0_6.toList && (bt108.2.2.2.2.2.2.2.1.toList == a0_7.toList && (bt108.2.2.2.2.2.2.2.2.1.toList == a0_8.toList))))))))) = true then (if bt108.2.2.2.2.2.2.2.2.2.1.toList = a1.toList then (if bt108.2.2.2.2.2.2.2.2.2.2 = 0 then ((rillmeterlaw06_awake.f kj3).bind fun t121 => (some t121)) else (some false)) else (some false)) else (some false)) else (some false)) else (some false)) else (none)))) else (none)) = some r := by rw [if_pos rfl] at H; exact H
     clear H
     have H := H1
     clear H1
     by_cases c29 : t103.size + a2.size ≤ 9223372036854775807
     rotate_left
     ·rw [if_neg c29] at H
      exact absurd H (by simp)
     rw [if_pos c29] at H
     have c29b0 := eq_true c29
     have c29b1 : decide (t103.size + a2.size ≤ 9223372036854775807) = true := decide_eq_true c29
     try have c29b2 : (9223372036854775807 < t103.size + a2.size) = False := eq_false (Nat.not_lt.2 c29)
     try (have c29b3 := c29; simp only [ByteArray.size_append, ByteArray.size_extract, Nat.sub_zero, Nat.min_self] at c29b3; have c29b4 := eq_false (Nat.not_lt.2 c29b3))
     replace H := Option.bind_eq_some_iff.mp H
     obtain ⟨⟨t108, t109, t110, t111, t112, t113, t114, t115, t116, t117, t118⟩, A300, H⟩ := H
     replace H : ((rillmeterref06_Put.f kj3 a0_0 a0_1 a0_2 a0_3 a0_4 a0_5 a0_6 a0_7 a0_8 (a1.size : Int)).bind fun t120 => (if t120.size + a1.size ≤ 9223372036854775807 then (if t103.toList = (t120 ++ a1).toList then (if t104 = 0 then (if (t108 == a0_0 && (t109 == a0_1 && (t110 == a0_2 && (t111 == a0_3 && (t112 == a0_4 && (t113 == a0_5 && (t114.toList == a0_6.toList && (t115.toList == a0_7.toList && (t116.toList == a0_8.toList))))))))) = true then (if t117.toList = a1.toList then (if t118 = 0 then ((rillmeterlaw06_awake.f kj3).bind fun t121 => (some t121)) else (some false)) else (some false)) else (some false)) else (some false)) else (some false)) else (none))) = some r := H
     have A30 := Aside0.mk A300
     clear A300
     replace H := Option.bind_eq_some_iff.mp H
     obtain ⟨t120, A310, H⟩ := H
     replace H : (if t120.size + a1.size ≤ 9223372036854775807 then (if t103.toList = (t120 ++ a1).toList then (if t104 = 0 then (if (t108 == a0_0 && (t109 == a0_1 && (t110 == a0_2 && (t111 == a0_3 && (t112 == a0_4 && (t113 == a0_5 && (t114.toList == a0_6.toList && (t115.toList == a0_7.toList && (t116.toList == a0_8.toList))))))))) = true then (if t117.toList = a1.toList then (if t118 = 0 then ((rillmeterlaw06_awake.f kj3).bind fun t121 => (some t121)) else (some false)) else (some false)) else (some false)) else (some false)) else (some false)) else (none)) = some r := H
     have A31 := Aside0.mk A310
     clear A310
     by_cases c32 : t120.size + a1.size ≤ 9223372036854775807
     rotate_left
     ·rw [if_neg c32] at H
      exact absurd H (by simp)
     rw [if_pos c32] at H
     have c32b0 := eq_true c32
     have c32b1 : decide (t120.size + a1.size ≤ 9223372036854775807) = true := decide_eq_true c32
     try have c32b2 : (9223372036854775807 < t120.size + a1.size) = False := eq_false (Nat.not_lt.2 c32)
     try (have c32b3 := c32; simp only [ByteArray.size_append, ByteArray.size_extract, Nat.sub_zero, Nat.min_self] at c32b3; have c32b4 := eq_false (Nat.not_lt.2 c32b3))
     by_cases c33 : t103.toList = (t120 ++ a1).toList
     rotate_left
     ·rw [if_neg c33] at H
      obtain rfl := Option.some.inj H
      exact absurd hrt.out (by decide)
     rw [if_pos c33] at H
     have c33b0 : (t103.toList == (t120 ++ a1).toList) = true := beq_iff_eq.mpr c33
     have c33b1 : (t103.toList != (t120 ++ a1).toList) = false := bne_eq_false_iff_eq.mpr c33
     clear c33
     (first | rw [c33b0] | (simp only [i64_w, i32_w]; rw [c33b0]) | skip)
     by_cases c34 : t104 = 0
     rotate_left
     ·rw [if_neg c34] at H
      obtain rfl := Option.some.inj H
      exact absurd hrt.out (by decide)
     rw [if_pos c34] at H
     have c34b0 : (t104 == 0) = true := beq_iff_eq.mpr c34
     have c34b1 : (t104 != 0) = false := bne_eq_false_iff_eq.mpr c34
     clear c34
     by_cases c35 : (t108 == a0_0 && (t109 == a0_1 && (t110 == a0_2 && (t111 == a0_3 && (t112 == a0_4 && (t113 == a0_5 && (t114.toList == a0_6.toList && (t115.toList == a0_7.toList && (t116.toList == a0_8.toList))))))))) = true
     rotate_left
     ·rw [if_neg c35] at H
      obtain rfl := Option.some.inj H
      exact absurd hrt.out (by decide)
     rw [if_pos c35] at H
     have c35b0 : (t108 == a0_0 && (t109 == a0_1 && (t110 == a0_2 && (t111 == a0_3 && (t112 == a0_4 && (t113 == a0_5 && (t114.toList == a0_6.toList && (t115.toList == a0_7.toList && (t116.toList == a0_8.toList))))))))) = true := c35
     have c35b1 : (t108 == a0_0) = true := by have h_ := c35; simp only [Bool.and_eq_true] at h_; exact h_.1
     have c35b2 : (t109 == a0_1) = true := by have h_ := c35; simp only [Bool.and_eq_true] at h_; exact h_.2.1
     have c35b3 : (t110 == a0_2) = true := by have h_ := c35; simp only [Bool.and_eq_true] at h_; exact h_.2.2.1
     have c35b4 : (t111 == a0_3) = true := by have h_ := c35; simp only [Bool.and_eq_true] at h_; exact h_.2.2.2.1
     have c35b5 : (t112 == a0_4) = true := by have h_ := c35; simp only [Bool.and_eq_true] at h_; exact h_.2.2.2.2.1
     have c35b6 : (t113 == a0_5) = true := by have h_ := c35; simp only [Bool.and_eq_true] at h_; exact h_.2.2.2.2.2.1
     have c35b7 : (t114.toList == a0_6.toList) = true := by have h_ := c35; simp only [Bool.and_eq_true] at h_; exact h_.2.2.2.2.2.2.1
     have c35b8 : (t115.toList == a0_7.toList) = true := by have h_ := c35; simp only [Bool.and_eq_true] at h_; exact h_.2.2.2.2.2.2.2.1
     have c35b9 : (t116.toList == a0_8.toList) = true := by have h_ := c35; simp only [Bool.and_eq_true] at h_; exact h_.2.2.2.2.2.2.2.2
     clear c35
     by_cases c36 : t117.toList = a1.toList
     rotate_left
     ·rw [if_neg c36] at H
      obtain rfl := Option.some.inj H
      exact absurd hrt.out (by decide)
     rw [if_pos c36] at H
     have c36b0 : (t117.toList == a1.toList) = true := beq_iff_eq.mpr c36
     have c36b1 : (t117.toList != a1.toList) = false := bne_eq_false_iff_eq.mpr c36
     clear c36
     by_cases c37 : t118 = 0
     rotate_left
     ·rw [if_neg c37] at H
      obtain rfl := Option.some.inj H
      exact absurd hrt.out (by decide)
     rw [if_pos c37] at H
     have c37b0 : (t118 == 0) = true := beq_iff_eq.mpr c37
     have c37b1 : (t118 != 0) = false := bne_eq_false_iff_eq.mpr c37
     clear c37
     replace H := Option.bind_eq_some_iff.mp H
     obtain ⟨t121, A380, H⟩ := H
     replace H : (some t121) = some r := H
     have A38 := Aside0.mk A380
     clear A380
     obtain rfl := Option.some.inj H
     go_wp2_with (first | ((with_reducible refine gate_callee (f := 10) rfl ?_); refine gL_ (some 67) rfl rfl Try.func10 (by kernel_rfl) rfl #[.string (t103 ++ a2)] rfl ?_; (with_reducible refine (ipfour_Take.calls kj3 (t103 ++ a2) t108 t109 t110 t111 t112 t113 t114 t115 t116 t117 t118 _ A30.out).mono ?_); rintro e w39 ⟨rfl, hb⟩; refine ⟨_, rfl, ?_⟩; have n0_ := Aside0.mk (blk_below (g := gb101) (o := .cells #[.int .i64 a0_0, .int .i64 a0_1, .int .i64 a0_2, .int .i64 a0_3, .int .i64 a0_4, .int .i64 a0_5, .string a0_6, .string a0_7, .string a0_8] 27 (0, 0)) (by (with_reducible repeat first | apply pN_ | apply pD_ | apply pA_); exact BK101.out) hb); have n1_ := Aside0.mk (blk_below (g := gb105) (o := .cells #[.int .i64 a0_0, .int .i64 a0_1, .int .i64 a0_2, .int .i64 a0_3, .int .i64 a0_4, .int .i64 a0_5, .string a0_6, .string a0_7, .string a0_8] 33 (0, 0)) (by (with_reducible repeat first | apply pN_ | apply pD_ | apply pA_); exact BK105.out) hb); have n2_ := Aside0.mk (below_step (bU_ HB.out) hb); clear BK101 BK105 HB; have BK101 := n0_; have BK105 := n1_; have HB := n2_; clear n0_ n1_ n2_; (try clear hb); (try clear hb2); (try clear hk); (try clear hi)) | ((with_reducible refine gate_dst (N := 11) rfl ?_); (try (refine gate_guard (by rfl) ?_; dsimp only)); refine box_event ?hg (N := 11) ?hd (cs := Z17_0) (t := 27) ?hr ?_; (case hd => rfl); (case hg => rfl); (case hr => first | (go_simp; done) | (go_simp; rfl)); intro gb119 hg w40 hbox hb; have n0_ := Aside0.mk (blk_below (g := gb101) (o := .cells #[.int .i64 a0_0, .int .i64 a0_1, .int .i64 a0_2, .int .i64 a0_3, .int .i64 a0_4, .int .i64 a0_5, .string a0_6, .string a0_7, .string a0_8] 27 (0, 0)) (by (with_reducible repeat first | apply pN_ | apply pD_ | apply pA_); exact BK101.out) hb); have n1_ := Aside0.mk (blk_below (g := gb105) (o := .cells #[.int .i64 a0_0, .int .i64 a0_1, .int .i64 a0_2, .int .i64 a0_3, .int .i64 a0_4, .int .i64 a0_5, .string a0_6, .string a0_7, .string a0_8] 33 (0, 0)) (by (with_reducible repeat first | apply pN_ | apply pD_ | apply pA_); exact BK105.out) hb); have n2_ := Aside0.mk (below_step (bU_ HB.out) hb); have n3_ := Aside0.mk (hbox); have n4_ := Aside0.mk ((by rw [hg]; exact (below_size (bU_ HB.out)) : w.heap.size ≤ gb119)); have n5_ := Aside0.mk ((by rw [hg]; exact (below_size (bU_ HB.out)) : w.heap.size ≤ gb119)); have n6_ := Aside0.mk ((by rw [hg]; exact Nat.ne_of_lt (blk_lt (g := gb101) (o := .cells #[.int .i64 a0_0, .int .i64 a0_1, .int .i64 a0_2, .int .i64 a0_3, .int .i64 a0_4, .int .i64 a0_5, .string a0_6, .string a0_7, .string a0_8] 27 (0, 0)) (by (with_reducible repeat first | apply pN_ | apply pD_ | apply pA_); exact BK101.out)) : gb101 ≠ gb119)); have n7_ := Aside0.mk (Ne.symm n6_.out); have n8_ := Aside0.mk ((by rw [hg]; exact Nat.ne_of_lt (blk_lt (g := gb105) (o := .cells #[.int .i64 a0_0, .int .i64 a0_1, .int .i64 a0_2, .int .i64 a0_3, .int .i64 a0_4, .int .i64 a0_5, .string a0_6, .string a0_7, .string a0_8] 33 (0, 0)) (by (with_reducible repeat first | apply pN_ | apply pD_ | apply pA_); exact BK105.out)) : gb105 ≠ gb119)); have n9_ := Aside0.mk (Ne.symm n8_.out); clear BK101 BK105 HB; have BK101 := n0_; have BK105 := n1_; have HB := n2_; have BK119 := n3_; have GW119 := n4_; have GE119 := n5_; have NB101_119 := n6_; have NB119_101 := n7_; have NB105_119 := n8_; have NB119_105 := n9_; clear n0_ n1_ n2_ n3_ n4_ n5_ n6_ n7_ n8_ n9_; clear hb hbox hg; have hnb41 := NB119_101.out; have hnc41 := NB101_119.out; have hnb42 := NB119_105.out; have hnc42 := NB105_119.out; have hcz43_0 : w40.cell? ⟨gb119, 0, none⟩ = some (.int .i64 0) := (blk_cell BK119.out 0).trans rfl; have hcz43_1 : w40.cell? ⟨gb119, 1, none⟩ = some (.int .i64 0) := (blk_cell BK119.out 1).trans rfl; have hcz43_2 : w40.cell? ⟨gb119, 2, none⟩ = some (.int .i64 0) := (blk_cell BK119.out 2).trans rfl; have hcz43_3 : w40.cell? ⟨gb119, 3, none⟩ = some (.int .i64 0) := (blk_cell BK119.out 3).trans rfl; have hcz43_4 : w40.cell? ⟨gb119, 4, none⟩ = some (.int .i64 0) := (blk_cell BK119.out 4).trans rfl; have hcz43_5 : w40.cell? ⟨gb119, 5, none⟩ = some (.int .i64 0) := (blk_cell BK119.out 5).trans rfl; have hcz43_6 : w40.cell? ⟨gb119, 6, none⟩ = some (.string ⟨#[]⟩) := (blk_cell BK119.out 6).trans rfl; have hcz43_7 : w40.cell? ⟨gb119, 7, none⟩ = some (.string ⟨#[]⟩) := (blk_cell BK119.out 7).trans rfl; have hcz43_8 : w40.cell? ⟨gb119, 8, none⟩ = some (.string ⟨#[]⟩) := (blk_cell BK119.out 8).trans rfl; have hfz43_0 := blk_frozen BK119.out 0; have hfz43_1 := blk_frozen BK119.out 1; have hfz43_2 := blk_frozen BK119.out 2; have hfz43_3 := blk_frozen BK119.out 3; have hfz43_4 := blk_frozen BK119.out 4; have hfz43_5 := blk_frozen BK119.out 5; have hfz43_6 := blk_frozen BK119.out 6; have hfz43_7 := blk_frozen BK119.out 7; have hfz43_8 := blk_frozen BK119.out 8; have hnb44 := NB105_101.out; have hnc44 := NB101_105.out; have hcz45_0 : w40.cell? ⟨gb105, 0, none⟩ = some (.int .i64 a0_0) := (blk_cell BK105.out 0).trans rfl; have hcz45_1 : w40.cell? ⟨gb105, 1, none⟩ = some (.int .i64 a0_1) := (blk_cell BK105.out 1).trans rfl; have hcz45_2 : w40.cell? ⟨gb105, 2, none⟩ = some (.int .i64 a0_2) := (blk_cell BK105.out 2).trans rfl; have hcz45_3 : w40.cell? ⟨gb105, 3, none⟩ = some (.int .i64 a0_3) := (blk_cell BK105.out 3).trans rfl; have hcz45_4 : w40.cell? ⟨gb105, 4, none⟩ = some (.int .i64 a0_4) := (blk_cell BK105.out 4).trans rfl; have hcz45_5 : w40.cell? ⟨gb105, 5, none⟩ = some (.int .i64 a0_5) := (blk_cell BK105.out 5).trans rfl; have hcz45_6 : w40.cell? ⟨gb105, 6, none⟩ = some (.string a0_6) := (blk_cell BK105.out 6).trans rfl; have hcz45_7 : w40.cell? ⟨gb105, 7, none⟩ = some (.string a0_7) := (blk_cell BK105.out 7).trans rfl; have hcz45_8 : w40.cell? ⟨gb105, 8, none⟩ = some (.string a0_8) := (blk_cell BK105.out 8).trans rfl; have hfz45_0 := blk_frozen BK105.out 0; have hfz45_1 := blk_frozen BK105.out 1; have hfz45_2 := blk_frozen BK105.out 2; have hfz45_3 := blk_frozen BK105.out 3; have hfz45_4 := blk_frozen BK105.out 4; have hfz45_5 := blk_frozen BK105.out 5; have hfz45_6 := blk_frozen BK105.out 6; have hfz45_7 := blk_frozen BK105.out 7; have hfz45_8 := blk_frozen BK105.out 8) | ((with_reducible refine gate_callee (f := 14) rfl ?_); refine gL_ (some 75) rfl rfl Try.func14 (by kernel_rfl) rfl #[.agg #[.int .i64 a0_0, .int .i64 a0_1, .int .i64 a0_2, .int .i64 a0_3, .int .i64 a0_4, .int .i64 a0_5, .string a0_6, .string a0_7, .string a0_8], .int .i64 (a1.size : Int)] rfl ?_; (with_reducible refine (rillmeterref06_Put.calls kj3 a0_0 a0_1 a0_2 a0_3 a0_4 a0_5 a0_6 a0_7 a0_8 (a1.size : Int) t120 _ A31.out).mono ?_); rintro e w46 ⟨rfl, hb⟩; refine ⟨_, rfl, ?_⟩; have n0_ := Aside0.mk (blk_below (g := gb101) (o := .cells #[.int .i64 a0_0, .int .i64 a0_1, .int .i64 a0_2, .int .i64 a0_3, .int .i64 a0_4, .int .i64 a0_5, .string a0_6, .string a0_7, .string a0_8] 27 (0, 0)) (by (iterate 9 ((with_reducible repeat first | apply pN_ | apply pD_ | apply pA_); refine blk_far ?_ NB101_119.out _)); (with_reducible repeat first | apply pN_ | apply pD_ | apply pA_); exact BK101.out) hb); have n1_ := Aside0.mk (blk_below (g := gb105) (o := .cells #[.int .i64 a0_0, .int .i64 a0_1, .int .i64 a0_2, .int .i64 a0_3, .int .i64 a0_4, .int .i64 a0_5, .string a0_6, .string a0_7, .string a0_8] 33 (0, 0)) (by (iterate 9 ((with_reducible repeat first | apply pN_ | apply pD_ | apply pA_); refine blk_far ?_ NB105_119.out _)); (with_reducible repeat first | apply pN_ | apply pD_ | apply pA_); exact BK105.out) hb); have n2_ := Aside0.mk (blk_below (g := gb119) (o := .cells #[.int .i64 t108, .int .i64 t109, .int .i64 t110, .int .i64 t111, .int .i64 t112, .int .i64 t113, .string t114, .string t115, .string t116] 27 (0, 0)) (by (with_reducible repeat first | apply pN_ | apply pD_ | apply pA_); refine blk_put (cs := #[.int .i64 t108, .int .i64 t109, .int .i64 t110, .int .i64 t111, .int .i64 t112, .int .i64 t113, .string t114, .string t115, .string ⟨#[]⟩]) ?_ 8 _ rfl; (with_reducible repeat first | apply pN_ | apply pD_ | apply pA_); refine blk_put (cs := #[.int .i64 t108, .int .i64 t109, .int .i64 t110, .int .i64 t111, .int .i64 t112, .int .i64 t113, .string t114, .string ⟨#[]⟩, .string ⟨#[]⟩]) ?_ 7 _ rfl; (with_reducible repeat first | apply pN_ | apply pD_ | apply pA_); refine blk_put (cs := #[.int .i64 t108, .int .i64 t109, .int .i64 t110, .int .i64 t111, .int .i64 t112, .int .i64 t113, .string ⟨#[]⟩, .string ⟨#[]⟩, .string ⟨#[]⟩]) ?_ 6 _ rfl; (with_reducible repeat first | apply pN_ | apply pD_ | apply pA_); refine blk_put (cs := #[.int .i64 t108, .int .i64 t109, .int .i64 t110, .int .i64 t111, .int .i64 t112, .int .i64 0, .string ⟨#[]⟩, .string ⟨#[]⟩, .string ⟨#[]⟩]) ?_ 5 _ rfl; (with_reducible repeat first | apply pN_ | apply pD_ | apply pA_); refine blk_put (cs := #[.int .i64 t108, .int .i64 t109, .int .i64 t110, .int .i64 t111, .int .i64 0, .int .i64 0, .string ⟨#[]⟩, .string ⟨#[]⟩, .string ⟨#[]⟩]) ?_ 4 _ rfl; (with_reducible repeat first | apply pN_ | apply pD_ | apply pA_); refine blk_put (cs := #[.int .i64 t108, .int .i64 t109, .int .i64 t110, .int .i64 0, .int .i64 0, .int .i64 0, .string ⟨#[]⟩, .string ⟨#[]⟩, .string ⟨#[]⟩]) ?_ 3 _ rfl; (with_reducible repeat first | apply pN_ | apply pD_ | apply pA_); refine blk_put (cs := #[.int .i64 t108, .int .i64 t109, .int .i64 0, .int .i64 0, .int .i64 0, .int .i64 0, .string ⟨#[]⟩, .string ⟨#[]⟩, .string ⟨#[]⟩]) ?_ 2 _ rfl; (with_reducible repeat first | apply pN_ | apply pD_ | apply pA_); refine blk_put (cs := #[.int .i64 t108, .int .i64 0, .int .i64 0, .int .i64 0, .int .i64 0, .int .i64 0, .string ⟨#[]⟩, .string ⟨#[]⟩, .string ⟨#[]⟩]) ?_ 1 _ rfl; (with_reducible repeat first | apply pN_ | apply pD_ | apply pA_); refine blk_put (cs := Z17_0) ?_ 0 _ rfl; (with_reducible repeat first | apply pN_ | apply pD_ | apply pA_); exact BK119.out) hb); have n3_ := Aside0.mk (below_step (bU_ HB.out) hb); clear BK101 BK105 BK119 HB; have BK101 := n0_; have BK105 := n1_; have BK119 := n2_; have HB := n3_; clear n0_ n1_ n2_ n3_; (try clear hb); (try clear hb2); (try clear hk); (try clear hi); have hcz47_0 : w46.cell? ⟨gb119, 0, none⟩ = some (.int .i64 t108) := (blk_cell BK119.out 0).trans rfl; have hcz47_1 : w46.cell? ⟨gb119, 1, none⟩ = some (.int .i64 t109) := (blk_cell BK119.out 1).trans rfl; have hcz47_2 : w46.cell? ⟨gb119, 2, none⟩ = some (.int .i64 t110) := (blk_cell BK119.out 2).trans rfl; have hcz47_3 : w46.cell? ⟨gb119, 3, none⟩ = some (.int .i64 t111) := (blk_cell BK119.out 3).trans rfl; have hcz47_4 : w46.cell? ⟨gb119, 4, none⟩ = some (.int .i64 t112) := (blk_cell BK119.out 4).trans rfl; have hcz47_5 : w46.cell? ⟨gb119, 5, none⟩ = some (.int .i64 t113) := (blk_cell BK119.out 5).trans rfl; have hcz47_6 : w46.cell? ⟨gb119, 6, none⟩ = some (.string t114) := (blk_cell BK119.out 6).trans rfl; have hcz47_7 : w46.cell? ⟨gb119, 7, none⟩ = some (.string t115) := (blk_cell BK119.out 7).trans rfl; have hcz47_8 : w46.cell? ⟨gb119, 8, none⟩ = some (.string t116) := (blk_cell BK119.out 8).trans rfl; have hfz47_0 := blk_frozen BK119.out 0; have hfz47_1 := blk_frozen BK119.out 1; have hfz47_2 := blk_frozen BK119.out 2; have hfz47_3 := blk_frozen BK119.out 3; have hfz47_4 := blk_frozen BK119.out 4; have hfz47_5 := blk_frozen BK119.out 5; have hfz47_6 := blk_frozen BK119.out 6; have hfz47_7 := blk_frozen BK119.out 7; have hfz47_8 := blk_frozen BK119.out 8; have hcz48_0 : w46.cell? ⟨gb101, 0, none⟩ = some (.int .i64 a0_0) := (blk_cell BK101.out 0).trans rfl; have hcz48_1 : w46.cell? ⟨gb101, 1, none⟩ = some (.int .i64 a0_1) := (blk_cell BK101.out 1).trans rfl; have hcz48_2 : w46.cell? ⟨gb101, 2, none⟩ = some (.int .i64 a0_2) := (blk_cell BK101.out 2).trans rfl; have hcz48_3 : w46.cell? ⟨gb101, 3, none⟩ = some (.int .i64 a0_3) := (blk_cell BK101.out 3).trans rfl; have hcz48_4 : w46.cell? ⟨gb101, 4, none⟩ = some (.int .i64 a0_4) := (blk_cell BK101.out 4).trans rfl; have hcz48_5 : w46.cell? ⟨gb101, 5, none⟩ = some (.int .i64 a0_5) := (blk_cell BK101.out 5).trans rfl; have hcz48_6 : w46.cell? ⟨gb101, 6, none⟩ = some (.string a0_6) := (blk_cell BK101.out 6).trans rfl; have hcz48_7 : w46.cell? ⟨gb101, 7, none⟩ = some (.string a0_7) := (blk_cell BK101.out 7).trans rfl; have hcz48_8 : w46.cell? ⟨gb101, 8, none⟩ = some (.string a0_8) := (blk_cell BK101.out 8).trans rfl; have hfz48_0 := blk_frozen BK101.out 0; have hfz48_1 := blk_frozen BK101.out 1; have hfz48_2 := blk_frozen BK101.out 2; have hfz48_3 := blk_frozen BK101.out 3; have hfz48_4 := blk_frozen BK101.out 4; have hfz48_5 := blk_frozen BK101.out 5; have hfz48_6 := blk_frozen BK101.out 6; have hfz48_7 := blk_frozen BK101.out 7; have hfz48_8 := blk_frozen BK101.out 8) | (go_at_call 9; (with_reducible refine (rillmeterlaw06_awake.calls kj3  t121 _ hrt A38.out).mono ?_); rintro e w49 ⟨rfl, hb⟩; have n0_ := Aside0.mk (blk_below (g := gb101) (o := .cells #[.int .i64 a0_0, .int .i64 a0_1, .int .i64 a0_2, .int .i64 a0_3, .int .i64 a0_4, .int .i64 a0_5, .string a0_6, .string a0_7, .string a0_8] 27 (0, 0)) (by (with_reducible repeat first | apply pN_ | apply pD_ | apply pA_); exact BK101.out) hb); have n1_ := Aside0.mk (blk_below (g := gb105) (o := .cells #[.int .i64 a0_0, .int .i64 a0_1, .int .i64 a0_2, .int .i64 a0_3, .int .i64 a0_4, .int .i64 a0_5, .string a0_6, .string a0_7, .string a0_8] 33 (0, 0)) (by (with_reducible repeat first | apply pN_ | apply pD_ | apply pA_); exact BK105.out) hb); have n2_ := Aside0.mk (blk_below (g := gb119) (o := .cells #[.int .i64 t108, .int .i64 t109, .int .i64 t110, .int .i64 t111, .int .i64 t112, .int .i64 t113, .string t114, .string t115, .string t116] 27 (0, 0)) (by (with_reducible repeat first | apply pN_ | apply pD_ | apply pA_); exact BK119.out) hb); have n3_ := Aside0.mk (below_step (bU_ HB.out) hb); clear BK101 BK105 BK119 HB; have BK101 := n0_; have BK105 := n1_; have BK119 := n2_; have HB := n3_; clear n0_ n1_ n2_ n3_; (try clear hb); (try clear hb2); (try clear hk); (try clear hi)))
     go_ret
     exact ⟨by first | rfl | (simp [errW_none, errW_some] <;> rfl) | (simp [*, errW_none, errW_some] <;> rfl), bU_ HB.out⟩
    ·replace c28 := Bool.eq_false_iff.mpr c28
     subst c28
     have H1 : (if t103.toList = ([] : List UInt8) then (if t104 = 1 then ((rillmeterlaw06_awake.f kj3).bind fun t122 => (some t122)) else (some false)) else (some false)) = some r := by rw [if_neg (show ¬ (false = true) by decide)] at H; exact H
     clear H
     have H := H1
     clear H1
     by_cases c50 : t103.toList = ([] : List UInt8)
     rotate_left
     ·rw [if_neg c50] at H
      obtain rfl := Option.some.inj H
      exact absurd hrt.out (by decide)
     rw [if_pos c50] at H
     have c50b0 : (t103.toList == ([] : List UInt8)) = true := beq_iff_eq.mpr c50
     have c50b1 : (t103.toList != ([] : List UInt8)) = false := bne_eq_false_iff_eq.mpr c50
     clear c50
     by_cases c51 : t104 = 1
     rotate_left
     ·rw [if_neg c51] at H
      obtain rfl := Option.some.inj H
      exact absurd hrt.out (by decide)
     rw [if_pos c51] at H
     have c51b0 : (t104 == 1) = true := beq_iff_eq.mpr c51
     have c51b1 : (t104 != 1) = false := bne_eq_false_iff_eq.mpr c51
     clear c51
     replace H := Option.bind_eq_some_iff.mp H
     obtain ⟨t122, A520, H⟩ := H
     replace H : (some t122) = some r := H
     have A52 := Aside0.mk A520
     clear A520
     obtain rfl := Option.some.inj H
     go_wp2_with (first | (go_at_call 9; (with_reducible refine (rillmeterlaw06_awake.calls kj3  t122 _ hrt A52.out).mono ?_); rintro e w53 ⟨rfl, hb⟩; have n0_ := Aside0.mk (blk_below (g := gb101) (o := .cells #[.int .i64 a0_0, .int .i64 a0_1, .int .i64 a0_2, .int .i64 a0_3, .int .i64 a0_4, .int .i64 a0_5, .string a0_6, .string a0_7, .string a0_8] 27 (0, 0)) (by (with_reducible repeat first | apply pN_ | apply pD_ | apply pA_); exact BK101.out) hb); have n1_ := Aside0.mk (blk_below (g := gb105) (o := .cells #[.int .i64 a0_0, .int .i64 a0_1, .int .i64 a0_2, .int .i64 a0_3, .int .i64 a0_4, .int .i64 a0_5, .string a0_6, .string a0_7, .string a0_8] 33 (0, 0)) (by (with_reducible repeat first | apply pN_ | apply pD_ | apply pA_); exact BK105.out) hb); have n2_ := Aside0.mk (below_step (bU_ HB.out) hb); clear BK101 BK105 HB; have BK101 := n0_; have BK105 := n1_; have HB := n2_; clear n0_ n1_ n2_; (try clear hb); (try clear hb2); (try clear hk); (try clear hi)))
     go_ret
     exact ⟨by first | rfl | (simp [errW_none, errW_some] <;> rfl) | (simp [*, errW_none, errW_some] <;> rfl), bU_ HB.out⟩
end Go.Proofs.Ytdmofjhncdkofaa.Q
