-- made by a program of this session (wip/print-patch.py, over the kit's print)
import Derived.Test.YtngcelombflnfaaQx0
import Derived.Test.YtngcelombflnfaaQx4
import Derived.Test.YtngcelombflnfaaQx6
import Derived.Test.YtngcelombflnfaaQx8
import Derived.Test.YtngcelombflnfaaQx9
import Derived.Test.YtngcelombflnfaaQx14
import Derived.Test.YtngcelombflnfaaQx15
import Derived.Test.YtngcelombflnfaaQx17
namespace Go.Proofs.Ytngcelombflnfaa.Q
open Go.RowKit Go.Proofs.YtngcelombflnfaaW.PrintWords Go.Proofs.YtngcelombflnfaaW.PrintLast Go.Proofs.YtngcelombflnfaaW.PrintMore
attribute [local go_sem] max2_int min2_int max_two min_two max_three min_three max_four min_four   -- for this text's walks alone
set_option linter.unusedVariables false
set_option linter.unusedSimpArgs false

attribute [local go_sem] cell_twice_ cell_twiceN_
/-! ### rillmeterlaw05_EtherPuts: function 6 -/
def rillmeterlaw05_EtherPuts.j0 : Nat → ByteArray → Bool → ByteArray → ByteArray → List (S39) → Int → Option (Bool)
 | 0, _, _, _, _, _, _ => none
 | k + 1, x1, x29, x102000, x102001, x102002, x102003 => if x29 = true then ((rillmeterlaw05_awake.f k).bind fun t102 => (some t102)) else ((ether_Put.f k x102000 x102001 x102002 x102003 x1).bind fun bt103 => ((rillmeterlaw05_ref.f k x102000 x102001 x102002 x102003).bind fun bt105 => ((rillmeterref05_Right.f k bt105.1 bt105.2.1 bt105.2.2.1 bt105.2.2.2).bind fun t111 => ((ether_Right.f k x102000 x102001 x102002 x102003).bind fun t112 => (if (t112 != t111) = true then (some false) else (if t111 = true then ((ether_Take.f k bt103.1).bind fun bt114 => ((rillmeterlaw05_ref.f k x102000 x102001 x102002 x102003).bind fun bt123 => ((rillmeterref05_Put.f k bt123.1 bt123.2.1 bt123.2.2.1 bt123.2.2.2).bind fun t129 => (if t129.size + x1.size ≤ 9223372036854775807 then (if bt103.1.toList = (t129 ++ x1).toList then (if bt103.2 = 0 then ((rillmeterlaw05_ref.f k bt114.1 bt114.2.1 bt114.2.2.1 bt114.2.2.2.1).bind fun bt130 => ((rillmeterlaw05_ref.f k x102000 x102001 x102002 x102003).bind fun bt136 => ((rillmeterref05_Equal.f k bt130.1 bt130.2.1 bt130.2.2.1 bt130.2.2.2 bt136.1 bt136.2.1 bt136.2.2.1 bt136.2.2.2).bind fun t142 => (if t142 = true then (if bt114.2.2.2.2.1.toList = x1.toList then (if bt114.2.2.2.2.2 = 0 then ((rillmeterlaw05_awake.f k).bind fun t143 => (some t143)) else (some false)) else (some false)) else (some false))))) else (some false)) else (some false)) else (none))))) else (if bt103.1.toList = ([] : List UInt8) then (if bt103.2 = 1 then ((rillmeterlaw05_awake.f k).bind fun t113 => (some t113)) else (some false)) else (some false))))))))
def rillmeterlaw05_EtherPuts.f (k : Nat) (a0_0 : ByteArray) (a0_1 : ByteArray) (l0_2 : List (S39)) (a0_3 : Int) (a1 : ByteArray) : Option (Bool) := if (l0_2.length : Int) > 20 then (rillmeterlaw05_EtherPuts.j0 k a1 true a0_0 a0_1 l0_2 a0_3) else (if (wrap64 ((a0_0.size : Int) + (a0_1.size : Int))) > 100 then (rillmeterlaw05_EtherPuts.j0 k a1 true a0_0 a0_1 l0_2 a0_3) else (rillmeterlaw05_EtherPuts.j0 k a1 (decide ((a1.size : Int) > 4096)) a0_0 a0_1 l0_2 a0_3))
theorem rillmeterlaw05_EtherPuts.mono_l : ∀ k, (∀ y0 y1 y2 y3 y4 y5, LeO (rillmeterlaw05_EtherPuts.j0 k y0 y1 y2 y3 y4 y5) (rillmeterlaw05_EtherPuts.j0 (k + 1) y0 y1 y2 y3 y4 y5))
 | 0 => fun _ _ _ _ _ _ r h => by simp [rillmeterlaw05_EtherPuts.j0] at h
 | k + 1 => by
  have ih0 := rillmeterlaw05_EtherPuts.mono_l k
  ·intro y0 y1 y2 y3 y4 y5
   unfold rillmeterlaw05_EtherPuts.j0
   repeat' first
   | (with_reducible exact ih0 _ _ _ _ _ _)
   | (with_reducible exact ether_Put.mono _ _ _ _ _ _)
   | (with_reducible exact ether_Right.mono _ _ _ _ _)
   | (with_reducible exact ether_Take.mono _ _)
   | (with_reducible exact rillmeterlaw05_awake.mono _)
   | (with_reducible exact rillmeterlaw05_ref.mono _ _ _ _ _)
   | (with_reducible exact rillmeterref05_Equal.mono _ _ _ _ _ _ _ _ _)
   | (with_reducible exact rillmeterref05_Put.mono _ _ _ _ _)
   | (with_reducible exact rillmeterref05_Right.mono _ _ _ _ _)
   | (with_reducible exact LeO.refl _)
   | (with_reducible exact LeO.none _)
   | (with_reducible refine LeO.ite ?_ ?_)
   | (with_reducible refine LeO.bind ?_ (fun _ => ?_))
   | exact ih0 _ _ _ _ _ _
   | exact ether_Put.mono _ _ _ _ _ _
   | exact ether_Right.mono _ _ _ _ _
   | exact ether_Take.mono _ _
   | exact rillmeterlaw05_awake.mono _
   | exact rillmeterlaw05_ref.mono _ _ _ _ _
   | exact rillmeterref05_Equal.mono _ _ _ _ _ _ _ _ _
   | exact rillmeterref05_Put.mono _ _ _ _ _
   | exact rillmeterref05_Right.mono _ _ _ _ _
   | exact LeO.none _
   | refine LeO.ite ?_ ?_
   | refine LeO.bind ?_ (fun _ => ?_)
theorem rillmeterlaw05_EtherPuts.mono : ∀ a0 a1 a2 a3 a4 k, LeO (rillmeterlaw05_EtherPuts.f k a0 a1 a2 a3 a4) (rillmeterlaw05_EtherPuts.f (k + 1) a0 a1 a2 a3 a4) := by
 intro a0 a1 a2 a3 a4 k
 have ih0 := rillmeterlaw05_EtherPuts.mono_l k
 unfold rillmeterlaw05_EtherPuts.f
 repeat' first
   | (with_reducible exact ih0 _ _ _ _ _ _)
   | (with_reducible exact ether_Put.mono _ _ _ _ _ _)
   | (with_reducible exact ether_Right.mono _ _ _ _ _)
   | (with_reducible exact ether_Take.mono _ _)
   | (with_reducible exact rillmeterlaw05_awake.mono _)
   | (with_reducible exact rillmeterlaw05_ref.mono _ _ _ _ _)
   | (with_reducible exact rillmeterref05_Equal.mono _ _ _ _ _ _ _ _ _)
   | (with_reducible exact rillmeterref05_Put.mono _ _ _ _ _)
   | (with_reducible exact rillmeterref05_Right.mono _ _ _ _ _)
   | (with_reducible exact LeO.refl _)
   | (with_reducible exact LeO.none _)
   | (with_reducible refine LeO.ite ?_ ?_)
   | (with_reducible refine LeO.bind ?_ (fun _ => ?_))
   | exact ih0 _ _ _ _ _ _
   | exact ether_Put.mono _ _ _ _ _ _
   | exact ether_Right.mono _ _ _ _ _
   | exact ether_Take.mono _ _
   | exact rillmeterlaw05_awake.mono _
   | exact rillmeterlaw05_ref.mono _ _ _ _ _
   | exact rillmeterref05_Equal.mono _ _ _ _ _ _ _ _ _
   | exact rillmeterref05_Put.mono _ _ _ _ _
   | exact rillmeterref05_Right.mono _ _ _ _ _
   | exact LeO.none _
   | refine LeO.ite ?_ ?_
   | refine LeO.bind ?_ (fun _ => ?_)
def rillmeterlaw05_EtherPuts.T10 : Bool × List (List Nat × List Nat) := (true, [([], []), ([], []), ([1], [1]), ([2, 2], [2]), ([], []), ([3, 4], [3, 4]), ([0, 5], [0, 5]), ([6, 3], [6]), ([7], [7]), ([8, 7], [7, 8]), ([7, 9], [7, 9]), ([10, 7], [10]), ([11], [11]), ([12, 11, 11], [11, 12]), ([11], [11]), ([14, 13, 11], [11, 14]), ([13, 15, 15, 11], [11, 13, 15]), ([11, 16], [11, 16]), ([17, 16], [17]), ([18], [18]), ([18], [18]), ([19, 20, 18], [18, 19, 20]), ([18, 21], [18, 21]), ([22, 18], [22]), ([23], [23]), ([24, 23], [23, 24]), ([23, 25], [23, 25]), ([26, 23], [26]), ([27, 27], [27]), ([27, 28], [27, 28]), ([29, 28, 0, 1, 2, 3, 4, 5, 6, 7, 8, 9, 10, 11, 12, 13, 14, 15, 16, 17, 18, 19, 20, 21, 22, 23, 24, 25, 26, 27, 28, 29], [29])])
def rillmeterlaw05_EtherPuts.B10 : List Nat := [0, 0, 2, 6, 0, 30, 63, 127, 255, 511, 1023, 2047, 4095, 8191, 4095, 32767, 65535, 131071, 262143, 524287, 524287, 2097151, 4194303, 8388607, 16777215, 33554431, 67108863, 134217727, 268435455, 536870911, 1073741823]
theorem rillmeterlaw05_EtherPuts.tab10 : rtab .any (opsOf Try.f6 10) = rillmeterlaw05_EtherPuts.T10 := by kernel_rfl
theorem rillmeterlaw05_EtherPuts.bits10 : waitsOk rillmeterlaw05_EtherPuts.T10.2 rillmeterlaw05_EtherPuts.B10 = true := by kernel_rfl
set_option maxHeartbeats 8000000 in
set_option maxRecDepth 100000 in
theorem rillmeterlaw05_EtherPuts.calls (k : Nat) (a0_0 : ByteArray) (a0_1 : ByteArray) (A0_2 : Option Addr) (c0_2 : Nat) (l0_2 : List (S39)) (a0_3 : Int) (a1 : ByteArray) (r : Bool) (w : World) (hr0_2 : Kd.C k39 w A0_2 l0_2.length l0_2) (hc0_2 : l0_2.length ≤ c0_2) (hrt : Aside0 (r = true)) (h : rillmeterlaw05_EtherPuts.f k a0_0 a0_1 l0_2 a0_3 a1 = some r) :
  Calls Try.prog 6 #[.agg #[.string a0_0, .string a0_1, .slice A0_2 l0_2.length c0_2, .int .i64 a0_3], .string a1] w fun e w' => e = .returned (.bool r) ∧ Below w.heap.size w w' := by
 have hu25 := Try.underlying25
 have HR0_2 := Aside0.mk hr0_2
 have HC0_2 := Aside0.mk hc0_2
 clear hr0_2 hc0_2
 have HB := Aside0.mk (Below.refl w.heap.size w)
 have H : (if (l0_2.length : Int) > 20 then (rillmeterlaw05_EtherPuts.j0 k a1 true a0_0 a0_1 l0_2 a0_3) else (if (wrap64 ((a0_0.size : Int) + (a0_1.size : Int))) > 100 then (rillmeterlaw05_EtherPuts.j0 k a1 true a0_0 a0_1 l0_2 a0_3) else (rillmeterlaw05_EtherPuts.j0 k a1 (decide ((a1.size : Int) > 4096)) a0_0 a0_1 l0_2 a0_3))) = some r := h
 clear h
 have HC3 := Aside0.mk H
 clear H
 go_enter Try.func6, Try.ntmps6
 go_upto_region 1 with (first | ((with_reducible refine gate_dst (N := 2) rfl ?_); (try (refine gate_guard (by rfl) ?_; dsimp only)); refine box_event ?hg (N := 2) ?hd (cs := #[.string a0_0, .string a0_1, .slice A0_2 l0_2.length c0_2, .int .i64 a0_3]) (t := 25) ?hr ?_; (case hd => rfl); (case hg => rfl); (case hr => first | (go_simp; done) | (go_simp; rfl)); intro gb101 hg w4 hbox hb; have n0_ := Aside0.mk (below_step (bU_ HB.out) hb); have n1_ := Aside0.mk (hbox); have n2_ := Aside0.mk ((by rw [hg]; exact (below_size (bU_ HB.out)) : w.heap.size ≤ gb101)); have n3_ := Aside0.mk ((by rw [hg]; exact (below_size (bU_ HB.out)) : w.heap.size ≤ gb101)); clear HB; have HB := n0_; have BK101 := n1_; have GW101 := n2_; have GE101 := n3_; clear n0_ n1_ n2_ n3_; clear hb hbox hg))
 (try simp only [Act.put, List.setIfInBounds_toArray, List.set_cons_zero, List.set_cons_succ])
 go_cut [29] (fun v29 wc => ∃ (kq : Nat) (x29_2 : Bool), v29 = .bool x29_2 ∧ Aside0 (rillmeterlaw05_EtherPuts.j0 kq a1 x29_2 a0_0 a0_1 l0_2 a0_3 = some r) ∧ Aside0 (kq ≤ k) ∧ Aside0 (wc.heap[gb101]? = some (.cells #[.string a0_0, .string a0_1, (.slice A0_2 l0_2.length c0_2), .int .i64 a0_3] 25 (0, 0))) ∧ Aside0 (Below w.heap.size w wc))
 case first =>
  have H := HC3.out
  clear HC3
  by_cases c5 : (l0_2.length : Int) > 20
  ·rw [if_pos c5] at H
   have c5b0 : decide (20 < (l0_2.length : Int)) = true := decide_eq_true c5
   have c5b1 : decide (20 < l0_2.length) = true := decide_eq_true (by omega)
   clear c5
   (first | rw [c5b0] | (simp only [i64_w, i32_w]; rw [c5b0]) | skip)
   have H' := Aside0.mk H
   clear H
   have hcz6_0 : w4.cell? ⟨gb101, 0, none⟩ = some (.string a0_0) := (blk_cell BK101.out 0).trans rfl
   have hcz6_1 : w4.cell? ⟨gb101, 1, none⟩ = some (.string a0_1) := (blk_cell BK101.out 1).trans rfl
   have hcz6_2 : w4.cell? ⟨gb101, 2, none⟩ = some (.slice A0_2 l0_2.length c0_2) := (blk_cell BK101.out 2).trans rfl
   have hcz6_3 : w4.cell? ⟨gb101, 3, none⟩ = some (.int .i64 a0_3) := (blk_cell BK101.out 3).trans rfl
   have hfz6_0 := blk_frozen BK101.out 0
   have hfz6_1 := blk_frozen BK101.out 1
   have hfz6_2 := blk_frozen BK101.out 2
   have hfz6_3 := blk_frozen BK101.out 3
   go_wp2
   go_meet
   case rel => exact ⟨_, (true), (by first | rfl | (simp; done) | (simp [*]; done)), H', ⟨by first | omega | exact Nat.le_refl _⟩, ⟨by (with_reducible repeat first | apply pN_ | apply pD_ | apply pA_); exact BK101.out⟩, ⟨bU_ HB.out⟩⟩
  ·rw [if_neg c5] at H
   have c5b0 : decide (20 < (l0_2.length : Int)) = false := decide_eq_false c5
   have c5b1 : decide (20 < l0_2.length) = false := decide_eq_false (by omega)
   clear c5
   (first | rw [c5b0] | (simp only [i64_w, i32_w]; rw [c5b0]) | skip)
   by_cases c7 : (wrap64 ((a0_0.size : Int) + (a0_1.size : Int))) > 100
   ·rw [if_pos c7] at H
    have c7b0 : decide (100 < (wrap64 ((a0_0.size : Int) + (a0_1.size : Int)))) = true := decide_eq_true c7
    clear c7
    have H' := Aside0.mk H
    clear H
    have hcz8_0 : w4.cell? ⟨gb101, 0, none⟩ = some (.string a0_0) := (blk_cell BK101.out 0).trans rfl
    have hcz8_1 : w4.cell? ⟨gb101, 1, none⟩ = some (.string a0_1) := (blk_cell BK101.out 1).trans rfl
    have hcz8_2 : w4.cell? ⟨gb101, 2, none⟩ = some (.slice A0_2 l0_2.length c0_2) := (blk_cell BK101.out 2).trans rfl
    have hcz8_3 : w4.cell? ⟨gb101, 3, none⟩ = some (.int .i64 a0_3) := (blk_cell BK101.out 3).trans rfl
    have hfz8_0 := blk_frozen BK101.out 0
    have hfz8_1 := blk_frozen BK101.out 1
    have hfz8_2 := blk_frozen BK101.out 2
    have hfz8_3 := blk_frozen BK101.out 3
    go_wp2
    go_meet
    case rel => exact ⟨_, (true), (by first | rfl | (simp; done) | (simp [*]; done)), H', ⟨by first | omega | exact Nat.le_refl _⟩, ⟨by (with_reducible repeat first | apply pN_ | apply pD_ | apply pA_); exact BK101.out⟩, ⟨bU_ HB.out⟩⟩
   ·rw [if_neg c7] at H
    have c7b0 : decide (100 < (wrap64 ((a0_0.size : Int) + (a0_1.size : Int)))) = false := decide_eq_false c7
    clear c7
    have H' := Aside0.mk H
    clear H
    have hcz9_0 : w4.cell? ⟨gb101, 0, none⟩ = some (.string a0_0) := (blk_cell BK101.out 0).trans rfl
    have hcz9_1 : w4.cell? ⟨gb101, 1, none⟩ = some (.string a0_1) := (blk_cell BK101.out 1).trans rfl
    have hcz9_2 : w4.cell? ⟨gb101, 2, none⟩ = some (.slice A0_2 l0_2.length c0_2) := (blk_cell BK101.out 2).trans rfl
    have hcz9_3 : w4.cell? ⟨gb101, 3, none⟩ = some (.int .i64 a0_3) := (blk_cell BK101.out 3).trans rfl
    have hfz9_0 := blk_frozen BK101.out 0
    have hfz9_1 := blk_frozen BK101.out 1
    have hfz9_2 := blk_frozen BK101.out 2
    have hfz9_3 := blk_frozen BK101.out 3
    go_wp2
    go_meet
    case rel => exact ⟨_, (decide ((a1.size : Int) > 4096)), (by first | rfl | (simp; done) | (simp [*]; done)), H', ⟨by first | omega | exact Nat.le_refl _⟩, ⟨by (with_reducible repeat first | apply pN_ | apply pD_ | apply pA_); exact BK101.out⟩, ⟨bU_ HB.out⟩⟩
 case rest =>
  clear HC3
  try clear p2
  try clear c5
  try clear c5b0
  try clear c5b1
  try clear c6
  try clear p6
  try clear c7
  try clear c7b0
  try clear hcz6_0
  try clear hcz6_1
  try clear hcz6_2
  try clear hcz6_3
  try clear hcz8_0
  try clear hcz8_1
  try clear hcz8_2
  try clear hcz8_3
  try clear hcz9_0
  try clear hcz9_1
  try clear hcz9_2
  try clear hcz9_3
  try clear hfz6_0
  try clear hfz6_1
  try clear hfz6_2
  try clear hfz6_3
  try clear hfz8_0
  try clear hfz8_1
  try clear hfz8_2
  try clear hfz8_3
  try clear hfz9_0
  try clear hfz9_1
  try clear hfz9_2
  try clear hfz9_3
  obtain ⟨kq, x29_2, rfl, HA, HJ2, BK101, HB⟩ := hcut
  cases kq with
  | zero => exact absurd HA.out (by simp [rillmeterlaw05_EtherPuts.j0])
  | succ kj2 =>
   have H := HA.out
   clear HA
   simp only [rillmeterlaw05_EtherPuts.j0] at H
   by_cases c10 : x29_2 = true
   ·subst c10
    have H1 : ((rillmeterlaw05_awake.f kj2).bind fun t102 => (some t102)) = some r := by rw [if_pos rfl] at H; exact H
    clear H
    have H := H1
    clear H1
    replace H := Option.bind_eq_some_iff.mp H
    obtain ⟨t102, A110, H⟩ := H
    replace H : (some t102) = some r := H
    have A11 := Aside0.mk A110
    clear A110
    obtain rfl := Option.some.inj H
    go_wp2_with (first | ((with_reducible refine gate_callee (f := 8) rfl ?_); refine gL_ (some 30) rfl rfl Try.func8 (by kernel_rfl) rfl #[] rfl ?_; (with_reducible refine (rillmeterlaw05_awake.calls kj2  t102 _ hrt A11.out).mono ?_); rintro e w12 ⟨rfl, hb⟩; refine ⟨_, rfl, ?_⟩; have n0_ := Aside0.mk (blk_below (g := gb101) (o := .cells #[.string a0_0, .string a0_1, .slice A0_2 l0_2.length c0_2, .int .i64 a0_3] 25 (0, 0)) (by (with_reducible repeat first | apply pN_ | apply pD_ | apply pA_); exact BK101.out) hb); have n1_ := Aside0.mk (below_step (bU_ HB.out) hb); clear BK101; clear HB; have BK101 := n0_; have HB := n1_; clear n0_ n1_; (try clear hb); (try clear hb2); (try clear hk); (try clear hi)))
    go_ret
    exact ⟨by first | rfl | (simp [errW_none, errW_some] <;> rfl) | (simp [*, errW_none, errW_some] <;> rfl), bU_ HB.out⟩
   ·replace c10 := Bool.eq_false_iff.mpr c10
    subst c10
    have H1 : ((ether_Put.f kj2 a0_0 a0_1 l0_2 a0_3 a1).bind fun bt103 => ((rillmeterlaw05_ref.f kj2 a0_0 a0_1 l0_2 a0_3).bind fun bt105 => ((rillmeterref05_Right.f kj2 bt105.1 bt105.2.1 bt105.2.2.1 bt105.2.2.2).bind fun t111 => ((ether_Right.f kj2 a0_0 a0_1 l0_2 a0_3).bind fun t112 => (if (t112 != t111) = true then (some false) else (if t111 = true then ((ether_Take.f kj2 bt103.1).bind fun bt114 => ((rillmeterlaw05_ref.f kj2 a0_0 a0_1 l0_2 a0_3).bind fun bt123 => ((rillmeterref05_Put.f kj2 bt123.1 bt123.2.1 bt123.2.2.1 bt123.2.2.2).bind fun t129 => (if t129.size + a1.size ≤ 9223372036854775807 then (if bt103.1.toList = (t129 ++ a1).toList then (if bt103.2 = 0 then ((rillmeterlaw05_ref.f kj2 bt114.1 bt114.2.1 bt114.2.2.1 bt114.2.2.2.1).bind fun bt130 => ((rillmeterlaw05_ref.f kj2 a0_0 a0_1 l0_2 a0_3).bind fun bt136 => ((rillmeterref05_Equal.f kj2 bt130.1 bt130.2.1 bt130.2.2.1 bt130.2.2.2 bt136.1 bt136.2.1 bt136.2.2.1 bt136.2.2.2).bind fun t142 => (if t142 = true then (if bt114.2.2.2.2.1.toList = a1.toList then (if bt114.2.2.2.2.2 = 0 then ((rillmeterlaw05_awake.f kj2).bind fun t143 => (some t143)) else (some false)) else (some false)) else (some false))))) else (some false)) else (some false)) else (none))))) else (if bt103.1.toList = ([] : List UInt8) then (if bt103.2 = 1 then ((rillmeterlaw05_awake.f kj2).bind fun t113 => (some t113)) else (some false)) else (some false)))))))) = some r := by rw [if_neg (show ¬ (false = true) by decide)] at H; exact H
    clear H
    have H := H1
    clear H1
    replace H := Option.bind_eq_some_iff.mp H
    obtain ⟨⟨t103, t104⟩, A130, H⟩ := H
    replace H : ((rillmeterlaw05_ref.f kj2 a0_0 a0_1 l0_2 a0_3).bind fun bt105 => ((rillmeterref05_Right.f kj2 bt105.1 bt105.2.1 bt105.2.2.1 bt105.2.2.2).bind fun t111 => ((ether_Right.f kj2 a0_0 a0_1 l0_2 a0_3).bind fun t112 => (if (t112 != t111) = true then (some false) else (if t111 = true then ((ether_Take.f kj2 t103).bind fun bt114 => ((rillmeterlaw05_ref.f kj2 a0_0 a0_1 l0_2 a0_3).bind fun bt123 => ((rillmeterref05_Put.f kj2 bt123.1 bt123.2.1 bt123.2.2.1 bt123.2.2.2).bind fun t129 => (if t129.size + a1.size ≤ 9223372036854775807 then (if t103.toList = (t129 ++ a1).toList then (if t104 = 0 then ((rillmeterlaw05_ref.f kj2 bt114.1 bt114.2.1 bt114.2.2.1 bt114.2.2.2.1).bind fun bt130 => ((rillmeterlaw05_ref.f kj2 a0_0 a0_1 l0_2 a0_3).bind fun bt136 => ((rillmeterref05_Equal.f kj2 bt130.1 bt130.2.1 bt130.2.2.1 bt130.2.2.2 bt136.1 bt136.2.1 bt136.2.2.1 bt136.2.2.2).bind fun t142 => (if t142 = true then (if bt114.2.2.2.2.1.toList = a1.toList then (if bt114.2.2.2.2.2 = 0 then ((rillmeterlaw05_awake.f kj2).bind fun t143 => (some t143)) else (some false)) else (some false)) else (some false))))) else (some false)) else (some false)) else (none))))) else (if t103.toList = ([] : List UInt8) then (if t104 = 1 then ((rillmeterlaw05_awake.f kj2).bind fun t113 => (some t113)) else (some false)) else (some false))))))) = some r := H
    have A13 := Aside0.mk A130
    clear A130
    replace H := Option.bind_eq_some_iff.mp H
    obtain ⟨⟨t105, t106, t107, t110⟩, A140, H⟩ := H
    replace H : ((rillmeterref05_Right.f kj2 t105 t106 t107 t110).bind fun t111 => ((ether_Right.f kj2 a0_0 a0_1 l0_2 a0_3).bind fun t112 => (if (t112 != t111) = true then (some false) else (if t111 = true then ((ether_Take.f kj2 t103).bind fun bt114 => ((rillmeterlaw05_ref.f kj2 a0_0 a0_1 l0_2 a0_3).bind fun bt123 => ((rillmeterref05_Put.f kj2 bt123.1 bt123.2.1 bt123.2.2.1 bt123.2.2.2).bind fun t129 => (if t129.size + a1.size ≤ 9223372036854775807 then (if t103.toList = (t129 ++ a1).toList then (if t104 = 0 then ((rillmeterlaw05_ref.f kj2 bt114.1 bt114.2.1 bt114.2.2.1 bt114.2.2.2.1).bind fun bt130 => ((rillmeterlaw05_ref.f kj2 a0_0 a0_1 l0_2 a0_3).bind fun bt136 => ((rillmeterref05_Equal.f kj2 bt130.1 bt130.2.1 bt130.2.2.1 bt130.2.2.2 bt136.1 bt136.2.1 bt136.2.2.1 bt136.2.2.2).bind fun t142 => (if t142 = true then (if bt114.2.2.2.2.1.toList = a1.toList then (if bt114.2.2.2.2.2 = 0 then ((rillmeterlaw05_awake.f kj2).bind fun t143 => (some t143)) else (some false)) else (some false)) else (some false))))) else (some false)) else (some false)) else (none))))) else (if t103.toList = ([] : List UInt8) then (if t104 = 1 then ((rillmeterlaw05_awake.f kj2).bind fun t113 => (some t113)) else (some false)) else (some false)))))) = some r := H
    have A14 := Aside0.mk A140
    clear A140
    replace H := Option.bind_eq_some_iff.mp H
    obtain ⟨t111, A150, H⟩ := H
    replace H : ((ether_Right.f kj2 a0_0 a0_1 l0_2 a0_3).bind fun t112 => (if (t112 != t111) = true then (some false) else (if t111 = true then ((ether_Take.f kj2 t103).bind fun bt114 => ((rillmeterlaw05_ref.f kj2 a0_0 a0_1 l0_2 a0_3).bind fun bt123 => ((rillmeterref05_Put.f kj2 bt123.1 bt123.2.1 bt123.2.2.1 bt123.2.2.2).bind fun t129 => (if t129.size + a1.size ≤ 9223372036854775807 then (if t103.toList = (t129 ++ a1).toList then (if t104 = 0 then ((rillmeterlaw05_ref.f kj2 bt114.1 bt114.2.1 bt114.2.2.1 bt114.2.2.2.1).bind fun bt130 => ((rillmeterlaw05_ref.f kj2 a0_0 a0_1 l0_2 a0_3).bind fun bt136 => ((rillmeterref05_Equal.f kj2 bt130.1 bt130.2.1 bt130.2.2.1 bt130.2.2.2 bt136.1 bt136.2.1 bt136.2.2.1 bt136.2.2.2).bind fun t142 => (if t142 = true then (if bt114.2.2.2.2.1.toList = a1.toList then (if bt114.2.2.2.2.2 = 0 then ((rillmeterlaw05_awake.f kj2).bind fun t143 => (some t143)) else (some false)) else (some false)) else (some false))))) else (some false)) else (some false)) else (none))))) else (if t103.toList = ([] : List UInt8) then (if t104 = 1 then ((rillmeterlaw05_awake.f kj2).bind fun t113 => (some t113)) else (some false)) else (some false))))) = some r := H
    have A15 := Aside0.mk A150
    clear A150
    replace H := Option.bind_eq_some_iff.mp H
    obtain ⟨t112, A160, H⟩ := H
    replace H : (if (t112 != t111) = true then (some false) else (if t111 = true then ((ether_Take.f kj2 t103).bind fun bt114 => ((rillmeterlaw05_ref.f kj2 a0_0 a0_1 l0_2 a0_3).bind fun bt123 => ((rillmeterref05_Put.f kj2 bt123.1 bt123.2.1 bt123.2.2.1 bt123.2.2.2).bind fun t129 => (if t129.size + a1.size ≤ 9223372036854775807 then (if t103.toList = (t129 ++ a1).toList then (if t104 = 0 then ((rillmeterlaw05_ref.f kj2 bt114.1 bt114.2.1 bt114.2.2.1 bt114.2.2.2.1).bind fun bt130 => ((rillmeterlaw05_ref.f kj2 a0_0 a0_1 l0_2 a0_3).bind fun bt136 => ((rillmeterref05_Equal.f kj2 bt130.1 bt130.2.1 bt130.2.2.1 bt130.2.2.2 bt136.1 bt136.2.1 bt136.2.2.1 bt136.2.2.2).bind fun t142 => (if t142 = true then (if bt114.2.2.2.2.1.toList = a1.toList then (if bt114.2.2.2.2.2 = 0 then ((rillmeterlaw05_awake.f kj2).bind fun t143 => (some t143)) else (some false)) else (some false)) else (some false))))) else (some false)) else (some false)) else (none))))) else (if t103.toList = ([] : List UInt8) then (if t104 = 1 then ((rillmeterlaw05_awake.f kj2).bind fun t113 => (some t113)) else (some false)) else (some false)))) = some r := H
    have A16 := Aside0.mk A160
    clear A160
    by_cases c17 : (t112 != t111) = true
    ·rw [if_pos c17] at H
     obtain rfl := Option.some.inj H
     exact absurd hrt.out (by decide)
    rw [if_neg c17] at H
    have c17b0 : (t112 != t111) = false := by simpa using c17
    (try (have c17b1 : decide (t112 = t111) = true := by simpa using c17))
    (try (have c17b2 : (t112 == t111) = true := by simpa using c17))
    clear c17
    have HC18 := Aside0.mk H
    clear H
    have hcz19_0 : wc.cell? ⟨gb101, 0, none⟩ = some (.string a0_0) := (blk_cell BK101.out 0).trans rfl
    have hcz19_1 : wc.cell? ⟨gb101, 1, none⟩ = some (.string a0_1) := (blk_cell BK101.out 1).trans rfl
    have hcz19_2 : wc.cell? ⟨gb101, 2, none⟩ = some (.slice A0_2 l0_2.length c0_2) := (blk_cell BK101.out 2).trans rfl
    have hcz19_3 : wc.cell? ⟨gb101, 3, none⟩ = some (.int .i64 a0_3) := (blk_cell BK101.out 3).trans rfl
    have hfz19_0 := blk_frozen BK101.out 0
    have hfz19_1 := blk_frozen BK101.out 1
    have hfz19_2 := blk_frozen BK101.out 2
    have hfz19_3 := blk_frozen BK101.out 3
    go_upto_if 45 with (first | ((with_reducible refine gate_callee (f := 14) rfl ?_); refine gL_ (some 34) rfl rfl Try.func14 (by kernel_rfl) rfl #[.agg #[.string a0_0, .string a0_1, .slice A0_2 l0_2.length c0_2, .int .i64 a0_3], .string a1] rfl ?_; (with_reducible refine (ether_Put.calls kj2 a0_0 a0_1 _ _ l0_2 a0_3 a1 t103 t104 _ ?side1 ?side2 A13.out).mono ?_); (case side1 => repeat (first | exact (Kd.C_below HR0_2.out HB.out) | (with_reducible refine Kd.C_alloc ?_ _) | (with_reducible refine Kd.C_drewN ?_ _) | (with_reducible refine Kd.C_drew ?_))); (case side2 => exact HC0_2.out); rintro e w20 ⟨rfl, hb⟩; refine ⟨_, rfl, ?_⟩; have n0_ := Aside0.mk (blk_below (g := gb101) (o := .cells #[.string a0_0, .string a0_1, .slice A0_2 l0_2.length c0_2, .int .i64 a0_3] 25 (0, 0)) (by (with_reducible repeat first | apply pN_ | apply pD_ | apply pA_); exact BK101.out) hb); have n1_ := Aside0.mk (below_step (bU_ HB.out) hb); clear BK101; clear HB; have BK101 := n0_; have HB := n1_; clear n0_ n1_; (try clear hb); (try clear hb2); (try clear hk); (try clear hi); have hcz21_0 : w20.cell? ⟨gb101, 0, none⟩ = some (.string a0_0) := (blk_cell BK101.out 0).trans rfl; have hcz21_1 : w20.cell? ⟨gb101, 1, none⟩ = some (.string a0_1) := (blk_cell BK101.out 1).trans rfl; have hcz21_2 : w20.cell? ⟨gb101, 2, none⟩ = some (.slice A0_2 l0_2.length c0_2) := (blk_cell BK101.out 2).trans rfl; have hcz21_3 : w20.cell? ⟨gb101, 3, none⟩ = some (.int .i64 a0_3) := (blk_cell BK101.out 3).trans rfl; have hfz21_0 := blk_frozen BK101.out 0; have hfz21_1 := blk_frozen BK101.out 1; have hfz21_2 := blk_frozen BK101.out 2; have hfz21_3 := blk_frozen BK101.out 3) | ((with_reducible refine gate_callee (f := 12) rfl ?_); refine gL_ (some 38) rfl rfl Try.func12 (by kernel_rfl) rfl #[.agg #[.string a0_0, .string a0_1, .slice A0_2 l0_2.length c0_2, .int .i64 a0_3]] rfl ?_; (with_reducible refine (rillmeterlaw05_ref.calls kj2 a0_0 a0_1 _ _ l0_2 a0_3 t105 t106 t107 t110 _ ?side1 ?side2 A14.out).mono ?_); (case side1 => repeat (first | exact (Kd.C_below HR0_2.out HB.out) | (with_reducible refine Kd.C_alloc ?_ _) | (with_reducible refine Kd.C_drewN ?_ _) | (with_reducible refine Kd.C_drew ?_))); (case side2 => exact HC0_2.out); rintro e w22 ⟨v108, rfl, ho0, hb⟩; refine ⟨_, rfl, ?_⟩; have n0_ := Aside0.mk (Kd.R_lower ho0 (below_size (bU_ HB.out))); have n1_ := Aside0.mk (blk_below (g := gb101) (o := .cells #[.string a0_0, .string a0_1, .slice A0_2 l0_2.length c0_2, .int .i64 a0_3] 25 (0, 0)) (by (with_reducible repeat first | apply pN_ | apply pD_ | apply pA_); exact BK101.out) hb); have n2_ := Aside0.mk (below_step (bU_ HB.out) hb); clear BK101; clear HB; have HO109 := n0_; have BK101 := n1_; have HB := n2_; clear n0_ n1_ n2_; (try clear hb); (try clear hb2); (try clear hk); (try clear hi); (try clear ho0); obtain ⟨Ao23, co23, eo23⟩ := Kd.R_slice HO109.out; subst eo23) | ((with_reducible refine gate_callee (f := 15) rfl ?_); refine gL_ (some 39) rfl rfl Try.func15 (by kernel_rfl) rfl #[.agg #[.string t105, .string t106, .slice Ao23 t107.length co23, .int .i64 t110]] rfl ?_; (with_reducible refine (rillmeterref05_Right.calls kj2 t105 t106 _ _ t107 t110 t111 _ ?side1 ?side2 A15.out).mono ?_); (case side1 => repeat (first | exact (Kd.R_reads' HO109.out).2.2 | (with_reducible refine Kd.C_alloc ?_ _) | (with_reducible refine Kd.C_drewN ?_ _) | (with_reducible refine Kd.C_drew ?_))); (case side2 => exact (Kd.R_reads' HO109.out).2.1); rintro e w24 ⟨rfl, hb⟩; refine ⟨_, rfl, ?_⟩; have n0_ := Aside0.mk (Kd.R_below (by (with_reducible repeat first | apply Kd.R_alloc | apply Kd.R_drewN | apply Kd.R_drew); exact HO109.out) hb); have n1_ := Aside0.mk (blk_below (g := gb101) (o := .cells #[.string a0_0, .string a0_1, .slice A0_2 l0_2.length c0_2, .int .i64 a0_3] 25 (0, 0)) (by (with_reducible repeat first | apply pN_ | apply pD_ | apply pA_); exact BK101.out) hb); have n2_ := Aside0.mk (below_step (bU_ HB.out) hb); clear HO109; clear BK101; clear HB; have HO109 := n0_; have BK101 := n1_; have HB := n2_; clear n0_ n1_ n2_; (try clear hb); (try clear hb2); (try clear hk); (try clear hi); have hcz25_0 : w24.cell? ⟨gb101, 0, none⟩ = some (.string a0_0) := (blk_cell BK101.out 0).trans rfl; have hcz25_1 : w24.cell? ⟨gb101, 1, none⟩ = some (.string a0_1) := (blk_cell BK101.out 1).trans rfl; have hcz25_2 : w24.cell? ⟨gb101, 2, none⟩ = some (.slice A0_2 l0_2.length c0_2) := (blk_cell BK101.out 2).trans rfl; have hcz25_3 : w24.cell? ⟨gb101, 3, none⟩ = some (.int .i64 a0_3) := (blk_cell BK101.out 3).trans rfl; have hfz25_0 := blk_frozen BK101.out 0; have hfz25_1 := blk_frozen BK101.out 1; have hfz25_2 := blk_frozen BK101.out 2; have hfz25_3 := blk_frozen BK101.out 3) | ((with_reducible refine gate_callee (f := 16) rfl ?_); refine gL_ (some 41) rfl rfl Try.func16 (by kernel_rfl) rfl #[.agg #[.string a0_0, .string a0_1, .slice A0_2 l0_2.length c0_2, .int .i64 a0_3]] rfl ?_; (with_reducible refine (ether_Right.calls kj2 a0_0 a0_1 _ _ l0_2 a0_3 t112 _ ?side1 ?side2 A16.out).mono ?_); (case side1 => repeat (first | exact (Kd.C_below HR0_2.out HB.out) | (with_reducible refine Kd.C_alloc ?_ _) | (with_reducible refine Kd.C_drewN ?_ _) | (with_reducible refine Kd.C_drew ?_))); (case side2 => exact HC0_2.out); rintro e w26 ⟨rfl, hb⟩; refine ⟨_, rfl, ?_⟩; have n0_ := Aside0.mk (Kd.R_below (by (with_reducible repeat first | apply Kd.R_alloc | apply Kd.R_drewN | apply Kd.R_drew); exact HO109.out) hb); have n1_ := Aside0.mk (blk_below (g := gb101) (o := .cells #[.string a0_0, .string a0_1, .slice A0_2 l0_2.length c0_2, .int .i64 a0_3] 25 (0, 0)) (by (with_reducible repeat first | apply pN_ | apply pD_ | apply pA_); exact BK101.out) hb); have n2_ := Aside0.mk (below_step (bU_ HB.out) hb); clear HO109; clear BK101; clear HB; have HO109 := n0_; have BK101 := n1_; have HB := n2_; clear n0_ n1_ n2_; (try clear hb); (try clear hb2); (try clear hk); (try clear hi)))
    (try simp only [Act.put, List.setIfInBounds_toArray, List.set_cons_zero, List.set_cons_succ])
    have H := HC18.out
    clear HC18
    by_cases c27 : t111 = true
    ·subst c27
     have H1 : ((ether_Take.f kj2 t103).bind fun bt114 => ((rillmeterlaw05_ref.f kj2 a0_0 a0_1 l0_2 a0_3).bind fun bt123 => ((rillmeterref05_Put.f kj2 bt123.1 bt123.2.1 bt123.2.2.1 bt123.2.2.2).bind fun t129 => (if t129.size + a1.size ≤ 9223372036854775807 then (if t103.toList = (t129 ++ a1).toList then (if t104 = 0 then ((rillmeterlaw05_ref.f kj2 bt114.1 bt114.2.1 bt114.2.2.1 bt114.2.2.2.1).bind fun bt130 => ((rillmeterlaw05_ref.f kj2 a0_0 a0_1 l0_2 a0_3).bind fun bt136 => ((rillmeterref05_Equal.f kj2 bt130.1 bt130.2.1 bt130.2.2.1 bt130.2.2.2 bt136.1 bt136.2.1 bt136.2.2.1 bt136.2.2.2).bind fun t142 => (if t142 = true then (if bt114.2.2.2.2.1.toList = a1.toList then (if bt114.2.2.2.2.2 = 0 then ((rillmeterlaw05_awake.f kj2).bind fun t143 => (some t143)) else (some false)) else (some false)) else (some false))))) else (some false)) else (some false)) else (none))))) = some r := by rw [if_pos rfl] at H; exact H
     clear H
     have H := H1
     clear H1
     replace H := Option.bind_eq_some_iff.mp H
     obtain ⟨⟨t114, t115, t116, t119, t120, t121⟩, A280, H⟩ := H
     replace H : ((rillmeterlaw05_ref.f kj2 a0_0 a0_1 l0_2 a0_3).bind fun bt123 => ((rillmeterref05_Put.f kj2 bt123.1 bt123.2.1 bt123.2.2.1 bt123.2.2.2).bind fun t129 => (if t129.size + a1.size ≤ 9223372036854775807 then (if t103.toList = (t129 ++ a1).toList then (if t104 = 0 then ((rillmeterlaw05_ref.f kj2 t114 t115 t116 t119).bind fun bt130 => ((rillmeterlaw05_ref.f kj2 a0_0 a0_1 l0_2 a0_3).bind fun bt136 => ((rillmeterref05_Equal.f kj2 bt130.1 bt130.2.1 bt130.2.2.1 bt130.2.2.2 bt136.1 bt136.2.1 bt136.2.2.1 bt136.2.2.2).bind fun t142 => (if t142 = true then (if t120.toList = a1.toList then (if t121 = 0 then ((rillmeterlaw05_awake.f kj2).bind fun t143 => (some t143)) else (some false)) else (some false)) else (some false))))) else (some false)) else (some false)) else (none)))) = some r := H
     have A28 := Aside0.mk A280
     clear A280
     replace H := Option.bind_eq_some_iff.mp H
     obtain ⟨⟨t123, t124, t125, t128⟩, A290, H⟩ := H
     replace H : ((rillmeterref05_Put.f kj2 t123 t124 t125 t128).bind fun t129 => (if t129.size + a1.size ≤ 9223372036854775807 then (if t103.toList = (t129 ++ a1).toList then (if t104 = 0 then ((rillmeterlaw05_ref.f kj2 t114 t115 t116 t119).bind fun bt130 => ((rillmeterlaw05_ref.f kj2 a0_0 a0_1 l0_2 a0_3).bind fun bt136 => ((rillmeterref05_Equal.f kj2 bt130.1 bt130.2.1 bt130.2.2.1 bt130.2.2.2 bt136.1 bt136.2.1 bt136.2.2.1 bt136.2.2.2).bind fun t142 => (if t142 = true then (if t120.toList = a1.toList then (if t121 = 0 then ((rillmeterlaw05_awake.f kj2).bind fun t143 => (some t143)) else (some false)) else (some false)) else (some false))))) else (some false)) else (some false)) else (none))) = some r := H
     have A29 := Aside0.mk A290
     clear A290
     replace H := Option.bind_eq_some_iff.mp H
     obtain ⟨t129, A300, H⟩ := H
     replace H : (if t129.size + a1.size ≤ 9223372036854775807 then (if t103.toList = (t129 ++ a1).toList then (if t104 = 0 then ((rillmeterlaw05_ref.f kj2 t114 t115 t116 t119).bind fun bt130 => ((rillmeterlaw05_ref.f kj2 a0_0 a0_1 l0_2 a0_3).bind fun bt136 => ((rillmeterref05_Equal.f kj2 bt130.1 bt130.2.1 bt130.2.2.1 bt130.2.2.2 bt136.1 bt136.2.1 bt136.2.2.1 bt136.2.2.2).bind fun t142 => (if t142 = true then (if t120.toList = a1.toList then (if t121 = 0 then ((rillmeterlaw05_awake.f kj2).bind fun t143 => (some t143)) else (some false)) else (some false)) else (some false))))) else (some false)) else (some false)) else (none)) = some r := H
     have A30 := Aside0.mk A300
     clear A300
     by_cases c31 : t129.size + a1.size ≤ 9223372036854775807
     rotate_left
     ·rw [if_neg c31] at H
      exact absurd H (by simp)
     rw [if_pos c31] at H
     have c31b0 := eq_true c31
     have c31b1 : decide (t129.size + a1.size ≤ 9223372036854775807) = true := decide_eq_true c31
     try have c31b2 : (9223372036854775807 < t129.size + a1.size) = False := eq_false (Nat.not_lt.2 c31)
     try (have c31b3 := c31; simp only [ByteArray.size_append, ByteArray.size_extract, Nat.sub_zero, Nat.min_self] at c31b3; have c31b4 := eq_false (Nat.not_lt.2 c31b3))
     by_cases c32 : t103.toList = (t129 ++ a1).toList
     ·rw [if_pos c32] at H
      have c32b0 : (t103.toList == (t129 ++ a1).toList) = true := beq_iff_eq.mpr c32
      have c32b1 : (t103.toList != (t129 ++ a1).toList) = false := bne_eq_false_iff_eq.mpr c32
      clear c32
      (first | rw [c32b0] | (simp only [i64_w, i32_w]; rw [c32b0]) | skip)
      by_cases c33 : t104 = 0
      ·rw [if_pos c33] at H
       have c33b0 : (t104 == 0) = true := beq_iff_eq.mpr c33
       have c33b1 : (t104 != 0) = false := bne_eq_false_iff_eq.mpr c33
       clear c33
       replace H := Option.bind_eq_some_iff.mp H
       obtain ⟨⟨t130, t131, t132, t135⟩, A340, H⟩ := H
       replace H : ((rillmeterlaw05_ref.f kj2 a0_0 a0_1 l0_2 a0_3).bind fun bt136 => ((rillmeterref05_Equal.f kj2 t130 t131 t132 t135 bt136.1 bt136.2.1 bt136.2.2.1 bt136.2.2.2).bind fun t142 => (if t142 = true then (if t120.toList = a1.toList then (if t121 = 0 then ((rillmeterlaw05_awake.f kj2).bind fun t143 => (some t143)) else (some false)) else (some false)) else (some false)))) = some r := H
       have A34 := Aside0.mk A340
       clear A340
       replace H := Option.bind_eq_some_iff.mp H
       obtain ⟨⟨t136, t137, t138, t141⟩, A350, H⟩ := H
       replace H : ((rillmeterref05_Equal.f kj2 t130 t131 t132 t135 t136 t137 t138 t141).bind fun t142 => (if t142 = true then (if t120.toList = a1.toList then (if t121 = 0 then ((rillmeterlaw05_awake.f kj2).bind fun t143 => (some t143)) else (some false)) else (some false)) else (some false))) = some r := H
       have A35 := Aside0.mk A350
       clear A350
       replace H := Option.bind_eq_some_iff.mp H
       obtain ⟨t142, A360, H⟩ := H
       replace H : (if t142 = true then (if t120.toList = a1.toList then (if t121 = 0 then ((rillmeterlaw05_awake.f kj2).bind fun t143 => (some t143)) else (some false)) else (some false)) else (some false)) = some r := H
       have A36 := Aside0.mk A360
       clear A360
       by_cases c37 : t142 = true
       ·subst c37
        have H1 : (if t120.toList = a1.toList then (if t121 = 0 then ((rillmeterlaw05_awake.f kj2).bind fun t143 => (some t143)) else (some false)) else (some false)) = some r := by rw [if_pos rfl] at H; exact H
        clear H
        have H := H1
        clear H1
        by_cases c38 : t120.toList = a1.toList
        ·rw [if_pos c38] at H
         have c38b0 : (t120.toList == a1.toList) = true := beq_iff_eq.mpr c38
         have c38b1 : (t120.toList != a1.toList) = false := bne_eq_false_iff_eq.mpr c38
         clear c38
         by_cases c39 : t121 = 0
         ·rw [if_pos c39] at H
          have c39b0 : (t121 == 0) = true := beq_iff_eq.mpr c39
          have c39b1 : (t121 != 0) = false := bne_eq_false_iff_eq.mpr c39
          clear c39
          replace H := Option.bind_eq_some_iff.mp H
          obtain ⟨t143, A400, H⟩ := H
          replace H : (some t143) = some r := H
          have A40 := Aside0.mk A400
          clear A400
          obtain rfl := Option.some.inj H
          try go_wp2_with (first | ((with_reducible refine gate_callee (f := 9) rfl ?_); refine gL_ (some 57) rfl rfl Try.func9 (by kernel_rfl) rfl #[.string t103] rfl ?_; (with_reducible refine (ether_Take.calls kj2 t103 t114 t115 t116 t119 t120 t121 _ A28.out).mono ?_); rintro e w41 ⟨v117, rfl, ho0, hb⟩; refine ⟨_, rfl, ?_⟩; have n0_ := Aside0.mk (Kd.R_below (by (with_reducible repeat first | apply Kd.R_alloc | apply Kd.R_drewN | apply Kd.R_drew); exact HO109.out) hb); have n1_ := Aside0.mk (Kd.R_lower ho0 (below_size (bU_ HB.out))); have n2_ := Aside0.mk (blk_below (g := gb101) (o := .cells #[.string a0_0, .string a0_1, .slice A0_2 l0_2.length c0_2, .int .i64 a0_3] 25 (0, 0)) (by (with_reducible repeat first | apply pN_ | apply pD_ | apply pA_); exact BK101.out) hb); have n3_ := Aside0.mk (below_step (bU_ HB.out) hb); clear HO109; clear BK101; clear HB; have HO109 := n0_; have HO118 := n1_; have BK101 := n2_; have HB := n3_; clear n0_ n1_ n2_ n3_; (try clear hb); (try clear hb2); (try clear hk); (try clear hi); (try clear ho0)) | ((with_reducible refine gate_dst (N := 8) rfl ?_); (try (refine gate_guard (by rfl) ?_; dsimp only)); refine box_event ?hg (N := 8) ?hd (cs := #[.string (⟨#[]⟩ : ByteArray), .string (⟨#[]⟩ : ByteArray), .slice none 0 0, .int .i64 0]) (t := 25) ?hr ?_; (case hd => rfl); (case hg => rfl); (case hr => first | (go_simp; done) | (go_simp; rfl)); intro gb122 hg w42 hbox hb; have n0_ := Aside0.mk (Kd.R_below (by (with_reducible repeat first | apply Kd.R_alloc | apply Kd.R_drewN | apply Kd.R_drew); exact HO109.out) hb); have n1_ := Aside0.mk (Kd.R_below (by (with_reducible repeat first | apply Kd.R_alloc | apply Kd.R_drewN | apply Kd.R_drew); exact HO118.out) hb); have n2_ := Aside0.mk (blk_below (g := gb101) (o := .cells #[.string a0_0, .string a0_1, .slice A0_2 l0_2.length c0_2, .int .i64 a0_3] 25 (0, 0)) (by (with_reducible repeat first | apply pN_ | apply pD_ | apply pA_); exact BK101.out) hb); have n3_ := Aside0.mk (below_step (bU_ HB.out) hb); have n4_ := Aside0.mk (hbox); have n5_ := Aside0.mk ((by rw [hg]; exact (below_size (bU_ HB.out)) : w.heap.size ≤ gb122)); have n6_ := Aside0.mk ((by rw [hg]; exact (below_size (bU_ HB.out)) : w.heap.size ≤ gb122)); have n7_ := Aside0.mk ((by rw [hg]; exact Nat.ne_of_lt (blk_lt (g := gb101) (o := .cells #[.string a0_0, .string a0_1, .slice A0_2 l0_2.length c0_2, .int .i64 a0_3] 25 (0, 0)) (by (with_reducible repeat first | apply pN_ | apply pD_ | apply pA_); exact BK101.out)) : gb101 ≠ gb122)); have n8_ := Aside0.mk ((by rw [hg]; exact Nat.ne_of_gt (blk_lt (g := gb101) (o := .cells #[.string a0_0, .string a0_1, .slice A0_2 l0_2.length c0_2, .int .i64 a0_3] 25 (0, 0)) (by (with_reducible repeat first | apply pN_ | apply pD_ | apply pA_); exact BK101.out)) : gb122 ≠ gb101)); clear HO109; clear HO118; clear BK101; clear HB; have HO109 := n0_; have HO118 := n1_; have BK101 := n2_; have HB := n3_; have BK122 := n4_; have GW122 := n5_; have GE122 := n6_; have NB101_122 := n7_; have NB122_101 := n8_; clear n0_ n1_ n2_ n3_ n4_ n5_ n6_ n7_ n8_; clear hb hbox hg; have hnb43 := NB122_101.out; have hnc43 := NB101_122.out; have hcz44_0 : w42.cell? ⟨gb122, 0, none⟩ = some (.string (⟨#[]⟩ : ByteArray)) := (blk_cell BK122.out 0).trans rfl; have hcz44_1 : w42.cell? ⟨gb122, 1, none⟩ = some (.string (⟨#[]⟩ : ByteArray)) := (blk_cell BK122.out 1).trans rfl; have hcz44_2 : w42.cell? ⟨gb122, 2, none⟩ = some (.slice none 0 0) := (blk_cell BK122.out 2).trans rfl; have hcz44_3 : w42.cell? ⟨gb122, 3, none⟩ = some (.int .i64 0) := (blk_cell BK122.out 3).trans rfl; have hfz44_0 := blk_frozen BK122.out 0; have hfz44_1 := blk_frozen BK122.out 1; have hfz44_2 := blk_frozen BK122.out 2; have hfz44_3 := blk_frozen BK122.out 3; obtain ⟨Ao45, co45, eo45⟩ := Kd.R_slice HO118.out; subst eo45))
          have n0_ : Aside0 (Kd.R k53 53 ((((w42.setCell ⟨gb122, 0, none⟩ (.string t114)).setCell ⟨gb122, 1, none⟩ (.string t115)).setCell ⟨gb122, 2, none⟩ (.slice Ao45 t116.length co45)).setCell ⟨gb122, 3, none⟩ (.int .i64 t119)) w.heap.size (fun _ => True) (.slice Ao23 t107.length co23) t107) := ⟨by (with_reducible repeat first | apply Kd.R_alloc | apply Kd.R_drewN | apply Kd.R_drew); exact Kd.R_mono (Kd.R_far (p := ⟨gb122, 3, none⟩) (Kd.R_far (p := ⟨gb122, 2, none⟩) (Kd.R_far (p := ⟨gb122, 1, none⟩) (Kd.R_far (p := ⟨gb122, 0, none⟩) (Kd.R_types HO109.out BK122.out (by decide)) (fun _ hk => hk.2) (.string t114)) (fun _ hk => hk.2) (.string t115)) (fun _ hk => hk.2) (.slice Ao45 t116.length co45)) (fun _ hk => hk.2) (.int .i64 t119)) (fun _ hk => trivial)⟩
          have n1_ : Aside0 (Kd.R k39 39 ((((w42.setCell ⟨gb122, 0, none⟩ (.string t114)).setCell ⟨gb122, 1, none⟩ (.string t115)).setCell ⟨gb122, 2, none⟩ (.slice Ao45 t116.length co45)).setCell ⟨gb122, 3, none⟩ (.int .i64 t119)) w.heap.size (fun _ => True) (.slice Ao45 t116.length co45) t116) := ⟨by (with_reducible repeat first | apply Kd.R_alloc | apply Kd.R_drewN | apply Kd.R_drew); exact Kd.R_mono (Kd.R_far (p := ⟨gb122, 3, none⟩) (Kd.R_far (p := ⟨gb122, 2, none⟩) (Kd.R_far (p := ⟨gb122, 1, none⟩) (Kd.R_far (p := ⟨gb122, 0, none⟩) (Kd.R_types HO118.out BK122.out (by decide)) (fun _ hk => hk.2) (.string t114)) (fun _ hk => hk.2) (.string t115)) (fun _ hk => hk.2) (.slice Ao45 t116.length co45)) (fun _ hk => hk.2) (.int .i64 t119)) (fun _ hk => trivial)⟩
          have n2_ : Aside0 (((((w42.setCell ⟨gb122, 0, none⟩ (.string t114)).setCell ⟨gb122, 1, none⟩ (.string t115)).setCell ⟨gb122, 2, none⟩ (.slice Ao45 t116.length co45)).setCell ⟨gb122, 3, none⟩ (.int .i64 t119)).heap[gb101]? = some (.cells #[.string a0_0, .string a0_1, .slice A0_2 l0_2.length c0_2, .int .i64 a0_3] 25 (0, 0))) := ⟨by (with_reducible repeat first | apply pN_ | apply pD_ | apply pA_); refine blk_far ?_ NB101_122.out _; (with_reducible repeat first | apply pN_ | apply pD_ | apply pA_); refine blk_far ?_ NB101_122.out _; (with_reducible repeat first | apply pN_ | apply pD_ | apply pA_); refine blk_far ?_ NB101_122.out _; (with_reducible repeat first | apply pN_ | apply pD_ | apply pA_); refine blk_far ?_ NB101_122.out _; (with_reducible repeat first | apply pN_ | apply pD_ | apply pA_); exact BK101.out⟩
          have n3_ : Aside0 (((((w42.setCell ⟨gb122, 0, none⟩ (.string t114)).setCell ⟨gb122, 1, none⟩ (.string t115)).setCell ⟨gb122, 2, none⟩ (.slice Ao45 t116.length co45)).setCell ⟨gb122, 3, none⟩ (.int .i64 t119)).heap[gb122]? = some (.cells #[.string t114, .string t115, .slice Ao45 t116.length co45, .int .i64 t119] 25 (0, 0))) := ⟨by (with_reducible repeat first | apply pN_ | apply pD_ | apply pA_); refine blk_put (cs := #[.string t114, .string t115, .slice Ao45 t116.length co45, .int .i64 0]) ?_ 3 _ rfl; (with_reducible repeat first | apply pN_ | apply pD_ | apply pA_); refine blk_put (cs := #[.string t114, .string t115, .slice none 0 0, .int .i64 0]) ?_ 2 _ rfl; (with_reducible repeat first | apply pN_ | apply pD_ | apply pA_); refine blk_put (cs := #[.string t114, .string (⟨#[]⟩ : ByteArray), .slice none 0 0, .int .i64 0]) ?_ 1 _ rfl; (with_reducible repeat first | apply pN_ | apply pD_ | apply pA_); refine blk_put (cs := #[.string (⟨#[]⟩ : ByteArray), .string (⟨#[]⟩ : ByteArray), .slice none 0 0, .int .i64 0]) ?_ 0 _ rfl; (with_reducible repeat first | apply pN_ | apply pD_ | apply pA_); exact BK122.out⟩
          have n4_ : Aside0 (Below w.heap.size w ((((w42.setCell ⟨gb122, 0, none⟩ (.string t114)).setCell ⟨gb122, 1, none⟩ (.string t115)).setCell ⟨gb122, 2, none⟩ (.slice Ao45 t116.length co45)).setCell ⟨gb122, 3, none⟩ (.int .i64 t119))) := ⟨bU_ HB.out⟩
          (try clear HO109)
          (try clear HO118)
          (try clear BK101)
          (try clear BK122)
          (try clear HB)
          generalize ((((w42.setCell ⟨gb122, 0, none⟩ (.string t114)).setCell ⟨gb122, 1, none⟩ (.string t115)).setCell ⟨gb122, 2, none⟩ (.slice Ao45 t116.length co45)).setCell ⟨gb122, 3, none⟩ (.int .i64 t119)) = w46 at n0_ n1_ n2_ n3_ n4_ ⊢
          have HO109 := n0_
          have HO118 := n1_
          have BK101 := n2_
          have BK122 := n3_
          have HB := n4_
          clear n0_ n1_ n2_ n3_ n4_
          have n0_ := Aside0.mk (Kd.R_drew HO109.out)
          have n1_ := Aside0.mk (Kd.R_drew HO118.out)
          have n2_ := Aside0.mk (blk_drew BK101.out)
          have n3_ := Aside0.mk (blk_drew BK122.out)
          have n4_ := Aside0.mk (below_drew1 HB.out)
          clear HO109
          clear HO118
          clear BK101
          clear BK122
          clear HB
          have HO109 := n0_
          have HO118 := n1_
          have BK101 := n2_
          have BK122 := n3_
          have HB := n4_
          clear n0_ n1_ n2_ n3_ n4_
          refine start_ (n := 31) (S := fun w' => w'.cell? ⟨gb101, 0, none⟩ = some (.string a0_0) ∧ w'.cell? ⟨gb101, 1, none⟩ = some (.string a0_1) ∧ w'.cell? ⟨gb101, 2, none⟩ = some (.slice A0_2 l0_2.length c0_2) ∧ w'.cell? ⟨gb101, 3, none⟩ = some (.int .i64 a0_3) ∧ w'.cell? ⟨gb122, 0, none⟩ = some (.string t114) ∧ w'.cell? ⟨gb122, 1, none⟩ = some (.string t115) ∧ w'.cell? ⟨gb122, 2, none⟩ = some (.slice Ao45 t116.length co45) ∧ w'.cell? ⟨gb122, 3, none⟩ = some (.int .i64 t119)) (ds := []) #[false, false, false, false, false, false, false, false, false, false, false, false, false, false, false, false, false, false, false, false, false, false, false, false, false, false, false, false, false, false, false] (by kernel_rfl) rfl rfl ⟨(blk_cell BK101.out 0).trans rfl, (blk_cell BK101.out 1).trans rfl, (blk_cell BK101.out 2).trans rfl, (blk_cell BK101.out 3).trans rfl, (blk_cell BK122.out 0).trans rfl, (blk_cell BK122.out 1).trans rfl, (blk_cell BK122.out 2).trans rfl, (blk_cell BK122.out 3).trans rfl⟩ (fun hHeld => ?_); refine with_tabW rillmeterlaw05_EtherPuts.tab10 rillmeterlaw05_EtherPuts.bits10 (fun HT_ HW_ => ?_)
          generalize w46.drew = w47 at HO109 HO118 BK101 BK122 HB hHeld ⊢
          refine pure_ (i := 0) (N := some 61) (v := ?_) (a' := ?_) #[true, false, false, false, false, false, false, false, false, false, false, false, false, false, false, false, false, false, false, false, false, false, false, false, false, false, false, false, false, false, false] rfl rfl (any_of HT_.out (by kernel_rfl)) (fun _ _ _ h => h) (Or.inl ⟨by rfl, ?_⟩) ?_ ?_
          rotate_left
          ·intro w'
           go_simp
           with_reducible rfl
          rotate_left
          ·simp only [Act.put, List.setIfInBounds_toArray, List.set_cons_zero, List.set_cons_succ, i64_w, i32_w]
           rfl
          refine pure_ (i := 4) (N := some 65) (v := ?_) (a' := ?_) #[true, false, false, false, true, false, false, false, false, false, false, false, false, false, false, false, false, false, false, false, false, false, false, false, false, false, false, false, false, false, false] rfl rfl (any_of HT_.out (by kernel_rfl)) (fun _ _ _ h => h) (Or.inl ⟨by rfl, ?_⟩) ?_ ?_
          rotate_left
          ·intro w'
           go_simp
           with_reducible rfl
          rotate_left
          ·simp only [Act.put, List.setIfInBounds_toArray, List.set_cons_zero, List.set_cons_succ, i64_w, i32_w]
           rfl
          refine take_ (i := 1) (N := some 62) (v := ?_) (a' := ?_) #[true, true, false, false, true, false, false, false, false, false, false, false, false, false, false, false, false, false, false, false, false, false, false, false, false, false, false, false, false, false, false] rfl rfl (take_ofW HT_.out HW_.out (by kernel_rfl)) (fun _ _ _ h => h) (Or.inl ⟨by rfl, ?_⟩) hHeld ?_ ?_
          rotate_left
          ·rintro w' ⟨s0, s1, s2, s3, s4, s5, s6, s7⟩
           go_simp
           with_reducible rfl
          rotate_left
          ·simp only [Act.put, List.setIfInBounds_toArray, List.set_cons_zero, List.set_cons_succ, i64_w, i32_w]
           rfl
          refine one_ (i := 2) (N := some 63) #[true, true, true, false, true, false, false, false, false, false, false, false, false, false, false, false, false, false, false, false, false, false, false, false, false, false, false, false, false, false, false] rfl rfl (one_of HT_.out (by kernel_rfl)) (by decide) (fun K hK => ?_)
          refine goes_ Try.func12 (by kernel_rfl) rfl #[.agg #[.string a0_0, .string a0_1, .slice A0_2 l0_2.length c0_2, .int .i64 a0_3]] (by rfl) rfl rfl (by (try simp only [List.map_toArray, List.map_cons, List.map_nil]); first | done | rfl | (simp only [List.length_drop, List.length_take]; rfl) | (simp only [ByteArray.size_append, ByteArray.size_extract, Nat.sub_zero, Int.natCast_add]; rfl) | (simp [ByteArray.size_append]; done)) ?_
          with_reducible refine (rillmeterlaw05_ref.calls kj2 a0_0 a0_1 _ _ l0_2 a0_3 t123 t124 t125 t128 _ ?side1 ?side2 A29.out).mono ?_
          (case side1 => repeat (first | exact (Kd.C_below HR0_2.out HB.out) | (with_reducible refine Kd.C_alloc ?_ _) | (with_reducible refine Kd.C_drewN ?_ _) | (with_reducible refine Kd.C_drew ?_)))
          (case side2 => exact HC0_2.out)
          rintro e w48 ⟨v126, rfl, ho0, hb⟩
          refine ⟨_, rfl, ?_⟩
          have n0_ := Aside0.mk (Kd.R_elder' (by (with_reducible repeat first | apply Kd.R_alloc | apply Kd.R_drewN | apply Kd.R_drew); exact HO109.out) (Kd.R_base ho0) hb)
          have n1_ := Aside0.mk (Kd.R_below (by (with_reducible repeat first | apply Kd.R_alloc | apply Kd.R_drewN | apply Kd.R_drew); exact HO118.out) hb)
          have n2_ := Aside0.mk (Kd.R_lower (Kd.R_new' ho0 (Kd.R_lt (by (with_reducible repeat first | apply Kd.R_alloc | apply Kd.R_drewN | apply Kd.R_drew); exact HO109.out))) (below_size (bU_ HB.out)))
          have n3_ := Aside0.mk (blk_below (g := gb101) (o := .cells #[.string a0_0, .string a0_1, .slice A0_2 l0_2.length c0_2, .int .i64 a0_3] 25 (0, 0)) (by (with_reducible repeat first | apply pN_ | apply pD_ | apply pA_); exact BK101.out) hb)
          have n4_ := Aside0.mk (blk_below (g := gb122) (o := .cells #[.string t114, .string t115, .slice Ao45 t116.length co45, .int .i64 t119] 25 (0, 0)) (by (with_reducible repeat first | apply pN_ | apply pD_ | apply pA_); exact BK122.out) hb)
          have n5_ := Aside0.mk (below_step (bU_ HB.out) hb)
          clear HO109
          clear HO118
          clear BK101
          clear BK122
          clear HB
          have HO109 := n0_
          have HO118 := n1_
          have HO127 := n2_
          have BK101 := n3_
          have BK122 := n4_
          have HB := n5_
          clear n0_ n1_ n2_ n3_ n4_ n5_
          (try clear hb)
          (try clear hb2)
          (try clear hk)
          (try clear hi)
          (try clear ho0)
          obtain ⟨Ao49, co49, eo49⟩ := Kd.R_slice HO127.out
          (first | subst eo49 | (injection eo49 with f1_ f2_ f3_; have f4_ := f1_.symm; have f5_ := f3_.symm; clear f1_ f2_ f3_; subst f4_; subst f5_))
          refine hK.out _ _ ⟨(blk_cell BK101.out 0).trans rfl, (blk_cell BK101.out 1).trans rfl, (blk_cell BK101.out 2).trans rfl, (blk_cell BK101.out 3).trans rfl, (blk_cell BK122.out 0).trans rfl, (blk_cell BK122.out 1).trans rfl, (blk_cell BK122.out 2).trans rfl, (blk_cell BK122.out 3).trans rfl⟩ (fun hHeld => ?_)
          clear hK K
          refine norm_ (a' := ?_) ?_ ?_
          rotate_left
          ·show Act.put _ (some 63) _ = _
           simp only [Act.put, List.setIfInBounds_toArray, List.set_cons_zero, List.set_cons_succ, i64_w, i32_w]
           rfl
          refine one_ (i := 3) (N := some 64) #[true, true, true, true, true, false, false, false, false, false, false, false, false, false, false, false, false, false, false, false, false, false, false, false, false, false, false, false, false, false, false] rfl rfl (one_of HT_.out (by kernel_rfl)) (by decide) (fun K hK => ?_)
          refine goes_ Try.func17 (by kernel_rfl) rfl #[.agg #[.string t123, .string t124, .slice Ao49 t125.length co49, .int .i64 t128]] (by rfl) rfl rfl (by (try simp only [List.map_toArray, List.map_cons, List.map_nil]); first | done | rfl | (simp only [List.length_drop, List.length_take]; rfl) | (simp only [ByteArray.size_append, ByteArray.size_extract, Nat.sub_zero, Int.natCast_add]; rfl) | (simp [ByteArray.size_append]; done)) ?_
          with_reducible refine (rillmeterref05_Put.calls kj2 t123 t124 _ _ t125 t128 t129 _ ?side1 ?side2 A30.out).mono ?_
          (case side1 => repeat (first | exact (Kd.R_reads' HO127.out).2.2 | (with_reducible refine Kd.C_alloc ?_ _) | (with_reducible refine Kd.C_drewN ?_ _) | (with_reducible refine Kd.C_drew ?_)))
          (case side2 => exact (Kd.R_reads' HO127.out).2.1)
          rintro e w50 ⟨rfl, hb⟩
          refine ⟨_, rfl, ?_⟩
          have n0_ := Aside0.mk (Kd.R_below (by (with_reducible repeat first | apply Kd.R_alloc | apply Kd.R_drewN | apply Kd.R_drew); exact HO109.out) hb)
          have n1_ := Aside0.mk (Kd.R_below (by (with_reducible repeat first | apply Kd.R_alloc | apply Kd.R_drewN | apply Kd.R_drew); exact HO118.out) hb)
          have n2_ := Aside0.mk (Kd.R_below (by (with_reducible repeat first | apply Kd.R_alloc | apply Kd.R_drewN | apply Kd.R_drew); exact HO127.out) hb)
          have n3_ := Aside0.mk (blk_below (g := gb101) (o := .cells #[.string a0_0, .string a0_1, .slice A0_2 l0_2.length c0_2, .int .i64 a0_3] 25 (0, 0)) (by (with_reducible repeat first | apply pN_ | apply pD_ | apply pA_); exact BK101.out) hb)
          have n4_ := Aside0.mk (blk_below (g := gb122) (o := .cells #[.string t114, .string t115, .slice Ao45 t116.length co45, .int .i64 t119] 25 (0, 0)) (by (with_reducible repeat first | apply pN_ | apply pD_ | apply pA_); exact BK122.out) hb)
          have n5_ := Aside0.mk (below_step (bU_ HB.out) hb)
          clear HO109
          clear HO118
          clear HO127
          clear BK101
          clear BK122
          clear HB
          have HO109 := n0_
          have HO118 := n1_
          have HO127 := n2_
          have BK101 := n3_
          have BK122 := n4_
          have HB := n5_
          clear n0_ n1_ n2_ n3_ n4_ n5_
          (try clear hb)
          (try clear hb2)
          (try clear hk)
          (try clear hi)
          refine hK.out _ _ ⟨(blk_cell BK101.out 0).trans rfl, (blk_cell BK101.out 1).trans rfl, (blk_cell BK101.out 2).trans rfl, (blk_cell BK101.out 3).trans rfl, (blk_cell BK122.out 0).trans rfl, (blk_cell BK122.out 1).trans rfl, (blk_cell BK122.out 2).trans rfl, (blk_cell BK122.out 3).trans rfl⟩ (fun hHeld => ?_)
          clear hK K
          refine norm_ (a' := ?_) ?_ ?_
          rotate_left
          ·show Act.put _ (some 64) _ = _
           simp only [Act.put, List.setIfInBounds_toArray, List.set_cons_zero, List.set_cons_succ, i64_w, i32_w]
           rfl
          refine pure_ (i := 5) (N := some 66) (v := ?_) (a' := ?_) #[true, true, true, true, true, true, false, false, false, false, false, false, false, false, false, false, false, false, false, false, false, false, false, false, false, false, false, false, false, false, false] rfl rfl (any_of HT_.out (by kernel_rfl)) (fun _ _ _ h => h) (Or.inl ⟨by rfl, ?_⟩) ?_ ?_
          rotate_left
          ·intro w'
           go_simp
           with_reducible rfl
          rotate_left
          ·simp only [Act.put, List.setIfInBounds_toArray, List.set_cons_zero, List.set_cons_succ, i64_w, i32_w]
           rfl
          refine pure_ (i := 6) (N := some 67) (v := ?_) (a' := ?_) #[true, true, true, true, true, true, true, false, false, false, false, false, false, false, false, false, false, false, false, false, false, false, false, false, false, false, false, false, false, false, false] rfl rfl (any_of HT_.out (by kernel_rfl)) (fun _ _ _ h => h) (Or.inl ⟨by rfl, ?_⟩) ?_ ?_
          rotate_left
          ·intro w'
           go_simp
           with_reducible rfl
          rotate_left
          ·simp only [Act.put, List.setIfInBounds_toArray, List.set_cons_zero, List.set_cons_succ, i64_w, i32_w]
           rfl
          refine pure_ (i := 7) (N := some 68) (v := ?_) (a' := ?_) #[true, true, true, true, true, true, true, true, false, false, false, false, false, false, false, false, false, false, false, false, false, false, false, false, false, false, false, false, false, false, false] rfl rfl (any_of HT_.out (by kernel_rfl)) (fun _ _ _ h => h) (Or.inl ⟨by rfl, ?_⟩) ?_ ?_
          rotate_left
          ·intro w'
           go_simp
           with_reducible rfl
          rotate_left
          ·simp only [Act.put, List.setIfInBounds_toArray, List.set_cons_zero, List.set_cons_succ, i64_w, i32_w]
           rfl
          refine pure_ (i := 8) (N := some 69) (v := ?_) (a' := ?_) #[true, true, true, true, true, true, true, true, true, false, false, false, false, false, false, false, false, false, false, false, false, false, false, false, false, false, false, false, false, false, false] rfl rfl (any_of HT_.out (by kernel_rfl)) (fun _ _ _ h => h) (Or.inl ⟨by rfl, ?_⟩) ?_ ?_
          rotate_left
          ·intro w'
           go_simp
           with_reducible rfl
          rotate_left
          ·simp only [Act.put, List.setIfInBounds_toArray, List.set_cons_zero, List.set_cons_succ, i64_w, i32_w]
           rfl
          refine pure_ (i := 9) (N := some 70) (v := ?_) (a' := ?_) #[true, true, true, true, true, true, true, true, true, true, false, false, false, false, false, false, false, false, false, false, false, false, false, false, false, false, false, false, false, false, false] rfl rfl (any_of HT_.out (by kernel_rfl)) (fun _ _ _ h => h) (Or.inl ⟨by rfl, ?_⟩) ?_ ?_
          rotate_left
          ·intro w'
           go_simp
           with_reducible rfl
          rotate_left
          ·simp only [Act.put, List.setIfInBounds_toArray, List.set_cons_zero, List.set_cons_succ, i64_w, i32_w]
           rfl
          refine pure_ (i := 10) (N := some 71) (v := ?_) (a' := ?_) #[true, true, true, true, true, true, true, true, true, true, true, false, false, false, false, false, false, false, false, false, false, false, false, false, false, false, false, false, false, false, false] rfl rfl (any_of HT_.out (by kernel_rfl)) (fun _ _ _ h => h) (Or.inl ⟨by rfl, ?_⟩) ?_ ?_
          rotate_left
          ·intro w'
           go_simp
           with_reducible rfl
          rotate_left
          ·simp only [Act.put, List.setIfInBounds_toArray, List.set_cons_zero, List.set_cons_succ, i64_w, i32_w]
           rfl
          refine pure_ (i := 11) (N := some 72) (v := ?_) (a' := ?_) #[true, true, true, true, true, true, true, true, true, true, true, true, false, false, false, false, false, false, false, false, false, false, false, false, false, false, false, false, false, false, false] rfl rfl (any_of HT_.out (by kernel_rfl)) (fun _ _ _ h => h) (Or.inl ⟨by rfl, ?_⟩) ?_ ?_
          rotate_left
          ·intro w'
           go_simp
           with_reducible rfl
          rotate_left
          ·simp only [Act.put, List.setIfInBounds_toArray, List.set_cons_zero, List.set_cons_succ, i64_w, i32_w]
           rfl
          refine take_ (i := 12) (N := some 73) (v := ?_) (a' := ?_) #[true, true, true, true, true, true, true, true, true, true, true, true, true, false, false, false, false, false, false, false, false, false, false, false, false, false, false, false, false, false, false] rfl rfl (take_ofW HT_.out HW_.out (by kernel_rfl)) (fun _ _ _ h => h) (Or.inl ⟨by rfl, ?_⟩) hHeld ?_ ?_
          rotate_left
          ·rintro w' ⟨s0, s1, s2, s3, s4, s5, s6, s7⟩
           go_simp
           with_reducible rfl
          rotate_left
          ·simp only [Act.put, List.setIfInBounds_toArray, List.set_cons_zero, List.set_cons_succ, i64_w, i32_w]
           rfl
          refine take_ (i := 14) (N := some 75) (v := ?_) (a' := ?_) #[true, true, true, true, true, true, true, true, true, true, true, true, true, false, true, false, false, false, false, false, false, false, false, false, false, false, false, false, false, false, false] rfl rfl (take_ofW HT_.out HW_.out (by kernel_rfl)) (fun _ _ _ h => h) (Or.inl ⟨by rfl, ?_⟩) hHeld ?_ ?_
          rotate_left
          ·rintro w' ⟨s0, s1, s2, s3, s4, s5, s6, s7⟩
           go_simp
           with_reducible rfl
          rotate_left
          ·simp only [Act.put, List.setIfInBounds_toArray, List.set_cons_zero, List.set_cons_succ, i64_w, i32_w]
           rfl
          refine one_ (i := 13) (N := some 74) #[true, true, true, true, true, true, true, true, true, true, true, true, true, true, true, false, false, false, false, false, false, false, false, false, false, false, false, false, false, false, false] rfl rfl (one_of HT_.out (by kernel_rfl)) (by decide) (fun K hK => ?_)
          refine goes_ Try.func12 (by kernel_rfl) rfl #[.agg #[.string t114, .string t115, .slice Ao45 t116.length co45, .int .i64 t119]] (by rfl) rfl rfl (by (try simp only [List.map_toArray, List.map_cons, List.map_nil]); first | done | rfl | (simp only [List.length_drop, List.length_take]; rfl) | (simp only [ByteArray.size_append, ByteArray.size_extract, Nat.sub_zero, Int.natCast_add]; rfl) | (simp [ByteArray.size_append]; done)) ?_
          with_reducible refine (rillmeterlaw05_ref.calls kj2 t114 t115 _ _ t116 t119 t130 t131 t132 t135 _ ?side1 ?side2 A34.out).mono ?_
          (case side1 => repeat (first | exact (Kd.R_reads' HO118.out).2.2 | (with_reducible refine Kd.C_alloc ?_ _) | (with_reducible refine Kd.C_drewN ?_ _) | (with_reducible refine Kd.C_drew ?_)))
          (case side2 => exact (Kd.R_reads' HO118.out).2.1)
          rintro e w51 ⟨v133, rfl, ho0, hb⟩
          refine ⟨_, rfl, ?_⟩
          have n0_ := Aside0.mk (Kd.R_elder' (by (with_reducible repeat first | apply Kd.R_alloc | apply Kd.R_drewN | apply Kd.R_drew); exact HO109.out) (Kd.R_base ho0) hb)
          have n1_ := Aside0.mk (Kd.R_below (by (with_reducible repeat first | apply Kd.R_alloc | apply Kd.R_drewN | apply Kd.R_drew); exact HO118.out) hb)
          have n2_ := Aside0.mk (Kd.R_elder' (by (with_reducible repeat first | apply Kd.R_alloc | apply Kd.R_drewN | apply Kd.R_drew); exact HO127.out) (Kd.R_base ho0) hb)
          have n3_ := Aside0.mk (Kd.R_lower (Kd.R_new' (Kd.R_new' ho0 (Kd.R_lt (by (with_reducible repeat first | apply Kd.R_alloc | apply Kd.R_drewN | apply Kd.R_drew); exact HO109.out))) (Kd.R_lt (by (with_reducible repeat first | apply Kd.R_alloc | apply Kd.R_drewN | apply Kd.R_drew); exact HO127.out))) (below_size (bU_ HB.out)))
          have n4_ := Aside0.mk (blk_below (g := gb101) (o := .cells #[.string a0_0, .string a0_1, .slice A0_2 l0_2.length c0_2, .int .i64 a0_3] 25 (0, 0)) (by (with_reducible repeat first | apply pN_ | apply pD_ | apply pA_); exact BK101.out) hb)
          have n5_ := Aside0.mk (blk_below (g := gb122) (o := .cells #[.string t114, .string t115, .slice Ao45 t116.length co45, .int .i64 t119] 25 (0, 0)) (by (with_reducible repeat first | apply pN_ | apply pD_ | apply pA_); exact BK122.out) hb)
          have n6_ := Aside0.mk (below_step (bU_ HB.out) hb)
          clear HO109
          clear HO118
          clear HO127
          clear BK101
          clear BK122
          clear HB
          have HO109 := n0_
          have HO118 := n1_
          have HO127 := n2_
          have HO134 := n3_
          have BK101 := n4_
          have BK122 := n5_
          have HB := n6_
          clear n0_ n1_ n2_ n3_ n4_ n5_ n6_
          (try clear hb)
          (try clear hb2)
          (try clear hk)
          (try clear hi)
          (try clear ho0)
          refine hK.out _ _ ⟨(blk_cell BK101.out 0).trans rfl, (blk_cell BK101.out 1).trans rfl, (blk_cell BK101.out 2).trans rfl, (blk_cell BK101.out 3).trans rfl, (blk_cell BK122.out 0).trans rfl, (blk_cell BK122.out 1).trans rfl, (blk_cell BK122.out 2).trans rfl, (blk_cell BK122.out 3).trans rfl⟩ (fun hHeld => ?_)
          clear hK K
          refine norm_ (a' := ?_) ?_ ?_
          rotate_left
          ·show Act.put _ (some 74) _ = _
           simp only [Act.put, List.setIfInBounds_toArray, List.set_cons_zero, List.set_cons_succ, i64_w, i32_w]
           rfl
          refine one_ (i := 15) (N := some 76) #[true, true, true, true, true, true, true, true, true, true, true, true, true, true, true, true, false, false, false, false, false, false, false, false, false, false, false, false, false, false, false] rfl rfl (one_of HT_.out (by kernel_rfl)) (by decide) (fun K hK => ?_)
          refine goes_ Try.func12 (by kernel_rfl) rfl #[.agg #[.string a0_0, .string a0_1, .slice A0_2 l0_2.length c0_2, .int .i64 a0_3]] (by rfl) rfl rfl (by (try simp only [List.map_toArray, List.map_cons, List.map_nil]); first | done | rfl | (simp only [List.length_drop, List.length_take]; rfl) | (simp only [ByteArray.size_append, ByteArray.size_extract, Nat.sub_zero, Int.natCast_add]; rfl) | (simp [ByteArray.size_append]; done)) ?_
          with_reducible refine (rillmeterlaw05_ref.calls kj2 a0_0 a0_1 _ _ l0_2 a0_3 t136 t137 t138 t141 _ ?side1 ?side2 A35.out).mono ?_
          (case side1 => repeat (first | exact (Kd.C_below HR0_2.out HB.out) | (with_reducible refine Kd.C_alloc ?_ _) | (with_reducible refine Kd.C_drewN ?_ _) | (with_reducible refine Kd.C_drew ?_)))
          (case side2 => exact HC0_2.out)
          rintro e w52 ⟨v139, rfl, ho0, hb⟩
          refine ⟨_, rfl, ?_⟩
          have n0_ := Aside0.mk (Kd.R_elder' (by (with_reducible repeat first | apply Kd.R_alloc | apply Kd.R_drewN | apply Kd.R_drew); exact HO109.out) (Kd.R_base ho0) hb)
          have n1_ := Aside0.mk (Kd.R_below (by (with_reducible repeat first | apply Kd.R_alloc | apply Kd.R_drewN | apply Kd.R_drew); exact HO118.out) hb)
          have n2_ := Aside0.mk (Kd.R_elder' (by (with_reducible repeat first | apply Kd.R_alloc | apply Kd.R_drewN | apply Kd.R_drew); exact HO127.out) (Kd.R_base ho0) hb)
          have n3_ := Aside0.mk (Kd.R_elder' (by (with_reducible repeat first | apply Kd.R_alloc | apply Kd.R_drewN | apply Kd.R_drew); exact HO134.out) (Kd.R_base ho0) hb)
          have n4_ := Aside0.mk (Kd.R_lower (Kd.R_new' (Kd.R_new' (Kd.R_new' ho0 (Kd.R_lt (by (with_reducible repeat first | apply Kd.R_alloc | apply Kd.R_drewN | apply Kd.R_drew); exact HO109.out))) (Kd.R_lt (by (with_reducible repeat first | apply Kd.R_alloc | apply Kd.R_drewN | apply Kd.R_drew); exact HO127.out))) (Kd.R_lt (by (with_reducible repeat first | apply Kd.R_alloc | apply Kd.R_drewN | apply Kd.R_drew); exact HO134.out))) (below_size (bU_ HB.out)))
          have n5_ := Aside0.mk (blk_below (g := gb101) (o := .cells #[.string a0_0, .string a0_1, .slice A0_2 l0_2.length c0_2, .int .i64 a0_3] 25 (0, 0)) (by (with_reducible repeat first | apply pN_ | apply pD_ | apply pA_); exact BK101.out) hb)
          have n6_ := Aside0.mk (blk_below (g := gb122) (o := .cells #[.string t114, .string t115, .slice Ao45 t116.length co45, .int .i64 t119] 25 (0, 0)) (by (with_reducible repeat first | apply pN_ | apply pD_ | apply pA_); exact BK122.out) hb)
          have n7_ := Aside0.mk (below_step (bU_ HB.out) hb)
          clear HO109
          clear HO118
          clear HO127
          clear HO134
          clear BK101
          clear BK122
          clear HB
          have HO109 := n0_
          have HO118 := n1_
          have HO127 := n2_
          have HO134 := n3_
          have HO140 := n4_
          have BK101 := n5_
          have BK122 := n6_
          have HB := n7_
          clear n0_ n1_ n2_ n3_ n4_ n5_ n6_ n7_
          (try clear hb)
          (try clear hb2)
          (try clear hk)
          (try clear hi)
          (try clear ho0)
          obtain ⟨Ao53, co53, eo53⟩ := Kd.R_slice HO134.out
          (first | subst eo53 | (injection eo53 with f1_ f2_ f3_; have f4_ := f1_.symm; have f5_ := f3_.symm; clear f1_ f2_ f3_; subst f4_; subst f5_))
          obtain ⟨Ao54, co54, eo54⟩ := Kd.R_slice HO140.out
          (first | subst eo54 | (injection eo54 with f1_ f2_ f3_; have f4_ := f1_.symm; have f5_ := f3_.symm; clear f1_ f2_ f3_; subst f4_; subst f5_))
          refine hK.out _ _ ⟨(blk_cell BK101.out 0).trans rfl, (blk_cell BK101.out 1).trans rfl, (blk_cell BK101.out 2).trans rfl, (blk_cell BK101.out 3).trans rfl, (blk_cell BK122.out 0).trans rfl, (blk_cell BK122.out 1).trans rfl, (blk_cell BK122.out 2).trans rfl, (blk_cell BK122.out 3).trans rfl⟩ (fun hHeld => ?_)
          clear hK K
          refine norm_ (a' := ?_) ?_ ?_
          rotate_left
          ·show Act.put _ (some 76) _ = _
           simp only [Act.put, List.setIfInBounds_toArray, List.set_cons_zero, List.set_cons_succ, i64_w, i32_w]
           rfl
          refine one_ (i := 16) (N := some 77) #[true, true, true, true, true, true, true, true, true, true, true, true, true, true, true, true, true, false, false, false, false, false, false, false, false, false, false, false, false, false, false] rfl rfl (one_of HT_.out (by kernel_rfl)) (by decide) (fun K hK => ?_)
          refine goes_ Try.func11 (by kernel_rfl) rfl #[.agg #[.string t130, .string t131, .slice Ao53 t132.length co53, .int .i64 t135], .agg #[.string t136, .string t137, .slice Ao54 t138.length co54, .int .i64 t141]] (by rfl) rfl rfl (by (try simp only [List.map_toArray, List.map_cons, List.map_nil]); first | done | rfl | (simp only [List.length_drop, List.length_take]; rfl) | (simp only [ByteArray.size_append, ByteArray.size_extract, Nat.sub_zero, Int.natCast_add]; rfl) | (simp [ByteArray.size_append]; done)) ?_
          with_reducible refine (rillmeterref05_Equal.calls kj2 t130 t131 _ _ t132 t135 t136 t137 _ _ t138 t141 true _ ?side1 ?side2 ?side3 ?side4 A36.out).mono ?_
          (case side1 => repeat (first | exact (Kd.R_reads' HO134.out).2.2 | (with_reducible refine Kd.C_alloc ?_ _) | (with_reducible refine Kd.C_drewN ?_ _) | (with_reducible refine Kd.C_drew ?_)))
          (case side2 => exact (Kd.R_reads' HO134.out).2.1)
          (case side3 => repeat (first | exact (Kd.R_reads' HO140.out).2.2 | (with_reducible refine Kd.C_alloc ?_ _) | (with_reducible refine Kd.C_drewN ?_ _) | (with_reducible refine Kd.C_drew ?_)))
          (case side4 => exact (Kd.R_reads' HO140.out).2.1)
          rintro e w55 ⟨rfl, hb⟩
          refine ⟨_, rfl, ?_⟩
          have n0_ := Aside0.mk (Kd.R_below (by (with_reducible repeat first | apply Kd.R_alloc | apply Kd.R_drewN | apply Kd.R_drew); exact HO109.out) hb)
          have n1_ := Aside0.mk (Kd.R_below (by (with_reducible repeat first | apply Kd.R_alloc | apply Kd.R_drewN | apply Kd.R_drew); exact HO118.out) hb)
          have n2_ := Aside0.mk (Kd.R_below (by (with_reducible repeat first | apply Kd.R_alloc | apply Kd.R_drewN | apply Kd.R_drew); exact HO127.out) hb)
          have n3_ := Aside0.mk (Kd.R_below (by (with_reducible repeat first | apply Kd.R_alloc | apply Kd.R_drewN | apply Kd.R_drew); exact HO134.out) hb)
          have n4_ := Aside0.mk (Kd.R_below (by (with_reducible repeat first | apply Kd.R_alloc | apply Kd.R_drewN | apply Kd.R_drew); exact HO140.out) hb)
          have n5_ := Aside0.mk (blk_below (g := gb101) (o := .cells #[.string a0_0, .string a0_1, .slice A0_2 l0_2.length c0_2, .int .i64 a0_3] 25 (0, 0)) (by (with_reducible repeat first | apply pN_ | apply pD_ | apply pA_); exact BK101.out) hb)
          have n6_ := Aside0.mk (blk_below (g := gb122) (o := .cells #[.string t114, .string t115, .slice Ao45 t116.length co45, .int .i64 t119] 25 (0, 0)) (by (with_reducible repeat first | apply pN_ | apply pD_ | apply pA_); exact BK122.out) hb)
          have n7_ := Aside0.mk (below_step (bU_ HB.out) hb)
          clear HO109
          clear HO118
          clear HO127
          clear HO134
          clear HO140
          clear BK101
          clear BK122
          clear HB
          have HO109 := n0_
          have HO118 := n1_
          have HO127 := n2_
          have HO134 := n3_
          have HO140 := n4_
          have BK101 := n5_
          have BK122 := n6_
          have HB := n7_
          clear n0_ n1_ n2_ n3_ n4_ n5_ n6_ n7_
          (try clear hb)
          (try clear hb2)
          (try clear hk)
          (try clear hi)
          refine hK.out _ _ ⟨(blk_cell BK101.out 0).trans rfl, (blk_cell BK101.out 1).trans rfl, (blk_cell BK101.out 2).trans rfl, (blk_cell BK101.out 3).trans rfl, (blk_cell BK122.out 0).trans rfl, (blk_cell BK122.out 1).trans rfl, (blk_cell BK122.out 2).trans rfl, (blk_cell BK122.out 3).trans rfl⟩ (fun hHeld => ?_)
          clear hK K
          refine norm_ (a' := ?_) ?_ ?_
          rotate_left
          ·show Act.put _ (some 77) _ = _
           simp only [Act.put, List.setIfInBounds_toArray, List.set_cons_zero, List.set_cons_succ, i64_w, i32_w]
           rfl
          refine pure_ (i := 17) (N := some 78) (v := ?_) (a' := ?_) #[true, true, true, true, true, true, true, true, true, true, true, true, true, true, true, true, true, true, false, false, false, false, false, false, false, false, false, false, false, false, false] rfl rfl (any_of HT_.out (by kernel_rfl)) (fun _ _ _ h => h) (Or.inl ⟨by rfl, ?_⟩) ?_ ?_
          rotate_left
          ·intro w'
           go_simp
           with_reducible rfl
          rotate_left
          ·simp only [Act.put, List.setIfInBounds_toArray, List.set_cons_zero, List.set_cons_succ, i64_w, i32_w]
           rfl
          refine pure_ (i := 18) (N := some 79) (v := ?_) (a' := ?_) #[true, true, true, true, true, true, true, true, true, true, true, true, true, true, true, true, true, true, true, false, false, false, false, false, false, false, false, false, false, false, false] rfl rfl (any_of HT_.out (by kernel_rfl)) (fun _ _ _ h => h) (Or.inl ⟨by rfl, ?_⟩) ?_ ?_
          rotate_left
          ·intro w'
           go_simp
           with_reducible rfl
          rotate_left
          ·simp only [Act.put, List.setIfInBounds_toArray, List.set_cons_zero, List.set_cons_succ, i64_w, i32_w]
           rfl
          refine pure_ (i := 19) (N := some 80) (v := ?_) (a' := ?_) #[true, true, true, true, true, true, true, true, true, true, true, true, true, true, true, true, true, true, true, true, false, false, false, false, false, false, false, false, false, false, false] rfl rfl (any_of HT_.out (by kernel_rfl)) (fun _ _ _ h => h) (Or.inl ⟨by rfl, ?_⟩) ?_ ?_
          rotate_left
          ·intro w'
           go_simp
           with_reducible rfl
          rotate_left
          ·simp only [Act.put, List.setIfInBounds_toArray, List.set_cons_zero, List.set_cons_succ, i64_w, i32_w]
           rfl
          refine pure_ (i := 20) (N := some 81) (v := ?_) (a' := ?_) #[true, true, true, true, true, true, true, true, true, true, true, true, true, true, true, true, true, true, true, true, true, false, false, false, false, false, false, false, false, false, false] rfl rfl (any_of HT_.out (by kernel_rfl)) (fun _ _ _ h => h) (Or.inl ⟨by rfl, ?_⟩) ?_ ?_
          rotate_left
          ·intro w'
           go_simp
           with_reducible rfl
          rotate_left
          ·simp only [Act.put, List.setIfInBounds_toArray, List.set_cons_zero, List.set_cons_succ, i64_w, i32_w]
           rfl
          refine pure_ (i := 21) (N := some 82) (v := ?_) (a' := ?_) #[true, true, true, true, true, true, true, true, true, true, true, true, true, true, true, true, true, true, true, true, true, true, false, false, false, false, false, false, false, false, false] rfl rfl (any_of HT_.out (by kernel_rfl)) (fun _ _ _ h => h) (Or.inl ⟨by rfl, ?_⟩) ?_ ?_
          rotate_left
          ·intro w'
           go_simp
           with_reducible rfl
          rotate_left
          ·simp only [Act.put, List.setIfInBounds_toArray, List.set_cons_zero, List.set_cons_succ, i64_w, i32_w]
           rfl
          refine pure_ (i := 22) (N := some 83) (v := ?_) (a' := ?_) #[true, true, true, true, true, true, true, true, true, true, true, true, true, true, true, true, true, true, true, true, true, true, true, false, false, false, false, false, false, false, false] rfl rfl (any_of HT_.out (by kernel_rfl)) (fun _ _ _ h => h) (Or.inl ⟨by rfl, ?_⟩) ?_ ?_
          rotate_left
          ·intro w'
           go_simp
           with_reducible rfl
          rotate_left
          ·simp only [Act.put, List.setIfInBounds_toArray, List.set_cons_zero, List.set_cons_succ, i64_w, i32_w]
           rfl
          refine pure_ (i := 23) (N := some 84) (v := ?_) (a' := ?_) #[true, true, true, true, true, true, true, true, true, true, true, true, true, true, true, true, true, true, true, true, true, true, true, true, false, false, false, false, false, false, false] rfl rfl (any_of HT_.out (by kernel_rfl)) (fun _ _ _ h => h) (Or.inl ⟨by rfl, ?_⟩) ?_ ?_
          rotate_left
          ·intro w'
           go_simp
           with_reducible rfl
          rotate_left
          ·simp only [Act.put, List.setIfInBounds_toArray, List.set_cons_zero, List.set_cons_succ, i64_w, i32_w]
           rfl
          refine pure_ (i := 24) (N := some 85) (v := ?_) (a' := ?_) #[true, true, true, true, true, true, true, true, true, true, true, true, true, true, true, true, true, true, true, true, true, true, true, true, true, false, false, false, false, false, false] rfl rfl (any_of HT_.out (by kernel_rfl)) (fun _ _ _ h => h) (Or.inl ⟨by rfl, ?_⟩) ?_ ?_
          rotate_left
          ·intro w'
           go_simp
           with_reducible rfl
          rotate_left
          ·simp only [Act.put, List.setIfInBounds_toArray, List.set_cons_zero, List.set_cons_succ, i64_w, i32_w]
           rfl
          refine pure_ (i := 25) (N := some 86) (v := ?_) (a' := ?_) #[true, true, true, true, true, true, true, true, true, true, true, true, true, true, true, true, true, true, true, true, true, true, true, true, true, true, false, false, false, false, false] rfl rfl (any_of HT_.out (by kernel_rfl)) (fun _ _ _ h => h) (Or.inl ⟨by rfl, ?_⟩) ?_ ?_
          rotate_left
          ·intro w'
           go_simp
           with_reducible rfl
          rotate_left
          ·simp only [Act.put, List.setIfInBounds_toArray, List.set_cons_zero, List.set_cons_succ, i64_w, i32_w]
           rfl
          refine pure_ (i := 26) (N := some 87) (v := ?_) (a' := ?_) #[true, true, true, true, true, true, true, true, true, true, true, true, true, true, true, true, true, true, true, true, true, true, true, true, true, true, true, false, false, false, false] rfl rfl (any_of HT_.out (by kernel_rfl)) (fun _ _ _ h => h) (Or.inl ⟨by rfl, ?_⟩) ?_ ?_
          rotate_left
          ·intro w'
           go_simp
           with_reducible rfl
          rotate_left
          ·simp only [Act.put, List.setIfInBounds_toArray, List.set_cons_zero, List.set_cons_succ, i64_w, i32_w]
           rfl
          refine pure_ (i := 27) (N := some 88) (v := ?_) (a' := ?_) #[true, true, true, true, true, true, true, true, true, true, true, true, true, true, true, true, true, true, true, true, true, true, true, true, true, true, true, true, false, false, false] rfl rfl (any_of HT_.out (by kernel_rfl)) (fun _ _ _ h => h) (Or.inl ⟨by rfl, ?_⟩) ?_ ?_
          rotate_left
          ·intro w'
           go_simp
           with_reducible rfl
          rotate_left
          ·simp only [Act.put, List.setIfInBounds_toArray, List.set_cons_zero, List.set_cons_succ, i64_w, i32_w]
           rfl
          refine one_ (i := 28) (N := some 89) #[true, true, true, true, true, true, true, true, true, true, true, true, true, true, true, true, true, true, true, true, true, true, true, true, true, true, true, true, true, false, false] rfl rfl (one_of HT_.out (by kernel_rfl)) (by decide) (fun K hK => ?_)
          refine goes_ Try.func8 (by kernel_rfl) rfl #[] (by rfl) rfl rfl (by (try simp only [List.map_toArray, List.map_cons, List.map_nil]); first | done | rfl | (simp only [List.length_drop, List.length_take]; rfl) | (simp only [ByteArray.size_append, ByteArray.size_extract, Nat.sub_zero, Int.natCast_add]; rfl) | (simp [ByteArray.size_append]; done)) ?_
          with_reducible refine (rillmeterlaw05_awake.calls kj2  t143 _ hrt A40.out).mono ?_
          rintro e w56 ⟨rfl, hb⟩
          refine ⟨_, rfl, ?_⟩
          have n0_ := Aside0.mk (Kd.R_below (by (with_reducible repeat first | apply Kd.R_alloc | apply Kd.R_drewN | apply Kd.R_drew); exact HO109.out) hb)
          have n1_ := Aside0.mk (Kd.R_below (by (with_reducible repeat first | apply Kd.R_alloc | apply Kd.R_drewN | apply Kd.R_drew); exact HO118.out) hb)
          have n2_ := Aside0.mk (Kd.R_below (by (with_reducible repeat first | apply Kd.R_alloc | apply Kd.R_drewN | apply Kd.R_drew); exact HO127.out) hb)
          have n3_ := Aside0.mk (Kd.R_below (by (with_reducible repeat first | apply Kd.R_alloc | apply Kd.R_drewN | apply Kd.R_drew); exact HO134.out) hb)
          have n4_ := Aside0.mk (Kd.R_below (by (with_reducible repeat first | apply Kd.R_alloc | apply Kd.R_drewN | apply Kd.R_drew); exact HO140.out) hb)
          have n5_ := Aside0.mk (blk_below (g := gb101) (o := .cells #[.string a0_0, .string a0_1, .slice A0_2 l0_2.length c0_2, .int .i64 a0_3] 25 (0, 0)) (by (with_reducible repeat first | apply pN_ | apply pD_ | apply pA_); exact BK101.out) hb)
          have n6_ := Aside0.mk (blk_below (g := gb122) (o := .cells #[.string t114, .string t115, .slice Ao45 t116.length co45, .int .i64 t119] 25 (0, 0)) (by (with_reducible repeat first | apply pN_ | apply pD_ | apply pA_); exact BK122.out) hb)
          have n7_ := Aside0.mk (below_step (bU_ HB.out) hb)
          clear HO109
          clear HO118
          clear HO127
          clear HO134
          clear HO140
          clear BK101
          clear BK122
          clear HB
          have HO109 := n0_
          have HO118 := n1_
          have HO127 := n2_
          have HO134 := n3_
          have HO140 := n4_
          have BK101 := n5_
          have BK122 := n6_
          have HB := n7_
          clear n0_ n1_ n2_ n3_ n4_ n5_ n6_ n7_
          (try clear hb)
          (try clear hb2)
          (try clear hk)
          (try clear hi)
          refine hK.out _ _ ⟨(blk_cell BK101.out 0).trans rfl, (blk_cell BK101.out 1).trans rfl, (blk_cell BK101.out 2).trans rfl, (blk_cell BK101.out 3).trans rfl, (blk_cell BK122.out 0).trans rfl, (blk_cell BK122.out 1).trans rfl, (blk_cell BK122.out 2).trans rfl, (blk_cell BK122.out 3).trans rfl⟩ (fun hHeld => ?_)
          clear hK K
          refine norm_ (a' := ?_) ?_ ?_
          rotate_left
          ·show Act.put _ (some 89) _ = _
           simp only [Act.put, List.setIfInBounds_toArray, List.set_cons_zero, List.set_cons_succ, i64_w, i32_w]
           rfl
          refine pure_ (i := 29) (N := some 90) (v := ?_) (a' := ?_) #[true, true, true, true, true, true, true, true, true, true, true, true, true, true, true, true, true, true, true, true, true, true, true, true, true, true, true, true, true, true, false] rfl rfl (any_of HT_.out (by kernel_rfl)) (fun _ _ _ h => h) (Or.inl ⟨by rfl, ?_⟩) ?_ ?_
          rotate_left
          ·intro w'
           go_simp
           with_reducible rfl
          rotate_left
          ·simp only [Act.put, List.setIfInBounds_toArray, List.set_cons_zero, List.set_cons_succ, i64_w, i32_w]
           rfl
          refine pure_ (i := 30) (N := some 4) (v := ?_) (a' := ?_) #[true, true, true, true, true, true, true, true, true, true, true, true, true, true, true, true, true, true, true, true, true, true, true, true, true, true, true, true, true, true, true] rfl rfl (any_of HT_.out (by kernel_rfl)) (fun _ _ _ h => h) (Or.inl ⟨by rfl, ?_⟩) ?_ ?_
          rotate_left
          ·intro w'
           go_simp
           with_reducible rfl
          rotate_left
          ·simp only [Act.put, List.setIfInBounds_toArray, List.set_cons_zero, List.set_cons_succ, i64_w, i32_w]
           rfl
          refine done_ (done_of HT_.out (by kernel_rfl)) ?_
          try go_wp2
          go_ret
          exact ⟨by first | rfl | (simp [errW_none, errW_some] <;> rfl) | (simp [*, errW_none, errW_some] <;> rfl), bU_ HB.out⟩
         ·rw [if_neg c39] at H
          have c39b0 : (t121 == 0) = false := beq_eq_false_iff_ne.mpr c39
          have c39b1 : (t121 != 0) = true := bne_iff_ne.mpr c39
          obtain rfl := Option.some.inj H
          exact absurd hrt.out (by decide)
        ·rw [if_neg c38] at H
         have c38b0 : (t120.toList == a1.toList) = false := beq_eq_false_iff_ne.mpr c38
         have c38b1 : (t120.toList != a1.toList) = true := bne_iff_ne.mpr c38
         obtain rfl := Option.some.inj H
         exact absurd hrt.out (by decide)
       ·replace c37 := Bool.eq_false_iff.mpr c37
        subst c37
        have H1 : (some false) = some r := by rw [if_neg (show ¬ (false = true) by decide)] at H; exact H
        clear H
        have H := H1
        clear H1
        obtain rfl := Option.some.inj H
        exact absurd hrt.out (by decide)
      ·rw [if_neg c33] at H
       have c33b0 : (t104 == 0) = false := beq_eq_false_iff_ne.mpr c33
       have c33b1 : (t104 != 0) = true := bne_iff_ne.mpr c33
       obtain rfl := Option.some.inj H
       exact absurd hrt.out (by decide)
     ·rw [if_neg c32] at H
      have c32b0 : (t103.toList == (t129 ++ a1).toList) = false := beq_eq_false_iff_ne.mpr c32
      have c32b1 : (t103.toList != (t129 ++ a1).toList) = true := bne_iff_ne.mpr c32
      (first | rw [c32b0] | (simp only [i64_w, i32_w]; rw [c32b0]) | skip)
      obtain rfl := Option.some.inj H
      exact absurd hrt.out (by decide)
    ·replace c27 := Bool.eq_false_iff.mpr c27
     subst c27
     have H1 : (if t103.toList = ([] : List UInt8) then (if t104 = 1 then ((rillmeterlaw05_awake.f kj2).bind fun t113 => (some t113)) else (some false)) else (some false)) = some r := by rw [if_neg (show ¬ (false = true) by decide)] at H; exact H
     clear H
     have H := H1
     clear H1
     by_cases c57 : t103.toList = ([] : List UInt8)
     rotate_left
     ·rw [if_neg c57] at H
      obtain rfl := Option.some.inj H
      exact absurd hrt.out (by decide)
     rw [if_pos c57] at H
     have c57b0 : (t103.toList == ([] : List UInt8)) = true := beq_iff_eq.mpr c57
     have c57b1 : (t103.toList != ([] : List UInt8)) = false := bne_eq_false_iff_eq.mpr c57
     clear c57
     by_cases c58 : t104 = 1
     rotate_left
     ·rw [if_neg c58] at H
      obtain rfl := Option.some.inj H
      exact absurd hrt.out (by decide)
     rw [if_pos c58] at H
     have c58b0 : (t104 == 1) = true := beq_iff_eq.mpr c58
     have c58b1 : (t104 != 1) = false := bne_eq_false_iff_eq.mpr c58
     clear c58
     replace H := Option.bind_eq_some_iff.mp H
     obtain ⟨t113, A590, H⟩ := H
     replace H : (some t113) = some r := H
     have A59 := Aside0.mk A590
     clear A590
     obtain rfl := Option.some.inj H
     go_wp2_with (first | (go_at_call 8; (with_reducible refine (rillmeterlaw05_awake.calls kj2  t113 _ hrt A59.out).mono ?_); rintro e w60 ⟨rfl, hb⟩; have n0_ := Aside0.mk (Kd.R_below (by (with_reducible repeat first | apply Kd.R_alloc | apply Kd.R_drewN | apply Kd.R_drew); exact HO109.out) hb); have n1_ := Aside0.mk (blk_below (g := gb101) (o := .cells #[.string a0_0, .string a0_1, .slice A0_2 l0_2.length c0_2, .int .i64 a0_3] 25 (0, 0)) (by (with_reducible repeat first | apply pN_ | apply pD_ | apply pA_); exact BK101.out) hb); have n2_ := Aside0.mk (below_step (bU_ HB.out) hb); clear HO109; clear BK101; clear HB; have HO109 := n0_; have BK101 := n1_; have HB := n2_; clear n0_ n1_ n2_; (try clear hb); (try clear hb2); (try clear hk); (try clear hi)))
     go_ret
     exact ⟨by first | rfl | (simp [errW_none, errW_some] <;> rfl) | (simp [*, errW_none, errW_some] <;> rfl), bU_ HB.out⟩

end Go.Proofs.Ytngcelombflnfaa.Q
