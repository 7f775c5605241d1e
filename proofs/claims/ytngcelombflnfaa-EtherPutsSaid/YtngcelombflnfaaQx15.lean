-- made by a program of this session (wip/print-patch.py, over the kit's print)
import Derived.Test.YtngcelombflnfaaQx0
import Derived.Test.YtngcelombflnfaaQx6
import Derived.Test.YtngcelombflnfaaQx14
namespace Go.Proofs.Ytngcelombflnfaa.Q
open Go.RowKit Go.Proofs.YtngcelombflnfaaW.PrintWords Go.Proofs.YtngcelombflnfaaW.PrintLast Go.Proofs.YtngcelombflnfaaW.PrintMore
attribute [local go_sem] max2_int min2_int max_two min_two max_three min_three max_four min_four   -- for this text's walks alone
set_option linter.unusedVariables false
set_option linter.unusedSimpArgs false

attribute [local go_sem] cell_twice_ cell_twiceN_
/-! ### rillmeterref05_Right: function 15 -/
def rillmeterref05_Right.l0 : Nat → Int → ByteArray → ByteArray → List (S53) → Int → Option (Bool)
 | 0, _, _, _, _, _ => none
 | k + 1, x3, x102000, x102001, x102002, x102003 => if x3 < (x102002.length : Int) then (if 0 ≤ x3 then ((rillmeterref05_tag.f ((rd_T53 x102002 x3).f0)).bind fun t105 => (if t105 = true then ((rillmeterref05_two.f ((rd_T53 x102002 x3).f1)).bind fun t107 => (if t107 = true then (rillmeterref05_Right.l0 k (wrap64 (x3 + 1)) x102000 x102001 x102002 x102003) else (some false))) else (some false))) else (none)) else (if (x102000.size : Int) = 6 then (if (x102001.size : Int) = 6 then (if (x102002.length : Int) < 3 then ((rillmeterref05_two.f x102003).bind fun t102 => (if t102 = true then ((rillmeterref05_tag.f x102003).bind fun t103 => (some (!t103))) else (some false))) else (some false)) else (some false)) else (some false))
def rillmeterref05_Right.f (k : Nat) (a0_0 : ByteArray) (a0_1 : ByteArray) (l0_2 : List (S53)) (a0_3 : Int) : Option (Bool) := rillmeterref05_Right.l0 k 0 a0_0 a0_1 l0_2 a0_3
theorem rillmeterref05_Right.mono_l : ∀ k, (∀ y0 y1 y2 y3 y4, LeO (rillmeterref05_Right.l0 k y0 y1 y2 y3 y4) (rillmeterref05_Right.l0 (k + 1) y0 y1 y2 y3 y4))
 | 0 => fun _ _ _ _ _ r h => by simp [rillmeterref05_Right.l0] at h
 | k + 1 => by
  have ih0 := rillmeterref05_Right.mono_l k
  ·intro y0 y1 y2 y3 y4
   unfold rillmeterref05_Right.l0
   repeat' first
   | (with_reducible exact ih0 _ _ _ _ _)
   | (with_reducible exact LeO.refl _)
   | (with_reducible exact LeO.none _)
   | (with_reducible refine LeO.ite ?_ ?_)
   | (with_reducible refine LeO.bind ?_ (fun _ => ?_))
   | exact ih0 _ _ _ _ _
   | exact LeO.none _
   | refine LeO.ite ?_ ?_
   | refine LeO.bind ?_ (fun _ => ?_)
theorem rillmeterref05_Right.mono : ∀ a0 a1 a2 a3 k, LeO (rillmeterref05_Right.f k a0 a1 a2 a3) (rillmeterref05_Right.f (k + 1) a0 a1 a2 a3) := by
 intro a0 a1 a2 a3 k
 have ih0 := rillmeterref05_Right.mono_l k
 unfold rillmeterref05_Right.f
 repeat' first
   | (with_reducible exact ih0 _ _ _ _ _)
   | (with_reducible exact LeO.refl _)
   | (with_reducible exact LeO.none _)
   | (with_reducible refine LeO.ite ?_ ?_)
   | (with_reducible refine LeO.bind ?_ (fun _ => ?_))
   | exact ih0 _ _ _ _ _
   | exact LeO.none _
   | refine LeO.ite ?_ ?_
   | refine LeO.bind ?_ (fun _ => ?_)
set_option maxHeartbeats 8000000 in
set_option maxRecDepth 100000 in
theorem rillmeterref05_Right.calls (k : Nat) (a0_0 : ByteArray) (a0_1 : ByteArray) (A0_2 : Option Addr) (c0_2 : Nat) (l0_2 : List (S53)) (a0_3 : Int) (r : Bool) (w : World) (hr0_2 : Kd.C k53 w A0_2 l0_2.length l0_2) (hc0_2 : l0_2.length ≤ c0_2) (h : rillmeterref05_Right.f k a0_0 a0_1 l0_2 a0_3 = some r) :
  Calls Try.prog 15 #[.agg #[.string a0_0, .string a0_1, .slice A0_2 l0_2.length c0_2, .int .i64 a0_3]] w fun e w' => e = .returned (.bool r) ∧ Below w.heap.size w w' := by
 have hu31 := Try.underlying31
 have HR0_2 := Aside0.mk hr0_2
 have HC0_2 := Aside0.mk hc0_2
 clear hr0_2 hc0_2
 have HB := Aside0.mk (Below.refl w.heap.size w)
 have H : (rillmeterref05_Right.l0 k 0 a0_0 a0_1 l0_2 a0_3) = some r := h
 clear h
 have H' := Aside0.mk H
 clear H
 go_enter Try.func15, Try.ntmps15
 go_wp2_with (first | ((with_reducible refine gate_dst (N := 1) rfl ?_); (try (refine gate_guard (by rfl) ?_; dsimp only)); refine box_event ?hg (N := 1) ?hd (cs := #[.string a0_0, .string a0_1, .slice A0_2 l0_2.length c0_2, .int .i64 a0_3]) (t := 31) ?hr ?_; (case hd => rfl); (case hg => rfl); (case hr => first | (go_simp; done) | (go_simp; rfl)); intro gb101 hg w2 hbox hb; have n0_ := Aside0.mk (below_step (bU_ HB.out) hb); have n1_ := Aside0.mk (hbox); have n2_ := Aside0.mk ((by rw [hg]; exact (below_size (bU_ HB.out)) : w.heap.size ≤ gb101)); have n3_ := Aside0.mk ((by rw [hg]; exact (below_size (bU_ HB.out)) : w.heap.size ≤ gb101)); clear HB; have HB := n0_; have BK101 := n1_; have GW101 := n2_; have GE101 := n3_; clear n0_ n1_ n2_ n3_; clear hb hbox hg))
 go_loopg [3] k (fun kq v3 w' => ∃ (x3_1 : Int), v3 = .int .i64 x3_1 ∧ Aside0 (rillmeterref05_Right.l0 kq x3_1 a0_0 a0_1 l0_2 a0_3 = some r) ∧ Aside0 (kq ≤ k) ∧ Aside0 (w'.heap[gb101]? = some (.cells #[.string a0_0, .string a0_1, (.slice A0_2 l0_2.length c0_2), .int .i64 a0_3] 31 (0, 0))) ∧ Aside0 (Below w.heap.size w w'))
 case atStart => exact ⟨(0), (by first | rfl | (simp; done) | (simp [*]; done)), H', ⟨Nat.le_refl _⟩, ⟨by (with_reducible repeat first | apply pN_ | apply pD_ | apply pA_); exact BK101.out⟩, ⟨bU_ HB.out⟩⟩
 case round =>
  clear H'
  try clear c1
  try clear p2
  obtain ⟨x3_1, rfl, HA, HK1, BK101, HB⟩ := hrel
  cases gk with
  | zero => exact absurd HA.out (by simp [rillmeterref05_Right.l0])
  | succ k1 =>
   have H := HA.out
   clear HA
   simp only [rillmeterref05_Right.l0] at H
   by_cases c3 : x3_1 < (l0_2.length : Int)
   ·rw [if_pos c3] at H
    have c3b0 : decide (x3_1 < (l0_2.length : Int)) = true := decide_eq_true c3
    clear c3
    by_cases c4 : 0 ≤ x3_1
    rotate_left
    ·rw [if_neg c4] at H
     exact absurd H (by simp)
    rw [if_pos c4] at H
    have c4b0 : decide (0 ≤ x3_1) = true := decide_eq_true c4
    clear c4
    replace H := Option.bind_eq_some_iff.mp H
    obtain ⟨t105, A50, H⟩ := H
    replace H : (if t105 = true then ((rillmeterref05_two.f ((rd_T53 l0_2 x3_1).f1)).bind fun t107 => (if t107 = true then (rillmeterref05_Right.l0 k1 (wrap64 (x3_1 + 1)) a0_0 a0_1 l0_2 a0_3) else (some false))) else (some false)) = some r := H
    have A5 := Aside0.mk A50
    clear A50
    by_cases c6 : t105 = true
    ·subst c6
     have H1 : ((rillmeterref05_two.f ((rd_T53 l0_2 x3_1).f1)).bind fun t107 => (if t107 = true then (rillmeterref05_Right.l0 k1 (wrap64 (x3_1 + 1)) a0_0 a0_1 l0_2 a0_3) else (some false))) = some r := by rw [if_pos rfl] at H; exact H
     clear H
     have H := H1
     clear H1
     replace H := Option.bind_eq_some_iff.mp H
     obtain ⟨t107, A70, H⟩ := H
     replace H : (if t107 = true then (rillmeterref05_Right.l0 k1 (wrap64 (x3_1 + 1)) a0_0 a0_1 l0_2 a0_3) else (some false)) = some r := H
     have A7 := Aside0.mk A70
     clear A70
     by_cases c8 : t107 = true
     ·subst c8
      have H1 : (rillmeterref05_Right.l0 k1 (wrap64 (x3_1 + 1)) a0_0 a0_1 l0_2 a0_3) = some r := by rw [if_pos rfl] at H; exact H
      clear H
      have H := H1
      clear H1
      have H' := Aside0.mk H
      clear H
      have hcz9_0 : wr.cell? ⟨gb101, 0, none⟩ = some (.string a0_0) := (blk_cell BK101.out 0).trans rfl
      have hcz9_1 : wr.cell? ⟨gb101, 1, none⟩ = some (.string a0_1) := (blk_cell BK101.out 1).trans rfl
      have hcz9_2 : wr.cell? ⟨gb101, 2, none⟩ = some (.slice A0_2 l0_2.length c0_2) := (blk_cell BK101.out 2).trans rfl
      have hcz9_3 : wr.cell? ⟨gb101, 3, none⟩ = some (.int .i64 a0_3) := (blk_cell BK101.out 3).trans rfl
      have hfz9_0 := blk_frozen BK101.out 0
      have hfz9_1 := blk_frozen BK101.out 1
      have hfz9_2 := blk_frozen BK101.out 2
      have hfz9_3 := blk_frozen BK101.out 3
      have p104 : 0 ≤ (x3_1 : Int) := of_decide_eq_true (by first | (with_reducible assumption) | assumption)
      have q104 : x3_1 < (l0_2.length : Int) := of_decide_eq_true (by first | (with_reducible assumption) | assumption)
      obtain ⟨ad104, e104, hx104_0, hx104_1⟩ := at_T53 HR0_2.out x3_1 p104 q104
      cases e104
      replace hx104_0 := (HB.out.cell (World.block_lt_of_cell? w _ hx104_0)).trans hx104_0
      replace hx104_1 := (HB.out.cell (World.block_lt_of_cell? w _ hx104_1)).trans hx104_1
      replace p104 := eq_true p104
      replace q104 := eq_true q104
      go_wp2_with (first | ((with_reducible refine gate_callee (f := 21) rfl ?_); refine gL_ (some 17) rfl rfl Try.func21 (by kernel_rfl) rfl #[.int .i64 ((rd_T53 l0_2 x3_1).f0)] rfl ?_; (with_reducible refine (rillmeterref05_tag.calls ((rd_T53 l0_2 x3_1).f0) true _ A5.out).mono ?_); rintro e w' ⟨rfl, ⟨nd, rfl⟩⟩; refine ⟨_, rfl, ?_⟩; have p106 : 0 ≤ (x3_1 : Int) := of_decide_eq_true (by first | (with_reducible assumption) | assumption); have q106 : x3_1 < (l0_2.length : Int) := of_decide_eq_true (by first | (with_reducible assumption) | assumption); obtain ⟨ad106, e106, hx106_0, hx106_1⟩ := at_T53 HR0_2.out x3_1 p106 q106; obtain rfl : ad104 = ad106 := (by injection e106); replace hx106_0 := (HB.out.cell (World.block_lt_of_cell? w _ hx106_0)).trans hx106_0; replace hx106_1 := (HB.out.cell (World.block_lt_of_cell? w _ hx106_1)).trans hx106_1; replace p106 := eq_true p106; replace q106 := eq_true q106) | (go_at_call 23; (with_reducible refine (rillmeterref05_two.calls ((rd_T53 l0_2 x3_1).f1) true _ A7.out).mono ?_); rintro e w' ⟨rfl, ⟨nd, rfl⟩⟩))
      go_roundg k1
      case measure => have := HK1.out; omega
      case rel => exact ⟨(wrap64 (x3_1 + 1)), (by first | rfl | (simp; done) | (simp [*]; done)), H', ⟨by have := HK1.out; omega⟩, ⟨by (with_reducible repeat first | apply pN_ | apply pD_ | apply pA_); exact BK101.out⟩, ⟨bU_ HB.out⟩⟩
     ·replace c8 := Bool.eq_false_iff.mpr c8
      subst c8
      have H1 : (some false) = some r := by rw [if_neg (show ¬ (false = true) by decide)] at H; exact H
      clear H
      have H := H1
      clear H1
      obtain rfl := Option.some.inj H
      have hcz10_0 : wr.cell? ⟨gb101, 0, none⟩ = some (.string a0_0) := (blk_cell BK101.out 0).trans rfl
      have hcz10_1 : wr.cell? ⟨gb101, 1, none⟩ = some (.string a0_1) := (blk_cell BK101.out 1).trans rfl
      have hcz10_2 : wr.cell? ⟨gb101, 2, none⟩ = some (.slice A0_2 l0_2.length c0_2) := (blk_cell BK101.out 2).trans rfl
      have hcz10_3 : wr.cell? ⟨gb101, 3, none⟩ = some (.int .i64 a0_3) := (blk_cell BK101.out 3).trans rfl
      have hfz10_0 := blk_frozen BK101.out 0
      have hfz10_1 := blk_frozen BK101.out 1
      have hfz10_2 := blk_frozen BK101.out 2
      have hfz10_3 := blk_frozen BK101.out 3
      have p104 : 0 ≤ (x3_1 : Int) := of_decide_eq_true (by first | (with_reducible assumption) | assumption)
      have q104 : x3_1 < (l0_2.length : Int) := of_decide_eq_true (by first | (with_reducible assumption) | assumption)
      obtain ⟨ad104, e104, hx104_0, hx104_1⟩ := at_T53 HR0_2.out x3_1 p104 q104
      cases e104
      replace hx104_0 := (HB.out.cell (World.block_lt_of_cell? w _ hx104_0)).trans hx104_0
      replace hx104_1 := (HB.out.cell (World.block_lt_of_cell? w _ hx104_1)).trans hx104_1
      replace p104 := eq_true p104
      replace q104 := eq_true q104
      go_wp2_with (first | ((with_reducible refine gate_callee (f := 21) rfl ?_); refine gL_ (some 17) rfl rfl Try.func21 (by kernel_rfl) rfl #[.int .i64 ((rd_T53 l0_2 x3_1).f0)] rfl ?_; (with_reducible refine (rillmeterref05_tag.calls ((rd_T53 l0_2 x3_1).f0) true _ A5.out).mono ?_); rintro e w' ⟨rfl, ⟨nd, rfl⟩⟩; refine ⟨_, rfl, ?_⟩; have p106 : 0 ≤ (x3_1 : Int) := of_decide_eq_true (by first | (with_reducible assumption) | assumption); have q106 : x3_1 < (l0_2.length : Int) := of_decide_eq_true (by first | (with_reducible assumption) | assumption); obtain ⟨ad106, e106, hx106_0, hx106_1⟩ := at_T53 HR0_2.out x3_1 p106 q106; obtain rfl : ad104 = ad106 := (by injection e106); replace hx106_0 := (HB.out.cell (World.block_lt_of_cell? w _ hx106_0)).trans hx106_0; replace hx106_1 := (HB.out.cell (World.block_lt_of_cell? w _ hx106_1)).trans hx106_1; replace p106 := eq_true p106; replace q106 := eq_true q106) | (go_at_call 23; (with_reducible refine (rillmeterref05_two.calls ((rd_T53 l0_2 x3_1).f1) false _ A7.out).mono ?_); rintro e w' ⟨rfl, ⟨nd, rfl⟩⟩))
      go_ret
      exact ⟨by first | rfl | (simp [errW_none, errW_some] <;> rfl) | (simp [*, errW_none, errW_some] <;> rfl), bU_ HB.out⟩
    ·replace c6 := Bool.eq_false_iff.mpr c6
     subst c6
     have H1 : (some false) = some r := by rw [if_neg (show ¬ (false = true) by decide)] at H; exact H
     clear H
     have H := H1
     clear H1
     obtain rfl := Option.some.inj H
     have hcz11_0 : wr.cell? ⟨gb101, 0, none⟩ = some (.string a0_0) := (blk_cell BK101.out 0).trans rfl
     have hcz11_1 : wr.cell? ⟨gb101, 1, none⟩ = some (.string a0_1) := (blk_cell BK101.out 1).trans rfl
     have hcz11_2 : wr.cell? ⟨gb101, 2, none⟩ = some (.slice A0_2 l0_2.length c0_2) := (blk_cell BK101.out 2).trans rfl
     have hcz11_3 : wr.cell? ⟨gb101, 3, none⟩ = some (.int .i64 a0_3) := (blk_cell BK101.out 3).trans rfl
     have hfz11_0 := blk_frozen BK101.out 0
     have hfz11_1 := blk_frozen BK101.out 1
     have hfz11_2 := blk_frozen BK101.out 2
     have hfz11_3 := blk_frozen BK101.out 3
     have p104 : 0 ≤ (x3_1 : Int) := of_decide_eq_true (by first | (with_reducible assumption) | assumption)
     have q104 : x3_1 < (l0_2.length : Int) := of_decide_eq_true (by first | (with_reducible assumption) | assumption)
     obtain ⟨ad104, e104, hx104_0, hx104_1⟩ := at_T53 HR0_2.out x3_1 p104 q104
     cases e104
     replace hx104_0 := (HB.out.cell (World.block_lt_of_cell? w _ hx104_0)).trans hx104_0
     replace hx104_1 := (HB.out.cell (World.block_lt_of_cell? w _ hx104_1)).trans hx104_1
     replace p104 := eq_true p104
     replace q104 := eq_true q104
     go_wp2_with (first | ((with_reducible refine gate_callee (f := 21) rfl ?_); refine gL_ (some 17) rfl rfl Try.func21 (by kernel_rfl) rfl #[.int .i64 ((rd_T53 l0_2 x3_1).f0)] rfl ?_; (with_reducible refine (rillmeterref05_tag.calls ((rd_T53 l0_2 x3_1).f0) false _ A5.out).mono ?_); rintro e w' ⟨rfl, ⟨nd, rfl⟩⟩; refine ⟨_, rfl, ?_⟩))
     go_ret
     exact ⟨by first | rfl | (simp [errW_none, errW_some] <;> rfl) | (simp [*, errW_none, errW_some] <;> rfl), bU_ HB.out⟩
   ·rw [if_neg c3] at H
    have c3b0 : decide (x3_1 < (l0_2.length : Int)) = false := decide_eq_false c3
    clear c3
    by_cases c12 : (a0_0.size : Int) = 6
    ·rw [if_pos c12] at H
     have c12b0 : ((a0_0.size : Int) == 6) = true := beq_iff_eq.mpr c12
     have c12b1 : ((a0_0.size : Int) != 6) = false := bne_eq_false_iff_eq.mpr c12
     clear c12
     by_cases c13 : (a0_1.size : Int) = 6
     ·rw [if_pos c13] at H
      have c13b0 : ((a0_1.size : Int) == 6) = true := beq_iff_eq.mpr c13
      have c13b1 : ((a0_1.size : Int) != 6) = false := bne_eq_false_iff_eq.mpr c13
      clear c13
      by_cases c14 : (l0_2.length : Int) < 3
      ·rw [if_pos c14] at H
       have c14b0 : decide ((l0_2.length : Int) < 3) = true := decide_eq_true c14
       have c14b1 : decide (l0_2.length < 3) = true := decide_eq_true (by omega)
       clear c14
       replace H := Option.bind_eq_some_iff.mp H
       obtain ⟨t102, A150, H⟩ := H
       replace H : (if t102 = true then ((rillmeterref05_tag.f a0_3).bind fun t103 => (some (!t103))) else (some false)) = some r := H
       have A15 := Aside0.mk A150
       clear A150
       by_cases c16 : t102 = true
       ·subst c16
        have H1 : ((rillmeterref05_tag.f a0_3).bind fun t103 => (some (!t103))) = some r := by rw [if_pos rfl] at H; exact H
        clear H
        have H := H1
        clear H1
        replace H := Option.bind_eq_some_iff.mp H
        obtain ⟨t103, A170, H⟩ := H
        replace H : (some (!t103)) = some r := H
        have A17 := Aside0.mk A170
        clear A170
        obtain rfl := Option.some.inj H
        have hcz18_0 : wr.cell? ⟨gb101, 0, none⟩ = some (.string a0_0) := (blk_cell BK101.out 0).trans rfl
        have hcz18_1 : wr.cell? ⟨gb101, 1, none⟩ = some (.string a0_1) := (blk_cell BK101.out 1).trans rfl
        have hcz18_2 : wr.cell? ⟨gb101, 2, none⟩ = some (.slice A0_2 l0_2.length c0_2) := (blk_cell BK101.out 2).trans rfl
        have hcz18_3 : wr.cell? ⟨gb101, 3, none⟩ = some (.int .i64 a0_3) := (blk_cell BK101.out 3).trans rfl
        have hfz18_0 := blk_frozen BK101.out 0
        have hfz18_1 := blk_frozen BK101.out 1
        have hfz18_2 := blk_frozen BK101.out 2
        have hfz18_3 := blk_frozen BK101.out 3
        go_wp2_with (first | (go_at_call 23; (with_reducible refine (rillmeterref05_two.calls a0_3 true _ A15.out).mono ?_); rintro e w' ⟨rfl, ⟨nd, rfl⟩⟩) | (go_at_call 21; (with_reducible refine (rillmeterref05_tag.calls a0_3 t103 _ A17.out).mono ?_); rintro e w' ⟨rfl, ⟨nd, rfl⟩⟩))
        go_ret
        exact ⟨by first | rfl | (simp [errW_none, errW_some] <;> rfl) | (simp [*, errW_none, errW_some] <;> rfl), bU_ HB.out⟩
       ·replace c16 := Bool.eq_false_iff.mpr c16
        subst c16
        have H1 : (some false) = some r := by rw [if_neg (show ¬ (false = true) by decide)] at H; exact H
        clear H
        have H := H1
        clear H1
        obtain rfl := Option.some.inj H
        have hcz19_0 : wr.cell? ⟨gb101, 0, none⟩ = some (.string a0_0) := (blk_cell BK101.out 0).trans rfl
        have hcz19_1 : wr.cell? ⟨gb101, 1, none⟩ = some (.string a0_1) := (blk_cell BK101.out 1).trans rfl
        have hcz19_2 : wr.cell? ⟨gb101, 2, none⟩ = some (.slice A0_2 l0_2.length c0_2) := (blk_cell BK101.out 2).trans rfl
        have hcz19_3 : wr.cell? ⟨gb101, 3, none⟩ = some (.int .i64 a0_3) := (blk_cell BK101.out 3).trans rfl
        have hfz19_0 := blk_frozen BK101.out 0
        have hfz19_1 := blk_frozen BK101.out 1
        have hfz19_2 := blk_frozen BK101.out 2
        have hfz19_3 := blk_frozen BK101.out 3
        go_wp2_with (first | (go_at_call 23; (with_reducible refine (rillmeterref05_two.calls a0_3 false _ A15.out).mono ?_); rintro e w' ⟨rfl, ⟨nd, rfl⟩⟩))
        go_ret
        exact ⟨by first | rfl | (simp [errW_none, errW_some] <;> rfl) | (simp [*, errW_none, errW_some] <;> rfl), bU_ HB.out⟩
      ·rw [if_neg c14] at H
       have c14b0 : decide ((l0_2.length : Int) < 3) = false := decide_eq_false c14
       have c14b1 : decide (l0_2.length < 3) = false := decide_eq_false (by omega)
       clear c14
       obtain rfl := Option.some.inj H
       have hcz20_0 : wr.cell? ⟨gb101, 0, none⟩ = some (.string a0_0) := (blk_cell BK101.out 0).trans rfl
       have hcz20_1 : wr.cell? ⟨gb101, 1, none⟩ = some (.string a0_1) := (blk_cell BK101.out 1).trans rfl
       have hcz20_2 : wr.cell? ⟨gb101, 2, none⟩ = some (.slice A0_2 l0_2.length c0_2) := (blk_cell BK101.out 2).trans rfl
       have hcz20_3 : wr.cell? ⟨gb101, 3, none⟩ = some (.int .i64 a0_3) := (blk_cell BK101.out 3).trans rfl
       have hfz20_0 := blk_frozen BK101.out 0
       have hfz20_1 := blk_frozen BK101.out 1
       have hfz20_2 := blk_frozen BK101.out 2
       have hfz20_3 := blk_frozen BK101.out 3
       go_wp2
       go_ret
       exact ⟨by first | rfl | (simp [errW_none, errW_some] <;> rfl) | (simp [*, errW_none, errW_some] <;> rfl), bU_ HB.out⟩
     ·rw [if_neg c13] at H
      have c13b0 : ((a0_1.size : Int) == 6) = false := beq_eq_false_iff_ne.mpr c13
      have c13b1 : ((a0_1.size : Int) != 6) = true := bne_iff_ne.mpr c13
      obtain rfl := Option.some.inj H
      have hcz21_0 : wr.cell? ⟨gb101, 0, none⟩ = some (.string a0_0) := (blk_cell BK101.out 0).trans rfl
      have hcz21_1 : wr.cell? ⟨gb101, 1, none⟩ = some (.string a0_1) := (blk_cell BK101.out 1).trans rfl
      have hcz21_2 : wr.cell? ⟨gb101, 2, none⟩ = some (.slice A0_2 l0_2.length c0_2) := (blk_cell BK101.out 2).trans rfl
      have hcz21_3 : wr.cell? ⟨gb101, 3, none⟩ = some (.int .i64 a0_3) := (blk_cell BK101.out 3).trans rfl
      have hfz21_0 := blk_frozen BK101.out 0
      have hfz21_1 := blk_frozen BK101.out 1
      have hfz21_2 := blk_frozen BK101.out 2
      have hfz21_3 := blk_frozen BK101.out 3
      go_wp2
      go_ret
      exact ⟨by first | rfl | (simp [errW_none, errW_some] <;> rfl) | (simp [*, errW_none, errW_some] <;> rfl), bU_ HB.out⟩
    ·rw [if_neg c12] at H
     have c12b0 : ((a0_0.size : Int) == 6) = false := beq_eq_false_iff_ne.mpr c12
     have c12b1 : ((a0_0.size : Int) != 6) = true := bne_iff_ne.mpr c12
     obtain rfl := Option.some.inj H
     have hcz22_0 : wr.cell? ⟨gb101, 0, none⟩ = some (.string a0_0) := (blk_cell BK101.out 0).trans rfl
     have hcz22_1 : wr.cell? ⟨gb101, 1, none⟩ = some (.string a0_1) := (blk_cell BK101.out 1).trans rfl
     have hcz22_2 : wr.cell? ⟨gb101, 2, none⟩ = some (.slice A0_2 l0_2.length c0_2) := (blk_cell BK101.out 2).trans rfl
     have hcz22_3 : wr.cell? ⟨gb101, 3, none⟩ = some (.int .i64 a0_3) := (blk_cell BK101.out 3).trans rfl
     have hfz22_0 := blk_frozen BK101.out 0
     have hfz22_1 := blk_frozen BK101.out 1
     have hfz22_2 := blk_frozen BK101.out 2
     have hfz22_3 := blk_frozen BK101.out 3
     go_wp2
     go_ret
     exact ⟨by first | rfl | (simp [errW_none, errW_some] <;> rfl) | (simp [*, errW_none, errW_some] <;> rfl), bU_ HB.out⟩

end Go.Proofs.Ytngcelombflnfaa.Q
