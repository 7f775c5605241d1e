-- made by a program of this session (wip/print-patch.py, over the kit's print)
import Derived.Test.YtmjpemnlilcpkaaQx0
import Derived.Test.YtmjpemnlilcpkaaQx6
import Derived.Test.YtmjpemnlilcpkaaQx12
import Derived.Test.YtmjpemnlilcpkaaQx13
import Derived.Test.YtmjpemnlilcpkaaQx15
import Derived.Test.YtmjpemnlilcpkaaQx16
namespace Go.Proofs.Ytmjpemnlilcpkaa.Q
open Go.RowKit Go.Proofs.YtmjpemnlilcpkaaW.PrintWords Go.Proofs.YtmjpemnlilcpkaaW.PrintLast Go.Proofs.YtmjpemnlilcpkaaW.PrintMore
attribute [local go_sem] max2_int min2_int max_two min_two max_three min_three max_four min_four   -- for this text's walks alone
set_option linter.unusedVariables false
set_option linter.unusedSimpArgs false

attribute [local go_sem] cell_twice_ cell_twiceN_
/-! ### rillmeterlaw07_IpsixTrail: function 7 -/
mutual
def rillmeterlaw07_IpsixTrail.j0 : Nat → ByteArray → ByteArray → Int → Bool → Option (Bool)
 | 0, _, _, _, _ => none
 | k + 1, x0, x1, x2, x25 => if x25 = true then ((rillmeterlaw07_awake.f k).bind fun t101 => (some t101)) else ((ipsix_Take.f k x0).bind fun bt102 => (if x0.size + x1.size ≤ 9223372036854775807 then ((ipsix_Take.f k (x0 ++ x1)).bind fun bt114 => (if bt102.2.2.2.2.2.2.2.2 = 0 then ((ipsix_Put.f k bt102.1 bt102.2.1 bt102.2.2.1 bt102.2.2.2.1 bt102.2.2.2.2.1 bt102.2.2.2.2.2.1 bt102.2.2.2.2.2.2.1 bt102.2.2.2.2.2.2.2.1).bind fun bt127 => ((rillmeterlaw07_ref.f k bt114.1 bt114.2.1 bt114.2.2.1 bt114.2.2.2.1 bt114.2.2.2.2.1 bt114.2.2.2.2.2.1 bt114.2.2.2.2.2.2.1).bind fun bt129 => ((rillmeterlaw07_ref.f k bt102.1 bt102.2.1 bt102.2.2.1 bt102.2.2.2.1 bt102.2.2.2.2.1 bt102.2.2.2.2.2.1 bt102.2.2.2.2.2.2.1).bind fun bt138 => ((rillmeterref07_Equal.f k bt129.1 bt129.2.1 bt129.2.2.1 bt129.2.2.2.1 bt129.2.2.2.2.1 bt129.2.2.2.2.2.1 bt129.2.2.2.2.2.2 bt138.1 bt138.2.1 bt138.2.2.1 bt138.2.2.2.1 bt138.2.2.2.2.1 bt138.2.2.2.2.2.1 bt138.2.2.2.2.2.2).bind fun t147 => (if t147 = true then (if bt114.2.2.2.2.2.2.2.1.toList = bt102.2.2.2.2.2.2.2.1.toList then (if bt114.2.2.2.2.2.2.2.2 = 0 then (rillmeterlaw07_IpsixTrail.j1 k x0 x2 bt127.1 (bt127.2 != 0)) else (rillmeterlaw07_IpsixTrail.j1 k x0 x2 bt127.1 true)) else (rillmeterlaw07_IpsixTrail.j1 k x0 x2 bt127.1 true)) else (rillmeterlaw07_IpsixTrail.j1 k x0 x2 bt127.1 true)))))) else ((rillmeterlaw07_awake.f k).bind fun t126 => (some t126)))) else (none)))
def rillmeterlaw07_IpsixTrail.j1 : Nat → ByteArray → Int → ByteArray → Bool → Option (Bool)
 | 0, _, _, _, _ => none
 | k + 1, x0, x2, x13, x68 => if x68 = true then (some false) else (if x2 < 0 then (rillmeterlaw07_IpsixTrail.j2 k x0 x2 true) else (if x2 ≥ (x13.size : Int) then (rillmeterlaw07_IpsixTrail.j2 k x0 x2 true) else (rillmeterlaw07_IpsixTrail.j2 k x0 x2 (decide ((x13.size : Int) > (x0.size : Int))))))
def rillmeterlaw07_IpsixTrail.j2 : Nat → ByteArray → Int → Bool → Option (Bool)
 | 0, _, _, _ => none
 | k + 1, x0, x2, x83 => if x83 = true then ((rillmeterlaw07_awake.f k).bind fun t148 => (some t148)) else (if 0 ≤ x2 then (if x2 ≤ (x0.size : Int) then ((ipsix_Take.f k (x0.extract 0 (x2 : Int).toNat)).bind fun bt149 => (if ((bt149.2.2.2.2.2.2.2.2 == 2) == (decide (x2 < 40))) = true then (if bt149.2.2.2.2.2.2.2.2 = 2 then ((rillmeterlaw07_awake.f k).bind fun t161 => (some t161)) else (if bt149.2.2.2.2.2.2.2.2 = 13 then ((rillmeterlaw07_awake.f k).bind fun t162 => (some t162)) else (some false))) else (some false))) else (none)) else (none))
end
def rillmeterlaw07_IpsixTrail.f (k : Nat) (a0 : ByteArray) (a1 : ByteArray) (a2 : Int) : Option (Bool) := if (a0.size : Int) > 4096 then (rillmeterlaw07_IpsixTrail.j0 k a0 a1 a2 true) else (rillmeterlaw07_IpsixTrail.j0 k a0 a1 a2 (decide ((a1.size : Int) > 4096)))
theorem rillmeterlaw07_IpsixTrail.mono_l : ∀ k, (∀ y0 y1 y2 y3, LeO (rillmeterlaw07_IpsixTrail.j0 k y0 y1 y2 y3) (rillmeterlaw07_IpsixTrail.j0 (k + 1) y0 y1 y2 y3)) ∧ (∀ y0 y1 y2 y3, LeO (rillmeterlaw07_IpsixTrail.j1 k y0 y1 y2 y3) (rillmeterlaw07_IpsixTrail.j1 (k + 1) y0 y1 y2 y3)) ∧ (∀ y0 y1 y2, LeO (rillmeterlaw07_IpsixTrail.j2 k y0 y1 y2) (rillmeterlaw07_IpsixTrail.j2 (k + 1) y0 y1 y2))
 | 0 => ⟨fun _ _ _ _ r h => by simp [rillmeterlaw07_IpsixTrail.j0] at h, fun _ _ _ _ r h => by simp [rillmeterlaw07_IpsixTrail.j1] at h, fun _ _ _ r h => by simp [rillmeterlaw07_IpsixTrail.j2] at h⟩
 | k + 1 => by
  obtain ⟨ih0, ih1, ih2⟩ := rillmeterlaw07_IpsixTrail.mono_l k
  refine ⟨?_, ?_, ?_⟩
  ·intro y0 y1 y2 y3
   unfold rillmeterlaw07_IpsixTrail.j0
   repeat' first
   | (with_reducible exact ih0 _ _ _ _)
   | (with_reducible exact ih1 _ _ _ _)
   | (with_reducible exact ih2 _ _ _)
   | (with_reducible exact ipsix_Put.mono _ _ _ _ _ _ _ _ _)
   | (with_reducible exact ipsix_Take.mono _ _)
   | (with_reducible exact rillmeterlaw07_awake.mono _)
   | (with_reducible exact rillmeterlaw07_ref.mono _ _ _ _ _ _ _ _)
   | (with_reducible exact rillmeterref07_Equal.mono _ _ _ _ _ _ _ _ _ _ _ _ _ _ _)
   | (with_reducible exact LeO.refl _)
   | (with_reducible exact LeO.none _)
   | (with_reducible refine LeO.ite ?_ ?_)
   | (with_reducible refine LeO.bind ?_ (fun _ => ?_))
   | exact ih0 _ _ _ _
   | exact ih1 _ _ _ _
   | exact ih2 _ _ _
   | exact ipsix_Put.mono _ _ _ _ _ _ _ _ _
   | exact ipsix_Take.mono _ _
   | exact rillmeterlaw07_awake.mono _
   | exact rillmeterlaw07_ref.mono _ _ _ _ _ _ _ _
   | exact rillmeterref07_Equal.mono _ _ _ _ _ _ _ _ _ _ _ _ _ _ _
   | exact LeO.none _
   | refine LeO.ite ?_ ?_
   | refine LeO.bind ?_ (fun _ => ?_)
  ·intro y0 y1 y2 y3
   unfold rillmeterlaw07_IpsixTrail.j1
   repeat' first
   | (with_reducible exact ih0 _ _ _ _)
   | (with_reducible exact ih1 _ _ _ _)
   | (with_reducible exact ih2 _ _ _)
   | (with_reducible exact ipsix_Put.mono _ _ _ _ _ _ _ _ _)
   | (with_reducible exact ipsix_Take.mono _ _)
   | (with_reducible exact rillmeterlaw07_awake.mono _)
   | (with_reducible exact rillmeterlaw07_ref.mono _ _ _ _ _ _ _ _)
   | (with_reducible exact rillmeterref07_Equal.mono _ _ _ _ _ _ _ _ _ _ _ _ _ _ _)
   | (with_reducible exact LeO.refl _)
   | (with_reducible exact LeO.none _)
   | (with_reducible refine LeO.ite ?_ ?_)
   | (with_reducible refine LeO.bind ?_ (fun _ => ?_))
   | exact ih0 _ _ _ _
   | exact ih1 _ _ _ _
   | exact ih2 _ _ _
   | exact ipsix_Put.mono _ _ _ _ _ _ _ _ _
   | exact ipsix_Take.mono _ _
   | exact rillmeterlaw07_awake.mono _
   | exact rillmeterlaw07_ref.mono _ _ _ _ _ _ _ _
   | exact rillmeterref07_Equal.mono _ _ _ _ _ _ _ _ _ _ _ _ _ _ _
   | exact LeO.none _
   | refine LeO.ite ?_ ?_
   | refine LeO.bind ?_ (fun _ => ?_)
  ·intro y0 y1 y2
   unfold rillmeterlaw07_IpsixTrail.j2
   repeat' first
   | (with_reducible exact ih0 _ _ _ _)
   | (with_reducible exact ih1 _ _ _ _)
   | (with_reducible exact ih2 _ _ _)
   | (with_reducible exact ipsix_Put.mono _ _ _ _ _ _ _ _ _)
   | (with_reducible exact ipsix_Take.mono _ _)
   | (with_reducible exact rillmeterlaw07_awake.mono _)
   | (with_reducible exact rillmeterlaw07_ref.mono _ _ _ _ _ _ _ _)
   | (with_reducible exact rillmeterref07_Equal.mono _ _ _ _ _ _ _ _ _ _ _ _ _ _ _)
   | (with_reducible exact LeO.refl _)
   | (with_reducible exact LeO.none _)
   | (with_reducible refine LeO.ite ?_ ?_)
   | (with_reducible refine LeO.bind ?_ (fun _ => ?_))
   | exact ih0 _ _ _ _
   | exact ih1 _ _ _ _
   | exact ih2 _ _ _
   | exact ipsix_Put.mono _ _ _ _ _ _ _ _ _
   | exact ipsix_Take.mono _ _
   | exact rillmeterlaw07_awake.mono _
   | exact rillmeterlaw07_ref.mono _ _ _ _ _ _ _ _
   | exact rillmeterref07_Equal.mono _ _ _ _ _ _ _ _ _ _ _ _ _ _ _
   | exact LeO.none _
   | refine LeO.ite ?_ ?_
   | refine LeO.bind ?_ (fun _ => ?_)
theorem rillmeterlaw07_IpsixTrail.mono : ∀ a0 a1 a2 k, LeO (rillmeterlaw07_IpsixTrail.f k a0 a1 a2) (rillmeterlaw07_IpsixTrail.f (k + 1) a0 a1 a2) := by
 intro a0 a1 a2 k
 obtain ⟨ih0, ih1, ih2⟩ := rillmeterlaw07_IpsixTrail.mono_l k
 unfold rillmeterlaw07_IpsixTrail.f
 repeat' first
   | (with_reducible exact ih0 _ _ _ _)
   | (with_reducible exact ih1 _ _ _ _)
   | (with_reducible exact ih2 _ _ _)
   | (with_reducible exact ipsix_Put.mono _ _ _ _ _ _ _ _ _)
   | (with_reducible exact ipsix_Take.mono _ _)
   | (with_reducible exact rillmeterlaw07_awake.mono _)
   | (with_reducible exact rillmeterlaw07_ref.mono _ _ _ _ _ _ _ _)
   | (with_reducible exact rillmeterref07_Equal.mono _ _ _ _ _ _ _ _ _ _ _ _ _ _ _)
   | (with_reducible exact LeO.refl _)
   | (with_reducible exact LeO.none _)
   | (with_reducible refine LeO.ite ?_ ?_)
   | (with_reducible refine LeO.bind ?_ (fun _ => ?_))
   | exact ih0 _ _ _ _
   | exact ih1 _ _ _ _
   | exact ih2 _ _ _
   | exact ipsix_Put.mono _ _ _ _ _ _ _ _ _
   | exact ipsix_Take.mono _ _
   | exact rillmeterlaw07_awake.mono _
   | exact rillmeterlaw07_ref.mono _ _ _ _ _ _ _ _
   | exact rillmeterref07_Equal.mono _ _ _ _ _ _ _ _ _ _ _ _ _ _ _
   | exact LeO.none _
   | refine LeO.ite ?_ ?_
   | refine LeO.bind ?_ (fun _ => ?_)
def rillmeterlaw07_IpsixTrail.T8 : Bool × List (List Nat × List Nat) := (true, [([], []), ([0], [0]), ([], []), ([2, 1], [2]), ([1, 3, 3], [1, 3]), ([4], [4]), ([5, 4], [5]), ([6], [6]), ([6], [6]), ([7, 8, 6], [6, 7, 8]), ([6, 9], [6, 9]), ([10, 6], [10]), ([11], [11]), ([12, 11], [11, 12]), ([11, 13], [11, 13]), ([14, 11], [14]), ([15], [15]), ([16, 15], [15, 16]), ([15, 17], [15, 17])])
def rillmeterlaw07_IpsixTrail.B8 : List Nat := [0, 1, 0, 7, 15, 31, 63, 127, 127, 511, 1023, 2047, 4095, 8191, 16383, 32767, 65535, 131071, 262143]
theorem rillmeterlaw07_IpsixTrail.tab8 : rtab .any (opsOf Try.f7 8) = rillmeterlaw07_IpsixTrail.T8 := by kernel_rfl
theorem rillmeterlaw07_IpsixTrail.bits8 : waitsOk rillmeterlaw07_IpsixTrail.T8.2 rillmeterlaw07_IpsixTrail.B8 = true := by kernel_rfl
set_option maxHeartbeats 8000000 in
set_option maxRecDepth 100000 in
theorem rillmeterlaw07_IpsixTrail.calls (k : Nat) (a0 : ByteArray) (a1 : ByteArray) (a2 : Int) (r : Bool) (w : World) (hrt : Aside0 (r = true)) (h : rillmeterlaw07_IpsixTrail.f k a0 a1 a2 = some r) :
  Calls Try.prog 7 #[.string a0, .string a1, .int .i64 a2] w fun e w' => e = .returned (.bool r) ∧ Below w.heap.size w w' := by
 have hu25 := Try.underlying25
 have HB := Aside0.mk (Below.refl w.heap.size w)
 have H : (if (a0.size : Int) > 4096 then (rillmeterlaw07_IpsixTrail.j0 k a0 a1 a2 true) else (rillmeterlaw07_IpsixTrail.j0 k a0 a1 a2 (decide ((a1.size : Int) > 4096)))) = some r := h
 clear h
 have HC4 := Aside0.mk H
 clear H
 go_enter Try.func7, Try.ntmps7
 go_upto_region 1 with (fail)
 go_cut [25] (fun v25 wc => ∃ (kq : Nat) (x25_3 : Bool), v25 = .bool x25_3 ∧ Aside0 (rillmeterlaw07_IpsixTrail.j0 kq a0 a1 a2 x25_3 = some r) ∧ Aside0 (kq ≤ k) ∧ Aside0 (Below w.heap.size w wc))
 case first =>
  have H := HC4.out
  clear HC4
  by_cases c5 : (a0.size : Int) > 4096
  ·rw [if_pos c5] at H
   have c5b0 : decide (4096 < (a0.size : Int)) = true := decide_eq_true c5
   have c5b1 : decide (4096 < a0.size) = true := decide_eq_true (by omega)
   clear c5
   (first | rw [c5b0] | (simp only [i64_w, i32_w]; rw [c5b0]) | skip)
   have H' := Aside0.mk H
   clear H
   go_wp2
   go_meet
   case rel => exact ⟨_, (true), (by first | rfl | (simp; done) | (simp [*]; done)), H', ⟨by first | omega | exact Nat.le_refl _⟩, ⟨bU_ HB.out⟩⟩
  ·rw [if_neg c5] at H
   have c5b0 : decide (4096 < (a0.size : Int)) = false := decide_eq_false c5
   have c5b1 : decide (4096 < a0.size) = false := decide_eq_false (by omega)
   clear c5
   (first | rw [c5b0] | (simp only [i64_w, i32_w]; rw [c5b0]) | skip)
   have H' := Aside0.mk H
   clear H
   go_wp2
   go_meet
   case rel => exact ⟨_, (decide ((a1.size : Int) > 4096)), (by first | rfl | (simp; done) | (simp [*]; done)), H', ⟨by first | omega | exact Nat.le_refl _⟩, ⟨bU_ HB.out⟩⟩
 case rest =>
  clear HC4
  try clear p2
  try clear c5
  try clear c5b0
  try clear c5b1
  obtain ⟨kq, x25_3, rfl, HA, HJ3, HB⟩ := hcut
  cases kq with
  | zero => exact absurd HA.out (by simp [rillmeterlaw07_IpsixTrail.j0])
  | succ kj3 =>
   have H := HA.out
   clear HA
   simp only [rillmeterlaw07_IpsixTrail.j0] at H
   by_cases c6 : x25_3 = true
   ·subst c6
    have H1 : ((rillmeterlaw07_awake.f kj3).bind fun t101 => (some t101)) = some r := by rw [if_pos rfl] at H; exact H
    clear H
    have H := H1
    clear H1
    replace H := Option.bind_eq_some_iff.mp H
    obtain ⟨t101, A70, H⟩ := H
    replace H : (some t101) = some r := H
    have A7 := Aside0.mk A70
    clear A70
    obtain rfl := Option.some.inj H
    go_wp2_with (first | ((with_reducible refine gate_callee (f := 8) rfl ?_); refine gL_ (some 26) rfl rfl Try.func8 (by kernel_rfl) rfl #[] rfl ?_; (with_reducible refine (rillmeterlaw07_awake.calls kj3  t101 _ hrt A7.out).mono ?_); rintro e w8 ⟨rfl, hb⟩; refine ⟨_, rfl, ?_⟩; have n0_ := Aside0.mk (below_step (bU_ HB.out) hb); clear HB; have HB := n0_; clear n0_; (try clear hb); (try clear hb2); (try clear hk); (try clear hi)))
    go_ret
    exact ⟨by first | rfl | (simp [errW_none, errW_some] <;> rfl) | (simp [*, errW_none, errW_some] <;> rfl), bU_ HB.out⟩
   ·replace c6 := Bool.eq_false_iff.mpr c6
    subst c6
    have H1 : ((ipsix_Take.f kj3 a0).bind fun bt102 => (if a0.size + a1.size ≤ 9223372036854775807 then ((ipsix_Take.f kj3 (a0 ++ a1)).bind fun bt114 => (if bt102.2.2.2.2.2.2.2.2 = 0 then ((ipsix_Put.f kj3 bt102.1 bt102.2.1 bt102.2.2.1 bt102.2.2.2.1 bt102.2.2.2.2.1 bt102.2.2.2.2.2.1 bt102.2.2.2.2.2.2.1 bt102.2.2.2.2.2.2.2.1).bind fun bt127 => ((rillmeterlaw07_ref.f kj3 bt114.1 bt114.2.1 bt114.2.2.1 bt114.2.2.2.1 bt114.2.2.2.2.1 bt114.2.2.2.2.2.1 bt114.2.2.2.2.2.2.1).bind fun bt129 => ((rillmeterlaw07_ref.f kj3 bt102.1 bt102.2.1 bt102.2.2.1 bt102.2.2.2.1 bt102.2.2.2.2.1 bt102.2.2.2.2.2.1 bt102.2.2.2.2.2.2.1).bind fun bt138 => ((rillmeterref07_Equal.f kj3 bt129.1 bt129.2.1 bt129.2.2.1 bt129.2.2.2.1 bt129.2.2.2.2.1 bt129.2.2.2.2.2.1 bt129.2.2.2.2.2.2 bt138.1 bt138.2.1 bt138.2.2.1 bt138.2.2.2.1 bt138.2.2.2.2.1 bt138.2.2.2.2.2.1 bt138.2.2.2.2.2.2).bind fun t147 => (if t147 = true then (if bt114.2.2.2.2.2.2.2.1.toList = bt102.2.2.2.2.2.2.2.1.toList then (if bt114.2.2.2.2.2.2.2.2 = 0 then (rillmeterlaw07_IpsixTrail.j1 kj3 a0 a2 bt127.1 (bt127.2 != 0)) else (rillmeterlaw07_IpsixTrail.j1 kj3 a0 a2 bt127.1 true)) else (rillmeterlaw07_IpsixTrail.j1 kj3 a0 a2 bt127.1 true)) else (rillmeterlaw07_IpsixTrail.j1 kj3 a0 a2 bt127.1 true)))))) else ((rillmeterlaw07_awake.f kj3).bind fun t126 => (some t126)))) else (none))) = some r := by rw [if_neg (show ¬ (false = true) by decide)] at H; exact H
    clear H
    have H := H1
    clear H1
    replace H := Option.bind_eq_some_iff.mp H
    obtain ⟨⟨t102, t103, t104, t105, t106, t107, t108, t111, t112⟩, A90, H⟩ := H
    replace H : (if a0.size + a1.size ≤ 9223372036854775807 then ((ipsix_Take.f kj3 (a0 ++ a1)).bind fun bt114 => (if t112 = 0 then ((ipsix_Put.f kj3 t102 t103 t104 t105 t106 t107 t108 t111).bind fun bt127 => ((rillmeterlaw07_ref.f kj3 bt114.1 bt114.2.1 bt114.2.2.1 bt114.2.2.2.1 bt114.2.2.2.2.1 bt114.2.2.2.2.2.1 bt114.2.2.2.2.2.2.1).bind fun bt129 => ((rillmeterlaw07_ref.f kj3 t102 t103 t104 t105 t106 t107 t108).bind fun bt138 => ((rillmeterref07_Equal.f kj3 bt129.1 bt129.2.1 bt129.2.2.1 bt129.2.2.2.1 bt129.2.2.2.2.1 bt129.2.2.2.2.2.1 bt129.2.2.2.2.2.2 bt138.1 bt138.2.1 bt138.2.2.1 bt138.2.2.2.1 bt138.2.2.2.2.1 bt138.2.2.2.2.2.1 bt138.2.2.2.2.2.2).bind fun t147 => (if t147 = true then (if bt114.2.2.2.2.2.2.2.1.toList = t111.toList then (if bt114.2.2.2.2.2.2.2.2 = 0 then (rillmeterlaw07_IpsixTrail.j1 kj3 a0 a2 bt127.1 (bt127.2 != 0)) else (rillmeterlaw07_IpsixTrail.j1 kj3 a0 a2 bt127.1 true)) else (rillmeterlaw07_IpsixTrail.j1 kj3 a0 a2 bt127.1 true)) else (rillmeterlaw07_IpsixTrail.j1 kj3 a0 a2 bt127.1 true)))))) else ((rillmeterlaw07_awake.f kj3).bind fun t126 => (some t126)))) else (none)) = some r := H
    have A9 := Aside0.mk A90
    clear A90
    by_cases c10 : a0.size + a1.size ≤ 9223372036854775807
    ·rw [if_pos c10] at H
     have c10b0 := eq_true c10
     have c10b1 : decide (a0.size + a1.size ≤ 9223372036854775807) = true := decide_eq_true c10
     try have c10b2 : (9223372036854775807 < a0.size + a1.size) = False := eq_false (Nat.not_lt.2 c10)
     try (have c10b3 := c10; simp only [ByteArray.size_append, ByteArray.size_extract, Nat.sub_zero] at c10b3; have c10b4 := eq_false (Nat.not_lt.2 c10b3))
     replace H := Option.bind_eq_some_iff.mp H
     obtain ⟨⟨t114, t115, t116, t117, t118, t119, t120, t123, t124⟩, A110, H⟩ := H
     replace H : (if t112 = 0 then ((ipsix_Put.f kj3 t102 t103 t104 t105 t106 t107 t108 t111).bind fun bt127 => ((rillmeterlaw07_ref.f kj3 t114 t115 t116 t117 t118 t119 t120).bind fun bt129 => ((rillmeterlaw07_ref.f kj3 t102 t103 t104 t105 t106 t107 t108).bind fun bt138 => ((rillmeterref07_Equal.f kj3 bt129.1 bt129.2.1 bt129.2.2.1 bt129.2.2.2.1 bt129.2.2.2.2.1 bt129.2.2.2.2.2.1 bt129.2.2.2.2.2.2 bt138.1 bt138.2.1 bt138.2.2.1 bt138.2.2.2.1 bt138.2.2.2.2.1 bt138.2.2.2.2.2.1 bt138.2.2.2.2.2.2).bind fun t147 => (if t147 = true then (if t123.toList = t111.toList then (if t124 = 0 then (rillmeterlaw07_IpsixTrail.j1 kj3 a0 a2 bt127.1 (bt127.2 != 0)) else (rillmeterlaw07_IpsixTrail.j1 kj3 a0 a2 bt127.1 true)) else (rillmeterlaw07_IpsixTrail.j1 kj3 a0 a2 bt127.1 true)) else (rillmeterlaw07_IpsixTrail.j1 kj3 a0 a2 bt127.1 true)))))) else ((rillmeterlaw07_awake.f kj3).bind fun t126 => (some t126))) = some r := H
     have A11 := Aside0.mk A110
     clear A110
     by_cases c12 : t112 = 0
     ·rw [if_pos c12] at H
      have c12b0 : (t112 == 0) = true := beq_iff_eq.mpr c12
      have c12b1 : (t112 != 0) = false := bne_eq_false_iff_eq.mpr c12
      clear c12
      replace H := Option.bind_eq_some_iff.mp H
      obtain ⟨⟨t127, t128⟩, A130, H⟩ := H
      replace H : ((rillmeterlaw07_ref.f kj3 t114 t115 t116 t117 t118 t119 t120).bind fun bt129 => ((rillmeterlaw07_ref.f kj3 t102 t103 t104 t105 t106 t107 t108).bind fun bt138 => ((rillmeterref07_Equal.f kj3 bt129.1 bt129.2.1 bt129.2.2.1 bt129.2.2.2.1 bt129.2.2.2.2.1 bt129.2.2.2.2.2.1 bt129.2.2.2.2.2.2 bt138.1 bt138.2.1 bt138.2.2.1 bt138.2.2.2.1 bt138.2.2.2.2.1 bt138.2.2.2.2.2.1 bt138.2.2.2.2.2.2).bind fun t147 => (if t147 = true then (if t123.toList = t111.toList then (if t124 = 0 then (rillmeterlaw07_IpsixTrail.j1 kj3 a0 a2 t127 (t128 != 0)) else (rillmeterlaw07_IpsixTrail.j1 kj3 a0 a2 t127 true)) else (rillmeterlaw07_IpsixTrail.j1 kj3 a0 a2 t127 true)) else (rillmeterlaw07_IpsixTrail.j1 kj3 a0 a2 t127 true))))) = some r := H
      have A13 := Aside0.mk A130
      clear A130
      have HC14 := Aside0.mk H
      clear H
      go_upto_region 8 with (first | ((with_reducible refine gate_callee (f := 9) rfl ?_); refine gL_ (some 29) rfl rfl Try.func9 (by kernel_rfl) rfl #[.string a0] rfl ?_; (with_reducible refine (ipsix_Take.calls kj3 a0 t102 t103 t104 t105 t106 t107 t108 t111 t112 _ A9.out).mono ?_); rintro e w15 ⟨v109, rfl, ho0, hb⟩; refine ⟨_, rfl, ?_⟩; have n0_ := Aside0.mk (Kd.R_lower ho0 (below_size (bU_ HB.out))); have n1_ := Aside0.mk (below_step (bU_ HB.out) hb); clear HB; have HO110 := n0_; have HB := n1_; clear n0_ n1_; (try clear hb); (try clear hb2); (try clear hk); (try clear hi); (try clear ho0)) | ((with_reducible refine gate_dst (N := 7) rfl ?_); (try (refine gate_guard (by rfl) ?_; dsimp only)); refine box_event ?hg (N := 7) ?hd (cs := #[.int .i64 0, .int .i64 0, .int .i64 0, .int .i64 0, .string (⟨#[]⟩ : ByteArray), .string (⟨#[]⟩ : ByteArray), .slice none 0 0]) (t := 25) ?hr ?_; (case hd => rfl); (case hg => rfl); (case hr => first | (go_simp; done) | (go_simp; rfl)); intro gb113 hg w16 hbox hb; have n0_ := Aside0.mk (Kd.R_below (by (with_reducible repeat first | apply Kd.R_alloc | apply Kd.R_drewN | apply Kd.R_drew); exact HO110.out) hb); have n1_ := Aside0.mk (below_step (bU_ HB.out) hb); have n2_ := Aside0.mk (hbox); have n3_ := Aside0.mk ((by rw [hg]; exact (below_size (bU_ HB.out)) : w.heap.size ≤ gb113)); have n4_ := Aside0.mk ((by rw [hg]; exact (below_size (bU_ HB.out)) : w.heap.size ≤ gb113)); clear HO110; clear HB; have HO110 := n0_; have HB := n1_; have BK113 := n2_; have GW113 := n3_; have GE113 := n4_; clear n0_ n1_ n2_ n3_ n4_; clear hb hbox hg; have hcz17_0 : w16.cell? ⟨gb113, 0, none⟩ = some (.int .i64 0) := (blk_cell BK113.out 0).trans rfl; have hcz17_1 : w16.cell? ⟨gb113, 1, none⟩ = some (.int .i64 0) := (blk_cell BK113.out 1).trans rfl; have hcz17_2 : w16.cell? ⟨gb113, 2, none⟩ = some (.int .i64 0) := (blk_cell BK113.out 2).trans rfl; have hcz17_3 : w16.cell? ⟨gb113, 3, none⟩ = some (.int .i64 0) := (blk_cell BK113.out 3).trans rfl; have hcz17_4 : w16.cell? ⟨gb113, 4, none⟩ = some (.string (⟨#[]⟩ : ByteArray)) := (blk_cell BK113.out 4).trans rfl; have hcz17_5 : w16.cell? ⟨gb113, 5, none⟩ = some (.string (⟨#[]⟩ : ByteArray)) := (blk_cell BK113.out 5).trans rfl; have hcz17_6 : w16.cell? ⟨gb113, 6, none⟩ = some (.slice none 0 0) := (blk_cell BK113.out 6).trans rfl; have hfz17_0 := blk_frozen BK113.out 0; have hfz17_1 := blk_frozen BK113.out 1; have hfz17_2 := blk_frozen BK113.out 2; have hfz17_3 := blk_frozen BK113.out 3; have hfz17_4 := blk_frozen BK113.out 4; have hfz17_5 := blk_frozen BK113.out 5; have hfz17_6 := blk_frozen BK113.out 6; obtain ⟨Ao18, co18, eo18⟩ := Kd.R_slice HO110.out; subst eo18) | ((with_reducible refine gate_callee (f := 9) rfl ?_); refine gL_ (some 37) rfl rfl Try.func9 (by kernel_rfl) rfl #[.string (a0 ++ a1)] rfl ?_; (with_reducible refine (ipsix_Take.calls kj3 (a0 ++ a1) t114 t115 t116 t117 t118 t119 t120 t123 t124 _ A11.out).mono ?_); rintro e w19 ⟨v121, rfl, ho0, hb⟩; refine ⟨_, rfl, ?_⟩; have n0_ := Aside0.mk (Kd.R_elder' (by (with_reducible repeat first | apply Kd.R_alloc | apply Kd.R_drewN | apply Kd.R_drew); exact (Kd.R_mono (Kd.R_far (p := ⟨gb113, 6, none⟩) (Kd.R_far (p := ⟨gb113, 5, none⟩) (Kd.R_far (p := ⟨gb113, 4, none⟩) (Kd.R_far (p := ⟨gb113, 3, none⟩) (Kd.R_far (p := ⟨gb113, 2, none⟩) (Kd.R_far (p := ⟨gb113, 1, none⟩) (Kd.R_far (p := ⟨gb113, 0, none⟩) (Kd.R_types HO110.out BK113.out (by decide)) (fun _ hk => hk.2) (.int .i64 t102)) (fun _ hk => hk.2) (.int .i64 t103)) (fun _ hk => hk.2) (.int .i64 t104)) (fun _ hk => hk.2) (.int .i64 t105)) (fun _ hk => hk.2) (.string t106)) (fun _ hk => hk.2) (.string t107)) (fun _ hk => hk.2) (.slice Ao18 t108.length co18)) (fun _ h_ => h_.1))) (Kd.R_base ho0) hb); have n1_ := Aside0.mk (Kd.R_lower (Kd.R_new' ho0 (Kd.R_lt (by (with_reducible repeat first | apply Kd.R_alloc | apply Kd.R_drewN | apply Kd.R_drew); exact (Kd.R_mono (Kd.R_far (p := ⟨gb113, 6, none⟩) (Kd.R_far (p := ⟨gb113, 5, none⟩) (Kd.R_far (p := ⟨gb113, 4, none⟩) (Kd.R_far (p := ⟨gb113, 3, none⟩) (Kd.R_far (p := ⟨gb113, 2, none⟩) (Kd.R_far (p := ⟨gb113, 1, none⟩) (Kd.R_far (p := ⟨gb113, 0, none⟩) (Kd.R_types HO110.out BK113.out (by decide)) (fun _ hk => hk.2) (.int .i64 t102)) (fun _ hk => hk.2) (.int .i64 t103)) (fun _ hk => hk.2) (.int .i64 t104)) (fun _ hk => hk.2) (.int .i64 t105)) (fun _ hk => hk.2) (.string t106)) (fun _ hk => hk.2) (.string t107)) (fun _ hk => hk.2) (.slice Ao18 t108.length co18)) (fun _ h_ => h_.1))))) (below_size (bU_ HB.out))); have n2_ := Aside0.mk (blk_below (g := gb113) (o := .cells #[.int .i64 t102, .int .i64 t103, .int .i64 t104, .int .i64 t105, .string t106, .string t107, .slice Ao18 t108.length co18] 25 (0, 0)) (by (with_reducible repeat first | apply pN_ | apply pD_ | apply pA_); refine blk_put (cs := #[.int .i64 t102, .int .i64 t103, .int .i64 t104, .int .i64 t105, .string t106, .string t107, .slice none 0 0]) ?_ 6 _ rfl; (with_reducible repeat first | apply pN_ | apply pD_ | apply pA_); refine blk_put (cs := #[.int .i64 t102, .int .i64 t103, .int .i64 t104, .int .i64 t105, .string t106, .string (⟨#[]⟩ : ByteArray), .slice none 0 0]) ?_ 5 _ rfl; (with_reducible repeat first | apply pN_ | apply pD_ | apply pA_); refine blk_put (cs := #[.int .i64 t102, .int .i64 t103, .int .i64 t104, .int .i64 t105, .string (⟨#[]⟩ : ByteArray), .string (⟨#[]⟩ : ByteArray), .slice none 0 0]) ?_ 4 _ rfl; (with_reducible repeat first | apply pN_ | apply pD_ | apply pA_); refine blk_put (cs := #[.int .i64 t102, .int .i64 t103, .int .i64 t104, .int .i64 0, .string (⟨#[]⟩ : ByteArray), .string (⟨#[]⟩ : ByteArray), .slice none 0 0]) ?_ 3 _ rfl; (with_reducible repeat first | apply pN_ | apply pD_ | apply pA_); refine blk_put (cs := #[.int .i64 t102, .int .i64 t103, .int .i64 0, .int .i64 0, .string (⟨#[]⟩ : ByteArray), .string (⟨#[]⟩ : ByteArray), .slice none 0 0]) ?_ 2 _ rfl; (with_reducible repeat first | apply pN_ | apply pD_ | apply pA_); refine blk_put (cs := #[.int .i64 t102, .int .i64 0, .int .i64 0, .int .i64 0, .string (⟨#[]⟩ : ByteArray), .string (⟨#[]⟩ : ByteArray), .slice none 0 0]) ?_ 1 _ rfl; (with_reducible repeat first | apply pN_ | apply pD_ | apply pA_); refine blk_put (cs := #[.int .i64 0, .int .i64 0, .int .i64 0, .int .i64 0, .string (⟨#[]⟩ : ByteArray), .string (⟨#[]⟩ : ByteArray), .slice none 0 0]) ?_ 0 _ rfl; (with_reducible repeat first | apply pN_ | apply pD_ | apply pA_); exact BK113.out) hb); have n3_ := Aside0.mk (below_step (bU_ HB.out) hb); clear HO110; clear BK113; clear HB; have HO110 := n0_; have HO122 := n1_; have BK113 := n2_; have HB := n3_; clear n0_ n1_ n2_ n3_; (try clear hb); (try clear hb2); (try clear hk); (try clear hi); (try clear ho0)) | ((with_reducible refine gate_dst (N := 10) rfl ?_); (try (refine gate_guard (by rfl) ?_; dsimp only)); refine box_event ?hg (N := 10) ?hd (cs := #[.int .i64 0, .int .i64 0, .int .i64 0, .int .i64 0, .string (⟨#[]⟩ : ByteArray), .string (⟨#[]⟩ : ByteArray), .slice none 0 0]) (t := 25) ?hr ?_; (case hd => rfl); (case hg => rfl); (case hr => first | (go_simp; done) | (go_simp; rfl)); intro gb125 hg w20 hbox hb; have n0_ := Aside0.mk (Kd.R_below (by (with_reducible repeat first | apply Kd.R_alloc | apply Kd.R_drewN | apply Kd.R_drew); exact HO110.out) hb); have n1_ := Aside0.mk (Kd.R_below (by (with_reducible repeat first | apply Kd.R_alloc | apply Kd.R_drewN | apply Kd.R_drew); exact HO122.out) hb); have n2_ := Aside0.mk (blk_below (g := gb113) (o := .cells #[.int .i64 t102, .int .i64 t103, .int .i64 t104, .int .i64 t105, .string t106, .string t107, .slice Ao18 t108.length co18] 25 (0, 0)) (by (with_reducible repeat first | apply pN_ | apply pD_ | apply pA_); exact BK113.out) hb); have n3_ := Aside0.mk (below_step (bU_ HB.out) hb); have n4_ := Aside0.mk (hbox); have n5_ := Aside0.mk ((by rw [hg]; exact (below_size (bU_ HB.out)) : w.heap.size ≤ gb125)); have n6_ := Aside0.mk ((by rw [hg]; exact (below_size (bU_ HB.out)) : w.heap.size ≤ gb125)); have n7_ := Aside0.mk ((by rw [hg]; exact Nat.ne_of_lt (blk_lt (g := gb113) (o := .cells #[.int .i64 t102, .int .i64 t103, .int .i64 t104, .int .i64 t105, .string t106, .string t107, .slice Ao18 t108.length co18] 25 (0, 0)) (by (with_reducible repeat first | apply pN_ | apply pD_ | apply pA_); exact BK113.out)) : gb113 ≠ gb125)); have n8_ := Aside0.mk ((by rw [hg]; exact Nat.ne_of_gt (blk_lt (g := gb113) (o := .cells #[.int .i64 t102, .int .i64 t103, .int .i64 t104, .int .i64 t105, .string t106, .string t107, .slice Ao18 t108.length co18] 25 (0, 0)) (by (with_reducible repeat first | apply pN_ | apply pD_ | apply pA_); exact BK113.out)) : gb125 ≠ gb113)); clear HO110; clear HO122; clear BK113; clear HB; have HO110 := n0_; have HO122 := n1_; have BK113 := n2_; have HB := n3_; have BK125 := n4_; have GW125 := n5_; have GE125 := n6_; have NB113_125 := n7_; have NB125_113 := n8_; clear n0_ n1_ n2_ n3_ n4_ n5_ n6_ n7_ n8_; clear hb hbox hg; have hnb21 := NB125_113.out; have hnc21 := NB113_125.out; have hcz22_0 : w20.cell? ⟨gb125, 0, none⟩ = some (.int .i64 0) := (blk_cell BK125.out 0).trans rfl; have hcz22_1 : w20.cell? ⟨gb125, 1, none⟩ = some (.int .i64 0) := (blk_cell BK125.out 1).trans rfl; have hcz22_2 : w20.cell? ⟨gb125, 2, none⟩ = some (.int .i64 0) := (blk_cell BK125.out 2).trans rfl; have hcz22_3 : w20.cell? ⟨gb125, 3, none⟩ = some (.int .i64 0) := (blk_cell BK125.out 3).trans rfl; have hcz22_4 : w20.cell? ⟨gb125, 4, none⟩ = some (.string (⟨#[]⟩ : ByteArray)) := (blk_cell BK125.out 4).trans rfl; have hcz22_5 : w20.cell? ⟨gb125, 5, none⟩ = some (.string (⟨#[]⟩ : ByteArray)) := (blk_cell BK125.out 5).trans rfl; have hcz22_6 : w20.cell? ⟨gb125, 6, none⟩ = some (.slice none 0 0) := (blk_cell BK125.out 6).trans rfl; have hfz22_0 := blk_frozen BK125.out 0; have hfz22_1 := blk_frozen BK125.out 1; have hfz22_2 := blk_frozen BK125.out 2; have hfz22_3 := blk_frozen BK125.out 3; have hfz22_4 := blk_frozen BK125.out 4; have hfz22_5 := blk_frozen BK125.out 5; have hfz22_6 := blk_frozen BK125.out 6; obtain ⟨Ao23, co23, eo23⟩ := Kd.R_slice HO122.out; subst eo23; have hcz24_0 : w20.cell? ⟨gb113, 0, none⟩ = some (.int .i64 t102) := (blk_cell BK113.out 0).trans rfl; have hcz24_1 : w20.cell? ⟨gb113, 1, none⟩ = some (.int .i64 t103) := (blk_cell BK113.out 1).trans rfl; have hcz24_2 : w20.cell? ⟨gb113, 2, none⟩ = some (.int .i64 t104) := (blk_cell BK113.out 2).trans rfl; have hcz24_3 : w20.cell? ⟨gb113, 3, none⟩ = some (.int .i64 t105) := (blk_cell BK113.out 3).trans rfl; have hcz24_4 : w20.cell? ⟨gb113, 4, none⟩ = some (.string t106) := (blk_cell BK113.out 4).trans rfl; have hcz24_5 : w20.cell? ⟨gb113, 5, none⟩ = some (.string t107) := (blk_cell BK113.out 5).trans rfl; have hcz24_6 : w20.cell? ⟨gb113, 6, none⟩ = some (.slice Ao18 t108.length co18) := (blk_cell BK113.out 6).trans rfl; have hfz24_0 := blk_frozen BK113.out 0; have hfz24_1 := blk_frozen BK113.out 1; have hfz24_2 := blk_frozen BK113.out 2; have hfz24_3 := blk_frozen BK113.out 3; have hfz24_4 := blk_frozen BK113.out 4; have hfz24_5 := blk_frozen BK113.out 5; have hfz24_6 := blk_frozen BK113.out 6) | ((with_reducible refine gate_callee (f := 16) rfl ?_); refine gL_ (some 47) rfl rfl Try.func16 (by kernel_rfl) rfl #[.agg #[.int .i64 t102, .int .i64 t103, .int .i64 t104, .int .i64 t105, .string t106, .string t107, .slice Ao18 t108.length co18], .string t111] rfl ?_; (with_reducible refine (ipsix_Put.calls kj3 t102 t103 t104 t105 t106 t107 _ _ t108 t111 t127 t128 _ ?side1 ?side2 A13.out).mono ?_); (case side1 => refine (Kd.R_reads' (e := 49) (base := w.heap.size) (ok := fun k_ => (True ∧ some k_ ≠ (.slice Ao23 t120.length co23 : Value).ownBlock)) (n := t108.length) (c := co18) ?_).2.2; exact (by (with_reducible repeat first | apply Kd.R_alloc | apply Kd.R_drewN | apply Kd.R_drew); exact (Kd.R_mono (Kd.R_far (p := ⟨gb125, 6, none⟩) (Kd.R_far (p := ⟨gb125, 5, none⟩) (Kd.R_far (p := ⟨gb125, 4, none⟩) (Kd.R_far (p := ⟨gb125, 3, none⟩) (Kd.R_far (p := ⟨gb125, 2, none⟩) (Kd.R_far (p := ⟨gb125, 1, none⟩) (Kd.R_far (p := ⟨gb125, 0, none⟩) (Kd.R_types HO110.out BK125.out (by decide)) (fun _ hk => hk.2) (.int .i64 t114)) (fun _ hk => hk.2) (.int .i64 t115)) (fun _ hk => hk.2) (.int .i64 t116)) (fun _ hk => hk.2) (.int .i64 t117)) (fun _ hk => hk.2) (.string t118)) (fun _ hk => hk.2) (.string t119)) (fun _ hk => hk.2) (.slice Ao23 t120.length co23)) (fun _ h_ => h_.1)))); (case side2 => exact (Kd.R_reads' HO110.out).2.1); rintro e w25 ⟨rfl, hb⟩; refine ⟨_, rfl, ?_⟩; have n0_ := Aside0.mk (Kd.R_below (by (with_reducible repeat first | apply Kd.R_alloc | apply Kd.R_drewN | apply Kd.R_drew); exact (Kd.R_mono (Kd.R_far (p := ⟨gb125, 6, none⟩) (Kd.R_far (p := ⟨gb125, 5, none⟩) (Kd.R_far (p := ⟨gb125, 4, none⟩) (Kd.R_far (p := ⟨gb125, 3, none⟩) (Kd.R_far (p := ⟨gb125, 2, none⟩) (Kd.R_far (p := ⟨gb125, 1, none⟩) (Kd.R_far (p := ⟨gb125, 0, none⟩) (Kd.R_types HO110.out BK125.out (by decide)) (fun _ hk => hk.2) (.int .i64 t114)) (fun _ hk => hk.2) (.int .i64 t115)) (fun _ hk => hk.2) (.int .i64 t116)) (fun _ hk => hk.2) (.int .i64 t117)) (fun _ hk => hk.2) (.string t118)) (fun _ hk => hk.2) (.string t119)) (fun _ hk => hk.2) (.slice Ao23 t120.length co23)) (fun _ h_ => h_.1))) hb); have n1_ := Aside0.mk (Kd.R_below (by (with_reducible repeat first | apply Kd.R_alloc | apply Kd.R_drewN | apply Kd.R_drew); exact (Kd.R_mono (Kd.R_far (p := ⟨gb125, 6, none⟩) (Kd.R_far (p := ⟨gb125, 5, none⟩) (Kd.R_far (p := ⟨gb125, 4, none⟩) (Kd.R_far (p := ⟨gb125, 3, none⟩) (Kd.R_far (p := ⟨gb125, 2, none⟩) (Kd.R_far (p := ⟨gb125, 1, none⟩) (Kd.R_far (p := ⟨gb125, 0, none⟩) (Kd.R_types HO122.out BK125.out (by decide)) (fun _ hk => hk.2) (.int .i64 t114)) (fun _ hk => hk.2) (.int .i64 t115)) (fun _ hk => hk.2) (.int .i64 t116)) (fun _ hk => hk.2) (.int .i64 t117)) (fun _ hk => hk.2) (.string t118)) (fun _ hk => hk.2) (.string t119)) (fun _ hk => hk.2) (.slice Ao23 t120.length co23)) (fun _ h_ => h_.1))) hb); have n2_ := Aside0.mk (blk_below (g := gb113) (o := .cells #[.int .i64 t102, .int .i64 t103, .int .i64 t104, .int .i64 t105, .string t106, .string t107, .slice Ao18 t108.length co18] 25 (0, 0)) (by (with_reducible repeat first | apply pN_ | apply pD_ | apply pA_); refine blk_far ?_ NB113_125.out _; (with_reducible repeat first | apply pN_ | apply pD_ | apply pA_); refine blk_far ?_ NB113_125.out _; (with_reducible repeat first | apply pN_ | apply pD_ | apply pA_); refine blk_far ?_ NB113_125.out _; (with_reducible repeat first | apply pN_ | apply pD_ | apply pA_); refine blk_far ?_ NB113_125.out _; (with_reducible repeat first | apply pN_ | apply pD_ | apply pA_); refine blk_far ?_ NB113_125.out _; (with_reducible repeat first | apply pN_ | apply pD_ | apply pA_); refine blk_far ?_ NB113_125.out _; (with_reducible repeat first | apply pN_ | apply pD_ | apply pA_); refine blk_far ?_ NB113_125.out _; (with_reducible repeat first | apply pN_ | apply pD_ | apply pA_); exact BK113.out) hb); have n3_ := Aside0.mk (blk_below (g := gb125) (o := .cells #[.int .i64 t114, .int .i64 t115, .int .i64 t116, .int .i64 t117, .string t118, .string t119, .slice Ao23 t120.length co23] 25 (0, 0)) (by (with_reducible repeat first | apply pN_ | apply pD_ | apply pA_); refine blk_put (cs := #[.int .i64 t114, .int .i64 t115, .int .i64 t116, .int .i64 t117, .string t118, .string t119, .slice none 0 0]) ?_ 6 _ rfl; (with_reducible repeat first | apply pN_ | apply pD_ | apply pA_); refine blk_put (cs := #[.int .i64 t114, .int .i64 t115, .int .i64 t116, .int .i64 t117, .string t118, .string (⟨#[]⟩ : ByteArray), .slice none 0 0]) ?_ 5 _ rfl; (with_reducible repeat first | apply pN_ | apply pD_ | apply pA_); refine blk_put (cs := #[.int .i64 t114, .int .i64 t115, .int .i64 t116, .int .i64 t117, .string (⟨#[]⟩ : ByteArray), .string (⟨#[]⟩ : ByteArray), .slice none 0 0]) ?_ 4 _ rfl; (with_reducible repeat first | apply pN_ | apply pD_ | apply pA_); refine blk_put (cs := #[.int .i64 t114, .int .i64 t115, .int .i64 t116, .int .i64 0, .string (⟨#[]⟩ : ByteArray), .string (⟨#[]⟩ : ByteArray), .slice none 0 0]) ?_ 3 _ rfl; (with_reducible repeat first | apply pN_ | apply pD_ | apply pA_); refine blk_put (cs := #[.int .i64 t114, .int .i64 t115, .int .i64 0, .int .i64 0, .string (⟨#[]⟩ : ByteArray), .string (⟨#[]⟩ : ByteArray), .slice none 0 0]) ?_ 2 _ rfl; (with_reducible repeat first | apply pN_ | apply pD_ | apply pA_); refine blk_put (cs := #[.int .i64 t114, .int .i64 0, .int .i64 0, .int .i64 0, .string (⟨#[]⟩ : ByteArray), .string (⟨#[]⟩ : ByteArray), .slice none 0 0]) ?_ 1 _ rfl; (with_reducible repeat first | apply pN_ | apply pD_ | apply pA_); refine blk_put (cs := #[.int .i64 0, .int .i64 0, .int .i64 0, .int .i64 0, .string (⟨#[]⟩ : ByteArray), .string (⟨#[]⟩ : ByteArray), .slice none 0 0]) ?_ 0 _ rfl; (with_reducible repeat first | apply pN_ | apply pD_ | apply pA_); exact BK125.out) hb); have n4_ := Aside0.mk (below_step (bU_ HB.out) hb); clear HO110; clear HO122; clear BK113; clear BK125; clear HB; have HO110 := n0_; have HO122 := n1_; have BK113 := n2_; have BK125 := n3_; have HB := n4_; clear n0_ n1_ n2_ n3_ n4_; (try clear hb); (try clear hb2); (try clear hk); (try clear hi)))
      (try simp only [Act.put, List.setIfInBounds_toArray, List.set_cons_zero, List.set_cons_succ])
      go_cut [68] (fun v68 wc => ∃ (kq : Nat) (x68_13 : Bool), v68 = .bool x68_13 ∧ Aside0 (rillmeterlaw07_IpsixTrail.j1 kq a0 a2 t127 x68_13 = some r) ∧ Aside0 (kq ≤ kj3) ∧ Aside0 (Kd.R k49 49 wc w.heap.size (fun k_ => some k_ ≠ ((.slice Ao23 t120.length co23) : Value).ownBlock) (.slice Ao18 t108.length co18) t108) ∧ Aside0 (Kd.R k49 49 wc w.heap.size (fun k_ => some k_ ≠ ((.slice Ao18 t108.length co18) : Value).ownBlock) (.slice Ao23 t120.length co23) t120) ∧ Aside0 (wc.heap[gb113]? = some (.cells #[.int .i64 t102, .int .i64 t103, .int .i64 t104, .int .i64 t105, .string t106, .string t107, (.slice Ao18 t108.length co18)] 25 (0, 0))) ∧ Aside0 (wc.heap[gb125]? = some (.cells #[.int .i64 t114, .int .i64 t115, .int .i64 t116, .int .i64 t117, .string t118, .string t119, (.slice Ao23 t120.length co23)] 25 (0, 0))) ∧ Aside0 (Below w.heap.size w wc))
      case first =>
       have H := HC14.out
       clear HC14
       replace H := Option.bind_eq_some_iff.mp H
       obtain ⟨⟨t129, t130, t131, t132, t133, t134, t135⟩, A260, H⟩ := H
       replace H : ((rillmeterlaw07_ref.f kj3 t102 t103 t104 t105 t106 t107 t108).bind fun bt138 => ((rillmeterref07_Equal.f kj3 t129 t130 t131 t132 t133 t134 t135 bt138.1 bt138.2.1 bt138.2.2.1 bt138.2.2.2.1 bt138.2.2.2.2.1 bt138.2.2.2.2.2.1 bt138.2.2.2.2.2.2).bind fun t147 => (if t147 = true then (if t123.toList = t111.toList then (if t124 = 0 then (rillmeterlaw07_IpsixTrail.j1 kj3 a0 a2 t127 (t128 != 0)) else (rillmeterlaw07_IpsixTrail.j1 kj3 a0 a2 t127 true)) else (rillmeterlaw07_IpsixTrail.j1 kj3 a0 a2 t127 true)) else (rillmeterlaw07_IpsixTrail.j1 kj3 a0 a2 t127 true)))) = some r := H
       have A26 := Aside0.mk A260
       clear A260
       replace H := Option.bind_eq_some_iff.mp H
       obtain ⟨⟨t138, t139, t140, t141, t142, t143, t144⟩, A270, H⟩ := H
       replace H : ((rillmeterref07_Equal.f kj3 t129 t130 t131 t132 t133 t134 t135 t138 t139 t140 t141 t142 t143 t144).bind fun t147 => (if t147 = true then (if t123.toList = t111.toList then (if t124 = 0 then (rillmeterlaw07_IpsixTrail.j1 kj3 a0 a2 t127 (t128 != 0)) else (rillmeterlaw07_IpsixTrail.j1 kj3 a0 a2 t127 true)) else (rillmeterlaw07_IpsixTrail.j1 kj3 a0 a2 t127 true)) else (rillmeterlaw07_IpsixTrail.j1 kj3 a0 a2 t127 true))) = some r := H
       have A27 := Aside0.mk A270
       clear A270
       replace H := Option.bind_eq_some_iff.mp H
       obtain ⟨t147, A280, H⟩ := H
       replace H : (if t147 = true then (if t123.toList = t111.toList then (if t124 = 0 then (rillmeterlaw07_IpsixTrail.j1 kj3 a0 a2 t127 (t128 != 0)) else (rillmeterlaw07_IpsixTrail.j1 kj3 a0 a2 t127 true)) else (rillmeterlaw07_IpsixTrail.j1 kj3 a0 a2 t127 true)) else (rillmeterlaw07_IpsixTrail.j1 kj3 a0 a2 t127 true)) = some r := H
       have A28 := Aside0.mk A280
       clear A280
       by_cases c29 : t147 = true
       ·subst c29
        have H1 : (if t123.toList = t111.toList then (if t124 = 0 then (rillmeterlaw07_IpsixTrail.j1 kj3 a0 a2 t127 (t128 != 0)) else (rillmeterlaw07_IpsixTrail.j1 kj3 a0 a2 t127 true)) else (rillmeterlaw07_IpsixTrail.j1 kj3 a0 a2 t127 true)) = some r := by rw [if_pos rfl] at H; exact H
        clear H
        have H := H1
        clear H1
        by_cases c30 : t123.toList = t111.toList
        ·rw [if_pos c30] at H
         have c30b0 : (t123.toList == t111.toList) = true := beq_iff_eq.mpr c30
         have c30b1 : (t123.toList != t111.toList) = false := bne_eq_false_iff_eq.mpr c30
         clear c30
         (first | rw [c30b0] | (simp only [i64_w, i32_w]; rw [c30b0]) | skip)
         by_cases c31 : t124 = 0
         ·rw [if_pos c31] at H
          have c31b0 : (t124 == 0) = true := beq_iff_eq.mpr c31
          have c31b1 : (t124 != 0) = false := bne_eq_false_iff_eq.mpr c31
          clear c31
          have H' := Aside0.mk H
          clear H
          try go_wp2
          have n0_ := Aside0.mk (Kd.R_drew HO110.out)
          have n1_ := Aside0.mk (Kd.R_drew HO122.out)
          have n2_ := Aside0.mk (blk_drew BK113.out)
          have n3_ := Aside0.mk (blk_drew BK125.out)
          have n4_ := Aside0.mk (below_drew1 HB.out)
          clear HO110
          clear HO122
          clear BK113
          clear BK125
          clear HB
          have HO110 := n0_
          have HO122 := n1_
          have BK113 := n2_
          have BK125 := n3_
          have HB := n4_
          clear n0_ n1_ n2_ n3_ n4_
          refine start_ (n := 19) (S := fun w' => w'.cell? ⟨gb125, 0, none⟩ = some (.int .i64 t114) ∧ w'.cell? ⟨gb125, 1, none⟩ = some (.int .i64 t115) ∧ w'.cell? ⟨gb125, 2, none⟩ = some (.int .i64 t116) ∧ w'.cell? ⟨gb125, 3, none⟩ = some (.int .i64 t117) ∧ w'.cell? ⟨gb125, 4, none⟩ = some (.string t118) ∧ w'.cell? ⟨gb125, 5, none⟩ = some (.string t119) ∧ w'.cell? ⟨gb125, 6, none⟩ = some (.slice Ao23 t120.length co23) ∧ w'.cell? ⟨gb113, 0, none⟩ = some (.int .i64 t102) ∧ w'.cell? ⟨gb113, 1, none⟩ = some (.int .i64 t103) ∧ w'.cell? ⟨gb113, 2, none⟩ = some (.int .i64 t104) ∧ w'.cell? ⟨gb113, 3, none⟩ = some (.int .i64 t105) ∧ w'.cell? ⟨gb113, 4, none⟩ = some (.string t106) ∧ w'.cell? ⟨gb113, 5, none⟩ = some (.string t107) ∧ w'.cell? ⟨gb113, 6, none⟩ = some (.slice Ao18 t108.length co18)) (ds := []) #[false, false, false, false, false, false, false, false, false, false, false, false, false, false, false, false, false, false, false] (by kernel_rfl) rfl rfl ⟨(blk_cell BK125.out 0).trans rfl, (blk_cell BK125.out 1).trans rfl, (blk_cell BK125.out 2).trans rfl, (blk_cell BK125.out 3).trans rfl, (blk_cell BK125.out 4).trans rfl, (blk_cell BK125.out 5).trans rfl, (blk_cell BK125.out 6).trans rfl, (blk_cell BK113.out 0).trans rfl, (blk_cell BK113.out 1).trans rfl, (blk_cell BK113.out 2).trans rfl, (blk_cell BK113.out 3).trans rfl, (blk_cell BK113.out 4).trans rfl, (blk_cell BK113.out 5).trans rfl, (blk_cell BK113.out 6).trans rfl⟩ (fun hHeld => ?_); refine with_tabW rillmeterlaw07_IpsixTrail.tab8 rillmeterlaw07_IpsixTrail.bits8 (fun HT_ HW_ => ?_)
          generalize w25.drew = w32 at HO110 HO122 BK113 BK125 HB hHeld ⊢
          refine take_ (i := 0) (N := some 50) (v := ?_) (a' := ?_) #[true, false, false, false, false, false, false, false, false, false, false, false, false, false, false, false, false, false, false] rfl rfl (take_ofW HT_.out HW_.out (by kernel_rfl)) (fun _ _ _ h => h) (Or.inl ⟨by rfl, ?_⟩) hHeld ?_ ?_
          rotate_left
          ·rintro w' ⟨s0, s1, s2, s3, s4, s5, s6, s7, s8, s9, s10, s11, s12, s13⟩
           go_simp
           with_reducible rfl
          rotate_left
          ·simp only [Act.put, List.setIfInBounds_toArray, List.set_cons_zero, List.set_cons_succ, i64_w, i32_w]
           rfl
          refine take_ (i := 2) (N := some 52) (v := ?_) (a' := ?_) #[true, false, true, false, false, false, false, false, false, false, false, false, false, false, false, false, false, false, false] rfl rfl (take_ofW HT_.out HW_.out (by kernel_rfl)) (fun _ _ _ h => h) (Or.inl ⟨by rfl, ?_⟩) hHeld ?_ ?_
          rotate_left
          ·rintro w' ⟨s0, s1, s2, s3, s4, s5, s6, s7, s8, s9, s10, s11, s12, s13⟩
           go_simp
           with_reducible rfl
          rotate_left
          ·simp only [Act.put, List.setIfInBounds_toArray, List.set_cons_zero, List.set_cons_succ, i64_w, i32_w]
           rfl
          refine one_ (i := 1) (N := some 51) #[true, true, true, false, false, false, false, false, false, false, false, false, false, false, false, false, false, false, false] rfl rfl (one_of HT_.out (by kernel_rfl)) (by decide) (fun K hK => ?_)
          refine goes_ Try.func12 (by kernel_rfl) rfl #[.agg #[.int .i64 t114, .int .i64 t115, .int .i64 t116, .int .i64 t117, .string t118, .string t119, .slice Ao23 t120.length co23]] (by rfl) rfl rfl (by (try simp only [List.map_toArray, List.map_cons, List.map_nil]); first | done | rfl | (simp only [List.length_drop, List.length_take]; rfl) | (simp only [ByteArray.size_append, ByteArray.size_extract, Nat.sub_zero, Int.natCast_add]; rfl) | (simp [ByteArray.size_append]; done)) ?_
          with_reducible refine (rillmeterlaw07_ref.calls kj3 t114 t115 t116 t117 t118 t119 _ _ t120 t129 t130 t131 t132 t133 t134 t135 _ ?side1 ?side2 A26.out).mono ?_
          (case side1 => repeat (first | exact (Kd.R_reads' HO122.out).2.2 | (with_reducible refine Kd.C_alloc ?_ _) | (with_reducible refine Kd.C_drewN ?_ _) | (with_reducible refine Kd.C_drew ?_)))
          (case side2 => exact (Kd.R_reads' HO122.out).2.1)
          rintro e w33 ⟨v136, rfl, ho0, hb⟩
          refine ⟨_, rfl, ?_⟩
          have n0_ := Aside0.mk (Kd.R_below (by (with_reducible repeat first | apply Kd.R_alloc | apply Kd.R_drewN | apply Kd.R_drew); exact HO110.out) hb)
          have n1_ := Aside0.mk (Kd.R_below (by (with_reducible repeat first | apply Kd.R_alloc | apply Kd.R_drewN | apply Kd.R_drew); exact HO122.out) hb)
          have n2_ := Aside0.mk (Kd.R_lower ho0 (below_size (bU_ HB.out)))
          have n3_ := Aside0.mk (blk_below (g := gb113) (o := .cells #[.int .i64 t102, .int .i64 t103, .int .i64 t104, .int .i64 t105, .string t106, .string t107, .slice Ao18 t108.length co18] 25 (0, 0)) (by (with_reducible repeat first | apply pN_ | apply pD_ | apply pA_); exact BK113.out) hb)
          have n4_ := Aside0.mk (blk_below (g := gb125) (o := .cells #[.int .i64 t114, .int .i64 t115, .int .i64 t116, .int .i64 t117, .string t118, .string t119, .slice Ao23 t120.length co23] 25 (0, 0)) (by (with_reducible repeat first | apply pN_ | apply pD_ | apply pA_); exact BK125.out) hb)
          have n5_ := Aside0.mk (below_step (bU_ HB.out) hb)
          clear HO110
          clear HO122
          clear BK113
          clear BK125
          clear HB
          have HO110 := n0_
          have HO122 := n1_
          have HO137 := n2_
          have BK113 := n3_
          have BK125 := n4_
          have HB := n5_
          clear n0_ n1_ n2_ n3_ n4_ n5_
          (try clear hb)
          (try clear hb2)
          (try clear hk)
          (try clear hi)
          (try clear ho0)
          refine hK.out _ _ ⟨(blk_cell BK125.out 0).trans rfl, (blk_cell BK125.out 1).trans rfl, (blk_cell BK125.out 2).trans rfl, (blk_cell BK125.out 3).trans rfl, (blk_cell BK125.out 4).trans rfl, (blk_cell BK125.out 5).trans rfl, (blk_cell BK125.out 6).trans rfl, (blk_cell BK113.out 0).trans rfl, (blk_cell BK113.out 1).trans rfl, (blk_cell BK113.out 2).trans rfl, (blk_cell BK113.out 3).trans rfl, (blk_cell BK113.out 4).trans rfl, (blk_cell BK113.out 5).trans rfl, (blk_cell BK113.out 6).trans rfl⟩ (fun hHeld => ?_)
          clear hK K
          refine norm_ (a' := ?_) ?_ ?_
          rotate_left
          ·show Act.put _ (some 51) _ = _
           simp only [Act.put, List.setIfInBounds_toArray, List.set_cons_zero, List.set_cons_succ, i64_w, i32_w]
           rfl
          refine one_ (i := 3) (N := some 53) #[true, true, true, true, false, false, false, false, false, false, false, false, false, false, false, false, false, false, false] rfl rfl (one_of HT_.out (by kernel_rfl)) (by decide) (fun K hK => ?_)
          refine goes_ Try.func12 (by kernel_rfl) rfl #[.agg #[.int .i64 t102, .int .i64 t103, .int .i64 t104, .int .i64 t105, .string t106, .string t107, .slice Ao18 t108.length co18]] (by rfl) rfl rfl (by (try simp only [List.map_toArray, List.map_cons, List.map_nil]); first | done | rfl | (simp only [List.length_drop, List.length_take]; rfl) | (simp only [ByteArray.size_append, ByteArray.size_extract, Nat.sub_zero, Int.natCast_add]; rfl) | (simp [ByteArray.size_append]; done)) ?_
          with_reducible refine (rillmeterlaw07_ref.calls kj3 t102 t103 t104 t105 t106 t107 _ _ t108 t138 t139 t140 t141 t142 t143 t144 _ ?side1 ?side2 A27.out).mono ?_
          (case side1 => repeat (first | exact (Kd.R_reads' HO110.out).2.2 | (with_reducible refine Kd.C_alloc ?_ _) | (with_reducible refine Kd.C_drewN ?_ _) | (with_reducible refine Kd.C_drew ?_)))
          (case side2 => exact (Kd.R_reads' HO110.out).2.1)
          rintro e w34 ⟨v145, rfl, ho0, hb⟩
          refine ⟨_, rfl, ?_⟩
          have n0_ := Aside0.mk (Kd.R_below (by (with_reducible repeat first | apply Kd.R_alloc | apply Kd.R_drewN | apply Kd.R_drew); exact HO110.out) hb)
          have n1_ := Aside0.mk (Kd.R_below (by (with_reducible repeat first | apply Kd.R_alloc | apply Kd.R_drewN | apply Kd.R_drew); exact HO122.out) hb)
          have n2_ := Aside0.mk (Kd.R_elder' (by (with_reducible repeat first | apply Kd.R_alloc | apply Kd.R_drewN | apply Kd.R_drew); exact HO137.out) (Kd.R_base ho0) hb)
          have n3_ := Aside0.mk (Kd.R_lower (Kd.R_new' ho0 (Kd.R_lt (by (with_reducible repeat first | apply Kd.R_alloc | apply Kd.R_drewN | apply Kd.R_drew); exact HO137.out))) (below_size (bU_ HB.out)))
          have n4_ := Aside0.mk (blk_below (g := gb113) (o := .cells #[.int .i64 t102, .int .i64 t103, .int .i64 t104, .int .i64 t105, .string t106, .string t107, .slice Ao18 t108.length co18] 25 (0, 0)) (by (with_reducible repeat first | apply pN_ | apply pD_ | apply pA_); exact BK113.out) hb)
          have n5_ := Aside0.mk (blk_below (g := gb125) (o := .cells #[.int .i64 t114, .int .i64 t115, .int .i64 t116, .int .i64 t117, .string t118, .string t119, .slice Ao23 t120.length co23] 25 (0, 0)) (by (with_reducible repeat first | apply pN_ | apply pD_ | apply pA_); exact BK125.out) hb)
          have n6_ := Aside0.mk (below_step (bU_ HB.out) hb)
          clear HO110
          clear HO122
          clear HO137
          clear BK113
          clear BK125
          clear HB
          have HO110 := n0_
          have HO122 := n1_
          have HO137 := n2_
          have HO146 := n3_
          have BK113 := n4_
          have BK125 := n5_
          have HB := n6_
          clear n0_ n1_ n2_ n3_ n4_ n5_ n6_
          (try clear hb)
          (try clear hb2)
          (try clear hk)
          (try clear hi)
          (try clear ho0)
          obtain ⟨Ao35, co35, eo35⟩ := Kd.R_slice HO137.out
          (first | subst eo35 | (injection eo35 with f1_ f2_ f3_; have f4_ := f1_.symm; have f5_ := f3_.symm; clear f1_ f2_ f3_; subst f4_; subst f5_))
          obtain ⟨Ao36, co36, eo36⟩ := Kd.R_slice HO146.out
          (first | subst eo36 | (injection eo36 with f1_ f2_ f3_; have f4_ := f1_.symm; have f5_ := f3_.symm; clear f1_ f2_ f3_; subst f4_; subst f5_))
          refine hK.out _ _ ⟨(blk_cell BK125.out 0).trans rfl, (blk_cell BK125.out 1).trans rfl, (blk_cell BK125.out 2).trans rfl, (blk_cell BK125.out 3).trans rfl, (blk_cell BK125.out 4).trans rfl, (blk_cell BK125.out 5).trans rfl, (blk_cell BK125.out 6).trans rfl, (blk_cell BK113.out 0).trans rfl, (blk_cell BK113.out 1).trans rfl, (blk_cell BK113.out 2).trans rfl, (blk_cell BK113.out 3).trans rfl, (blk_cell BK113.out 4).trans rfl, (blk_cell BK113.out 5).trans rfl, (blk_cell BK113.out 6).trans rfl⟩ (fun hHeld => ?_)
          clear hK K
          refine norm_ (a' := ?_) ?_ ?_
          rotate_left
          ·show Act.put _ (some 53) _ = _
           simp only [Act.put, List.setIfInBounds_toArray, List.set_cons_zero, List.set_cons_succ, i64_w, i32_w]
           rfl
          refine one_ (i := 4) (N := some 54) #[true, true, true, true, true, false, false, false, false, false, false, false, false, false, false, false, false, false, false] rfl rfl (one_of HT_.out (by kernel_rfl)) (by decide) (fun K hK => ?_)
          refine goes_ Try.func11 (by kernel_rfl) rfl #[.agg #[.int .i64 t129, .int .i64 t130, .int .i64 t131, .int .i64 t132, .string t133, .string t134, .slice Ao35 t135.length co35], .agg #[.int .i64 t138, .int .i64 t139, .int .i64 t140, .int .i64 t141, .string t142, .string t143, .slice Ao36 t144.length co36]] (by rfl) rfl rfl (by (try simp only [List.map_toArray, List.map_cons, List.map_nil]); first | done | rfl | (simp only [List.length_drop, List.length_take]; rfl) | (simp only [ByteArray.size_append, ByteArray.size_extract, Nat.sub_zero, Int.natCast_add]; rfl) | (simp [ByteArray.size_append]; done)) ?_
          with_reducible refine (rillmeterref07_Equal.calls kj3 t129 t130 t131 t132 t133 t134 _ _ t135 t138 t139 t140 t141 t142 t143 _ _ t144 true _ ?side1 ?side2 ?side3 ?side4 A28.out).mono ?_
          (case side1 => repeat (first | exact (Kd.R_reads' HO137.out).2.2 | (with_reducible refine Kd.C_alloc ?_ _) | (with_reducible refine Kd.C_drewN ?_ _) | (with_reducible refine Kd.C_drew ?_)))
          (case side2 => exact (Kd.R_reads' HO137.out).2.1)
          (case side3 => repeat (first | exact (Kd.R_reads' HO146.out).2.2 | (with_reducible refine Kd.C_alloc ?_ _) | (with_reducible refine Kd.C_drewN ?_ _) | (with_reducible refine Kd.C_drew ?_)))
          (case side4 => exact (Kd.R_reads' HO146.out).2.1)
          rintro e w37 ⟨rfl, hb⟩
          refine ⟨_, rfl, ?_⟩
          have n0_ := Aside0.mk (Kd.R_below (by (with_reducible repeat first | apply Kd.R_alloc | apply Kd.R_drewN | apply Kd.R_drew); exact HO110.out) hb)
          have n1_ := Aside0.mk (Kd.R_below (by (with_reducible repeat first | apply Kd.R_alloc | apply Kd.R_drewN | apply Kd.R_drew); exact HO122.out) hb)
          have n2_ := Aside0.mk (Kd.R_below (by (with_reducible repeat first | apply Kd.R_alloc | apply Kd.R_drewN | apply Kd.R_drew); exact HO137.out) hb)
          have n3_ := Aside0.mk (Kd.R_below (by (with_reducible repeat first | apply Kd.R_alloc | apply Kd.R_drewN | apply Kd.R_drew); exact HO146.out) hb)
          have n4_ := Aside0.mk (blk_below (g := gb113) (o := .cells #[.int .i64 t102, .int .i64 t103, .int .i64 t104, .int .i64 t105, .string t106, .string t107, .slice Ao18 t108.length co18] 25 (0, 0)) (by (with_reducible repeat first | apply pN_ | apply pD_ | apply pA_); exact BK113.out) hb)
          have n5_ := Aside0.mk (blk_below (g := gb125) (o := .cells #[.int .i64 t114, .int .i64 t115, .int .i64 t116, .int .i64 t117, .string t118, .string t119, .slice Ao23 t120.length co23] 25 (0, 0)) (by (with_reducible repeat first | apply pN_ | apply pD_ | apply pA_); exact BK125.out) hb)
          have n6_ := Aside0.mk (below_step (bU_ HB.out) hb)
          clear HO110
          clear HO122
          clear HO137
          clear HO146
          clear BK113
          clear BK125
          clear HB
          have HO110 := n0_
          have HO122 := n1_
          have HO137 := n2_
          have HO146 := n3_
          have BK113 := n4_
          have BK125 := n5_
          have HB := n6_
          clear n0_ n1_ n2_ n3_ n4_ n5_ n6_
          (try clear hb)
          (try clear hb2)
          (try clear hk)
          (try clear hi)
          refine hK.out _ _ ⟨(blk_cell BK125.out 0).trans rfl, (blk_cell BK125.out 1).trans rfl, (blk_cell BK125.out 2).trans rfl, (blk_cell BK125.out 3).trans rfl, (blk_cell BK125.out 4).trans rfl, (blk_cell BK125.out 5).trans rfl, (blk_cell BK125.out 6).trans rfl, (blk_cell BK113.out 0).trans rfl, (blk_cell BK113.out 1).trans rfl, (blk_cell BK113.out 2).trans rfl, (blk_cell BK113.out 3).trans rfl, (blk_cell BK113.out 4).trans rfl, (blk_cell BK113.out 5).trans rfl, (blk_cell BK113.out 6).trans rfl⟩ (fun hHeld => ?_)
          clear hK K
          refine norm_ (a' := ?_) ?_ ?_
          rotate_left
          ·show Act.put _ (some 54) _ = _
           simp only [Act.put, List.setIfInBounds_toArray, List.set_cons_zero, List.set_cons_succ, i64_w, i32_w]
           rfl
          refine pure_ (i := 5) (N := some 55) (v := ?_) (a' := ?_) #[true, true, true, true, true, true, false, false, false, false, false, false, false, false, false, false, false, false, false] rfl rfl (any_of HT_.out (by kernel_rfl)) (fun _ _ _ h => h) (Or.inl ⟨by rfl, ?_⟩) ?_ ?_
          rotate_left
          ·intro w'
           go_simp
           with_reducible rfl
          rotate_left
          ·simp only [Act.put, List.setIfInBounds_toArray, List.set_cons_zero, List.set_cons_succ, i64_w, i32_w]
           rfl
          refine pure_ (i := 6) (N := some 56) (v := ?_) (a' := ?_) #[true, true, true, true, true, true, true, false, false, false, false, false, false, false, false, false, false, false, false] rfl rfl (any_of HT_.out (by kernel_rfl)) (fun _ _ _ h => h) (Or.inl ⟨by rfl, ?_⟩) ?_ ?_
          rotate_left
          ·intro w'
           go_simp
           with_reducible rfl
          rotate_left
          ·simp only [Act.put, List.setIfInBounds_toArray, List.set_cons_zero, List.set_cons_succ, i64_w, i32_w]
           rfl
          refine pure_ (i := 7) (N := some 57) (v := ?_) (a' := ?_) #[true, true, true, true, true, true, true, true, false, false, false, false, false, false, false, false, false, false, false] rfl rfl (any_of HT_.out (by kernel_rfl)) (fun _ _ _ h => h) (Or.inl ⟨by rfl, ?_⟩) ?_ ?_
          rotate_left
          ·intro w'
           go_simp
           with_reducible rfl
          rotate_left
          ·simp only [Act.put, List.setIfInBounds_toArray, List.set_cons_zero, List.set_cons_succ, i64_w, i32_w]
           rfl
          refine pure_ (i := 8) (N := some 58) (v := ?_) (a' := ?_) #[true, true, true, true, true, true, true, true, true, false, false, false, false, false, false, false, false, false, false] rfl rfl (any_of HT_.out (by kernel_rfl)) (fun _ _ _ h => h) (Or.inl ⟨by rfl, ?_⟩) ?_ ?_
          rotate_left
          ·intro w'
           go_simp
           with_reducible rfl
          rotate_left
          ·simp only [Act.put, List.setIfInBounds_toArray, List.set_cons_zero, List.set_cons_succ, i64_w, i32_w]
           rfl
          refine pure_ (i := 9) (N := some 59) (v := ?_) (a' := ?_) #[true, true, true, true, true, true, true, true, true, true, false, false, false, false, false, false, false, false, false] rfl rfl (any_of HT_.out (by kernel_rfl)) (fun _ _ _ h => h) (Or.inl ⟨by rfl, ?_⟩) ?_ ?_
          rotate_left
          ·intro w'
           go_simp
           with_reducible rfl
          rotate_left
          ·simp only [Act.put, List.setIfInBounds_toArray, List.set_cons_zero, List.set_cons_succ, i64_w, i32_w]
           rfl
          refine pure_ (i := 10) (N := some 60) (v := ?_) (a' := ?_) #[true, true, true, true, true, true, true, true, true, true, true, false, false, false, false, false, false, false, false] rfl rfl (any_of HT_.out (by kernel_rfl)) (fun _ _ _ h => h) (Or.inl ⟨by rfl, ?_⟩) ?_ ?_
          rotate_left
          ·intro w'
           go_simp
           with_reducible rfl
          rotate_left
          ·simp only [Act.put, List.setIfInBounds_toArray, List.set_cons_zero, List.set_cons_succ, i64_w, i32_w]
           rfl
          refine pure_ (i := 11) (N := some 61) (v := ?_) (a' := ?_) #[true, true, true, true, true, true, true, true, true, true, true, true, false, false, false, false, false, false, false] rfl rfl (any_of HT_.out (by kernel_rfl)) (fun _ _ _ h => h) (Or.inl ⟨by rfl, ?_⟩) ?_ ?_
          rotate_left
          ·intro w'
           go_simp
           with_reducible rfl
          rotate_left
          ·simp only [Act.put, List.setIfInBounds_toArray, List.set_cons_zero, List.set_cons_succ, i64_w, i32_w]
           rfl
          refine pure_ (i := 12) (N := some 62) (v := ?_) (a' := ?_) #[true, true, true, true, true, true, true, true, true, true, true, true, true, false, false, false, false, false, false] rfl rfl (any_of HT_.out (by kernel_rfl)) (fun _ _ _ h => h) (Or.inl ⟨by rfl, ?_⟩) ?_ ?_
          rotate_left
          ·intro w'
           go_simp
           with_reducible rfl
          rotate_left
          ·simp only [Act.put, List.setIfInBounds_toArray, List.set_cons_zero, List.set_cons_succ, i64_w, i32_w]
           rfl
          refine pure_ (i := 13) (N := some 63) (v := ?_) (a' := ?_) #[true, true, true, true, true, true, true, true, true, true, true, true, true, true, false, false, false, false, false] rfl rfl (any_of HT_.out (by kernel_rfl)) (fun _ _ _ h => h) (Or.inl ⟨by rfl, ?_⟩) ?_ ?_
          rotate_left
          ·intro w'
           go_simp
           with_reducible rfl
          rotate_left
          ·simp only [Act.put, List.setIfInBounds_toArray, List.set_cons_zero, List.set_cons_succ, i64_w, i32_w]
           rfl
          refine pure_ (i := 14) (N := some 64) (v := ?_) (a' := ?_) #[true, true, true, true, true, true, true, true, true, true, true, true, true, true, true, false, false, false, false] rfl rfl (any_of HT_.out (by kernel_rfl)) (fun _ _ _ h => h) (Or.inl ⟨by rfl, ?_⟩) ?_ ?_
          rotate_left
          ·intro w'
           go_simp
           with_reducible rfl
          rotate_left
          ·simp only [Act.put, List.setIfInBounds_toArray, List.set_cons_zero, List.set_cons_succ, i64_w, i32_w]
           rfl
          refine pure_ (i := 15) (N := some 65) (v := ?_) (a' := ?_) #[true, true, true, true, true, true, true, true, true, true, true, true, true, true, true, true, false, false, false] rfl rfl (any_of HT_.out (by kernel_rfl)) (fun _ _ _ h => h) (Or.inl ⟨by rfl, ?_⟩) ?_ ?_
          rotate_left
          ·intro w'
           go_simp
           with_reducible rfl
          rotate_left
          ·simp only [Act.put, List.setIfInBounds_toArray, List.set_cons_zero, List.set_cons_succ, i64_w, i32_w]
           rfl
          refine pure_ (i := 16) (N := some 66) (v := ?_) (a' := ?_) #[true, true, true, true, true, true, true, true, true, true, true, true, true, true, true, true, true, false, false] rfl rfl (any_of HT_.out (by kernel_rfl)) (fun _ _ _ h => h) (Or.inl ⟨by rfl, ?_⟩) ?_ ?_
          rotate_left
          ·intro w'
           go_simp
           with_reducible rfl
          rotate_left
          ·simp only [Act.put, List.setIfInBounds_toArray, List.set_cons_zero, List.set_cons_succ, i64_w, i32_w]
           rfl
          refine pure_ (i := 17) (N := some 67) (v := ?_) (a' := ?_) #[true, true, true, true, true, true, true, true, true, true, true, true, true, true, true, true, true, true, false] rfl rfl (any_of HT_.out (by kernel_rfl)) (fun _ _ _ h => h) (Or.inl ⟨by rfl, ?_⟩) ?_ ?_
          rotate_left
          ·intro w'
           go_simp
           with_reducible rfl
          rotate_left
          ·simp only [Act.put, List.setIfInBounds_toArray, List.set_cons_zero, List.set_cons_succ, i64_w, i32_w]
           rfl
          refine pure_ (i := 18) (N := some 68) (v := ?_) (a' := ?_) #[true, true, true, true, true, true, true, true, true, true, true, true, true, true, true, true, true, true, true] rfl rfl (any_of HT_.out (by kernel_rfl)) (fun _ _ _ h => h) (Or.inl ⟨by rfl, ?_⟩) ?_ ?_
          rotate_left
          ·intro w'
           go_simp
           with_reducible rfl
          rotate_left
          ·simp only [Act.put, List.setIfInBounds_toArray, List.set_cons_zero, List.set_cons_succ, i64_w, i32_w]
           rfl
          refine done_ (done_of HT_.out (by kernel_rfl)) ?_
          try go_wp2
          go_meet
          case rel => exact ⟨_, ((t128 != 0)), (by first | rfl | (simp; done) | (simp [*]; done)), H', ⟨by have := HJ3.out; first | omega | exact Nat.le_refl _⟩, ⟨by (with_reducible repeat first | apply Kd.R_alloc | apply Kd.R_drewN | apply Kd.R_drew); exact Kd.R_mono HO110.out (fun _ hk => hk.2)⟩, ⟨by (with_reducible repeat first | apply Kd.R_alloc | apply Kd.R_drewN | apply Kd.R_drew); exact Kd.R_mono HO122.out (fun _ hk => hk.2)⟩, ⟨by (with_reducible repeat first | apply pN_ | apply pD_ | apply pA_); exact BK113.out⟩, ⟨by (with_reducible repeat first | apply pN_ | apply pD_ | apply pA_); exact BK125.out⟩, ⟨bU_ HB.out⟩⟩
         ·rw [if_neg c31] at H
          have c31b0 : (t124 == 0) = false := beq_eq_false_iff_ne.mpr c31
          have c31b1 : (t124 != 0) = true := bne_iff_ne.mpr c31
          have H' := Aside0.mk H
          clear H
          try go_wp2
          have n0_ := Aside0.mk (Kd.R_drew HO110.out)
          have n1_ := Aside0.mk (Kd.R_drew HO122.out)
          have n2_ := Aside0.mk (blk_drew BK113.out)
          have n3_ := Aside0.mk (blk_drew BK125.out)
          have n4_ := Aside0.mk (below_drew1 HB.out)
          clear HO110
          clear HO122
          clear BK113
          clear BK125
          clear HB
          have HO110 := n0_
          have HO122 := n1_
          have BK113 := n2_
          have BK125 := n3_
          have HB := n4_
          clear n0_ n1_ n2_ n3_ n4_
          refine start_ (n := 19) (S := fun w' => w'.cell? ⟨gb125, 0, none⟩ = some (.int .i64 t114) ∧ w'.cell? ⟨gb125, 1, none⟩ = some (.int .i64 t115) ∧ w'.cell? ⟨gb125, 2, none⟩ = some (.int .i64 t116) ∧ w'.cell? ⟨gb125, 3, none⟩ = some (.int .i64 t117) ∧ w'.cell? ⟨gb125, 4, none⟩ = some (.string t118) ∧ w'.cell? ⟨gb125, 5, none⟩ = some (.string t119) ∧ w'.cell? ⟨gb125, 6, none⟩ = some (.slice Ao23 t120.length co23) ∧ w'.cell? ⟨gb113, 0, none⟩ = some (.int .i64 t102) ∧ w'.cell? ⟨gb113, 1, none⟩ = some (.int .i64 t103) ∧ w'.cell? ⟨gb113, 2, none⟩ = some (.int .i64 t104) ∧ w'.cell? ⟨gb113, 3, none⟩ = some (.int .i64 t105) ∧ w'.cell? ⟨gb113, 4, none⟩ = some (.string t106) ∧ w'.cell? ⟨gb113, 5, none⟩ = some (.string t107) ∧ w'.cell? ⟨gb113, 6, none⟩ = some (.slice Ao18 t108.length co18)) (ds := []) #[false, false, false, false, false, false, false, false, false, false, false, false, false, false, false, false, false, false, false] (by kernel_rfl) rfl rfl ⟨(blk_cell BK125.out 0).trans rfl, (blk_cell BK125.out 1).trans rfl, (blk_cell BK125.out 2).trans rfl, (blk_cell BK125.out 3).trans rfl, (blk_cell BK125.out 4).trans rfl, (blk_cell BK125.out 5).trans rfl, (blk_cell BK125.out 6).trans rfl, (blk_cell BK113.out 0).trans rfl, (blk_cell BK113.out 1).trans rfl, (blk_cell BK113.out 2).trans rfl, (blk_cell BK113.out 3).trans rfl, (blk_cell BK113.out 4).trans rfl, (blk_cell BK113.out 5).trans rfl, (blk_cell BK113.out 6).trans rfl⟩ (fun hHeld => ?_); refine with_tabW rillmeterlaw07_IpsixTrail.tab8 rillmeterlaw07_IpsixTrail.bits8 (fun HT_ HW_ => ?_)
          generalize w25.drew = w38 at HO110 HO122 BK113 BK125 HB hHeld ⊢
          refine take_ (i := 0) (N := some 50) (v := ?_) (a' := ?_) #[true, false, false, false, false, false, false, false, false, false, false, false, false, false, false, false, false, false, false] rfl rfl (take_ofW HT_.out HW_.out (by kernel_rfl)) (fun _ _ _ h => h) (Or.inl ⟨by rfl, ?_⟩) hHeld ?_ ?_
          rotate_left
          ·rintro w' ⟨s0, s1, s2, s3, s4, s5, s6, s7, s8, s9, s10, s11, s12, s13⟩
           go_simp
           with_reducible rfl
          rotate_left
          ·simp only [Act.put, List.setIfInBounds_toArray, List.set_cons_zero, List.set_cons_succ, i64_w, i32_w]
           rfl
          refine take_ (i := 2) (N := some 52) (v := ?_) (a' := ?_) #[true, false, true, false, false, false, false, false, false, false, false, false, false, false, false, false, false, false, false] rfl rfl (take_ofW HT_.out HW_.out (by kernel_rfl)) (fun _ _ _ h => h) (Or.inl ⟨by rfl, ?_⟩) hHeld ?_ ?_
          rotate_left
          ·rintro w' ⟨s0, s1, s2, s3, s4, s5, s6, s7, s8, s9, s10, s11, s12, s13⟩
           go_simp
           with_reducible rfl
          rotate_left
          ·simp only [Act.put, List.setIfInBounds_toArray, List.set_cons_zero, List.set_cons_succ, i64_w, i32_w]
           rfl
          refine one_ (i := 1) (N := some 51) #[true, true, true, false, false, false, false, false, false, false, false, false, false, false, false, false, false, false, false] rfl rfl (one_of HT_.out (by kernel_rfl)) (by decide) (fun K hK => ?_)
          refine goes_ Try.func12 (by kernel_rfl) rfl #[.agg #[.int .i64 t114, .int .i64 t115, .int .i64 t116, .int .i64 t117, .string t118, .string t119, .slice Ao23 t120.length co23]] (by rfl) rfl rfl (by (try simp only [List.map_toArray, List.map_cons, List.map_nil]); first | done | rfl | (simp only [List.length_drop, List.length_take]; rfl) | (simp only [ByteArray.size_append, ByteArray.size_extract, Nat.sub_zero, Int.natCast_add]; rfl) | (simp [ByteArray.size_append]; done)) ?_
          with_reducible refine (rillmeterlaw07_ref.calls kj3 t114 t115 t116 t117 t118 t119 _ _ t120 t129 t130 t131 t132 t133 t134 t135 _ ?side1 ?side2 A26.out).mono ?_
          (case side1 => repeat (first | exact (Kd.R_reads' HO122.out).2.2 | (with_reducible refine Kd.C_alloc ?_ _) | (with_reducible refine Kd.C_drewN ?_ _) | (with_reducible refine Kd.C_drew ?_)))
          (case side2 => exact (Kd.R_reads' HO122.out).2.1)
          rintro e w39 ⟨v136, rfl, ho0, hb⟩
          refine ⟨_, rfl, ?_⟩
          have n0_ := Aside0.mk (Kd.R_below (by (with_reducible repeat first | apply Kd.R_alloc | apply Kd.R_drewN | apply Kd.R_drew); exact HO110.out) hb)
          have n1_ := Aside0.mk (Kd.R_below (by (with_reducible repeat first | apply Kd.R_alloc | apply Kd.R_drewN | apply Kd.R_drew); exact HO122.out) hb)
          have n2_ := Aside0.mk (Kd.R_lower ho0 (below_size (bU_ HB.out)))
          have n3_ := Aside0.mk (blk_below (g := gb113) (o := .cells #[.int .i64 t102, .int .i64 t103, .int .i64 t104, .int .i64 t105, .string t106, .string t107, .slice Ao18 t108.length co18] 25 (0, 0)) (by (with_reducible repeat first | apply pN_ | apply pD_ | apply pA_); exact BK113.out) hb)
          have n4_ := Aside0.mk (blk_below (g := gb125) (o := .cells #[.int .i64 t114, .int .i64 t115, .int .i64 t116, .int .i64 t117, .string t118, .string t119, .slice Ao23 t120.length co23] 25 (0, 0)) (by (with_reducible repeat first | apply pN_ | apply pD_ | apply pA_); exact BK125.out) hb)
          have n5_ := Aside0.mk (below_step (bU_ HB.out) hb)
          clear HO110
          clear HO122
          clear BK113
          clear BK125
          clear HB
          have HO110 := n0_
          have HO122 := n1_
          have HO137 := n2_
          have BK113 := n3_
          have BK125 := n4_
          have HB := n5_
          clear n0_ n1_ n2_ n3_ n4_ n5_
          (try clear hb)
          (try clear hb2)
          (try clear hk)
          (try clear hi)
          (try clear ho0)
          refine hK.out _ _ ⟨(blk_cell BK125.out 0).trans rfl, (blk_cell BK125.out 1).trans rfl, (blk_cell BK125.out 2).trans rfl, (blk_cell BK125.out 3).trans rfl, (blk_cell BK125.out 4).trans rfl, (blk_cell BK125.out 5).trans rfl, (blk_cell BK125.out 6).trans rfl, (blk_cell BK113.out 0).trans rfl, (blk_cell BK113.out 1).trans rfl, (blk_cell BK113.out 2).trans rfl, (blk_cell BK113.out 3).trans rfl, (blk_cell BK113.out 4).trans rfl, (blk_cell BK113.out 5).trans rfl, (blk_cell BK113.out 6).trans rfl⟩ (fun hHeld => ?_)
          clear hK K
          refine norm_ (a' := ?_) ?_ ?_
          rotate_left
          ·show Act.put _ (some 51) _ = _
           simp only [Act.put, List.setIfInBounds_toArray, List.set_cons_zero, List.set_cons_succ, i64_w, i32_w]
           rfl
          refine one_ (i := 3) (N := some 53) #[true, true, true, true, false, false, false, false, false, false, false, false, false, false, false, false, false, false, false] rfl rfl (one_of HT_.out (by kernel_rfl)) (by decide) (fun K hK => ?_)
          refine goes_ Try.func12 (by kernel_rfl) rfl #[.agg #[.int .i64 t102, .int .i64 t103, .int .i64 t104, .int .i64 t105, .string t106, .string t107, .slice Ao18 t108.length co18]] (by rfl) rfl rfl (by (try simp only [List.map_toArray, List.map_cons, List.map_nil]); first | done | rfl | (simp only [List.length_drop, List.length_take]; rfl) | (simp only [ByteArray.size_append, ByteArray.size_extract, Nat.sub_zero, Int.natCast_add]; rfl) | (simp [ByteArray.size_append]; done)) ?_
          with_reducible refine (rillmeterlaw07_ref.calls kj3 t102 t103 t104 t105 t106 t107 _ _ t108 t138 t139 t140 t141 t142 t143 t144 _ ?side1 ?side2 A27.out).mono ?_
          (case side1 => repeat (first | exact (Kd.R_reads' HO110.out).2.2 | (with_reducible refine Kd.C_alloc ?_ _) | (with_reducible refine Kd.C_drewN ?_ _) | (with_reducible refine Kd.C_drew ?_)))
          (case side2 => exact (Kd.R_reads' HO110.out).2.1)
          rintro e w40 ⟨v145, rfl, ho0, hb⟩
          refine ⟨_, rfl, ?_⟩
          have n0_ := Aside0.mk (Kd.R_below (by (with_reducible repeat first | apply Kd.R_alloc | apply Kd.R_drewN | apply Kd.R_drew); exact HO110.out) hb)
          have n1_ := Aside0.mk (Kd.R_below (by (with_reducible repeat first | apply Kd.R_alloc | apply Kd.R_drewN | apply Kd.R_drew); exact HO122.out) hb)
          have n2_ := Aside0.mk (Kd.R_elder' (by (with_reducible repeat first | apply Kd.R_alloc | apply Kd.R_drewN | apply Kd.R_drew); exact HO137.out) (Kd.R_base ho0) hb)
          have n3_ := Aside0.mk (Kd.R_lower (Kd.R_new' ho0 (Kd.R_lt (by (with_reducible repeat first | apply Kd.R_alloc | apply Kd.R_drewN | apply Kd.R_drew); exact HO137.out))) (below_size (bU_ HB.out)))
          have n4_ := Aside0.mk (blk_below (g := gb113) (o := .cells #[.int .i64 t102, .int .i64 t103, .int .i64 t104, .int .i64 t105, .string t106, .string t107, .slice Ao18 t108.length co18] 25 (0, 0)) (by (with_reducible repeat first | apply pN_ | apply pD_ | apply pA_); exact BK113.out) hb)
          have n5_ := Aside0.mk (blk_below (g := gb125) (o := .cells #[.int .i64 t114, .int .i64 t115, .int .i64 t116, .int .i64 t117, .string t118, .string t119, .slice Ao23 t120.length co23] 25 (0, 0)) (by (with_reducible repeat first | apply pN_ | apply pD_ | apply pA_); exact BK125.out) hb)
          have n6_ := Aside0.mk (below_step (bU_ HB.out) hb)
          clear HO110
          clear HO122
          clear HO137
          clear BK113
          clear BK125
          clear HB
          have HO110 := n0_
          have HO122 := n1_
          have HO137 := n2_
          have HO146 := n3_
          have BK113 := n4_
          have BK125 := n5_
          have HB := n6_
          clear n0_ n1_ n2_ n3_ n4_ n5_ n6_
          (try clear hb)
          (try clear hb2)
          (try clear hk)
          (try clear hi)
          (try clear ho0)
          obtain ⟨Ao41, co41, eo41⟩ := Kd.R_slice HO137.out
          (first | subst eo41 | (injection eo41 with f1_ f2_ f3_; have f4_ := f1_.symm; have f5_ := f3_.symm; clear f1_ f2_ f3_; subst f4_; subst f5_))
          obtain ⟨Ao42, co42, eo42⟩ := Kd.R_slice HO146.out
          (first | subst eo42 | (injection eo42 with f1_ f2_ f3_; have f4_ := f1_.symm; have f5_ := f3_.symm; clear f1_ f2_ f3_; subst f4_; subst f5_))
          refine hK.out _ _ ⟨(blk_cell BK125.out 0).trans rfl, (blk_cell BK125.out 1).trans rfl, (blk_cell BK125.out 2).trans rfl, (blk_cell BK125.out 3).trans rfl, (blk_cell BK125.out 4).trans rfl, (blk_cell BK125.out 5).trans rfl, (blk_cell BK125.out 6).trans rfl, (blk_cell BK113.out 0).trans rfl, (blk_cell BK113.out 1).trans rfl, (blk_cell BK113.out 2).trans rfl, (blk_cell BK113.out 3).trans rfl, (blk_cell BK113.out 4).trans rfl, (blk_cell BK113.out 5).trans rfl, (blk_cell BK113.out 6).trans rfl⟩ (fun hHeld => ?_)
          clear hK K
          refine norm_ (a' := ?_) ?_ ?_
          rotate_left
          ·show Act.put _ (some 53) _ = _
           simp only [Act.put, List.setIfInBounds_toArray, List.set_cons_zero, List.set_cons_succ, i64_w, i32_w]
           rfl
          refine one_ (i := 4) (N := some 54) #[true, true, true, true, true, false, false, false, false, false, false, false, false, false, false, false, false, false, false] rfl rfl (one_of HT_.out (by kernel_rfl)) (by decide) (fun K hK => ?_)
          refine goes_ Try.func11 (by kernel_rfl) rfl #[.agg #[.int .i64 t129, .int .i64 t130, .int .i64 t131, .int .i64 t132, .string t133, .string t134, .slice Ao41 t135.length co41], .agg #[.int .i64 t138, .int .i64 t139, .int .i64 t140, .int .i64 t141, .string t142, .string t143, .slice Ao42 t144.length co42]] (by rfl) rfl rfl (by (try simp only [List.map_toArray, List.map_cons, List.map_nil]); first | done | rfl | (simp only [List.length_drop, List.length_take]; rfl) | (simp only [ByteArray.size_append, ByteArray.size_extract, Nat.sub_zero, Int.natCast_add]; rfl) | (simp [ByteArray.size_append]; done)) ?_
          with_reducible refine (rillmeterref07_Equal.calls kj3 t129 t130 t131 t132 t133 t134 _ _ t135 t138 t139 t140 t141 t142 t143 _ _ t144 true _ ?side1 ?side2 ?side3 ?side4 A28.out).mono ?_
          (case side1 => repeat (first | exact (Kd.R_reads' HO137.out).2.2 | (with_reducible refine Kd.C_alloc ?_ _) | (with_reducible refine Kd.C_drewN ?_ _) | (with_reducible refine Kd.C_drew ?_)))
          (case side2 => exact (Kd.R_reads' HO137.out).2.1)
          (case side3 => repeat (first | exact (Kd.R_reads' HO146.out).2.2 | (with_reducible refine Kd.C_alloc ?_ _) | (with_reducible refine Kd.C_drewN ?_ _) | (with_reducible refine Kd.C_drew ?_)))
          (case side4 => exact (Kd.R_reads' HO146.out).2.1)
          rintro e w43 ⟨rfl, hb⟩
          refine ⟨_, rfl, ?_⟩
          have n0_ := Aside0.mk (Kd.R_below (by (with_reducible repeat first | apply Kd.R_alloc | apply Kd.R_drewN | apply Kd.R_drew); exact HO110.out) hb)
          have n1_ := Aside0.mk (Kd.R_below (by (with_reducible repeat first | apply Kd.R_alloc | apply Kd.R_drewN | apply Kd.R_drew); exact HO122.out) hb)
          have n2_ := Aside0.mk (Kd.R_below (by (with_reducible repeat first | apply Kd.R_alloc | apply Kd.R_drewN | apply Kd.R_drew); exact HO137.out) hb)
          have n3_ := Aside0.mk (Kd.R_below (by (with_reducible repeat first | apply Kd.R_alloc | apply Kd.R_drewN | apply Kd.R_drew); exact HO146.out) hb)
          have n4_ := Aside0.mk (blk_below (g := gb113) (o := .cells #[.int .i64 t102, .int .i64 t103, .int .i64 t104, .int .i64 t105, .string t106, .string t107, .slice Ao18 t108.length co18] 25 (0, 0)) (by (with_reducible repeat first | apply pN_ | apply pD_ | apply pA_); exact BK113.out) hb)
          have n5_ := Aside0.mk (blk_below (g := gb125) (o := .cells #[.int .i64 t114, .int .i64 t115, .int .i64 t116, .int .i64 t117, .string t118, .string t119, .slice Ao23 t120.length co23] 25 (0, 0)) (by (with_reducible repeat first | apply pN_ | apply pD_ | apply pA_); exact BK125.out) hb)
          have n6_ := Aside0.mk (below_step (bU_ HB.out) hb)
          clear HO110
          clear HO122
          clear HO137
          clear HO146
          clear BK113
          clear BK125
          clear HB
          have HO110 := n0_
          have HO122 := n1_
          have HO137 := n2_
          have HO146 := n3_
          have BK113 := n4_
          have BK125 := n5_
          have HB := n6_
          clear n0_ n1_ n2_ n3_ n4_ n5_ n6_
          (try clear hb)
          (try clear hb2)
          (try clear hk)
          (try clear hi)
          refine hK.out _ _ ⟨(blk_cell BK125.out 0).trans rfl, (blk_cell BK125.out 1).trans rfl, (blk_cell BK125.out 2).trans rfl, (blk_cell BK125.out 3).trans rfl, (blk_cell BK125.out 4).trans rfl, (blk_cell BK125.out 5).trans rfl, (blk_cell BK125.out 6).trans rfl, (blk_cell BK113.out 0).trans rfl, (blk_cell BK113.out 1).trans rfl, (blk_cell BK113.out 2).trans rfl, (blk_cell BK113.out 3).trans rfl, (blk_cell BK113.out 4).trans rfl, (blk_cell BK113.out 5).trans rfl, (blk_cell BK113.out 6).trans rfl⟩ (fun hHeld => ?_)
          clear hK K
          refine norm_ (a' := ?_) ?_ ?_
          rotate_left
          ·show Act.put _ (some 54) _ = _
           simp only [Act.put, List.setIfInBounds_toArray, List.set_cons_zero, List.set_cons_succ, i64_w, i32_w]
           rfl
          refine pure_ (i := 5) (N := some 55) (v := ?_) (a' := ?_) #[true, true, true, true, true, true, false, false, false, false, false, false, false, false, false, false, false, false, false] rfl rfl (any_of HT_.out (by kernel_rfl)) (fun _ _ _ h => h) (Or.inl ⟨by rfl, ?_⟩) ?_ ?_
          rotate_left
          ·intro w'
           go_simp
           with_reducible rfl
          rotate_left
          ·simp only [Act.put, List.setIfInBounds_toArray, List.set_cons_zero, List.set_cons_succ, i64_w, i32_w]
           rfl
          refine pure_ (i := 6) (N := some 56) (v := ?_) (a' := ?_) #[true, true, true, true, true, true, true, false, false, false, false, false, false, false, false, false, false, false, false] rfl rfl (any_of HT_.out (by kernel_rfl)) (fun _ _ _ h => h) (Or.inl ⟨by rfl, ?_⟩) ?_ ?_
          rotate_left
          ·intro w'
           go_simp
           with_reducible rfl
          rotate_left
          ·simp only [Act.put, List.setIfInBounds_toArray, List.set_cons_zero, List.set_cons_succ, i64_w, i32_w]
           rfl
          refine pure_ (i := 7) (N := some 57) (v := ?_) (a' := ?_) #[true, true, true, true, true, true, true, true, false, false, false, false, false, false, false, false, false, false, false] rfl rfl (any_of HT_.out (by kernel_rfl)) (fun _ _ _ h => h) (Or.inl ⟨by rfl, ?_⟩) ?_ ?_
          rotate_left
          ·intro w'
           go_simp
           with_reducible rfl
          rotate_left
          ·simp only [Act.put, List.setIfInBounds_toArray, List.set_cons_zero, List.set_cons_succ, i64_w, i32_w]
           rfl
          refine pure_ (i := 8) (N := some 58) (v := ?_) (a' := ?_) #[true, true, true, true, true, true, true, true, true, false, false, false, false, false, false, false, false, false, false] rfl rfl (any_of HT_.out (by kernel_rfl)) (fun _ _ _ h => h) (Or.inl ⟨by rfl, ?_⟩) ?_ ?_
          rotate_left
          ·intro w'
           go_simp
           with_reducible rfl
          rotate_left
          ·simp only [Act.put, List.setIfInBounds_toArray, List.set_cons_zero, List.set_cons_succ, i64_w, i32_w]
           rfl
          refine pure_ (i := 9) (N := some 59) (v := ?_) (a' := ?_) #[true, true, true, true, true, true, true, true, true, true, false, false, false, false, false, false, false, false, false] rfl rfl (any_of HT_.out (by kernel_rfl)) (fun _ _ _ h => h) (Or.inl ⟨by rfl, ?_⟩) ?_ ?_
          rotate_left
          ·intro w'
           go_simp
           with_reducible rfl
          rotate_left
          ·simp only [Act.put, List.setIfInBounds_toArray, List.set_cons_zero, List.set_cons_succ, i64_w, i32_w]
           rfl
          refine pure_ (i := 10) (N := some 60) (v := ?_) (a' := ?_) #[true, true, true, true, true, true, true, true, true, true, true, false, false, false, false, false, false, false, false] rfl rfl (any_of HT_.out (by kernel_rfl)) (fun _ _ _ h => h) (Or.inl ⟨by rfl, ?_⟩) ?_ ?_
          rotate_left
          ·intro w'
           go_simp
           with_reducible rfl
          rotate_left
          ·simp only [Act.put, List.setIfInBounds_toArray, List.set_cons_zero, List.set_cons_succ, i64_w, i32_w]
           rfl
          refine pure_ (i := 11) (N := some 61) (v := ?_) (a' := ?_) #[true, true, true, true, true, true, true, true, true, true, true, true, false, false, false, false, false, false, false] rfl rfl (any_of HT_.out (by kernel_rfl)) (fun _ _ _ h => h) (Or.inl ⟨by rfl, ?_⟩) ?_ ?_
          rotate_left
          ·intro w'
           go_simp
           with_reducible rfl
          rotate_left
          ·simp only [Act.put, List.setIfInBounds_toArray, List.set_cons_zero, List.set_cons_succ, i64_w, i32_w]
           rfl
          refine pure_ (i := 12) (N := some 62) (v := ?_) (a' := ?_) #[true, true, true, true, true, true, true, true, true, true, true, true, true, false, false, false, false, false, false] rfl rfl (any_of HT_.out (by kernel_rfl)) (fun _ _ _ h => h) (Or.inl ⟨by rfl, ?_⟩) ?_ ?_
          rotate_left
          ·intro w'
           go_simp
           with_reducible rfl
          rotate_left
          ·simp only [Act.put, List.setIfInBounds_toArray, List.set_cons_zero, List.set_cons_succ, i64_w, i32_w]
           rfl
          refine pure_ (i := 13) (N := some 63) (v := ?_) (a' := ?_) #[true, true, true, true, true, true, true, true, true, true, true, true, true, true, false, false, false, false, false] rfl rfl (any_of HT_.out (by kernel_rfl)) (fun _ _ _ h => h) (Or.inl ⟨by rfl, ?_⟩) ?_ ?_
          rotate_left
          ·intro w'
           go_simp
           with_reducible rfl
          rotate_left
          ·simp only [Act.put, List.setIfInBounds_toArray, List.set_cons_zero, List.set_cons_succ, i64_w, i32_w]
           rfl
          refine pure_ (i := 14) (N := some 64) (v := ?_) (a' := ?_) #[true, true, true, true, true, true, true, true, true, true, true, true, true, true, true, false, false, false, false] rfl rfl (any_of HT_.out (by kernel_rfl)) (fun _ _ _ h => h) (Or.inl ⟨by rfl, ?_⟩) ?_ ?_
          rotate_left
          ·intro w'
           go_simp
           with_reducible rfl
          rotate_left
          ·simp only [Act.put, List.setIfInBounds_toArray, List.set_cons_zero, List.set_cons_succ, i64_w, i32_w]
           rfl
          refine pure_ (i := 15) (N := some 65) (v := ?_) (a' := ?_) #[true, true, true, true, true, true, true, true, true, true, true, true, true, true, true, true, false, false, false] rfl rfl (any_of HT_.out (by kernel_rfl)) (fun _ _ _ h => h) (Or.inl ⟨by rfl, ?_⟩) ?_ ?_
          rotate_left
          ·intro w'
           go_simp
           with_reducible rfl
          rotate_left
          ·simp only [Act.put, List.setIfInBounds_toArray, List.set_cons_zero, List.set_cons_succ, i64_w, i32_w]
           rfl
          refine pure_ (i := 16) (N := some 66) (v := undef) (a' := ?_) #[true, true, true, true, true, true, true, true, true, true, true, true, true, true, true, true, true, false, false] rfl rfl (any_of HT_.out (by kernel_rfl)) (fun _ _ _ h => h) (Or.inr ⟨by rfl, rfl⟩) ?_ ?_
          rotate_left
          ·simp only [Act.put, List.setIfInBounds_toArray, List.set_cons_zero, List.set_cons_succ, i64_w, i32_w]
           rfl
          refine pure_ (i := 17) (N := some 67) (v := undef) (a' := ?_) #[true, true, true, true, true, true, true, true, true, true, true, true, true, true, true, true, true, true, false] rfl rfl (any_of HT_.out (by kernel_rfl)) (fun _ _ _ h => h) (Or.inr ⟨by rfl, rfl⟩) ?_ ?_
          rotate_left
          ·simp only [Act.put, List.setIfInBounds_toArray, List.set_cons_zero, List.set_cons_succ, i64_w, i32_w]
           rfl
          refine pure_ (i := 18) (N := some 68) (v := ?_) (a' := ?_) #[true, true, true, true, true, true, true, true, true, true, true, true, true, true, true, true, true, true, true] rfl rfl (any_of HT_.out (by kernel_rfl)) (fun _ _ _ h => h) (Or.inl ⟨by rfl, ?_⟩) ?_ ?_
          rotate_left
          ·intro w'
           go_simp
           with_reducible rfl
          rotate_left
          ·simp only [Act.put, List.setIfInBounds_toArray, List.set_cons_zero, List.set_cons_succ, i64_w, i32_w]
           rfl
          refine done_ (done_of HT_.out (by kernel_rfl)) ?_
          try go_wp2
          go_meet
          case rel => exact ⟨_, (true), (by first | rfl | (simp; done) | (simp [*]; done)), H', ⟨by have := HJ3.out; first | omega | exact Nat.le_refl _⟩, ⟨by (with_reducible repeat first | apply Kd.R_alloc | apply Kd.R_drewN | apply Kd.R_drew); exact Kd.R_mono HO110.out (fun _ hk => hk.2)⟩, ⟨by (with_reducible repeat first | apply Kd.R_alloc | apply Kd.R_drewN | apply Kd.R_drew); exact Kd.R_mono HO122.out (fun _ hk => hk.2)⟩, ⟨by (with_reducible repeat first | apply pN_ | apply pD_ | apply pA_); exact BK113.out⟩, ⟨by (with_reducible repeat first | apply pN_ | apply pD_ | apply pA_); exact BK125.out⟩, ⟨bU_ HB.out⟩⟩
        ·rw [if_neg c30] at H
         have c30b0 : (t123.toList == t111.toList) = false := beq_eq_false_iff_ne.mpr c30
         have c30b1 : (t123.toList != t111.toList) = true := bne_iff_ne.mpr c30
         (first | rw [c30b0] | (simp only [i64_w, i32_w]; rw [c30b0]) | skip)
         have H' := Aside0.mk H
         clear H
         try go_wp2
         have n0_ := Aside0.mk (Kd.R_drew HO110.out)
         have n1_ := Aside0.mk (Kd.R_drew HO122.out)
         have n2_ := Aside0.mk (blk_drew BK113.out)
         have n3_ := Aside0.mk (blk_drew BK125.out)
         have n4_ := Aside0.mk (below_drew1 HB.out)
         clear HO110
         clear HO122
         clear BK113
         clear BK125
         clear HB
         have HO110 := n0_
         have HO122 := n1_
         have BK113 := n2_
         have BK125 := n3_
         have HB := n4_
         clear n0_ n1_ n2_ n3_ n4_
         refine start_ (n := 19) (S := fun w' => w'.cell? ⟨gb125, 0, none⟩ = some (.int .i64 t114) ∧ w'.cell? ⟨gb125, 1, none⟩ = some (.int .i64 t115) ∧ w'.cell? ⟨gb125, 2, none⟩ = some (.int .i64 t116) ∧ w'.cell? ⟨gb125, 3, none⟩ = some (.int .i64 t117) ∧ w'.cell? ⟨gb125, 4, none⟩ = some (.string t118) ∧ w'.cell? ⟨gb125, 5, none⟩ = some (.string t119) ∧ w'.cell? ⟨gb125, 6, none⟩ = some (.slice Ao23 t120.length co23) ∧ w'.cell? ⟨gb113, 0, none⟩ = some (.int .i64 t102) ∧ w'.cell? ⟨gb113, 1, none⟩ = some (.int .i64 t103) ∧ w'.cell? ⟨gb113, 2, none⟩ = some (.int .i64 t104) ∧ w'.cell? ⟨gb113, 3, none⟩ = some (.int .i64 t105) ∧ w'.cell? ⟨gb113, 4, none⟩ = some (.string t106) ∧ w'.cell? ⟨gb113, 5, none⟩ = some (.string t107) ∧ w'.cell? ⟨gb113, 6, none⟩ = some (.slice Ao18 t108.length co18)) (ds := []) #[false, false, false, false, false, false, false, false, false, false, false, false, false, false, false, false, false, false, false] (by kernel_rfl) rfl rfl ⟨(blk_cell BK125.out 0).trans rfl, (blk_cell BK125.out 1).trans rfl, (blk_cell BK125.out 2).trans rfl, (blk_cell BK125.out 3).trans rfl, (blk_cell BK125.out 4).trans rfl, (blk_cell BK125.out 5).trans rfl, (blk_cell BK125.out 6).trans rfl, (blk_cell BK113.out 0).trans rfl, (blk_cell BK113.out 1).trans rfl, (blk_cell BK113.out 2).trans rfl, (blk_cell BK113.out 3).trans rfl, (blk_cell BK113.out 4).trans rfl, (blk_cell BK113.out 5).trans rfl, (blk_cell BK113.out 6).trans rfl⟩ (fun hHeld => ?_); refine with_tabW rillmeterlaw07_IpsixTrail.tab8 rillmeterlaw07_IpsixTrail.bits8 (fun HT_ HW_ => ?_)
         generalize w25.drew = w44 at HO110 HO122 BK113 BK125 HB hHeld ⊢
         refine take_ (i := 0) (N := some 50) (v := ?_) (a' := ?_) #[true, false, false, false, false, false, false, false, false, false, false, false, false, false, false, false, false, false, false] rfl rfl (take_ofW HT_.out HW_.out (by kernel_rfl)) (fun _ _ _ h => h) (Or.inl ⟨by rfl, ?_⟩) hHeld ?_ ?_
         rotate_left
         ·rintro w' ⟨s0, s1, s2, s3, s4, s5, s6, s7, s8, s9, s10, s11, s12, s13⟩
          go_simp
          with_reducible rfl
         rotate_left
         ·simp only [Act.put, List.setIfInBounds_toArray, List.set_cons_zero, List.set_cons_succ, i64_w, i32_w]
          rfl
         refine take_ (i := 2) (N := some 52) (v := ?_) (a' := ?_) #[true, false, true, false, false, false, false, false, false, false, false, false, false, false, false, false, false, false, false] rfl rfl (take_ofW HT_.out HW_.out (by kernel_rfl)) (fun _ _ _ h => h) (Or.inl ⟨by rfl, ?_⟩) hHeld ?_ ?_
         rotate_left
         ·rintro w' ⟨s0, s1, s2, s3, s4, s5, s6, s7, s8, s9, s10, s11, s12, s13⟩
          go_simp
          with_reducible rfl
         rotate_left
         ·simp only [Act.put, List.setIfInBounds_toArray, List.set_cons_zero, List.set_cons_succ, i64_w, i32_w]
          rfl
         refine one_ (i := 1) (N := some 51) #[true, true, true, false, false, false, false, false, false, false, false, false, false, false, false, false, false, false, false] rfl rfl (one_of HT_.out (by kernel_rfl)) (by decide) (fun K hK => ?_)
         refine goes_ Try.func12 (by kernel_rfl) rfl #[.agg #[.int .i64 t114, .int .i64 t115, .int .i64 t116, .int .i64 t117, .string t118, .string t119, .slice Ao23 t120.length co23]] (by rfl) rfl rfl (by (try simp only [List.map_toArray, List.map_cons, List.map_nil]); first | done | rfl | (simp only [List.length_drop, List.length_take]; rfl) | (simp only [ByteArray.size_append, ByteArray.size_extract, Nat.sub_zero, Int.natCast_add]; rfl) | (simp [ByteArray.size_append]; done)) ?_
         with_reducible refine (rillmeterlaw07_ref.calls kj3 t114 t115 t116 t117 t118 t119 _ _ t120 t129 t130 t131 t132 t133 t134 t135 _ ?side1 ?side2 A26.out).mono ?_
         (case side1 => repeat (first | exact (Kd.R_reads' HO122.out).2.2 | (with_reducible refine Kd.C_alloc ?_ _) | (with_reducible refine Kd.C_drewN ?_ _) | (with_reducible refine Kd.C_drew ?_)))
         (case side2 => exact (Kd.R_reads' HO122.out).2.1)
         rintro e w45 ⟨v136, rfl, ho0, hb⟩
         refine ⟨_, rfl, ?_⟩
         have n0_ := Aside0.mk (Kd.R_below (by (with_reducible repeat first | apply Kd.R_alloc | apply Kd.R_drewN | apply Kd.R_drew); exact HO110.out) hb)
         have n1_ := Aside0.mk (Kd.R_below (by (with_reducible repeat first | apply Kd.R_alloc | apply Kd.R_drewN | apply Kd.R_drew); exact HO122.out) hb)
         have n2_ := Aside0.mk (Kd.R_lower ho0 (below_size (bU_ HB.out)))
         have n3_ := Aside0.mk (blk_below (g := gb113) (o := .cells #[.int .i64 t102, .int .i64 t103, .int .i64 t104, .int .i64 t105, .string t106, .string t107, .slice Ao18 t108.length co18] 25 (0, 0)) (by (with_reducible repeat first | apply pN_ | apply pD_ | apply pA_); exact BK113.out) hb)
         have n4_ := Aside0.mk (blk_below (g := gb125) (o := .cells #[.int .i64 t114, .int .i64 t115, .int .i64 t116, .int .i64 t117, .string t118, .string t119, .slice Ao23 t120.length co23] 25 (0, 0)) (by (with_reducible repeat first | apply pN_ | apply pD_ | apply pA_); exact BK125.out) hb)
         have n5_ := Aside0.mk (below_step (bU_ HB.out) hb)
         clear HO110
         clear HO122
         clear BK113
         clear BK125
         clear HB
         have HO110 := n0_
         have HO122 := n1_
         have HO137 := n2_
         have BK113 := n3_
         have BK125 := n4_
         have HB := n5_
         clear n0_ n1_ n2_ n3_ n4_ n5_
         (try clear hb)
         (try clear hb2)
         (try clear hk)
         (try clear hi)
         (try clear ho0)
         refine hK.out _ _ ⟨(blk_cell BK125.out 0).trans rfl, (blk_cell BK125.out 1).trans rfl, (blk_cell BK125.out 2).trans rfl, (blk_cell BK125.out 3).trans rfl, (blk_cell BK125.out 4).trans rfl, (blk_cell BK125.out 5).trans rfl, (blk_cell BK125.out 6).trans rfl, (blk_cell BK113.out 0).trans rfl, (blk_cell BK113.out 1).trans rfl, (blk_cell BK113.out 2).trans rfl, (blk_cell BK113.out 3).trans rfl, (blk_cell BK113.out 4).trans rfl, (blk_cell BK113.out 5).trans rfl, (blk_cell BK113.out 6).trans rfl⟩ (fun hHeld => ?_)
         clear hK K
         refine norm_ (a' := ?_) ?_ ?_
         rotate_left
         ·show Act.put _ (some 51) _ = _
          simp only [Act.put, List.setIfInBounds_toArray, List.set_cons_zero, List.set_cons_succ, i64_w, i32_w]
          rfl
         refine one_ (i := 3) (N := some 53) #[true, true, true, true, false, false, false, false, false, false, false, false, false, false, false, false, false, false, false] rfl rfl (one_of HT_.out (by kernel_rfl)) (by decide) (fun K hK => ?_)
         refine goes_ Try.func12 (by kernel_rfl) rfl #[.agg #[.int .i64 t102, .int .i64 t103, .int .i64 t104, .int .i64 t105, .string t106, .string t107, .slice Ao18 t108.length co18]] (by rfl) rfl rfl (by (try simp only [List.map_toArray, List.map_cons, List.map_nil]); first | done | rfl | (simp only [List.length_drop, List.length_take]; rfl) | (simp only [ByteArray.size_append, ByteArray.size_extract, Nat.sub_zero, Int.natCast_add]; rfl) | (simp [ByteArray.size_append]; done)) ?_
         with_reducible refine (rillmeterlaw07_ref.calls kj3 t102 t103 t104 t105 t106 t107 _ _ t108 t138 t139 t140 t141 t142 t143 t144 _ ?side1 ?side2 A27.out).mono ?_
         (case side1 => repeat (first | exact (Kd.R_reads' HO110.out).2.2 | (with_reducible refine Kd.C_alloc ?_ _) | (with_reducible refine Kd.C_drewN ?_ _) | (with_reducible refine Kd.C_drew ?_)))
         (case side2 => exact (Kd.R_reads' HO110.out).2.1)
         rintro e w46 ⟨v145, rfl, ho0, hb⟩
         refine ⟨_, rfl, ?_⟩
         have n0_ := Aside0.mk (Kd.R_below (by (with_reducible repeat first | apply Kd.R_alloc | apply Kd.R_drewN | apply Kd.R_drew); exact HO110.out) hb)
         have n1_ := Aside0.mk (Kd.R_below (by (with_reducible repeat first | apply Kd.R_alloc | apply Kd.R_drewN | apply Kd.R_drew); exact HO122.out) hb)
         have n2_ := Aside0.mk (Kd.R_elder' (by (with_reducible repeat first | apply Kd.R_alloc | apply Kd.R_drewN | apply Kd.R_drew); exact HO137.out) (Kd.R_base ho0) hb)
         have n3_ := Aside0.mk (Kd.R_lower (Kd.R_new' ho0 (Kd.R_lt (by (with_reducible repeat first | apply Kd.R_alloc | apply Kd.R_drewN | apply Kd.R_drew); exact HO137.out))) (below_size (bU_ HB.out)))
         have n4_ := Aside0.mk (blk_below (g := gb113) (o := .cells #[.int .i64 t102, .int .i64 t103, .int .i64 t104, .int .i64 t105, .string t106, .string t107, .slice Ao18 t108.length co18] 25 (0, 0)) (by (with_reducible repeat first | apply pN_ | apply pD_ | apply pA_); exact BK113.out) hb)
         have n5_ := Aside0.mk (blk_below (g := gb125) (o := .cells #[.int .i64 t114, .int .i64 t115, .int .i64 t116, .int .i64 t117, .string t118, .string t119, .slice Ao23 t120.length co23] 25 (0, 0)) (by (with_reducible repeat first | apply pN_ | apply pD_ | apply pA_); exact BK125.out) hb)
         have n6_ := Aside0.mk (below_step (bU_ HB.out) hb)
         clear HO110
         clear HO122
         clear HO137
         clear BK113
         clear BK125
         clear HB
         have HO110 := n0_
         have HO122 := n1_
         have HO137 := n2_
         have HO146 := n3_
         have BK113 := n4_
         have BK125 := n5_
         have HB := n6_
         clear n0_ n1_ n2_ n3_ n4_ n5_ n6_
         (try clear hb)
         (try clear hb2)
         (try clear hk)
         (try clear hi)
         (try clear ho0)
         obtain ⟨Ao47, co47, eo47⟩ := Kd.R_slice HO137.out
         (first | subst eo47 | (injection eo47 with f1_ f2_ f3_; have f4_ := f1_.symm; have f5_ := f3_.symm; clear f1_ f2_ f3_; subst f4_; subst f5_))
         obtain ⟨Ao48, co48, eo48⟩ := Kd.R_slice HO146.out
         (first | subst eo48 | (injection eo48 with f1_ f2_ f3_; have f4_ := f1_.symm; have f5_ := f3_.symm; clear f1_ f2_ f3_; subst f4_; subst f5_))
         refine hK.out _ _ ⟨(blk_cell BK125.out 0).trans rfl, (blk_cell BK125.out 1).trans rfl, (blk_cell BK125.out 2).trans rfl, (blk_cell BK125.out 3).trans rfl, (blk_cell BK125.out 4).trans rfl, (blk_cell BK125.out 5).trans rfl, (blk_cell BK125.out 6).trans rfl, (blk_cell BK113.out 0).trans rfl, (blk_cell BK113.out 1).trans rfl, (blk_cell BK113.out 2).trans rfl, (blk_cell BK113.out 3).trans rfl, (blk_cell BK113.out 4).trans rfl, (blk_cell BK113.out 5).trans rfl, (blk_cell BK113.out 6).trans rfl⟩ (fun hHeld => ?_)
         clear hK K
         refine norm_ (a' := ?_) ?_ ?_
         rotate_left
         ·show Act.put _ (some 53) _ = _
          simp only [Act.put, List.setIfInBounds_toArray, List.set_cons_zero, List.set_cons_succ, i64_w, i32_w]
          rfl
         refine one_ (i := 4) (N := some 54) #[true, true, true, true, true, false, false, false, false, false, false, false, false, false, false, false, false, false, false] rfl rfl (one_of HT_.out (by kernel_rfl)) (by decide) (fun K hK => ?_)
         refine goes_ Try.func11 (by kernel_rfl) rfl #[.agg #[.int .i64 t129, .int .i64 t130, .int .i64 t131, .int .i64 t132, .string t133, .string t134, .slice Ao47 t135.length co47], .agg #[.int .i64 t138, .int .i64 t139, .int .i64 t140, .int .i64 t141, .string t142, .string t143, .slice Ao48 t144.length co48]] (by rfl) rfl rfl (by (try simp only [List.map_toArray, List.map_cons, List.map_nil]); first | done | rfl | (simp only [List.length_drop, List.length_take]; rfl) | (simp only [ByteArray.size_append, ByteArray.size_extract, Nat.sub_zero, Int.natCast_add]; rfl) | (simp [ByteArray.size_append]; done)) ?_
         with_reducible refine (rillmeterref07_Equal.calls kj3 t129 t130 t131 t132 t133 t134 _ _ t135 t138 t139 t140 t141 t142 t143 _ _ t144 true _ ?side1 ?side2 ?side3 ?side4 A28.out).mono ?_
         (case side1 => repeat (first | exact (Kd.R_reads' HO137.out).2.2 | (with_reducible refine Kd.C_alloc ?_ _) | (with_reducible refine Kd.C_drewN ?_ _) | (with_reducible refine Kd.C_drew ?_)))
         (case side2 => exact (Kd.R_reads' HO137.out).2.1)
         (case side3 => repeat (first | exact (Kd.R_reads' HO146.out).2.2 | (with_reducible refine Kd.C_alloc ?_ _) | (with_reducible refine Kd.C_drewN ?_ _) | (with_reducible refine Kd.C_drew ?_)))
         (case side4 => exact (Kd.R_reads' HO146.out).2.1)
         rintro e w49 ⟨rfl, hb⟩
         refine ⟨_, rfl, ?_⟩
         have n0_ := Aside0.mk (Kd.R_below (by (with_reducible repeat first | apply Kd.R_alloc | apply Kd.R_drewN | apply Kd.R_drew); exact HO110.out) hb)
         have n1_ := Aside0.mk (Kd.R_below (by (with_reducible repeat first | apply Kd.R_alloc | apply Kd.R_drewN | apply Kd.R_drew); exact HO122.out) hb)
         have n2_ := Aside0.mk (Kd.R_below (by (with_reducible repeat first | apply Kd.R_alloc | apply Kd.R_drewN | apply Kd.R_drew); exact HO137.out) hb)
         have n3_ := Aside0.mk (Kd.R_below (by (with_reducible repeat first | apply Kd.R_alloc | apply Kd.R_drewN | apply Kd.R_drew); exact HO146.out) hb)
         have n4_ := Aside0.mk (blk_below (g := gb113) (o := .cells #[.int .i64 t102, .int .i64 t103, .int .i64 t104, .int .i64 t105, .string t106, .string t107, .slice Ao18 t108.length co18] 25 (0, 0)) (by (with_reducible repeat first | apply pN_ | apply pD_ | apply pA_); exact BK113.out) hb)
         have n5_ := Aside0.mk (blk_below (g := gb125) (o := .cells #[.int .i64 t114, .int .i64 t115, .int .i64 t116, .int .i64 t117, .string t118, .string t119, .slice Ao23 t120.length co23] 25 (0, 0)) (by (with_reducible repeat first | apply pN_ | apply pD_ | apply pA_); exact BK125.out) hb)
         have n6_ := Aside0.mk (below_step (bU_ HB.out) hb)
         clear HO110
         clear HO122
         clear HO137
         clear HO146
         clear BK113
         clear BK125
         clear HB
         have HO110 := n0_
         have HO122 := n1_
         have HO137 := n2_
         have HO146 := n3_
         have BK113 := n4_
         have BK125 := n5_
         have HB := n6_
         clear n0_ n1_ n2_ n3_ n4_ n5_ n6_
         (try clear hb)
         (try clear hb2)
         (try clear hk)
         (try clear hi)
         refine hK.out _ _ ⟨(blk_cell BK125.out 0).trans rfl, (blk_cell BK125.out 1).trans rfl, (blk_cell BK125.out 2).trans rfl, (blk_cell BK125.out 3).trans rfl, (blk_cell BK125.out 4).trans rfl, (blk_cell BK125.out 5).trans rfl, (blk_cell BK125.out 6).trans rfl, (blk_cell BK113.out 0).trans rfl, (blk_cell BK113.out 1).trans rfl, (blk_cell BK113.out 2).trans rfl, (blk_cell BK113.out 3).trans rfl, (blk_cell BK113.out 4).trans rfl, (blk_cell BK113.out 5).trans rfl, (blk_cell BK113.out 6).trans rfl⟩ (fun hHeld => ?_)
         clear hK K
         refine norm_ (a' := ?_) ?_ ?_
         rotate_left
         ·show Act.put _ (some 54) _ = _
          simp only [Act.put, List.setIfInBounds_toArray, List.set_cons_zero, List.set_cons_succ, i64_w, i32_w]
          rfl
         refine pure_ (i := 5) (N := some 55) (v := ?_) (a' := ?_) #[true, true, true, true, true, true, false, false, false, false, false, false, false, false, false, false, false, false, false] rfl rfl (any_of HT_.out (by kernel_rfl)) (fun _ _ _ h => h) (Or.inl ⟨by rfl, ?_⟩) ?_ ?_
         rotate_left
         ·intro w'
          go_simp
          with_reducible rfl
         rotate_left
         ·simp only [Act.put, List.setIfInBounds_toArray, List.set_cons_zero, List.set_cons_succ, i64_w, i32_w]
          rfl
         refine pure_ (i := 6) (N := some 56) (v := ?_) (a' := ?_) #[true, true, true, true, true, true, true, false, false, false, false, false, false, false, false, false, false, false, false] rfl rfl (any_of HT_.out (by kernel_rfl)) (fun _ _ _ h => h) (Or.inl ⟨by rfl, ?_⟩) ?_ ?_
         rotate_left
         ·intro w'
          go_simp
          with_reducible rfl
         rotate_left
         ·simp only [Act.put, List.setIfInBounds_toArray, List.set_cons_zero, List.set_cons_succ, i64_w, i32_w]
          rfl
         refine pure_ (i := 7) (N := some 57) (v := ?_) (a' := ?_) #[true, true, true, true, true, true, true, true, false, false, false, false, false, false, false, false, false, false, false] rfl rfl (any_of HT_.out (by kernel_rfl)) (fun _ _ _ h => h) (Or.inl ⟨by rfl, ?_⟩) ?_ ?_
         rotate_left
         ·intro w'
          go_simp
          with_reducible rfl
         rotate_left
         ·simp only [Act.put, List.setIfInBounds_toArray, List.set_cons_zero, List.set_cons_succ, i64_w, i32_w]
          rfl
         refine pure_ (i := 8) (N := some 58) (v := ?_) (a' := ?_) #[true, true, true, true, true, true, true, true, true, false, false, false, false, false, false, false, false, false, false] rfl rfl (any_of HT_.out (by kernel_rfl)) (fun _ _ _ h => h) (Or.inl ⟨by rfl, ?_⟩) ?_ ?_
         rotate_left
         ·intro w'
          go_simp
          with_reducible rfl
         rotate_left
         ·simp only [Act.put, List.setIfInBounds_toArray, List.set_cons_zero, List.set_cons_succ, i64_w, i32_w]
          rfl
         refine pure_ (i := 9) (N := some 59) (v := ?_) (a' := ?_) #[true, true, true, true, true, true, true, true, true, true, false, false, false, false, false, false, false, false, false] rfl rfl (any_of HT_.out (by kernel_rfl)) (fun _ _ _ h => h) (Or.inl ⟨by rfl, ?_⟩) ?_ ?_
         rotate_left
         ·intro w'
          go_simp
          with_reducible rfl
         rotate_left
         ·simp only [Act.put, List.setIfInBounds_toArray, List.set_cons_zero, List.set_cons_succ, i64_w, i32_w]
          rfl
         refine pure_ (i := 10) (N := some 60) (v := ?_) (a' := ?_) #[true, true, true, true, true, true, true, true, true, true, true, false, false, false, false, false, false, false, false] rfl rfl (any_of HT_.out (by kernel_rfl)) (fun _ _ _ h => h) (Or.inl ⟨by rfl, ?_⟩) ?_ ?_
         rotate_left
         ·intro w'
          go_simp
          with_reducible rfl
         rotate_left
         ·simp only [Act.put, List.setIfInBounds_toArray, List.set_cons_zero, List.set_cons_succ, i64_w, i32_w]
          rfl
         refine pure_ (i := 11) (N := some 61) (v := ?_) (a' := ?_) #[true, true, true, true, true, true, true, true, true, true, true, true, false, false, false, false, false, false, false] rfl rfl (any_of HT_.out (by kernel_rfl)) (fun _ _ _ h => h) (Or.inl ⟨by rfl, ?_⟩) ?_ ?_
         rotate_left
         ·intro w'
          go_simp
          with_reducible rfl
         rotate_left
         ·simp only [Act.put, List.setIfInBounds_toArray, List.set_cons_zero, List.set_cons_succ, i64_w, i32_w]
          rfl
         refine pure_ (i := 12) (N := some 62) (v := undef) (a' := ?_) #[true, true, true, true, true, true, true, true, true, true, true, true, true, false, false, false, false, false, false] rfl rfl (any_of HT_.out (by kernel_rfl)) (fun _ _ _ h => h) (Or.inr ⟨by rfl, rfl⟩) ?_ ?_
         rotate_left
         ·simp only [Act.put, List.setIfInBounds_toArray, List.set_cons_zero, List.set_cons_succ, i64_w, i32_w]
          rfl
         refine pure_ (i := 13) (N := some 63) (v := undef) (a' := ?_) #[true, true, true, true, true, true, true, true, true, true, true, true, true, true, false, false, false, false, false] rfl rfl (any_of HT_.out (by kernel_rfl)) (fun _ _ _ h => h) (Or.inr ⟨by rfl, rfl⟩) ?_ ?_
         rotate_left
         ·simp only [Act.put, List.setIfInBounds_toArray, List.set_cons_zero, List.set_cons_succ, i64_w, i32_w]
          rfl
         refine pure_ (i := 14) (N := some 64) (v := ?_) (a' := ?_) #[true, true, true, true, true, true, true, true, true, true, true, true, true, true, true, false, false, false, false] rfl rfl (any_of HT_.out (by kernel_rfl)) (fun _ _ _ h => h) (Or.inl ⟨by rfl, ?_⟩) ?_ ?_
         rotate_left
         ·intro w'
          go_simp
          with_reducible rfl
         rotate_left
         ·simp only [Act.put, List.setIfInBounds_toArray, List.set_cons_zero, List.set_cons_succ, i64_w, i32_w]
          rfl
         refine pure_ (i := 15) (N := some 65) (v := ?_) (a' := ?_) #[true, true, true, true, true, true, true, true, true, true, true, true, true, true, true, true, false, false, false] rfl rfl (any_of HT_.out (by kernel_rfl)) (fun _ _ _ h => h) (Or.inl ⟨by rfl, ?_⟩) ?_ ?_
         rotate_left
         ·intro w'
          go_simp
          with_reducible rfl
         rotate_left
         ·simp only [Act.put, List.setIfInBounds_toArray, List.set_cons_zero, List.set_cons_succ, i64_w, i32_w]
          rfl
         refine pure_ (i := 16) (N := some 66) (v := undef) (a' := ?_) #[true, true, true, true, true, true, true, true, true, true, true, true, true, true, true, true, true, false, false] rfl rfl (any_of HT_.out (by kernel_rfl)) (fun _ _ _ h => h) (Or.inr ⟨by rfl, rfl⟩) ?_ ?_
         rotate_left
         ·simp only [Act.put, List.setIfInBounds_toArray, List.set_cons_zero, List.set_cons_succ, i64_w, i32_w]
          rfl
         refine pure_ (i := 17) (N := some 67) (v := undef) (a' := ?_) #[true, true, true, true, true, true, true, true, true, true, true, true, true, true, true, true, true, true, false] rfl rfl (any_of HT_.out (by kernel_rfl)) (fun _ _ _ h => h) (Or.inr ⟨by rfl, rfl⟩) ?_ ?_
         rotate_left
         ·simp only [Act.put, List.setIfInBounds_toArray, List.set_cons_zero, List.set_cons_succ, i64_w, i32_w]
          rfl
         refine pure_ (i := 18) (N := some 68) (v := ?_) (a' := ?_) #[true, true, true, true, true, true, true, true, true, true, true, true, true, true, true, true, true, true, true] rfl rfl (any_of HT_.out (by kernel_rfl)) (fun _ _ _ h => h) (Or.inl ⟨by rfl, ?_⟩) ?_ ?_
         rotate_left
         ·intro w'
          go_simp
          with_reducible rfl
         rotate_left
         ·simp only [Act.put, List.setIfInBounds_toArray, List.set_cons_zero, List.set_cons_succ, i64_w, i32_w]
          rfl
         refine done_ (done_of HT_.out (by kernel_rfl)) ?_
         try go_wp2
         go_meet
         case rel => exact ⟨_, (true), (by first | rfl | (simp; done) | (simp [*]; done)), H', ⟨by have := HJ3.out; first | omega | exact Nat.le_refl _⟩, ⟨by (with_reducible repeat first | apply Kd.R_alloc | apply Kd.R_drewN | apply Kd.R_drew); exact Kd.R_mono HO110.out (fun _ hk => hk.2)⟩, ⟨by (with_reducible repeat first | apply Kd.R_alloc | apply Kd.R_drewN | apply Kd.R_drew); exact Kd.R_mono HO122.out (fun _ hk => hk.2)⟩, ⟨by (with_reducible repeat first | apply pN_ | apply pD_ | apply pA_); exact BK113.out⟩, ⟨by (with_reducible repeat first | apply pN_ | apply pD_ | apply pA_); exact BK125.out⟩, ⟨bU_ HB.out⟩⟩
       ·replace c29 := Bool.eq_false_iff.mpr c29
        subst c29
        have H1 : (rillmeterlaw07_IpsixTrail.j1 kj3 a0 a2 t127 true) = some r := by rw [if_neg (show ¬ (false = true) by decide)] at H; exact H
        clear H
        have H := H1
        clear H1
        have H' := Aside0.mk H
        clear H
        try go_wp2
        have n0_ := Aside0.mk (Kd.R_drew HO110.out)
        have n1_ := Aside0.mk (Kd.R_drew HO122.out)
        have n2_ := Aside0.mk (blk_drew BK113.out)
        have n3_ := Aside0.mk (blk_drew BK125.out)
        have n4_ := Aside0.mk (below_drew1 HB.out)
        clear HO110
        clear HO122
        clear BK113
        clear BK125
        clear HB
        have HO110 := n0_
        have HO122 := n1_
        have BK113 := n2_
        have BK125 := n3_
        have HB := n4_
        clear n0_ n1_ n2_ n3_ n4_
        refine start_ (n := 19) (S := fun w' => w'.cell? ⟨gb125, 0, none⟩ = some (.int .i64 t114) ∧ w'.cell? ⟨gb125, 1, none⟩ = some (.int .i64 t115) ∧ w'.cell? ⟨gb125, 2, none⟩ = some (.int .i64 t116) ∧ w'.cell? ⟨gb125, 3, none⟩ = some (.int .i64 t117) ∧ w'.cell? ⟨gb125, 4, none⟩ = some (.string t118) ∧ w'.cell? ⟨gb125, 5, none⟩ = some (.string t119) ∧ w'.cell? ⟨gb125, 6, none⟩ = some (.slice Ao23 t120.length co23) ∧ w'.cell? ⟨gb113, 0, none⟩ = some (.int .i64 t102) ∧ w'.cell? ⟨gb113, 1, none⟩ = some (.int .i64 t103) ∧ w'.cell? ⟨gb113, 2, none⟩ = some (.int .i64 t104) ∧ w'.cell? ⟨gb113, 3, none⟩ = some (.int .i64 t105) ∧ w'.cell? ⟨gb113, 4, none⟩ = some (.string t106) ∧ w'.cell? ⟨gb113, 5, none⟩ = some (.string t107) ∧ w'.cell? ⟨gb113, 6, none⟩ = some (.slice Ao18 t108.length co18)) (ds := []) #[false, false, false, false, false, false, false, false, false, false, false, false, false, false, false, false, false, false, false] (by kernel_rfl) rfl rfl ⟨(blk_cell BK125.out 0).trans rfl, (blk_cell BK125.out 1).trans rfl, (blk_cell BK125.out 2).trans rfl, (blk_cell BK125.out 3).trans rfl, (blk_cell BK125.out 4).trans rfl, (blk_cell BK125.out 5).trans rfl, (blk_cell BK125.out 6).trans rfl, (blk_cell BK113.out 0).trans rfl, (blk_cell BK113.out 1).trans rfl, (blk_cell BK113.out 2).trans rfl, (blk_cell BK113.out 3).trans rfl, (blk_cell BK113.out 4).trans rfl, (blk_cell BK113.out 5).trans rfl, (blk_cell BK113.out 6).trans rfl⟩ (fun hHeld => ?_); refine with_tabW rillmeterlaw07_IpsixTrail.tab8 rillmeterlaw07_IpsixTrail.bits8 (fun HT_ HW_ => ?_)
        generalize w25.drew = w50 at HO110 HO122 BK113 BK125 HB hHeld ⊢
        refine take_ (i := 0) (N := some 50) (v := ?_) (a' := ?_) #[true, false, false, false, false, false, false, false, false, false, false, false, false, false, false, false, false, false, false] rfl rfl (take_ofW HT_.out HW_.out (by kernel_rfl)) (fun _ _ _ h => h) (Or.inl ⟨by rfl, ?_⟩) hHeld ?_ ?_
        rotate_left
        ·rintro w' ⟨s0, s1, s2, s3, s4, s5, s6, s7, s8, s9, s10, s11, s12, s13⟩
         go_simp
         with_reducible rfl
        rotate_left
        ·simp only [Act.put, List.setIfInBounds_toArray, List.set_cons_zero, List.set_cons_succ, i64_w, i32_w]
         rfl
        refine take_ (i := 2) (N := some 52) (v := ?_) (a' := ?_) #[true, false, true, false, false, false, false, false, false, false, false, false, false, false, false, false, false, false, false] rfl rfl (take_ofW HT_.out HW_.out (by kernel_rfl)) (fun _ _ _ h => h) (Or.inl ⟨by rfl, ?_⟩) hHeld ?_ ?_
        rotate_left
        ·rintro w' ⟨s0, s1, s2, s3, s4, s5, s6, s7, s8, s9, s10, s11, s12, s13⟩
         go_simp
         with_reducible rfl
        rotate_left
        ·simp only [Act.put, List.setIfInBounds_toArray, List.set_cons_zero, List.set_cons_succ, i64_w, i32_w]
         rfl
        refine one_ (i := 1) (N := some 51) #[true, true, true, false, false, false, false, false, false, false, false, false, false, false, false, false, false, false, false] rfl rfl (one_of HT_.out (by kernel_rfl)) (by decide) (fun K hK => ?_)
        refine goes_ Try.func12 (by kernel_rfl) rfl #[.agg #[.int .i64 t114, .int .i64 t115, .int .i64 t116, .int .i64 t117, .string t118, .string t119, .slice Ao23 t120.length co23]] (by rfl) rfl rfl (by (try simp only [List.map_toArray, List.map_cons, List.map_nil]); first | done | rfl | (simp only [List.length_drop, List.length_take]; rfl) | (simp only [ByteArray.size_append, ByteArray.size_extract, Nat.sub_zero, Int.natCast_add]; rfl) | (simp [ByteArray.size_append]; done)) ?_
        with_reducible refine (rillmeterlaw07_ref.calls kj3 t114 t115 t116 t117 t118 t119 _ _ t120 t129 t130 t131 t132 t133 t134 t135 _ ?side1 ?side2 A26.out).mono ?_
        (case side1 => repeat (first | exact (Kd.R_reads' HO122.out).2.2 | (with_reducible refine Kd.C_alloc ?_ _) | (with_reducible refine Kd.C_drewN ?_ _) | (with_reducible refine Kd.C_drew ?_)))
        (case side2 => exact (Kd.R_reads' HO122.out).2.1)
        rintro e w51 ⟨v136, rfl, ho0, hb⟩
        refine ⟨_, rfl, ?_⟩
        have n0_ := Aside0.mk (Kd.R_below (by (with_reducible repeat first | apply Kd.R_alloc | apply Kd.R_drewN | apply Kd.R_drew); exact HO110.out) hb)
        have n1_ := Aside0.mk (Kd.R_below (by (with_reducible repeat first | apply Kd.R_alloc | apply Kd.R_drewN | apply Kd.R_drew); exact HO122.out) hb)
        have n2_ := Aside0.mk (Kd.R_lower ho0 (below_size (bU_ HB.out)))
        have n3_ := Aside0.mk (blk_below (g := gb113) (o := .cells #[.int .i64 t102, .int .i64 t103, .int .i64 t104, .int .i64 t105, .string t106, .string t107, .slice Ao18 t108.length co18] 25 (0, 0)) (by (with_reducible repeat first | apply pN_ | apply pD_ | apply pA_); exact BK113.out) hb)
        have n4_ := Aside0.mk (blk_below (g := gb125) (o := .cells #[.int .i64 t114, .int .i64 t115, .int .i64 t116, .int .i64 t117, .string t118, .string t119, .slice Ao23 t120.length co23] 25 (0, 0)) (by (with_reducible repeat first | apply pN_ | apply pD_ | apply pA_); exact BK125.out) hb)
        have n5_ := Aside0.mk (below_step (bU_ HB.out) hb)
        clear HO110
        clear HO122
        clear BK113
        clear BK125
        clear HB
        have HO110 := n0_
        have HO122 := n1_
        have HO137 := n2_
        have BK113 := n3_
        have BK125 := n4_
        have HB := n5_
        clear n0_ n1_ n2_ n3_ n4_ n5_
        (try clear hb)
        (try clear hb2)
        (try clear hk)
        (try clear hi)
        (try clear ho0)
        refine hK.out _ _ ⟨(blk_cell BK125.out 0).trans rfl, (blk_cell BK125.out 1).trans rfl, (blk_cell BK125.out 2).trans rfl, (blk_cell BK125.out 3).trans rfl, (blk_cell BK125.out 4).trans rfl, (blk_cell BK125.out 5).trans rfl, (blk_cell BK125.out 6).trans rfl, (blk_cell BK113.out 0).trans rfl, (blk_cell BK113.out 1).trans rfl, (blk_cell BK113.out 2).trans rfl, (blk_cell BK113.out 3).trans rfl, (blk_cell BK113.out 4).trans rfl, (blk_cell BK113.out 5).trans rfl, (blk_cell BK113.out 6).trans rfl⟩ (fun hHeld => ?_)
        clear hK K
        refine norm_ (a' := ?_) ?_ ?_
        rotate_left
        ·show Act.put _ (some 51) _ = _
         simp only [Act.put, List.setIfInBounds_toArray, List.set_cons_zero, List.set_cons_succ, i64_w, i32_w]
         rfl
        refine one_ (i := 3) (N := some 53) #[true, true, true, true, false, false, false, false, false, false, false, false, false, false, false, false, false, false, false] rfl rfl (one_of HT_.out (by kernel_rfl)) (by decide) (fun K hK => ?_)
        refine goes_ Try.func12 (by kernel_rfl) rfl #[.agg #[.int .i64 t102, .int .i64 t103, .int .i64 t104, .int .i64 t105, .string t106, .string t107, .slice Ao18 t108.length co18]] (by rfl) rfl rfl (by (try simp only [List.map_toArray, List.map_cons, List.map_nil]); first | done | rfl | (simp only [List.length_drop, List.length_take]; rfl) | (simp only [ByteArray.size_append, ByteArray.size_extract, Nat.sub_zero, Int.natCast_add]; rfl) | (simp [ByteArray.size_append]; done)) ?_
        with_reducible refine (rillmeterlaw07_ref.calls kj3 t102 t103 t104 t105 t106 t107 _ _ t108 t138 t139 t140 t141 t142 t143 t144 _ ?side1 ?side2 A27.out).mono ?_
        (case side1 => repeat (first | exact (Kd.R_reads' HO110.out).2.2 | (with_reducible refine Kd.C_alloc ?_ _) | (with_reducible refine Kd.C_drewN ?_ _) | (with_reducible refine Kd.C_drew ?_)))
        (case side2 => exact (Kd.R_reads' HO110.out).2.1)
        rintro e w52 ⟨v145, rfl, ho0, hb⟩
        refine ⟨_, rfl, ?_⟩
        have n0_ := Aside0.mk (Kd.R_below (by (with_reducible repeat first | apply Kd.R_alloc | apply Kd.R_drewN | apply Kd.R_drew); exact HO110.out) hb)
        have n1_ := Aside0.mk (Kd.R_below (by (with_reducible repeat first | apply Kd.R_alloc | apply Kd.R_drewN | apply Kd.R_drew); exact HO122.out) hb)
        have n2_ := Aside0.mk (Kd.R_elder' (by (with_reducible repeat first | apply Kd.R_alloc | apply Kd.R_drewN | apply Kd.R_drew); exact HO137.out) (Kd.R_base ho0) hb)
        have n3_ := Aside0.mk (Kd.R_lower (Kd.R_new' ho0 (Kd.R_lt (by (with_reducible repeat first | apply Kd.R_alloc | apply Kd.R_drewN | apply Kd.R_drew); exact HO137.out))) (below_size (bU_ HB.out)))
        have n4_ := Aside0.mk (blk_below (g := gb113) (o := .cells #[.int .i64 t102, .int .i64 t103, .int .i64 t104, .int .i64 t105, .string t106, .string t107, .slice Ao18 t108.length co18] 25 (0, 0)) (by (with_reducible repeat first | apply pN_ | apply pD_ | apply pA_); exact BK113.out) hb)
        have n5_ := Aside0.mk (blk_below (g := gb125) (o := .cells #[.int .i64 t114, .int .i64 t115, .int .i64 t116, .int .i64 t117, .string t118, .string t119, .slice Ao23 t120.length co23] 25 (0, 0)) (by (with_reducible repeat first | apply pN_ | apply pD_ | apply pA_); exact BK125.out) hb)
        have n6_ := Aside0.mk (below_step (bU_ HB.out) hb)
        clear HO110
        clear HO122
        clear HO137
        clear BK113
        clear BK125
        clear HB
        have HO110 := n0_
        have HO122 := n1_
        have HO137 := n2_
        have HO146 := n3_
        have BK113 := n4_
        have BK125 := n5_
        have HB := n6_
        clear n0_ n1_ n2_ n3_ n4_ n5_ n6_
        (try clear hb)
        (try clear hb2)
        (try clear hk)
        (try clear hi)
        (try clear ho0)
        obtain ⟨Ao53, co53, eo53⟩ := Kd.R_slice HO137.out
        (first | subst eo53 | (injection eo53 with f1_ f2_ f3_; have f4_ := f1_.symm; have f5_ := f3_.symm; clear f1_ f2_ f3_; subst f4_; subst f5_))
        obtain ⟨Ao54, co54, eo54⟩ := Kd.R_slice HO146.out
        (first | subst eo54 | (injection eo54 with f1_ f2_ f3_; have f4_ := f1_.symm; have f5_ := f3_.symm; clear f1_ f2_ f3_; subst f4_; subst f5_))
        refine hK.out _ _ ⟨(blk_cell BK125.out 0).trans rfl, (blk_cell BK125.out 1).trans rfl, (blk_cell BK125.out 2).trans rfl, (blk_cell BK125.out 3).trans rfl, (blk_cell BK125.out 4).trans rfl, (blk_cell BK125.out 5).trans rfl, (blk_cell BK125.out 6).trans rfl, (blk_cell BK113.out 0).trans rfl, (blk_cell BK113.out 1).trans rfl, (blk_cell BK113.out 2).trans rfl, (blk_cell BK113.out 3).trans rfl, (blk_cell BK113.out 4).trans rfl, (blk_cell BK113.out 5).trans rfl, (blk_cell BK113.out 6).trans rfl⟩ (fun hHeld => ?_)
        clear hK K
        refine norm_ (a' := ?_) ?_ ?_
        rotate_left
        ·show Act.put _ (some 53) _ = _
         simp only [Act.put, List.setIfInBounds_toArray, List.set_cons_zero, List.set_cons_succ, i64_w, i32_w]
         rfl
        refine one_ (i := 4) (N := some 54) #[true, true, true, true, true, false, false, false, false, false, false, false, false, false, false, false, false, false, false] rfl rfl (one_of HT_.out (by kernel_rfl)) (by decide) (fun K hK => ?_)
        refine goes_ Try.func11 (by kernel_rfl) rfl #[.agg #[.int .i64 t129, .int .i64 t130, .int .i64 t131, .int .i64 t132, .string t133, .string t134, .slice Ao53 t135.length co53], .agg #[.int .i64 t138, .int .i64 t139, .int .i64 t140, .int .i64 t141, .string t142, .string t143, .slice Ao54 t144.length co54]] (by rfl) rfl rfl (by (try simp only [List.map_toArray, List.map_cons, List.map_nil]); first | done | rfl | (simp only [List.length_drop, List.length_take]; rfl) | (simp only [ByteArray.size_append, ByteArray.size_extract, Nat.sub_zero, Int.natCast_add]; rfl) | (simp [ByteArray.size_append]; done)) ?_
        with_reducible refine (rillmeterref07_Equal.calls kj3 t129 t130 t131 t132 t133 t134 _ _ t135 t138 t139 t140 t141 t142 t143 _ _ t144 false _ ?side1 ?side2 ?side3 ?side4 A28.out).mono ?_
        (case side1 => repeat (first | exact (Kd.R_reads' HO137.out).2.2 | (with_reducible refine Kd.C_alloc ?_ _) | (with_reducible refine Kd.C_drewN ?_ _) | (with_reducible refine Kd.C_drew ?_)))
        (case side2 => exact (Kd.R_reads' HO137.out).2.1)
        (case side3 => repeat (first | exact (Kd.R_reads' HO146.out).2.2 | (with_reducible refine Kd.C_alloc ?_ _) | (with_reducible refine Kd.C_drewN ?_ _) | (with_reducible refine Kd.C_drew ?_)))
        (case side4 => exact (Kd.R_reads' HO146.out).2.1)
        rintro e w55 ⟨rfl, hb⟩
        refine ⟨_, rfl, ?_⟩
        have n0_ := Aside0.mk (Kd.R_below (by (with_reducible repeat first | apply Kd.R_alloc | apply Kd.R_drewN | apply Kd.R_drew); exact HO110.out) hb)
        have n1_ := Aside0.mk (Kd.R_below (by (with_reducible repeat first | apply Kd.R_alloc | apply Kd.R_drewN | apply Kd.R_drew); exact HO122.out) hb)
        have n2_ := Aside0.mk (Kd.R_below (by (with_reducible repeat first | apply Kd.R_alloc | apply Kd.R_drewN | apply Kd.R_drew); exact HO137.out) hb)
        have n3_ := Aside0.mk (Kd.R_below (by (with_reducible repeat first | apply Kd.R_alloc | apply Kd.R_drewN | apply Kd.R_drew); exact HO146.out) hb)
        have n4_ := Aside0.mk (blk_below (g := gb113) (o := .cells #[.int .i64 t102, .int .i64 t103, .int .i64 t104, .int .i64 t105, .string t106, .string t107, .slice Ao18 t108.length co18] 25 (0, 0)) (by (with_reducible repeat first | apply pN_ | apply pD_ | apply pA_); exact BK113.out) hb)
        have n5_ := Aside0.mk (blk_below (g := gb125) (o := .cells #[.int .i64 t114, .int .i64 t115, .int .i64 t116, .int .i64 t117, .string t118, .string t119, .slice Ao23 t120.length co23] 25 (0, 0)) (by (with_reducible repeat first | apply pN_ | apply pD_ | apply pA_); exact BK125.out) hb)
        have n6_ := Aside0.mk (below_step (bU_ HB.out) hb)
        clear HO110
        clear HO122
        clear HO137
        clear HO146
        clear BK113
        clear BK125
        clear HB
        have HO110 := n0_
        have HO122 := n1_
        have HO137 := n2_
        have HO146 := n3_
        have BK113 := n4_
        have BK125 := n5_
        have HB := n6_
        clear n0_ n1_ n2_ n3_ n4_ n5_ n6_
        (try clear hb)
        (try clear hb2)
        (try clear hk)
        (try clear hi)
        refine hK.out _ _ ⟨(blk_cell BK125.out 0).trans rfl, (blk_cell BK125.out 1).trans rfl, (blk_cell BK125.out 2).trans rfl, (blk_cell BK125.out 3).trans rfl, (blk_cell BK125.out 4).trans rfl, (blk_cell BK125.out 5).trans rfl, (blk_cell BK125.out 6).trans rfl, (blk_cell BK113.out 0).trans rfl, (blk_cell BK113.out 1).trans rfl, (blk_cell BK113.out 2).trans rfl, (blk_cell BK113.out 3).trans rfl, (blk_cell BK113.out 4).trans rfl, (blk_cell BK113.out 5).trans rfl, (blk_cell BK113.out 6).trans rfl⟩ (fun hHeld => ?_)
        clear hK K
        refine norm_ (a' := ?_) ?_ ?_
        rotate_left
        ·show Act.put _ (some 54) _ = _
         simp only [Act.put, List.setIfInBounds_toArray, List.set_cons_zero, List.set_cons_succ, i64_w, i32_w]
         rfl
        refine pure_ (i := 5) (N := some 55) (v := ?_) (a' := ?_) #[true, true, true, true, true, true, false, false, false, false, false, false, false, false, false, false, false, false, false] rfl rfl (any_of HT_.out (by kernel_rfl)) (fun _ _ _ h => h) (Or.inl ⟨by rfl, ?_⟩) ?_ ?_
        rotate_left
        ·intro w'
         go_simp
         with_reducible rfl
        rotate_left
        ·simp only [Act.put, List.setIfInBounds_toArray, List.set_cons_zero, List.set_cons_succ, i64_w, i32_w]
         rfl
        refine pure_ (i := 6) (N := some 56) (v := ?_) (a' := ?_) #[true, true, true, true, true, true, true, false, false, false, false, false, false, false, false, false, false, false, false] rfl rfl (any_of HT_.out (by kernel_rfl)) (fun _ _ _ h => h) (Or.inl ⟨by rfl, ?_⟩) ?_ ?_
        rotate_left
        ·intro w'
         go_simp
         with_reducible rfl
        rotate_left
        ·simp only [Act.put, List.setIfInBounds_toArray, List.set_cons_zero, List.set_cons_succ, i64_w, i32_w]
         rfl
        refine pure_ (i := 7) (N := some 57) (v := undef) (a' := ?_) #[true, true, true, true, true, true, true, true, false, false, false, false, false, false, false, false, false, false, false] rfl rfl (any_of HT_.out (by kernel_rfl)) (fun _ _ _ h => h) (Or.inr ⟨by rfl, rfl⟩) ?_ ?_
        rotate_left
        ·simp only [Act.put, List.setIfInBounds_toArray, List.set_cons_zero, List.set_cons_succ, i64_w, i32_w]
         rfl
        refine pure_ (i := 8) (N := some 58) (v := undef) (a' := ?_) #[true, true, true, true, true, true, true, true, true, false, false, false, false, false, false, false, false, false, false] rfl rfl (any_of HT_.out (by kernel_rfl)) (fun _ _ _ h => h) (Or.inr ⟨by rfl, rfl⟩) ?_ ?_
        rotate_left
        ·simp only [Act.put, List.setIfInBounds_toArray, List.set_cons_zero, List.set_cons_succ, i64_w, i32_w]
         rfl
        refine pure_ (i := 9) (N := some 59) (v := undef) (a' := ?_) #[true, true, true, true, true, true, true, true, true, true, false, false, false, false, false, false, false, false, false] rfl rfl (any_of HT_.out (by kernel_rfl)) (fun _ _ _ h => h) (Or.inr ⟨by rfl, rfl⟩) ?_ ?_
        rotate_left
        ·simp only [Act.put, List.setIfInBounds_toArray, List.set_cons_zero, List.set_cons_succ, i64_w, i32_w]
         rfl
        refine pure_ (i := 10) (N := some 60) (v := ?_) (a' := ?_) #[true, true, true, true, true, true, true, true, true, true, true, false, false, false, false, false, false, false, false] rfl rfl (any_of HT_.out (by kernel_rfl)) (fun _ _ _ h => h) (Or.inl ⟨by rfl, ?_⟩) ?_ ?_
        rotate_left
        ·intro w'
         go_simp
         with_reducible rfl
        rotate_left
        ·simp only [Act.put, List.setIfInBounds_toArray, List.set_cons_zero, List.set_cons_succ, i64_w, i32_w]
         rfl
        refine pure_ (i := 11) (N := some 61) (v := ?_) (a' := ?_) #[true, true, true, true, true, true, true, true, true, true, true, true, false, false, false, false, false, false, false] rfl rfl (any_of HT_.out (by kernel_rfl)) (fun _ _ _ h => h) (Or.inl ⟨by rfl, ?_⟩) ?_ ?_
        rotate_left
        ·intro w'
         go_simp
         with_reducible rfl
        rotate_left
        ·simp only [Act.put, List.setIfInBounds_toArray, List.set_cons_zero, List.set_cons_succ, i64_w, i32_w]
         rfl
        refine pure_ (i := 12) (N := some 62) (v := undef) (a' := ?_) #[true, true, true, true, true, true, true, true, true, true, true, true, true, false, false, false, false, false, false] rfl rfl (any_of HT_.out (by kernel_rfl)) (fun _ _ _ h => h) (Or.inr ⟨by rfl, rfl⟩) ?_ ?_
        rotate_left
        ·simp only [Act.put, List.setIfInBounds_toArray, List.set_cons_zero, List.set_cons_succ, i64_w, i32_w]
         rfl
        refine pure_ (i := 13) (N := some 63) (v := undef) (a' := ?_) #[true, true, true, true, true, true, true, true, true, true, true, true, true, true, false, false, false, false, false] rfl rfl (any_of HT_.out (by kernel_rfl)) (fun _ _ _ h => h) (Or.inr ⟨by rfl, rfl⟩) ?_ ?_
        rotate_left
        ·simp only [Act.put, List.setIfInBounds_toArray, List.set_cons_zero, List.set_cons_succ, i64_w, i32_w]
         rfl
        refine pure_ (i := 14) (N := some 64) (v := ?_) (a' := ?_) #[true, true, true, true, true, true, true, true, true, true, true, true, true, true, true, false, false, false, false] rfl rfl (any_of HT_.out (by kernel_rfl)) (fun _ _ _ h => h) (Or.inl ⟨by rfl, ?_⟩) ?_ ?_
        rotate_left
        ·intro w'
         go_simp
         with_reducible rfl
        rotate_left
        ·simp only [Act.put, List.setIfInBounds_toArray, List.set_cons_zero, List.set_cons_succ, i64_w, i32_w]
         rfl
        refine pure_ (i := 15) (N := some 65) (v := ?_) (a' := ?_) #[true, true, true, true, true, true, true, true, true, true, true, true, true, true, true, true, false, false, false] rfl rfl (any_of HT_.out (by kernel_rfl)) (fun _ _ _ h => h) (Or.inl ⟨by rfl, ?_⟩) ?_ ?_
        rotate_left
        ·intro w'
         go_simp
         with_reducible rfl
        rotate_left
        ·simp only [Act.put, List.setIfInBounds_toArray, List.set_cons_zero, List.set_cons_succ, i64_w, i32_w]
         rfl
        refine pure_ (i := 16) (N := some 66) (v := undef) (a' := ?_) #[true, true, true, true, true, true, true, true, true, true, true, true, true, true, true, true, true, false, false] rfl rfl (any_of HT_.out (by kernel_rfl)) (fun _ _ _ h => h) (Or.inr ⟨by rfl, rfl⟩) ?_ ?_
        rotate_left
        ·simp only [Act.put, List.setIfInBounds_toArray, List.set_cons_zero, List.set_cons_succ, i64_w, i32_w]
         rfl
        refine pure_ (i := 17) (N := some 67) (v := undef) (a' := ?_) #[true, true, true, true, true, true, true, true, true, true, true, true, true, true, true, true, true, true, false] rfl rfl (any_of HT_.out (by kernel_rfl)) (fun _ _ _ h => h) (Or.inr ⟨by rfl, rfl⟩) ?_ ?_
        rotate_left
        ·simp only [Act.put, List.setIfInBounds_toArray, List.set_cons_zero, List.set_cons_succ, i64_w, i32_w]
         rfl
        refine pure_ (i := 18) (N := some 68) (v := ?_) (a' := ?_) #[true, true, true, true, true, true, true, true, true, true, true, true, true, true, true, true, true, true, true] rfl rfl (any_of HT_.out (by kernel_rfl)) (fun _ _ _ h => h) (Or.inl ⟨by rfl, ?_⟩) ?_ ?_
        rotate_left
        ·intro w'
         go_simp
         with_reducible rfl
        rotate_left
        ·simp only [Act.put, List.setIfInBounds_toArray, List.set_cons_zero, List.set_cons_succ, i64_w, i32_w]
         rfl
        refine done_ (done_of HT_.out (by kernel_rfl)) ?_
        try go_wp2
        go_meet
        case rel => exact ⟨_, (true), (by first | rfl | (simp; done) | (simp [*]; done)), H', ⟨by have := HJ3.out; first | omega | exact Nat.le_refl _⟩, ⟨by (with_reducible repeat first | apply Kd.R_alloc | apply Kd.R_drewN | apply Kd.R_drew); exact Kd.R_mono HO110.out (fun _ hk => hk.2)⟩, ⟨by (with_reducible repeat first | apply Kd.R_alloc | apply Kd.R_drewN | apply Kd.R_drew); exact Kd.R_mono HO122.out (fun _ hk => hk.2)⟩, ⟨by (with_reducible repeat first | apply pN_ | apply pD_ | apply pA_); exact BK113.out⟩, ⟨by (with_reducible repeat first | apply pN_ | apply pD_ | apply pA_); exact BK125.out⟩, ⟨bU_ HB.out⟩⟩
      case rest =>
       clear HC14
       try clear c1
       try clear c2
       try clear p2
       try clear c3
       try clear c11
       try clear c12
       try clear c29
       try clear c30
       try clear c30b0
       try clear c30b1
       obtain ⟨kq, x68_13, rfl, HA, HJ13, HO_114006, HO_126006, BK113, BK125, HB⟩ := hcut
       cases kq with
       | zero => exact absurd HA.out (by simp [rillmeterlaw07_IpsixTrail.j1])
       | succ kj13 =>
        have H := HA.out
        clear HA
        simp only [rillmeterlaw07_IpsixTrail.j1] at H
        by_cases c56 : x68_13 = true
        ·subst c56
         have H1 : (some false) = some r := by rw [if_pos rfl] at H; exact H
         clear H
         have H := H1
         clear H1
         obtain rfl := Option.some.inj H
         exact absurd hrt.out (by decide)
        ·replace c56 := Bool.eq_false_iff.mpr c56
         subst c56
         have H1 : (if a2 < 0 then (rillmeterlaw07_IpsixTrail.j2 kj13 a0 a2 true) else (if a2 ≥ (t127.size : Int) then (rillmeterlaw07_IpsixTrail.j2 kj13 a0 a2 true) else (rillmeterlaw07_IpsixTrail.j2 kj13 a0 a2 (decide ((t127.size : Int) > (a0.size : Int)))))) = some r := by rw [if_neg (show ¬ (false = true) by decide)] at H; exact H
         clear H
         have H := H1
         clear H1
         have HC57 := Aside0.mk H
         clear H
         go_upto_region 10 with (fail)
         go_cut [83] (fun v83 wc => ∃ (kq : Nat) (x83_56 : Bool), v83 = .bool x83_56 ∧ Aside0 (rillmeterlaw07_IpsixTrail.j2 kq a0 a2 x83_56 = some r) ∧ Aside0 (kq ≤ kj13) ∧ Aside0 (Kd.R k49 49 wc w.heap.size (fun k_ => some k_ ≠ ((.slice Ao23 t120.length co23) : Value).ownBlock) (.slice Ao18 t108.length co18) t108) ∧ Aside0 (Kd.R k49 49 wc w.heap.size (fun k_ => some k_ ≠ ((.slice Ao18 t108.length co18) : Value).ownBlock) (.slice Ao23 t120.length co23) t120) ∧ Aside0 (wc.heap[gb113]? = some (.cells #[.int .i64 t102, .int .i64 t103, .int .i64 t104, .int .i64 t105, .string t106, .string t107, (.slice Ao18 t108.length co18)] 25 (0, 0))) ∧ Aside0 (wc.heap[gb125]? = some (.cells #[.int .i64 t114, .int .i64 t115, .int .i64 t116, .int .i64 t117, .string t118, .string t119, (.slice Ao23 t120.length co23)] 25 (0, 0))) ∧ Aside0 (Below w.heap.size w wc))
         case first =>
          have H := HC57.out
          clear HC57
          by_cases c58 : a2 < 0
          ·rw [if_pos c58] at H
           have c58b0 : decide (a2 < 0) = true := decide_eq_true c58
           clear c58
           (first | rw [c58b0] | (simp only [i64_w, i32_w]; rw [c58b0]) | skip)
           have H' := Aside0.mk H
           clear H
           go_wp2
           go_meet
           case rel => exact ⟨_, (true), (by first | rfl | (simp; done) | (simp [*]; done)), H', ⟨by have := HJ3.out; have := HJ13.out; first | omega | exact Nat.le_refl _⟩, ⟨by (with_reducible repeat first | apply Kd.R_alloc | apply Kd.R_drewN | apply Kd.R_drew); exact HO_114006.out⟩, ⟨by (with_reducible repeat first | apply Kd.R_alloc | apply Kd.R_drewN | apply Kd.R_drew); exact HO_126006.out⟩, ⟨by (with_reducible repeat first | apply pN_ | apply pD_ | apply pA_); exact BK113.out⟩, ⟨by (with_reducible repeat first | apply pN_ | apply pD_ | apply pA_); exact BK125.out⟩, ⟨bU_ HB.out⟩⟩
          ·rw [if_neg c58] at H
           have c58b0 : decide (a2 < 0) = false := decide_eq_false c58
           clear c58
           (first | rw [c58b0] | (simp only [i64_w, i32_w]; rw [c58b0]) | skip)
           by_cases c59 : a2 ≥ (t127.size : Int)
           ·rw [if_pos c59] at H
            have c59b0 : decide ((t127.size : Int) ≤ a2) = true := decide_eq_true c59
            clear c59
            have H' := Aside0.mk H
            clear H
            go_wp2
            go_meet
            case rel => exact ⟨_, (true), (by first | rfl | (simp; done) | (simp [*]; done)), H', ⟨by have := HJ3.out; have := HJ13.out; first | omega | exact Nat.le_refl _⟩, ⟨by (with_reducible repeat first | apply Kd.R_alloc | apply Kd.R_drewN | apply Kd.R_drew); exact HO_114006.out⟩, ⟨by (with_reducible repeat first | apply Kd.R_alloc | apply Kd.R_drewN | apply Kd.R_drew); exact HO_126006.out⟩, ⟨by (with_reducible repeat first | apply pN_ | apply pD_ | apply pA_); exact BK113.out⟩, ⟨by (with_reducible repeat first | apply pN_ | apply pD_ | apply pA_); exact BK125.out⟩, ⟨bU_ HB.out⟩⟩
           ·rw [if_neg c59] at H
            have c59b0 : decide ((t127.size : Int) ≤ a2) = false := decide_eq_false c59
            clear c59
            have H' := Aside0.mk H
            clear H
            go_wp2
            go_meet
            case rel => exact ⟨_, (decide ((t127.size : Int) > (a0.size : Int))), (by first | rfl | (simp; done) | (simp [*]; done)), H', ⟨by have := HJ3.out; have := HJ13.out; first | omega | exact Nat.le_refl _⟩, ⟨by (with_reducible repeat first | apply Kd.R_alloc | apply Kd.R_drewN | apply Kd.R_drew); exact HO_114006.out⟩, ⟨by (with_reducible repeat first | apply Kd.R_alloc | apply Kd.R_drewN | apply Kd.R_drew); exact HO_126006.out⟩, ⟨by (with_reducible repeat first | apply pN_ | apply pD_ | apply pA_); exact BK113.out⟩, ⟨by (with_reducible repeat first | apply pN_ | apply pD_ | apply pA_); exact BK125.out⟩, ⟨bU_ HB.out⟩⟩
         case rest =>
          clear HC57
          try clear c1
          try clear c2
          try clear p2
          try clear c3
          try clear c5
          try clear c11
          try clear c12
          try clear c29
          try clear c30
          try clear c30b0
          try clear c30b1
          try clear c56
          try clear c58
          try clear c58b0
          try clear c59
          try clear c59b0
          try clear p2
          obtain ⟨kq, x83_56, rfl, HA, HJ56, HO_114006, HO_126006, BK113, BK125, HB⟩ := hcut
          cases kq with
          | zero => exact absurd HA.out (by simp [rillmeterlaw07_IpsixTrail.j2])
          | succ kj56 =>
           have H := HA.out
           clear HA
           simp only [rillmeterlaw07_IpsixTrail.j2] at H
           by_cases c60 : x83_56 = true
           ·subst c60
            have H1 : ((rillmeterlaw07_awake.f kj56).bind fun t148 => (some t148)) = some r := by rw [if_pos rfl] at H; exact H
            clear H
            have H := H1
            clear H1
            replace H := Option.bind_eq_some_iff.mp H
            obtain ⟨t148, A610, H⟩ := H
            replace H : (some t148) = some r := H
            have A61 := Aside0.mk A610
            clear A610
            obtain rfl := Option.some.inj H
            go_wp2_with (first | ((with_reducible refine gate_callee (f := 8) rfl ?_); refine gL_ (some 84) rfl rfl Try.func8 (by kernel_rfl) rfl #[] rfl ?_; (with_reducible refine (rillmeterlaw07_awake.calls kj56  t148 _ hrt A61.out).mono ?_); rintro e w62 ⟨rfl, hb⟩; refine ⟨_, rfl, ?_⟩; have n0_ := Aside0.mk (Kd.R_below (by (with_reducible repeat first | apply Kd.R_alloc | apply Kd.R_drewN | apply Kd.R_drew); exact HO_114006.out) hb); have n1_ := Aside0.mk (Kd.R_below (by (with_reducible repeat first | apply Kd.R_alloc | apply Kd.R_drewN | apply Kd.R_drew); exact HO_126006.out) hb); have n2_ := Aside0.mk (blk_below (g := gb113) (o := .cells #[.int .i64 t102, .int .i64 t103, .int .i64 t104, .int .i64 t105, .string t106, .string t107, .slice Ao18 t108.length co18] 25 (0, 0)) (by (with_reducible repeat first | apply pN_ | apply pD_ | apply pA_); exact BK113.out) hb); have n3_ := Aside0.mk (blk_below (g := gb125) (o := .cells #[.int .i64 t114, .int .i64 t115, .int .i64 t116, .int .i64 t117, .string t118, .string t119, .slice Ao23 t120.length co23] 25 (0, 0)) (by (with_reducible repeat first | apply pN_ | apply pD_ | apply pA_); exact BK125.out) hb); have n4_ := Aside0.mk (below_step (bU_ HB.out) hb); clear HO_114006; clear HO_126006; clear BK113; clear BK125; clear HB; have HO_114006 := n0_; have HO_126006 := n1_; have BK113 := n2_; have BK125 := n3_; have HB := n4_; clear n0_ n1_ n2_ n3_ n4_; (try clear hb); (try clear hb2); (try clear hk); (try clear hi)))
            go_ret
            exact ⟨by first | rfl | (simp [errW_none, errW_some] <;> rfl) | (simp [*, errW_none, errW_some] <;> rfl), bU_ HB.out⟩
           ·replace c60 := Bool.eq_false_iff.mpr c60
            subst c60
            have H1 : (if 0 ≤ a2 then (if a2 ≤ (a0.size : Int) then ((ipsix_Take.f kj56 (a0.extract 0 (a2 : Int).toNat)).bind fun bt149 => (if ((bt149.2.2.2.2.2.2.2.2 == 2) == (decide (a2 < 40))) = true then (if bt149.2.2.2.2.2.2.2.2 = 2 then ((rillmeterlaw07_awake.f kj56).bind fun t161 => (some t161)) else (if bt149.2.2.2.2.2.2.2.2 = 13 then ((rillmeterlaw07_awake.f kj56).bind fun t162 => (some t162)) else (some false))) else (some false))) else (none)) else (none)) = some r := by rw [if_neg (show ¬ (false = true) by decide)] at H; exact H
            clear H
            have H := H1
            clear H1
            by_cases c63 : 0 ≤ a2
            ·rw [if_pos c63] at H
             have c63b0 := eq_true c63
             have c63b1 : decide (0 ≤ a2) = true := decide_eq_true c63
             clear c63
             by_cases c64 : a2 ≤ (a0.size : Int)
             ·rw [if_pos c64] at H
              have c64b0 := eq_true c64
              have c64b1 : decide (a2 ≤ (a0.size : Int)) = true := decide_eq_true c64
              clear c64
              replace H := Option.bind_eq_some_iff.mp H
              obtain ⟨⟨t149, t150, t151, t152, t153, t154, t155, t158, t159⟩, A650, H⟩ := H
              replace H : (if ((t159 == 2) == (decide (a2 < 40))) = true then (if t159 = 2 then ((rillmeterlaw07_awake.f kj56).bind fun t161 => (some t161)) else (if t159 = 13 then ((rillmeterlaw07_awake.f kj56).bind fun t162 => (some t162)) else (some false))) else (some false)) = some r := H
              have A65 := Aside0.mk A650
              clear A650
              by_cases c66 : ((t159 == 2) == (decide (a2 < 40))) = true
              ·rw [if_pos c66] at H
               have c66b0 : ((t159 == 2) == (decide (a2 < 40))) = true := c66
               (try (have c66b1 : decide ((t159 == 2) = (decide (a2 < 40))) = true := by simpa using c66))
               (try (have c66b2 : ((t159 == 2) == (decide (a2 < 40))) = true := by simpa using c66))
               clear c66
               by_cases c67 : t159 = 2
               ·rw [if_pos c67] at H
                have c67b0 : (t159 == 2) = true := beq_iff_eq.mpr c67
                have c67b1 : (t159 != 2) = false := bne_eq_false_iff_eq.mpr c67
                clear c67
                replace H := Option.bind_eq_some_iff.mp H
                obtain ⟨t161, A680, H⟩ := H
                replace H : (some t161) = some r := H
                have A68 := Aside0.mk A680
                clear A680
                obtain rfl := Option.some.inj H
                go_wp2_with (first | ((with_reducible refine gate_callee (f := 9) rfl ?_); refine gL_ (some 89) rfl rfl Try.func9 (by kernel_rfl) rfl #[.string (a0.extract 0 (a2 : Int).toNat)] rfl ?_; (with_reducible refine (ipsix_Take.calls kj56 (a0.extract 0 (a2 : Int).toNat) t149 t150 t151 t152 t153 t154 t155 t158 t159 _ A65.out).mono ?_); rintro e w69 ⟨v156, rfl, ho0, hb⟩; refine ⟨_, rfl, ?_⟩; have n0_ := Aside0.mk (Kd.R_elder' (by (with_reducible repeat first | apply Kd.R_alloc | apply Kd.R_drewN | apply Kd.R_drew); exact HO_114006.out) (Kd.R_base ho0) hb); have n1_ := Aside0.mk (Kd.R_elder' (by (with_reducible repeat first | apply Kd.R_alloc | apply Kd.R_drewN | apply Kd.R_drew); exact HO_126006.out) (Kd.R_base ho0) hb); have n2_ := Aside0.mk (Kd.R_lower (Kd.R_new' (Kd.R_new' ho0 (Kd.R_lt (by (with_reducible repeat first | apply Kd.R_alloc | apply Kd.R_drewN | apply Kd.R_drew); exact HO_114006.out))) (Kd.R_lt (by (with_reducible repeat first | apply Kd.R_alloc | apply Kd.R_drewN | apply Kd.R_drew); exact HO_126006.out))) (below_size (bU_ HB.out))); have n3_ := Aside0.mk (blk_below (g := gb113) (o := .cells #[.int .i64 t102, .int .i64 t103, .int .i64 t104, .int .i64 t105, .string t106, .string t107, .slice Ao18 t108.length co18] 25 (0, 0)) (by (with_reducible repeat first | apply pN_ | apply pD_ | apply pA_); exact BK113.out) hb); have n4_ := Aside0.mk (blk_below (g := gb125) (o := .cells #[.int .i64 t114, .int .i64 t115, .int .i64 t116, .int .i64 t117, .string t118, .string t119, .slice Ao23 t120.length co23] 25 (0, 0)) (by (with_reducible repeat first | apply pN_ | apply pD_ | apply pA_); exact BK125.out) hb); have n5_ := Aside0.mk (below_step (bU_ HB.out) hb); clear HO_114006; clear HO_126006; clear BK113; clear BK125; clear HB; have HO_114006 := n0_; have HO_126006 := n1_; have HO157 := n2_; have BK113 := n3_; have BK125 := n4_; have HB := n5_; clear n0_ n1_ n2_ n3_ n4_ n5_; (try clear hb); (try clear hb2); (try clear hk); (try clear hi); (try clear ho0)) | ((with_reducible refine gate_dst (N := 15) rfl ?_); (try (refine gate_guard (by rfl) ?_; dsimp only)); refine box_event ?hg (N := 15) ?hd (cs := #[.int .i64 0, .int .i64 0, .int .i64 0, .int .i64 0, .string (⟨#[]⟩ : ByteArray), .string (⟨#[]⟩ : ByteArray), .slice none 0 0]) (t := 25) ?hr ?_; (case hd => rfl); (case hg => rfl); (case hr => first | (go_simp; done) | (go_simp; rfl)); intro gb160 hg w70 hbox hb; have n0_ := Aside0.mk (Kd.R_below (by (with_reducible repeat first | apply Kd.R_alloc | apply Kd.R_drewN | apply Kd.R_drew); exact HO_114006.out) hb); have n1_ := Aside0.mk (Kd.R_below (by (with_reducible repeat first | apply Kd.R_alloc | apply Kd.R_drewN | apply Kd.R_drew); exact HO_126006.out) hb); have n2_ := Aside0.mk (Kd.R_below (by (with_reducible repeat first | apply Kd.R_alloc | apply Kd.R_drewN | apply Kd.R_drew); exact HO157.out) hb); have n3_ := Aside0.mk (blk_below (g := gb113) (o := .cells #[.int .i64 t102, .int .i64 t103, .int .i64 t104, .int .i64 t105, .string t106, .string t107, .slice Ao18 t108.length co18] 25 (0, 0)) (by (with_reducible repeat first | apply pN_ | apply pD_ | apply pA_); exact BK113.out) hb); have n4_ := Aside0.mk (blk_below (g := gb125) (o := .cells #[.int .i64 t114, .int .i64 t115, .int .i64 t116, .int .i64 t117, .string t118, .string t119, .slice Ao23 t120.length co23] 25 (0, 0)) (by (with_reducible repeat first | apply pN_ | apply pD_ | apply pA_); exact BK125.out) hb); have n5_ := Aside0.mk (below_step (bU_ HB.out) hb); have n6_ := Aside0.mk (hbox); have n7_ := Aside0.mk ((by rw [hg]; exact (below_size (bU_ HB.out)) : w.heap.size ≤ gb160)); have n8_ := Aside0.mk ((by rw [hg]; exact (below_size (bU_ HB.out)) : w.heap.size ≤ gb160)); have n9_ := Aside0.mk ((by rw [hg]; exact Nat.ne_of_lt (blk_lt (g := gb113) (o := .cells #[.int .i64 t102, .int .i64 t103, .int .i64 t104, .int .i64 t105, .string t106, .string t107, .slice Ao18 t108.length co18] 25 (0, 0)) (by (with_reducible repeat first | apply pN_ | apply pD_ | apply pA_); exact BK113.out)) : gb113 ≠ gb160)); have n10_ := Aside0.mk ((by rw [hg]; exact Nat.ne_of_gt (blk_lt (g := gb113) (o := .cells #[.int .i64 t102, .int .i64 t103, .int .i64 t104, .int .i64 t105, .string t106, .string t107, .slice Ao18 t108.length co18] 25 (0, 0)) (by (with_reducible repeat first | apply pN_ | apply pD_ | apply pA_); exact BK113.out)) : gb160 ≠ gb113)); have n11_ := Aside0.mk ((by rw [hg]; exact Nat.ne_of_lt (blk_lt (g := gb125) (o := .cells #[.int .i64 t114, .int .i64 t115, .int .i64 t116, .int .i64 t117, .string t118, .string t119, .slice Ao23 t120.length co23] 25 (0, 0)) (by (with_reducible repeat first | apply pN_ | apply pD_ | apply pA_); exact BK125.out)) : gb125 ≠ gb160)); have n12_ := Aside0.mk ((by rw [hg]; exact Nat.ne_of_gt (blk_lt (g := gb125) (o := .cells #[.int .i64 t114, .int .i64 t115, .int .i64 t116, .int .i64 t117, .string t118, .string t119, .slice Ao23 t120.length co23] 25 (0, 0)) (by (with_reducible repeat first | apply pN_ | apply pD_ | apply pA_); exact BK125.out)) : gb160 ≠ gb125)); clear HO_114006; clear HO_126006; clear HO157; clear BK113; clear BK125; clear HB; have HO_114006 := n0_; have HO_126006 := n1_; have HO157 := n2_; have BK113 := n3_; have BK125 := n4_; have HB := n5_; have BK160 := n6_; have GW160 := n7_; have GE160 := n8_; have NB113_160 := n9_; have NB160_113 := n10_; have NB125_160 := n11_; have NB160_125 := n12_; clear n0_ n1_ n2_ n3_ n4_ n5_ n6_ n7_ n8_ n9_ n10_ n11_ n12_; clear hb hbox hg; have hnb71 := NB160_113.out; have hnc71 := NB113_160.out; have hnb72 := NB160_125.out; have hnc72 := NB125_160.out; have hcz73_0 : w70.cell? ⟨gb160, 0, none⟩ = some (.int .i64 0) := (blk_cell BK160.out 0).trans rfl; have hcz73_1 : w70.cell? ⟨gb160, 1, none⟩ = some (.int .i64 0) := (blk_cell BK160.out 1).trans rfl; have hcz73_2 : w70.cell? ⟨gb160, 2, none⟩ = some (.int .i64 0) := (blk_cell BK160.out 2).trans rfl; have hcz73_3 : w70.cell? ⟨gb160, 3, none⟩ = some (.int .i64 0) := (blk_cell BK160.out 3).trans rfl; have hcz73_4 : w70.cell? ⟨gb160, 4, none⟩ = some (.string (⟨#[]⟩ : ByteArray)) := (blk_cell BK160.out 4).trans rfl; have hcz73_5 : w70.cell? ⟨gb160, 5, none⟩ = some (.string (⟨#[]⟩ : ByteArray)) := (blk_cell BK160.out 5).trans rfl; have hcz73_6 : w70.cell? ⟨gb160, 6, none⟩ = some (.slice none 0 0) := (blk_cell BK160.out 6).trans rfl; have hfz73_0 := blk_frozen BK160.out 0; have hfz73_1 := blk_frozen BK160.out 1; have hfz73_2 := blk_frozen BK160.out 2; have hfz73_3 := blk_frozen BK160.out 3; have hfz73_4 := blk_frozen BK160.out 4; have hfz73_5 := blk_frozen BK160.out 5; have hfz73_6 := blk_frozen BK160.out 6; obtain ⟨Ao74, co74, eo74⟩ := Kd.R_slice HO157.out; subst eo74) | (go_at_call 8; (with_reducible refine (rillmeterlaw07_awake.calls kj56  t161 _ hrt A68.out).mono ?_); rintro e w75 ⟨rfl, hb⟩; have n0_ := Aside0.mk (Kd.R_below (by (with_reducible repeat first | apply Kd.R_alloc | apply Kd.R_drewN | apply Kd.R_drew); exact (Kd.R_mono (Kd.R_far (p := ⟨gb160, 6, none⟩) (Kd.R_far (p := ⟨gb160, 5, none⟩) (Kd.R_far (p := ⟨gb160, 4, none⟩) (Kd.R_far (p := ⟨gb160, 3, none⟩) (Kd.R_far (p := ⟨gb160, 2, none⟩) (Kd.R_far (p := ⟨gb160, 1, none⟩) (Kd.R_far (p := ⟨gb160, 0, none⟩) (Kd.R_types HO_114006.out BK160.out (by decide)) (fun _ hk => hk.2) (.int .i64 t149)) (fun _ hk => hk.2) (.int .i64 t150)) (fun _ hk => hk.2) (.int .i64 t151)) (fun _ hk => hk.2) (.int .i64 t152)) (fun _ hk => hk.2) (.string t153)) (fun _ hk => hk.2) (.string t154)) (fun _ hk => hk.2) (.slice Ao74 t155.length co74)) (fun _ h_ => h_.1))) hb); have n1_ := Aside0.mk (Kd.R_below (by (with_reducible repeat first | apply Kd.R_alloc | apply Kd.R_drewN | apply Kd.R_drew); exact (Kd.R_mono (Kd.R_far (p := ⟨gb160, 6, none⟩) (Kd.R_far (p := ⟨gb160, 5, none⟩) (Kd.R_far (p := ⟨gb160, 4, none⟩) (Kd.R_far (p := ⟨gb160, 3, none⟩) (Kd.R_far (p := ⟨gb160, 2, none⟩) (Kd.R_far (p := ⟨gb160, 1, none⟩) (Kd.R_far (p := ⟨gb160, 0, none⟩) (Kd.R_types HO_126006.out BK160.out (by decide)) (fun _ hk => hk.2) (.int .i64 t149)) (fun _ hk => hk.2) (.int .i64 t150)) (fun _ hk => hk.2) (.int .i64 t151)) (fun _ hk => hk.2) (.int .i64 t152)) (fun _ hk => hk.2) (.string t153)) (fun _ hk => hk.2) (.string t154)) (fun _ hk => hk.2) (.slice Ao74 t155.length co74)) (fun _ h_ => h_.1))) hb); have n2_ := Aside0.mk (Kd.R_below (by (with_reducible repeat first | apply Kd.R_alloc | apply Kd.R_drewN | apply Kd.R_drew); exact (Kd.R_mono (Kd.R_far (p := ⟨gb160, 6, none⟩) (Kd.R_far (p := ⟨gb160, 5, none⟩) (Kd.R_far (p := ⟨gb160, 4, none⟩) (Kd.R_far (p := ⟨gb160, 3, none⟩) (Kd.R_far (p := ⟨gb160, 2, none⟩) (Kd.R_far (p := ⟨gb160, 1, none⟩) (Kd.R_far (p := ⟨gb160, 0, none⟩) (Kd.R_types HO157.out BK160.out (by decide)) (fun _ hk => hk.2) (.int .i64 t149)) (fun _ hk => hk.2) (.int .i64 t150)) (fun _ hk => hk.2) (.int .i64 t151)) (fun _ hk => hk.2) (.int .i64 t152)) (fun _ hk => hk.2) (.string t153)) (fun _ hk => hk.2) (.string t154)) (fun _ hk => hk.2) (.slice Ao74 t155.length co74)) (fun _ h_ => h_.1))) hb); have n3_ := Aside0.mk (blk_below (g := gb113) (o := .cells #[.int .i64 t102, .int .i64 t103, .int .i64 t104, .int .i64 t105, .string t106, .string t107, .slice Ao18 t108.length co18] 25 (0, 0)) (by (with_reducible repeat first | apply pN_ | apply pD_ | apply pA_); refine blk_far ?_ NB113_160.out _; (with_reducible repeat first | apply pN_ | apply pD_ | apply pA_); refine blk_far ?_ NB113_160.out _; (with_reducible repeat first | apply pN_ | apply pD_ | apply pA_); refine blk_far ?_ NB113_160.out _; (with_reducible repeat first | apply pN_ | apply pD_ | apply pA_); refine blk_far ?_ NB113_160.out _; (with_reducible repeat first | apply pN_ | apply pD_ | apply pA_); refine blk_far ?_ NB113_160.out _; (with_reducible repeat first | apply pN_ | apply pD_ | apply pA_); refine blk_far ?_ NB113_160.out _; (with_reducible repeat first | apply pN_ | apply pD_ | apply pA_); refine blk_far ?_ NB113_160.out _; (with_reducible repeat first | apply pN_ | apply pD_ | apply pA_); exact BK113.out) hb); have n4_ := Aside0.mk (blk_below (g := gb125) (o := .cells #[.int .i64 t114, .int .i64 t115, .int .i64 t116, .int .i64 t117, .string t118, .string t119, .slice Ao23 t120.length co23] 25 (0, 0)) (by (with_reducible repeat first | apply pN_ | apply pD_ | apply pA_); refine blk_far ?_ NB125_160.out _; (with_reducible repeat first | apply pN_ | apply pD_ | apply pA_); refine blk_far ?_ NB125_160.out _; (with_reducible repeat first | apply pN_ | apply pD_ | apply pA_); refine blk_far ?_ NB125_160.out _; (with_reducible repeat first | apply pN_ | apply pD_ | apply pA_); refine blk_far ?_ NB125_160.out _; (with_reducible repeat first | apply pN_ | apply pD_ | apply pA_); refine blk_far ?_ NB125_160.out _; (with_reducible repeat first | apply pN_ | apply pD_ | apply pA_); refine blk_far ?_ NB125_160.out _; (with_reducible repeat first | apply pN_ | apply pD_ | apply pA_); refine blk_far ?_ NB125_160.out _; (with_reducible repeat first | apply pN_ | apply pD_ | apply pA_); exact BK125.out) hb); have n5_ := Aside0.mk (blk_below (g := gb160) (o := .cells #[.int .i64 t149, .int .i64 t150, .int .i64 t151, .int .i64 t152, .string t153, .string t154, .slice Ao74 t155.length co74] 25 (0, 0)) (by (with_reducible repeat first | apply pN_ | apply pD_ | apply pA_); refine blk_put (cs := #[.int .i64 t149, .int .i64 t150, .int .i64 t151, .int .i64 t152, .string t153, .string t154, .slice none 0 0]) ?_ 6 _ rfl; (with_reducible repeat first | apply pN_ | apply pD_ | apply pA_); refine blk_put (cs := #[.int .i64 t149, .int .i64 t150, .int .i64 t151, .int .i64 t152, .string t153, .string (⟨#[]⟩ : ByteArray), .slice none 0 0]) ?_ 5 _ rfl; (with_reducible repeat first | apply pN_ | apply pD_ | apply pA_); refine blk_put (cs := #[.int .i64 t149, .int .i64 t150, .int .i64 t151, .int .i64 t152, .string (⟨#[]⟩ : ByteArray), .string (⟨#[]⟩ : ByteArray), .slice none 0 0]) ?_ 4 _ rfl; (with_reducible repeat first | apply pN_ | apply pD_ | apply pA_); refine blk_put (cs := #[.int .i64 t149, .int .i64 t150, .int .i64 t151, .int .i64 0, .string (⟨#[]⟩ : ByteArray), .string (⟨#[]⟩ : ByteArray), .slice none 0 0]) ?_ 3 _ rfl; (with_reducible repeat first | apply pN_ | apply pD_ | apply pA_); refine blk_put (cs := #[.int .i64 t149, .int .i64 t150, .int .i64 0, .int .i64 0, .string (⟨#[]⟩ : ByteArray), .string (⟨#[]⟩ : ByteArray), .slice none 0 0]) ?_ 2 _ rfl; (with_reducible repeat first | apply pN_ | apply pD_ | apply pA_); refine blk_put (cs := #[.int .i64 t149, .int .i64 0, .int .i64 0, .int .i64 0, .string (⟨#[]⟩ : ByteArray), .string (⟨#[]⟩ : ByteArray), .slice none 0 0]) ?_ 1 _ rfl; (with_reducible repeat first | apply pN_ | apply pD_ | apply pA_); refine blk_put (cs := #[.int .i64 0, .int .i64 0, .int .i64 0, .int .i64 0, .string (⟨#[]⟩ : ByteArray), .string (⟨#[]⟩ : ByteArray), .slice none 0 0]) ?_ 0 _ rfl; (with_reducible repeat first | apply pN_ | apply pD_ | apply pA_); exact BK160.out) hb); have n6_ := Aside0.mk (below_step (bU_ HB.out) hb); clear HO_114006; clear HO_126006; clear HO157; clear BK113; clear BK125; clear BK160; clear HB; have HO_114006 := n0_; have HO_126006 := n1_; have HO157 := n2_; have BK113 := n3_; have BK125 := n4_; have BK160 := n5_; have HB := n6_; clear n0_ n1_ n2_ n3_ n4_ n5_ n6_; (try clear hb); (try clear hb2); (try clear hk); (try clear hi)))
                go_ret
                exact ⟨by first | rfl | (simp [errW_none, errW_some] <;> rfl) | (simp [*, errW_none, errW_some] <;> rfl), bU_ HB.out⟩
                all_goals (exfalso; first | (simp [*] at c66b0; omega) | (simp_all; omega) | (simp_all; done))
               ·rw [if_neg c67] at H
                have c67b0 : (t159 == 2) = false := beq_eq_false_iff_ne.mpr c67
                have c67b1 : (t159 != 2) = true := bne_iff_ne.mpr c67
                by_cases c76 : t159 = 13
                ·rw [if_pos c76] at H
                 have c76b0 : (t159 == 13) = true := beq_iff_eq.mpr c76
                 have c76b1 : (t159 != 13) = false := bne_eq_false_iff_eq.mpr c76
                 clear c76
                 replace H := Option.bind_eq_some_iff.mp H
                 obtain ⟨t162, A770, H⟩ := H
                 replace H : (some t162) = some r := H
                 have A77 := Aside0.mk A770
                 clear A770
                 obtain rfl := Option.some.inj H
                 go_wp2_with (first | ((with_reducible refine gate_callee (f := 9) rfl ?_); refine gL_ (some 89) rfl rfl Try.func9 (by kernel_rfl) rfl #[.string (a0.extract 0 (a2 : Int).toNat)] rfl ?_; (with_reducible refine (ipsix_Take.calls kj56 (a0.extract 0 (a2 : Int).toNat) t149 t150 t151 t152 t153 t154 t155 t158 t159 _ A65.out).mono ?_); rintro e w78 ⟨v156, rfl, ho0, hb⟩; refine ⟨_, rfl, ?_⟩; have n0_ := Aside0.mk (Kd.R_elder' (by (with_reducible repeat first | apply Kd.R_alloc | apply Kd.R_drewN | apply Kd.R_drew); exact HO_114006.out) (Kd.R_base ho0) hb); have n1_ := Aside0.mk (Kd.R_elder' (by (with_reducible repeat first | apply Kd.R_alloc | apply Kd.R_drewN | apply Kd.R_drew); exact HO_126006.out) (Kd.R_base ho0) hb); have n2_ := Aside0.mk (Kd.R_lower (Kd.R_new' (Kd.R_new' ho0 (Kd.R_lt (by (with_reducible repeat first | apply Kd.R_alloc | apply Kd.R_drewN | apply Kd.R_drew); exact HO_114006.out))) (Kd.R_lt (by (with_reducible repeat first | apply Kd.R_alloc | apply Kd.R_drewN | apply Kd.R_drew); exact HO_126006.out))) (below_size (bU_ HB.out))); have n3_ := Aside0.mk (blk_below (g := gb113) (o := .cells #[.int .i64 t102, .int .i64 t103, .int .i64 t104, .int .i64 t105, .string t106, .string t107, .slice Ao18 t108.length co18] 25 (0, 0)) (by (with_reducible repeat first | apply pN_ | apply pD_ | apply pA_); exact BK113.out) hb); have n4_ := Aside0.mk (blk_below (g := gb125) (o := .cells #[.int .i64 t114, .int .i64 t115, .int .i64 t116, .int .i64 t117, .string t118, .string t119, .slice Ao23 t120.length co23] 25 (0, 0)) (by (with_reducible repeat first | apply pN_ | apply pD_ | apply pA_); exact BK125.out) hb); have n5_ := Aside0.mk (below_step (bU_ HB.out) hb); clear HO_114006; clear HO_126006; clear BK113; clear BK125; clear HB; have HO_114006 := n0_; have HO_126006 := n1_; have HO157 := n2_; have BK113 := n3_; have BK125 := n4_; have HB := n5_; clear n0_ n1_ n2_ n3_ n4_ n5_; (try clear hb); (try clear hb2); (try clear hk); (try clear hi); (try clear ho0)) | ((with_reducible refine gate_dst (N := 15) rfl ?_); (try (refine gate_guard (by rfl) ?_; dsimp only)); refine box_event ?hg (N := 15) ?hd (cs := #[.int .i64 0, .int .i64 0, .int .i64 0, .int .i64 0, .string (⟨#[]⟩ : ByteArray), .string (⟨#[]⟩ : ByteArray), .slice none 0 0]) (t := 25) ?hr ?_; (case hd => rfl); (case hg => rfl); (case hr => first | (go_simp; done) | (go_simp; rfl)); intro gb160 hg w79 hbox hb; have n0_ := Aside0.mk (Kd.R_below (by (with_reducible repeat first | apply Kd.R_alloc | apply Kd.R_drewN | apply Kd.R_drew); exact HO_114006.out) hb); have n1_ := Aside0.mk (Kd.R_below (by (with_reducible repeat first | apply Kd.R_alloc | apply Kd.R_drewN | apply Kd.R_drew); exact HO_126006.out) hb); have n2_ := Aside0.mk (Kd.R_below (by (with_reducible repeat first | apply Kd.R_alloc | apply Kd.R_drewN | apply Kd.R_drew); exact HO157.out) hb); have n3_ := Aside0.mk (blk_below (g := gb113) (o := .cells #[.int .i64 t102, .int .i64 t103, .int .i64 t104, .int .i64 t105, .string t106, .string t107, .slice Ao18 t108.length co18] 25 (0, 0)) (by (with_reducible repeat first | apply pN_ | apply pD_ | apply pA_); exact BK113.out) hb); have n4_ := Aside0.mk (blk_below (g := gb125) (o := .cells #[.int .i64 t114, .int .i64 t115, .int .i64 t116, .int .i64 t117, .string t118, .string t119, .slice Ao23 t120.length co23] 25 (0, 0)) (by (with_reducible repeat first | apply pN_ | apply pD_ | apply pA_); exact BK125.out) hb); have n5_ := Aside0.mk (below_step (bU_ HB.out) hb); have n6_ := Aside0.mk (hbox); have n7_ := Aside0.mk ((by rw [hg]; exact (below_size (bU_ HB.out)) : w.heap.size ≤ gb160)); have n8_ := Aside0.mk ((by rw [hg]; exact (below_size (bU_ HB.out)) : w.heap.size ≤ gb160)); have n9_ := Aside0.mk ((by rw [hg]; exact Nat.ne_of_lt (blk_lt (g := gb113) (o := .cells #[.int .i64 t102, .int .i64 t103, .int .i64 t104, .int .i64 t105, .string t106, .string t107, .slice Ao18 t108.length co18] 25 (0, 0)) (by (with_reducible repeat first | apply pN_ | apply pD_ | apply pA_); exact BK113.out)) : gb113 ≠ gb160)); have n10_ := Aside0.mk ((by rw [hg]; exact Nat.ne_of_gt (blk_lt (g := gb113) (o := .cells #[.int .i64 t102, .int .i64 t103, .int .i64 t104, .int .i64 t105, .string t106, .string t107, .slice Ao18 t108.length co18] 25 (0, 0)) (by (with_reducible repeat first | apply pN_ | apply pD_ | apply pA_); exact BK113.out)) : gb160 ≠ gb113)); have n11_ := Aside0.mk ((by rw [hg]; exact Nat.ne_of_lt (blk_lt (g := gb125) (o := .cells #[.int .i64 t114, .int .i64 t115, .int .i64 t116, .int .i64 t117, .string t118, .string t119, .slice Ao23 t120.length co23] 25 (0, 0)) (by (with_reducible repeat first | apply pN_ | apply pD_ | apply pA_); exact BK125.out)) : gb125 ≠ gb160)); have n12_ := Aside0.mk ((by rw [hg]; exact Nat.ne_of_gt (blk_lt (g := gb125) (o := .cells #[.int .i64 t114, .int .i64 t115, .int .i64 t116, .int .i64 t117, .string t118, .string t119, .slice Ao23 t120.length co23] 25 (0, 0)) (by (with_reducible repeat first | apply pN_ | apply pD_ | apply pA_); exact BK125.out)) : gb160 ≠ gb125)); clear HO_114006; clear HO_126006; clear HO157; clear BK113; clear BK125; clear HB; have HO_114006 := n0_; have HO_126006 := n1_; have HO157 := n2_; have BK113 := n3_; have BK125 := n4_; have HB := n5_; have BK160 := n6_; have GW160 := n7_; have GE160 := n8_; have NB113_160 := n9_; have NB160_113 := n10_; have NB125_160 := n11_; have NB160_125 := n12_; clear n0_ n1_ n2_ n3_ n4_ n5_ n6_ n7_ n8_ n9_ n10_ n11_ n12_; clear hb hbox hg; have hnb80 := NB160_113.out; have hnc80 := NB113_160.out; have hnb81 := NB160_125.out; have hnc81 := NB125_160.out; have hcz82_0 : w79.cell? ⟨gb160, 0, none⟩ = some (.int .i64 0) := (blk_cell BK160.out 0).trans rfl; have hcz82_1 : w79.cell? ⟨gb160, 1, none⟩ = some (.int .i64 0) := (blk_cell BK160.out 1).trans rfl; have hcz82_2 : w79.cell? ⟨gb160, 2, none⟩ = some (.int .i64 0) := (blk_cell BK160.out 2).trans rfl; have hcz82_3 : w79.cell? ⟨gb160, 3, none⟩ = some (.int .i64 0) := (blk_cell BK160.out 3).trans rfl; have hcz82_4 : w79.cell? ⟨gb160, 4, none⟩ = some (.string (⟨#[]⟩ : ByteArray)) := (blk_cell BK160.out 4).trans rfl; have hcz82_5 : w79.cell? ⟨gb160, 5, none⟩ = some (.string (⟨#[]⟩ : ByteArray)) := (blk_cell BK160.out 5).trans rfl; have hcz82_6 : w79.cell? ⟨gb160, 6, none⟩ = some (.slice none 0 0) := (blk_cell BK160.out 6).trans rfl; have hfz82_0 := blk_frozen BK160.out 0; have hfz82_1 := blk_frozen BK160.out 1; have hfz82_2 := blk_frozen BK160.out 2; have hfz82_3 := blk_frozen BK160.out 3; have hfz82_4 := blk_frozen BK160.out 4; have hfz82_5 := blk_frozen BK160.out 5; have hfz82_6 := blk_frozen BK160.out 6; obtain ⟨Ao83, co83, eo83⟩ := Kd.R_slice HO157.out; subst eo83) | (go_at_call 8; (with_reducible refine (rillmeterlaw07_awake.calls kj56  t162 _ hrt A77.out).mono ?_); rintro e w84 ⟨rfl, hb⟩; have n0_ := Aside0.mk (Kd.R_below (by (with_reducible repeat first | apply Kd.R_alloc | apply Kd.R_drewN | apply Kd.R_drew); exact (Kd.R_mono (Kd.R_far (p := ⟨gb160, 6, none⟩) (Kd.R_far (p := ⟨gb160, 5, none⟩) (Kd.R_far (p := ⟨gb160, 4, none⟩) (Kd.R_far (p := ⟨gb160, 3, none⟩) (Kd.R_far (p := ⟨gb160, 2, none⟩) (Kd.R_far (p := ⟨gb160, 1, none⟩) (Kd.R_far (p := ⟨gb160, 0, none⟩) (Kd.R_types HO_114006.out BK160.out (by decide)) (fun _ hk => hk.2) (.int .i64 t149)) (fun _ hk => hk.2) (.int .i64 t150)) (fun _ hk => hk.2) (.int .i64 t151)) (fun _ hk => hk.2) (.int .i64 t152)) (fun _ hk => hk.2) (.string t153)) (fun _ hk => hk.2) (.string t154)) (fun _ hk => hk.2) (.slice Ao83 t155.length co83)) (fun _ h_ => h_.1))) hb); have n1_ := Aside0.mk (Kd.R_below (by (with_reducible repeat first | apply Kd.R_alloc | apply Kd.R_drewN | apply Kd.R_drew); exact (Kd.R_mono (Kd.R_far (p := ⟨gb160, 6, none⟩) (Kd.R_far (p := ⟨gb160, 5, none⟩) (Kd.R_far (p := ⟨gb160, 4, none⟩) (Kd.R_far (p := ⟨gb160, 3, none⟩) (Kd.R_far (p := ⟨gb160, 2, none⟩) (Kd.R_far (p := ⟨gb160, 1, none⟩) (Kd.R_far (p := ⟨gb160, 0, none⟩) (Kd.R_types HO_126006.out BK160.out (by decide)) (fun _ hk => hk.2) (.int .i64 t149)) (fun _ hk => hk.2) (.int .i64 t150)) (fun _ hk => hk.2) (.int .i64 t151)) (fun _ hk => hk.2) (.int .i64 t152)) (fun _ hk => hk.2) (.string t153)) (fun _ hk => hk.2) (.string t154)) (fun _ hk => hk.2) (.slice Ao83 t155.length co83)) (fun _ h_ => h_.1))) hb); have n2_ := Aside0.mk (Kd.R_below (by (with_reducible repeat first | apply Kd.R_alloc | apply Kd.R_drewN | apply Kd.R_drew); exact (Kd.R_mono (Kd.R_far (p := ⟨gb160, 6, none⟩) (Kd.R_far (p := ⟨gb160, 5, none⟩) (Kd.R_far (p := ⟨gb160, 4, none⟩) (Kd.R_far (p := ⟨gb160, 3, none⟩) (Kd.R_far (p := ⟨gb160, 2, none⟩) (Kd.R_far (p := ⟨gb160, 1, none⟩) (Kd.R_far (p := ⟨gb160, 0, none⟩) (Kd.R_types HO157.out BK160.out (by decide)) (fun _ hk => hk.2) (.int .i64 t149)) (fun _ hk => hk.2) (.int .i64 t150)) (fun _ hk => hk.2) (.int .i64 t151)) (fun _ hk => hk.2) (.int .i64 t152)) (fun _ hk => hk.2) (.string t153)) (fun _ hk => hk.2) (.string t154)) (fun _ hk => hk.2) (.slice Ao83 t155.length co83)) (fun _ h_ => h_.1))) hb); have n3_ := Aside0.mk (blk_below (g := gb113) (o := .cells #[.int .i64 t102, .int .i64 t103, .int .i64 t104, .int .i64 t105, .string t106, .string t107, .slice Ao18 t108.length co18] 25 (0, 0)) (by (with_reducible repeat first | apply pN_ | apply pD_ | apply pA_); refine blk_far ?_ NB113_160.out _; (with_reducible repeat first | apply pN_ | apply pD_ | apply pA_); refine blk_far ?_ NB113_160.out _; (with_reducible repeat first | apply pN_ | apply pD_ | apply pA_); refine blk_far ?_ NB113_160.out _; (with_reducible repeat first | apply pN_ | apply pD_ | apply pA_); refine blk_far ?_ NB113_160.out _; (with_reducible repeat first | apply pN_ | apply pD_ | apply pA_); refine blk_far ?_ NB113_160.out _; (with_reducible repeat first | apply pN_ | apply pD_ | apply pA_); refine blk_far ?_ NB113_160.out _; (with_reducible repeat first | apply pN_ | apply pD_ | apply pA_); refine blk_far ?_ NB113_160.out _; (with_reducible repeat first | apply pN_ | apply pD_ | apply pA_); exact BK113.out) hb); have n4_ := Aside0.mk (blk_below (g := gb125) (o := .cells #[.int .i64 t114, .int .i64 t115, .int .i64 t116, .int .i64 t117, .string t118, .string t119, .slice Ao23 t120.length co23] 25 (0, 0)) (by (with_reducible repeat first | apply pN_ | apply pD_ | apply pA_); refine blk_far ?_ NB125_160.out _; (with_reducible repeat first | apply pN_ | apply pD_ | apply pA_); refine blk_far ?_ NB125_160.out _; (with_reducible repeat first | apply pN_ | apply pD_ | apply pA_); refine blk_far ?_ NB125_160.out _; (with_reducible repeat first | apply pN_ | apply pD_ | apply pA_); refine blk_far ?_ NB125_160.out _; (with_reducible repeat first | apply pN_ | apply pD_ | apply pA_); refine blk_far ?_ NB125_160.out _; (with_reducible repeat first | apply pN_ | apply pD_ | apply pA_); refine blk_far ?_ NB125_160.out _; (with_reducible repeat first | apply pN_ | apply pD_ | apply pA_); refine blk_far ?_ NB125_160.out _; (with_reducible repeat first | apply pN_ | apply pD_ | apply pA_); exact BK125.out) hb); have n5_ := Aside0.mk (blk_below (g := gb160) (o := .cells #[.int .i64 t149, .int .i64 t150, .int .i64 t151, .int .i64 t152, .string t153, .string t154, .slice Ao83 t155.length co83] 25 (0, 0)) (by (with_reducible repeat first | apply pN_ | apply pD_ | apply pA_); refine blk_put (cs := #[.int .i64 t149, .int .i64 t150, .int .i64 t151, .int .i64 t152, .string t153, .string t154, .slice none 0 0]) ?_ 6 _ rfl; (with_reducible repeat first | apply pN_ | apply pD_ | apply pA_); refine blk_put (cs := #[.int .i64 t149, .int .i64 t150, .int .i64 t151, .int .i64 t152, .string t153, .string (⟨#[]⟩ : ByteArray), .slice none 0 0]) ?_ 5 _ rfl; (with_reducible repeat first | apply pN_ | apply pD_ | apply pA_); refine blk_put (cs := #[.int .i64 t149, .int .i64 t150, .int .i64 t151, .int .i64 t152, .string (⟨#[]⟩ : ByteArray), .string (⟨#[]⟩ : ByteArray), .slice none 0 0]) ?_ 4 _ rfl; (with_reducible repeat first | apply pN_ | apply pD_ | apply pA_); refine blk_put (cs := #[.int .i64 t149, .int .i64 t150, .int .i64 t151, .int .i64 0, .string (⟨#[]⟩ : ByteArray), .string (⟨#[]⟩ : ByteArray), .slice none 0 0]) ?_ 3 _ rfl; (with_reducible repeat first | apply pN_ | apply pD_ | apply pA_); refine blk_put (cs := #[.int .i64 t149, .int .i64 t150, .int .i64 0, .int .i64 0, .string (⟨#[]⟩ : ByteArray), .string (⟨#[]⟩ : ByteArray), .slice none 0 0]) ?_ 2 _ rfl; (with_reducible repeat first | apply pN_ | apply pD_ | apply pA_); refine blk_put (cs := #[.int .i64 t149, .int .i64 0, .int .i64 0, .int .i64 0, .string (⟨#[]⟩ : ByteArray), .string (⟨#[]⟩ : ByteArray), .slice none 0 0]) ?_ 1 _ rfl; (with_reducible repeat first | apply pN_ | apply pD_ | apply pA_); refine blk_put (cs := #[.int .i64 0, .int .i64 0, .int .i64 0, .int .i64 0, .string (⟨#[]⟩ : ByteArray), .string (⟨#[]⟩ : ByteArray), .slice none 0 0]) ?_ 0 _ rfl; (with_reducible repeat first | apply pN_ | apply pD_ | apply pA_); exact BK160.out) hb); have n6_ := Aside0.mk (below_step (bU_ HB.out) hb); clear HO_114006; clear HO_126006; clear HO157; clear BK113; clear BK125; clear BK160; clear HB; have HO_114006 := n0_; have HO_126006 := n1_; have HO157 := n2_; have BK113 := n3_; have BK125 := n4_; have BK160 := n5_; have HB := n6_; clear n0_ n1_ n2_ n3_ n4_ n5_ n6_; (try clear hb); (try clear hb2); (try clear hk); (try clear hi)))
                 go_ret
                 exact ⟨by first | rfl | (simp [errW_none, errW_some] <;> rfl) | (simp [*, errW_none, errW_some] <;> rfl), bU_ HB.out⟩
                 all_goals (exfalso; first | (simp [*] at c66b0; omega) | (simp_all; omega) | (simp_all; done))
                ·rw [if_neg c76] at H
                 obtain rfl := Option.some.inj H
                 exact absurd hrt.out (by decide)
              ·rw [if_neg c66] at H
               obtain rfl := Option.some.inj H
               exact absurd hrt.out (by decide)
             ·rw [if_neg c64] at H
              exact absurd H (by simp)
            ·rw [if_neg c63] at H
             exact absurd H (by simp)
     ·rw [if_neg c12] at H
      have c12b0 : (t112 == 0) = false := beq_eq_false_iff_ne.mpr c12
      have c12b1 : (t112 != 0) = true := bne_iff_ne.mpr c12
      replace H := Option.bind_eq_some_iff.mp H
      obtain ⟨t126, A850, H⟩ := H
      replace H : (some t126) = some r := H
      have A85 := Aside0.mk A850
      clear A850
      obtain rfl := Option.some.inj H
      go_wp2_with (first | ((with_reducible refine gate_callee (f := 9) rfl ?_); refine gL_ (some 29) rfl rfl Try.func9 (by kernel_rfl) rfl #[.string a0] rfl ?_; (with_reducible refine (ipsix_Take.calls kj3 a0 t102 t103 t104 t105 t106 t107 t108 t111 t112 _ A9.out).mono ?_); rintro e w86 ⟨v109, rfl, ho0, hb⟩; refine ⟨_, rfl, ?_⟩; have n0_ := Aside0.mk (Kd.R_lower ho0 (below_size (bU_ HB.out))); have n1_ := Aside0.mk (below_step (bU_ HB.out) hb); clear HB; have HO110 := n0_; have HB := n1_; clear n0_ n1_; (try clear hb); (try clear hb2); (try clear hk); (try clear hi); (try clear ho0)) | ((with_reducible refine gate_dst (N := 7) rfl ?_); (try (refine gate_guard (by rfl) ?_; dsimp only)); refine box_event ?hg (N := 7) ?hd (cs := #[.int .i64 0, .int .i64 0, .int .i64 0, .int .i64 0, .string (⟨#[]⟩ : ByteArray), .string (⟨#[]⟩ : ByteArray), .slice none 0 0]) (t := 25) ?hr ?_; (case hd => rfl); (case hg => rfl); (case hr => first | (go_simp; done) | (go_simp; rfl)); intro gb113 hg w87 hbox hb; have n0_ := Aside0.mk (Kd.R_below (by (with_reducible repeat first | apply Kd.R_alloc | apply Kd.R_drewN | apply Kd.R_drew); exact HO110.out) hb); have n1_ := Aside0.mk (below_step (bU_ HB.out) hb); have n2_ := Aside0.mk (hbox); have n3_ := Aside0.mk ((by rw [hg]; exact (below_size (bU_ HB.out)) : w.heap.size ≤ gb113)); have n4_ := Aside0.mk ((by rw [hg]; exact (below_size (bU_ HB.out)) : w.heap.size ≤ gb113)); clear HO110; clear HB; have HO110 := n0_; have HB := n1_; have BK113 := n2_; have GW113 := n3_; have GE113 := n4_; clear n0_ n1_ n2_ n3_ n4_; clear hb hbox hg; have hcz88_0 : w87.cell? ⟨gb113, 0, none⟩ = some (.int .i64 0) := (blk_cell BK113.out 0).trans rfl; have hcz88_1 : w87.cell? ⟨gb113, 1, none⟩ = some (.int .i64 0) := (blk_cell BK113.out 1).trans rfl; have hcz88_2 : w87.cell? ⟨gb113, 2, none⟩ = some (.int .i64 0) := (blk_cell BK113.out 2).trans rfl; have hcz88_3 : w87.cell? ⟨gb113, 3, none⟩ = some (.int .i64 0) := (blk_cell BK113.out 3).trans rfl; have hcz88_4 : w87.cell? ⟨gb113, 4, none⟩ = some (.string (⟨#[]⟩ : ByteArray)) := (blk_cell BK113.out 4).trans rfl; have hcz88_5 : w87.cell? ⟨gb113, 5, none⟩ = some (.string (⟨#[]⟩ : ByteArray)) := (blk_cell BK113.out 5).trans rfl; have hcz88_6 : w87.cell? ⟨gb113, 6, none⟩ = some (.slice none 0 0) := (blk_cell BK113.out 6).trans rfl; have hfz88_0 := blk_frozen BK113.out 0; have hfz88_1 := blk_frozen BK113.out 1; have hfz88_2 := blk_frozen BK113.out 2; have hfz88_3 := blk_frozen BK113.out 3; have hfz88_4 := blk_frozen BK113.out 4; have hfz88_5 := blk_frozen BK113.out 5; have hfz88_6 := blk_frozen BK113.out 6; obtain ⟨Ao89, co89, eo89⟩ := Kd.R_slice HO110.out; subst eo89) | ((with_reducible refine gate_callee (f := 9) rfl ?_); refine gL_ (some 37) rfl rfl Try.func9 (by kernel_rfl) rfl #[.string (a0 ++ a1)] rfl ?_; (with_reducible refine (ipsix_Take.calls kj3 (a0 ++ a1) t114 t115 t116 t117 t118 t119 t120 t123 t124 _ A11.out).mono ?_); rintro e w90 ⟨v121, rfl, ho0, hb⟩; refine ⟨_, rfl, ?_⟩; have n0_ := Aside0.mk (Kd.R_elder' (by (with_reducible repeat first | apply Kd.R_alloc | apply Kd.R_drewN | apply Kd.R_drew); exact (Kd.R_mono (Kd.R_far (p := ⟨gb113, 6, none⟩) (Kd.R_far (p := ⟨gb113, 5, none⟩) (Kd.R_far (p := ⟨gb113, 4, none⟩) (Kd.R_far (p := ⟨gb113, 3, none⟩) (Kd.R_far (p := ⟨gb113, 2, none⟩) (Kd.R_far (p := ⟨gb113, 1, none⟩) (Kd.R_far (p := ⟨gb113, 0, none⟩) (Kd.R_types HO110.out BK113.out (by decide)) (fun _ hk => hk.2) (.int .i64 t102)) (fun _ hk => hk.2) (.int .i64 t103)) (fun _ hk => hk.2) (.int .i64 t104)) (fun _ hk => hk.2) (.int .i64 t105)) (fun _ hk => hk.2) (.string t106)) (fun _ hk => hk.2) (.string t107)) (fun _ hk => hk.2) (.slice Ao89 t108.length co89)) (fun _ h_ => h_.1))) (Kd.R_base ho0) hb); have n1_ := Aside0.mk (Kd.R_lower (Kd.R_new' ho0 (Kd.R_lt (by (with_reducible repeat first | apply Kd.R_alloc | apply Kd.R_drewN | apply Kd.R_drew); exact (Kd.R_mono (Kd.R_far (p := ⟨gb113, 6, none⟩) (Kd.R_far (p := ⟨gb113, 5, none⟩) (Kd.R_far (p := ⟨gb113, 4, none⟩) (Kd.R_far (p := ⟨gb113, 3, none⟩) (Kd.R_far (p := ⟨gb113, 2, none⟩) (Kd.R_far (p := ⟨gb113, 1, none⟩) (Kd.R_far (p := ⟨gb113, 0, none⟩) (Kd.R_types HO110.out BK113.out (by decide)) (fun _ hk => hk.2) (.int .i64 t102)) (fun _ hk => hk.2) (.int .i64 t103)) (fun _ hk => hk.2) (.int .i64 t104)) (fun _ hk => hk.2) (.int .i64 t105)) (fun _ hk => hk.2) (.string t106)) (fun _ hk => hk.2) (.string t107)) (fun _ hk => hk.2) (.slice Ao89 t108.length co89)) (fun _ h_ => h_.1))))) (below_size (bU_ HB.out))); have n2_ := Aside0.mk (blk_below (g := gb113) (o := .cells #[.int .i64 t102, .int .i64 t103, .int .i64 t104, .int .i64 t105, .string t106, .string t107, .slice Ao89 t108.length co89] 25 (0, 0)) (by (with_reducible repeat first | apply pN_ | apply pD_ | apply pA_); refine blk_put (cs := #[.int .i64 t102, .int .i64 t103, .int .i64 t104, .int .i64 t105, .string t106, .string t107, .slice none 0 0]) ?_ 6 _ rfl; (with_reducible repeat first | apply pN_ | apply pD_ | apply pA_); refine blk_put (cs := #[.int .i64 t102, .int .i64 t103, .int .i64 t104, .int .i64 t105, .string t106, .string (⟨#[]⟩ : ByteArray), .slice none 0 0]) ?_ 5 _ rfl; (with_reducible repeat first | apply pN_ | apply pD_ | apply pA_); refine blk_put (cs := #[.int .i64 t102, .int .i64 t103, .int .i64 t104, .int .i64 t105, .string (⟨#[]⟩ : ByteArray), .string (⟨#[]⟩ : ByteArray), .slice none 0 0]) ?_ 4 _ rfl; (with_reducible repeat first | apply pN_ | apply pD_ | apply pA_); refine blk_put (cs := #[.int .i64 t102, .int .i64 t103, .int .i64 t104, .int .i64 0, .string (⟨#[]⟩ : ByteArray), .string (⟨#[]⟩ : ByteArray), .slice none 0 0]) ?_ 3 _ rfl; (with_reducible repeat first | apply pN_ | apply pD_ | apply pA_); refine blk_put (cs := #[.int .i64 t102, .int .i64 t103, .int .i64 0, .int .i64 0, .string (⟨#[]⟩ : ByteArray), .string (⟨#[]⟩ : ByteArray), .slice none 0 0]) ?_ 2 _ rfl; (with_reducible repeat first | apply pN_ | apply pD_ | apply pA_); refine blk_put (cs := #[.int .i64 t102, .int .i64 0, .int .i64 0, .int .i64 0, .string (⟨#[]⟩ : ByteArray), .string (⟨#[]⟩ : ByteArray), .slice none 0 0]) ?_ 1 _ rfl; (with_reducible repeat first | apply pN_ | apply pD_ | apply pA_); refine blk_put (cs := #[.int .i64 0, .int .i64 0, .int .i64 0, .int .i64 0, .string (⟨#[]⟩ : ByteArray), .string (⟨#[]⟩ : ByteArray), .slice none 0 0]) ?_ 0 _ rfl; (with_reducible repeat first | apply pN_ | apply pD_ | apply pA_); exact BK113.out) hb); have n3_ := Aside0.mk (below_step (bU_ HB.out) hb); clear HO110; clear BK113; clear HB; have HO110 := n0_; have HO122 := n1_; have BK113 := n2_; have HB := n3_; clear n0_ n1_ n2_ n3_; (try clear hb); (try clear hb2); (try clear hk); (try clear hi); (try clear ho0)) | ((with_reducible refine gate_dst (N := 10) rfl ?_); (try (refine gate_guard (by rfl) ?_; dsimp only)); refine box_event ?hg (N := 10) ?hd (cs := #[.int .i64 0, .int .i64 0, .int .i64 0, .int .i64 0, .string (⟨#[]⟩ : ByteArray), .string (⟨#[]⟩ : ByteArray), .slice none 0 0]) (t := 25) ?hr ?_; (case hd => rfl); (case hg => rfl); (case hr => first | (go_simp; done) | (go_simp; rfl)); intro gb125 hg w91 hbox hb; have n0_ := Aside0.mk (Kd.R_below (by (with_reducible repeat first | apply Kd.R_alloc | apply Kd.R_drewN | apply Kd.R_drew); exact HO110.out) hb); have n1_ := Aside0.mk (Kd.R_below (by (with_reducible repeat first | apply Kd.R_alloc | apply Kd.R_drewN | apply Kd.R_drew); exact HO122.out) hb); have n2_ := Aside0.mk (blk_below (g := gb113) (o := .cells #[.int .i64 t102, .int .i64 t103, .int .i64 t104, .int .i64 t105, .string t106, .string t107, .slice Ao89 t108.length co89] 25 (0, 0)) (by (with_reducible repeat first | apply pN_ | apply pD_ | apply pA_); exact BK113.out) hb); have n3_ := Aside0.mk (below_step (bU_ HB.out) hb); have n4_ := Aside0.mk (hbox); have n5_ := Aside0.mk ((by rw [hg]; exact (below_size (bU_ HB.out)) : w.heap.size ≤ gb125)); have n6_ := Aside0.mk ((by rw [hg]; exact (below_size (bU_ HB.out)) : w.heap.size ≤ gb125)); have n7_ := Aside0.mk ((by rw [hg]; exact Nat.ne_of_lt (blk_lt (g := gb113) (o := .cells #[.int .i64 t102, .int .i64 t103, .int .i64 t104, .int .i64 t105, .string t106, .string t107, .slice Ao89 t108.length co89] 25 (0, 0)) (by (with_reducible repeat first | apply pN_ | apply pD_ | apply pA_); exact BK113.out)) : gb113 ≠ gb125)); have n8_ := Aside0.mk ((by rw [hg]; exact Nat.ne_of_gt (blk_lt (g := gb113) (o := .cells #[.int .i64 t102, .int .i64 t103, .int .i64 t104, .int .i64 t105, .string t106, .string t107, .slice Ao89 t108.length co89] 25 (0, 0)) (by (with_reducible repeat first | apply pN_ | apply pD_ | apply pA_); exact BK113.out)) : gb125 ≠ gb113)); clear HO110; clear HO122; clear BK113; clear HB; have HO110 := n0_; have HO122 := n1_; have BK113 := n2_; have HB := n3_; have BK125 := n4_; have GW125 := n5_; have GE125 := n6_; have NB113_125 := n7_; have NB125_113 := n8_; clear n0_ n1_ n2_ n3_ n4_ n5_ n6_ n7_ n8_; clear hb hbox hg; have hnb92 := NB125_113.out; have hnc92 := NB113_125.out; have hcz93_0 : w91.cell? ⟨gb125, 0, none⟩ = some (.int .i64 0) := (blk_cell BK125.out 0).trans rfl; have hcz93_1 : w91.cell? ⟨gb125, 1, none⟩ = some (.int .i64 0) := (blk_cell BK125.out 1).trans rfl; have hcz93_2 : w91.cell? ⟨gb125, 2, none⟩ = some (.int .i64 0) := (blk_cell BK125.out 2).trans rfl; have hcz93_3 : w91.cell? ⟨gb125, 3, none⟩ = some (.int .i64 0) := (blk_cell BK125.out 3).trans rfl; have hcz93_4 : w91.cell? ⟨gb125, 4, none⟩ = some (.string (⟨#[]⟩ : ByteArray)) := (blk_cell BK125.out 4).trans rfl; have hcz93_5 : w91.cell? ⟨gb125, 5, none⟩ = some (.string (⟨#[]⟩ : ByteArray)) := (blk_cell BK125.out 5).trans rfl; have hcz93_6 : w91.cell? ⟨gb125, 6, none⟩ = some (.slice none 0 0) := (blk_cell BK125.out 6).trans rfl; have hfz93_0 := blk_frozen BK125.out 0; have hfz93_1 := blk_frozen BK125.out 1; have hfz93_2 := blk_frozen BK125.out 2; have hfz93_3 := blk_frozen BK125.out 3; have hfz93_4 := blk_frozen BK125.out 4; have hfz93_5 := blk_frozen BK125.out 5; have hfz93_6 := blk_frozen BK125.out 6; obtain ⟨Ao94, co94, eo94⟩ := Kd.R_slice HO122.out; subst eo94) | ((with_reducible refine gate_callee (f := 8) rfl ?_); refine gL_ (some 43) rfl rfl Try.func8 (by kernel_rfl) rfl #[] rfl ?_; (with_reducible refine (rillmeterlaw07_awake.calls kj3  t126 _ hrt A85.out).mono ?_); rintro e w95 ⟨rfl, hb⟩; refine ⟨_, rfl, ?_⟩; have n0_ := Aside0.mk (Kd.R_below (by (with_reducible repeat first | apply Kd.R_alloc | apply Kd.R_drewN | apply Kd.R_drew); exact (Kd.R_mono (Kd.R_far (p := ⟨gb125, 6, none⟩) (Kd.R_far (p := ⟨gb125, 5, none⟩) (Kd.R_far (p := ⟨gb125, 4, none⟩) (Kd.R_far (p := ⟨gb125, 3, none⟩) (Kd.R_far (p := ⟨gb125, 2, none⟩) (Kd.R_far (p := ⟨gb125, 1, none⟩) (Kd.R_far (p := ⟨gb125, 0, none⟩) (Kd.R_types HO110.out BK125.out (by decide)) (fun _ hk => hk.2) (.int .i64 t114)) (fun _ hk => hk.2) (.int .i64 t115)) (fun _ hk => hk.2) (.int .i64 t116)) (fun _ hk => hk.2) (.int .i64 t117)) (fun _ hk => hk.2) (.string t118)) (fun _ hk => hk.2) (.string t119)) (fun _ hk => hk.2) (.slice Ao94 t120.length co94)) (fun _ h_ => h_.1))) hb); have n1_ := Aside0.mk (Kd.R_below (by (with_reducible repeat first | apply Kd.R_alloc | apply Kd.R_drewN | apply Kd.R_drew); exact (Kd.R_mono (Kd.R_far (p := ⟨gb125, 6, none⟩) (Kd.R_far (p := ⟨gb125, 5, none⟩) (Kd.R_far (p := ⟨gb125, 4, none⟩) (Kd.R_far (p := ⟨gb125, 3, none⟩) (Kd.R_far (p := ⟨gb125, 2, none⟩) (Kd.R_far (p := ⟨gb125, 1, none⟩) (Kd.R_far (p := ⟨gb125, 0, none⟩) (Kd.R_types HO122.out BK125.out (by decide)) (fun _ hk => hk.2) (.int .i64 t114)) (fun _ hk => hk.2) (.int .i64 t115)) (fun _ hk => hk.2) (.int .i64 t116)) (fun _ hk => hk.2) (.int .i64 t117)) (fun _ hk => hk.2) (.string t118)) (fun _ hk => hk.2) (.string t119)) (fun _ hk => hk.2) (.slice Ao94 t120.length co94)) (fun _ h_ => h_.1))) hb); have n2_ := Aside0.mk (blk_below (g := gb113) (o := .cells #[.int .i64 t102, .int .i64 t103, .int .i64 t104, .int .i64 t105, .string t106, .string t107, .slice Ao89 t108.length co89] 25 (0, 0)) (by (with_reducible repeat first | apply pN_ | apply pD_ | apply pA_); refine blk_far ?_ NB113_125.out _; (with_reducible repeat first | apply pN_ | apply pD_ | apply pA_); refine blk_far ?_ NB113_125.out _; (with_reducible repeat first | apply pN_ | apply pD_ | apply pA_); refine blk_far ?_ NB113_125.out _; (with_reducible repeat first | apply pN_ | apply pD_ | apply pA_); refine blk_far ?_ NB113_125.out _; (with_reducible repeat first | apply pN_ | apply pD_ | apply pA_); refine blk_far ?_ NB113_125.out _; (with_reducible repeat first | apply pN_ | apply pD_ | apply pA_); refine blk_far ?_ NB113_125.out _; (with_reducible repeat first | apply pN_ | apply pD_ | apply pA_); refine blk_far ?_ NB113_125.out _; (with_reducible repeat first | apply pN_ | apply pD_ | apply pA_); exact BK113.out) hb); have n3_ := Aside0.mk (blk_below (g := gb125) (o := .cells #[.int .i64 t114, .int .i64 t115, .int .i64 t116, .int .i64 t117, .string t118, .string t119, .slice Ao94 t120.length co94] 25 (0, 0)) (by (with_reducible repeat first | apply pN_ | apply pD_ | apply pA_); refine blk_put (cs := #[.int .i64 t114, .int .i64 t115, .int .i64 t116, .int .i64 t117, .string t118, .string t119, .slice none 0 0]) ?_ 6 _ rfl; (with_reducible repeat first | apply pN_ | apply pD_ | apply pA_); refine blk_put (cs := #[.int .i64 t114, .int .i64 t115, .int .i64 t116, .int .i64 t117, .string t118, .string (⟨#[]⟩ : ByteArray), .slice none 0 0]) ?_ 5 _ rfl; (with_reducible repeat first | apply pN_ | apply pD_ | apply pA_); refine blk_put (cs := #[.int .i64 t114, .int .i64 t115, .int .i64 t116, .int .i64 t117, .string (⟨#[]⟩ : ByteArray), .string (⟨#[]⟩ : ByteArray), .slice none 0 0]) ?_ 4 _ rfl; (with_reducible repeat first | apply pN_ | apply pD_ | apply pA_); refine blk_put (cs := #[.int .i64 t114, .int .i64 t115, .int .i64 t116, .int .i64 0, .string (⟨#[]⟩ : ByteArray), .string (⟨#[]⟩ : ByteArray), .slice none 0 0]) ?_ 3 _ rfl; (with_reducible repeat first | apply pN_ | apply pD_ | apply pA_); refine blk_put (cs := #[.int .i64 t114, .int .i64 t115, .int .i64 0, .int .i64 0, .string (⟨#[]⟩ : ByteArray), .string (⟨#[]⟩ : ByteArray), .slice none 0 0]) ?_ 2 _ rfl; (with_reducible repeat first | apply pN_ | apply pD_ | apply pA_); refine blk_put (cs := #[.int .i64 t114, .int .i64 0, .int .i64 0, .int .i64 0, .string (⟨#[]⟩ : ByteArray), .string (⟨#[]⟩ : ByteArray), .slice none 0 0]) ?_ 1 _ rfl; (with_reducible repeat first | apply pN_ | apply pD_ | apply pA_); refine blk_put (cs := #[.int .i64 0, .int .i64 0, .int .i64 0, .int .i64 0, .string (⟨#[]⟩ : ByteArray), .string (⟨#[]⟩ : ByteArray), .slice none 0 0]) ?_ 0 _ rfl; (with_reducible repeat first | apply pN_ | apply pD_ | apply pA_); exact BK125.out) hb); have n4_ := Aside0.mk (below_step (bU_ HB.out) hb); clear HO110; clear HO122; clear BK113; clear BK125; clear HB; have HO110 := n0_; have HO122 := n1_; have BK113 := n2_; have BK125 := n3_; have HB := n4_; clear n0_ n1_ n2_ n3_ n4_; (try clear hb); (try clear hb2); (try clear hk); (try clear hi)))
      go_ret
      exact ⟨by first | rfl | (simp [errW_none, errW_some] <;> rfl) | (simp [*, errW_none, errW_some] <;> rfl), bU_ HB.out⟩
    ·rw [if_neg c10] at H
     exact absurd H (by simp)

/-- THE ONE PURE STATEMENT of rillmeterlaw07_IpsixTrail: yours. -/
def rillmeterlaw07_IpsixTrail.Pure : Prop := ∀ (a0 : ByteArray) (a1 : ByteArray) (a2 : Int), a0.size ≤ 140737488351232 → a1.size ≤ 140737488351232 → (Lit.int .i64 a2).wf = true → ∃ k, rillmeterlaw07_IpsixTrail.f k a0 a1 a2 = some true
theorem rillmeterlaw07_IpsixTrail.walk (P : rillmeterlaw07_IpsixTrail.Pure) (a0 : ByteArray) (a1 : ByteArray) (a2 : Int) (w : World) (w0 : a0.size ≤ 140737488351232) (w1 : a1.size ≤ 140737488351232) (w2 : (Lit.int .i64 a2).wf = true) :
  Calls Try.prog 7 #[.string a0, .string a1, .int .i64 a2] w fun e w' => e = .returned (.bool true) ∧ Below w.heap.size w w' := by
 obtain ⟨k, h⟩ := P a0 a1 a2 w0 w1 w2
 refine (rillmeterlaw07_IpsixTrail.calls k a0 a1 a2 true w (Aside0.mk rfl) h).mono ?_
 rintro e w' ⟨rfl, hd⟩
 exact ⟨rfl, hd⟩

end Go.Proofs.Ytmjpemnlilcpkaa.Q
