-- made by a program of this session (wip/print-patch.py, over the kit's print)
import Derived.Test.YtmjpemnlilcpkaaQx0
import Derived.Test.YtmjpemnlilcpkaaQx6
import Derived.Test.YtmjpemnlilcpkaaQx8
import Derived.Test.YtmjpemnlilcpkaaQx9
import Derived.Test.YtmjpemnlilcpkaaQx12
import Derived.Test.YtmjpemnlilcpkaaQx13
import Derived.Test.YtmjpemnlilcpkaaQx15
import Derived.Test.YtmjpemnlilcpkaaQx16
import Derived.Test.YtmjpemnlilcpkaaQx17
import Derived.Test.YtmjpemnlilcpkaaQx19
import Derived.Test.YtmjpemnlilcpkaaQx20
import Derived.Test.YtmjpemnlilcpkaaQx22
namespace Go.Proofs.Ytmjpemnlilcpkaa.Q
open Go.RowKit Go.Proofs.YtmjpemnlilcpkaaW.PrintWords Go.Proofs.YtmjpemnlilcpkaaW.PrintLast Go.Proofs.YtmjpemnlilcpkaaW.PrintMore
attribute [local go_sem] max2_int min2_int max_two min_two max_three min_three max_four min_four   -- for this text's walks alone
set_option linter.unusedVariables false
set_option linter.unusedSimpArgs false

attribute [local go_sem] cell_twice_ cell_twiceN_
/-! ### rillmeterlaw07_IpsixPuts: function 4 -/
mutual
def rillmeterlaw07_IpsixPuts.j0 : Nat → ByteArray → ByteArray → Bool → Int → Int → Int → Int → ByteArray → ByteArray → List (S49) → Int → Int → Int → Int → ByteArray → ByteArray → List (S57) → Option (Bool)
 | 0, _, _, _, _, _, _, _, _, _, _, _, _, _, _, _, _, _ => none
 | k + 1, x1, x2, x30, x102000, x102001, x102002, x102003, x102004, x102005, x102006, x112000, x112001, x112002, x112003, x112004, x112005, x112006 => if x30 = true then ((rillmeterlaw07_awake.f k).bind fun t113 => (some t113)) else ((ipsix_Put.f k x102000 x102001 x102002 x102003 x102004 x102005 x102006 x1).bind fun bt114 => ((rillmeterref07_Right.f k x112000 x112001 x112002 x112003 x112004 x112005 x112006).bind fun t116 => ((ipsix_Right.f k x102000 x102001 x102002 x102003 x102004 x102005 x102006).bind fun t117 => (if (t117 != t116) = true then (rillmeterlaw07_IpsixPuts.j1 k x1 x2 bt114.1 bt114.2 t116 true x112000 x112001 x112002 x112003 x112004 x112005 x112006) else ((ipsix_Piece.f k x102000 x102001 x102002 x102003 x102004 x102005 x102006).bind fun t118 => ((rillmeterref07_Piece.f k x112000 x112001 x112002 x112003 x112004 x112005 x112006).bind fun t119 => (rillmeterlaw07_IpsixPuts.j1 k x1 x2 bt114.1 bt114.2 t116 (t118 != t119) x112000 x112001 x112002 x112003 x112004 x112005 x112006)))))))
def rillmeterlaw07_IpsixPuts.j1 : Nat → ByteArray → ByteArray → ByteArray → Int → Bool → Bool → Int → Int → Int → Int → ByteArray → ByteArray → List (S57) → Option (Bool)
 | 0, _, _, _, _, _, _, _, _, _, _, _, _, _ => none
 | k + 1, x1, x2, x8, x9, x10, x50, x112000, x112001, x112002, x112003, x112004, x112005, x112006 => if x50 = true then (some false) else (if x10 = true then ((rillmeterref07_Put.f k x112000 x112001 x112002 x112003 x112004 x112005 x112006 x1).bind fun bt121 => (if x8.size + x2.size ≤ 9223372036854775807 then ((ipsix_Take.f k (x8 ++ x2)).bind fun bt123 => (if x8.toList = bt121.1.toList then (if x9 = 0 then ((rillmeterlaw07_ref.f k bt123.1 bt123.2.1 bt123.2.2.1 bt123.2.2.2.1 bt123.2.2.2.2.1 bt123.2.2.2.2.2.1 bt123.2.2.2.2.2.2.1).bind fun bt135 => ((rillmeterref07_Equal.f k bt135.1 bt135.2.1 bt135.2.2.1 bt135.2.2.2.1 bt135.2.2.2.2.1 bt135.2.2.2.2.2.1 bt135.2.2.2.2.2.2 x112000 x112001 x112002 x112003 x112004 x112005 x112006).bind fun t144 => (if t144 = true then (if bt123.2.2.2.2.2.2.2.1.toList = x1.toList then (if bt123.2.2.2.2.2.2.2.2 = 0 then ((rillmeterlaw07_awake.f k).bind fun t145 => (some t145)) else (some false)) else (some false)) else (some false)))) else (some false)) else (some false))) else (none))) else (if x8.toList = ([] : List UInt8) then (if x9 = 1 then ((rillmeterlaw07_awake.f k).bind fun t120 => (some t120)) else (some false)) else (some false)))
end
def rillmeterlaw07_IpsixPuts.f (k : Nat) (a0_0 : Int) (a0_1 : Int) (a0_2 : Int) (a0_3 : Int) (a0_4 : ByteArray) (a0_5 : ByteArray) (l0_6 : List (S49)) (a1 : ByteArray) (a2 : ByteArray) : Option (Bool) := (rillmeterlaw07_ref.f k a0_0 a0_1 a0_2 a0_3 a0_4 a0_5 l0_6).bind fun bt102 => ((rillmeterref07_Small.f k bt102.1 bt102.2.1 bt102.2.2.1 bt102.2.2.2.1 bt102.2.2.2.2.1 bt102.2.2.2.2.2.1 bt102.2.2.2.2.2.2).bind fun t112 => (if t112 = true then (if (a1.size : Int) > 4096 then (rillmeterlaw07_IpsixPuts.j0 k a1 a2 true a0_0 a0_1 a0_2 a0_3 a0_4 a0_5 l0_6 bt102.1 bt102.2.1 bt102.2.2.1 bt102.2.2.2.1 bt102.2.2.2.2.1 bt102.2.2.2.2.2.1 bt102.2.2.2.2.2.2) else (rillmeterlaw07_IpsixPuts.j0 k a1 a2 (decide ((a2.size : Int) > 4096)) a0_0 a0_1 a0_2 a0_3 a0_4 a0_5 l0_6 bt102.1 bt102.2.1 bt102.2.2.1 bt102.2.2.2.1 bt102.2.2.2.2.1 bt102.2.2.2.2.2.1 bt102.2.2.2.2.2.2)) else (rillmeterlaw07_IpsixPuts.j0 k a1 a2 true a0_0 a0_1 a0_2 a0_3 a0_4 a0_5 l0_6 bt102.1 bt102.2.1 bt102.2.2.1 bt102.2.2.2.1 bt102.2.2.2.2.1 bt102.2.2.2.2.2.1 bt102.2.2.2.2.2.2)))
theorem rillmeterlaw07_IpsixPuts.mono_l : ∀ k, (∀ y0 y1 y2 y3 y4 y5 y6 y7 y8 y9 y10 y11 y12 y13 y14 y15 y16, LeO (rillmeterlaw07_IpsixPuts.j0 k y0 y1 y2 y3 y4 y5 y6 y7 y8 y9 y10 y11 y12 y13 y14 y15 y16) (rillmeterlaw07_IpsixPuts.j0 (k + 1) y0 y1 y2 y3 y4 y5 y6 y7 y8 y9 y10 y11 y12 y13 y14 y15 y16)) ∧ (∀ y0 y1 y2 y3 y4 y5 y6 y7 y8 y9 y10 y11 y12, LeO (rillmeterlaw07_IpsixPuts.j1 k y0 y1 y2 y3 y4 y5 y6 y7 y8 y9 y10 y11 y12) (rillmeterlaw07_IpsixPuts.j1 (k + 1) y0 y1 y2 y3 y4 y5 y6 y7 y8 y9 y10 y11 y12))
 | 0 => ⟨fun _ _ _ _ _ _ _ _ _ _ _ _ _ _ _ _ _ r h => by simp [rillmeterlaw07_IpsixPuts.j0] at h, fun _ _ _ _ _ _ _ _ _ _ _ _ _ r h => by simp [rillmeterlaw07_IpsixPuts.j1] at h⟩
 | k + 1 => by
  obtain ⟨ih0, ih1⟩ := rillmeterlaw07_IpsixPuts.mono_l k
  refine ⟨?_, ?_⟩
  ·intro y0 y1 y2 y3 y4 y5 y6 y7 y8 y9 y10 y11 y12 y13 y14 y15 y16
   unfold rillmeterlaw07_IpsixPuts.j0
   repeat' first
   | (with_reducible exact ih0 _ _ _ _ _ _ _ _ _ _ _ _ _ _ _ _ _)
   | (with_reducible exact ih1 _ _ _ _ _ _ _ _ _ _ _ _ _)
   | (with_reducible exact ipsix_Piece.mono _ _ _ _ _ _ _ _)
   | (with_reducible exact ipsix_Put.mono _ _ _ _ _ _ _ _ _)
   | (with_reducible exact ipsix_Right.mono _ _ _ _ _ _ _ _)
   | (with_reducible exact ipsix_Take.mono _ _)
   | (with_reducible exact rillmeterlaw07_awake.mono _)
   | (with_reducible exact rillmeterlaw07_ref.mono _ _ _ _ _ _ _ _)
   | (with_reducible exact rillmeterref07_Equal.mono _ _ _ _ _ _ _ _ _ _ _ _ _ _ _)
   | (with_reducible exact rillmeterref07_Piece.mono _ _ _ _ _ _ _ _)
   | (with_reducible exact rillmeterref07_Put.mono _ _ _ _ _ _ _ _ _)
   | (with_reducible exact rillmeterref07_Right.mono _ _ _ _ _ _ _ _)
   | (with_reducible exact rillmeterref07_Small.mono _ _ _ _ _ _ _ _)
   | (with_reducible exact LeO.refl _)
   | (with_reducible exact LeO.none _)
   | (with_reducible refine LeO.ite ?_ ?_)
   | (with_reducible refine LeO.bind ?_ (fun _ => ?_))
   | exact ih0 _ _ _ _ _ _ _ _ _ _ _ _ _ _ _ _ _
   | exact ih1 _ _ _ _ _ _ _ _ _ _ _ _ _
   | exact ipsix_Piece.mono _ _ _ _ _ _ _ _
   | exact ipsix_Put.mono _ _ _ _ _ _ _ _ _
   | exact ipsix_Right.mono _ _ _ _ _ _ _ _
   | exact ipsix_Take.mono _ _
   | exact rillmeterlaw07_awake.mono _
   | exact rillmeterlaw07_ref.mono _ _ _ _ _ _ _ _
   | exact rillmeterref07_Equal.mono _ _ _ _ _ _ _ _ _ _ _ _ _ _ _
   | exact rillmeterref07_Piece.mono _ _ _ _ _ _ _ _
   | exact rillmeterref07_Put.mono _ _ _ _ _ _ _ _ _
   | exact rillmeterref07_Right.mono _ _ _ _ _ _ _ _
   | exact rillmeterref07_Small.mono _ _ _ _ _ _ _ _
   | exact LeO.none _
   | refine LeO.ite ?_ ?_
   | refine LeO.bind ?_ (fun _ => ?_)
  ·intro y0 y1 y2 y3 y4 y5 y6 y7 y8 y9 y10 y11 y12
   unfold rillmeterlaw07_IpsixPuts.j1
   repeat' first
   | (with_reducible exact ih0 _ _ _ _ _ _ _ _ _ _ _ _ _ _ _ _ _)
   | (with_reducible exact ih1 _ _ _ _ _ _ _ _ _ _ _ _ _)
   | (with_reducible exact ipsix_Piece.mono _ _ _ _ _ _ _ _)
   | (with_reducible exact ipsix_Put.mono _ _ _ _ _ _ _ _ _)
   | (with_reducible exact ipsix_Right.mono _ _ _ _ _ _ _ _)
   | (with_reducible exact ipsix_Take.mono _ _)
   | (with_reducible exact rillmeterlaw07_awake.mono _)
   | (with_reducible exact rillmeterlaw07_ref.mono _ _ _ _ _ _ _ _)
   | (with_reducible exact rillmeterref07_Equal.mono _ _ _ _ _ _ _ _ _ _ _ _ _ _ _)
   | (with_reducible exact rillmeterref07_Piece.mono _ _ _ _ _ _ _ _)
   | (with_reducible exact rillmeterref07_Put.mono _ _ _ _ _ _ _ _ _)
   | (with_reducible exact rillmeterref07_Right.mono _ _ _ _ _ _ _ _)
   | (with_reducible exact rillmeterref07_Small.mono _ _ _ _ _ _ _ _)
   | (with_reducible exact LeO.refl _)
   | (with_reducible exact LeO.none _)
   | (with_reducible refine LeO.ite ?_ ?_)
   | (with_reducible refine LeO.bind ?_ (fun _ => ?_))
   | exact ih0 _ _ _ _ _ _ _ _ _ _ _ _ _ _ _ _ _
   | exact ih1 _ _ _ _ _ _ _ _ _ _ _ _ _
   | exact ipsix_Piece.mono _ _ _ _ _ _ _ _
   | exact ipsix_Put.mono _ _ _ _ _ _ _ _ _
   | exact ipsix_Right.mono _ _ _ _ _ _ _ _
   | exact ipsix_Take.mono _ _
   | exact rillmeterlaw07_awake.mono _
   | exact rillmeterlaw07_ref.mono _ _ _ _ _ _ _ _
   | exact rillmeterref07_Equal.mono _ _ _ _ _ _ _ _ _ _ _ _ _ _ _
   | exact rillmeterref07_Piece.mono _ _ _ _ _ _ _ _
   | exact rillmeterref07_Put.mono _ _ _ _ _ _ _ _ _
   | exact rillmeterref07_Right.mono _ _ _ _ _ _ _ _
   | exact rillmeterref07_Small.mono _ _ _ _ _ _ _ _
   | exact LeO.none _
   | refine LeO.ite ?_ ?_
   | refine LeO.bind ?_ (fun _ => ?_)
theorem rillmeterlaw07_IpsixPuts.mono : ∀ a0 a1 a2 a3 a4 a5 a6 a7 a8 k, LeO (rillmeterlaw07_IpsixPuts.f k a0 a1 a2 a3 a4 a5 a6 a7 a8) (rillmeterlaw07_IpsixPuts.f (k + 1) a0 a1 a2 a3 a4 a5 a6 a7 a8) := by
 intro a0 a1 a2 a3 a4 a5 a6 a7 a8 k
 obtain ⟨ih0, ih1⟩ := rillmeterlaw07_IpsixPuts.mono_l k
 unfold rillmeterlaw07_IpsixPuts.f
 repeat' first
   | (with_reducible exact ih0 _ _ _ _ _ _ _ _ _ _ _ _ _ _ _ _ _)
   | (with_reducible exact ih1 _ _ _ _ _ _ _ _ _ _ _ _ _)
   | (with_reducible exact ipsix_Piece.mono _ _ _ _ _ _ _ _)
   | (with_reducible exact ipsix_Put.mono _ _ _ _ _ _ _ _ _)
   | (with_reducible exact ipsix_Right.mono _ _ _ _ _ _ _ _)
   | (with_reducible exact ipsix_Take.mono _ _)
   | (with_reducible exact rillmeterlaw07_awake.mono _)
   | (with_reducible exact rillmeterlaw07_ref.mono _ _ _ _ _ _ _ _)
   | (with_reducible exact rillmeterref07_Equal.mono _ _ _ _ _ _ _ _ _ _ _ _ _ _ _)
   | (with_reducible exact rillmeterref07_Piece.mono _ _ _ _ _ _ _ _)
   | (with_reducible exact rillmeterref07_Put.mono _ _ _ _ _ _ _ _ _)
   | (with_reducible exact rillmeterref07_Right.mono _ _ _ _ _ _ _ _)
   | (with_reducible exact rillmeterref07_Small.mono _ _ _ _ _ _ _ _)
   | (with_reducible exact LeO.refl _)
   | (with_reducible exact LeO.none _)
   | (with_reducible refine LeO.ite ?_ ?_)
   | (with_reducible refine LeO.bind ?_ (fun _ => ?_))
   | exact ih0 _ _ _ _ _ _ _ _ _ _ _ _ _ _ _ _ _
   | exact ih1 _ _ _ _ _ _ _ _ _ _ _ _ _
   | exact ipsix_Piece.mono _ _ _ _ _ _ _ _
   | exact ipsix_Put.mono _ _ _ _ _ _ _ _ _
   | exact ipsix_Right.mono _ _ _ _ _ _ _ _
   | exact ipsix_Take.mono _ _
   | exact rillmeterlaw07_awake.mono _
   | exact rillmeterlaw07_ref.mono _ _ _ _ _ _ _ _
   | exact rillmeterref07_Equal.mono _ _ _ _ _ _ _ _ _ _ _ _ _ _ _
   | exact rillmeterref07_Piece.mono _ _ _ _ _ _ _ _
   | exact rillmeterref07_Put.mono _ _ _ _ _ _ _ _ _
   | exact rillmeterref07_Right.mono _ _ _ _ _ _ _ _
   | exact rillmeterref07_Small.mono _ _ _ _ _ _ _ _
   | exact LeO.none _
   | refine LeO.ite ?_ ?_
   | refine LeO.bind ?_ (fun _ => ?_)
def rillmeterlaw07_IpsixPuts.T6 : Bool × List (List Nat × List Nat) := (true, [([], []), ([0], [0]), ([], []), ([1, 2], [1, 2]), ([3, 1], [3]), ([4], [4]), ([5, 4, 4], [4, 5]), ([4], [4]), ([7, 6, 4], [4, 7]), ([6, 8, 4], [4, 6, 8]), ([4, 9], [4, 9])])
def rillmeterlaw07_IpsixPuts.B6 : List Nat := [0, 1, 0, 7, 15, 31, 63, 31, 255, 511, 1023]
theorem rillmeterlaw07_IpsixPuts.tab6 : rtab .any (opsOf Try.f4 6) = rillmeterlaw07_IpsixPuts.T6 := by kernel_rfl
theorem rillmeterlaw07_IpsixPuts.bits6 : waitsOk rillmeterlaw07_IpsixPuts.T6.2 rillmeterlaw07_IpsixPuts.B6 = true := by kernel_rfl
def rillmeterlaw07_IpsixPuts.T12 : Bool × List (List Nat × List Nat) := (true, [([], []), ([], []), ([0, 1], [0, 1]), ([2], [2]), ([3], [3]), ([4, 3], [3, 4]), ([3, 5], [3, 5]), ([6, 3], [6]), ([7], [7]), ([8, 7, 7], [7, 8]), ([7], [7]), ([9, 10, 9, 7], [7, 9, 10]), ([7, 11], [7, 11]), ([12, 11], [12]), ([13], [13]), ([13], [13]), ([14, 15, 13], [13, 14, 15]), ([13, 16], [13, 16]), ([17, 13], [17]), ([18], [18]), ([19, 18], [18, 19]), ([18, 20], [18, 20]), ([21, 18], [21]), ([22, 22], [22]), ([22, 23], [22, 23]), ([24, 23, 0, 1, 2, 3, 4, 5, 6, 7, 8, 9, 10, 11, 12, 13, 14, 15, 16, 17, 18, 19, 20, 21, 22, 23, 24], [24])])
def rillmeterlaw07_IpsixPuts.B12 : List Nat := [0, 0, 3, 7, 15, 31, 63, 127, 255, 511, 255, 2047, 4095, 8191, 16383, 16383, 65535, 131071, 262143, 524287, 1048575, 2097151, 4194303, 8388607, 16777215, 33554431]
theorem rillmeterlaw07_IpsixPuts.tab12 : rtab .any (opsOf Try.f4 12) = rillmeterlaw07_IpsixPuts.T12 := by kernel_rfl
theorem rillmeterlaw07_IpsixPuts.bits12 : waitsOk rillmeterlaw07_IpsixPuts.T12.2 rillmeterlaw07_IpsixPuts.B12 = true := by kernel_rfl
set_option maxHeartbeats 8000000 in
set_option maxRecDepth 100000 in
theorem rillmeterlaw07_IpsixPuts.calls (k : Nat) (a0_0 : Int) (a0_1 : Int) (a0_2 : Int) (a0_3 : Int) (a0_4 : ByteArray) (a0_5 : ByteArray) (A0_6 : Option Addr) (c0_6 : Nat) (l0_6 : List (S49)) (a1 : ByteArray) (a2 : ByteArray) (r : Bool) (w : World) (hr0_6 : Kd.C k49 w A0_6 l0_6.length l0_6) (hc0_6 : l0_6.length ≤ c0_6) (hrt : Aside0 (r = true)) (h : rillmeterlaw07_IpsixPuts.f k a0_0 a0_1 a0_2 a0_3 a0_4 a0_5 l0_6 a1 a2 = some r) :
  Calls Try.prog 4 #[.agg #[.int .i64 a0_0, .int .i64 a0_1, .int .i64 a0_2, .int .i64 a0_3, .string a0_4, .string a0_5, .slice A0_6 l0_6.length c0_6], .string a1, .string a2] w fun e w' => e = .returned (.bool r) ∧ Below w.heap.size w w' := by
 have hu25 := Try.underlying25
 have hu31 := Try.underlying31
 have HR0_6 := Aside0.mk hr0_6
 have HC0_6 := Aside0.mk hc0_6
 clear hr0_6 hc0_6
 have HB := Aside0.mk (Below.refl w.heap.size w)
 have H : ((rillmeterlaw07_ref.f k a0_0 a0_1 a0_2 a0_3 a0_4 a0_5 l0_6).bind fun bt102 => ((rillmeterref07_Small.f k bt102.1 bt102.2.1 bt102.2.2.1 bt102.2.2.2.1 bt102.2.2.2.2.1 bt102.2.2.2.2.2.1 bt102.2.2.2.2.2.2).bind fun t112 => (if t112 = true then (if (a1.size : Int) > 4096 then (rillmeterlaw07_IpsixPuts.j0 k a1 a2 true a0_0 a0_1 a0_2 a0_3 a0_4 a0_5 l0_6 bt102.1 bt102.2.1 bt102.2.2.1 bt102.2.2.2.1 bt102.2.2.2.2.1 bt102.2.2.2.2.2.1 bt102.2.2.2.2.2.2) else (rillmeterlaw07_IpsixPuts.j0 k a1 a2 (decide ((a2.size : Int) > 4096)) a0_0 a0_1 a0_2 a0_3 a0_4 a0_5 l0_6 bt102.1 bt102.2.1 bt102.2.2.1 bt102.2.2.2.1 bt102.2.2.2.2.1 bt102.2.2.2.2.2.1 bt102.2.2.2.2.2.2)) else (rillmeterlaw07_IpsixPuts.j0 k a1 a2 true a0_0 a0_1 a0_2 a0_3 a0_4 a0_5 l0_6 bt102.1 bt102.2.1 bt102.2.2.1 bt102.2.2.2.1 bt102.2.2.2.2.1 bt102.2.2.2.2.2.1 bt102.2.2.2.2.2.2)))) = some r := h
 clear h
 replace H := Option.bind_eq_some_iff.mp H
 obtain ⟨⟨t102, t103, t104, t105, t106, t107, t108⟩, A40, H⟩ := H
 replace H : ((rillmeterref07_Small.f k t102 t103 t104 t105 t106 t107 t108).bind fun t112 => (if t112 = true then (if (a1.size : Int) > 4096 then (rillmeterlaw07_IpsixPuts.j0 k a1 a2 true a0_0 a0_1 a0_2 a0_3 a0_4 a0_5 l0_6 t102 t103 t104 t105 t106 t107 t108) else (rillmeterlaw07_IpsixPuts.j0 k a1 a2 (decide ((a2.size : Int) > 4096)) a0_0 a0_1 a0_2 a0_3 a0_4 a0_5 l0_6 t102 t103 t104 t105 t106 t107 t108)) else (rillmeterlaw07_IpsixPuts.j0 k a1 a2 true a0_0 a0_1 a0_2 a0_3 a0_4 a0_5 l0_6 t102 t103 t104 t105 t106 t107 t108))) = some r := H
 have A4 := Aside0.mk A40
 clear A40
 have HC5 := Aside0.mk H
 clear H
 go_enter Try.func4, Try.ntmps4
 go_upto_region 2 with (first | ((with_reducible refine gate_dst (N := 3) rfl ?_); (try (refine gate_guard (by rfl) ?_; dsimp only)); refine box_event ?hg (N := 3) ?hd (cs := #[.int .i64 a0_0, .int .i64 a0_1, .int .i64 a0_2, .int .i64 a0_3, .string a0_4, .string a0_5, .slice A0_6 l0_6.length c0_6]) (t := 25) ?hr ?_; (case hd => rfl); (case hg => rfl); (case hr => first | (go_simp; done) | (go_simp; rfl)); intro gb101 hg w6 hbox hb; have n0_ := Aside0.mk (below_step (bU_ HB.out) hb); have n1_ := Aside0.mk (hbox); have n2_ := Aside0.mk ((by rw [hg]; exact (below_size (bU_ HB.out)) : w.heap.size ≤ gb101)); have n3_ := Aside0.mk ((by rw [hg]; exact (below_size (bU_ HB.out)) : w.heap.size ≤ gb101)); clear HB; have HB := n0_; have BK101 := n1_; have GW101 := n2_; have GE101 := n3_; clear n0_ n1_ n2_ n3_; clear hb hbox hg; have hcz7_0 : w6.cell? ⟨gb101, 0, none⟩ = some (.int .i64 a0_0) := (blk_cell BK101.out 0).trans rfl; have hcz7_1 : w6.cell? ⟨gb101, 1, none⟩ = some (.int .i64 a0_1) := (blk_cell BK101.out 1).trans rfl; have hcz7_2 : w6.cell? ⟨gb101, 2, none⟩ = some (.int .i64 a0_2) := (blk_cell BK101.out 2).trans rfl; have hcz7_3 : w6.cell? ⟨gb101, 3, none⟩ = some (.int .i64 a0_3) := (blk_cell BK101.out 3).trans rfl; have hcz7_4 : w6.cell? ⟨gb101, 4, none⟩ = some (.string a0_4) := (blk_cell BK101.out 4).trans rfl; have hcz7_5 : w6.cell? ⟨gb101, 5, none⟩ = some (.string a0_5) := (blk_cell BK101.out 5).trans rfl; have hcz7_6 : w6.cell? ⟨gb101, 6, none⟩ = some (.slice A0_6 l0_6.length c0_6) := (blk_cell BK101.out 6).trans rfl; have hfz7_0 := blk_frozen BK101.out 0; have hfz7_1 := blk_frozen BK101.out 1; have hfz7_2 := blk_frozen BK101.out 2; have hfz7_3 := blk_frozen BK101.out 3; have hfz7_4 := blk_frozen BK101.out 4; have hfz7_5 := blk_frozen BK101.out 5; have hfz7_6 := blk_frozen BK101.out 6) | ((with_reducible refine gate_callee (f := 12) rfl ?_); refine gL_ (some 17) rfl rfl Try.func12 (by kernel_rfl) rfl #[.agg #[.int .i64 a0_0, .int .i64 a0_1, .int .i64 a0_2, .int .i64 a0_3, .string a0_4, .string a0_5, .slice A0_6 l0_6.length c0_6]] rfl ?_; (with_reducible refine (rillmeterlaw07_ref.calls k a0_0 a0_1 a0_2 a0_3 a0_4 a0_5 _ _ l0_6 t102 t103 t104 t105 t106 t107 t108 _ ?side1 ?side2 A4.out).mono ?_); (case side1 => repeat (first | exact (Kd.C_below HR0_6.out HB.out) | (with_reducible refine Kd.C_alloc ?_ _) | (with_reducible refine Kd.C_drewN ?_ _) | (with_reducible refine Kd.C_drew ?_))); (case side2 => exact HC0_6.out); rintro e w8 ⟨v109, rfl, ho0, hb⟩; refine ⟨_, rfl, ?_⟩; have n0_ := Aside0.mk (Kd.R_lower ho0 (below_size (bU_ HB.out))); have n1_ := Aside0.mk (blk_below (g := gb101) (o := .cells #[.int .i64 a0_0, .int .i64 a0_1, .int .i64 a0_2, .int .i64 a0_3, .string a0_4, .string a0_5, .slice A0_6 l0_6.length c0_6] 25 (0, 0)) (by (with_reducible repeat first | apply pN_ | apply pD_ | apply pA_); exact BK101.out) hb); have n2_ := Aside0.mk (below_step (bU_ HB.out) hb); clear BK101; clear HB; have HO110 := n0_; have BK101 := n1_; have HB := n2_; clear n0_ n1_ n2_; (try clear hb); (try clear hb2); (try clear hk); (try clear hi); (try clear ho0)) | ((with_reducible refine gate_dst (N := 7) rfl ?_); (try (refine gate_guard (by rfl) ?_; dsimp only)); refine box_event ?hg (N := 7) ?hd (cs := #[.int .i64 0, .int .i64 0, .int .i64 0, .int .i64 0, .string (⟨#[]⟩ : ByteArray), .string (⟨#[]⟩ : ByteArray), .slice none 0 0]) (t := 31) ?hr ?_; (case hd => rfl); (case hg => rfl); (case hr => first | (go_simp; done) | (go_simp; rfl)); intro gb111 hg w9 hbox hb; have n0_ := Aside0.mk (Kd.R_below (by (with_reducible repeat first | apply Kd.R_alloc | apply Kd.R_drewN | apply Kd.R_drew); exact HO110.out) hb); have n1_ := Aside0.mk (blk_below (g := gb101) (o := .cells #[.int .i64 a0_0, .int .i64 a0_1, .int .i64 a0_2, .int .i64 a0_3, .string a0_4, .string a0_5, .slice A0_6 l0_6.length c0_6] 25 (0, 0)) (by (with_reducible repeat first | apply pN_ | apply pD_ | apply pA_); exact BK101.out) hb); have n2_ := Aside0.mk (below_step (bU_ HB.out) hb); have n3_ := Aside0.mk (hbox); have n4_ := Aside0.mk ((by rw [hg]; exact (below_size (bU_ HB.out)) : w.heap.size ≤ gb111)); have n5_ := Aside0.mk ((by rw [hg]; exact (below_size (bU_ HB.out)) : w.heap.size ≤ gb111)); have n6_ := Aside0.mk ((by rw [hg]; exact Nat.ne_of_lt (blk_lt (g := gb101) (o := .cells #[.int .i64 a0_0, .int .i64 a0_1, .int .i64 a0_2, .int .i64 a0_3, .string a0_4, .string a0_5, .slice A0_6 l0_6.length c0_6] 25 (0, 0)) (by (with_reducible repeat first | apply pN_ | apply pD_ | apply pA_); exact BK101.out)) : gb101 ≠ gb111)); have n7_ := Aside0.mk ((by rw [hg]; exact Nat.ne_of_gt (blk_lt (g := gb101) (o := .cells #[.int .i64 a0_0, .int .i64 a0_1, .int .i64 a0_2, .int .i64 a0_3, .string a0_4, .string a0_5, .slice A0_6 l0_6.length c0_6] 25 (0, 0)) (by (with_reducible repeat first | apply pN_ | apply pD_ | apply pA_); exact BK101.out)) : gb111 ≠ gb101)); clear HO110; clear BK101; clear HB; have HO110 := n0_; have BK101 := n1_; have HB := n2_; have BK111 := n3_; have GW111 := n4_; have GE111 := n5_; have NB101_111 := n6_; have NB111_101 := n7_; clear n0_ n1_ n2_ n3_ n4_ n5_ n6_ n7_; clear hb hbox hg; have hnb10 := NB111_101.out; have hnc10 := NB101_111.out; have hcz11_0 : w9.cell? ⟨gb111, 0, none⟩ = some (.int .i64 0) := (blk_cell BK111.out 0).trans rfl; have hcz11_1 : w9.cell? ⟨gb111, 1, none⟩ = some (.int .i64 0) := (blk_cell BK111.out 1).trans rfl; have hcz11_2 : w9.cell? ⟨gb111, 2, none⟩ = some (.int .i64 0) := (blk_cell BK111.out 2).trans rfl; have hcz11_3 : w9.cell? ⟨gb111, 3, none⟩ = some (.int .i64 0) := (blk_cell BK111.out 3).trans rfl; have hcz11_4 : w9.cell? ⟨gb111, 4, none⟩ = some (.string (⟨#[]⟩ : ByteArray)) := (blk_cell BK111.out 4).trans rfl; have hcz11_5 : w9.cell? ⟨gb111, 5, none⟩ = some (.string (⟨#[]⟩ : ByteArray)) := (blk_cell BK111.out 5).trans rfl; have hcz11_6 : w9.cell? ⟨gb111, 6, none⟩ = some (.slice none 0 0) := (blk_cell BK111.out 6).trans rfl; have hfz11_0 := blk_frozen BK111.out 0; have hfz11_1 := blk_frozen BK111.out 1; have hfz11_2 := blk_frozen BK111.out 2; have hfz11_3 := blk_frozen BK111.out 3; have hfz11_4 := blk_frozen BK111.out 4; have hfz11_5 := blk_frozen BK111.out 5; have hfz11_6 := blk_frozen BK111.out 6; obtain ⟨Ao12, co12, eo12⟩ := Kd.R_slice HO110.out; subst eo12))
 (try simp only [Act.put, List.setIfInBounds_toArray, List.set_cons_zero, List.set_cons_succ])
 go_cut [30] (fun v30 wc => ∃ (kq : Nat) (x30_4 : Bool), v30 = .bool x30_4 ∧ Aside0 (rillmeterlaw07_IpsixPuts.j0 kq a1 a2 x30_4 a0_0 a0_1 a0_2 a0_3 a0_4 a0_5 l0_6 t102 t103 t104 t105 t106 t107 t108 = some r) ∧ Aside0 (kq ≤ k) ∧ Aside0 (Kd.R k57 57 wc w.heap.size (fun _ => True) (.slice Ao12 t108.length co12) t108) ∧ Aside0 (wc.heap[gb101]? = some (.cells #[.int .i64 a0_0, .int .i64 a0_1, .int .i64 a0_2, .int .i64 a0_3, .string a0_4, .string a0_5, (.slice A0_6 l0_6.length c0_6)] 25 (0, 0))) ∧ Aside0 (wc.heap[gb111]? = some (.cells #[.int .i64 t102, .int .i64 t103, .int .i64 t104, .int .i64 t105, .string t106, .string t107, (.slice Ao12 t108.length co12)] 31 (0, 0))) ∧ Aside0 (Below w.heap.size w wc))
 case first =>
  have H := HC5.out
  clear HC5
  replace H := Option.bind_eq_some_iff.mp H
  obtain ⟨t112, A130, H⟩ := H
  replace H : (if t112 = true then (if (a1.size : Int) > 4096 then (rillmeterlaw07_IpsixPuts.j0 k a1 a2 true a0_0 a0_1 a0_2 a0_3 a0_4 a0_5 l0_6 t102 t103 t104 t105 t106 t107 t108) else (rillmeterlaw07_IpsixPuts.j0 k a1 a2 (decide ((a2.size : Int) > 4096)) a0_0 a0_1 a0_2 a0_3 a0_4 a0_5 l0_6 t102 t103 t104 t105 t106 t107 t108)) else (rillmeterlaw07_IpsixPuts.j0 k a1 a2 true a0_0 a0_1 a0_2 a0_3 a0_4 a0_5 l0_6 t102 t103 t104 t105 t106 t107 t108)) = some r := H
  have A13 := Aside0.mk A130
  clear A130
  by_cases c14 : t112 = true
  ·subst c14
   have H1 : (if (a1.size : Int) > 4096 then (rillmeterlaw07_IpsixPuts.j0 k a1 a2 true a0_0 a0_1 a0_2 a0_3 a0_4 a0_5 l0_6 t102 t103 t104 t105 t106 t107 t108) else (rillmeterlaw07_IpsixPuts.j0 k a1 a2 (decide ((a2.size : Int) > 4096)) a0_0 a0_1 a0_2 a0_3 a0_4 a0_5 l0_6 t102 t103 t104 t105 t106 t107 t108)) = some r := by rw [if_pos rfl] at H; exact H
   clear H
   have H := H1
   clear H1
   by_cases c15 : (a1.size : Int) > 4096
   ·rw [if_pos c15] at H
    have c15b0 : decide (4096 < (a1.size : Int)) = true := decide_eq_true c15
    have c15b1 : decide (4096 < a1.size) = true := decide_eq_true (by omega)
    clear c15
    (first | rw [c15b0] | (simp only [i64_w, i32_w]; rw [c15b0]) | skip)
    have H' := Aside0.mk H
    clear H
    have hnb16 := NB111_101.out
    have hnc16 := NB101_111.out
    have hcz17_0 : w9.cell? ⟨gb111, 0, none⟩ = some (.int .i64 0) := (blk_cell BK111.out 0).trans rfl
    have hcz17_1 : w9.cell? ⟨gb111, 1, none⟩ = some (.int .i64 0) := (blk_cell BK111.out 1).trans rfl
    have hcz17_2 : w9.cell? ⟨gb111, 2, none⟩ = some (.int .i64 0) := (blk_cell BK111.out 2).trans rfl
    have hcz17_3 : w9.cell? ⟨gb111, 3, none⟩ = some (.int .i64 0) := (blk_cell BK111.out 3).trans rfl
    have hcz17_4 : w9.cell? ⟨gb111, 4, none⟩ = some (.string (⟨#[]⟩ : ByteArray)) := (blk_cell BK111.out 4).trans rfl
    have hcz17_5 : w9.cell? ⟨gb111, 5, none⟩ = some (.string (⟨#[]⟩ : ByteArray)) := (blk_cell BK111.out 5).trans rfl
    have hcz17_6 : w9.cell? ⟨gb111, 6, none⟩ = some (.slice none 0 0) := (blk_cell BK111.out 6).trans rfl
    have hfz17_0 := blk_frozen BK111.out 0
    have hfz17_1 := blk_frozen BK111.out 1
    have hfz17_2 := blk_frozen BK111.out 2
    have hfz17_3 := blk_frozen BK111.out 3
    have hfz17_4 := blk_frozen BK111.out 4
    have hfz17_5 := blk_frozen BK111.out 5
    have hfz17_6 := blk_frozen BK111.out 6
    go_wp2_with (first | ((with_reducible refine gate_callee (f := 15) rfl ?_); refine gL_ (some 19) rfl rfl Try.func15 (by kernel_rfl) rfl #[.agg #[.int .i64 t102, .int .i64 t103, .int .i64 t104, .int .i64 t105, .string t106, .string t107, .slice Ao12 t108.length co12]] rfl ?_; (with_reducible refine (rillmeterref07_Small.calls k t102 t103 t104 t105 t106 t107 _ _ t108 true _ ?side1 ?side2 A13.out).mono ?_); (case side1 => refine (Kd.R_reads' (e := 57) (base := w.heap.size) (ok := fun k_ => True) (n := t108.length) (c := co12) ?_).2.2; exact (by (with_reducible repeat first | apply Kd.R_alloc | apply Kd.R_drewN | apply Kd.R_drew); exact (Kd.R_mono (Kd.R_far (p := ⟨gb111, 6, none⟩) (Kd.R_far (p := ⟨gb111, 5, none⟩) (Kd.R_far (p := ⟨gb111, 4, none⟩) (Kd.R_far (p := ⟨gb111, 3, none⟩) (Kd.R_far (p := ⟨gb111, 2, none⟩) (Kd.R_far (p := ⟨gb111, 1, none⟩) (Kd.R_far (p := ⟨gb111, 0, none⟩) (Kd.R_types HO110.out BK111.out (by decide)) (fun _ hk => hk.2) (.int .i64 t102)) (fun _ hk => hk.2) (.int .i64 t103)) (fun _ hk => hk.2) (.int .i64 t104)) (fun _ hk => hk.2) (.int .i64 t105)) (fun _ hk => hk.2) (.string t106)) (fun _ hk => hk.2) (.string t107)) (fun _ hk => hk.2) (.slice Ao12 t108.length co12)) (fun _ h_ => h_.1)))); (case side2 => exact (Kd.R_reads' HO110.out).2.1); rintro e w18 ⟨rfl, hb⟩; refine ⟨_, rfl, ?_⟩; have n0_ := Aside0.mk (Kd.R_below (by (with_reducible repeat first | apply Kd.R_alloc | apply Kd.R_drewN | apply Kd.R_drew); exact (Kd.R_mono (Kd.R_far (p := ⟨gb111, 6, none⟩) (Kd.R_far (p := ⟨gb111, 5, none⟩) (Kd.R_far (p := ⟨gb111, 4, none⟩) (Kd.R_far (p := ⟨gb111, 3, none⟩) (Kd.R_far (p := ⟨gb111, 2, none⟩) (Kd.R_far (p := ⟨gb111, 1, none⟩) (Kd.R_far (p := ⟨gb111, 0, none⟩) (Kd.R_types HO110.out BK111.out (by decide)) (fun _ hk => hk.2) (.int .i64 t102)) (fun _ hk => hk.2) (.int .i64 t103)) (fun _ hk => hk.2) (.int .i64 t104)) (fun _ hk => hk.2) (.int .i64 t105)) (fun _ hk => hk.2) (.string t106)) (fun _ hk => hk.2) (.string t107)) (fun _ hk => hk.2) (.slice Ao12 t108.length co12)) (fun _ h_ => h_.1))) hb); have n1_ := Aside0.mk (blk_below (g := gb101) (o := .cells #[.int .i64 a0_0, .int .i64 a0_1, .int .i64 a0_2, .int .i64 a0_3, .string a0_4, .string a0_5, .slice A0_6 l0_6.length c0_6] 25 (0, 0)) (by (with_reducible repeat first | apply pN_ | apply pD_ | apply pA_); refine blk_far ?_ NB101_111.out _; (with_reducible repeat first | apply pN_ | apply pD_ | apply pA_); refine blk_far ?_ NB101_111.out _; (with_reducible repeat first | apply pN_ | apply pD_ | apply pA_); refine blk_far ?_ NB101_111.out _; (with_reducible repeat first | apply pN_ | apply pD_ | apply pA_); refine blk_far ?_ NB101_111.out _; (with_reducible repeat first | apply pN_ | apply pD_ | apply pA_); refine blk_far ?_ NB101_111.out _; (with_reducible repeat first | apply pN_ | apply pD_ | apply pA_); refine blk_far ?_ NB101_111.out _; (with_reducible repeat first | apply pN_ | apply pD_ | apply pA_); refine blk_far ?_ NB101_111.out _; (with_reducible repeat first | apply pN_ | apply pD_ | apply pA_); exact BK101.out) hb); have n2_ := Aside0.mk (blk_below (g := gb111) (o := .cells #[.int .i64 t102, .int .i64 t103, .int .i64 t104, .int .i64 t105, .string t106, .string t107, .slice Ao12 t108.length co12] 31 (0, 0)) (by (with_reducible repeat first | apply pN_ | apply pD_ | apply pA_); refine blk_put (cs := #[.int .i64 t102, .int .i64 t103, .int .i64 t104, .int .i64 t105, .string t106, .string t107, .slice none 0 0]) ?_ 6 _ rfl; (with_reducible repeat first | apply pN_ | apply pD_ | apply pA_); refine blk_put (cs := #[.int .i64 t102, .int .i64 t103, .int .i64 t104, .int .i64 t105, .string t106, .string (⟨#[]⟩ : ByteArray), .slice none 0 0]) ?_ 5 _ rfl; (with_reducible repeat first | apply pN_ | apply pD_ | apply pA_); refine blk_put (cs := #[.int .i64 t102, .int .i64 t103, .int .i64 t104, .int .i64 t105, .string (⟨#[]⟩ : ByteArray), .string (⟨#[]⟩ : ByteArray), .slice none 0 0]) ?_ 4 _ rfl; (with_reducible repeat first | apply pN_ | apply pD_ | apply pA_); refine blk_put (cs := #[.int .i64 t102, .int .i64 t103, .int .i64 t104, .int .i64 0, .string (⟨#[]⟩ : ByteArray), .string (⟨#[]⟩ : ByteArray), .slice none 0 0]) ?_ 3 _ rfl; (with_reducible repeat first | apply pN_ | apply pD_ | apply pA_); refine blk_put (cs := #[.int .i64 t102, .int .i64 t103, .int .i64 0, .int .i64 0, .string (⟨#[]⟩ : ByteArray), .string (⟨#[]⟩ : ByteArray), .slice none 0 0]) ?_ 2 _ rfl; (with_reducible repeat first | apply pN_ | apply pD_ | apply pA_); refine blk_put (cs := #[.int .i64 t102, .int .i64 0, .int .i64 0, .int .i64 0, .string (⟨#[]⟩ : ByteArray), .string (⟨#[]⟩ : ByteArray), .slice none 0 0]) ?_ 1 _ rfl; (with_reducible repeat first | apply pN_ | apply pD_ | apply pA_); refine blk_put (cs := #[.int .i64 0, .int .i64 0, .int .i64 0, .int .i64 0, .string (⟨#[]⟩ : ByteArray), .string (⟨#[]⟩ : ByteArray), .slice none 0 0]) ?_ 0 _ rfl; (with_reducible repeat first | apply pN_ | apply pD_ | apply pA_); exact BK111.out) hb); have n3_ := Aside0.mk (below_step (bU_ HB.out) hb); clear HO110; clear BK101; clear BK111; clear HB; have HO110 := n0_; have BK101 := n1_; have BK111 := n2_; have HB := n3_; clear n0_ n1_ n2_ n3_; (try clear hb); (try clear hb2); (try clear hk); (try clear hi)))
    go_meet
    case rel => exact ⟨_, (true), (by first | rfl | (simp; done) | (simp [*]; done)), H', ⟨by first | omega | exact Nat.le_refl _⟩, ⟨by (with_reducible repeat first | apply Kd.R_alloc | apply Kd.R_drewN | apply Kd.R_drew); exact HO110.out⟩, ⟨by (with_reducible repeat first | apply pN_ | apply pD_ | apply pA_); exact BK101.out⟩, ⟨by (with_reducible repeat first | apply pN_ | apply pD_ | apply pA_); exact BK111.out⟩, ⟨bU_ HB.out⟩⟩
   ·rw [if_neg c15] at H
    have c15b0 : decide (4096 < (a1.size : Int)) = false := decide_eq_false c15
    have c15b1 : decide (4096 < a1.size) = false := decide_eq_false (by omega)
    clear c15
    (first | rw [c15b0] | (simp only [i64_w, i32_w]; rw [c15b0]) | skip)
    have H' := Aside0.mk H
    clear H
    have hnb19 := NB111_101.out
    have hnc19 := NB101_111.out
    have hcz20_0 : w9.cell? ⟨gb111, 0, none⟩ = some (.int .i64 0) := (blk_cell BK111.out 0).trans rfl
    have hcz20_1 : w9.cell? ⟨gb111, 1, none⟩ = some (.int .i64 0) := (blk_cell BK111.out 1).trans rfl
    have hcz20_2 : w9.cell? ⟨gb111, 2, none⟩ = some (.int .i64 0) := (blk_cell BK111.out 2).trans rfl
    have hcz20_3 : w9.cell? ⟨gb111, 3, none⟩ = some (.int .i64 0) := (blk_cell BK111.out 3).trans rfl
    have hcz20_4 : w9.cell? ⟨gb111, 4, none⟩ = some (.string (⟨#[]⟩ : ByteArray)) := (blk_cell BK111.out 4).trans rfl
    have hcz20_5 : w9.cell? ⟨gb111, 5, none⟩ = some (.string (⟨#[]⟩ : ByteArray)) := (blk_cell BK111.out 5).trans rfl
    have hcz20_6 : w9.cell? ⟨gb111, 6, none⟩ = some (.slice none 0 0) := (blk_cell BK111.out 6).trans rfl
    have hfz20_0 := blk_frozen BK111.out 0
    have hfz20_1 := blk_frozen BK111.out 1
    have hfz20_2 := blk_frozen BK111.out 2
    have hfz20_3 := blk_frozen BK111.out 3
    have hfz20_4 := blk_frozen BK111.out 4
    have hfz20_5 := blk_frozen BK111.out 5
    have hfz20_6 := blk_frozen BK111.out 6
    go_wp2_with (first | ((with_reducible refine gate_callee (f := 15) rfl ?_); refine gL_ (some 19) rfl rfl Try.func15 (by kernel_rfl) rfl #[.agg #[.int .i64 t102, .int .i64 t103, .int .i64 t104, .int .i64 t105, .string t106, .string t107, .slice Ao12 t108.length co12]] rfl ?_; (with_reducible refine (rillmeterref07_Small.calls k t102 t103 t104 t105 t106 t107 _ _ t108 true _ ?side1 ?side2 A13.out).mono ?_); (case side1 => refine (Kd.R_reads' (e := 57) (base := w.heap.size) (ok := fun k_ => True) (n := t108.length) (c := co12) ?_).2.2; exact (by (with_reducible repeat first | apply Kd.R_alloc | apply Kd.R_drewN | apply Kd.R_drew); exact (Kd.R_mono (Kd.R_far (p := ⟨gb111, 6, none⟩) (Kd.R_far (p := ⟨gb111, 5, none⟩) (Kd.R_far (p := ⟨gb111, 4, none⟩) (Kd.R_far (p := ⟨gb111, 3, none⟩) (Kd.R_far (p := ⟨gb111, 2, none⟩) (Kd.R_far (p := ⟨gb111, 1, none⟩) (Kd.R_far (p := ⟨gb111, 0, none⟩) (Kd.R_types HO110.out BK111.out (by decide)) (fun _ hk => hk.2) (.int .i64 t102)) (fun _ hk => hk.2) (.int .i64 t103)) (fun _ hk => hk.2) (.int .i64 t104)) (fun _ hk => hk.2) (.int .i64 t105)) (fun _ hk => hk.2) (.string t106)) (fun _ hk => hk.2) (.string t107)) (fun _ hk => hk.2) (.slice Ao12 t108.length co12)) (fun _ h_ => h_.1)))); (case side2 => exact (Kd.R_reads' HO110.out).2.1); rintro e w21 ⟨rfl, hb⟩; refine ⟨_, rfl, ?_⟩; have n0_ := Aside0.mk (Kd.R_below (by (with_reducible repeat first | apply Kd.R_alloc | apply Kd.R_drewN | apply Kd.R_drew); exact (Kd.R_mono (Kd.R_far (p := ⟨gb111, 6, none⟩) (Kd.R_far (p := ⟨gb111, 5, none⟩) (Kd.R_far (p := ⟨gb111, 4, none⟩) (Kd.R_far (p := ⟨gb111, 3, none⟩) (Kd.R_far (p := ⟨gb111, 2, none⟩) (Kd.R_far (p := ⟨gb111, 1, none⟩) (Kd.R_far (p := ⟨gb111, 0, none⟩) (Kd.R_types HO110.out BK111.out (by decide)) (fun _ hk => hk.2) (.int .i64 t102)) (fun _ hk => hk.2) (.int .i64 t103)) (fun _ hk => hk.2) (.int .i64 t104)) (fun _ hk => hk.2) (.int .i64 t105)) (fun _ hk => hk.2) (.string t106)) (fun _ hk => hk.2) (.string t107)) (fun _ hk => hk.2) (.slice Ao12 t108.length co12)) (fun _ h_ => h_.1))) hb); have n1_ := Aside0.mk (blk_below (g := gb101) (o := .cells #[.int .i64 a0_0, .int .i64 a0_1, .int .i64 a0_2, .int .i64 a0_3, .string a0_4, .string a0_5, .slice A0_6 l0_6.length c0_6] 25 (0, 0)) (by (with_reducible repeat first | apply pN_ | apply pD_ | apply pA_); refine blk_far ?_ NB101_111.out _; (with_reducible repeat first | apply pN_ | apply pD_ | apply pA_); refine blk_far ?_ NB101_111.out _; (with_reducible repeat first | apply pN_ | apply pD_ | apply pA_); refine blk_far ?_ NB101_111.out _; (with_reducible repeat first | apply pN_ | apply pD_ | apply pA_); refine blk_far ?_ NB101_111.out _; (with_reducible repeat first | apply pN_ | apply pD_ | apply pA_); refine blk_far ?_ NB101_111.out _; (with_reducible repeat first | apply pN_ | apply pD_ | apply pA_); refine blk_far ?_ NB101_111.out _; (with_reducible repeat first | apply pN_ | apply pD_ | apply pA_); refine blk_far ?_ NB101_111.out _; (with_reducible repeat first | apply pN_ | apply pD_ | apply pA_); exact BK101.out) hb); have n2_ := Aside0.mk (blk_below (g := gb111) (o := .cells #[.int .i64 t102, .int .i64 t103, .int .i64 t104, .int .i64 t105, .string t106, .string t107, .slice Ao12 t108.length co12] 31 (0, 0)) (by (with_reducible repeat first | apply pN_ | apply pD_ | apply pA_); refine blk_put (cs := #[.int .i64 t102, .int .i64 t103, .int .i64 t104, .int .i64 t105, .string t106, .string t107, .slice none 0 0]) ?_ 6 _ rfl; (with_reducible repeat first | apply pN_ | apply pD_ | apply pA_); refine blk_put (cs := #[.int .i64 t102, .int .i64 t103, .int .i64 t104, .int .i64 t105, .string t106, .string (⟨#[]⟩ : ByteArray), .slice none 0 0]) ?_ 5 _ rfl; (with_reducible repeat first | apply pN_ | apply pD_ | apply pA_); refine blk_put (cs := #[.int .i64 t102, .int .i64 t103, .int .i64 t104, .int .i64 t105, .string (⟨#[]⟩ : ByteArray), .string (⟨#[]⟩ : ByteArray), .slice none 0 0]) ?_ 4 _ rfl; (with_reducible repeat first | apply pN_ | apply pD_ | apply pA_); refine blk_put (cs := #[.int .i64 t102, .int .i64 t103, .int .i64 t104, .int .i64 0, .string (⟨#[]⟩ : ByteArray), .string (⟨#[]⟩ : ByteArray), .slice none 0 0]) ?_ 3 _ rfl; (with_reducible repeat first | apply pN_ | apply pD_ | apply pA_); refine blk_put (cs := #[.int .i64 t102, .int .i64 t103, .int .i64 0, .int .i64 0, .string (⟨#[]⟩ : ByteArray), .string (⟨#[]⟩ : ByteArray), .slice none 0 0]) ?_ 2 _ rfl; (with_reducible repeat first | apply pN_ | apply pD_ | apply pA_); refine blk_put (cs := #[.int .i64 t102, .int .i64 0, .int .i64 0, .int .i64 0, .string (⟨#[]⟩ : ByteArray), .string (⟨#[]⟩ : ByteArray), .slice none 0 0]) ?_ 1 _ rfl; (with_reducible repeat first | apply pN_ | apply pD_ | apply pA_); refine blk_put (cs := #[.int .i64 0, .int .i64 0, .int .i64 0, .int .i64 0, .string (⟨#[]⟩ : ByteArray), .string (⟨#[]⟩ : ByteArray), .slice none 0 0]) ?_ 0 _ rfl; (with_reducible repeat first | apply pN_ | apply pD_ | apply pA_); exact BK111.out) hb); have n3_ := Aside0.mk (below_step (bU_ HB.out) hb); clear HO110; clear BK101; clear BK111; clear HB; have HO110 := n0_; have BK101 := n1_; have BK111 := n2_; have HB := n3_; clear n0_ n1_ n2_ n3_; (try clear hb); (try clear hb2); (try clear hk); (try clear hi)))
    go_meet
    case rel => exact ⟨_, (decide ((a2.size : Int) > 4096)), (by first | rfl | (simp; done) | (simp [*]; done)), H', ⟨by first | omega | exact Nat.le_refl _⟩, ⟨by (with_reducible repeat first | apply Kd.R_alloc | apply Kd.R_drewN | apply Kd.R_drew); exact HO110.out⟩, ⟨by (with_reducible repeat first | apply pN_ | apply pD_ | apply pA_); exact BK101.out⟩, ⟨by (with_reducible repeat first | apply pN_ | apply pD_ | apply pA_); exact BK111.out⟩, ⟨bU_ HB.out⟩⟩
  ·replace c14 := Bool.eq_false_iff.mpr c14
   subst c14
   have H1 : (rillmeterlaw07_IpsixPuts.j0 k a1 a2 true a0_0 a0_1 a0_2 a0_3 a0_4 a0_5 l0_6 t102 t103 t104 t105 t106 t107 t108) = some r := by rw [if_neg (show ¬ (false = true) by decide)] at H; exact H
   clear H
   have H := H1
   clear H1
   have H' := Aside0.mk H
   clear H
   have hnb22 := NB111_101.out
   have hnc22 := NB101_111.out
   have hcz23_0 : w9.cell? ⟨gb111, 0, none⟩ = some (.int .i64 0) := (blk_cell BK111.out 0).trans rfl
   have hcz23_1 : w9.cell? ⟨gb111, 1, none⟩ = some (.int .i64 0) := (blk_cell BK111.out 1).trans rfl
   have hcz23_2 : w9.cell? ⟨gb111, 2, none⟩ = some (.int .i64 0) := (blk_cell BK111.out 2).trans rfl
   have hcz23_3 : w9.cell? ⟨gb111, 3, none⟩ = some (.int .i64 0) := (blk_cell BK111.out 3).trans rfl
   have hcz23_4 : w9.cell? ⟨gb111, 4, none⟩ = some (.string (⟨#[]⟩ : ByteArray)) := (blk_cell BK111.out 4).trans rfl
   have hcz23_5 : w9.cell? ⟨gb111, 5, none⟩ = some (.string (⟨#[]⟩ : ByteArray)) := (blk_cell BK111.out 5).trans rfl
   have hcz23_6 : w9.cell? ⟨gb111, 6, none⟩ = some (.slice none 0 0) := (blk_cell BK111.out 6).trans rfl
   have hfz23_0 := blk_frozen BK111.out 0
   have hfz23_1 := blk_frozen BK111.out 1
   have hfz23_2 := blk_frozen BK111.out 2
   have hfz23_3 := blk_frozen BK111.out 3
   have hfz23_4 := blk_frozen BK111.out 4
   have hfz23_5 := blk_frozen BK111.out 5
   have hfz23_6 := blk_frozen BK111.out 6
   go_wp2_with (first | ((with_reducible refine gate_callee (f := 15) rfl ?_); refine gL_ (some 19) rfl rfl Try.func15 (by kernel_rfl) rfl #[.agg #[.int .i64 t102, .int .i64 t103, .int .i64 t104, .int .i64 t105, .string t106, .string t107, .slice Ao12 t108.length co12]] rfl ?_; (with_reducible refine (rillmeterref07_Small.calls k t102 t103 t104 t105 t106 t107 _ _ t108 false _ ?side1 ?side2 A13.out).mono ?_); (case side1 => refine (Kd.R_reads' (e := 57) (base := w.heap.size) (ok := fun k_ => True) (n := t108.length) (c := co12) ?_).2.2; exact (by (with_reducible repeat first | apply Kd.R_alloc | apply Kd.R_drewN | apply Kd.R_drew); exact (Kd.R_mono (Kd.R_far (p := ⟨gb111, 6, none⟩) (Kd.R_far (p := ⟨gb111, 5, none⟩) (Kd.R_far (p := ⟨gb111, 4, none⟩) (Kd.R_far (p := ⟨gb111, 3, none⟩) (Kd.R_far (p := ⟨gb111, 2, none⟩) (Kd.R_far (p := ⟨gb111, 1, none⟩) (Kd.R_far (p := ⟨gb111, 0, none⟩) (Kd.R_types HO110.out BK111.out (by decide)) (fun _ hk => hk.2) (.int .i64 t102)) (fun _ hk => hk.2) (.int .i64 t103)) (fun _ hk => hk.2) (.int .i64 t104)) (fun _ hk => hk.2) (.int .i64 t105)) (fun _ hk => hk.2) (.string t106)) (fun _ hk => hk.2) (.string t107)) (fun _ hk => hk.2) (.slice Ao12 t108.length co12)) (fun _ h_ => h_.1)))); (case side2 => exact (Kd.R_reads' HO110.out).2.1); rintro e w24 ⟨rfl, hb⟩; refine ⟨_, rfl, ?_⟩; have n0_ := Aside0.mk (Kd.R_below (by (with_reducible repeat first | apply Kd.R_alloc | apply Kd.R_drewN | apply Kd.R_drew); exact (Kd.R_mono (Kd.R_far (p := ⟨gb111, 6, none⟩) (Kd.R_far (p := ⟨gb111, 5, none⟩) (Kd.R_far (p := ⟨gb111, 4, none⟩) (Kd.R_far (p := ⟨gb111, 3, none⟩) (Kd.R_far (p := ⟨gb111, 2, none⟩) (Kd.R_far (p := ⟨gb111, 1, none⟩) (Kd.R_far (p := ⟨gb111, 0, none⟩) (Kd.R_types HO110.out BK111.out (by decide)) (fun _ hk => hk.2) (.int .i64 t102)) (fun _ hk => hk.2) (.int .i64 t103)) (fun _ hk => hk.2) (.int .i64 t104)) (fun _ hk => hk.2) (.int .i64 t105)) (fun _ hk => hk.2) (.string t106)) (fun _ hk => hk.2) (.string t107)) (fun _ hk => hk.2) (.slice Ao12 t108.length co12)) (fun _ h_ => h_.1))) hb); have n1_ := Aside0.mk (blk_below (g := gb101) (o := .cells #[.int .i64 a0_0, .int .i64 a0_1, .int .i64 a0_2, .int .i64 a0_3, .string a0_4, .string a0_5, .slice A0_6 l0_6.length c0_6] 25 (0, 0)) (by (with_reducible repeat first | apply pN_ | apply pD_ | apply pA_); refine blk_far ?_ NB101_111.out _; (with_reducible repeat first | apply pN_ | apply pD_ | apply pA_); refine blk_far ?_ NB101_111.out _; (with_reducible repeat first | apply pN_ | apply pD_ | apply pA_); refine blk_far ?_ NB101_111.out _; (with_reducible repeat first | apply pN_ | apply pD_ | apply pA_); refine blk_far ?_ NB101_111.out _; (with_reducible repeat first | apply pN_ | apply pD_ | apply pA_); refine blk_far ?_ NB101_111.out _; (with_reducible repeat first | apply pN_ | apply pD_ | apply pA_); refine blk_far ?_ NB101_111.out _; (with_reducible repeat first | apply pN_ | apply pD_ | apply pA_); refine blk_far ?_ NB101_111.out _; (with_reducible repeat first | apply pN_ | apply pD_ | apply pA_); exact BK101.out) hb); have n2_ := Aside0.mk (blk_below (g := gb111) (o := .cells #[.int .i64 t102, .int .i64 t103, .int .i64 t104, .int .i64 t105, .string t106, .string t107, .slice Ao12 t108.length co12] 31 (0, 0)) (by (with_reducible repeat first | apply pN_ | apply pD_ | apply pA_); refine blk_put (cs := #[.int .i64 t102, .int .i64 t103, .int .i64 t104, .int .i64 t105, .string t106, .string t107, .slice none 0 0]) ?_ 6 _ rfl; (with_reducible repeat first | apply pN_ | apply pD_ | apply pA_); refine blk_put (cs := #[.int .i64 t102, .int .i64 t103, .int .i64 t104, .int .i64 t105, .string t106, .string (⟨#[]⟩ : ByteArray), .slice none 0 0]) ?_ 5 _ rfl; (with_reducible repeat first | apply pN_ | apply pD_ | apply pA_); refine blk_put (cs := #[.int .i64 t102, .int .i64 t103, .int .i64 t104, .int .i64 t105, .string (⟨#[]⟩ : ByteArray), .string (⟨#[]⟩ : ByteArray), .slice none 0 0]) ?_ 4 _ rfl; (with_reducible repeat first | apply pN_ | apply pD_ | apply pA_); refine blk_put (cs := #[.int .i64 t102, .int .i64 t103, .int .i64 t104, .int .i64 0, .string (⟨#[]⟩ : ByteArray), .string (⟨#[]⟩ : ByteArray), .slice none 0 0]) ?_ 3 _ rfl; (with_reducible repeat first | apply pN_ | apply pD_ | apply pA_); refine blk_put (cs := #[.int .i64 t102, .int .i64 t103, .int .i64 0, .int .i64 0, .string (⟨#[]⟩ : ByteArray), .string (⟨#[]⟩ : ByteArray), .slice none 0 0]) ?_ 2 _ rfl; (with_reducible repeat first | apply pN_ | apply pD_ | apply pA_); refine blk_put (cs := #[.int .i64 t102, .int .i64 0, .int .i64 0, .int .i64 0, .string (⟨#[]⟩ : ByteArray), .string (⟨#[]⟩ : ByteArray), .slice none 0 0]) ?_ 1 _ rfl; (with_reducible repeat first | apply pN_ | apply pD_ | apply pA_); refine blk_put (cs := #[.int .i64 0, .int .i64 0, .int .i64 0, .int .i64 0, .string (⟨#[]⟩ : ByteArray), .string (⟨#[]⟩ : ByteArray), .slice none 0 0]) ?_ 0 _ rfl; (with_reducible repeat first | apply pN_ | apply pD_ | apply pA_); exact BK111.out) hb); have n3_ := Aside0.mk (below_step (bU_ HB.out) hb); clear HO110; clear BK101; clear BK111; clear HB; have HO110 := n0_; have BK101 := n1_; have BK111 := n2_; have HB := n3_; clear n0_ n1_ n2_ n3_; (try clear hb); (try clear hb2); (try clear hk); (try clear hi)))
   go_meet
   case rel => exact ⟨_, (true), (by first | rfl | (simp; done) | (simp [*]; done)), H', ⟨by first | omega | exact Nat.le_refl _⟩, ⟨by (with_reducible repeat first | apply Kd.R_alloc | apply Kd.R_drewN | apply Kd.R_drew); exact HO110.out⟩, ⟨by (with_reducible repeat first | apply pN_ | apply pD_ | apply pA_); exact BK101.out⟩, ⟨by (with_reducible repeat first | apply pN_ | apply pD_ | apply pA_); exact BK111.out⟩, ⟨bU_ HB.out⟩⟩
 case rest =>
  clear HC5
  try clear c1
  try clear c2
  try clear p2
  try clear c4
  try clear c10
  try clear c12
  try clear c14
  try clear c15
  try clear c15b0
  try clear c15b1
  try clear c16
  try clear c19
  try clear c22
  try clear hcz11_0
  try clear hcz11_1
  try clear hcz11_2
  try clear hcz11_3
  try clear hcz11_4
  try clear hcz11_5
  try clear hcz11_6
  try clear hcz17_0
  try clear hcz17_1
  try clear hcz17_2
  try clear hcz17_3
  try clear hcz17_4
  try clear hcz17_5
  try clear hcz17_6
  try clear hcz20_0
  try clear hcz20_1
  try clear hcz20_2
  try clear hcz20_3
  try clear hcz20_4
  try clear hcz20_5
  try clear hcz20_6
  try clear hcz23_0
  try clear hcz23_1
  try clear hcz23_2
  try clear hcz23_3
  try clear hcz23_4
  try clear hcz23_5
  try clear hcz23_6
  try clear hcz7_0
  try clear hcz7_1
  try clear hcz7_2
  try clear hcz7_3
  try clear hcz7_4
  try clear hcz7_5
  try clear hcz7_6
  try clear hfz11_0
  try clear hfz11_1
  try clear hfz11_2
  try clear hfz11_3
  try clear hfz11_4
  try clear hfz11_5
  try clear hfz11_6
  try clear hfz17_0
  try clear hfz17_1
  try clear hfz17_2
  try clear hfz17_3
  try clear hfz17_4
  try clear hfz17_5
  try clear hfz17_6
  try clear hfz20_0
  try clear hfz20_1
  try clear hfz20_2
  try clear hfz20_3
  try clear hfz20_4
  try clear hfz20_5
  try clear hfz20_6
  try clear hfz23_0
  try clear hfz23_1
  try clear hfz23_2
  try clear hfz23_3
  try clear hfz23_4
  try clear hfz23_5
  try clear hfz23_6
  try clear hfz7_0
  try clear hfz7_1
  try clear hfz7_2
  try clear hfz7_3
  try clear hfz7_4
  try clear hfz7_5
  try clear hfz7_6
  obtain ⟨kq, x30_4, rfl, HA, HJ4, HO_112006, BK101, BK111, HB⟩ := hcut
  cases kq with
  | zero => exact absurd HA.out (by simp [rillmeterlaw07_IpsixPuts.j0])
  | succ kj4 =>
   have H := HA.out
   clear HA
   simp only [rillmeterlaw07_IpsixPuts.j0] at H
   by_cases c25 : x30_4 = true
   ·subst c25
    have H1 : ((rillmeterlaw07_awake.f kj4).bind fun t113 => (some t113)) = some r := by rw [if_pos rfl] at H; exact H
    clear H
    have H := H1
    clear H1
    replace H := Option.bind_eq_some_iff.mp H
    obtain ⟨t113, A260, H⟩ := H
    replace H : (some t113) = some r := H
    have A26 := Aside0.mk A260
    clear A260
    obtain rfl := Option.some.inj H
    go_wp2_with (first | ((with_reducible refine gate_callee (f := 8) rfl ?_); refine gL_ (some 31) rfl rfl Try.func8 (by kernel_rfl) rfl #[] rfl ?_; (with_reducible refine (rillmeterlaw07_awake.calls kj4  t113 _ hrt A26.out).mono ?_); rintro e w27 ⟨rfl, hb⟩; refine ⟨_, rfl, ?_⟩; have n0_ := Aside0.mk (Kd.R_below (by (with_reducible repeat first | apply Kd.R_alloc | apply Kd.R_drewN | apply Kd.R_drew); exact HO_112006.out) hb); have n1_ := Aside0.mk (blk_below (g := gb101) (o := .cells #[.int .i64 a0_0, .int .i64 a0_1, .int .i64 a0_2, .int .i64 a0_3, .string a0_4, .string a0_5, .slice A0_6 l0_6.length c0_6] 25 (0, 0)) (by (with_reducible repeat first | apply pN_ | apply pD_ | apply pA_); exact BK101.out) hb); have n2_ := Aside0.mk (blk_below (g := gb111) (o := .cells #[.int .i64 t102, .int .i64 t103, .int .i64 t104, .int .i64 t105, .string t106, .string t107, .slice Ao12 t108.length co12] 31 (0, 0)) (by (with_reducible repeat first | apply pN_ | apply pD_ | apply pA_); exact BK111.out) hb); have n3_ := Aside0.mk (below_step (bU_ HB.out) hb); clear HO_112006; clear BK101; clear BK111; clear HB; have HO_112006 := n0_; have BK101 := n1_; have BK111 := n2_; have HB := n3_; clear n0_ n1_ n2_ n3_; (try clear hb); (try clear hb2); (try clear hk); (try clear hi)))
    go_ret
    exact ⟨by first | rfl | (simp [errW_none, errW_some] <;> rfl) | (simp [*, errW_none, errW_some] <;> rfl), bU_ HB.out⟩
   ·replace c25 := Bool.eq_false_iff.mpr c25
    subst c25
    have H1 : ((ipsix_Put.f kj4 a0_0 a0_1 a0_2 a0_3 a0_4 a0_5 l0_6 a1).bind fun bt114 => ((rillmeterref07_Right.f kj4 t102 t103 t104 t105 t106 t107 t108).bind fun t116 => ((ipsix_Right.f kj4 a0_0 a0_1 a0_2 a0_3 a0_4 a0_5 l0_6).bind fun t117 => (if (t117 != t116) = true then (rillmeterlaw07_IpsixPuts.j1 kj4 a1 a2 bt114.1 bt114.2 t116 true t102 t103 t104 t105 t106 t107 t108) else ((ipsix_Piece.f kj4 a0_0 a0_1 a0_2 a0_3 a0_4 a0_5 l0_6).bind fun t118 => ((rillmeterref07_Piece.f kj4 t102 t103 t104 t105 t106 t107 t108).bind fun t119 => (rillmeterlaw07_IpsixPuts.j1 kj4 a1 a2 bt114.1 bt114.2 t116 (t118 != t119) t102 t103 t104 t105 t106 t107 t108))))))) = some r := by rw [if_neg (show ¬ (false = true) by decide)] at H; exact H
    clear H
    have H := H1
    clear H1
    replace H := Option.bind_eq_some_iff.mp H
    obtain ⟨⟨t114, t115⟩, A280, H⟩ := H
    replace H : ((rillmeterref07_Right.f kj4 t102 t103 t104 t105 t106 t107 t108).bind fun t116 => ((ipsix_Right.f kj4 a0_0 a0_1 a0_2 a0_3 a0_4 a0_5 l0_6).bind fun t117 => (if (t117 != t116) = true then (rillmeterlaw07_IpsixPuts.j1 kj4 a1 a2 t114 t115 t116 true t102 t103 t104 t105 t106 t107 t108) else ((ipsix_Piece.f kj4 a0_0 a0_1 a0_2 a0_3 a0_4 a0_5 l0_6).bind fun t118 => ((rillmeterref07_Piece.f kj4 t102 t103 t104 t105 t106 t107 t108).bind fun t119 => (rillmeterlaw07_IpsixPuts.j1 kj4 a1 a2 t114 t115 t116 (t118 != t119) t102 t103 t104 t105 t106 t107 t108)))))) = some r := H
    have A28 := Aside0.mk A280
    clear A280
    replace H := Option.bind_eq_some_iff.mp H
    obtain ⟨t116, A290, H⟩ := H
    replace H : ((ipsix_Right.f kj4 a0_0 a0_1 a0_2 a0_3 a0_4 a0_5 l0_6).bind fun t117 => (if (t117 != t116) = true then (rillmeterlaw07_IpsixPuts.j1 kj4 a1 a2 t114 t115 t116 true t102 t103 t104 t105 t106 t107 t108) else ((ipsix_Piece.f kj4 a0_0 a0_1 a0_2 a0_3 a0_4 a0_5 l0_6).bind fun t118 => ((rillmeterref07_Piece.f kj4 t102 t103 t104 t105 t106 t107 t108).bind fun t119 => (rillmeterlaw07_IpsixPuts.j1 kj4 a1 a2 t114 t115 t116 (t118 != t119) t102 t103 t104 t105 t106 t107 t108))))) = some r := H
    have A29 := Aside0.mk A290
    clear A290
    have HC30 := Aside0.mk H
    clear H
    have hnb31 := NB101_111.out
    have hnc31 := NB111_101.out
    have hcz32_0 : wc.cell? ⟨gb101, 0, none⟩ = some (.int .i64 a0_0) := (blk_cell BK101.out 0).trans rfl
    have hcz32_1 : wc.cell? ⟨gb101, 1, none⟩ = some (.int .i64 a0_1) := (blk_cell BK101.out 1).trans rfl
    have hcz32_2 : wc.cell? ⟨gb101, 2, none⟩ = some (.int .i64 a0_2) := (blk_cell BK101.out 2).trans rfl
    have hcz32_3 : wc.cell? ⟨gb101, 3, none⟩ = some (.int .i64 a0_3) := (blk_cell BK101.out 3).trans rfl
    have hcz32_4 : wc.cell? ⟨gb101, 4, none⟩ = some (.string a0_4) := (blk_cell BK101.out 4).trans rfl
    have hcz32_5 : wc.cell? ⟨gb101, 5, none⟩ = some (.string a0_5) := (blk_cell BK101.out 5).trans rfl
    have hcz32_6 : wc.cell? ⟨gb101, 6, none⟩ = some (.slice A0_6 l0_6.length c0_6) := (blk_cell BK101.out 6).trans rfl
    have hfz32_0 := blk_frozen BK101.out 0
    have hfz32_1 := blk_frozen BK101.out 1
    have hfz32_2 := blk_frozen BK101.out 2
    have hfz32_3 := blk_frozen BK101.out 3
    have hfz32_4 := blk_frozen BK101.out 4
    have hfz32_5 := blk_frozen BK101.out 5
    have hfz32_6 := blk_frozen BK101.out 6
    go_upto_region 6 with (first | ((with_reducible refine gate_callee (f := 16) rfl ?_); refine gL_ (some 35) rfl rfl Try.func16 (by kernel_rfl) rfl #[.agg #[.int .i64 a0_0, .int .i64 a0_1, .int .i64 a0_2, .int .i64 a0_3, .string a0_4, .string a0_5, .slice A0_6 l0_6.length c0_6], .string a1] rfl ?_; (with_reducible refine (ipsix_Put.calls kj4 a0_0 a0_1 a0_2 a0_3 a0_4 a0_5 _ _ l0_6 a1 t114 t115 _ ?side1 ?side2 A28.out).mono ?_); (case side1 => repeat (first | exact (Kd.C_below HR0_6.out HB.out) | (with_reducible refine Kd.C_alloc ?_ _) | (with_reducible refine Kd.C_drewN ?_ _) | (with_reducible refine Kd.C_drew ?_))); (case side2 => exact HC0_6.out); rintro e w33 ⟨rfl, hb⟩; refine ⟨_, rfl, ?_⟩; have n0_ := Aside0.mk (Kd.R_below (by (with_reducible repeat first | apply Kd.R_alloc | apply Kd.R_drewN | apply Kd.R_drew); exact HO_112006.out) hb); have n1_ := Aside0.mk (blk_below (g := gb101) (o := .cells #[.int .i64 a0_0, .int .i64 a0_1, .int .i64 a0_2, .int .i64 a0_3, .string a0_4, .string a0_5, .slice A0_6 l0_6.length c0_6] 25 (0, 0)) (by (with_reducible repeat first | apply pN_ | apply pD_ | apply pA_); exact BK101.out) hb); have n2_ := Aside0.mk (blk_below (g := gb111) (o := .cells #[.int .i64 t102, .int .i64 t103, .int .i64 t104, .int .i64 t105, .string t106, .string t107, .slice Ao12 t108.length co12] 31 (0, 0)) (by (with_reducible repeat first | apply pN_ | apply pD_ | apply pA_); exact BK111.out) hb); have n3_ := Aside0.mk (below_step (bU_ HB.out) hb); clear HO_112006; clear BK101; clear BK111; clear HB; have HO_112006 := n0_; have BK101 := n1_; have BK111 := n2_; have HB := n3_; clear n0_ n1_ n2_ n3_; (try clear hb); (try clear hb2); (try clear hk); (try clear hi); have hcz34_0 : w33.cell? ⟨gb111, 0, none⟩ = some (.int .i64 t102) := (blk_cell BK111.out 0).trans rfl; have hcz34_1 : w33.cell? ⟨gb111, 1, none⟩ = some (.int .i64 t103) := (blk_cell BK111.out 1).trans rfl; have hcz34_2 : w33.cell? ⟨gb111, 2, none⟩ = some (.int .i64 t104) := (blk_cell BK111.out 2).trans rfl; have hcz34_3 : w33.cell? ⟨gb111, 3, none⟩ = some (.int .i64 t105) := (blk_cell BK111.out 3).trans rfl; have hcz34_4 : w33.cell? ⟨gb111, 4, none⟩ = some (.string t106) := (blk_cell BK111.out 4).trans rfl; have hcz34_5 : w33.cell? ⟨gb111, 5, none⟩ = some (.string t107) := (blk_cell BK111.out 5).trans rfl; have hcz34_6 : w33.cell? ⟨gb111, 6, none⟩ = some (.slice Ao12 t108.length co12) := (blk_cell BK111.out 6).trans rfl; have hfz34_0 := blk_frozen BK111.out 0; have hfz34_1 := blk_frozen BK111.out 1; have hfz34_2 := blk_frozen BK111.out 2; have hfz34_3 := blk_frozen BK111.out 3; have hfz34_4 := blk_frozen BK111.out 4; have hfz34_5 := blk_frozen BK111.out 5; have hfz34_6 := blk_frozen BK111.out 6) | ((with_reducible refine gate_callee (f := 17) rfl ?_); refine gL_ (some 39) rfl rfl Try.func17 (by kernel_rfl) rfl #[.agg #[.int .i64 t102, .int .i64 t103, .int .i64 t104, .int .i64 t105, .string t106, .string t107, .slice Ao12 t108.length co12]] rfl ?_; (with_reducible refine (rillmeterref07_Right.calls kj4 t102 t103 t104 t105 t106 t107 _ _ t108 t116 _ ?side1 ?side2 A29.out).mono ?_); (case side1 => repeat (first | exact (Kd.R_reads' HO_112006.out).2.2 | (with_reducible refine Kd.C_alloc ?_ _) | (with_reducible refine Kd.C_drewN ?_ _) | (with_reducible refine Kd.C_drew ?_))); (case side2 => exact (Kd.R_reads' HO_112006.out).2.1); rintro e w35 ⟨rfl, hb⟩; refine ⟨_, rfl, ?_⟩; have n0_ := Aside0.mk (Kd.R_below (by (with_reducible repeat first | apply Kd.R_alloc | apply Kd.R_drewN | apply Kd.R_drew); exact HO_112006.out) hb); have n1_ := Aside0.mk (blk_below (g := gb101) (o := .cells #[.int .i64 a0_0, .int .i64 a0_1, .int .i64 a0_2, .int .i64 a0_3, .string a0_4, .string a0_5, .slice A0_6 l0_6.length c0_6] 25 (0, 0)) (by (with_reducible repeat first | apply pN_ | apply pD_ | apply pA_); exact BK101.out) hb); have n2_ := Aside0.mk (blk_below (g := gb111) (o := .cells #[.int .i64 t102, .int .i64 t103, .int .i64 t104, .int .i64 t105, .string t106, .string t107, .slice Ao12 t108.length co12] 31 (0, 0)) (by (with_reducible repeat first | apply pN_ | apply pD_ | apply pA_); exact BK111.out) hb); have n3_ := Aside0.mk (below_step (bU_ HB.out) hb); clear HO_112006; clear BK101; clear BK111; clear HB; have HO_112006 := n0_; have BK101 := n1_; have BK111 := n2_; have HB := n3_; clear n0_ n1_ n2_ n3_; (try clear hb); (try clear hb2); (try clear hk); (try clear hi)))
    (try simp only [Act.put, List.setIfInBounds_toArray, List.set_cons_zero, List.set_cons_succ])
    go_cut [50] (fun v50 wc => ∃ (kq : Nat) (x50_29 : Bool), v50 = .bool x50_29 ∧ Aside0 (rillmeterlaw07_IpsixPuts.j1 kq a1 a2 t114 t115 t116 x50_29 t102 t103 t104 t105 t106 t107 t108 = some r) ∧ Aside0 (kq ≤ kj4) ∧ Aside0 (Kd.R k57 57 wc w.heap.size (fun _ => True) (.slice Ao12 t108.length co12) t108) ∧ Aside0 (wc.heap[gb101]? = some (.cells #[.int .i64 a0_0, .int .i64 a0_1, .int .i64 a0_2, .int .i64 a0_3, .string a0_4, .string a0_5, (.slice A0_6 l0_6.length c0_6)] 25 (0, 0))) ∧ Aside0 (wc.heap[gb111]? = some (.cells #[.int .i64 t102, .int .i64 t103, .int .i64 t104, .int .i64 t105, .string t106, .string t107, (.slice Ao12 t108.length co12)] 31 (0, 0))) ∧ Aside0 (Below w.heap.size w wc))
    case first =>
     have H := HC30.out
     clear HC30
     replace H := Option.bind_eq_some_iff.mp H
     obtain ⟨t117, A360, H⟩ := H
     replace H : (if (t117 != t116) = true then (rillmeterlaw07_IpsixPuts.j1 kj4 a1 a2 t114 t115 t116 true t102 t103 t104 t105 t106 t107 t108) else ((ipsix_Piece.f kj4 a0_0 a0_1 a0_2 a0_3 a0_4 a0_5 l0_6).bind fun t118 => ((rillmeterref07_Piece.f kj4 t102 t103 t104 t105 t106 t107 t108).bind fun t119 => (rillmeterlaw07_IpsixPuts.j1 kj4 a1 a2 t114 t115 t116 (t118 != t119) t102 t103 t104 t105 t106 t107 t108)))) = some r := H
     have A36 := Aside0.mk A360
     clear A360
     by_cases c37 : (t117 != t116) = true
     ·rw [if_pos c37] at H
      have c37b0 : (t117 != t116) = true := c37
      (try (have c37b1 : decide (t117 = t116) = false := by simpa using c37))
      (try (have c37b2 : (t117 == t116) = false := by simpa using c37))
      (try (have c37b3 : ¬ (t117 = t116) := by simpa using c37))
      clear c37
      (first | rw [c37b0] | (simp only [i64_w, i32_w]; rw [c37b0]) | skip)
      have H' := Aside0.mk H
      clear H
      try go_wp2
      have n0_ := Aside0.mk (Kd.R_drew HO_112006.out)
      have n1_ := Aside0.mk (blk_drew BK101.out)
      have n2_ := Aside0.mk (blk_drew BK111.out)
      have n3_ := Aside0.mk (below_drew1 HB.out)
      clear HO_112006
      clear BK101
      clear BK111
      clear HB
      have HO_112006 := n0_
      have BK101 := n1_
      have BK111 := n2_
      have HB := n3_
      clear n0_ n1_ n2_ n3_
      refine start_ (n := 11) (S := fun w' => w'.cell? ⟨gb101, 0, none⟩ = some (.int .i64 a0_0) ∧ w'.cell? ⟨gb101, 1, none⟩ = some (.int .i64 a0_1) ∧ w'.cell? ⟨gb101, 2, none⟩ = some (.int .i64 a0_2) ∧ w'.cell? ⟨gb101, 3, none⟩ = some (.int .i64 a0_3) ∧ w'.cell? ⟨gb101, 4, none⟩ = some (.string a0_4) ∧ w'.cell? ⟨gb101, 5, none⟩ = some (.string a0_5) ∧ w'.cell? ⟨gb101, 6, none⟩ = some (.slice A0_6 l0_6.length c0_6)) (ds := []) #[false, false, false, false, false, false, false, false, false, false, false] (by kernel_rfl) rfl rfl ⟨(blk_cell BK101.out 0).trans rfl, (blk_cell BK101.out 1).trans rfl, (blk_cell BK101.out 2).trans rfl, (blk_cell BK101.out 3).trans rfl, (blk_cell BK101.out 4).trans rfl, (blk_cell BK101.out 5).trans rfl, (blk_cell BK101.out 6).trans rfl⟩ (fun hHeld => ?_); refine with_tabW rillmeterlaw07_IpsixPuts.tab6 rillmeterlaw07_IpsixPuts.bits6 (fun HT_ HW_ => ?_)
      generalize w35.drew = w38 at HO_112006 BK101 BK111 HB hHeld ⊢
      refine pure_ (i := 2) (N := some 42) (v := ?_) (a' := ?_) #[false, false, true, false, false, false, false, false, false, false, false] rfl rfl (any_of HT_.out (by kernel_rfl)) (fun _ _ _ h => h) (Or.inl ⟨by rfl, ?_⟩) ?_ ?_
      rotate_left
      ·intro w'
       go_simp
       with_reducible rfl
      rotate_left
      ·simp only [Act.put, List.setIfInBounds_toArray, List.set_cons_zero, List.set_cons_succ, i64_w, i32_w]
       rfl
      refine take_ (i := 0) (N := some 40) (v := ?_) (a' := ?_) #[true, false, true, false, false, false, false, false, false, false, false] rfl rfl (take_ofW HT_.out HW_.out (by kernel_rfl)) (fun _ _ _ h => h) (Or.inl ⟨by rfl, ?_⟩) hHeld ?_ ?_
      rotate_left
      ·rintro w' ⟨s0, s1, s2, s3, s4, s5, s6⟩
       go_simp
       with_reducible rfl
      rotate_left
      ·simp only [Act.put, List.setIfInBounds_toArray, List.set_cons_zero, List.set_cons_succ, i64_w, i32_w]
       rfl
      refine one_ (i := 1) (N := some 41) #[true, true, true, false, false, false, false, false, false, false, false] rfl rfl (one_of HT_.out (by kernel_rfl)) (by decide) (fun K hK => ?_)
      refine goes_ Try.func18 (by kernel_rfl) rfl #[.agg #[.int .i64 a0_0, .int .i64 a0_1, .int .i64 a0_2, .int .i64 a0_3, .string a0_4, .string a0_5, .slice A0_6 l0_6.length c0_6]] (by rfl) rfl rfl (by (try simp only [List.map_toArray, List.map_cons, List.map_nil]); first | done | rfl | (simp only [List.length_drop, List.length_take]; rfl) | (simp only [ByteArray.size_append, ByteArray.size_extract, Nat.sub_zero, Int.natCast_add]; rfl) | (simp [ByteArray.size_append]; done)) ?_
      with_reducible refine (ipsix_Right.calls kj4 a0_0 a0_1 a0_2 a0_3 a0_4 a0_5 _ _ l0_6 t117 _ ?side1 ?side2 A36.out).mono ?_
      (case side1 => repeat (first | exact (Kd.C_below HR0_6.out HB.out) | (with_reducible refine Kd.C_alloc ?_ _) | (with_reducible refine Kd.C_drewN ?_ _) | (with_reducible refine Kd.C_drew ?_)))
      (case side2 => exact HC0_6.out)
      rintro e w39 ⟨rfl, hb⟩
      refine ⟨_, rfl, ?_⟩
      have n0_ := Aside0.mk (Kd.R_below (by (with_reducible repeat first | apply Kd.R_alloc | apply Kd.R_drewN | apply Kd.R_drew); exact HO_112006.out) hb)
      have n1_ := Aside0.mk (blk_below (g := gb101) (o := .cells #[.int .i64 a0_0, .int .i64 a0_1, .int .i64 a0_2, .int .i64 a0_3, .string a0_4, .string a0_5, .slice A0_6 l0_6.length c0_6] 25 (0, 0)) (by (with_reducible repeat first | apply pN_ | apply pD_ | apply pA_); exact BK101.out) hb)
      have n2_ := Aside0.mk (blk_below (g := gb111) (o := .cells #[.int .i64 t102, .int .i64 t103, .int .i64 t104, .int .i64 t105, .string t106, .string t107, .slice Ao12 t108.length co12] 31 (0, 0)) (by (with_reducible repeat first | apply pN_ | apply pD_ | apply pA_); exact BK111.out) hb)
      have n3_ := Aside0.mk (below_step (bU_ HB.out) hb)
      clear HO_112006
      clear BK101
      clear BK111
      clear HB
      have HO_112006 := n0_
      have BK101 := n1_
      have BK111 := n2_
      have HB := n3_
      clear n0_ n1_ n2_ n3_
      (try clear hb)
      (try clear hb2)
      (try clear hk)
      (try clear hi)
      refine hK.out _ _ ⟨(blk_cell BK101.out 0).trans rfl, (blk_cell BK101.out 1).trans rfl, (blk_cell BK101.out 2).trans rfl, (blk_cell BK101.out 3).trans rfl, (blk_cell BK101.out 4).trans rfl, (blk_cell BK101.out 5).trans rfl, (blk_cell BK101.out 6).trans rfl⟩ (fun hHeld => ?_)
      clear hK K
      refine norm_ (a' := ?_) ?_ ?_
      rotate_left
      ·show Act.put _ (some 41) _ = _
       simp only [Act.put, List.setIfInBounds_toArray, List.set_cons_zero, List.set_cons_succ, i64_w, i32_w]
       rfl
      refine pure_ (i := 3) (N := some 43) (v := ?_) (a' := ?_) #[true, true, true, true, false, false, false, false, false, false, false] rfl rfl (any_of HT_.out (by kernel_rfl)) (fun _ _ _ h => h) (Or.inl ⟨by rfl, ?_⟩) ?_ ?_
      rotate_left
      ·intro w'
       go_simp
       with_reducible rfl
      rotate_left
      ·simp only [Act.put, List.setIfInBounds_toArray, List.set_cons_zero, List.set_cons_succ, i64_w, i32_w]
       rfl
      refine pure_ (i := 4) (N := some 44) (v := ?_) (a' := ?_) #[true, true, true, true, true, false, false, false, false, false, false] rfl rfl (any_of HT_.out (by kernel_rfl)) (fun _ _ _ h => h) (Or.inl ⟨by rfl, ?_⟩) ?_ ?_
      rotate_left
      ·intro w'
       go_simp
       with_reducible rfl
      rotate_left
      ·simp only [Act.put, List.setIfInBounds_toArray, List.set_cons_zero, List.set_cons_succ, i64_w, i32_w]
       rfl
      refine pure_ (i := 5) (N := some 45) (v := undef) (a' := ?_) #[true, true, true, true, true, true, false, false, false, false, false] rfl rfl (any_of HT_.out (by kernel_rfl)) (fun _ _ _ h => h) (Or.inr ⟨by rfl, rfl⟩) ?_ ?_
      rotate_left
      ·simp only [Act.put, List.setIfInBounds_toArray, List.set_cons_zero, List.set_cons_succ, i64_w, i32_w]
       rfl
      refine pure_ (i := 6) (N := some 46) (v := undef) (a' := ?_) #[true, true, true, true, true, true, true, false, false, false, false] rfl rfl (any_of HT_.out (by kernel_rfl)) (fun _ _ _ h => h) (Or.inr ⟨by rfl, rfl⟩) ?_ ?_
      rotate_left
      ·simp only [Act.put, List.setIfInBounds_toArray, List.set_cons_zero, List.set_cons_succ, i64_w, i32_w]
       rfl
      refine pure_ (i := 7) (N := some 47) (v := undef) (a' := ?_) #[true, true, true, true, true, true, true, true, false, false, false] rfl rfl (any_of HT_.out (by kernel_rfl)) (fun _ _ _ h => h) (Or.inr ⟨by rfl, rfl⟩) ?_ ?_
      rotate_left
      ·simp only [Act.put, List.setIfInBounds_toArray, List.set_cons_zero, List.set_cons_succ, i64_w, i32_w]
       rfl
      refine pure_ (i := 8) (N := some 48) (v := undef) (a' := ?_) #[true, true, true, true, true, true, true, true, true, false, false] rfl rfl (any_of HT_.out (by kernel_rfl)) (fun _ _ _ h => h) (Or.inr ⟨by rfl, rfl⟩) ?_ ?_
      rotate_left
      ·simp only [Act.put, List.setIfInBounds_toArray, List.set_cons_zero, List.set_cons_succ, i64_w, i32_w]
       rfl
      refine pure_ (i := 9) (N := some 49) (v := undef) (a' := ?_) #[true, true, true, true, true, true, true, true, true, true, false] rfl rfl (any_of HT_.out (by kernel_rfl)) (fun _ _ _ h => h) (Or.inr ⟨by rfl, rfl⟩) ?_ ?_
      rotate_left
      ·simp only [Act.put, List.setIfInBounds_toArray, List.set_cons_zero, List.set_cons_succ, i64_w, i32_w]
       rfl
      refine pure_ (i := 10) (N := some 50) (v := ?_) (a' := ?_) #[true, true, true, true, true, true, true, true, true, true, true] rfl rfl (any_of HT_.out (by kernel_rfl)) (fun _ _ _ h => h) (Or.inl ⟨by rfl, ?_⟩) ?_ ?_
      rotate_left
      ·intro w'
       go_simp
       with_reducible rfl
      rotate_left
      ·simp only [Act.put, List.setIfInBounds_toArray, List.set_cons_zero, List.set_cons_succ, i64_w, i32_w]
       rfl
      refine done_ (done_of HT_.out (by kernel_rfl)) ?_
      try go_wp2
      go_meet
      case rel => exact ⟨_, (true), (by first | rfl | (simp; done) | (simp [*]; done)), H', ⟨by have := HJ4.out; first | omega | exact Nat.le_refl _⟩, ⟨by (with_reducible repeat first | apply Kd.R_alloc | apply Kd.R_drewN | apply Kd.R_drew); exact HO_112006.out⟩, ⟨by (with_reducible repeat first | apply pN_ | apply pD_ | apply pA_); exact BK101.out⟩, ⟨by (with_reducible repeat first | apply pN_ | apply pD_ | apply pA_); exact BK111.out⟩, ⟨bU_ HB.out⟩⟩
     ·rw [if_neg c37] at H
      have c37b0 : (t117 != t116) = false := by simpa using c37
      (try (have c37b1 : decide (t117 = t116) = true := by simpa using c37))
      (try (have c37b2 : (t117 == t116) = true := by simpa using c37))
      clear c37
      (first | rw [c37b0] | (simp only [i64_w, i32_w]; rw [c37b0]) | skip)
      replace H := Option.bind_eq_some_iff.mp H
      obtain ⟨t118, A400, H⟩ := H
      replace H : ((rillmeterref07_Piece.f kj4 t102 t103 t104 t105 t106 t107 t108).bind fun t119 => (rillmeterlaw07_IpsixPuts.j1 kj4 a1 a2 t114 t115 t116 (t118 != t119) t102 t103 t104 t105 t106 t107 t108)) = some r := H
      have A40 := Aside0.mk A400
      clear A400
      replace H := Option.bind_eq_some_iff.mp H
      obtain ⟨t119, A410, H⟩ := H
      replace H : (rillmeterlaw07_IpsixPuts.j1 kj4 a1 a2 t114 t115 t116 (t118 != t119) t102 t103 t104 t105 t106 t107 t108) = some r := H
      have A41 := Aside0.mk A410
      clear A410
      have H' := Aside0.mk H
      clear H
      try go_wp2
      have n0_ := Aside0.mk (Kd.R_drew HO_112006.out)
      have n1_ := Aside0.mk (blk_drew BK101.out)
      have n2_ := Aside0.mk (blk_drew BK111.out)
      have n3_ := Aside0.mk (below_drew1 HB.out)
      clear HO_112006
      clear BK101
      clear BK111
      clear HB
      have HO_112006 := n0_
      have BK101 := n1_
      have BK111 := n2_
      have HB := n3_
      clear n0_ n1_ n2_ n3_
      refine start_ (n := 11) (S := fun w' => w'.cell? ⟨gb101, 0, none⟩ = some (.int .i64 a0_0) ∧ w'.cell? ⟨gb101, 1, none⟩ = some (.int .i64 a0_1) ∧ w'.cell? ⟨gb101, 2, none⟩ = some (.int .i64 a0_2) ∧ w'.cell? ⟨gb101, 3, none⟩ = some (.int .i64 a0_3) ∧ w'.cell? ⟨gb101, 4, none⟩ = some (.string a0_4) ∧ w'.cell? ⟨gb101, 5, none⟩ = some (.string a0_5) ∧ w'.cell? ⟨gb101, 6, none⟩ = some (.slice A0_6 l0_6.length c0_6) ∧ w'.cell? ⟨gb111, 0, none⟩ = some (.int .i64 t102) ∧ w'.cell? ⟨gb111, 1, none⟩ = some (.int .i64 t103) ∧ w'.cell? ⟨gb111, 2, none⟩ = some (.int .i64 t104) ∧ w'.cell? ⟨gb111, 3, none⟩ = some (.int .i64 t105) ∧ w'.cell? ⟨gb111, 4, none⟩ = some (.string t106) ∧ w'.cell? ⟨gb111, 5, none⟩ = some (.string t107) ∧ w'.cell? ⟨gb111, 6, none⟩ = some (.slice Ao12 t108.length co12)) (ds := []) #[false, false, false, false, false, false, false, false, false, false, false] (by kernel_rfl) rfl rfl ⟨(blk_cell BK101.out 0).trans rfl, (blk_cell BK101.out 1).trans rfl, (blk_cell BK101.out 2).trans rfl, (blk_cell BK101.out 3).trans rfl, (blk_cell BK101.out 4).trans rfl, (blk_cell BK101.out 5).trans rfl, (blk_cell BK101.out 6).trans rfl, (blk_cell BK111.out 0).trans rfl, (blk_cell BK111.out 1).trans rfl, (blk_cell BK111.out 2).trans rfl, (blk_cell BK111.out 3).trans rfl, (blk_cell BK111.out 4).trans rfl, (blk_cell BK111.out 5).trans rfl, (blk_cell BK111.out 6).trans rfl⟩ (fun hHeld => ?_); refine with_tabW rillmeterlaw07_IpsixPuts.tab6 rillmeterlaw07_IpsixPuts.bits6 (fun HT_ HW_ => ?_)
      generalize w35.drew = w42 at HO_112006 BK101 BK111 HB hHeld ⊢
      refine pure_ (i := 2) (N := some 42) (v := ?_) (a' := ?_) #[false, false, true, false, false, false, false, false, false, false, false] rfl rfl (any_of HT_.out (by kernel_rfl)) (fun _ _ _ h => h) (Or.inl ⟨by rfl, ?_⟩) ?_ ?_
      rotate_left
      ·intro w'
       go_simp
       with_reducible rfl
      rotate_left
      ·simp only [Act.put, List.setIfInBounds_toArray, List.set_cons_zero, List.set_cons_succ, i64_w, i32_w]
       rfl
      refine take_ (i := 0) (N := some 40) (v := ?_) (a' := ?_) #[true, false, true, false, false, false, false, false, false, false, false] rfl rfl (take_ofW HT_.out HW_.out (by kernel_rfl)) (fun _ _ _ h => h) (Or.inl ⟨by rfl, ?_⟩) hHeld ?_ ?_
      rotate_left
      ·rintro w' ⟨s0, s1, s2, s3, s4, s5, s6, s7, s8, s9, s10, s11, s12, s13⟩
       go_simp
       with_reducible rfl
      rotate_left
      ·simp only [Act.put, List.setIfInBounds_toArray, List.set_cons_zero, List.set_cons_succ, i64_w, i32_w]
       rfl
      refine one_ (i := 1) (N := some 41) #[true, true, true, false, false, false, false, false, false, false, false] rfl rfl (one_of HT_.out (by kernel_rfl)) (by decide) (fun K hK => ?_)
      refine goes_ Try.func18 (by kernel_rfl) rfl #[.agg #[.int .i64 a0_0, .int .i64 a0_1, .int .i64 a0_2, .int .i64 a0_3, .string a0_4, .string a0_5, .slice A0_6 l0_6.length c0_6]] (by rfl) rfl rfl (by (try simp only [List.map_toArray, List.map_cons, List.map_nil]); first | done | rfl | (simp only [List.length_drop, List.length_take]; rfl) | (simp only [ByteArray.size_append, ByteArray.size_extract, Nat.sub_zero, Int.natCast_add]; rfl) | (simp [ByteArray.size_append]; done)) ?_
      with_reducible refine (ipsix_Right.calls kj4 a0_0 a0_1 a0_2 a0_3 a0_4 a0_5 _ _ l0_6 t117 _ ?side1 ?side2 A36.out).mono ?_
      (case side1 => repeat (first | exact (Kd.C_below HR0_6.out HB.out) | (with_reducible refine Kd.C_alloc ?_ _) | (with_reducible refine Kd.C_drewN ?_ _) | (with_reducible refine Kd.C_drew ?_)))
      (case side2 => exact HC0_6.out)
      rintro e w43 ⟨rfl, hb⟩
      refine ⟨_, rfl, ?_⟩
      have n0_ := Aside0.mk (Kd.R_below (by (with_reducible repeat first | apply Kd.R_alloc | apply Kd.R_drewN | apply Kd.R_drew); exact HO_112006.out) hb)
      have n1_ := Aside0.mk (blk_below (g := gb101) (o := .cells #[.int .i64 a0_0, .int .i64 a0_1, .int .i64 a0_2, .int .i64 a0_3, .string a0_4, .string a0_5, .slice A0_6 l0_6.length c0_6] 25 (0, 0)) (by (with_reducible repeat first | apply pN_ | apply pD_ | apply pA_); exact BK101.out) hb)
      have n2_ := Aside0.mk (blk_below (g := gb111) (o := .cells #[.int .i64 t102, .int .i64 t103, .int .i64 t104, .int .i64 t105, .string t106, .string t107, .slice Ao12 t108.length co12] 31 (0, 0)) (by (with_reducible repeat first | apply pN_ | apply pD_ | apply pA_); exact BK111.out) hb)
      have n3_ := Aside0.mk (below_step (bU_ HB.out) hb)
      clear HO_112006
      clear BK101
      clear BK111
      clear HB
      have HO_112006 := n0_
      have BK101 := n1_
      have BK111 := n2_
      have HB := n3_
      clear n0_ n1_ n2_ n3_
      (try clear hb)
      (try clear hb2)
      (try clear hk)
      (try clear hi)
      refine hK.out _ _ ⟨(blk_cell BK101.out 0).trans rfl, (blk_cell BK101.out 1).trans rfl, (blk_cell BK101.out 2).trans rfl, (blk_cell BK101.out 3).trans rfl, (blk_cell BK101.out 4).trans rfl, (blk_cell BK101.out 5).trans rfl, (blk_cell BK101.out 6).trans rfl, (blk_cell BK111.out 0).trans rfl, (blk_cell BK111.out 1).trans rfl, (blk_cell BK111.out 2).trans rfl, (blk_cell BK111.out 3).trans rfl, (blk_cell BK111.out 4).trans rfl, (blk_cell BK111.out 5).trans rfl, (blk_cell BK111.out 6).trans rfl⟩ (fun hHeld => ?_)
      clear hK K
      refine norm_ (a' := ?_) ?_ ?_
      rotate_left
      ·show Act.put _ (some 41) _ = _
       simp only [Act.put, List.setIfInBounds_toArray, List.set_cons_zero, List.set_cons_succ, i64_w, i32_w]
       rfl
      refine pure_ (i := 3) (N := some 43) (v := ?_) (a' := ?_) #[true, true, true, true, false, false, false, false, false, false, false] rfl rfl (any_of HT_.out (by kernel_rfl)) (fun _ _ _ h => h) (Or.inl ⟨by rfl, ?_⟩) ?_ ?_
      rotate_left
      ·intro w'
       go_simp
       with_reducible rfl
      rotate_left
      ·simp only [Act.put, List.setIfInBounds_toArray, List.set_cons_zero, List.set_cons_succ, i64_w, i32_w]
       rfl
      refine pure_ (i := 4) (N := some 44) (v := ?_) (a' := ?_) #[true, true, true, true, true, false, false, false, false, false, false] rfl rfl (any_of HT_.out (by kernel_rfl)) (fun _ _ _ h => h) (Or.inl ⟨by rfl, ?_⟩) ?_ ?_
      rotate_left
      ·intro w'
       go_simp
       with_reducible rfl
      rotate_left
      ·simp only [Act.put, List.setIfInBounds_toArray, List.set_cons_zero, List.set_cons_succ, i64_w, i32_w]
       rfl
      refine take_ (i := 5) (N := some 45) (v := ?_) (a' := ?_) #[true, true, true, true, true, true, false, false, false, false, false] rfl rfl (take_ofW HT_.out HW_.out (by kernel_rfl)) (fun _ _ _ h => h) (Or.inl ⟨by rfl, ?_⟩) hHeld ?_ ?_
      rotate_left
      ·rintro w' ⟨s0, s1, s2, s3, s4, s5, s6, s7, s8, s9, s10, s11, s12, s13⟩
       go_simp
       with_reducible rfl
      rotate_left
      ·simp only [Act.put, List.setIfInBounds_toArray, List.set_cons_zero, List.set_cons_succ, i64_w, i32_w]
       rfl
      refine take_ (i := 7) (N := some 47) (v := ?_) (a' := ?_) #[true, true, true, true, true, true, false, true, false, false, false] rfl rfl (take_ofW HT_.out HW_.out (by kernel_rfl)) (fun _ _ _ h => h) (Or.inl ⟨by rfl, ?_⟩) hHeld ?_ ?_
      rotate_left
      ·rintro w' ⟨s0, s1, s2, s3, s4, s5, s6, s7, s8, s9, s10, s11, s12, s13⟩
       go_simp
       with_reducible rfl
      rotate_left
      ·simp only [Act.put, List.setIfInBounds_toArray, List.set_cons_zero, List.set_cons_succ, i64_w, i32_w]
       rfl
      refine one_ (i := 6) (N := some 46) #[true, true, true, true, true, true, true, true, false, false, false] rfl rfl (one_of HT_.out (by kernel_rfl)) (by decide) (fun K hK => ?_)
      refine goes_ Try.func13 (by kernel_rfl) rfl #[.agg #[.int .i64 a0_0, .int .i64 a0_1, .int .i64 a0_2, .int .i64 a0_3, .string a0_4, .string a0_5, .slice A0_6 l0_6.length c0_6]] (by rfl) rfl rfl (by (try simp only [List.map_toArray, List.map_cons, List.map_nil]); first | done | rfl | (simp only [List.length_drop, List.length_take]; rfl) | (simp only [ByteArray.size_append, ByteArray.size_extract, Nat.sub_zero, Int.natCast_add]; rfl) | (simp [ByteArray.size_append]; done)) ?_
      with_reducible refine (ipsix_Piece.calls kj4 a0_0 a0_1 a0_2 a0_3 a0_4 a0_5 _ _ l0_6 t118 _ ?side1 ?side2 A40.out).mono ?_
      (case side1 => repeat (first | exact (Kd.C_below HR0_6.out HB.out) | (with_reducible refine Kd.C_alloc ?_ _) | (with_reducible refine Kd.C_drewN ?_ _) | (with_reducible refine Kd.C_drew ?_)))
      (case side2 => exact HC0_6.out)
      rintro e w44 ⟨rfl, hb⟩
      refine ⟨_, rfl, ?_⟩
      have n0_ := Aside0.mk (Kd.R_below (by (with_reducible repeat first | apply Kd.R_alloc | apply Kd.R_drewN | apply Kd.R_drew); exact HO_112006.out) hb)
      have n1_ := Aside0.mk (blk_below (g := gb101) (o := .cells #[.int .i64 a0_0, .int .i64 a0_1, .int .i64 a0_2, .int .i64 a0_3, .string a0_4, .string a0_5, .slice A0_6 l0_6.length c0_6] 25 (0, 0)) (by (with_reducible repeat first | apply pN_ | apply pD_ | apply pA_); exact BK101.out) hb)
      have n2_ := Aside0.mk (blk_below (g := gb111) (o := .cells #[.int .i64 t102, .int .i64 t103, .int .i64 t104, .int .i64 t105, .string t106, .string t107, .slice Ao12 t108.length co12] 31 (0, 0)) (by (with_reducible repeat first | apply pN_ | apply pD_ | apply pA_); exact BK111.out) hb)
      have n3_ := Aside0.mk (below_step (bU_ HB.out) hb)
      clear HO_112006
      clear BK101
      clear BK111
      clear HB
      have HO_112006 := n0_
      have BK101 := n1_
      have BK111 := n2_
      have HB := n3_
      clear n0_ n1_ n2_ n3_
      (try clear hb)
      (try clear hb2)
      (try clear hk)
      (try clear hi)
      refine hK.out _ _ ⟨(blk_cell BK101.out 0).trans rfl, (blk_cell BK101.out 1).trans rfl, (blk_cell BK101.out 2).trans rfl, (blk_cell BK101.out 3).trans rfl, (blk_cell BK101.out 4).trans rfl, (blk_cell BK101.out 5).trans rfl, (blk_cell BK101.out 6).trans rfl, (blk_cell BK111.out 0).trans rfl, (blk_cell BK111.out 1).trans rfl, (blk_cell BK111.out 2).trans rfl, (blk_cell BK111.out 3).trans rfl, (blk_cell BK111.out 4).trans rfl, (blk_cell BK111.out 5).trans rfl, (blk_cell BK111.out 6).trans rfl⟩ (fun hHeld => ?_)
      clear hK K
      refine norm_ (a' := ?_) ?_ ?_
      rotate_left
      ·show Act.put _ (some 46) _ = _
       simp only [Act.put, List.setIfInBounds_toArray, List.set_cons_zero, List.set_cons_succ, i64_w, i32_w]
       rfl
      refine one_ (i := 8) (N := some 48) #[true, true, true, true, true, true, true, true, true, false, false] rfl rfl (one_of HT_.out (by kernel_rfl)) (by decide) (fun K hK => ?_)
      refine goes_ Try.func14 (by kernel_rfl) rfl #[.agg #[.int .i64 t102, .int .i64 t103, .int .i64 t104, .int .i64 t105, .string t106, .string t107, .slice Ao12 t108.length co12]] (by rfl) rfl rfl (by (try simp only [List.map_toArray, List.map_cons, List.map_nil]); first | done | rfl | (simp only [List.length_drop, List.length_take]; rfl) | (simp only [ByteArray.size_append, ByteArray.size_extract, Nat.sub_zero, Int.natCast_add]; rfl) | (simp [ByteArray.size_append]; done)) ?_
      with_reducible refine (rillmeterref07_Piece.calls kj4 t102 t103 t104 t105 t106 t107 _ _ t108 t119 _ ?side1 ?side2 A41.out).mono ?_
      (case side1 => repeat (first | exact (Kd.R_reads' HO_112006.out).2.2 | (with_reducible refine Kd.C_alloc ?_ _) | (with_reducible refine Kd.C_drewN ?_ _) | (with_reducible refine Kd.C_drew ?_)))
      (case side2 => exact (Kd.R_reads' HO_112006.out).2.1)
      rintro e w45 ⟨rfl, hb⟩
      refine ⟨_, rfl, ?_⟩
      have n0_ := Aside0.mk (Kd.R_below (by (with_reducible repeat first | apply Kd.R_alloc | apply Kd.R_drewN | apply Kd.R_drew); exact HO_112006.out) hb)
      have n1_ := Aside0.mk (blk_below (g := gb101) (o := .cells #[.int .i64 a0_0, .int .i64 a0_1, .int .i64 a0_2, .int .i64 a0_3, .string a0_4, .string a0_5, .slice A0_6 l0_6.length c0_6] 25 (0, 0)) (by (with_reducible repeat first | apply pN_ | apply pD_ | apply pA_); exact BK101.out) hb)
      have n2_ := Aside0.mk (blk_below (g := gb111) (o := .cells #[.int .i64 t102, .int .i64 t103, .int .i64 t104, .int .i64 t105, .string t106, .string t107, .slice Ao12 t108.length co12] 31 (0, 0)) (by (with_reducible repeat first | apply pN_ | apply pD_ | apply pA_); exact BK111.out) hb)
      have n3_ := Aside0.mk (below_step (bU_ HB.out) hb)
      clear HO_112006
      clear BK101
      clear BK111
      clear HB
      have HO_112006 := n0_
      have BK101 := n1_
      have BK111 := n2_
      have HB := n3_
      clear n0_ n1_ n2_ n3_
      (try clear hb)
      (try clear hb2)
      (try clear hk)
      (try clear hi)
      refine hK.out _ _ ⟨(blk_cell BK101.out 0).trans rfl, (blk_cell BK101.out 1).trans rfl, (blk_cell BK101.out 2).trans rfl, (blk_cell BK101.out 3).trans rfl, (blk_cell BK101.out 4).trans rfl, (blk_cell BK101.out 5).trans rfl, (blk_cell BK101.out 6).trans rfl, (blk_cell BK111.out 0).trans rfl, (blk_cell BK111.out 1).trans rfl, (blk_cell BK111.out 2).trans rfl, (blk_cell BK111.out 3).trans rfl, (blk_cell BK111.out 4).trans rfl, (blk_cell BK111.out 5).trans rfl, (blk_cell BK111.out 6).trans rfl⟩ (fun hHeld => ?_)
      clear hK K
      refine norm_ (a' := ?_) ?_ ?_
      rotate_left
      ·show Act.put _ (some 48) _ = _
       simp only [Act.put, List.setIfInBounds_toArray, List.set_cons_zero, List.set_cons_succ, i64_w, i32_w]
       rfl
      refine pure_ (i := 9) (N := some 49) (v := ?_) (a' := ?_) #[true, true, true, true, true, true, true, true, true, true, false] rfl rfl (any_of HT_.out (by kernel_rfl)) (fun _ _ _ h => h) (Or.inl ⟨by rfl, ?_⟩) ?_ ?_
      rotate_left
      ·intro w'
       go_simp
       with_reducible rfl
      rotate_left
      ·simp only [Act.put, List.setIfInBounds_toArray, List.set_cons_zero, List.set_cons_succ, i64_w, i32_w]
       rfl
      refine pure_ (i := 10) (N := some 50) (v := ?_) (a' := ?_) #[true, true, true, true, true, true, true, true, true, true, true] rfl rfl (any_of HT_.out (by kernel_rfl)) (fun _ _ _ h => h) (Or.inl ⟨by rfl, ?_⟩) ?_ ?_
      rotate_left
      ·intro w'
       go_simp
       with_reducible rfl
      rotate_left
      ·simp only [Act.put, List.setIfInBounds_toArray, List.set_cons_zero, List.set_cons_succ, i64_w, i32_w]
       rfl
      refine done_ (done_of HT_.out (by kernel_rfl)) ?_
      try go_wp2
      go_meet
      case rel => exact ⟨_, ((t118 != t119)), (by first | rfl | (simp; done) | (simp [*]; done)), H', ⟨by have := HJ4.out; first | omega | exact Nat.le_refl _⟩, ⟨by (with_reducible repeat first | apply Kd.R_alloc | apply Kd.R_drewN | apply Kd.R_drew); exact HO_112006.out⟩, ⟨by (with_reducible repeat first | apply pN_ | apply pD_ | apply pA_); exact BK101.out⟩, ⟨by (with_reducible repeat first | apply pN_ | apply pD_ | apply pA_); exact BK111.out⟩, ⟨bU_ HB.out⟩⟩
    case rest =>
     clear HC30
     try clear c1
     try clear c2
     try clear p2
     try clear c3
     try clear c4
     try clear c8
     try clear c10
     try clear c12
     try clear c13
     try clear c14
     try clear c15
     try clear c15b0
     try clear c15b1
     try clear c16
     try clear c17
     try clear c18
     try clear c19
     try clear c22
     try clear c25
     try clear c31
     try clear c37
     try clear c37b0
     try clear c37b1
     try clear c37b2
     try clear hcz11_0
     try clear hcz11_1
     try clear hcz11_2
     try clear hcz11_3
     try clear hcz11_4
     try clear hcz11_5
     try clear hcz11_6
     try clear hcz17_0
     try clear hcz17_1
     try clear hcz17_2
     try clear hcz17_3
     try clear hcz17_4
     try clear hcz17_5
     try clear hcz17_6
     try clear hcz20_0
     try clear hcz20_1
     try clear hcz20_2
     try clear hcz20_3
     try clear hcz20_4
     try clear hcz20_5
     try clear hcz20_6
     try clear hcz23_0
     try clear hcz23_1
     try clear hcz23_2
     try clear hcz23_3
     try clear hcz23_4
     try clear hcz23_5
     try clear hcz23_6
     try clear hcz32_0
     try clear hcz32_1
     try clear hcz32_2
     try clear hcz32_3
     try clear hcz32_4
     try clear hcz32_5
     try clear hcz32_6
     try clear hcz34_0
     try clear hcz34_1
     try clear hcz34_2
     try clear hcz34_3
     try clear hcz34_4
     try clear hcz34_5
     try clear hcz34_6
     try clear hcz7_0
     try clear hcz7_1
     try clear hcz7_2
     try clear hcz7_3
     try clear hcz7_4
     try clear hcz7_5
     try clear hcz7_6
     try clear hfz11_0
     try clear hfz11_1
     try clear hfz11_2
     try clear hfz11_3
     try clear hfz11_4
     try clear hfz11_5
     try clear hfz11_6
     try clear hfz17_0
     try clear hfz17_1
     try clear hfz17_2
     try clear hfz17_3
     try clear hfz17_4
     try clear hfz17_5
     try clear hfz17_6
     try clear hfz20_0
     try clear hfz20_1
     try clear hfz20_2
     try clear hfz20_3
     try clear hfz20_4
     try clear hfz20_5
     try clear hfz20_6
     try clear hfz23_0
     try clear hfz23_1
     try clear hfz23_2
     try clear hfz23_3
     try clear hfz23_4
     try clear hfz23_5
     try clear hfz23_6
     try clear hfz32_0
     try clear hfz32_1
     try clear hfz32_2
     try clear hfz32_3
     try clear hfz32_4
     try clear hfz32_5
     try clear hfz32_6
     try clear hfz34_0
     try clear hfz34_1
     try clear hfz34_2
     try clear hfz34_3
     try clear hfz34_4
     try clear hfz34_5
     try clear hfz34_6
     try clear hfz7_0
     try clear hfz7_1
     try clear hfz7_2
     try clear hfz7_3
     try clear hfz7_4
     try clear hfz7_5
     try clear hfz7_6
     try clear p2
     obtain ⟨kq, x50_29, rfl, HA, HJ29, HO_112006, BK101, BK111, HB⟩ := hcut
     cases kq with
     | zero => exact absurd HA.out (by simp [rillmeterlaw07_IpsixPuts.j1])
     | succ kj29 =>
      have H := HA.out
      clear HA
      simp only [rillmeterlaw07_IpsixPuts.j1] at H
      by_cases c46 : x50_29 = true
      ·subst c46
       have H1 : (some false) = some r := by rw [if_pos rfl] at H; exact H
       clear H
       have H := H1
       clear H1
       obtain rfl := Option.some.inj H
       exact absurd hrt.out (by decide)
      ·replace c46 := Bool.eq_false_iff.mpr c46
       subst c46
       have H1 : (if t116 = true then ((rillmeterref07_Put.f kj29 t102 t103 t104 t105 t106 t107 t108 a1).bind fun bt121 => (if t114.size + a2.size ≤ 9223372036854775807 then ((ipsix_Take.f kj29 (t114 ++ a2)).bind fun bt123 => (if t114.toList = bt121.1.toList then (if t115 = 0 then ((rillmeterlaw07_ref.f kj29 bt123.1 bt123.2.1 bt123.2.2.1 bt123.2.2.2.1 bt123.2.2.2.2.1 bt123.2.2.2.2.2.1 bt123.2.2.2.2.2.2.1).bind fun bt135 => ((rillmeterref07_Equal.f kj29 bt135.1 bt135.2.1 bt135.2.2.1 bt135.2.2.2.1 bt135.2.2.2.2.1 bt135.2.2.2.2.2.1 bt135.2.2.2.2.2.2 t102 t103 t104 t105 t106 t107 t108).bind fun t144 => (if t144 = true then (if bt123.2.2.2.2.2.2.2.1.toList = a1.toList then (if bt123.2.2.2.2.2.2.2.2 = 0 then ((rillmeterlaw07_awake.f kj29).bind fun t145 => (some t145)) else (some false)) else (some false)) else (some false)))) else (some false)) else (some false))) else (none))) else (if t114.toList = ([] : List UInt8) then (if t115 = 1 then ((rillmeterlaw07_awake.f kj29).bind fun t120 => (some t120)) else (some false)) else (some false))) = some r := by rw [if_neg (show ¬ (false = true) by decide)] at H; exact H
       clear H
       have H := H1
       clear H1
       by_cases c47 : t116 = true
       ·subst c47
        have H1 : ((rillmeterref07_Put.f kj29 t102 t103 t104 t105 t106 t107 t108 a1).bind fun bt121 => (if t114.size + a2.size ≤ 9223372036854775807 then ((ipsix_Take.f kj29 (t114 ++ a2)).bind fun bt123 => (if t114.toList = bt121.1.toList then (if t115 = 0 then ((rillmeterlaw07_ref.f kj29 bt123.1 bt123.2.1 bt123.2.2.1 bt123.2.2.2.1 bt123.2.2.2.2.1 bt123.2.2.2.2.2.1 bt123.2.2.2.2.2.2.1).bind fun bt135 => ((rillmeterref07_Equal.f kj29 bt135.1 bt135.2.1 bt135.2.2.1 bt135.2.2.2.1 bt135.2.2.2.2.1 bt135.2.2.2.2.2.1 bt135.2.2.2.2.2.2 t102 t103 t104 t105 t106 t107 t108).bind fun t144 => (if t144 = true then (if bt123.2.2.2.2.2.2.2.1.toList = a1.toList then (if bt123.2.2.2.2.2.2.2.2 = 0 then ((rillmeterlaw07_awake.f kj29).bind fun t145 => (some t145)) else (some false)) else (some false)) else (some false)))) else (some false)) else (some false))) else (none))) = some r := by rw [if_pos rfl] at H; exact H
        clear H
        have H := H1
        clear H1
        replace H := Option.bind_eq_some_iff.mp H
        obtain ⟨⟨t121, t122⟩, A480, H⟩ := H
        replace H : (if t114.size + a2.size ≤ 9223372036854775807 then ((ipsix_Take.f kj29 (t114 ++ a2)).bind fun bt123 => (if t114.toList = t121.toList then (if t115 = 0 then ((rillmeterlaw07_ref.f kj29 bt123.1 bt123.2.1 bt123.2.2.1 bt123.2.2.2.1 bt123.2.2.2.2.1 bt123.2.2.2.2.2.1 bt123.2.2.2.2.2.2.1).bind fun bt135 => ((rillmeterref07_Equal.f kj29 bt135.1 bt135.2.1 bt135.2.2.1 bt135.2.2.2.1 bt135.2.2.2.2.1 bt135.2.2.2.2.2.1 bt135.2.2.2.2.2.2 t102 t103 t104 t105 t106 t107 t108).bind fun t144 => (if t144 = true then (if bt123.2.2.2.2.2.2.2.1.toList = a1.toList then (if bt123.2.2.2.2.2.2.2.2 = 0 then ((rillmeterlaw07_awake.f kj29).bind fun t145 => (some t145)) else (some false)) else (some false)) else (some false)))) else (some false)) else (some false))) else (none)) = some r := H
        have A48 := Aside0.mk A480
        clear A480
        by_cases c49 : t114.size + a2.size ≤ 9223372036854775807
        ·rw [if_pos c49] at H
         have c49b0 := eq_true c49
         have c49b1 : decide (t114.size + a2.size ≤ 9223372036854775807) = true := decide_eq_true c49
         try have c49b2 : (9223372036854775807 < t114.size + a2.size) = False := eq_false (Nat.not_lt.2 c49)
         try (have c49b3 := c49; simp only [ByteArray.size_append, ByteArray.size_extract, Nat.sub_zero] at c49b3; have c49b4 := eq_false (Nat.not_lt.2 c49b3))
         replace H := Option.bind_eq_some_iff.mp H
         obtain ⟨⟨t123, t124, t125, t126, t127, t128, t129, t132, t133⟩, A500, H⟩ := H
         replace H : (if t114.toList = t121.toList then (if t115 = 0 then ((rillmeterlaw07_ref.f kj29 t123 t124 t125 t126 t127 t128 t129).bind fun bt135 => ((rillmeterref07_Equal.f kj29 bt135.1 bt135.2.1 bt135.2.2.1 bt135.2.2.2.1 bt135.2.2.2.2.1 bt135.2.2.2.2.2.1 bt135.2.2.2.2.2.2 t102 t103 t104 t105 t106 t107 t108).bind fun t144 => (if t144 = true then (if t132.toList = a1.toList then (if t133 = 0 then ((rillmeterlaw07_awake.f kj29).bind fun t145 => (some t145)) else (some false)) else (some false)) else (some false)))) else (some false)) else (some false)) = some r := H
         have A50 := Aside0.mk A500
         clear A500
         by_cases c51 : t114.toList = t121.toList
         ·rw [if_pos c51] at H
          have c51b0 : (t114.toList == t121.toList) = true := beq_iff_eq.mpr c51
          have c51b1 : (t114.toList != t121.toList) = false := bne_eq_false_iff_eq.mpr c51
          clear c51
          by_cases c52 : t115 = 0
          ·rw [if_pos c52] at H
           have c52b0 : (t115 == 0) = true := beq_iff_eq.mpr c52
           have c52b1 : (t115 != 0) = false := bne_eq_false_iff_eq.mpr c52
           clear c52
           replace H := Option.bind_eq_some_iff.mp H
           obtain ⟨⟨t135, t136, t137, t138, t139, t140, t141⟩, A530, H⟩ := H
           replace H : ((rillmeterref07_Equal.f kj29 t135 t136 t137 t138 t139 t140 t141 t102 t103 t104 t105 t106 t107 t108).bind fun t144 => (if t144 = true then (if t132.toList = a1.toList then (if t133 = 0 then ((rillmeterlaw07_awake.f kj29).bind fun t145 => (some t145)) else (some false)) else (some false)) else (some false))) = some r := H
           have A53 := Aside0.mk A530
           clear A530
           replace H := Option.bind_eq_some_iff.mp H
           obtain ⟨t144, A540, H⟩ := H
           replace H : (if t144 = true then (if t132.toList = a1.toList then (if t133 = 0 then ((rillmeterlaw07_awake.f kj29).bind fun t145 => (some t145)) else (some false)) else (some false)) else (some false)) = some r := H
           have A54 := Aside0.mk A540
           clear A540
           by_cases c55 : t144 = true
           ·subst c55
            have H1 : (if t132.toList = a1.toList then (if t133 = 0 then ((rillmeterlaw07_awake.f kj29).bind fun t145 => (some t145)) else (some false)) else (some false)) = some r := by rw [if_pos rfl] at H; exact H
            clear H
            have H := H1
            clear H1
            by_cases c56 : t132.toList = a1.toList
            ·rw [if_pos c56] at H
             have c56b0 : (t132.toList == a1.toList) = true := beq_iff_eq.mpr c56
             have c56b1 : (t132.toList != a1.toList) = false := bne_eq_false_iff_eq.mpr c56
             clear c56
             by_cases c57 : t133 = 0
             ·rw [if_pos c57] at H
              have c57b0 : (t133 == 0) = true := beq_iff_eq.mpr c57
              have c57b1 : (t133 != 0) = false := bne_eq_false_iff_eq.mpr c57
              clear c57
              replace H := Option.bind_eq_some_iff.mp H
              obtain ⟨t145, A580, H⟩ := H
              replace H : (some t145) = some r := H
              have A58 := Aside0.mk A580
              clear A580
              obtain rfl := Option.some.inj H
              have hnb59 := NB111_101.out
              have hnc59 := NB101_111.out
              have hcz60_0 : wc.cell? ⟨gb111, 0, none⟩ = some (.int .i64 t102) := (blk_cell BK111.out 0).trans rfl
              have hcz60_1 : wc.cell? ⟨gb111, 1, none⟩ = some (.int .i64 t103) := (blk_cell BK111.out 1).trans rfl
              have hcz60_2 : wc.cell? ⟨gb111, 2, none⟩ = some (.int .i64 t104) := (blk_cell BK111.out 2).trans rfl
              have hcz60_3 : wc.cell? ⟨gb111, 3, none⟩ = some (.int .i64 t105) := (blk_cell BK111.out 3).trans rfl
              have hcz60_4 : wc.cell? ⟨gb111, 4, none⟩ = some (.string t106) := (blk_cell BK111.out 4).trans rfl
              have hcz60_5 : wc.cell? ⟨gb111, 5, none⟩ = some (.string t107) := (blk_cell BK111.out 5).trans rfl
              have hcz60_6 : wc.cell? ⟨gb111, 6, none⟩ = some (.slice Ao12 t108.length co12) := (blk_cell BK111.out 6).trans rfl
              have hfz60_0 := blk_frozen BK111.out 0
              have hfz60_1 := blk_frozen BK111.out 1
              have hfz60_2 := blk_frozen BK111.out 2
              have hfz60_3 := blk_frozen BK111.out 3
              have hfz60_4 := blk_frozen BK111.out 4
              have hfz60_5 := blk_frozen BK111.out 5
              have hfz60_6 := blk_frozen BK111.out 6
              try go_wp2_with (first | ((with_reducible refine gate_callee (f := 19) rfl ?_); refine gL_ (some 65) rfl rfl Try.func19 (by kernel_rfl) rfl #[.agg #[.int .i64 t102, .int .i64 t103, .int .i64 t104, .int .i64 t105, .string t106, .string t107, .slice Ao12 t108.length co12], .string a1] rfl ?_; (with_reducible refine (rillmeterref07_Put.calls kj29 t102 t103 t104 t105 t106 t107 _ _ t108 a1 t121 t122 _ ?side1 ?side2 A48.out).mono ?_); (case side1 => repeat (first | exact (Kd.R_reads' HO_112006.out).2.2 | (with_reducible refine Kd.C_alloc ?_ _) | (with_reducible refine Kd.C_drewN ?_ _) | (with_reducible refine Kd.C_drew ?_))); (case side2 => exact (Kd.R_reads' HO_112006.out).2.1); rintro e w61 ⟨rfl, hb⟩; refine ⟨_, rfl, ?_⟩; have n0_ := Aside0.mk (Kd.R_below (by (with_reducible repeat first | apply Kd.R_alloc | apply Kd.R_drewN | apply Kd.R_drew); exact HO_112006.out) hb); have n1_ := Aside0.mk (blk_below (g := gb101) (o := .cells #[.int .i64 a0_0, .int .i64 a0_1, .int .i64 a0_2, .int .i64 a0_3, .string a0_4, .string a0_5, .slice A0_6 l0_6.length c0_6] 25 (0, 0)) (by (with_reducible repeat first | apply pN_ | apply pD_ | apply pA_); exact BK101.out) hb); have n2_ := Aside0.mk (blk_below (g := gb111) (o := .cells #[.int .i64 t102, .int .i64 t103, .int .i64 t104, .int .i64 t105, .string t106, .string t107, .slice Ao12 t108.length co12] 31 (0, 0)) (by (with_reducible repeat first | apply pN_ | apply pD_ | apply pA_); exact BK111.out) hb); have n3_ := Aside0.mk (below_step (bU_ HB.out) hb); clear HO_112006; clear BK101; clear BK111; clear HB; have HO_112006 := n0_; have BK101 := n1_; have BK111 := n2_; have HB := n3_; clear n0_ n1_ n2_ n3_; (try clear hb); (try clear hb2); (try clear hk); (try clear hi)) | ((with_reducible refine gate_callee (f := 9) rfl ?_); refine gL_ (some 72) rfl rfl Try.func9 (by kernel_rfl) rfl #[.string (t114 ++ a2)] rfl ?_; (with_reducible refine (ipsix_Take.calls kj29 (t114 ++ a2) t123 t124 t125 t126 t127 t128 t129 t132 t133 _ A50.out).mono ?_); rintro e w62 ⟨v130, rfl, ho0, hb⟩; refine ⟨_, rfl, ?_⟩; have n0_ := Aside0.mk (Kd.R_below (by (with_reducible repeat first | apply Kd.R_alloc | apply Kd.R_drewN | apply Kd.R_drew); exact HO_112006.out) hb); have n1_ := Aside0.mk (Kd.R_lower ho0 (below_size (bU_ HB.out))); have n2_ := Aside0.mk (blk_below (g := gb101) (o := .cells #[.int .i64 a0_0, .int .i64 a0_1, .int .i64 a0_2, .int .i64 a0_3, .string a0_4, .string a0_5, .slice A0_6 l0_6.length c0_6] 25 (0, 0)) (by (with_reducible repeat first | apply pN_ | apply pD_ | apply pA_); exact BK101.out) hb); have n3_ := Aside0.mk (blk_below (g := gb111) (o := .cells #[.int .i64 t102, .int .i64 t103, .int .i64 t104, .int .i64 t105, .string t106, .string t107, .slice Ao12 t108.length co12] 31 (0, 0)) (by (with_reducible repeat first | apply pN_ | apply pD_ | apply pA_); exact BK111.out) hb); have n4_ := Aside0.mk (below_step (bU_ HB.out) hb); clear HO_112006; clear BK101; clear BK111; clear HB; have HO_112006 := n0_; have HO131 := n1_; have BK101 := n2_; have BK111 := n3_; have HB := n4_; clear n0_ n1_ n2_ n3_ n4_; (try clear hb); (try clear hb2); (try clear hk); (try clear hi); (try clear ho0)) | ((with_reducible refine gate_dst (N := 13) rfl ?_); (try (refine gate_guard (by rfl) ?_; dsimp only)); refine box_event ?hg (N := 13) ?hd (cs := #[.int .i64 0, .int .i64 0, .int .i64 0, .int .i64 0, .string (⟨#[]⟩ : ByteArray), .string (⟨#[]⟩ : ByteArray), .slice none 0 0]) (t := 25) ?hr ?_; (case hd => rfl); (case hg => rfl); (case hr => first | (go_simp; done) | (go_simp; rfl)); intro gb134 hg w63 hbox hb; have n0_ := Aside0.mk (Kd.R_below (by (with_reducible repeat first | apply Kd.R_alloc | apply Kd.R_drewN | apply Kd.R_drew); exact HO_112006.out) hb); have n1_ := Aside0.mk (Kd.R_below (by (with_reducible repeat first | apply Kd.R_alloc | apply Kd.R_drewN | apply Kd.R_drew); exact HO131.out) hb); have n2_ := Aside0.mk (blk_below (g := gb101) (o := .cells #[.int .i64 a0_0, .int .i64 a0_1, .int .i64 a0_2, .int .i64 a0_3, .string a0_4, .string a0_5, .slice A0_6 l0_6.length c0_6] 25 (0, 0)) (by (with_reducible repeat first | apply pN_ | apply pD_ | apply pA_); exact BK101.out) hb); have n3_ := Aside0.mk (blk_below (g := gb111) (o := .cells #[.int .i64 t102, .int .i64 t103, .int .i64 t104, .int .i64 t105, .string t106, .string t107, .slice Ao12 t108.length co12] 31 (0, 0)) (by (with_reducible repeat first | apply pN_ | apply pD_ | apply pA_); exact BK111.out) hb); have n4_ := Aside0.mk (below_step (bU_ HB.out) hb); have n5_ := Aside0.mk (hbox); have n6_ := Aside0.mk ((by rw [hg]; exact (below_size (bU_ HB.out)) : w.heap.size ≤ gb134)); have n7_ := Aside0.mk ((by rw [hg]; exact (below_size (bU_ HB.out)) : w.heap.size ≤ gb134)); have n8_ := Aside0.mk ((by rw [hg]; exact Nat.ne_of_lt (blk_lt (g := gb101) (o := .cells #[.int .i64 a0_0, .int .i64 a0_1, .int .i64 a0_2, .int .i64 a0_3, .string a0_4, .string a0_5, .slice A0_6 l0_6.length c0_6] 25 (0, 0)) (by (with_reducible repeat first | apply pN_ | apply pD_ | apply pA_); exact BK101.out)) : gb101 ≠ gb134)); have n9_ := Aside0.mk ((by rw [hg]; exact Nat.ne_of_gt (blk_lt (g := gb101) (o := .cells #[.int .i64 a0_0, .int .i64 a0_1, .int .i64 a0_2, .int .i64 a0_3, .string a0_4, .string a0_5, .slice A0_6 l0_6.length c0_6] 25 (0, 0)) (by (with_reducible repeat first | apply pN_ | apply pD_ | apply pA_); exact BK101.out)) : gb134 ≠ gb101)); have n10_ := Aside0.mk ((by rw [hg]; exact Nat.ne_of_lt (blk_lt (g := gb111) (o := .cells #[.int .i64 t102, .int .i64 t103, .int .i64 t104, .int .i64 t105, .string t106, .string t107, .slice Ao12 t108.length co12] 31 (0, 0)) (by (with_reducible repeat first | apply pN_ | apply pD_ | apply pA_); exact BK111.out)) : gb111 ≠ gb134)); have n11_ := Aside0.mk ((by rw [hg]; exact Nat.ne_of_gt (blk_lt (g := gb111) (o := .cells #[.int .i64 t102, .int .i64 t103, .int .i64 t104, .int .i64 t105, .string t106, .string t107, .slice Ao12 t108.length co12] 31 (0, 0)) (by (with_reducible repeat first | apply pN_ | apply pD_ | apply pA_); exact BK111.out)) : gb134 ≠ gb111)); clear HO_112006; clear HO131; clear BK101; clear BK111; clear HB; have HO_112006 := n0_; have HO131 := n1_; have BK101 := n2_; have BK111 := n3_; have HB := n4_; have BK134 := n5_; have GW134 := n6_; have GE134 := n7_; have NB101_134 := n8_; have NB134_101 := n9_; have NB111_134 := n10_; have NB134_111 := n11_; clear n0_ n1_ n2_ n3_ n4_ n5_ n6_ n7_ n8_ n9_ n10_ n11_; clear hb hbox hg; have hnb64 := NB134_101.out; have hnc64 := NB101_134.out; have hnb65 := NB134_111.out; have hnc65 := NB111_134.out; have hcz66_0 : w63.cell? ⟨gb134, 0, none⟩ = some (.int .i64 0) := (blk_cell BK134.out 0).trans rfl; have hcz66_1 : w63.cell? ⟨gb134, 1, none⟩ = some (.int .i64 0) := (blk_cell BK134.out 1).trans rfl; have hcz66_2 : w63.cell? ⟨gb134, 2, none⟩ = some (.int .i64 0) := (blk_cell BK134.out 2).trans rfl; have hcz66_3 : w63.cell? ⟨gb134, 3, none⟩ = some (.int .i64 0) := (blk_cell BK134.out 3).trans rfl; have hcz66_4 : w63.cell? ⟨gb134, 4, none⟩ = some (.string (⟨#[]⟩ : ByteArray)) := (blk_cell BK134.out 4).trans rfl; have hcz66_5 : w63.cell? ⟨gb134, 5, none⟩ = some (.string (⟨#[]⟩ : ByteArray)) := (blk_cell BK134.out 5).trans rfl; have hcz66_6 : w63.cell? ⟨gb134, 6, none⟩ = some (.slice none 0 0) := (blk_cell BK134.out 6).trans rfl; have hfz66_0 := blk_frozen BK134.out 0; have hfz66_1 := blk_frozen BK134.out 1; have hfz66_2 := blk_frozen BK134.out 2; have hfz66_3 := blk_frozen BK134.out 3; have hfz66_4 := blk_frozen BK134.out 4; have hfz66_5 := blk_frozen BK134.out 5; have hfz66_6 := blk_frozen BK134.out 6; obtain ⟨Ao67, co67, eo67⟩ := Kd.R_slice HO131.out; subst eo67))
              have n0_ : Aside0 (Kd.R k57 57 (((((((w63.setCell ⟨gb134, 0, none⟩ (.int .i64 t123)).setCell ⟨gb134, 1, none⟩ (.int .i64 t124)).setCell ⟨gb134, 2, none⟩ (.int .i64 t125)).setCell ⟨gb134, 3, none⟩ (.int .i64 t126)).setCell ⟨gb134, 4, none⟩ (.string t127)).setCell ⟨gb134, 5, none⟩ (.string t128)).setCell ⟨gb134, 6, none⟩ (.slice Ao67 t129.length co67)) w.heap.size (fun _ => True) (.slice Ao12 t108.length co12) t108) := ⟨by (with_reducible repeat first | apply Kd.R_alloc | apply Kd.R_drewN | apply Kd.R_drew); exact Kd.R_mono (Kd.R_far (p := ⟨gb134, 6, none⟩) (Kd.R_far (p := ⟨gb134, 5, none⟩) (Kd.R_far (p := ⟨gb134, 4, none⟩) (Kd.R_far (p := ⟨gb134, 3, none⟩) (Kd.R_far (p := ⟨gb134, 2, none⟩) (Kd.R_far (p := ⟨gb134, 1, none⟩) (Kd.R_far (p := ⟨gb134, 0, none⟩) (Kd.R_types HO_112006.out BK134.out (by decide)) (fun _ hk => hk.2) (.int .i64 t123)) (fun _ hk => hk.2) (.int .i64 t124)) (fun _ hk => hk.2) (.int .i64 t125)) (fun _ hk => hk.2) (.int .i64 t126)) (fun _ hk => hk.2) (.string t127)) (fun _ hk => hk.2) (.string t128)) (fun _ hk => hk.2) (.slice Ao67 t129.length co67)) (fun _ hk => trivial)⟩
              have n1_ : Aside0 (Kd.R k49 49 (((((((w63.setCell ⟨gb134, 0, none⟩ (.int .i64 t123)).setCell ⟨gb134, 1, none⟩ (.int .i64 t124)).setCell ⟨gb134, 2, none⟩ (.int .i64 t125)).setCell ⟨gb134, 3, none⟩ (.int .i64 t126)).setCell ⟨gb134, 4, none⟩ (.string t127)).setCell ⟨gb134, 5, none⟩ (.string t128)).setCell ⟨gb134, 6, none⟩ (.slice Ao67 t129.length co67)) w.heap.size (fun _ => True) (.slice Ao67 t129.length co67) t129) := ⟨by (with_reducible repeat first | apply Kd.R_alloc | apply Kd.R_drewN | apply Kd.R_drew); exact Kd.R_mono (Kd.R_far (p := ⟨gb134, 6, none⟩) (Kd.R_far (p := ⟨gb134, 5, none⟩) (Kd.R_far (p := ⟨gb134, 4, none⟩) (Kd.R_far (p := ⟨gb134, 3, none⟩) (Kd.R_far (p := ⟨gb134, 2, none⟩) (Kd.R_far (p := ⟨gb134, 1, none⟩) (Kd.R_far (p := ⟨gb134, 0, none⟩) (Kd.R_types HO131.out BK134.out (by decide)) (fun _ hk => hk.2) (.int .i64 t123)) (fun _ hk => hk.2) (.int .i64 t124)) (fun _ hk => hk.2) (.int .i64 t125)) (fun _ hk => hk.2) (.int .i64 t126)) (fun _ hk => hk.2) (.string t127)) (fun _ hk => hk.2) (.string t128)) (fun _ hk => hk.2) (.slice Ao67 t129.length co67)) (fun _ hk => trivial)⟩
              have n2_ : Aside0 ((((((((w63.setCell ⟨gb134, 0, none⟩ (.int .i64 t123)).setCell ⟨gb134, 1, none⟩ (.int .i64 t124)).setCell ⟨gb134, 2, none⟩ (.int .i64 t125)).setCell ⟨gb134, 3, none⟩ (.int .i64 t126)).setCell ⟨gb134, 4, none⟩ (.string t127)).setCell ⟨gb134, 5, none⟩ (.string t128)).setCell ⟨gb134, 6, none⟩ (.slice Ao67 t129.length co67)).heap[gb101]? = some (.cells #[.int .i64 a0_0, .int .i64 a0_1, .int .i64 a0_2, .int .i64 a0_3, .string a0_4, .string a0_5, .slice A0_6 l0_6.length c0_6] 25 (0, 0))) := ⟨by (with_reducible repeat first | apply pN_ | apply pD_ | apply pA_); refine blk_far ?_ NB101_134.out _; (with_reducible repeat first | apply pN_ | apply pD_ | apply pA_); refine blk_far ?_ NB101_134.out _; (with_reducible repeat first | apply pN_ | apply pD_ | apply pA_); refine blk_far ?_ NB101_134.out _; (with_reducible repeat first | apply pN_ | apply pD_ | apply pA_); refine blk_far ?_ NB101_134.out _; (with_reducible repeat first | apply pN_ | apply pD_ | apply pA_); refine blk_far ?_ NB101_134.out _; (with_reducible repeat first | apply pN_ | apply pD_ | apply pA_); refine blk_far ?_ NB101_134.out _; (with_reducible repeat first | apply pN_ | apply pD_ | apply pA_); refine blk_far ?_ NB101_134.out _; (with_reducible repeat first | apply pN_ | apply pD_ | apply pA_); exact BK101.out⟩
              have n3_ : Aside0 ((((((((w63.setCell ⟨gb134, 0, none⟩ (.int .i64 t123)).setCell ⟨gb134, 1, none⟩ (.int .i64 t124)).setCell ⟨gb134, 2, none⟩ (.int .i64 t125)).setCell ⟨gb134, 3, none⟩ (.int .i64 t126)).setCell ⟨gb134, 4, none⟩ (.string t127)).setCell ⟨gb134, 5, none⟩ (.string t128)).setCell ⟨gb134, 6, none⟩ (.slice Ao67 t129.length co67)).heap[gb111]? = some (.cells #[.int .i64 t102, .int .i64 t103, .int .i64 t104, .int .i64 t105, .string t106, .string t107, .slice Ao12 t108.length co12] 31 (0, 0))) := ⟨by (with_reducible repeat first | apply pN_ | apply pD_ | apply pA_); refine blk_far ?_ NB111_134.out _; (with_reducible repeat first | apply pN_ | apply pD_ | apply pA_); refine blk_far ?_ NB111_134.out _; (with_reducible repeat first | apply pN_ | apply pD_ | apply pA_); refine blk_far ?_ NB111_134.out _; (with_reducible repeat first | apply pN_ | apply pD_ | apply pA_); refine blk_far ?_ NB111_134.out _; (with_reducible repeat first | apply pN_ | apply pD_ | apply pA_); refine blk_far ?_ NB111_134.out _; (with_reducible repeat first | apply pN_ | apply pD_ | apply pA_); refine blk_far ?_ NB111_134.out _; (with_reducible repeat first | apply pN_ | apply pD_ | apply pA_); refine blk_far ?_ NB111_134.out _; (with_reducible repeat first | apply pN_ | apply pD_ | apply pA_); exact BK111.out⟩
              have n4_ : Aside0 ((((((((w63.setCell ⟨gb134, 0, none⟩ (.int .i64 t123)).setCell ⟨gb134, 1, none⟩ (.int .i64 t124)).setCell ⟨gb134, 2, none⟩ (.int .i64 t125)).setCell ⟨gb134, 3, none⟩ (.int .i64 t126)).setCell ⟨gb134, 4, none⟩ (.string t127)).setCell ⟨gb134, 5, none⟩ (.string t128)).setCell ⟨gb134, 6, none⟩ (.slice Ao67 t129.length co67)).heap[gb134]? = some (.cells #[.int .i64 t123, .int .i64 t124, .int .i64 t125, .int .i64 t126, .string t127, .string t128, .slice Ao67 t129.length co67] 25 (0, 0))) := ⟨by (with_reducible repeat first | apply pN_ | apply pD_ | apply pA_); refine blk_put (cs := #[.int .i64 t123, .int .i64 t124, .int .i64 t125, .int .i64 t126, .string t127, .string t128, .slice none 0 0]) ?_ 6 _ rfl; (with_reducible repeat first | apply pN_ | apply pD_ | apply pA_); refine blk_put (cs := #[.int .i64 t123, .int .i64 t124, .int .i64 t125, .int .i64 t126, .string t127, .string (⟨#[]⟩ : ByteArray), .slice none 0 0]) ?_ 5 _ rfl; (with_reducible repeat first | apply pN_ | apply pD_ | apply pA_); refine blk_put (cs := #[.int .i64 t123, .int .i64 t124, .int .i64 t125, .int .i64 t126, .string (⟨#[]⟩ : ByteArray), .string (⟨#[]⟩ : ByteArray), .slice none 0 0]) ?_ 4 _ rfl; (with_reducible repeat first | apply pN_ | apply pD_ | apply pA_); refine blk_put (cs := #[.int .i64 t123, .int .i64 t124, .int .i64 t125, .int .i64 0, .string (⟨#[]⟩ : ByteArray), .string (⟨#[]⟩ : ByteArray), .slice none 0 0]) ?_ 3 _ rfl; (with_reducible repeat first | apply pN_ | apply pD_ | apply pA_); refine blk_put (cs := #[.int .i64 t123, .int .i64 t124, .int .i64 0, .int .i64 0, .string (⟨#[]⟩ : ByteArray), .string (⟨#[]⟩ : ByteArray), .slice none 0 0]) ?_ 2 _ rfl; (with_reducible repeat first | apply pN_ | apply pD_ | apply pA_); refine blk_put (cs := #[.int .i64 t123, .int .i64 0, .int .i64 0, .int .i64 0, .string (⟨#[]⟩ : ByteArray), .string (⟨#[]⟩ : ByteArray), .slice none 0 0]) ?_ 1 _ rfl; (with_reducible repeat first | apply pN_ | apply pD_ | apply pA_); refine blk_put (cs := #[.int .i64 0, .int .i64 0, .int .i64 0, .int .i64 0, .string (⟨#[]⟩ : ByteArray), .string (⟨#[]⟩ : ByteArray), .slice none 0 0]) ?_ 0 _ rfl; (with_reducible repeat first | apply pN_ | apply pD_ | apply pA_); exact BK134.out⟩
              have n5_ : Aside0 (Below w.heap.size w (((((((w63.setCell ⟨gb134, 0, none⟩ (.int .i64 t123)).setCell ⟨gb134, 1, none⟩ (.int .i64 t124)).setCell ⟨gb134, 2, none⟩ (.int .i64 t125)).setCell ⟨gb134, 3, none⟩ (.int .i64 t126)).setCell ⟨gb134, 4, none⟩ (.string t127)).setCell ⟨gb134, 5, none⟩ (.string t128)).setCell ⟨gb134, 6, none⟩ (.slice Ao67 t129.length co67))) := ⟨bU_ HB.out⟩
              (try clear HO_112006)
              (try clear HO131)
              (try clear BK101)
              (try clear BK111)
              (try clear BK134)
              (try clear HB)
              generalize (((((((w63.setCell ⟨gb134, 0, none⟩ (.int .i64 t123)).setCell ⟨gb134, 1, none⟩ (.int .i64 t124)).setCell ⟨gb134, 2, none⟩ (.int .i64 t125)).setCell ⟨gb134, 3, none⟩ (.int .i64 t126)).setCell ⟨gb134, 4, none⟩ (.string t127)).setCell ⟨gb134, 5, none⟩ (.string t128)).setCell ⟨gb134, 6, none⟩ (.slice Ao67 t129.length co67)) = w68 at n0_ n1_ n2_ n3_ n4_ n5_ ⊢
              have HO_112006 := n0_
              have HO131 := n1_
              have BK101 := n2_
              have BK111 := n3_
              have BK134 := n4_
              have HB := n5_
              clear n0_ n1_ n2_ n3_ n4_ n5_
              have n0_ := Aside0.mk (Kd.R_drew HO_112006.out)
              have n1_ := Aside0.mk (Kd.R_drew HO131.out)
              have n2_ := Aside0.mk (blk_drew BK101.out)
              have n3_ := Aside0.mk (blk_drew BK111.out)
              have n4_ := Aside0.mk (blk_drew BK134.out)
              have n5_ := Aside0.mk (below_drew1 HB.out)
              clear HO_112006
              clear HO131
              clear BK101
              clear BK111
              clear BK134
              clear HB
              have HO_112006 := n0_
              have HO131 := n1_
              have BK101 := n2_
              have BK111 := n3_
              have BK134 := n4_
              have HB := n5_
              clear n0_ n1_ n2_ n3_ n4_ n5_
              refine start_ (n := 26) (S := fun w' => w'.cell? ⟨gb134, 0, none⟩ = some (.int .i64 t123) ∧ w'.cell? ⟨gb134, 1, none⟩ = some (.int .i64 t124) ∧ w'.cell? ⟨gb134, 2, none⟩ = some (.int .i64 t125) ∧ w'.cell? ⟨gb134, 3, none⟩ = some (.int .i64 t126) ∧ w'.cell? ⟨gb134, 4, none⟩ = some (.string t127) ∧ w'.cell? ⟨gb134, 5, none⟩ = some (.string t128) ∧ w'.cell? ⟨gb134, 6, none⟩ = some (.slice Ao67 t129.length co67) ∧ w'.cell? ⟨gb111, 0, none⟩ = some (.int .i64 t102) ∧ w'.cell? ⟨gb111, 1, none⟩ = some (.int .i64 t103) ∧ w'.cell? ⟨gb111, 2, none⟩ = some (.int .i64 t104) ∧ w'.cell? ⟨gb111, 3, none⟩ = some (.int .i64 t105) ∧ w'.cell? ⟨gb111, 4, none⟩ = some (.string t106) ∧ w'.cell? ⟨gb111, 5, none⟩ = some (.string t107) ∧ w'.cell? ⟨gb111, 6, none⟩ = some (.slice Ao12 t108.length co12)) (ds := []) #[false, false, false, false, false, false, false, false, false, false, false, false, false, false, false, false, false, false, false, false, false, false, false, false, false, false] (by kernel_rfl) rfl rfl ⟨(blk_cell BK134.out 0).trans rfl, (blk_cell BK134.out 1).trans rfl, (blk_cell BK134.out 2).trans rfl, (blk_cell BK134.out 3).trans rfl, (blk_cell BK134.out 4).trans rfl, (blk_cell BK134.out 5).trans rfl, (blk_cell BK134.out 6).trans rfl, (blk_cell BK111.out 0).trans rfl, (blk_cell BK111.out 1).trans rfl, (blk_cell BK111.out 2).trans rfl, (blk_cell BK111.out 3).trans rfl, (blk_cell BK111.out 4).trans rfl, (blk_cell BK111.out 5).trans rfl, (blk_cell BK111.out 6).trans rfl⟩ (fun hHeld => ?_); refine with_tabW rillmeterlaw07_IpsixPuts.tab12 rillmeterlaw07_IpsixPuts.bits12 (fun HT_ HW_ => ?_)
              generalize w68.drew = w69 at HO_112006 HO131 BK101 BK111 BK134 HB hHeld ⊢
              refine pure_ (i := 0) (N := some 76) (v := ?_) (a' := ?_) #[true, false, false, false, false, false, false, false, false, false, false, false, false, false, false, false, false, false, false, false, false, false, false, false, false, false] rfl rfl (any_of HT_.out (by kernel_rfl)) (fun _ _ _ h => h) (Or.inl ⟨by rfl, ?_⟩) ?_ ?_
              rotate_left
              ·intro w'
               go_simp
               with_reducible rfl
              rotate_left
              ·simp only [Act.put, List.setIfInBounds_toArray, List.set_cons_zero, List.set_cons_succ, i64_w, i32_w]
               rfl
              refine pure_ (i := 1) (N := some 77) (v := ?_) (a' := ?_) #[true, true, false, false, false, false, false, false, false, false, false, false, false, false, false, false, false, false, false, false, false, false, false, false, false, false] rfl rfl (any_of HT_.out (by kernel_rfl)) (fun _ _ _ h => h) (Or.inl ⟨by rfl, ?_⟩) ?_ ?_
              rotate_left
              ·intro w'
               go_simp
               with_reducible rfl
              rotate_left
              ·simp only [Act.put, List.setIfInBounds_toArray, List.set_cons_zero, List.set_cons_succ, i64_w, i32_w]
               rfl
              refine pure_ (i := 2) (N := some 78) (v := ?_) (a' := ?_) #[true, true, true, false, false, false, false, false, false, false, false, false, false, false, false, false, false, false, false, false, false, false, false, false, false, false] rfl rfl (any_of HT_.out (by kernel_rfl)) (fun _ _ _ h => h) (Or.inl ⟨by rfl, ?_⟩) ?_ ?_
              rotate_left
              ·intro w'
               go_simp
               with_reducible rfl
              rotate_left
              ·simp only [Act.put, List.setIfInBounds_toArray, List.set_cons_zero, List.set_cons_succ, i64_w, i32_w]
               rfl
              refine pure_ (i := 3) (N := some 79) (v := ?_) (a' := ?_) #[true, true, true, true, false, false, false, false, false, false, false, false, false, false, false, false, false, false, false, false, false, false, false, false, false, false] rfl rfl (any_of HT_.out (by kernel_rfl)) (fun _ _ _ h => h) (Or.inl ⟨by rfl, ?_⟩) ?_ ?_
              rotate_left
              ·intro w'
               go_simp
               with_reducible rfl
              rotate_left
              ·simp only [Act.put, List.setIfInBounds_toArray, List.set_cons_zero, List.set_cons_succ, i64_w, i32_w]
               rfl
              refine pure_ (i := 4) (N := some 80) (v := ?_) (a' := ?_) #[true, true, true, true, true, false, false, false, false, false, false, false, false, false, false, false, false, false, false, false, false, false, false, false, false, false] rfl rfl (any_of HT_.out (by kernel_rfl)) (fun _ _ _ h => h) (Or.inl ⟨by rfl, ?_⟩) ?_ ?_
              rotate_left
              ·intro w'
               go_simp
               with_reducible rfl
              rotate_left
              ·simp only [Act.put, List.setIfInBounds_toArray, List.set_cons_zero, List.set_cons_succ, i64_w, i32_w]
               rfl
              refine pure_ (i := 5) (N := some 81) (v := ?_) (a' := ?_) #[true, true, true, true, true, true, false, false, false, false, false, false, false, false, false, false, false, false, false, false, false, false, false, false, false, false] rfl rfl (any_of HT_.out (by kernel_rfl)) (fun _ _ _ h => h) (Or.inl ⟨by rfl, ?_⟩) ?_ ?_
              rotate_left
              ·intro w'
               go_simp
               with_reducible rfl
              rotate_left
              ·simp only [Act.put, List.setIfInBounds_toArray, List.set_cons_zero, List.set_cons_succ, i64_w, i32_w]
               rfl
              refine pure_ (i := 6) (N := some 82) (v := ?_) (a' := ?_) #[true, true, true, true, true, true, true, false, false, false, false, false, false, false, false, false, false, false, false, false, false, false, false, false, false, false] rfl rfl (any_of HT_.out (by kernel_rfl)) (fun _ _ _ h => h) (Or.inl ⟨by rfl, ?_⟩) ?_ ?_
              rotate_left
              ·intro w'
               go_simp
               with_reducible rfl
              rotate_left
              ·simp only [Act.put, List.setIfInBounds_toArray, List.set_cons_zero, List.set_cons_succ, i64_w, i32_w]
               rfl
              refine pure_ (i := 7) (N := some 83) (v := ?_) (a' := ?_) #[true, true, true, true, true, true, true, true, false, false, false, false, false, false, false, false, false, false, false, false, false, false, false, false, false, false] rfl rfl (any_of HT_.out (by kernel_rfl)) (fun _ _ _ h => h) (Or.inl ⟨by rfl, ?_⟩) ?_ ?_
              rotate_left
              ·intro w'
               go_simp
               with_reducible rfl
              rotate_left
              ·simp only [Act.put, List.setIfInBounds_toArray, List.set_cons_zero, List.set_cons_succ, i64_w, i32_w]
               rfl
              refine take_ (i := 8) (N := some 84) (v := ?_) (a' := ?_) #[true, true, true, true, true, true, true, true, true, false, false, false, false, false, false, false, false, false, false, false, false, false, false, false, false, false] rfl rfl (take_ofW HT_.out HW_.out (by kernel_rfl)) (fun _ _ _ h => h) (Or.inl ⟨by rfl, ?_⟩) hHeld ?_ ?_
              rotate_left
              ·rintro w' ⟨s0, s1, s2, s3, s4, s5, s6, s7, s8, s9, s10, s11, s12, s13⟩
               go_simp
               with_reducible rfl
              rotate_left
              ·simp only [Act.put, List.setIfInBounds_toArray, List.set_cons_zero, List.set_cons_succ, i64_w, i32_w]
               rfl
              refine take_ (i := 10) (N := some 86) (v := ?_) (a' := ?_) #[true, true, true, true, true, true, true, true, true, false, true, false, false, false, false, false, false, false, false, false, false, false, false, false, false, false] rfl rfl (take_ofW HT_.out HW_.out (by kernel_rfl)) (fun _ _ _ h => h) (Or.inl ⟨by rfl, ?_⟩) hHeld ?_ ?_
              rotate_left
              ·rintro w' ⟨s0, s1, s2, s3, s4, s5, s6, s7, s8, s9, s10, s11, s12, s13⟩
               go_simp
               with_reducible rfl
              rotate_left
              ·simp only [Act.put, List.setIfInBounds_toArray, List.set_cons_zero, List.set_cons_succ, i64_w, i32_w]
               rfl
              refine one_ (i := 9) (N := some 85) #[true, true, true, true, true, true, true, true, true, true, true, false, false, false, false, false, false, false, false, false, false, false, false, false, false, false] rfl rfl (one_of HT_.out (by kernel_rfl)) (by decide) (fun K hK => ?_)
              refine goes_ Try.func12 (by kernel_rfl) rfl #[.agg #[.int .i64 t123, .int .i64 t124, .int .i64 t125, .int .i64 t126, .string t127, .string t128, .slice Ao67 t129.length co67]] (by rfl) rfl rfl (by (try simp only [List.map_toArray, List.map_cons, List.map_nil]); first | done | rfl | (simp only [List.length_drop, List.length_take]; rfl) | (simp only [ByteArray.size_append, ByteArray.size_extract, Nat.sub_zero, Int.natCast_add]; rfl) | (simp [ByteArray.size_append]; done)) ?_
              with_reducible refine (rillmeterlaw07_ref.calls kj29 t123 t124 t125 t126 t127 t128 _ _ t129 t135 t136 t137 t138 t139 t140 t141 _ ?side1 ?side2 A53.out).mono ?_
              (case side1 => repeat (first | exact (Kd.R_reads' HO131.out).2.2 | (with_reducible refine Kd.C_alloc ?_ _) | (with_reducible refine Kd.C_drewN ?_ _) | (with_reducible refine Kd.C_drew ?_)))
              (case side2 => exact (Kd.R_reads' HO131.out).2.1)
              rintro e w70 ⟨v142, rfl, ho0, hb⟩
              refine ⟨_, rfl, ?_⟩
              have n0_ := Aside0.mk (Kd.R_elder' (by (with_reducible repeat first | apply Kd.R_alloc | apply Kd.R_drewN | apply Kd.R_drew); exact HO_112006.out) (Kd.R_base ho0) hb)
              have n1_ := Aside0.mk (Kd.R_below (by (with_reducible repeat first | apply Kd.R_alloc | apply Kd.R_drewN | apply Kd.R_drew); exact HO131.out) hb)
              have n2_ := Aside0.mk (Kd.R_lower (Kd.R_new' ho0 (Kd.R_lt (by (with_reducible repeat first | apply Kd.R_alloc | apply Kd.R_drewN | apply Kd.R_drew); exact HO_112006.out))) (below_size (bU_ HB.out)))
              have n3_ := Aside0.mk (blk_below (g := gb101) (o := .cells #[.int .i64 a0_0, .int .i64 a0_1, .int .i64 a0_2, .int .i64 a0_3, .string a0_4, .string a0_5, .slice A0_6 l0_6.length c0_6] 25 (0, 0)) (by (with_reducible repeat first | apply pN_ | apply pD_ | apply pA_); exact BK101.out) hb)
              have n4_ := Aside0.mk (blk_below (g := gb111) (o := .cells #[.int .i64 t102, .int .i64 t103, .int .i64 t104, .int .i64 t105, .string t106, .string t107, .slice Ao12 t108.length co12] 31 (0, 0)) (by (with_reducible repeat first | apply pN_ | apply pD_ | apply pA_); exact BK111.out) hb)
              have n5_ := Aside0.mk (blk_below (g := gb134) (o := .cells #[.int .i64 t123, .int .i64 t124, .int .i64 t125, .int .i64 t126, .string t127, .string t128, .slice Ao67 t129.length co67] 25 (0, 0)) (by (with_reducible repeat first | apply pN_ | apply pD_ | apply pA_); exact BK134.out) hb)
              have n6_ := Aside0.mk (below_step (bU_ HB.out) hb)
              clear HO_112006
              clear HO131
              clear BK101
              clear BK111
              clear BK134
              clear HB
              have HO_112006 := n0_
              have HO131 := n1_
              have HO143 := n2_
              have BK101 := n3_
              have BK111 := n4_
              have BK134 := n5_
              have HB := n6_
              clear n0_ n1_ n2_ n3_ n4_ n5_ n6_
              (try clear hb)
              (try clear hb2)
              (try clear hk)
              (try clear hi)
              (try clear ho0)
              obtain ⟨Ao71, co71, eo71⟩ := Kd.R_slice HO143.out
              (first | subst eo71 | (injection eo71 with f1_ f2_ f3_; have f4_ := f1_.symm; have f5_ := f3_.symm; clear f1_ f2_ f3_; subst f4_; subst f5_))
              refine hK.out _ _ ⟨(blk_cell BK134.out 0).trans rfl, (blk_cell BK134.out 1).trans rfl, (blk_cell BK134.out 2).trans rfl, (blk_cell BK134.out 3).trans rfl, (blk_cell BK134.out 4).trans rfl, (blk_cell BK134.out 5).trans rfl, (blk_cell BK134.out 6).trans rfl, (blk_cell BK111.out 0).trans rfl, (blk_cell BK111.out 1).trans rfl, (blk_cell BK111.out 2).trans rfl, (blk_cell BK111.out 3).trans rfl, (blk_cell BK111.out 4).trans rfl, (blk_cell BK111.out 5).trans rfl, (blk_cell BK111.out 6).trans rfl⟩ (fun hHeld => ?_)
              clear hK K
              refine norm_ (a' := ?_) ?_ ?_
              rotate_left
              ·show Act.put _ (some 85) _ = _
               simp only [Act.put, List.setIfInBounds_toArray, List.set_cons_zero, List.set_cons_succ, i64_w, i32_w]
               rfl
              refine one_ (i := 11) (N := some 87) #[true, true, true, true, true, true, true, true, true, true, true, true, false, false, false, false, false, false, false, false, false, false, false, false, false, false] rfl rfl (one_of HT_.out (by kernel_rfl)) (by decide) (fun K hK => ?_)
              refine goes_ Try.func11 (by kernel_rfl) rfl #[.agg #[.int .i64 t135, .int .i64 t136, .int .i64 t137, .int .i64 t138, .string t139, .string t140, .slice Ao71 t141.length co71], .agg #[.int .i64 t102, .int .i64 t103, .int .i64 t104, .int .i64 t105, .string t106, .string t107, .slice Ao12 t108.length co12]] (by rfl) rfl rfl (by (try simp only [List.map_toArray, List.map_cons, List.map_nil]); first | done | rfl | (simp only [List.length_drop, List.length_take]; rfl) | (simp only [ByteArray.size_append, ByteArray.size_extract, Nat.sub_zero, Int.natCast_add]; rfl) | (simp [ByteArray.size_append]; done)) ?_
              with_reducible refine (rillmeterref07_Equal.calls kj29 t135 t136 t137 t138 t139 t140 _ _ t141 t102 t103 t104 t105 t106 t107 _ _ t108 true _ ?side1 ?side2 ?side3 ?side4 A54.out).mono ?_
              (case side1 => repeat (first | exact (Kd.R_reads' HO143.out).2.2 | (with_reducible refine Kd.C_alloc ?_ _) | (with_reducible refine Kd.C_drewN ?_ _) | (with_reducible refine Kd.C_drew ?_)))
              (case side2 => exact (Kd.R_reads' HO143.out).2.1)
              (case side3 => repeat (first | exact (Kd.R_reads' HO_112006.out).2.2 | (with_reducible refine Kd.C_alloc ?_ _) | (with_reducible refine Kd.C_drewN ?_ _) | (with_reducible refine Kd.C_drew ?_)))
              (case side4 => exact (Kd.R_reads' HO_112006.out).2.1)
              rintro e w72 ⟨rfl, hb⟩
              refine ⟨_, rfl, ?_⟩
              have n0_ := Aside0.mk (Kd.R_below (by (with_reducible repeat first | apply Kd.R_alloc | apply Kd.R_drewN | apply Kd.R_drew); exact HO_112006.out) hb)
              have n1_ := Aside0.mk (Kd.R_below (by (with_reducible repeat first | apply Kd.R_alloc | apply Kd.R_drewN | apply Kd.R_drew); exact HO131.out) hb)
              have n2_ := Aside0.mk (Kd.R_below (by (with_reducible repeat first | apply Kd.R_alloc | apply Kd.R_drewN | apply Kd.R_drew); exact HO143.out) hb)
              have n3_ := Aside0.mk (blk_below (g := gb101) (o := .cells #[.int .i64 a0_0, .int .i64 a0_1, .int .i64 a0_2, .int .i64 a0_3, .string a0_4, .string a0_5, .slice A0_6 l0_6.length c0_6] 25 (0, 0)) (by (with_reducible repeat first | apply pN_ | apply pD_ | apply pA_); exact BK101.out) hb)
              have n4_ := Aside0.mk (blk_below (g := gb111) (o := .cells #[.int .i64 t102, .int .i64 t103, .int .i64 t104, .int .i64 t105, .string t106, .string t107, .slice Ao12 t108.length co12] 31 (0, 0)) (by (with_reducible repeat first | apply pN_ | apply pD_ | apply pA_); exact BK111.out) hb)
              have n5_ := Aside0.mk (blk_below (g := gb134) (o := .cells #[.int .i64 t123, .int .i64 t124, .int .i64 t125, .int .i64 t126, .string t127, .string t128, .slice Ao67 t129.length co67] 25 (0, 0)) (by (with_reducible repeat first | apply pN_ | apply pD_ | apply pA_); exact BK134.out) hb)
              have n6_ := Aside0.mk (below_step (bU_ HB.out) hb)
              clear HO_112006
              clear HO131
              clear HO143
              clear BK101
              clear BK111
              clear BK134
              clear HB
              have HO_112006 := n0_
              have HO131 := n1_
              have HO143 := n2_
              have BK101 := n3_
              have BK111 := n4_
              have BK134 := n5_
              have HB := n6_
              clear n0_ n1_ n2_ n3_ n4_ n5_ n6_
              (try clear hb)
              (try clear hb2)
              (try clear hk)
              (try clear hi)
              refine hK.out _ _ ⟨(blk_cell BK134.out 0).trans rfl, (blk_cell BK134.out 1).trans rfl, (blk_cell BK134.out 2).trans rfl, (blk_cell BK134.out 3).trans rfl, (blk_cell BK134.out 4).trans rfl, (blk_cell BK134.out 5).trans rfl, (blk_cell BK134.out 6).trans rfl, (blk_cell BK111.out 0).trans rfl, (blk_cell BK111.out 1).trans rfl, (blk_cell BK111.out 2).trans rfl, (blk_cell BK111.out 3).trans rfl, (blk_cell BK111.out 4).trans rfl, (blk_cell BK111.out 5).trans rfl, (blk_cell BK111.out 6).trans rfl⟩ (fun hHeld => ?_)
              clear hK K
              refine norm_ (a' := ?_) ?_ ?_
              rotate_left
              ·show Act.put _ (some 87) _ = _
               simp only [Act.put, List.setIfInBounds_toArray, List.set_cons_zero, List.set_cons_succ, i64_w, i32_w]
               rfl
              refine pure_ (i := 12) (N := some 88) (v := ?_) (a' := ?_) #[true, true, true, true, true, true, true, true, true, true, true, true, true, false, false, false, false, false, false, false, false, false, false, false, false, false] rfl rfl (any_of HT_.out (by kernel_rfl)) (fun _ _ _ h => h) (Or.inl ⟨by rfl, ?_⟩) ?_ ?_
              rotate_left
              ·intro w'
               go_simp
               with_reducible rfl
              rotate_left
              ·simp only [Act.put, List.setIfInBounds_toArray, List.set_cons_zero, List.set_cons_succ, i64_w, i32_w]
               rfl
              refine pure_ (i := 13) (N := some 89) (v := ?_) (a' := ?_) #[true, true, true, true, true, true, true, true, true, true, true, true, true, true, false, false, false, false, false, false, false, false, false, false, false, false] rfl rfl (any_of HT_.out (by kernel_rfl)) (fun _ _ _ h => h) (Or.inl ⟨by rfl, ?_⟩) ?_ ?_
              rotate_left
              ·intro w'
               go_simp
               with_reducible rfl
              rotate_left
              ·simp only [Act.put, List.setIfInBounds_toArray, List.set_cons_zero, List.set_cons_succ, i64_w, i32_w]
               rfl
              refine pure_ (i := 14) (N := some 90) (v := ?_) (a' := ?_) #[true, true, true, true, true, true, true, true, true, true, true, true, true, true, true, false, false, false, false, false, false, false, false, false, false, false] rfl rfl (any_of HT_.out (by kernel_rfl)) (fun _ _ _ h => h) (Or.inl ⟨by rfl, ?_⟩) ?_ ?_
              rotate_left
              ·intro w'
               go_simp
               with_reducible rfl
              rotate_left
              ·simp only [Act.put, List.setIfInBounds_toArray, List.set_cons_zero, List.set_cons_succ, i64_w, i32_w]
               rfl
              refine pure_ (i := 15) (N := some 91) (v := ?_) (a' := ?_) #[true, true, true, true, true, true, true, true, true, true, true, true, true, true, true, true, false, false, false, false, false, false, false, false, false, false] rfl rfl (any_of HT_.out (by kernel_rfl)) (fun _ _ _ h => h) (Or.inl ⟨by rfl, ?_⟩) ?_ ?_
              rotate_left
              ·intro w'
               go_simp
               with_reducible rfl
              rotate_left
              ·simp only [Act.put, List.setIfInBounds_toArray, List.set_cons_zero, List.set_cons_succ, i64_w, i32_w]
               rfl
              refine pure_ (i := 16) (N := some 92) (v := ?_) (a' := ?_) #[true, true, true, true, true, true, true, true, true, true, true, true, true, true, true, true, true, false, false, false, false, false, false, false, false, false] rfl rfl (any_of HT_.out (by kernel_rfl)) (fun _ _ _ h => h) (Or.inl ⟨by rfl, ?_⟩) ?_ ?_
              rotate_left
              ·intro w'
               go_simp
               with_reducible rfl
              rotate_left
              ·simp only [Act.put, List.setIfInBounds_toArray, List.set_cons_zero, List.set_cons_succ, i64_w, i32_w]
               rfl
              refine pure_ (i := 17) (N := some 93) (v := ?_) (a' := ?_) #[true, true, true, true, true, true, true, true, true, true, true, true, true, true, true, true, true, true, false, false, false, false, false, false, false, false] rfl rfl (any_of HT_.out (by kernel_rfl)) (fun _ _ _ h => h) (Or.inl ⟨by rfl, ?_⟩) ?_ ?_
              rotate_left
              ·intro w'
               go_simp
               with_reducible rfl
              rotate_left
              ·simp only [Act.put, List.setIfInBounds_toArray, List.set_cons_zero, List.set_cons_succ, i64_w, i32_w]
               rfl
              refine pure_ (i := 18) (N := some 94) (v := ?_) (a' := ?_) #[true, true, true, true, true, true, true, true, true, true, true, true, true, true, true, true, true, true, true, false, false, false, false, false, false, false] rfl rfl (any_of HT_.out (by kernel_rfl)) (fun _ _ _ h => h) (Or.inl ⟨by rfl, ?_⟩) ?_ ?_
              rotate_left
              ·intro w'
               go_simp
               with_reducible rfl
              rotate_left
              ·simp only [Act.put, List.setIfInBounds_toArray, List.set_cons_zero, List.set_cons_succ, i64_w, i32_w]
               rfl
              refine pure_ (i := 19) (N := some 95) (v := ?_) (a' := ?_) #[true, true, true, true, true, true, true, true, true, true, true, true, true, true, true, true, true, true, true, true, false, false, false, false, false, false] rfl rfl (any_of HT_.out (by kernel_rfl)) (fun _ _ _ h => h) (Or.inl ⟨by rfl, ?_⟩) ?_ ?_
              rotate_left
              ·intro w'
               go_simp
               with_reducible rfl
              rotate_left
              ·simp only [Act.put, List.setIfInBounds_toArray, List.set_cons_zero, List.set_cons_succ, i64_w, i32_w]
               rfl
              refine pure_ (i := 20) (N := some 96) (v := ?_) (a' := ?_) #[true, true, true, true, true, true, true, true, true, true, true, true, true, true, true, true, true, true, true, true, true, false, false, false, false, false] rfl rfl (any_of HT_.out (by kernel_rfl)) (fun _ _ _ h => h) (Or.inl ⟨by rfl, ?_⟩) ?_ ?_
              rotate_left
              ·intro w'
               go_simp
               with_reducible rfl
              rotate_left
              ·simp only [Act.put, List.setIfInBounds_toArray, List.set_cons_zero, List.set_cons_succ, i64_w, i32_w]
               rfl
              refine pure_ (i := 21) (N := some 97) (v := ?_) (a' := ?_) #[true, true, true, true, true, true, true, true, true, true, true, true, true, true, true, true, true, true, true, true, true, true, false, false, false, false] rfl rfl (any_of HT_.out (by kernel_rfl)) (fun _ _ _ h => h) (Or.inl ⟨by rfl, ?_⟩) ?_ ?_
              rotate_left
              ·intro w'
               go_simp
               with_reducible rfl
              rotate_left
              ·simp only [Act.put, List.setIfInBounds_toArray, List.set_cons_zero, List.set_cons_succ, i64_w, i32_w]
               rfl
              refine pure_ (i := 22) (N := some 98) (v := ?_) (a' := ?_) #[true, true, true, true, true, true, true, true, true, true, true, true, true, true, true, true, true, true, true, true, true, true, true, false, false, false] rfl rfl (any_of HT_.out (by kernel_rfl)) (fun _ _ _ h => h) (Or.inl ⟨by rfl, ?_⟩) ?_ ?_
              rotate_left
              ·intro w'
               go_simp
               with_reducible rfl
              rotate_left
              ·simp only [Act.put, List.setIfInBounds_toArray, List.set_cons_zero, List.set_cons_succ, i64_w, i32_w]
               rfl
              refine one_ (i := 23) (N := some 99) #[true, true, true, true, true, true, true, true, true, true, true, true, true, true, true, true, true, true, true, true, true, true, true, true, false, false] rfl rfl (one_of HT_.out (by kernel_rfl)) (by decide) (fun K hK => ?_)
              refine goes_ Try.func8 (by kernel_rfl) rfl #[] (by rfl) rfl rfl (by (try simp only [List.map_toArray, List.map_cons, List.map_nil]); first | done | rfl | (simp only [List.length_drop, List.length_take]; rfl) | (simp only [ByteArray.size_append, ByteArray.size_extract, Nat.sub_zero, Int.natCast_add]; rfl) | (simp [ByteArray.size_append]; done)) ?_
              with_reducible refine (rillmeterlaw07_awake.calls kj29  t145 _ hrt A58.out).mono ?_
              rintro e w73 ⟨rfl, hb⟩
              refine ⟨_, rfl, ?_⟩
              have n0_ := Aside0.mk (Kd.R_below (by (with_reducible repeat first | apply Kd.R_alloc | apply Kd.R_drewN | apply Kd.R_drew); exact HO_112006.out) hb)
              have n1_ := Aside0.mk (Kd.R_below (by (with_reducible repeat first | apply Kd.R_alloc | apply Kd.R_drewN | apply Kd.R_drew); exact HO131.out) hb)
              have n2_ := Aside0.mk (Kd.R_below (by (with_reducible repeat first | apply Kd.R_alloc | apply Kd.R_drewN | apply Kd.R_drew); exact HO143.out) hb)
              have n3_ := Aside0.mk (blk_below (g := gb101) (o := .cells #[.int .i64 a0_0, .int .i64 a0_1, .int .i64 a0_2, .int .i64 a0_3, .string a0_4, .string a0_5, .slice A0_6 l0_6.length c0_6] 25 (0, 0)) (by (with_reducible repeat first | apply pN_ | apply pD_ | apply pA_); exact BK101.out) hb)
              have n4_ := Aside0.mk (blk_below (g := gb111) (o := .cells #[.int .i64 t102, .int .i64 t103, .int .i64 t104, .int .i64 t105, .string t106, .string t107, .slice Ao12 t108.length co12] 31 (0, 0)) (by (with_reducible repeat first | apply pN_ | apply pD_ | apply pA_); exact BK111.out) hb)
              have n5_ := Aside0.mk (blk_below (g := gb134) (o := .cells #[.int .i64 t123, .int .i64 t124, .int .i64 t125, .int .i64 t126, .string t127, .string t128, .slice Ao67 t129.length co67] 25 (0, 0)) (by (with_reducible repeat first | apply pN_ | apply pD_ | apply pA_); exact BK134.out) hb)
              have n6_ := Aside0.mk (below_step (bU_ HB.out) hb)
              clear HO_112006
              clear HO131
              clear HO143
              clear BK101
              clear BK111
              clear BK134
              clear HB
              have HO_112006 := n0_
              have HO131 := n1_
              have HO143 := n2_
              have BK101 := n3_
              have BK111 := n4_
              have BK134 := n5_
              have HB := n6_
              clear n0_ n1_ n2_ n3_ n4_ n5_ n6_
              (try clear hb)
              (try clear hb2)
              (try clear hk)
              (try clear hi)
              refine hK.out _ _ ⟨(blk_cell BK134.out 0).trans rfl, (blk_cell BK134.out 1).trans rfl, (blk_cell BK134.out 2).trans rfl, (blk_cell BK134.out 3).trans rfl, (blk_cell BK134.out 4).trans rfl, (blk_cell BK134.out 5).trans rfl, (blk_cell BK134.out 6).trans rfl, (blk_cell BK111.out 0).trans rfl, (blk_cell BK111.out 1).trans rfl, (blk_cell BK111.out 2).trans rfl, (blk_cell BK111.out 3).trans rfl, (blk_cell BK111.out 4).trans rfl, (blk_cell BK111.out 5).trans rfl, (blk_cell BK111.out 6).trans rfl⟩ (fun hHeld => ?_)
              clear hK K
              refine norm_ (a' := ?_) ?_ ?_
              rotate_left
              ·show Act.put _ (some 99) _ = _
               simp only [Act.put, List.setIfInBounds_toArray, List.set_cons_zero, List.set_cons_succ, i64_w, i32_w]
               rfl
              refine pure_ (i := 24) (N := some 100) (v := ?_) (a' := ?_) #[true, true, true, true, true, true, true, true, true, true, true, true, true, true, true, true, true, true, true, true, true, true, true, true, true, false] rfl rfl (any_of HT_.out (by kernel_rfl)) (fun _ _ _ h => h) (Or.inl ⟨by rfl, ?_⟩) ?_ ?_
              rotate_left
              ·intro w'
               go_simp
               with_reducible rfl
              rotate_left
              ·simp only [Act.put, List.setIfInBounds_toArray, List.set_cons_zero, List.set_cons_succ, i64_w, i32_w]
               rfl
              refine pure_ (i := 25) (N := some 6) (v := ?_) (a' := ?_) #[true, true, true, true, true, true, true, true, true, true, true, true, true, true, true, true, true, true, true, true, true, true, true, true, true, true] rfl rfl (any_of HT_.out (by kernel_rfl)) (fun _ _ _ h => h) (Or.inl ⟨by rfl, ?_⟩) ?_ ?_
              rotate_left
              ·intro w'
               go_simp
               with_reducible rfl
              rotate_left
              ·simp only [Act.put, List.setIfInBounds_toArray, List.set_cons_zero, List.set_cons_succ, i64_w, i32_w]
               rfl
              refine done_ (done_of HT_.out (by kernel_rfl)) ?_
              try go_wp2
              go_ret
              exact ⟨by first | rfl | (simp [errW_none, errW_some] <;> rfl) | (simp [*, errW_none, errW_some] <;> rfl), bU_ HB.out⟩
             ·rw [if_neg c57] at H
              have c57b0 : (t133 == 0) = false := beq_eq_false_iff_ne.mpr c57
              have c57b1 : (t133 != 0) = true := bne_iff_ne.mpr c57
              obtain rfl := Option.some.inj H
              exact absurd hrt.out (by decide)
            ·rw [if_neg c56] at H
             have c56b0 : (t132.toList == a1.toList) = false := beq_eq_false_iff_ne.mpr c56
             have c56b1 : (t132.toList != a1.toList) = true := bne_iff_ne.mpr c56
             obtain rfl := Option.some.inj H
             exact absurd hrt.out (by decide)
           ·replace c55 := Bool.eq_false_iff.mpr c55
            subst c55
            have H1 : (some false) = some r := by rw [if_neg (show ¬ (false = true) by decide)] at H; exact H
            clear H
            have H := H1
            clear H1
            obtain rfl := Option.some.inj H
            exact absurd hrt.out (by decide)
          ·rw [if_neg c52] at H
           have c52b0 : (t115 == 0) = false := beq_eq_false_iff_ne.mpr c52
           have c52b1 : (t115 != 0) = true := bne_iff_ne.mpr c52
           obtain rfl := Option.some.inj H
           exact absurd hrt.out (by decide)
         ·rw [if_neg c51] at H
          have c51b0 : (t114.toList == t121.toList) = false := beq_eq_false_iff_ne.mpr c51
          have c51b1 : (t114.toList != t121.toList) = true := bne_iff_ne.mpr c51
          obtain rfl := Option.some.inj H
          exact absurd hrt.out (by decide)
        ·rw [if_neg c49] at H
         exact absurd H (by simp)
       ·replace c47 := Bool.eq_false_iff.mpr c47
        subst c47
        have H1 : (if t114.toList = ([] : List UInt8) then (if t115 = 1 then ((rillmeterlaw07_awake.f kj29).bind fun t120 => (some t120)) else (some false)) else (some false)) = some r := by rw [if_neg (show ¬ (false = true) by decide)] at H; exact H
        clear H
        have H := H1
        clear H1
        by_cases c74 : t114.toList = ([] : List UInt8)
        ·rw [if_pos c74] at H
         have c74b0 : (t114.toList == ([] : List UInt8)) = true := beq_iff_eq.mpr c74
         have c74b1 : (t114.toList != ([] : List UInt8)) = false := bne_eq_false_iff_eq.mpr c74
         clear c74
         by_cases c75 : t115 = 1
         ·rw [if_pos c75] at H
          have c75b0 : (t115 == 1) = true := beq_iff_eq.mpr c75
          have c75b1 : (t115 != 1) = false := bne_eq_false_iff_eq.mpr c75
          clear c75
          replace H := Option.bind_eq_some_iff.mp H
          obtain ⟨t120, A760, H⟩ := H
          replace H : (some t120) = some r := H
          have A76 := Aside0.mk A760
          clear A760
          obtain rfl := Option.some.inj H
          go_wp2_with (first | (go_at_call 8; (with_reducible refine (rillmeterlaw07_awake.calls kj29  t120 _ hrt A76.out).mono ?_); rintro e w77 ⟨rfl, hb⟩; have n0_ := Aside0.mk (Kd.R_below (by (with_reducible repeat first | apply Kd.R_alloc | apply Kd.R_drewN | apply Kd.R_drew); exact HO_112006.out) hb); have n1_ := Aside0.mk (blk_below (g := gb101) (o := .cells #[.int .i64 a0_0, .int .i64 a0_1, .int .i64 a0_2, .int .i64 a0_3, .string a0_4, .string a0_5, .slice A0_6 l0_6.length c0_6] 25 (0, 0)) (by (with_reducible repeat first | apply pN_ | apply pD_ | apply pA_); exact BK101.out) hb); have n2_ := Aside0.mk (blk_below (g := gb111) (o := .cells #[.int .i64 t102, .int .i64 t103, .int .i64 t104, .int .i64 t105, .string t106, .string t107, .slice Ao12 t108.length co12] 31 (0, 0)) (by (with_reducible repeat first | apply pN_ | apply pD_ | apply pA_); exact BK111.out) hb); have n3_ := Aside0.mk (below_step (bU_ HB.out) hb); clear HO_112006; clear BK101; clear BK111; clear HB; have HO_112006 := n0_; have BK101 := n1_; have BK111 := n2_; have HB := n3_; clear n0_ n1_ n2_ n3_; (try clear hb); (try clear hb2); (try clear hk); (try clear hi)))
          go_ret
          exact ⟨by first | rfl | (simp [errW_none, errW_some] <;> rfl) | (simp [*, errW_none, errW_some] <;> rfl), bU_ HB.out⟩
         ·rw [if_neg c75] at H
          obtain rfl := Option.some.inj H
          exact absurd hrt.out (by decide)
        ·rw [if_neg c74] at H
         obtain rfl := Option.some.inj H
         exact absurd hrt.out (by decide)

end Go.Proofs.Ytmjpemnlilcpkaa.Q
