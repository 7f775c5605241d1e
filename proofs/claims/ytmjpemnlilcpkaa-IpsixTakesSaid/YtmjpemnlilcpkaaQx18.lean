-- made by a program of this session (wip/print-patch.py, over the kit's print)
import Derived.Test.YtmjpemnlilcpkaaQx0
import Derived.Test.YtmjpemnlilcpkaaQx6
import Derived.Test.YtmjpemnlilcpkaaQx8
import Derived.Test.YtmjpemnlilcpkaaQx13
import Derived.Test.YtmjpemnlilcpkaaQx14
import Derived.Test.YtmjpemnlilcpkaaQx15
import Derived.Test.YtmjpemnlilcpkaaQx16
import Derived.Test.YtmjpemnlilcpkaaQx17
namespace Go.Proofs.Ytmjpemnlilcpkaa.Q
open Go.RowKit Go.Proofs.YtmjpemnlilcpkaaW.PrintWords Go.Proofs.YtmjpemnlilcpkaaW.PrintLast Go.Proofs.YtmjpemnlilcpkaaW.PrintMore
attribute [local go_sem] max2_int min2_int max_two min_two max_three min_three max_four min_four   -- for this text's walks alone
set_option linter.unusedVariables false
set_option linter.unusedSimpArgs false

attribute [local go_sem] cell_twice_ cell_twiceN_
/-! ### rillmeterlaw07_IpsixTakes: function 3 -/
def rillmeterlaw07_IpsixTakes.f (k : Nat) (a0 : ByteArray) : Option (Bool) := if (a0.size : Int) > 4096 then ((rillmeterlaw07_awake.f k).bind fun t101 => (some t101)) else ((ipsix_Take.f k a0).bind fun bt102 => ((rillmeterref07_Take.f k a0).bind fun bt114 => ((rillmeterlaw07_ref.f k bt102.1 bt102.2.1 bt102.2.2.1 bt102.2.2.2.1 bt102.2.2.2.2.1 bt102.2.2.2.2.2.1 bt102.2.2.2.2.2.2.1).bind fun bt126 => ((rillmeterref07_Equal.f k bt126.1 bt126.2.1 bt126.2.2.1 bt126.2.2.2.1 bt126.2.2.2.2.1 bt126.2.2.2.2.2.1 bt126.2.2.2.2.2.2 bt114.1 bt114.2.1 bt114.2.2.1 bt114.2.2.2.1 bt114.2.2.2.2.1 bt114.2.2.2.2.2.1 bt114.2.2.2.2.2.2.1).bind fun t135 => (if t135 = true then (if bt102.2.2.2.2.2.2.2.1.toList = bt114.2.2.2.2.2.2.2.1.toList then (if bt102.2.2.2.2.2.2.2.2 = bt114.2.2.2.2.2.2.2.2 then ((ipsix_Piece.f k bt102.1 bt102.2.1 bt102.2.2.1 bt102.2.2.2.1 bt102.2.2.2.2.1 bt102.2.2.2.2.2.1 bt102.2.2.2.2.2.2.1).bind fun t136 => ((rillmeterref07_Piece.f k bt114.1 bt114.2.1 bt114.2.2.1 bt114.2.2.2.1 bt114.2.2.2.2.1 bt114.2.2.2.2.2.1 bt114.2.2.2.2.2.2.1).bind fun t137 => (if (t136 == t137) = true then ((rillmeterlaw07_awake.f k).bind fun t138 => (some t138)) else (some false)))) else (some false)) else (some false)) else (some false))))))
theorem rillmeterlaw07_IpsixTakes.mono : ∀ a0 k, LeO (rillmeterlaw07_IpsixTakes.f k a0) (rillmeterlaw07_IpsixTakes.f (k + 1) a0) := by
 intro a0 k
 unfold rillmeterlaw07_IpsixTakes.f
 repeat' first
   | (with_reducible exact ipsix_Piece.mono _ _ _ _ _ _ _ _)
   | (with_reducible exact ipsix_Take.mono _ _)
   | (with_reducible exact rillmeterlaw07_awake.mono _)
   | (with_reducible exact rillmeterlaw07_ref.mono _ _ _ _ _ _ _ _)
   | (with_reducible exact rillmeterref07_Equal.mono _ _ _ _ _ _ _ _ _ _ _ _ _ _ _)
   | (with_reducible exact rillmeterref07_Piece.mono _ _ _ _ _ _ _ _)
   | (with_reducible exact rillmeterref07_Take.mono _ _)
   | (with_reducible exact LeO.refl _)
   | (with_reducible exact LeO.none _)
   | (with_reducible refine LeO.ite ?_ ?_)
   | (with_reducible refine LeO.bind ?_ (fun _ => ?_))
   | exact ipsix_Piece.mono _ _ _ _ _ _ _ _
   | exact ipsix_Take.mono _ _
   | exact rillmeterlaw07_awake.mono _
   | exact rillmeterlaw07_ref.mono _ _ _ _ _ _ _ _
   | exact rillmeterref07_Equal.mono _ _ _ _ _ _ _ _ _ _ _ _ _ _ _
   | exact rillmeterref07_Piece.mono _ _ _ _ _ _ _ _
   | exact rillmeterref07_Take.mono _ _
   | exact LeO.none _
   | refine LeO.ite ?_ ?_
   | refine LeO.bind ?_ (fun _ => ?_)
def rillmeterlaw07_IpsixTakes.T5 : Bool × List (List Nat × List Nat) := (true, [([], []), ([0], [0]), ([], []), ([1, 2, 1], [1, 2]), ([3, 3], [3]), ([4], [4]), ([4], [4]), ([5, 6, 4], [4, 5, 6]), ([4, 7], [4, 7]), ([8, 4], [8]), ([9], [9]), ([9], [9]), ([10, 11, 9], [9, 10, 11]), ([9, 12], [9, 12]), ([13, 9], [13]), ([14], [14]), ([15, 14, 14], [14, 15]), ([14], [14]), ([17, 16, 14], [14, 17]), ([16, 18, 14], [14, 16, 18]), ([14, 19], [14, 19]), ([20, 18], [20]), ([21, 21], [21]), ([21, 22], [21, 22]), ([23, 22, 0, 1, 2, 3, 4, 5, 6, 7, 8, 9, 10, 11, 12, 13, 14, 15, 16, 17, 18, 19, 20, 21, 22, 23], [23])])
def rillmeterlaw07_IpsixTakes.B5 : List Nat := [0, 1, 0, 7, 15, 31, 31, 127, 255, 511, 1023, 1023, 4095, 8191, 16383, 32767, 65535, 32767, 262143, 524287, 1048575, 2097151, 4194303, 8388607, 16777215]
theorem rillmeterlaw07_IpsixTakes.tab5 : rtab .any (opsOf Try.f3 5) = rillmeterlaw07_IpsixTakes.T5 := by kernel_rfl
theorem rillmeterlaw07_IpsixTakes.bits5 : waitsOk rillmeterlaw07_IpsixTakes.T5.2 rillmeterlaw07_IpsixTakes.B5 = true := by kernel_rfl
set_option maxHeartbeats 8000000 in
set_option maxRecDepth 100000 in
theorem rillmeterlaw07_IpsixTakes.calls (k : Nat) (a0 : ByteArray) (r : Bool) (w : World) (hrt : Aside0 (r = true)) (h : rillmeterlaw07_IpsixTakes.f k a0 = some r) :
  Calls Try.prog 3 #[.string a0] w fun e w' => e = .returned (.bool r) ∧ Below w.heap.size w w' := by
 have hu25 := Try.underlying25
 have hu31 := Try.underlying31
 have HB := Aside0.mk (Below.refl w.heap.size w)
 have H : (if (a0.size : Int) > 4096 then ((rillmeterlaw07_awake.f k).bind fun t101 => (some t101)) else ((ipsix_Take.f k a0).bind fun bt102 => ((rillmeterref07_Take.f k a0).bind fun bt114 => ((rillmeterlaw07_ref.f k bt102.1 bt102.2.1 bt102.2.2.1 bt102.2.2.2.1 bt102.2.2.2.2.1 bt102.2.2.2.2.2.1 bt102.2.2.2.2.2.2.1).bind fun bt126 => ((rillmeterref07_Equal.f k bt126.1 bt126.2.1 bt126.2.2.1 bt126.2.2.2.1 bt126.2.2.2.2.1 bt126.2.2.2.2.2.1 bt126.2.2.2.2.2.2 bt114.1 bt114.2.1 bt114.2.2.1 bt114.2.2.2.1 bt114.2.2.2.2.1 bt114.2.2.2.2.2.1 bt114.2.2.2.2.2.2.1).bind fun t135 => (if t135 = true then (if bt102.2.2.2.2.2.2.2.1.toList = bt114.2.2.2.2.2.2.2.1.toList then (if bt102.2.2.2.2.2.2.2.2 = bt114.2.2.2.2.2.2.2.2 then ((ipsix_Piece.f k bt102.1 bt102.2.1 bt102.2.2.1 bt102.2.2.2.1 bt102.2.2.2.2.1 bt102.2.2.2.2.2.1 bt102.2.2.2.2.2.2.1).bind fun t136 => ((rillmeterref07_Piece.f k bt114.1 bt114.2.1 bt114.2.2.1 bt114.2.2.2.1 bt114.2.2.2.2.1 bt114.2.2.2.2.2.1 bt114.2.2.2.2.2.2.1).bind fun t137 => (if (t136 == t137) = true then ((rillmeterlaw07_awake.f k).bind fun t138 => (some t138)) else (some false)))) else (some false)) else (some false)) else (some false))))))) = some r := h
 clear h
 by_cases c2 : (a0.size : Int) > 4096
 ·rw [if_pos c2] at H
  have c2b0 : decide (4096 < (a0.size : Int)) = true := decide_eq_true c2
  have c2b1 : decide (4096 < a0.size) = true := decide_eq_true (by omega)
  clear c2
  replace H := Option.bind_eq_some_iff.mp H
  obtain ⟨t101, A30, H⟩ := H
  replace H : (some t101) = some r := H
  have A3 := Aside0.mk A30
  clear A30
  obtain rfl := Option.some.inj H
  go_enter Try.func3, Try.ntmps3
  go_wp2_with (first | ((with_reducible refine gate_callee (f := 8) rfl ?_); refine gL_ (some 12) rfl rfl Try.func8 (by kernel_rfl) rfl #[] rfl ?_; (with_reducible refine (rillmeterlaw07_awake.calls k  t101 _ hrt A3.out).mono ?_); rintro e w4 ⟨rfl, hb⟩; refine ⟨_, rfl, ?_⟩; have n0_ := Aside0.mk (below_step (bU_ HB.out) hb); clear HB; have HB := n0_; clear n0_; (try clear hb); (try clear hb2); (try clear hk); (try clear hi)))
  go_ret
  exact ⟨by first | rfl | (simp [errW_none, errW_some] <;> rfl) | (simp [*, errW_none, errW_some] <;> rfl), bU_ HB.out⟩
 ·rw [if_neg c2] at H
  have c2b0 : decide (4096 < (a0.size : Int)) = false := decide_eq_false c2
  have c2b1 : decide (4096 < a0.size) = false := decide_eq_false (by omega)
  clear c2
  replace H := Option.bind_eq_some_iff.mp H
  obtain ⟨⟨t102, t103, t104, t105, t106, t107, t108, t111, t112⟩, A50, H⟩ := H
  replace H : ((rillmeterref07_Take.f k a0).bind fun bt114 => ((rillmeterlaw07_ref.f k t102 t103 t104 t105 t106 t107 t108).bind fun bt126 => ((rillmeterref07_Equal.f k bt126.1 bt126.2.1 bt126.2.2.1 bt126.2.2.2.1 bt126.2.2.2.2.1 bt126.2.2.2.2.2.1 bt126.2.2.2.2.2.2 bt114.1 bt114.2.1 bt114.2.2.1 bt114.2.2.2.1 bt114.2.2.2.2.1 bt114.2.2.2.2.2.1 bt114.2.2.2.2.2.2.1).bind fun t135 => (if t135 = true then (if t111.toList = bt114.2.2.2.2.2.2.2.1.toList then (if t112 = bt114.2.2.2.2.2.2.2.2 then ((ipsix_Piece.f k t102 t103 t104 t105 t106 t107 t108).bind fun t136 => ((rillmeterref07_Piece.f k bt114.1 bt114.2.1 bt114.2.2.1 bt114.2.2.2.1 bt114.2.2.2.2.1 bt114.2.2.2.2.2.1 bt114.2.2.2.2.2.2.1).bind fun t137 => (if (t136 == t137) = true then ((rillmeterlaw07_awake.f k).bind fun t138 => (some t138)) else (some false)))) else (some false)) else (some false)) else (some false))))) = some r := H
  have A5 := Aside0.mk A50
  clear A50
  replace H := Option.bind_eq_some_iff.mp H
  obtain ⟨⟨t114, t115, t116, t117, t118, t119, t120, t123, t124⟩, A60, H⟩ := H
  replace H : ((rillmeterlaw07_ref.f k t102 t103 t104 t105 t106 t107 t108).bind fun bt126 => ((rillmeterref07_Equal.f k bt126.1 bt126.2.1 bt126.2.2.1 bt126.2.2.2.1 bt126.2.2.2.2.1 bt126.2.2.2.2.2.1 bt126.2.2.2.2.2.2 t114 t115 t116 t117 t118 t119 t120).bind fun t135 => (if t135 = true then (if t111.toList = t123.toList then (if t112 = t124 then ((ipsix_Piece.f k t102 t103 t104 t105 t106 t107 t108).bind fun t136 => ((rillmeterref07_Piece.f k t114 t115 t116 t117 t118 t119 t120).bind fun t137 => (if (t136 == t137) = true then ((rillmeterlaw07_awake.f k).bind fun t138 => (some t138)) else (some false)))) else (some false)) else (some false)) else (some false)))) = some r := H
  have A6 := Aside0.mk A60
  clear A60
  replace H := Option.bind_eq_some_iff.mp H
  obtain ⟨⟨t126, t127, t128, t129, t130, t131, t132⟩, A70, H⟩ := H
  replace H : ((rillmeterref07_Equal.f k t126 t127 t128 t129 t130 t131 t132 t114 t115 t116 t117 t118 t119 t120).bind fun t135 => (if t135 = true then (if t111.toList = t123.toList then (if t112 = t124 then ((ipsix_Piece.f k t102 t103 t104 t105 t106 t107 t108).bind fun t136 => ((rillmeterref07_Piece.f k t114 t115 t116 t117 t118 t119 t120).bind fun t137 => (if (t136 == t137) = true then ((rillmeterlaw07_awake.f k).bind fun t138 => (some t138)) else (some false)))) else (some false)) else (some false)) else (some false))) = some r := H
  have A7 := Aside0.mk A70
  clear A70
  replace H := Option.bind_eq_some_iff.mp H
  obtain ⟨t135, A80, H⟩ := H
  replace H : (if t135 = true then (if t111.toList = t123.toList then (if t112 = t124 then ((ipsix_Piece.f k t102 t103 t104 t105 t106 t107 t108).bind fun t136 => ((rillmeterref07_Piece.f k t114 t115 t116 t117 t118 t119 t120).bind fun t137 => (if (t136 == t137) = true then ((rillmeterlaw07_awake.f k).bind fun t138 => (some t138)) else (some false)))) else (some false)) else (some false)) else (some false)) = some r := H
  have A8 := Aside0.mk A80
  clear A80
  by_cases c9 : t135 = true
  ·subst c9
   have H1 : (if t111.toList = t123.toList then (if t112 = t124 then ((ipsix_Piece.f k t102 t103 t104 t105 t106 t107 t108).bind fun t136 => ((rillmeterref07_Piece.f k t114 t115 t116 t117 t118 t119 t120).bind fun t137 => (if (t136 == t137) = true then ((rillmeterlaw07_awake.f k).bind fun t138 => (some t138)) else (some false)))) else (some false)) else (some false)) = some r := by rw [if_pos rfl] at H; exact H
   clear H
   have H := H1
   clear H1
   by_cases c10 : t111.toList = t123.toList
   ·rw [if_pos c10] at H
    have c10b0 : (t111.toList == t123.toList) = true := beq_iff_eq.mpr c10
    have c10b1 : (t111.toList != t123.toList) = false := bne_eq_false_iff_eq.mpr c10
    clear c10
    by_cases c11 : t112 = t124
    ·rw [if_pos c11] at H
     have c11b0 : (t112 == t124) = true := beq_iff_eq.mpr c11
     have c11b1 : (t112 != t124) = false := bne_eq_false_iff_eq.mpr c11
     clear c11
     replace H := Option.bind_eq_some_iff.mp H
     obtain ⟨t136, A120, H⟩ := H
     replace H : ((rillmeterref07_Piece.f k t114 t115 t116 t117 t118 t119 t120).bind fun t137 => (if (t136 == t137) = true then ((rillmeterlaw07_awake.f k).bind fun t138 => (some t138)) else (some false))) = some r := H
     have A12 := Aside0.mk A120
     clear A120
     replace H := Option.bind_eq_some_iff.mp H
     obtain ⟨t137, A130, H⟩ := H
     replace H : (if (t136 == t137) = true then ((rillmeterlaw07_awake.f k).bind fun t138 => (some t138)) else (some false)) = some r := H
     have A13 := Aside0.mk A130
     clear A130
     by_cases c14 : (t136 == t137) = true
     ·rw [if_pos c14] at H
      have c14b0 : (t136 == t137) = true := c14
      (try (have c14b1 : decide (t136 = t137) = true := by simpa using c14))
      (try (have c14b2 : (t136 == t137) = true := by simpa using c14))
      clear c14
      replace H := Option.bind_eq_some_iff.mp H
      obtain ⟨t138, A150, H⟩ := H
      replace H : (some t138) = some r := H
      have A15 := Aside0.mk A150
      clear A150
      obtain rfl := Option.some.inj H
      go_enter Try.func3, Try.ntmps3
      try go_wp2_with (first | ((with_reducible refine gate_callee (f := 9) rfl ?_); refine gL_ (some 15) rfl rfl Try.func9 (by kernel_rfl) rfl #[.string a0] rfl ?_; (with_reducible refine (ipsix_Take.calls k a0 t102 t103 t104 t105 t106 t107 t108 t111 t112 _ A5.out).mono ?_); rintro e w16 ⟨v109, rfl, ho0, hb⟩; refine ⟨_, rfl, ?_⟩; have n0_ := Aside0.mk (Kd.R_lower ho0 (below_size (bU_ HB.out))); have n1_ := Aside0.mk (below_step (bU_ HB.out) hb); clear HB; have HO110 := n0_; have HB := n1_; clear n0_ n1_; (try clear hb); (try clear hb2); (try clear hk); (try clear hi); (try clear ho0)) | ((with_reducible refine gate_dst (N := 3) rfl ?_); refine box_event ?hg (N := 3) ?hd (cs := #[.int .i64 0, .int .i64 0, .int .i64 0, .int .i64 0, .string (⟨#[]⟩ : ByteArray), .string (⟨#[]⟩ : ByteArray), .slice none 0 0]) (t := 25) ?hr ?_; (case hd => rfl); (case hg => rfl); (case hr => first | (go_simp; done) | (go_simp; rfl)); intro gb113 hg w17 hbox hb; have n0_ := Aside0.mk (Kd.R_below (by (with_reducible repeat first | apply Kd.R_alloc | apply Kd.R_drewN | apply Kd.R_drew); exact HO110.out) hb); have n1_ := Aside0.mk (below_step (bU_ HB.out) hb); have n2_ := Aside0.mk (hbox); have n3_ := Aside0.mk ((by rw [hg]; exact (below_size (bU_ HB.out)) : w.heap.size ≤ gb113)); have n4_ := Aside0.mk ((by rw [hg]; exact (below_size (bU_ HB.out)) : w.heap.size ≤ gb113)); clear HO110; clear HB; have HO110 := n0_; have HB := n1_; have BK113 := n2_; have GW113 := n3_; have GE113 := n4_; clear n0_ n1_ n2_ n3_ n4_; clear hb hbox hg; have hcz18_0 : w17.cell? ⟨gb113, 0, none⟩ = some (.int .i64 0) := (blk_cell BK113.out 0).trans rfl; have hcz18_1 : w17.cell? ⟨gb113, 1, none⟩ = some (.int .i64 0) := (blk_cell BK113.out 1).trans rfl; have hcz18_2 : w17.cell? ⟨gb113, 2, none⟩ = some (.int .i64 0) := (blk_cell BK113.out 2).trans rfl; have hcz18_3 : w17.cell? ⟨gb113, 3, none⟩ = some (.int .i64 0) := (blk_cell BK113.out 3).trans rfl; have hcz18_4 : w17.cell? ⟨gb113, 4, none⟩ = some (.string (⟨#[]⟩ : ByteArray)) := (blk_cell BK113.out 4).trans rfl; have hcz18_5 : w17.cell? ⟨gb113, 5, none⟩ = some (.string (⟨#[]⟩ : ByteArray)) := (blk_cell BK113.out 5).trans rfl; have hcz18_6 : w17.cell? ⟨gb113, 6, none⟩ = some (.slice none 0 0) := (blk_cell BK113.out 6).trans rfl; have hfz18_0 := blk_frozen BK113.out 0; have hfz18_1 := blk_frozen BK113.out 1; have hfz18_2 := blk_frozen BK113.out 2; have hfz18_3 := blk_frozen BK113.out 3; have hfz18_4 := blk_frozen BK113.out 4; have hfz18_5 := blk_frozen BK113.out 5; have hfz18_6 := blk_frozen BK113.out 6; obtain ⟨Ao19, co19, eo19⟩ := Kd.R_slice HO110.out; subst eo19) | ((with_reducible refine gate_callee (f := 10) rfl ?_); refine gL_ (some 21) rfl rfl Try.func10 (by kernel_rfl) rfl #[.string a0] rfl ?_; (with_reducible refine (rillmeterref07_Take.calls k a0 t114 t115 t116 t117 t118 t119 t120 t123 t124 _ A6.out).mono ?_); rintro e w20 ⟨v121, rfl, ho0, hb⟩; refine ⟨_, rfl, ?_⟩; have n0_ := Aside0.mk (Kd.R_below (by (with_reducible repeat first | apply Kd.R_alloc | apply Kd.R_drewN | apply Kd.R_drew); exact (Kd.R_mono (Kd.R_far (p := ⟨gb113, 6, none⟩) (Kd.R_far (p := ⟨gb113, 5, none⟩) (Kd.R_far (p := ⟨gb113, 4, none⟩) (Kd.R_far (p := ⟨gb113, 3, none⟩) (Kd.R_far (p := ⟨gb113, 2, none⟩) (Kd.R_far (p := ⟨gb113, 1, none⟩) (Kd.R_far (p := ⟨gb113, 0, none⟩) (Kd.R_types HO110.out BK113.out (by decide)) (fun _ hk => hk.2) (.int .i64 t102)) (fun _ hk => hk.2) (.int .i64 t103)) (fun _ hk => hk.2) (.int .i64 t104)) (fun _ hk => hk.2) (.int .i64 t105)) (fun _ hk => hk.2) (.string t106)) (fun _ hk => hk.2) (.string t107)) (fun _ hk => hk.2) (.slice Ao19 t108.length co19)) (fun _ h_ => h_.1))) hb); have n1_ := Aside0.mk (Kd.R_lower ho0 (below_size (bU_ HB.out))); have n2_ := Aside0.mk (blk_below (g := gb113) (o := .cells #[.int .i64 t102, .int .i64 t103, .int .i64 t104, .int .i64 t105, .string t106, .string t107, .slice Ao19 t108.length co19] 25 (0, 0)) (by (with_reducible repeat first | apply pN_ | apply pD_ | apply pA_); refine blk_put (cs := #[.int .i64 t102, .int .i64 t103, .int .i64 t104, .int .i64 t105, .string t106, .string t107, .slice none 0 0]) ?_ 6 _ rfl; (with_reducible repeat first | apply pN_ | apply pD_ | apply pA_); refine blk_put (cs := #[.int .i64 t102, .int .i64 t103, .int .i64 t104, .int .i64 t105, .string t106, .string (⟨#[]⟩ : ByteArray), .slice none 0 0]) ?_ 5 _ rfl; (with_reducible repeat first | apply pN_ | apply pD_ | apply pA_); refine blk_put (cs := #[.int .i64 t102, .int .i64 t103, .int .i64 t104, .int .i64 t105, .string (⟨#[]⟩ : ByteArray), .string (⟨#[]⟩ : ByteArray), .slice none 0 0]) ?_ 4 _ rfl; (with_reducible repeat first | apply pN_ | apply pD_ | apply pA_); refine blk_put (cs := #[.int .i64 t102, .int .i64 t103, .int .i64 t104, .int .i64 0, .string (⟨#[]⟩ : ByteArray), .string (⟨#[]⟩ : ByteArray), .slice none 0 0]) ?_ 3 _ rfl; (with_reducible repeat first | apply pN_ | apply pD_ | apply pA_); refine blk_put (cs := #[.int .i64 t102, .int .i64 t103, .int .i64 0, .int .i64 0, .string (⟨#[]⟩ : ByteArray), .string (⟨#[]⟩ : ByteArray), .slice none 0 0]) ?_ 2 _ rfl; (with_reducible repeat first | apply pN_ | apply pD_ | apply pA_); refine blk_put (cs := #[.int .i64 t102, .int .i64 0, .int .i64 0, .int .i64 0, .string (⟨#[]⟩ : ByteArray), .string (⟨#[]⟩ : ByteArray), .slice none 0 0]) ?_ 1 _ rfl; (with_reducible repeat first | apply pN_ | apply pD_ | apply pA_); refine blk_put (cs := #[.int .i64 0, .int .i64 0, .int .i64 0, .int .i64 0, .string (⟨#[]⟩ : ByteArray), .string (⟨#[]⟩ : ByteArray), .slice none 0 0]) ?_ 0 _ rfl; (with_reducible repeat first | apply pN_ | apply pD_ | apply pA_); exact BK113.out) hb); have n3_ := Aside0.mk (below_step (bU_ HB.out) hb); clear HO110; clear BK113; clear HB; have HO110 := n0_; have HO122 := n1_; have BK113 := n2_; have HB := n3_; clear n0_ n1_ n2_ n3_; (try clear hb); (try clear hb2); (try clear hk); (try clear hi); (try clear ho0)) | ((with_reducible refine gate_dst (N := 6) rfl ?_); refine box_event ?hg (N := 6) ?hd (cs := #[.int .i64 0, .int .i64 0, .int .i64 0, .int .i64 0, .string (⟨#[]⟩ : ByteArray), .string (⟨#[]⟩ : ByteArray), .slice none 0 0]) (t := 31) ?hr ?_; (case hd => rfl); (case hg => rfl); (case hr => first | (go_simp; done) | (go_simp; rfl)); intro gb125 hg w21 hbox hb; have n0_ := Aside0.mk (Kd.R_below (by (with_reducible repeat first | apply Kd.R_alloc | apply Kd.R_drewN | apply Kd.R_drew); exact HO110.out) hb); have n1_ := Aside0.mk (Kd.R_below (by (with_reducible repeat first | apply Kd.R_alloc | apply Kd.R_drewN | apply Kd.R_drew); exact HO122.out) hb); have n2_ := Aside0.mk (blk_below (g := gb113) (o := .cells #[.int .i64 t102, .int .i64 t103, .int .i64 t104, .int .i64 t105, .string t106, .string t107, .slice Ao19 t108.length co19] 25 (0, 0)) (by (with_reducible repeat first | apply pN_ | apply pD_ | apply pA_); exact BK113.out) hb); have n3_ := Aside0.mk (below_step (bU_ HB.out) hb); have n4_ := Aside0.mk (hbox); have n5_ := Aside0.mk ((by rw [hg]; exact (below_size (bU_ HB.out)) : w.heap.size ≤ gb125)); have n6_ := Aside0.mk ((by rw [hg]; exact (below_size (bU_ HB.out)) : w.heap.size ≤ gb125)); have n7_ := Aside0.mk ((by rw [hg]; exact Nat.ne_of_lt (blk_lt (g := gb113) (o := .cells #[.int .i64 t102, .int .i64 t103, .int .i64 t104, .int .i64 t105, .string t106, .string t107, .slice Ao19 t108.length co19] 25 (0, 0)) (by (with_reducible repeat first | apply pN_ | apply pD_ | apply pA_); exact BK113.out)) : gb113 ≠ gb125)); have n8_ := Aside0.mk ((by rw [hg]; exact Nat.ne_of_gt (blk_lt (g := gb113) (o := .cells #[.int .i64 t102, .int .i64 t103, .int .i64 t104, .int .i64 t105, .string t106, .string t107, .slice Ao19 t108.length co19] 25 (0, 0)) (by (with_reducible repeat first | apply pN_ | apply pD_ | apply pA_); exact BK113.out)) : gb125 ≠ gb113)); clear HO110; clear HO122; clear BK113; clear HB; have HO110 := n0_; have HO122 := n1_; have BK113 := n2_; have HB := n3_; have BK125 := n4_; have GW125 := n5_; have GE125 := n6_; have NB113_125 := n7_; have NB125_113 := n8_; clear n0_ n1_ n2_ n3_ n4_ n5_ n6_ n7_ n8_; clear hb hbox hg; have hnb22 := NB125_113.out; have hnc22 := NB113_125.out; have hcz23_0 : w21.cell? ⟨gb125, 0, none⟩ = some (.int .i64 0) := (blk_cell BK125.out 0).trans rfl; have hcz23_1 : w21.cell? ⟨gb125, 1, none⟩ = some (.int .i64 0) := (blk_cell BK125.out 1).trans rfl; have hcz23_2 : w21.cell? ⟨gb125, 2, none⟩ = some (.int .i64 0) := (blk_cell BK125.out 2).trans rfl; have hcz23_3 : w21.cell? ⟨gb125, 3, none⟩ = some (.int .i64 0) := (blk_cell BK125.out 3).trans rfl; have hcz23_4 : w21.cell? ⟨gb125, 4, none⟩ = some (.string (⟨#[]⟩ : ByteArray)) := (blk_cell BK125.out 4).trans rfl; have hcz23_5 : w21.cell? ⟨gb125, 5, none⟩ = some (.string (⟨#[]⟩ : ByteArray)) := (blk_cell BK125.out 5).trans rfl; have hcz23_6 : w21.cell? ⟨gb125, 6, none⟩ = some (.slice none 0 0) := (blk_cell BK125.out 6).trans rfl; have hfz23_0 := blk_frozen BK125.out 0; have hfz23_1 := blk_frozen BK125.out 1; have hfz23_2 := blk_frozen BK125.out 2; have hfz23_3 := blk_frozen BK125.out 3; have hfz23_4 := blk_frozen BK125.out 4; have hfz23_5 := blk_frozen BK125.out 5; have hfz23_6 := blk_frozen BK125.out 6; obtain ⟨Ao24, co24, eo24⟩ := Kd.R_slice HO122.out; subst eo24))
      have n0_ : Aside0 (Kd.R k49 49 (((((((w21.setCell ⟨gb125, 0, none⟩ (.int .i64 t114)).setCell ⟨gb125, 1, none⟩ (.int .i64 t115)).setCell ⟨gb125, 2, none⟩ (.int .i64 t116)).setCell ⟨gb125, 3, none⟩ (.int .i64 t117)).setCell ⟨gb125, 4, none⟩ (.string t118)).setCell ⟨gb125, 5, none⟩ (.string t119)).setCell ⟨gb125, 6, none⟩ (.slice Ao24 t120.length co24)) w.heap.size (fun _ => True) (.slice Ao19 t108.length co19) t108) := ⟨by (with_reducible repeat first | apply Kd.R_alloc | apply Kd.R_drewN | apply Kd.R_drew); exact Kd.R_mono (Kd.R_far (p := ⟨gb125, 6, none⟩) (Kd.R_far (p := ⟨gb125, 5, none⟩) (Kd.R_far (p := ⟨gb125, 4, none⟩) (Kd.R_far (p := ⟨gb125, 3, none⟩) (Kd.R_far (p := ⟨gb125, 2, none⟩) (Kd.R_far (p := ⟨gb125, 1, none⟩) (Kd.R_far (p := ⟨gb125, 0, none⟩) (Kd.R_types HO110.out BK125.out (by decide)) (fun _ hk => hk.2) (.int .i64 t114)) (fun _ hk => hk.2) (.int .i64 t115)) (fun _ hk => hk.2) (.int .i64 t116)) (fun _ hk => hk.2) (.int .i64 t117)) (fun _ hk => hk.2) (.string t118)) (fun _ hk => hk.2) (.string t119)) (fun _ hk => hk.2) (.slice Ao24 t120.length co24)) (fun _ hk => trivial)⟩
      have n1_ : Aside0 (Kd.R k57 57 (((((((w21.setCell ⟨gb125, 0, none⟩ (.int .i64 t114)).setCell ⟨gb125, 1, none⟩ (.int .i64 t115)).setCell ⟨gb125, 2, none⟩ (.int .i64 t116)).setCell ⟨gb125, 3, none⟩ (.int .i64 t117)).setCell ⟨gb125, 4, none⟩ (.string t118)).setCell ⟨gb125, 5, none⟩ (.string t119)).setCell ⟨gb125, 6, none⟩ (.slice Ao24 t120.length co24)) w.heap.size (fun _ => True) (.slice Ao24 t120.length co24) t120) := ⟨by (with_reducible repeat first | apply Kd.R_alloc | apply Kd.R_drewN | apply Kd.R_drew); exact Kd.R_mono (Kd.R_far (p := ⟨gb125, 6, none⟩) (Kd.R_far (p := ⟨gb125, 5, none⟩) (Kd.R_far (p := ⟨gb125, 4, none⟩) (Kd.R_far (p := ⟨gb125, 3, none⟩) (Kd.R_far (p := ⟨gb125, 2, none⟩) (Kd.R_far (p := ⟨gb125, 1, none⟩) (Kd.R_far (p := ⟨gb125, 0, none⟩) (Kd.R_types HO122.out BK125.out (by decide)) (fun _ hk => hk.2) (.int .i64 t114)) (fun _ hk => hk.2) (.int .i64 t115)) (fun _ hk => hk.2) (.int .i64 t116)) (fun _ hk => hk.2) (.int .i64 t117)) (fun _ hk => hk.2) (.string t118)) (fun _ hk => hk.2) (.string t119)) (fun _ hk => hk.2) (.slice Ao24 t120.length co24)) (fun _ hk => trivial)⟩
      have n2_ : Aside0 ((((((((w21.setCell ⟨gb125, 0, none⟩ (.int .i64 t114)).setCell ⟨gb125, 1, none⟩ (.int .i64 t115)).setCell ⟨gb125, 2, none⟩ (.int .i64 t116)).setCell ⟨gb125, 3, none⟩ (.int .i64 t117)).setCell ⟨gb125, 4, none⟩ (.string t118)).setCell ⟨gb125, 5, none⟩ (.string t119)).setCell ⟨gb125, 6, none⟩ (.slice Ao24 t120.length co24)).heap[gb113]? = some (.cells #[.int .i64 t102, .int .i64 t103, .int .i64 t104, .int .i64 t105, .string t106, .string t107, .slice Ao19 t108.length co19] 25 (0, 0))) := ⟨by (with_reducible repeat first | apply pN_ | apply pD_ | apply pA_); refine blk_far ?_ NB113_125.out _; (with_reducible repeat first | apply pN_ | apply pD_ | apply pA_); refine blk_far ?_ NB113_125.out _; (with_reducible repeat first | apply pN_ | apply pD_ | apply pA_); refine blk_far ?_ NB113_125.out _; (with_reducible repeat first | apply pN_ | apply pD_ | apply pA_); refine blk_far ?_ NB113_125.out _; (with_reducible repeat first | apply pN_ | apply pD_ | apply pA_); refine blk_far ?_ NB113_125.out _; (with_reducible repeat first | apply pN_ | apply pD_ | apply pA_); refine blk_far ?_ NB113_125.out _; (with_reducible repeat first | apply pN_ | apply pD_ | apply pA_); refine blk_far ?_ NB113_125.out _; (with_reducible repeat first | apply pN_ | apply pD_ | apply pA_); exact BK113.out⟩
      have n3_ : Aside0 ((((((((w21.setCell ⟨gb125, 0, none⟩ (.int .i64 t114)).setCell ⟨gb125, 1, none⟩ (.int .i64 t115)).setCell ⟨gb125, 2, none⟩ (.int .i64 t116)).setCell ⟨gb125, 3, none⟩ (.int .i64 t117)).setCell ⟨gb125, 4, none⟩ (.string t118)).setCell ⟨gb125, 5, none⟩ (.string t119)).setCell ⟨gb125, 6, none⟩ (.slice Ao24 t120.length co24)).heap[gb125]? = some (.cells #[.int .i64 t114, .int .i64 t115, .int .i64 t116, .int .i64 t117, .string t118, .string t119, .slice Ao24 t120.length co24] 31 (0, 0))) := ⟨by (with_reducible repeat first | apply pN_ | apply pD_ | apply pA_); refine blk_put (cs := #[.int .i64 t114, .int .i64 t115, .int .i64 t116, .int .i64 t117, .string t118, .string t119, .slice none 0 0]) ?_ 6 _ rfl; (with_reducible repeat first | apply pN_ | apply pD_ | apply pA_); refine blk_put (cs := #[.int .i64 t114, .int .i64 t115, .int .i64 t116, .int .i64 t117, .string t118, .string (⟨#[]⟩ : ByteArray), .slice none 0 0]) ?_ 5 _ rfl; (with_reducible repeat first | apply pN_ | apply pD_ | apply pA_); refine blk_put (cs := #[.int .i64 t114, .int .i64 t115, .int .i64 t116, .int .i64 t117, .string (⟨#[]⟩ : ByteArray), .string (⟨#[]⟩ : ByteArray), .slice none 0 0]) ?_ 4 _ rfl; (with_reducible repeat first | apply pN_ | apply pD_ | apply pA_); refine blk_put (cs := #[.int .i64 t114, .int .i64 t115, .int .i64 t116, .int .i64 0, .string (⟨#[]⟩ : ByteArray), .string (⟨#[]⟩ : ByteArray), .slice none 0 0]) ?_ 3 _ rfl; (with_reducible repeat first | apply pN_ | apply pD_ | apply pA_); refine blk_put (cs := #[.int .i64 t114, .int .i64 t115, .int .i64 0, .int .i64 0, .string (⟨#[]⟩ : ByteArray), .string (⟨#[]⟩ : ByteArray), .slice none 0 0]) ?_ 2 _ rfl; (with_reducible repeat first | apply pN_ | apply pD_ | apply pA_); refine blk_put (cs := #[.int .i64 t114, .int .i64 0, .int .i64 0, .int .i64 0, .string (⟨#[]⟩ : ByteArray), .string (⟨#[]⟩ : ByteArray), .slice none 0 0]) ?_ 1 _ rfl; (with_reducible repeat first | apply pN_ | apply pD_ | apply pA_); refine blk_put (cs := #[.int .i64 0, .int .i64 0, .int .i64 0, .int .i64 0, .string (⟨#[]⟩ : ByteArray), .string (⟨#[]⟩ : ByteArray), .slice none 0 0]) ?_ 0 _ rfl; (with_reducible repeat first | apply pN_ | apply pD_ | apply pA_); exact BK125.out⟩
      have n4_ : Aside0 (Below w.heap.size w (((((((w21.setCell ⟨gb125, 0, none⟩ (.int .i64 t114)).setCell ⟨gb125, 1, none⟩ (.int .i64 t115)).setCell ⟨gb125, 2, none⟩ (.int .i64 t116)).setCell ⟨gb125, 3, none⟩ (.int .i64 t117)).setCell ⟨gb125, 4, none⟩ (.string t118)).setCell ⟨gb125, 5, none⟩ (.string t119)).setCell ⟨gb125, 6, none⟩ (.slice Ao24 t120.length co24))) := ⟨bU_ HB.out⟩
      (try clear HO110)
      (try clear HO122)
      (try clear BK113)
      (try clear BK125)
      (try clear HB)
      generalize (((((((w21.setCell ⟨gb125, 0, none⟩ (.int .i64 t114)).setCell ⟨gb125, 1, none⟩ (.int .i64 t115)).setCell ⟨gb125, 2, none⟩ (.int .i64 t116)).setCell ⟨gb125, 3, none⟩ (.int .i64 t117)).setCell ⟨gb125, 4, none⟩ (.string t118)).setCell ⟨gb125, 5, none⟩ (.string t119)).setCell ⟨gb125, 6, none⟩ (.slice Ao24 t120.length co24)) = w25 at n0_ n1_ n2_ n3_ n4_ ⊢
      have HO110 := n0_
      have HO122 := n1_
      have BK113 := n2_
      have BK125 := n3_
      have HB := n4_
      clear n0_ n1_ n2_ n3_ n4_
      have n0_ := Aside0.mk (Kd.R_drew HO110.out)
      have n1_ := Aside0.mk (Kd.R_drew HO122.out)
      have n2_ := Aside0.mk (blk_drew BK113.out)
      have n3_ := Aside0.mk (blk_drew BK125.out)
      have n4_ := Aside0.mk (below_drew1 HB.out)
      clear HO110
      clear HO122
      clear BK113
      clear BK125
      clear HB
      have HO110 := n0_
      have HO122 := n1_
      have BK113 := n2_
      have BK125 := n3_
      have HB := n4_
      clear n0_ n1_ n2_ n3_ n4_
      refine start_ (n := 25) (S := fun w' => w'.cell? ⟨gb113, 0, none⟩ = some (.int .i64 t102) ∧ w'.cell? ⟨gb113, 1, none⟩ = some (.int .i64 t103) ∧ w'.cell? ⟨gb113, 2, none⟩ = some (.int .i64 t104) ∧ w'.cell? ⟨gb113, 3, none⟩ = some (.int .i64 t105) ∧ w'.cell? ⟨gb113, 4, none⟩ = some (.string t106) ∧ w'.cell? ⟨gb113, 5, none⟩ = some (.string t107) ∧ w'.cell? ⟨gb113, 6, none⟩ = some (.slice Ao19 t108.length co19) ∧ w'.cell? ⟨gb125, 0, none⟩ = some (.int .i64 t114) ∧ w'.cell? ⟨gb125, 1, none⟩ = some (.int .i64 t115) ∧ w'.cell? ⟨gb125, 2, none⟩ = some (.int .i64 t116) ∧ w'.cell? ⟨gb125, 3, none⟩ = some (.int .i64 t117) ∧ w'.cell? ⟨gb125, 4, none⟩ = some (.string t118) ∧ w'.cell? ⟨gb125, 5, none⟩ = some (.string t119) ∧ w'.cell? ⟨gb125, 6, none⟩ = some (.slice Ao24 t120.length co24)) (ds := []) #[false, false, false, false, false, false, false, false, false, false, false, false, false, false, false, false, false, false, false, false, false, false, false, false, false] (by kernel_rfl) rfl rfl ⟨(blk_cell BK113.out 0).trans rfl, (blk_cell BK113.out 1).trans rfl, (blk_cell BK113.out 2).trans rfl, (blk_cell BK113.out 3).trans rfl, (blk_cell BK113.out 4).trans rfl, (blk_cell BK113.out 5).trans rfl, (blk_cell BK113.out 6).trans rfl, (blk_cell BK125.out 0).trans rfl, (blk_cell BK125.out 1).trans rfl, (blk_cell BK125.out 2).trans rfl, (blk_cell BK125.out 3).trans rfl, (blk_cell BK125.out 4).trans rfl, (blk_cell BK125.out 5).trans rfl, (blk_cell BK125.out 6).trans rfl⟩ (fun hHeld => ?_); refine with_tabW rillmeterlaw07_IpsixTakes.tab5 rillmeterlaw07_IpsixTakes.bits5 (fun HT_ HW_ => ?_)
      generalize w25.drew = w26 at HO110 HO122 BK113 BK125 HB hHeld ⊢
      refine take_ (i := 0) (N := some 25) (v := ?_) (a' := ?_) #[true, false, false, false, false, false, false, false, false, false, false, false, false, false, false, false, false, false, false, false, false, false, false, false, false] rfl rfl (take_ofW HT_.out HW_.out (by kernel_rfl)) (fun _ _ _ h => h) (Or.inl ⟨by rfl, ?_⟩) hHeld ?_ ?_
      rotate_left
      ·rintro w' ⟨s0, s1, s2, s3, s4, s5, s6, s7, s8, s9, s10, s11, s12, s13⟩
       go_simp
       with_reducible rfl
      rotate_left
      ·simp only [Act.put, List.setIfInBounds_toArray, List.set_cons_zero, List.set_cons_succ, i64_w, i32_w]
       rfl
      refine take_ (i := 2) (N := some 27) (v := ?_) (a' := ?_) #[true, false, true, false, false, false, false, false, false, false, false, false, false, false, false, false, false, false, false, false, false, false, false, false, false] rfl rfl (take_ofW HT_.out HW_.out (by kernel_rfl)) (fun _ _ _ h => h) (Or.inl ⟨by rfl, ?_⟩) hHeld ?_ ?_
      rotate_left
      ·rintro w' ⟨s0, s1, s2, s3, s4, s5, s6, s7, s8, s9, s10, s11, s12, s13⟩
       go_simp
       with_reducible rfl
      rotate_left
      ·simp only [Act.put, List.setIfInBounds_toArray, List.set_cons_zero, List.set_cons_succ, i64_w, i32_w]
       rfl
      refine one_ (i := 1) (N := some 26) #[true, true, true, false, false, false, false, false, false, false, false, false, false, false, false, false, false, false, false, false, false, false, false, false, false] rfl rfl (one_of HT_.out (by kernel_rfl)) (by decide) (fun K hK => ?_)
      refine goes_ Try.func12 (by kernel_rfl) rfl #[.agg #[.int .i64 t102, .int .i64 t103, .int .i64 t104, .int .i64 t105, .string t106, .string t107, .slice Ao19 t108.length co19]] (by rfl) rfl rfl (by (try simp only [List.map_toArray, List.map_cons, List.map_nil]); first | done | rfl | (simp only [List.length_drop, List.length_take]; rfl) | (simp only [ByteArray.size_append, ByteArray.size_extract, Nat.sub_zero, Int.natCast_add]; rfl) | (simp [ByteArray.size_append]; done)) ?_
      with_reducible refine (rillmeterlaw07_ref.calls k t102 t103 t104 t105 t106 t107 _ _ t108 t126 t127 t128 t129 t130 t131 t132 _ ?side1 ?side2 A7.out).mono ?_
      (case side1 => repeat (first | exact (Kd.R_reads' HO110.out).2.2 | (with_reducible refine Kd.C_alloc ?_ _) | (with_reducible refine Kd.C_drewN ?_ _) | (with_reducible refine Kd.C_drew ?_)))
      (case side2 => exact (Kd.R_reads' HO110.out).2.1)
      rintro e w27 ⟨v133, rfl, ho0, hb⟩
      refine ⟨_, rfl, ?_⟩
      have n0_ := Aside0.mk (Kd.R_below (by (with_reducible repeat first | apply Kd.R_alloc | apply Kd.R_drewN | apply Kd.R_drew); exact HO110.out) hb)
      have n1_ := Aside0.mk (Kd.R_elder' (by (with_reducible repeat first | apply Kd.R_alloc | apply Kd.R_drewN | apply Kd.R_drew); exact HO122.out) (Kd.R_base ho0) hb)
      have n2_ := Aside0.mk (Kd.R_lower (Kd.R_new' ho0 (Kd.R_lt (by (with_reducible repeat first | apply Kd.R_alloc | apply Kd.R_drewN | apply Kd.R_drew); exact HO122.out))) (below_size (bU_ HB.out)))
      have n3_ := Aside0.mk (blk_below (g := gb113) (o := .cells #[.int .i64 t102, .int .i64 t103, .int .i64 t104, .int .i64 t105, .string t106, .string t107, .slice Ao19 t108.length co19] 25 (0, 0)) (by (with_reducible repeat first | apply pN_ | apply pD_ | apply pA_); exact BK113.out) hb)
      have n4_ := Aside0.mk (blk_below (g := gb125) (o := .cells #[.int .i64 t114, .int .i64 t115, .int .i64 t116, .int .i64 t117, .string t118, .string t119, .slice Ao24 t120.length co24] 31 (0, 0)) (by (with_reducible repeat first | apply pN_ | apply pD_ | apply pA_); exact BK125.out) hb)
      have n5_ := Aside0.mk (below_step (bU_ HB.out) hb)
      clear HO110
      clear HO122
      clear BK113
      clear BK125
      clear HB
      have HO110 := n0_
      have HO122 := n1_
      have HO134 := n2_
      have BK113 := n3_
      have BK125 := n4_
      have HB := n5_
      clear n0_ n1_ n2_ n3_ n4_ n5_
      (try clear hb)
      (try clear hb2)
      (try clear hk)
      (try clear hi)
      (try clear ho0)
      obtain ⟨Ao28, co28, eo28⟩ := Kd.R_slice HO134.out
      (first | subst eo28 | (injection eo28 with f1_ f2_ f3_; have f4_ := f1_.symm; have f5_ := f3_.symm; clear f1_ f2_ f3_; subst f4_; subst f5_))
      refine hK.out _ _ ⟨(blk_cell BK113.out 0).trans rfl, (blk_cell BK113.out 1).trans rfl, (blk_cell BK113.out 2).trans rfl, (blk_cell BK113.out 3).trans rfl, (blk_cell BK113.out 4).trans rfl, (blk_cell BK113.out 5).trans rfl, (blk_cell BK113.out 6).trans rfl, (blk_cell BK125.out 0).trans rfl, (blk_cell BK125.out 1).trans rfl, (blk_cell BK125.out 2).trans rfl, (blk_cell BK125.out 3).trans rfl, (blk_cell BK125.out 4).trans rfl, (blk_cell BK125.out 5).trans rfl, (blk_cell BK125.out 6).trans rfl⟩ (fun hHeld => ?_)
      clear hK K
      refine norm_ (a' := ?_) ?_ ?_
      rotate_left
      ·show Act.put _ (some 26) _ = _
       simp only [Act.put, List.setIfInBounds_toArray, List.set_cons_zero, List.set_cons_succ, i64_w, i32_w]
       rfl
      refine one_ (i := 3) (N := some 28) #[true, true, true, true, false, false, false, false, false, false, false, false, false, false, false, false, false, false, false, false, false, false, false, false, false] rfl rfl (one_of HT_.out (by kernel_rfl)) (by decide) (fun K hK => ?_)
      refine goes_ Try.func11 (by kernel_rfl) rfl #[.agg #[.int .i64 t126, .int .i64 t127, .int .i64 t128, .int .i64 t129, .string t130, .string t131, .slice Ao28 t132.length co28], .agg #[.int .i64 t114, .int .i64 t115, .int .i64 t116, .int .i64 t117, .string t118, .string t119, .slice Ao24 t120.length co24]] (by rfl) rfl rfl (by (try simp only [List.map_toArray, List.map_cons, List.map_nil]); first | done | rfl | (simp only [List.length_drop, List.length_take]; rfl) | (simp only [ByteArray.size_append, ByteArray.size_extract, Nat.sub_zero, Int.natCast_add]; rfl) | (simp [ByteArray.size_append]; done)) ?_
      with_reducible refine (rillmeterref07_Equal.calls k t126 t127 t128 t129 t130 t131 _ _ t132 t114 t115 t116 t117 t118 t119 _ _ t120 true _ ?side1 ?side2 ?side3 ?side4 A8.out).mono ?_
      (case side1 => repeat (first | exact (Kd.R_reads' HO134.out).2.2 | (with_reducible refine Kd.C_alloc ?_ _) | (with_reducible refine Kd.C_drewN ?_ _) | (with_reducible refine Kd.C_drew ?_)))
      (case side2 => exact (Kd.R_reads' HO134.out).2.1)
      (case side3 => repeat (first | exact (Kd.R_reads' HO122.out).2.2 | (with_reducible refine Kd.C_alloc ?_ _) | (with_reducible refine Kd.C_drewN ?_ _) | (with_reducible refine Kd.C_drew ?_)))
      (case side4 => exact (Kd.R_reads' HO122.out).2.1)
      rintro e w29 ⟨rfl, hb⟩
      refine ⟨_, rfl, ?_⟩
      have n0_ := Aside0.mk (Kd.R_below (by (with_reducible repeat first | apply Kd.R_alloc | apply Kd.R_drewN | apply Kd.R_drew); exact HO110.out) hb)
      have n1_ := Aside0.mk (Kd.R_below (by (with_reducible repeat first | apply Kd.R_alloc | apply Kd.R_drewN | apply Kd.R_drew); exact HO122.out) hb)
      have n2_ := Aside0.mk (Kd.R_below (by (with_reducible repeat first | apply Kd.R_alloc | apply Kd.R_drewN | apply Kd.R_drew); exact HO134.out) hb)
      have n3_ := Aside0.mk (blk_below (g := gb113) (o := .cells #[.int .i64 t102, .int .i64 t103, .int .i64 t104, .int .i64 t105, .string t106, .string t107, .slice Ao19 t108.length co19] 25 (0, 0)) (by (with_reducible repeat first | apply pN_ | apply pD_ | apply pA_); exact BK113.out) hb)
      have n4_ := Aside0.mk (blk_below (g := gb125) (o := .cells #[.int .i64 t114, .int .i64 t115, .int .i64 t116, .int .i64 t117, .string t118, .string t119, .slice Ao24 t120.length co24] 31 (0, 0)) (by (with_reducible repeat first | apply pN_ | apply pD_ | apply pA_); exact BK125.out) hb)
      have n5_ := Aside0.mk (below_step (bU_ HB.out) hb)
      clear HO110
      clear HO122
      clear HO134
      clear BK113
      clear BK125
      clear HB
      have HO110 := n0_
      have HO122 := n1_
      have HO134 := n2_
      have BK113 := n3_
      have BK125 := n4_
      have HB := n5_
      clear n0_ n1_ n2_ n3_ n4_ n5_
      (try clear hb)
      (try clear hb2)
      (try clear hk)
      (try clear hi)
      refine hK.out _ _ ⟨(blk_cell BK113.out 0).trans rfl, (blk_cell BK113.out 1).trans rfl, (blk_cell BK113.out 2).trans rfl, (blk_cell BK113.out 3).trans rfl, (blk_cell BK113.out 4).trans rfl, (blk_cell BK113.out 5).trans rfl, (blk_cell BK113.out 6).trans rfl, (blk_cell BK125.out 0).trans rfl, (blk_cell BK125.out 1).trans rfl, (blk_cell BK125.out 2).trans rfl, (blk_cell BK125.out 3).trans rfl, (blk_cell BK125.out 4).trans rfl, (blk_cell BK125.out 5).trans rfl, (blk_cell BK125.out 6).trans rfl⟩ (fun hHeld => ?_)
      clear hK K
      refine norm_ (a' := ?_) ?_ ?_
      rotate_left
      ·show Act.put _ (some 28) _ = _
       simp only [Act.put, List.setIfInBounds_toArray, List.set_cons_zero, List.set_cons_succ, i64_w, i32_w]
       rfl
      refine pure_ (i := 4) (N := some 29) (v := ?_) (a' := ?_) #[true, true, true, true, true, false, false, false, false, false, false, false, false, false, false, false, false, false, false, false, false, false, false, false, false] rfl rfl (any_of HT_.out (by kernel_rfl)) (fun _ _ _ h => h) (Or.inl ⟨by rfl, ?_⟩) ?_ ?_
      rotate_left
      ·intro w'
       go_simp
       with_reducible rfl
      rotate_left
      ·simp only [Act.put, List.setIfInBounds_toArray, List.set_cons_zero, List.set_cons_succ, i64_w, i32_w]
       rfl
      refine pure_ (i := 5) (N := some 30) (v := ?_) (a' := ?_) #[true, true, true, true, true, true, false, false, false, false, false, false, false, false, false, false, false, false, false, false, false, false, false, false, false] rfl rfl (any_of HT_.out (by kernel_rfl)) (fun _ _ _ h => h) (Or.inl ⟨by rfl, ?_⟩) ?_ ?_
      rotate_left
      ·intro w'
       go_simp
       with_reducible rfl
      rotate_left
      ·simp only [Act.put, List.setIfInBounds_toArray, List.set_cons_zero, List.set_cons_succ, i64_w, i32_w]
       rfl
      refine pure_ (i := 6) (N := some 31) (v := ?_) (a' := ?_) #[true, true, true, true, true, true, true, false, false, false, false, false, false, false, false, false, false, false, false, false, false, false, false, false, false] rfl rfl (any_of HT_.out (by kernel_rfl)) (fun _ _ _ h => h) (Or.inl ⟨by rfl, ?_⟩) ?_ ?_
      rotate_left
      ·intro w'
       go_simp
       with_reducible rfl
      rotate_left
      ·simp only [Act.put, List.setIfInBounds_toArray, List.set_cons_zero, List.set_cons_succ, i64_w, i32_w]
       rfl
      refine pure_ (i := 7) (N := some 32) (v := ?_) (a' := ?_) #[true, true, true, true, true, true, true, true, false, false, false, false, false, false, false, false, false, false, false, false, false, false, false, false, false] rfl rfl (any_of HT_.out (by kernel_rfl)) (fun _ _ _ h => h) (Or.inl ⟨by rfl, ?_⟩) ?_ ?_
      rotate_left
      ·intro w'
       go_simp
       with_reducible rfl
      rotate_left
      ·simp only [Act.put, List.setIfInBounds_toArray, List.set_cons_zero, List.set_cons_succ, i64_w, i32_w]
       rfl
      refine pure_ (i := 8) (N := some 33) (v := ?_) (a' := ?_) #[true, true, true, true, true, true, true, true, true, false, false, false, false, false, false, false, false, false, false, false, false, false, false, false, false] rfl rfl (any_of HT_.out (by kernel_rfl)) (fun _ _ _ h => h) (Or.inl ⟨by rfl, ?_⟩) ?_ ?_
      rotate_left
      ·intro w'
       go_simp
       with_reducible rfl
      rotate_left
      ·simp only [Act.put, List.setIfInBounds_toArray, List.set_cons_zero, List.set_cons_succ, i64_w, i32_w]
       rfl
      refine pure_ (i := 9) (N := some 34) (v := ?_) (a' := ?_) #[true, true, true, true, true, true, true, true, true, true, false, false, false, false, false, false, false, false, false, false, false, false, false, false, false] rfl rfl (any_of HT_.out (by kernel_rfl)) (fun _ _ _ h => h) (Or.inl ⟨by rfl, ?_⟩) ?_ ?_
      rotate_left
      ·intro w'
       go_simp
       with_reducible rfl
      rotate_left
      ·simp only [Act.put, List.setIfInBounds_toArray, List.set_cons_zero, List.set_cons_succ, i64_w, i32_w]
       rfl
      refine pure_ (i := 10) (N := some 35) (v := ?_) (a' := ?_) #[true, true, true, true, true, true, true, true, true, true, true, false, false, false, false, false, false, false, false, false, false, false, false, false, false] rfl rfl (any_of HT_.out (by kernel_rfl)) (fun _ _ _ h => h) (Or.inl ⟨by rfl, ?_⟩) ?_ ?_
      rotate_left
      ·intro w'
       go_simp
       with_reducible rfl
      rotate_left
      ·simp only [Act.put, List.setIfInBounds_toArray, List.set_cons_zero, List.set_cons_succ, i64_w, i32_w]
       rfl
      refine pure_ (i := 11) (N := some 36) (v := ?_) (a' := ?_) #[true, true, true, true, true, true, true, true, true, true, true, true, false, false, false, false, false, false, false, false, false, false, false, false, false] rfl rfl (any_of HT_.out (by kernel_rfl)) (fun _ _ _ h => h) (Or.inl ⟨by rfl, ?_⟩) ?_ ?_
      rotate_left
      ·intro w'
       go_simp
       with_reducible rfl
      rotate_left
      ·simp only [Act.put, List.setIfInBounds_toArray, List.set_cons_zero, List.set_cons_succ, i64_w, i32_w]
       rfl
      refine pure_ (i := 12) (N := some 37) (v := ?_) (a' := ?_) #[true, true, true, true, true, true, true, true, true, true, true, true, true, false, false, false, false, false, false, false, false, false, false, false, false] rfl rfl (any_of HT_.out (by kernel_rfl)) (fun _ _ _ h => h) (Or.inl ⟨by rfl, ?_⟩) ?_ ?_
      rotate_left
      ·intro w'
       go_simp
       with_reducible rfl
      rotate_left
      ·simp only [Act.put, List.setIfInBounds_toArray, List.set_cons_zero, List.set_cons_succ, i64_w, i32_w]
       rfl
      refine pure_ (i := 13) (N := some 38) (v := ?_) (a' := ?_) #[true, true, true, true, true, true, true, true, true, true, true, true, true, true, false, false, false, false, false, false, false, false, false, false, false] rfl rfl (any_of HT_.out (by kernel_rfl)) (fun _ _ _ h => h) (Or.inl ⟨by rfl, ?_⟩) ?_ ?_
      rotate_left
      ·intro w'
       go_simp
       with_reducible rfl
      rotate_left
      ·simp only [Act.put, List.setIfInBounds_toArray, List.set_cons_zero, List.set_cons_succ, i64_w, i32_w]
       rfl
      refine pure_ (i := 14) (N := some 39) (v := ?_) (a' := ?_) #[true, true, true, true, true, true, true, true, true, true, true, true, true, true, true, false, false, false, false, false, false, false, false, false, false] rfl rfl (any_of HT_.out (by kernel_rfl)) (fun _ _ _ h => h) (Or.inl ⟨by rfl, ?_⟩) ?_ ?_
      rotate_left
      ·intro w'
       go_simp
       with_reducible rfl
      rotate_left
      ·simp only [Act.put, List.setIfInBounds_toArray, List.set_cons_zero, List.set_cons_succ, i64_w, i32_w]
       rfl
      refine take_ (i := 15) (N := some 40) (v := ?_) (a' := ?_) #[true, true, true, true, true, true, true, true, true, true, true, true, true, true, true, true, false, false, false, false, false, false, false, false, false] rfl rfl (take_ofW HT_.out HW_.out (by kernel_rfl)) (fun _ _ _ h => h) (Or.inl ⟨by rfl, ?_⟩) hHeld ?_ ?_
      rotate_left
      ·rintro w' ⟨s0, s1, s2, s3, s4, s5, s6, s7, s8, s9, s10, s11, s12, s13⟩
       go_simp
       with_reducible rfl
      rotate_left
      ·simp only [Act.put, List.setIfInBounds_toArray, List.set_cons_zero, List.set_cons_succ, i64_w, i32_w]
       rfl
      refine take_ (i := 17) (N := some 42) (v := ?_) (a' := ?_) #[true, true, true, true, true, true, true, true, true, true, true, true, true, true, true, true, false, true, false, false, false, false, false, false, false] rfl rfl (take_ofW HT_.out HW_.out (by kernel_rfl)) (fun _ _ _ h => h) (Or.inl ⟨by rfl, ?_⟩) hHeld ?_ ?_
      rotate_left
      ·rintro w' ⟨s0, s1, s2, s3, s4, s5, s6, s7, s8, s9, s10, s11, s12, s13⟩
       go_simp
       with_reducible rfl
      rotate_left
      ·simp only [Act.put, List.setIfInBounds_toArray, List.set_cons_zero, List.set_cons_succ, i64_w, i32_w]
       rfl
      refine one_ (i := 16) (N := some 41) #[true, true, true, true, true, true, true, true, true, true, true, true, true, true, true, true, true, true, false, false, false, false, false, false, false] rfl rfl (one_of HT_.out (by kernel_rfl)) (by decide) (fun K hK => ?_)
      refine goes_ Try.func13 (by kernel_rfl) rfl #[.agg #[.int .i64 t102, .int .i64 t103, .int .i64 t104, .int .i64 t105, .string t106, .string t107, .slice Ao19 t108.length co19]] (by rfl) rfl rfl (by (try simp only [List.map_toArray, List.map_cons, List.map_nil]); first | done | rfl | (simp only [List.length_drop, List.length_take]; rfl) | (simp only [ByteArray.size_append, ByteArray.size_extract, Nat.sub_zero, Int.natCast_add]; rfl) | (simp [ByteArray.size_append]; done)) ?_
      with_reducible refine (ipsix_Piece.calls k t102 t103 t104 t105 t106 t107 _ _ t108 t136 _ ?side1 ?side2 A12.out).mono ?_
      (case side1 => repeat (first | exact (Kd.R_reads' HO110.out).2.2 | (with_reducible refine Kd.C_alloc ?_ _) | (with_reducible refine Kd.C_drewN ?_ _) | (with_reducible refine Kd.C_drew ?_)))
      (case side2 => exact (Kd.R_reads' HO110.out).2.1)
      rintro e w30 ⟨rfl, hb⟩
      refine ⟨_, rfl, ?_⟩
      have n0_ := Aside0.mk (Kd.R_below (by (with_reducible repeat first | apply Kd.R_alloc | apply Kd.R_drewN | apply Kd.R_drew); exact HO110.out) hb)
      have n1_ := Aside0.mk (Kd.R_below (by (with_reducible repeat first | apply Kd.R_alloc | apply Kd.R_drewN | apply Kd.R_drew); exact HO122.out) hb)
      have n2_ := Aside0.mk (Kd.R_below (by (with_reducible repeat first | apply Kd.R_alloc | apply Kd.R_drewN | apply Kd.R_drew); exact HO134.out) hb)
      have n3_ := Aside0.mk (blk_below (g := gb113) (o := .cells #[.int .i64 t102, .int .i64 t103, .int .i64 t104, .int .i64 t105, .string t106, .string t107, .slice Ao19 t108.length co19] 25 (0, 0)) (by (with_reducible repeat first | apply pN_ | apply pD_ | apply pA_); exact BK113.out) hb)
      have n4_ := Aside0.mk (blk_below (g := gb125) (o := .cells #[.int .i64 t114, .int .i64 t115, .int .i64 t116, .int .i64 t117, .string t118, .string t119, .slice Ao24 t120.length co24] 31 (0, 0)) (by (with_reducible repeat first | apply pN_ | apply pD_ | apply pA_); exact BK125.out) hb)
      have n5_ := Aside0.mk (below_step (bU_ HB.out) hb)
      clear HO110
      clear HO122
      clear HO134
      clear BK113
      clear BK125
      clear HB
      have HO110 := n0_
      have HO122 := n1_
      have HO134 := n2_
      have BK113 := n3_
      have BK125 := n4_
      have HB := n5_
      clear n0_ n1_ n2_ n3_ n4_ n5_
      (try clear hb)
      (try clear hb2)
      (try clear hk)
      (try clear hi)
      refine hK.out _ _ ⟨(blk_cell BK113.out 0).trans rfl, (blk_cell BK113.out 1).trans rfl, (blk_cell BK113.out 2).trans rfl, (blk_cell BK113.out 3).trans rfl, (blk_cell BK113.out 4).trans rfl, (blk_cell BK113.out 5).trans rfl, (blk_cell BK113.out 6).trans rfl, (blk_cell BK125.out 0).trans rfl, (blk_cell BK125.out 1).trans rfl, (blk_cell BK125.out 2).trans rfl, (blk_cell BK125.out 3).trans rfl, (blk_cell BK125.out 4).trans rfl, (blk_cell BK125.out 5).trans rfl, (blk_cell BK125.out 6).trans rfl⟩ (fun hHeld => ?_)
      clear hK K
      refine norm_ (a' := ?_) ?_ ?_
      rotate_left
      ·show Act.put _ (some 41) _ = _
       simp only [Act.put, List.setIfInBounds_toArray, List.set_cons_zero, List.set_cons_succ, i64_w, i32_w]
       rfl
      refine one_ (i := 18) (N := some 43) #[true, true, true, true, true, true, true, true, true, true, true, true, true, true, true, true, true, true, true, false, false, false, false, false, false] rfl rfl (one_of HT_.out (by kernel_rfl)) (by decide) (fun K hK => ?_)
      refine goes_ Try.func14 (by kernel_rfl) rfl #[.agg #[.int .i64 t114, .int .i64 t115, .int .i64 t116, .int .i64 t117, .string t118, .string t119, .slice Ao24 t120.length co24]] (by rfl) rfl rfl (by (try simp only [List.map_toArray, List.map_cons, List.map_nil]); first | done | rfl | (simp only [List.length_drop, List.length_take]; rfl) | (simp only [ByteArray.size_append, ByteArray.size_extract, Nat.sub_zero, Int.natCast_add]; rfl) | (simp [ByteArray.size_append]; done)) ?_
      with_reducible refine (rillmeterref07_Piece.calls k t114 t115 t116 t117 t118 t119 _ _ t120 t137 _ ?side1 ?side2 A13.out).mono ?_
      (case side1 => repeat (first | exact (Kd.R_reads' HO122.out).2.2 | (with_reducible refine Kd.C_alloc ?_ _) | (with_reducible refine Kd.C_drewN ?_ _) | (with_reducible refine Kd.C_drew ?_)))
      (case side2 => exact (Kd.R_reads' HO122.out).2.1)
      rintro e w31 ⟨rfl, hb⟩
      refine ⟨_, rfl, ?_⟩
      have n0_ := Aside0.mk (Kd.R_below (by (with_reducible repeat first | apply Kd.R_alloc | apply Kd.R_drewN | apply Kd.R_drew); exact HO110.out) hb)
      have n1_ := Aside0.mk (Kd.R_below (by (with_reducible repeat first | apply Kd.R_alloc | apply Kd.R_drewN | apply Kd.R_drew); exact HO122.out) hb)
      have n2_ := Aside0.mk (Kd.R_below (by (with_reducible repeat first | apply Kd.R_alloc | apply Kd.R_drewN | apply Kd.R_drew); exact HO134.out) hb)
      have n3_ := Aside0.mk (blk_below (g := gb113) (o := .cells #[.int .i64 t102, .int .i64 t103, .int .i64 t104, .int .i64 t105, .string t106, .string t107, .slice Ao19 t108.length co19] 25 (0, 0)) (by (with_reducible repeat first | apply pN_ | apply pD_ | apply pA_); exact BK113.out) hb)
      have n4_ := Aside0.mk (blk_below (g := gb125) (o := .cells #[.int .i64 t114, .int .i64 t115, .int .i64 t116, .int .i64 t117, .string t118, .string t119, .slice Ao24 t120.length co24] 31 (0, 0)) (by (with_reducible repeat first | apply pN_ | apply pD_ | apply pA_); exact BK125.out) hb)
      have n5_ := Aside0.mk (below_step (bU_ HB.out) hb)
      clear HO110
      clear HO122
      clear HO134
      clear BK113
      clear BK125
      clear HB
      have HO110 := n0_
      have HO122 := n1_
      have HO134 := n2_
      have BK113 := n3_
      have BK125 := n4_
      have HB := n5_
      clear n0_ n1_ n2_ n3_ n4_ n5_
      (try clear hb)
      (try clear hb2)
      (try clear hk)
      (try clear hi)
      refine hK.out _ _ ⟨(blk_cell BK113.out 0).trans rfl, (blk_cell BK113.out 1).trans rfl, (blk_cell BK113.out 2).trans rfl, (blk_cell BK113.out 3).trans rfl, (blk_cell BK113.out 4).trans rfl, (blk_cell BK113.out 5).trans rfl, (blk_cell BK113.out 6).trans rfl, (blk_cell BK125.out 0).trans rfl, (blk_cell BK125.out 1).trans rfl, (blk_cell BK125.out 2).trans rfl, (blk_cell BK125.out 3).trans rfl, (blk_cell BK125.out 4).trans rfl, (blk_cell BK125.out 5).trans rfl, (blk_cell BK125.out 6).trans rfl⟩ (fun hHeld => ?_)
      clear hK K
      refine norm_ (a' := ?_) ?_ ?_
      rotate_left
      ·show Act.put _ (some 43) _ = _
       simp only [Act.put, List.setIfInBounds_toArray, List.set_cons_zero, List.set_cons_succ, i64_w, i32_w]
       rfl
      refine pure_ (i := 19) (N := some 44) (v := ?_) (a' := ?_) #[true, true, true, true, true, true, true, true, true, true, true, true, true, true, true, true, true, true, true, true, false, false, false, false, false] rfl rfl (any_of HT_.out (by kernel_rfl)) (fun _ _ _ h => h) (Or.inl ⟨by rfl, ?_⟩) ?_ ?_
      rotate_left
      ·intro w'
       go_simp
       with_reducible rfl
      rotate_left
      ·simp only [Act.put, List.setIfInBounds_toArray, List.set_cons_zero, List.set_cons_succ, i64_w, i32_w]
       rfl
      refine pure_ (i := 20) (N := some 45) (v := ?_) (a' := ?_) #[true, true, true, true, true, true, true, true, true, true, true, true, true, true, true, true, true, true, true, true, true, false, false, false, false] rfl rfl (any_of HT_.out (by kernel_rfl)) (fun _ _ _ h => h) (Or.inl ⟨by rfl, ?_⟩) ?_ ?_
      rotate_left
      ·intro w'
       go_simp
       with_reducible rfl
      rotate_left
      ·simp only [Act.put, List.setIfInBounds_toArray, List.set_cons_zero, List.set_cons_succ, i64_w, i32_w]
       rfl
      refine pure_ (i := 21) (N := some 46) (v := ?_) (a' := ?_) #[true, true, true, true, true, true, true, true, true, true, true, true, true, true, true, true, true, true, true, true, true, true, false, false, false] rfl rfl (any_of HT_.out (by kernel_rfl)) (fun _ _ _ h => h) (Or.inl ⟨by rfl, ?_⟩) ?_ ?_
      rotate_left
      ·intro w'
       go_simp
       with_reducible rfl
      rotate_left
      ·simp only [Act.put, List.setIfInBounds_toArray, List.set_cons_zero, List.set_cons_succ, i64_w, i32_w]
       rfl
      refine one_ (i := 22) (N := some 47) #[true, true, true, true, true, true, true, true, true, true, true, true, true, true, true, true, true, true, true, true, true, true, true, false, false] rfl rfl (one_of HT_.out (by kernel_rfl)) (by decide) (fun K hK => ?_)
      refine goes_ Try.func8 (by kernel_rfl) rfl #[] (by rfl) rfl rfl (by (try simp only [List.map_toArray, List.map_cons, List.map_nil]); first | done | rfl | (simp only [List.length_drop, List.length_take]; rfl) | (simp only [ByteArray.size_append, ByteArray.size_extract, Nat.sub_zero, Int.natCast_add]; rfl) | (simp [ByteArray.size_append]; done)) ?_
      with_reducible refine (rillmeterlaw07_awake.calls k  t138 _ hrt A15.out).mono ?_
      rintro e w32 ⟨rfl, hb⟩
      refine ⟨_, rfl, ?_⟩
      have n0_ := Aside0.mk (Kd.R_below (by (with_reducible repeat first | apply Kd.R_alloc | apply Kd.R_drewN | apply Kd.R_drew); exact HO110.out) hb)
      have n1_ := Aside0.mk (Kd.R_below (by (with_reducible repeat first | apply Kd.R_alloc | apply Kd.R_drewN | apply Kd.R_drew); exact HO122.out) hb)
      have n2_ := Aside0.mk (Kd.R_below (by (with_reducible repeat first | apply Kd.R_alloc | apply Kd.R_drewN | apply Kd.R_drew); exact HO134.out) hb)
      have n3_ := Aside0.mk (blk_below (g := gb113) (o := .cells #[.int .i64 t102, .int .i64 t103, .int .i64 t104, .int .i64 t105, .string t106, .string t107, .slice Ao19 t108.length co19] 25 (0, 0)) (by (with_reducible repeat first | apply pN_ | apply pD_ | apply pA_); exact BK113.out) hb)
      have n4_ := Aside0.mk (blk_below (g := gb125) (o := .cells #[.int .i64 t114, .int .i64 t115, .int .i64 t116, .int .i64 t117, .string t118, .string t119, .slice Ao24 t120.length co24] 31 (0, 0)) (by (with_reducible repeat first | apply pN_ | apply pD_ | apply pA_); exact BK125.out) hb)
      have n5_ := Aside0.mk (below_step (bU_ HB.out) hb)
      clear HO110
      clear HO122
      clear HO134
      clear BK113
      clear BK125
      clear HB
      have HO110 := n0_
      have HO122 := n1_
      have HO134 := n2_
      have BK113 := n3_
      have BK125 := n4_
      have HB := n5_
      clear n0_ n1_ n2_ n3_ n4_ n5_
      (try clear hb)
      (try clear hb2)
      (try clear hk)
      (try clear hi)
      refine hK.out _ _ ⟨(blk_cell BK113.out 0).trans rfl, (blk_cell BK113.out 1).trans rfl, (blk_cell BK113.out 2).trans rfl, (blk_cell BK113.out 3).trans rfl, (blk_cell BK113.out 4).trans rfl, (blk_cell BK113.out 5).trans rfl, (blk_cell BK113.out 6).trans rfl, (blk_cell BK125.out 0).trans rfl, (blk_cell BK125.out 1).trans rfl, (blk_cell BK125.out 2).trans rfl, (blk_cell BK125.out 3).trans rfl, (blk_cell BK125.out 4).trans rfl, (blk_cell BK125.out 5).trans rfl, (blk_cell BK125.out 6).trans rfl⟩ (fun hHeld => ?_)
      clear hK K
      refine norm_ (a' := ?_) ?_ ?_
      rotate_left
      ·show Act.put _ (some 47) _ = _
       simp only [Act.put, List.setIfInBounds_toArray, List.set_cons_zero, List.set_cons_succ, i64_w, i32_w]
       rfl
      refine pure_ (i := 23) (N := some 48) (v := ?_) (a' := ?_) #[true, true, true, true, true, true, true, true, true, true, true, true, true, true, true, true, true, true, true, true, true, true, true, true, false] rfl rfl (any_of HT_.out (by kernel_rfl)) (fun _ _ _ h => h) (Or.inl ⟨by rfl, ?_⟩) ?_ ?_
      rotate_left
      ·intro w'
       go_simp
       with_reducible rfl
      rotate_left
      ·simp only [Act.put, List.setIfInBounds_toArray, List.set_cons_zero, List.set_cons_succ, i64_w, i32_w]
       rfl
      refine pure_ (i := 24) (N := some 2) (v := ?_) (a' := ?_) #[true, true, true, true, true, true, true, true, true, true, true, true, true, true, true, true, true, true, true, true, true, true, true, true, true] rfl rfl (any_of HT_.out (by kernel_rfl)) (fun _ _ _ h => h) (Or.inl ⟨by rfl, ?_⟩) ?_ ?_
      rotate_left
      ·intro w'
       go_simp
       with_reducible rfl
      rotate_left
      ·simp only [Act.put, List.setIfInBounds_toArray, List.set_cons_zero, List.set_cons_succ, i64_w, i32_w]
       rfl
      refine done_ (done_of HT_.out (by kernel_rfl)) ?_
      try go_wp2
      go_ret
      exact ⟨by first | rfl | (simp [errW_none, errW_some] <;> rfl) | (simp [*, errW_none, errW_some] <;> rfl), bU_ HB.out⟩
     ·rw [if_neg c14] at H
      have c14b0 : (t136 == t137) = false := by simpa using c14
      (try (have c14b1 : decide (t136 = t137) = false := by simpa using c14))
      (try (have c14b2 : (t136 == t137) = false := by simpa using c14))
      (try (have c14b3 : ¬ (t136 = t137) := by simpa using c14))
      clear c14
      obtain rfl := Option.some.inj H
      exact absurd hrt.out (by decide)
    ·rw [if_neg c11] at H
     have c11b0 : (t112 == t124) = false := beq_eq_false_iff_ne.mpr c11
     have c11b1 : (t112 != t124) = true := bne_iff_ne.mpr c11
     obtain rfl := Option.some.inj H
     exact absurd hrt.out (by decide)
   ·rw [if_neg c10] at H
    have c10b0 : (t111.toList == t123.toList) = false := beq_eq_false_iff_ne.mpr c10
    have c10b1 : (t111.toList != t123.toList) = true := bne_iff_ne.mpr c10
    obtain rfl := Option.some.inj H
    exact absurd hrt.out (by decide)
  ·replace c9 := Bool.eq_false_iff.mpr c9
   subst c9
   have H1 : (some false) = some r := by rw [if_neg (show ¬ (false = true) by decide)] at H; exact H
   clear H
   have H := H1
   clear H1
   obtain rfl := Option.some.inj H
   exact absurd hrt.out (by decide)

/-- THE ONE PURE STATEMENT of rillmeterlaw07_IpsixTakes: yours. -/
def rillmeterlaw07_IpsixTakes.Pure : Prop := ∀ (a0 : ByteArray), a0.size ≤ 140737488351232 → ∃ k, rillmeterlaw07_IpsixTakes.f k a0 = some true
theorem rillmeterlaw07_IpsixTakes.walk (P : rillmeterlaw07_IpsixTakes.Pure) (a0 : ByteArray) (w : World) (w0 : a0.size ≤ 140737488351232) :
  Calls Try.prog 3 #[.string a0] w fun e w' => e = .returned (.bool true) ∧ Below w.heap.size w w' := by
 obtain ⟨k, h⟩ := P a0 w0
 refine (rillmeterlaw07_IpsixTakes.calls k a0 true w (Aside0.mk rfl) h).mono ?_
 rintro e w' ⟨rfl, hd⟩
 exact ⟨rfl, hd⟩

end Go.Proofs.Ytmjpemnlilcpkaa.Q
