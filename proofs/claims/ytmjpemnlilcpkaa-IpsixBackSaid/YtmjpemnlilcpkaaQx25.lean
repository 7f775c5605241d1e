-- made by a program of this session (wip/print-patch.py, over the kit's print)
import Derived.Test.YtmjpemnlilcpkaaQx0
import Derived.Test.YtmjpemnlilcpkaaQx6
import Derived.Test.YtmjpemnlilcpkaaQx9
import Derived.Test.YtmjpemnlilcpkaaQx12
import Derived.Test.YtmjpemnlilcpkaaQx13
import Derived.Test.YtmjpemnlilcpkaaQx15
import Derived.Test.YtmjpemnlilcpkaaQx16
namespace Go.Proofs.Ytmjpemnlilcpkaa.Q
open Go.RowKit Go.Proofs.YtmjpemnlilcpkaaW.PrintWords Go.Proofs.YtmjpemnlilcpkaaW.PrintLast Go.Proofs.YtmjpemnlilcpkaaW.PrintMore
attribute [local go_sem] max2_int min2_int max_two min_two max_three min_three max_four min_four   -- for this text's walks alone
set_option linter.unusedVariables false
set_option linter.unusedSimpArgs false

attribute [local go_sem] cell_twice_ cell_twiceN_
/-! ### rillmeterlaw07_IpsixBack: function 6 -/
def rillmeterlaw07_IpsixBack.f (k : Nat) (a0 : ByteArray) : Option (Bool) := if (a0.size : Int) > 4096 then ((rillmeterlaw07_awake.f k).bind fun t101 => (some t101)) else ((ipsix_Take.f k a0).bind fun bt102 => (if bt102.2.2.2.2.2.2.2.2 = 0 then ((ipsix_Put.f k bt102.1 bt102.2.1 bt102.2.2.1 bt102.2.2.2.1 bt102.2.2.2.2.1 bt102.2.2.2.2.2.1 bt102.2.2.2.2.2.2.1 bt102.2.2.2.2.2.2.2.1).bind fun bt114 => (if bt114.2 = 0 then (if (bt114.1.size : Int) ≤ (a0.size : Int) then (if 0 ≤ (bt114.1.size : Int) then (if bt114.1.toList = (a0.extract 0 ((bt114.1.size : Int) : Int).toNat).toList then ((ipsix_Right.f k bt102.1 bt102.2.1 bt102.2.2.1 bt102.2.2.2.1 bt102.2.2.2.2.1 bt102.2.2.2.2.2.1 bt102.2.2.2.2.2.2.1).bind fun t116 => (if t116 = true then ((rillmeterlaw07_awake.f k).bind fun t117 => (some t117)) else (some false))) else (some false)) else (none)) else (some false)) else (some false))) else ((rillmeterlaw07_ref.f k bt102.1 bt102.2.1 bt102.2.2.1 bt102.2.2.2.1 bt102.2.2.2.2.1 bt102.2.2.2.2.2.1 bt102.2.2.2.2.2.2.1).bind fun bt118 => ((rillmeterref07_Equal.f k bt118.1 bt118.2.1 bt118.2.2.1 bt118.2.2.2.1 bt118.2.2.2.2.1 bt118.2.2.2.2.2.1 bt118.2.2.2.2.2.2 0 0 0 0 (⟨#[]⟩ : ByteArray) (⟨#[]⟩ : ByteArray) ([] : List (S57))).bind fun t127 => (if t127 = true then (if bt102.2.2.2.2.2.2.2.1.toList = ([] : List UInt8) then ((rillmeterlaw07_awake.f k).bind fun t128 => (some t128)) else (some false)) else (some false))))))
theorem rillmeterlaw07_IpsixBack.mono : ∀ a0 k, LeO (rillmeterlaw07_IpsixBack.f k a0) (rillmeterlaw07_IpsixBack.f (k + 1) a0) := by
 intro a0 k
 unfold rillmeterlaw07_IpsixBack.f
 repeat' first
   | (with_reducible exact ipsix_Put.mono _ _ _ _ _ _ _ _ _)
   | (with_reducible exact ipsix_Right.mono _ _ _ _ _ _ _ _)
   | (with_reducible exact ipsix_Take.mono _ _)
   | (with_reducible exact rillmeterlaw07_awake.mono _)
   | (with_reducible exact rillmeterlaw07_ref.mono _ _ _ _ _ _ _ _)
   | (with_reducible exact rillmeterref07_Equal.mono _ _ _ _ _ _ _ _ _ _ _ _ _ _ _)
   | (with_reducible exact LeO.refl _)
   | (with_reducible exact LeO.none _)
   | (with_reducible refine LeO.ite ?_ ?_)
   | (with_reducible refine LeO.bind ?_ (fun _ => ?_))
   | exact ipsix_Put.mono _ _ _ _ _ _ _ _ _
   | exact ipsix_Right.mono _ _ _ _ _ _ _ _
   | exact ipsix_Take.mono _ _
   | exact rillmeterlaw07_awake.mono _
   | exact rillmeterlaw07_ref.mono _ _ _ _ _ _ _ _
   | exact rillmeterref07_Equal.mono _ _ _ _ _ _ _ _ _ _ _ _ _ _ _
   | exact LeO.none _
   | refine LeO.ite ?_ ?_
   | refine LeO.bind ?_ (fun _ => ?_)
set_option maxHeartbeats 8000000 in
set_option maxRecDepth 100000 in
theorem rillmeterlaw07_IpsixBack.calls (k : Nat) (a0 : ByteArray) (r : Bool) (w : World) (hrt : Aside0 (r = true)) (h : rillmeterlaw07_IpsixBack.f k a0 = some r) :
  Calls Try.prog 6 #[.string a0] w fun e w' => e = .returned (.bool r) ∧ Below w.heap.size w w' := by
 have hu25 := Try.underlying25
 have hu31 := Try.underlying31
 have HB := Aside0.mk (Below.refl w.heap.size w)
 have H : (if (a0.size : Int) > 4096 then ((rillmeterlaw07_awake.f k).bind fun t101 => (some t101)) else ((ipsix_Take.f k a0).bind fun bt102 => (if bt102.2.2.2.2.2.2.2.2 = 0 then ((ipsix_Put.f k bt102.1 bt102.2.1 bt102.2.2.1 bt102.2.2.2.1 bt102.2.2.2.2.1 bt102.2.2.2.2.2.1 bt102.2.2.2.2.2.2.1 bt102.2.2.2.2.2.2.2.1).bind fun bt114 => (if bt114.2 = 0 then (if (bt114.1.size : Int) ≤ (a0.size : Int) then (if 0 ≤ (bt114.1.size : Int) then (if bt114.1.toList = (a0.extract 0 ((bt114.1.size : Int) : Int).toNat).toList then ((ipsix_Right.f k bt102.1 bt102.2.1 bt102.2.2.1 bt102.2.2.2.1 bt102.2.2.2.2.1 bt102.2.2.2.2.2.1 bt102.2.2.2.2.2.2.1).bind fun t116 => (if t116 = true then ((rillmeterlaw07_awake.f k).bind fun t117 => (some t117)) else (some false))) else (some false)) else (none)) else (some false)) else (some false))) else ((rillmeterlaw07_ref.f k bt102.1 bt102.2.1 bt102.2.2.1 bt102.2.2.2.1 bt102.2.2.2.2.1 bt102.2.2.2.2.2.1 bt102.2.2.2.2.2.2.1).bind fun bt118 => ((rillmeterref07_Equal.f k bt118.1 bt118.2.1 bt118.2.2.1 bt118.2.2.2.1 bt118.2.2.2.2.1 bt118.2.2.2.2.2.1 bt118.2.2.2.2.2.2 0 0 0 0 (⟨#[]⟩ : ByteArray) (⟨#[]⟩ : ByteArray) ([] : List (S57))).bind fun t127 => (if t127 = true then (if bt102.2.2.2.2.2.2.2.1.toList = ([] : List UInt8) then ((rillmeterlaw07_awake.f k).bind fun t128 => (some t128)) else (some false)) else (some false))))))) = some r := h
 clear h
 by_cases c2 : (a0.size : Int) > 4096
 ·rw [if_pos c2] at H
  have c2b0 : decide (4096 < (a0.size : Int)) = true := decide_eq_true c2
  have c2b1 : decide (4096 < a0.size) = true := decide_eq_true (by omega)
  clear c2
  replace H := Option.bind_eq_some_iff.mp H
  obtain ⟨t101, A30, H⟩ := H
  replace H : (some t101) = some r := H
  have A3 := Aside0.mk A30
  clear A30
  obtain rfl := Option.some.inj H
  go_enter Try.func6, Try.ntmps6
  go_wp2_with (first | ((with_reducible refine gate_callee (f := 8) rfl ?_); refine gL_ (some 11) rfl rfl Try.func8 (by kernel_rfl) rfl #[] rfl ?_; (with_reducible refine (rillmeterlaw07_awake.calls k  t101 _ hrt A3.out).mono ?_); rintro e w4 ⟨rfl, hb⟩; refine ⟨_, rfl, ?_⟩; have n0_ := Aside0.mk (below_step (bU_ HB.out) hb); clear HB; have HB := n0_; clear n0_; (try clear hb); (try clear hb2); (try clear hk); (try clear hi)))
  go_ret
  exact ⟨by first | rfl | (simp [errW_none, errW_some] <;> rfl) | (simp [*, errW_none, errW_some] <;> rfl), bU_ HB.out⟩
 ·rw [if_neg c2] at H
  have c2b0 : decide (4096 < (a0.size : Int)) = false := decide_eq_false c2
  have c2b1 : decide (4096 < a0.size) = false := decide_eq_false (by omega)
  clear c2
  replace H := Option.bind_eq_some_iff.mp H
  obtain ⟨⟨t102, t103, t104, t105, t106, t107, t108, t111, t112⟩, A50, H⟩ := H
  replace H : (if t112 = 0 then ((ipsix_Put.f k t102 t103 t104 t105 t106 t107 t108 t111).bind fun bt114 => (if bt114.2 = 0 then (if (bt114.1.size : Int) ≤ (a0.size : Int) then (if 0 ≤ (bt114.1.size : Int) then (if bt114.1.toList = (a0.extract 0 ((bt114.1.size : Int) : Int).toNat).toList then ((ipsix_Right.f k t102 t103 t104 t105 t106 t107 t108).bind fun t116 => (if t116 = true then ((rillmeterlaw07_awake.f k).bind fun t117 => (some t117)) else (some false))) else (some false)) else (none)) else (some false)) else (some false))) else ((rillmeterlaw07_ref.f k t102 t103 t104 t105 t106 t107 t108).bind fun bt118 => ((rillmeterref07_Equal.f k bt118.1 bt118.2.1 bt118.2.2.1 bt118.2.2.2.1 bt118.2.2.2.2.1 bt118.2.2.2.2.2.1 bt118.2.2.2.2.2.2 0 0 0 0 (⟨#[]⟩ : ByteArray) (⟨#[]⟩ : ByteArray) ([] : List (S57))).bind fun t127 => (if t127 = true then (if t111.toList = ([] : List UInt8) then ((rillmeterlaw07_awake.f k).bind fun t128 => (some t128)) else (some false)) else (some false))))) = some r := H
  have A5 := Aside0.mk A50
  clear A50
  by_cases c6 : t112 = 0
  ·rw [if_pos c6] at H
   have c6b0 : (t112 == 0) = true := beq_iff_eq.mpr c6
   have c6b1 : (t112 != 0) = false := bne_eq_false_iff_eq.mpr c6
   clear c6
   replace H := Option.bind_eq_some_iff.mp H
   obtain ⟨⟨t114, t115⟩, A70, H⟩ := H
   replace H : (if t115 = 0 then (if (t114.size : Int) ≤ (a0.size : Int) then (if 0 ≤ (t114.size : Int) then (if t114.toList = (a0.extract 0 ((t114.size : Int) : Int).toNat).toList then ((ipsix_Right.f k t102 t103 t104 t105 t106 t107 t108).bind fun t116 => (if t116 = true then ((rillmeterlaw07_awake.f k).bind fun t117 => (some t117)) else (some false))) else (some false)) else (none)) else (some false)) else (some false)) = some r := H
   have A7 := Aside0.mk A70
   clear A70
   by_cases c8 : t115 = 0
   ·rw [if_pos c8] at H
    have c8b0 : (t115 == 0) = true := beq_iff_eq.mpr c8
    have c8b1 : (t115 != 0) = false := bne_eq_false_iff_eq.mpr c8
    clear c8
    by_cases c9 : (t114.size : Int) ≤ (a0.size : Int)
    ·rw [if_pos c9] at H
     have c9b0 : decide ((t114.size : Int) ≤ (a0.size : Int)) = true := decide_eq_true c9
     have c9b1 : decide (t114.size ≤ a0.size) = true := decide_eq_true (Int.ofNat_le.mp c9)
     clear c9
     by_cases c10 : 0 ≤ (t114.size : Int)
     ·rw [if_pos c10] at H
      have c10b0 := eq_true c10
      have c10b1 : decide (0 ≤ (t114.size : Int)) = true := decide_eq_true c10
      clear c10
      have c11b0 := eq_true (of_decide_eq_true (by first | (with_reducible assumption) | assumption) : (t114.size : Int) ≤ (a0.size : Int))
      by_cases c12 : t114.toList = (a0.extract 0 ((t114.size : Int) : Int).toNat).toList
      ·rw [if_pos c12] at H
       have c12b0 : (t114.toList == (a0.extract 0 ((t114.size : Int) : Int).toNat).toList) = true := beq_iff_eq.mpr c12
       have c12b1 : (t114.toList != (a0.extract 0 ((t114.size : Int) : Int).toNat).toList) = false := bne_eq_false_iff_eq.mpr c12
       (try (have c12m0 := c12b0; simp only [Int.toNat_natCast] at c12m0))
       (try (have c12m1 := c12b1; simp only [Int.toNat_natCast] at c12m1))
       clear c12
       replace H := Option.bind_eq_some_iff.mp H
       obtain ⟨t116, A130, H⟩ := H
       replace H : (if t116 = true then ((rillmeterlaw07_awake.f k).bind fun t117 => (some t117)) else (some false)) = some r := H
       have A13 := Aside0.mk A130
       clear A130
       by_cases c14 : t116 = true
       ·subst c14
        have H1 : ((rillmeterlaw07_awake.f k).bind fun t117 => (some t117)) = some r := by rw [if_pos rfl] at H; exact H
        clear H
        have H := H1
        clear H1
        replace H := Option.bind_eq_some_iff.mp H
        obtain ⟨t117, A150, H⟩ := H
        replace H : (some t117) = some r := H
        have A15 := Aside0.mk A150
        clear A150
        obtain rfl := Option.some.inj H
        go_enter Try.func6, Try.ntmps6
        go_wp2_with (first | ((with_reducible refine gate_callee (f := 9) rfl ?_); refine gL_ (some 14) rfl rfl Try.func9 (by kernel_rfl) rfl #[.string a0] rfl ?_; (with_reducible refine (ipsix_Take.calls k a0 t102 t103 t104 t105 t106 t107 t108 t111 t112 _ A5.out).mono ?_); rintro e w16 ⟨v109, rfl, ho0, hb⟩; refine ⟨_, rfl, ?_⟩; have n0_ := Aside0.mk (Kd.R_lower ho0 (below_size (bU_ HB.out))); have n1_ := Aside0.mk (below_step (bU_ HB.out) hb); clear HB; have HO110 := n0_; have HB := n1_; clear n0_ n1_; (try clear hb); (try clear hb2); (try clear hk); (try clear hi); (try clear ho0)) | ((with_reducible refine gate_dst (N := 3) rfl ?_); (try (refine gate_guard (by rfl) ?_; dsimp only)); refine box_event ?hg (N := 3) ?hd (cs := #[.int .i64 0, .int .i64 0, .int .i64 0, .int .i64 0, .string (⟨#[]⟩ : ByteArray), .string (⟨#[]⟩ : ByteArray), .slice none 0 0]) (t := 25) ?hr ?_; (case hd => rfl); (case hg => rfl); (case hr => first | (go_simp; done) | (go_simp; rfl)); intro gb113 hg w17 hbox hb; have n0_ := Aside0.mk (Kd.R_below (by (with_reducible repeat first | apply Kd.R_alloc | apply Kd.R_drewN | apply Kd.R_drew); exact HO110.out) hb); have n1_ := Aside0.mk (below_step (bU_ HB.out) hb); have n2_ := Aside0.mk (hbox); have n3_ := Aside0.mk ((by rw [hg]; exact (below_size (bU_ HB.out)) : w.heap.size ≤ gb113)); have n4_ := Aside0.mk ((by rw [hg]; exact (below_size (bU_ HB.out)) : w.heap.size ≤ gb113)); clear HO110; clear HB; have HO110 := n0_; have HB := n1_; have BK113 := n2_; have GW113 := n3_; have GE113 := n4_; clear n0_ n1_ n2_ n3_ n4_; clear hb hbox hg; have hcz18_0 : w17.cell? ⟨gb113, 0, none⟩ = some (.int .i64 0) := (blk_cell BK113.out 0).trans rfl; have hcz18_1 : w17.cell? ⟨gb113, 1, none⟩ = some (.int .i64 0) := (blk_cell BK113.out 1).trans rfl; have hcz18_2 : w17.cell? ⟨gb113, 2, none⟩ = some (.int .i64 0) := (blk_cell BK113.out 2).trans rfl; have hcz18_3 : w17.cell? ⟨gb113, 3, none⟩ = some (.int .i64 0) := (blk_cell BK113.out 3).trans rfl; have hcz18_4 : w17.cell? ⟨gb113, 4, none⟩ = some (.string (⟨#[]⟩ : ByteArray)) := (blk_cell BK113.out 4).trans rfl; have hcz18_5 : w17.cell? ⟨gb113, 5, none⟩ = some (.string (⟨#[]⟩ : ByteArray)) := (blk_cell BK113.out 5).trans rfl; have hcz18_6 : w17.cell? ⟨gb113, 6, none⟩ = some (.slice none 0 0) := (blk_cell BK113.out 6).trans rfl; have hfz18_0 := blk_frozen BK113.out 0; have hfz18_1 := blk_frozen BK113.out 1; have hfz18_2 := blk_frozen BK113.out 2; have hfz18_3 := blk_frozen BK113.out 3; have hfz18_4 := blk_frozen BK113.out 4; have hfz18_5 := blk_frozen BK113.out 5; have hfz18_6 := blk_frozen BK113.out 6; obtain ⟨Ao19, co19, eo19⟩ := Kd.R_slice HO110.out; subst eo19) | ((with_reducible refine gate_callee (f := 16) rfl ?_); refine gL_ (some 34) rfl rfl Try.func16 (by kernel_rfl) rfl #[.agg #[.int .i64 t102, .int .i64 t103, .int .i64 t104, .int .i64 t105, .string t106, .string t107, .slice Ao19 t108.length co19], .string t111] rfl ?_; (with_reducible refine (ipsix_Put.calls k t102 t103 t104 t105 t106 t107 _ _ t108 t111 t114 t115 _ ?side1 ?side2 A7.out).mono ?_); (case side1 => refine (Kd.R_reads' (e := 49) (base := w.heap.size) (ok := fun k_ => True) (n := t108.length) (c := co19) ?_).2.2; exact (by (with_reducible repeat first | apply Kd.R_alloc | apply Kd.R_drewN | apply Kd.R_drew); exact (Kd.R_mono (Kd.R_far (p := ⟨gb113, 6, none⟩) (Kd.R_far (p := ⟨gb113, 5, none⟩) (Kd.R_far (p := ⟨gb113, 4, none⟩) (Kd.R_far (p := ⟨gb113, 3, none⟩) (Kd.R_far (p := ⟨gb113, 2, none⟩) (Kd.R_far (p := ⟨gb113, 1, none⟩) (Kd.R_far (p := ⟨gb113, 0, none⟩) (Kd.R_types HO110.out BK113.out (by decide)) (fun _ hk => hk.2) (.int .i64 t102)) (fun _ hk => hk.2) (.int .i64 t103)) (fun _ hk => hk.2) (.int .i64 t104)) (fun _ hk => hk.2) (.int .i64 t105)) (fun _ hk => hk.2) (.string t106)) (fun _ hk => hk.2) (.string t107)) (fun _ hk => hk.2) (.slice Ao19 t108.length co19)) (fun _ h_ => h_.1)))); (case side2 => exact (Kd.R_reads' HO110.out).2.1); rintro e w20 ⟨rfl, hb⟩; refine ⟨_, rfl, ?_⟩; have n0_ := Aside0.mk (Kd.R_below (by (with_reducible repeat first | apply Kd.R_alloc | apply Kd.R_drewN | apply Kd.R_drew); exact (Kd.R_mono (Kd.R_far (p := ⟨gb113, 6, none⟩) (Kd.R_far (p := ⟨gb113, 5, none⟩) (Kd.R_far (p := ⟨gb113, 4, none⟩) (Kd.R_far (p := ⟨gb113, 3, none⟩) (Kd.R_far (p := ⟨gb113, 2, none⟩) (Kd.R_far (p := ⟨gb113, 1, none⟩) (Kd.R_far (p := ⟨gb113, 0, none⟩) (Kd.R_types HO110.out BK113.out (by decide)) (fun _ hk => hk.2) (.int .i64 t102)) (fun _ hk => hk.2) (.int .i64 t103)) (fun _ hk => hk.2) (.int .i64 t104)) (fun _ hk => hk.2) (.int .i64 t105)) (fun _ hk => hk.2) (.string t106)) (fun _ hk => hk.2) (.string t107)) (fun _ hk => hk.2) (.slice Ao19 t108.length co19)) (fun _ h_ => h_.1))) hb); have n1_ := Aside0.mk (blk_below (g := gb113) (o := .cells #[.int .i64 t102, .int .i64 t103, .int .i64 t104, .int .i64 t105, .string t106, .string t107, .slice Ao19 t108.length co19] 25 (0, 0)) (by (with_reducible repeat first | apply pN_ | apply pD_ | apply pA_); refine blk_put (cs := #[.int .i64 t102, .int .i64 t103, .int .i64 t104, .int .i64 t105, .string t106, .string t107, .slice none 0 0]) ?_ 6 _ rfl; (with_reducible repeat first | apply pN_ | apply pD_ | apply pA_); refine blk_put (cs := #[.int .i64 t102, .int .i64 t103, .int .i64 t104, .int .i64 t105, .string t106, .string (⟨#[]⟩ : ByteArray), .slice none 0 0]) ?_ 5 _ rfl; (with_reducible repeat first | apply pN_ | apply pD_ | apply pA_); refine blk_put (cs := #[.int .i64 t102, .int .i64 t103, .int .i64 t104, .int .i64 t105, .string (⟨#[]⟩ : ByteArray), .string (⟨#[]⟩ : ByteArray), .slice none 0 0]) ?_ 4 _ rfl; (with_reducible repeat first | apply pN_ | apply pD_ | apply pA_); refine blk_put (cs := #[.int .i64 t102, .int .i64 t103, .int .i64 t104, .int .i64 0, .string (⟨#[]⟩ : ByteArray), .string (⟨#[]⟩ : ByteArray), .slice none 0 0]) ?_ 3 _ rfl; (with_reducible repeat first | apply pN_ | apply pD_ | apply pA_); refine blk_put (cs := #[.int .i64 t102, .int .i64 t103, .int .i64 0, .int .i64 0, .string (⟨#[]⟩ : ByteArray), .string (⟨#[]⟩ : ByteArray), .slice none 0 0]) ?_ 2 _ rfl; (with_reducible repeat first | apply pN_ | apply pD_ | apply pA_); refine blk_put (cs := #[.int .i64 t102, .int .i64 0, .int .i64 0, .int .i64 0, .string (⟨#[]⟩ : ByteArray), .string (⟨#[]⟩ : ByteArray), .slice none 0 0]) ?_ 1 _ rfl; (with_reducible repeat first | apply pN_ | apply pD_ | apply pA_); refine blk_put (cs := #[.int .i64 0, .int .i64 0, .int .i64 0, .int .i64 0, .string (⟨#[]⟩ : ByteArray), .string (⟨#[]⟩ : ByteArray), .slice none 0 0]) ?_ 0 _ rfl; (with_reducible repeat first | apply pN_ | apply pD_ | apply pA_); exact BK113.out) hb); have n2_ := Aside0.mk (below_step (bU_ HB.out) hb); clear HO110; clear BK113; clear HB; have HO110 := n0_; have BK113 := n1_; have HB := n2_; clear n0_ n1_ n2_; (try clear hb); (try clear hb2); (try clear hk); (try clear hi); have hcz21_0 : w20.cell? ⟨gb113, 0, none⟩ = some (.int .i64 t102) := (blk_cell BK113.out 0).trans rfl; have hcz21_1 : w20.cell? ⟨gb113, 1, none⟩ = some (.int .i64 t103) := (blk_cell BK113.out 1).trans rfl; have hcz21_2 : w20.cell? ⟨gb113, 2, none⟩ = some (.int .i64 t104) := (blk_cell BK113.out 2).trans rfl; have hcz21_3 : w20.cell? ⟨gb113, 3, none⟩ = some (.int .i64 t105) := (blk_cell BK113.out 3).trans rfl; have hcz21_4 : w20.cell? ⟨gb113, 4, none⟩ = some (.string t106) := (blk_cell BK113.out 4).trans rfl; have hcz21_5 : w20.cell? ⟨gb113, 5, none⟩ = some (.string t107) := (blk_cell BK113.out 5).trans rfl; have hcz21_6 : w20.cell? ⟨gb113, 6, none⟩ = some (.slice Ao19 t108.length co19) := (blk_cell BK113.out 6).trans rfl; have hfz21_0 := blk_frozen BK113.out 0; have hfz21_1 := blk_frozen BK113.out 1; have hfz21_2 := blk_frozen BK113.out 2; have hfz21_3 := blk_frozen BK113.out 3; have hfz21_4 := blk_frozen BK113.out 4; have hfz21_5 := blk_frozen BK113.out 5; have hfz21_6 := blk_frozen BK113.out 6) | (go_at_call 18; (with_reducible refine (ipsix_Right.calls k t102 t103 t104 t105 t106 t107 _ _ t108 true _ ?side1 ?side2 A13.out).mono ?_); (case side1 => repeat (first | exact (Kd.R_reads' HO110.out).2.2 | (with_reducible refine Kd.C_alloc ?_ _) | (with_reducible refine Kd.C_drewN ?_ _) | (with_reducible refine Kd.C_drew ?_))); (case side2 => exact (Kd.R_reads' HO110.out).2.1); rintro e w22 ⟨rfl, hb⟩; have n0_ := Aside0.mk (Kd.R_below (by (with_reducible repeat first | apply Kd.R_alloc | apply Kd.R_drewN | apply Kd.R_drew); exact HO110.out) hb); have n1_ := Aside0.mk (blk_below (g := gb113) (o := .cells #[.int .i64 t102, .int .i64 t103, .int .i64 t104, .int .i64 t105, .string t106, .string t107, .slice Ao19 t108.length co19] 25 (0, 0)) (by (with_reducible repeat first | apply pN_ | apply pD_ | apply pA_); exact BK113.out) hb); have n2_ := Aside0.mk (below_step (bU_ HB.out) hb); clear HO110; clear BK113; clear HB; have HO110 := n0_; have BK113 := n1_; have HB := n2_; clear n0_ n1_ n2_; (try clear hb); (try clear hb2); (try clear hk); (try clear hi)) | (go_at_call 8; (with_reducible refine (rillmeterlaw07_awake.calls k  t117 _ hrt A15.out).mono ?_); rintro e w23 ⟨rfl, hb⟩; have n0_ := Aside0.mk (Kd.R_below (by (with_reducible repeat first | apply Kd.R_alloc | apply Kd.R_drewN | apply Kd.R_drew); exact HO110.out) hb); have n1_ := Aside0.mk (blk_below (g := gb113) (o := .cells #[.int .i64 t102, .int .i64 t103, .int .i64 t104, .int .i64 t105, .string t106, .string t107, .slice Ao19 t108.length co19] 25 (0, 0)) (by (with_reducible repeat first | apply pN_ | apply pD_ | apply pA_); exact BK113.out) hb); have n2_ := Aside0.mk (below_step (bU_ HB.out) hb); clear HO110; clear BK113; clear HB; have HO110 := n0_; have BK113 := n1_; have HB := n2_; clear n0_ n1_ n2_; (try clear hb); (try clear hb2); (try clear hk); (try clear hi)))
        go_ret
        exact ⟨by first | rfl | (simp [errW_none, errW_some] <;> rfl) | (simp [*, errW_none, errW_some] <;> rfl), bU_ HB.out⟩
       ·replace c14 := Bool.eq_false_iff.mpr c14
        subst c14
        have H1 : (some false) = some r := by rw [if_neg (show ¬ (false = true) by decide)] at H; exact H
        clear H
        have H := H1
        clear H1
        obtain rfl := Option.some.inj H
        exact absurd hrt.out (by decide)
      ·rw [if_neg c12] at H
       obtain rfl := Option.some.inj H
       exact absurd hrt.out (by decide)
     ·rw [if_neg c10] at H
      exact absurd H (by simp)
    ·rw [if_neg c9] at H
     obtain rfl := Option.some.inj H
     exact absurd hrt.out (by decide)
   ·rw [if_neg c8] at H
    obtain rfl := Option.some.inj H
    exact absurd hrt.out (by decide)
  ·rw [if_neg c6] at H
   have c6b0 : (t112 == 0) = false := beq_eq_false_iff_ne.mpr c6
   have c6b1 : (t112 != 0) = true := bne_iff_ne.mpr c6
   replace H := Option.bind_eq_some_iff.mp H
   obtain ⟨⟨t118, t119, t120, t121, t122, t123, t124⟩, A240, H⟩ := H
   replace H : ((rillmeterref07_Equal.f k t118 t119 t120 t121 t122 t123 t124 0 0 0 0 (⟨#[]⟩ : ByteArray) (⟨#[]⟩ : ByteArray) ([] : List (S57))).bind fun t127 => (if t127 = true then (if t111.toList = ([] : List UInt8) then ((rillmeterlaw07_awake.f k).bind fun t128 => (some t128)) else (some false)) else (some false))) = some r := H
   have A24 := Aside0.mk A240
   clear A240
   replace H := Option.bind_eq_some_iff.mp H
   obtain ⟨t127, A250, H⟩ := H
   replace H : (if t127 = true then (if t111.toList = ([] : List UInt8) then ((rillmeterlaw07_awake.f k).bind fun t128 => (some t128)) else (some false)) else (some false)) = some r := H
   have A25 := Aside0.mk A250
   clear A250
   by_cases c26 : t127 = true
   ·subst c26
    have H1 : (if t111.toList = ([] : List UInt8) then ((rillmeterlaw07_awake.f k).bind fun t128 => (some t128)) else (some false)) = some r := by rw [if_pos rfl] at H; exact H
    clear H
    have H := H1
    clear H1
    by_cases c27 : t111.toList = ([] : List UInt8)
    ·rw [if_pos c27] at H
     have c27b0 : (t111.toList == ([] : List UInt8)) = true := beq_iff_eq.mpr c27
     have c27b1 : (t111.toList != ([] : List UInt8)) = false := bne_eq_false_iff_eq.mpr c27
     clear c27
     replace H := Option.bind_eq_some_iff.mp H
     obtain ⟨t128, A280, H⟩ := H
     replace H : (some t128) = some r := H
     have A28 := Aside0.mk A280
     clear A280
     obtain rfl := Option.some.inj H
     go_enter Try.func6, Try.ntmps6
     go_wp2_with (first | ((with_reducible refine gate_callee (f := 9) rfl ?_); refine gL_ (some 14) rfl rfl Try.func9 (by kernel_rfl) rfl #[.string a0] rfl ?_; (with_reducible refine (ipsix_Take.calls k a0 t102 t103 t104 t105 t106 t107 t108 t111 t112 _ A5.out).mono ?_); rintro e w29 ⟨v109, rfl, ho0, hb⟩; refine ⟨_, rfl, ?_⟩; have n0_ := Aside0.mk (Kd.R_lower ho0 (below_size (bU_ HB.out))); have n1_ := Aside0.mk (below_step (bU_ HB.out) hb); clear HB; have HO110 := n0_; have HB := n1_; clear n0_ n1_; (try clear hb); (try clear hb2); (try clear hk); (try clear hi); (try clear ho0)) | ((with_reducible refine gate_dst (N := 3) rfl ?_); (try (refine gate_guard (by rfl) ?_; dsimp only)); refine box_event ?hg (N := 3) ?hd (cs := #[.int .i64 0, .int .i64 0, .int .i64 0, .int .i64 0, .string (⟨#[]⟩ : ByteArray), .string (⟨#[]⟩ : ByteArray), .slice none 0 0]) (t := 25) ?hr ?_; (case hd => rfl); (case hg => rfl); (case hr => first | (go_simp; done) | (go_simp; rfl)); intro gb113 hg w30 hbox hb; have n0_ := Aside0.mk (Kd.R_below (by (with_reducible repeat first | apply Kd.R_alloc | apply Kd.R_drewN | apply Kd.R_drew); exact HO110.out) hb); have n1_ := Aside0.mk (below_step (bU_ HB.out) hb); have n2_ := Aside0.mk (hbox); have n3_ := Aside0.mk ((by rw [hg]; exact (below_size (bU_ HB.out)) : w.heap.size ≤ gb113)); have n4_ := Aside0.mk ((by rw [hg]; exact (below_size (bU_ HB.out)) : w.heap.size ≤ gb113)); clear HO110; clear HB; have HO110 := n0_; have HB := n1_; have BK113 := n2_; have GW113 := n3_; have GE113 := n4_; clear n0_ n1_ n2_ n3_ n4_; clear hb hbox hg; have hcz31_0 : w30.cell? ⟨gb113, 0, none⟩ = some (.int .i64 0) := (blk_cell BK113.out 0).trans rfl; have hcz31_1 : w30.cell? ⟨gb113, 1, none⟩ = some (.int .i64 0) := (blk_cell BK113.out 1).trans rfl; have hcz31_2 : w30.cell? ⟨gb113, 2, none⟩ = some (.int .i64 0) := (blk_cell BK113.out 2).trans rfl; have hcz31_3 : w30.cell? ⟨gb113, 3, none⟩ = some (.int .i64 0) := (blk_cell BK113.out 3).trans rfl; have hcz31_4 : w30.cell? ⟨gb113, 4, none⟩ = some (.string (⟨#[]⟩ : ByteArray)) := (blk_cell BK113.out 4).trans rfl; have hcz31_5 : w30.cell? ⟨gb113, 5, none⟩ = some (.string (⟨#[]⟩ : ByteArray)) := (blk_cell BK113.out 5).trans rfl; have hcz31_6 : w30.cell? ⟨gb113, 6, none⟩ = some (.slice none 0 0) := (blk_cell BK113.out 6).trans rfl; have hfz31_0 := blk_frozen BK113.out 0; have hfz31_1 := blk_frozen BK113.out 1; have hfz31_2 := blk_frozen BK113.out 2; have hfz31_3 := blk_frozen BK113.out 3; have hfz31_4 := blk_frozen BK113.out 4; have hfz31_5 := blk_frozen BK113.out 5; have hfz31_6 := blk_frozen BK113.out 6; obtain ⟨Ao32, co32, eo32⟩ := Kd.R_slice HO110.out; subst eo32) | ((with_reducible refine gate_callee (f := 12) rfl ?_); refine gL_ (some 21) rfl rfl Try.func12 (by kernel_rfl) rfl #[.agg #[.int .i64 t102, .int .i64 t103, .int .i64 t104, .int .i64 t105, .string t106, .string t107, .slice Ao32 t108.length co32]] rfl ?_; (with_reducible refine (rillmeterlaw07_ref.calls k t102 t103 t104 t105 t106 t107 _ _ t108 t118 t119 t120 t121 t122 t123 t124 _ ?side1 ?side2 A24.out).mono ?_); (case side1 => refine (Kd.R_reads' (e := 49) (base := w.heap.size) (ok := fun k_ => True) (n := t108.length) (c := co32) ?_).2.2; exact (by (with_reducible repeat first | apply Kd.R_alloc | apply Kd.R_drewN | apply Kd.R_drew); exact (Kd.R_mono (Kd.R_far (p := ⟨gb113, 6, none⟩) (Kd.R_far (p := ⟨gb113, 5, none⟩) (Kd.R_far (p := ⟨gb113, 4, none⟩) (Kd.R_far (p := ⟨gb113, 3, none⟩) (Kd.R_far (p := ⟨gb113, 2, none⟩) (Kd.R_far (p := ⟨gb113, 1, none⟩) (Kd.R_far (p := ⟨gb113, 0, none⟩) (Kd.R_types HO110.out BK113.out (by decide)) (fun _ hk => hk.2) (.int .i64 t102)) (fun _ hk => hk.2) (.int .i64 t103)) (fun _ hk => hk.2) (.int .i64 t104)) (fun _ hk => hk.2) (.int .i64 t105)) (fun _ hk => hk.2) (.string t106)) (fun _ hk => hk.2) (.string t107)) (fun _ hk => hk.2) (.slice Ao32 t108.length co32)) (fun _ h_ => h_.1)))); (case side2 => exact (Kd.R_reads' HO110.out).2.1); rintro e w33 ⟨v125, rfl, ho0, hb⟩; refine ⟨_, rfl, ?_⟩; have n0_ := Aside0.mk (Kd.R_below (by (with_reducible repeat first | apply Kd.R_alloc | apply Kd.R_drewN | apply Kd.R_drew); exact (Kd.R_mono (Kd.R_far (p := ⟨gb113, 6, none⟩) (Kd.R_far (p := ⟨gb113, 5, none⟩) (Kd.R_far (p := ⟨gb113, 4, none⟩) (Kd.R_far (p := ⟨gb113, 3, none⟩) (Kd.R_far (p := ⟨gb113, 2, none⟩) (Kd.R_far (p := ⟨gb113, 1, none⟩) (Kd.R_far (p := ⟨gb113, 0, none⟩) (Kd.R_types HO110.out BK113.out (by decide)) (fun _ hk => hk.2) (.int .i64 t102)) (fun _ hk => hk.2) (.int .i64 t103)) (fun _ hk => hk.2) (.int .i64 t104)) (fun _ hk => hk.2) (.int .i64 t105)) (fun _ hk => hk.2) (.string t106)) (fun _ hk => hk.2) (.string t107)) (fun _ hk => hk.2) (.slice Ao32 t108.length co32)) (fun _ h_ => h_.1))) hb); have n1_ := Aside0.mk (Kd.R_lower ho0 (below_size (bU_ HB.out))); have n2_ := Aside0.mk (blk_below (g := gb113) (o := .cells #[.int .i64 t102, .int .i64 t103, .int .i64 t104, .int .i64 t105, .string t106, .string t107, .slice Ao32 t108.length co32] 25 (0, 0)) (by (with_reducible repeat first | apply pN_ | apply pD_ | apply pA_); refine blk_put (cs := #[.int .i64 t102, .int .i64 t103, .int .i64 t104, .int .i64 t105, .string t106, .string t107, .slice none 0 0]) ?_ 6 _ rfl; (with_reducible repeat first | apply pN_ | apply pD_ | apply pA_); refine blk_put (cs := #[.int .i64 t102, .int .i64 t103, .int .i64 t104, .int .i64 t105, .string t106, .string (⟨#[]⟩ : ByteArray), .slice none 0 0]) ?_ 5 _ rfl; (with_reducible repeat first | apply pN_ | apply pD_ | apply pA_); refine blk_put (cs := #[.int .i64 t102, .int .i64 t103, .int .i64 t104, .int .i64 t105, .string (⟨#[]⟩ : ByteArray), .string (⟨#[]⟩ : ByteArray), .slice none 0 0]) ?_ 4 _ rfl; (with_reducible repeat first | apply pN_ | apply pD_ | apply pA_); refine blk_put (cs := #[.int .i64 t102, .int .i64 t103, .int .i64 t104, .int .i64 0, .string (⟨#[]⟩ : ByteArray), .string (⟨#[]⟩ : ByteArray), .slice none 0 0]) ?_ 3 _ rfl; (with_reducible repeat first | apply pN_ | apply pD_ | apply pA_); refine blk_put (cs := #[.int .i64 t102, .int .i64 t103, .int .i64 0, .int .i64 0, .string (⟨#[]⟩ : ByteArray), .string (⟨#[]⟩ : ByteArray), .slice none 0 0]) ?_ 2 _ rfl; (with_reducible repeat first | apply pN_ | apply pD_ | apply pA_); refine blk_put (cs := #[.int .i64 t102, .int .i64 0, .int .i64 0, .int .i64 0, .string (⟨#[]⟩ : ByteArray), .string (⟨#[]⟩ : ByteArray), .slice none 0 0]) ?_ 1 _ rfl; (with_reducible repeat first | apply pN_ | apply pD_ | apply pA_); refine blk_put (cs := #[.int .i64 0, .int .i64 0, .int .i64 0, .int .i64 0, .string (⟨#[]⟩ : ByteArray), .string (⟨#[]⟩ : ByteArray), .slice none 0 0]) ?_ 0 _ rfl; (with_reducible repeat first | apply pN_ | apply pD_ | apply pA_); exact BK113.out) hb); have n3_ := Aside0.mk (below_step (bU_ HB.out) hb); clear HO110; clear BK113; clear HB; have HO110 := n0_; have HO126 := n1_; have BK113 := n2_; have HB := n3_; clear n0_ n1_ n2_ n3_; (try clear hb); (try clear hb2); (try clear hk); (try clear hi); (try clear ho0); obtain ⟨Ao34, co34, eo34⟩ := Kd.R_slice HO126.out; subst eo34) | ((with_reducible refine gate_callee (f := 11) rfl ?_); refine gL_ (some 23) rfl rfl Try.func11 (by kernel_rfl) rfl #[.agg #[.int .i64 t118, .int .i64 t119, .int .i64 t120, .int .i64 t121, .string t122, .string t123, .slice Ao34 t124.length co34], .agg #[.int .i64 0, .int .i64 0, .int .i64 0, .int .i64 0, .string (⟨#[]⟩ : ByteArray), .string (⟨#[]⟩ : ByteArray), .slice none 0 0]] rfl ?_; (refine (rillmeterref07_Equal.calls k t118 t119 t120 t121 t122 t123 _ _ t124 0 0 0 0 (⟨#[]⟩ : ByteArray) (⟨#[]⟩ : ByteArray) _ _ ([] : List (S57)) true _ ?side1 ?side2 ?side3 ?side4 A25.out).mono ?_); (case side1 => repeat (first | exact (Kd.R_reads' HO126.out).2.2 | (with_reducible refine Kd.C_alloc ?_ _) | (with_reducible refine Kd.C_drewN ?_ _) | (with_reducible refine Kd.C_drew ?_))); (case side2 => exact (Kd.R_reads' HO126.out).2.1); (case side3 => exact Kd.C_nil _ _); (case side4 => exact Nat.le_refl _); rintro e w35 ⟨rfl, hb⟩; refine ⟨_, rfl, ?_⟩; have n0_ := Aside0.mk (Kd.R_below (by (with_reducible repeat first | apply Kd.R_alloc | apply Kd.R_drewN | apply Kd.R_drew); exact HO110.out) hb); have n1_ := Aside0.mk (Kd.R_below (by (with_reducible repeat first | apply Kd.R_alloc | apply Kd.R_drewN | apply Kd.R_drew); exact HO126.out) hb); have n2_ := Aside0.mk (blk_below (g := gb113) (o := .cells #[.int .i64 t102, .int .i64 t103, .int .i64 t104, .int .i64 t105, .string t106, .string t107, .slice Ao32 t108.length co32] 25 (0, 0)) (by (with_reducible repeat first | apply pN_ | apply pD_ | apply pA_); exact BK113.out) hb); have n3_ := Aside0.mk (below_step (bU_ HB.out) hb); clear HO110; clear HO126; clear BK113; clear HB; have HO110 := n0_; have HO126 := n1_; have BK113 := n2_; have HB := n3_; clear n0_ n1_ n2_ n3_; (try clear hb); (try clear hb2); (try clear hk); (try clear hi)) | (go_at_call 8; (with_reducible refine (rillmeterlaw07_awake.calls k  t128 _ hrt A28.out).mono ?_); rintro e w36 ⟨rfl, hb⟩; have n0_ := Aside0.mk (Kd.R_below (by (with_reducible repeat first | apply Kd.R_alloc | apply Kd.R_drewN | apply Kd.R_drew); exact HO110.out) hb); have n1_ := Aside0.mk (Kd.R_below (by (with_reducible repeat first | apply Kd.R_alloc | apply Kd.R_drewN | apply Kd.R_drew); exact HO126.out) hb); have n2_ := Aside0.mk (blk_below (g := gb113) (o := .cells #[.int .i64 t102, .int .i64 t103, .int .i64 t104, .int .i64 t105, .string t106, .string t107, .slice Ao32 t108.length co32] 25 (0, 0)) (by (with_reducible repeat first | apply pN_ | apply pD_ | apply pA_); exact BK113.out) hb); have n3_ := Aside0.mk (below_step (bU_ HB.out) hb); clear HO110; clear HO126; clear BK113; clear HB; have HO110 := n0_; have HO126 := n1_; have BK113 := n2_; have HB := n3_; clear n0_ n1_ n2_ n3_; (try clear hb); (try clear hb2); (try clear hk); (try clear hi)))
     go_ret
     exact ⟨by first | rfl | (simp [errW_none, errW_some] <;> rfl) | (simp [*, errW_none, errW_some] <;> rfl), bU_ HB.out⟩
    ·rw [if_neg c27] at H
     obtain rfl := Option.some.inj H
     exact absurd hrt.out (by decide)
   ·replace c26 := Bool.eq_false_iff.mpr c26
    subst c26
    have H1 : (some false) = some r := by rw [if_neg (show ¬ (false = true) by decide)] at H; exact H
    clear H
    have H := H1
    clear H1
    obtain rfl := Option.some.inj H
    exact absurd hrt.out (by decide)

/-- THE ONE PURE STATEMENT of rillmeterlaw07_IpsixBack: yours. -/
def rillmeterlaw07_IpsixBack.Pure : Prop := ∀ (a0 : ByteArray), a0.size ≤ 140737488351232 → ∃ k, rillmeterlaw07_IpsixBack.f k a0 = some true
theorem rillmeterlaw07_IpsixBack.walk (P : rillmeterlaw07_IpsixBack.Pure) (a0 : ByteArray) (w : World) (w0 : a0.size ≤ 140737488351232) :
  Calls Try.prog 6 #[.string a0] w fun e w' => e = .returned (.bool true) ∧ Below w.heap.size w w' := by
 obtain ⟨k, h⟩ := P a0 w0
 refine (rillmeterlaw07_IpsixBack.calls k a0 true w (Aside0.mk rfl) h).mono ?_
 rintro e w' ⟨rfl, hd⟩
 exact ⟨rfl, hd⟩

end Go.Proofs.Ytmjpemnlilcpkaa.Q
