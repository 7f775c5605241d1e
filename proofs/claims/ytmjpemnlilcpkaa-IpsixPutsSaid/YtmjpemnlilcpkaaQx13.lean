-- made by a program of this session (wip/print-patch.py, over the kit's print)
import Derived.Test.YtmjpemnlilcpkaaQx0
import Derived.Test.YtmjpemnlilcpkaaQx6
import Derived.Test.YtmjpemnlilcpkaaQx8
import Derived.Test.YtmjpemnlilcpkaaQx12
namespace Go.Proofs.Ytmjpemnlilcpkaa.Q
open Go.RowKit Go.Proofs.YtmjpemnlilcpkaaW.PrintWords Go.Proofs.YtmjpemnlilcpkaaW.PrintLast Go.Proofs.YtmjpemnlilcpkaaW.PrintMore
attribute [local go_sem] max2_int min2_int max_two min_two max_three min_three max_four min_four   -- for this text's walks alone
set_option linter.unusedVariables false
set_option linter.unusedSimpArgs false

attribute [local go_sem] cell_twice_ cell_twiceN_
/-! ### rillmeterlaw07_awake: function 8 -/
def rillmeterlaw07_awake.f (k : Nat)  : Option (Bool) := (ipsix_Put.f k 0 0 0 17 (⟨#[115, 115, 115, 115, 115, 115, 115, 115, 115, 115, 115, 115, 115, 115, 115, 115]⟩ : ByteArray) (⟨#[100, 100, 100, 100, 100, 100, 100, 100, 100, 100, 100, 100, 100, 100, 100, 100]⟩ : ByteArray) (([(⟨60, (⟨#[97, 98, 99, 100, 101, 102]⟩ : ByteArray)⟩ : S49)] : List (S49))) (⟨#[120]⟩ : ByteArray)).bind fun bt105 => ((ipsix_Take.f k bt105.1).bind fun bt107 => (if (bt105.1.size : Int) = 49 then (if bt105.2 = 0 then (if bt107.2.2.2.1 = 17 then (if (bt107.2.2.2.2.2.2.1.length : Int) = 1 then (if bt107.2.2.2.2.2.2.2.1.toList = ([120] : List UInt8) then (if bt107.2.2.2.2.2.2.2.2 = 0 then ((ipsix_Piece.f k bt107.1 bt107.2.1 bt107.2.2.1 bt107.2.2.2.1 bt107.2.2.2.2.1 bt107.2.2.2.2.2.1 bt107.2.2.2.2.2.2.1).bind fun t119 => (some (!t119))) else (some false)) else (some false)) else (some false)) else (some false)) else (some false)) else (some false)))
theorem rillmeterlaw07_awake.mono : ∀ k, LeO (rillmeterlaw07_awake.f k ) (rillmeterlaw07_awake.f (k + 1) ) := by
 intro  k
 unfold rillmeterlaw07_awake.f
 repeat' first
   | (with_reducible exact ipsix_Piece.mono _ _ _ _ _ _ _ _)
   | (with_reducible exact ipsix_Put.mono _ _ _ _ _ _ _ _ _)
   | (with_reducible exact ipsix_Take.mono _ _)
   | (with_reducible exact LeO.refl _)
   | (with_reducible exact LeO.none _)
   | (with_reducible refine LeO.ite ?_ ?_)
   | (with_reducible refine LeO.bind ?_ (fun _ => ?_))
   | exact ipsix_Piece.mono _ _ _ _ _ _ _ _
   | exact ipsix_Put.mono _ _ _ _ _ _ _ _ _
   | exact ipsix_Take.mono _ _
   | exact LeO.none _
   | refine LeO.ite ?_ ?_
   | refine LeO.bind ?_ (fun _ => ?_)
set_option maxHeartbeats 8000000 in
set_option maxRecDepth 100000 in
theorem rillmeterlaw07_awake.calls (k : Nat)  (r : Bool) (w : World) (hrt : Aside0 (r = true)) (h : rillmeterlaw07_awake.f k  = some r) :
  Calls Try.prog 8 #[] w fun e w' => e = .returned (.bool r) ∧ Below w.heap.size w w' := by
 have hu49 := Try.underlying49
 have hu25 := Try.underlying25
 have HB := Aside0.mk (Below.refl w.heap.size w)
 have H : ((ipsix_Put.f k 0 0 0 17 (⟨#[115, 115, 115, 115, 115, 115, 115, 115, 115, 115, 115, 115, 115, 115, 115, 115]⟩ : ByteArray) (⟨#[100, 100, 100, 100, 100, 100, 100, 100, 100, 100, 100, 100, 100, 100, 100, 100]⟩ : ByteArray) (([(⟨60, (⟨#[97, 98, 99, 100, 101, 102]⟩ : ByteArray)⟩ : S49)] : List (S49))) (⟨#[120]⟩ : ByteArray)).bind fun bt105 => ((ipsix_Take.f k bt105.1).bind fun bt107 => (if (bt105.1.size : Int) = 49 then (if bt105.2 = 0 then (if bt107.2.2.2.1 = 17 then (if (bt107.2.2.2.2.2.2.1.length : Int) = 1 then (if bt107.2.2.2.2.2.2.2.1.toList = ([120] : List UInt8) then (if bt107.2.2.2.2.2.2.2.2 = 0 then ((ipsix_Piece.f k bt107.1 bt107.2.1 bt107.2.2.1 bt107.2.2.2.1 bt107.2.2.2.2.1 bt107.2.2.2.2.2.1 bt107.2.2.2.2.2.2.1).bind fun t119 => (some (!t119))) else (some false)) else (some false)) else (some false)) else (some false)) else (some false)) else (some false)))) = some r := h
 clear h
 obtain ⟨y101, hy101⟩ : ∃ y_ : List (S49), y_ = (([(⟨60, (⟨#[97, 98, 99, 100, 101, 102]⟩ : ByteArray)⟩ : S49)] : List (S49))) := ⟨_, rfl⟩
 replace H : ((ipsix_Put.f k 0 0 0 17 (⟨#[115, 115, 115, 115, 115, 115, 115, 115, 115, 115, 115, 115, 115, 115, 115, 115]⟩ : ByteArray) (⟨#[100, 100, 100, 100, 100, 100, 100, 100, 100, 100, 100, 100, 100, 100, 100, 100]⟩ : ByteArray) y101 (⟨#[120]⟩ : ByteArray)).bind fun bt105 => ((ipsix_Take.f k bt105.1).bind fun bt107 => (if (bt105.1.size : Int) = 49 then (if bt105.2 = 0 then (if bt107.2.2.2.1 = 17 then (if (bt107.2.2.2.2.2.2.1.length : Int) = 1 then (if bt107.2.2.2.2.2.2.2.1.toList = ([120] : List UInt8) then (if bt107.2.2.2.2.2.2.2.2 = 0 then ((ipsix_Piece.f k bt107.1 bt107.2.1 bt107.2.2.1 bt107.2.2.2.1 bt107.2.2.2.2.1 bt107.2.2.2.2.2.1 bt107.2.2.2.2.2.2.1).bind fun t119 => (some (!t119))) else (some false)) else (some false)) else (some false)) else (some false)) else (some false)) else (some false)))) = some r := by first | (rw [hy101]; with_reducible exact H) | (have H2_ := (Option.bind_some _ _).symm.trans H; rw [hy101]; with_reducible exact H2_) | (have H2_ := (Option.bind_some _ _).symm.trans H; with_reducible exact H2_) | with_reducible exact H | (rw [hy101]; exact H) | exact H
 have Ny101 := Aside0.mk hy101
 clear hy101
 replace H := Option.bind_eq_some_iff.mp H
 obtain ⟨⟨t105, t106⟩, A10, H⟩ := H
 replace H : ((ipsix_Take.f k t105).bind fun bt107 => (if (t105.size : Int) = 49 then (if t106 = 0 then (if bt107.2.2.2.1 = 17 then (if (bt107.2.2.2.2.2.2.1.length : Int) = 1 then (if bt107.2.2.2.2.2.2.2.1.toList = ([120] : List UInt8) then (if bt107.2.2.2.2.2.2.2.2 = 0 then ((ipsix_Piece.f k bt107.1 bt107.2.1 bt107.2.2.1 bt107.2.2.2.1 bt107.2.2.2.2.1 bt107.2.2.2.2.2.1 bt107.2.2.2.2.2.2.1).bind fun t119 => (some (!t119))) else (some false)) else (some false)) else (some false)) else (some false)) else (some false)) else (some false))) = some r := H
 have A1 := Aside0.mk A10
 clear A10
 replace H := Option.bind_eq_some_iff.mp H
 obtain ⟨⟨t107, t108, t109, t110, t111, t112, t113, t116, t117⟩, A20, H⟩ := H
 replace H : (if (t105.size : Int) = 49 then (if t106 = 0 then (if t110 = 17 then (if (t113.length : Int) = 1 then (if t116.toList = ([120] : List UInt8) then (if t117 = 0 then ((ipsix_Piece.f k t107 t108 t109 t110 t111 t112 t113).bind fun t119 => (some (!t119))) else (some false)) else (some false)) else (some false)) else (some false)) else (some false)) else (some false)) = some r := H
 have A2 := Aside0.mk A20
 clear A20
 by_cases c3 : (t105.size : Int) = 49
 ·rw [if_pos c3] at H
  have c3b0 : ((t105.size : Int) == 49) = true := beq_iff_eq.mpr c3
  have c3b1 : ((t105.size : Int) != 49) = false := bne_eq_false_iff_eq.mpr c3
  clear c3
  by_cases c4 : t106 = 0
  ·rw [if_pos c4] at H
   have c4b0 : (t106 == 0) = true := beq_iff_eq.mpr c4
   have c4b1 : (t106 != 0) = false := bne_eq_false_iff_eq.mpr c4
   clear c4
   by_cases c5 : t110 = 17
   ·rw [if_pos c5] at H
    have c5b0 : (t110 == 17) = true := beq_iff_eq.mpr c5
    have c5b1 : (t110 != 17) = false := bne_eq_false_iff_eq.mpr c5
    clear c5
    by_cases c6 : (t113.length : Int) = 1
    ·rw [if_pos c6] at H
     have c6b0 : ((t113.length : Int) == 1) = true := beq_iff_eq.mpr c6
     have c6b1 : ((t113.length : Int) != 1) = false := bne_eq_false_iff_eq.mpr c6
     clear c6
     by_cases c7 : t116.toList = ([120] : List UInt8)
     ·rw [if_pos c7] at H
      have c7b0 : (t116.toList == ([120] : List UInt8)) = true := beq_iff_eq.mpr c7
      have c7b1 : (t116.toList != ([120] : List UInt8)) = false := bne_eq_false_iff_eq.mpr c7
      clear c7
      by_cases c8 : t117 = 0
      ·rw [if_pos c8] at H
       have c8b0 : (t117 == 0) = true := beq_iff_eq.mpr c8
       have c8b1 : (t117 != 0) = false := bne_eq_false_iff_eq.mpr c8
       clear c8
       replace H := Option.bind_eq_some_iff.mp H
       obtain ⟨t119, A90, H⟩ := H
       replace H : (some (!t119)) = some r := H
       have A9 := Aside0.mk A90
       clear A90
       obtain rfl := Option.some.inj H
       go_enter Try.func8, Try.ntmps8
       go_wp2_with (first | ((with_reducible refine gate_dst (N := 8) rfl ?_); (try (refine gate_guard (by rfl) ?_; dsimp only)); refine Kd.R_lit k49 _ 49 ?hg (N := 8) ?hd (xs := ([(⟨60, (⟨#[97, 98, 99, 100, 101, 102]⟩ : ByteArray)⟩ : S49)] : List (S49))) (inner := [.int .i64 60, .string (⟨#[97, 98, 99, 100, 101, 102]⟩ : ByteArray)]) (ok := fun _ => True) (okp := fun _ => True) ?hr ?hp (fun _ hk => hk) trivial (Below.refl _ _) (Nat.le_refl _) (by simp) ?_; (case hd => rfl); (case hg => rfl); (case hr => first | (go_simp; done) | (go_simp; rfl)); (case hp => exact (Reps.c2 (show Kd.M k49 _ _ _ (⟨60, (⟨#[97, 98, 99, 100, 101, 102]⟩ : ByteArray)⟩ : S49) [.int .i64 60, .string (⟨#[97, 98, 99, 100, 101, 102]⟩ : ByteArray)] from (k49_mkM _ _ _ (⟨60, (⟨#[97, 98, 99, 100, 101, 102]⟩ : ByteArray)⟩ : S49) )) (Reps.none _ _))); intro v102 w10 ho11 hb hg_ hnew_; clear hg_ hnew_; (first | rw [← Ny101.out] at ho11 | (simp only [Int.reduceToNat] at ho11; rw [← Ny101.out] at ho11)); have n0_ := Aside0.mk (Kd.R_lower ho11 (below_size (bU_ HB.out))); have n1_ := Aside0.mk (below_step (bU_ HB.out) hb); clear HB; have HO103 := n0_; have HB := n1_; clear n0_ n1_; clear hb ho11; obtain ⟨Ao12, co12, eo12⟩ := Kd.R_slice HO103.out; subst eo12) | ((with_reducible refine gate_dst (N := 1) rfl ?_); (try (refine gate_guard (by rfl) ?_; dsimp only)); refine box_event ?hg (N := 1) ?hd (cs := #[.int .i64 0, .int .i64 0, .int .i64 0, .int .i64 0, .string (⟨#[]⟩ : ByteArray), .string (⟨#[]⟩ : ByteArray), .slice none 0 0]) (t := 25) ?hr ?_; (case hd => rfl); (case hg => rfl); (case hr => first | (go_simp; done) | (go_simp; rfl)); intro gb104 hg w13 hbox hb; have n0_ := Aside0.mk (Kd.R_below (by (with_reducible repeat first | apply Kd.R_alloc | apply Kd.R_drewN | apply Kd.R_drew); exact HO103.out) hb); have n1_ := Aside0.mk (below_step (bU_ HB.out) hb); have n2_ := Aside0.mk (hbox); have n3_ := Aside0.mk ((by rw [hg]; exact (below_size (bU_ HB.out)) : w.heap.size ≤ gb104)); have n4_ := Aside0.mk ((by rw [hg]; exact (below_size (bU_ HB.out)) : w.heap.size ≤ gb104)); clear HO103; clear HB; have HO103 := n0_; have HB := n1_; have BK104 := n2_; have GW104 := n3_; have GE104 := n4_; clear n0_ n1_ n2_ n3_ n4_; clear hb hbox hg; have hcz14_0 : w13.cell? ⟨gb104, 0, none⟩ = some (.int .i64 0) := (blk_cell BK104.out 0).trans rfl; have hcz14_1 : w13.cell? ⟨gb104, 1, none⟩ = some (.int .i64 0) := (blk_cell BK104.out 1).trans rfl; have hcz14_2 : w13.cell? ⟨gb104, 2, none⟩ = some (.int .i64 0) := (blk_cell BK104.out 2).trans rfl; have hcz14_3 : w13.cell? ⟨gb104, 3, none⟩ = some (.int .i64 0) := (blk_cell BK104.out 3).trans rfl; have hcz14_4 : w13.cell? ⟨gb104, 4, none⟩ = some (.string (⟨#[]⟩ : ByteArray)) := (blk_cell BK104.out 4).trans rfl; have hcz14_5 : w13.cell? ⟨gb104, 5, none⟩ = some (.string (⟨#[]⟩ : ByteArray)) := (blk_cell BK104.out 5).trans rfl; have hcz14_6 : w13.cell? ⟨gb104, 6, none⟩ = some (.slice none 0 0) := (blk_cell BK104.out 6).trans rfl; have hfz14_0 := blk_frozen BK104.out 0; have hfz14_1 := blk_frozen BK104.out 1; have hfz14_2 := blk_frozen BK104.out 2; have hfz14_3 := blk_frozen BK104.out 3; have hfz14_4 := blk_frozen BK104.out 4; have hfz14_5 := blk_frozen BK104.out 5; have hfz14_6 := blk_frozen BK104.out 6) | ((with_reducible refine gate_callee (f := 16) rfl ?_); refine gL_ (some 12) rfl rfl Try.func16 (by kernel_rfl) rfl #[.agg #[.int .i64 0, .int .i64 0, .int .i64 0, .int .i64 17, .string (⟨#[115, 115, 115, 115, 115, 115, 115, 115, 115, 115, 115, 115, 115, 115, 115, 115]⟩ : ByteArray), .string (⟨#[100, 100, 100, 100, 100, 100, 100, 100, 100, 100, 100, 100, 100, 100, 100, 100]⟩ : ByteArray), .slice Ao12 y101.length co12], .string (⟨#[120]⟩ : ByteArray)] rfl ?_; (with_reducible refine (ipsix_Put.calls k 0 0 0 17 (⟨#[115, 115, 115, 115, 115, 115, 115, 115, 115, 115, 115, 115, 115, 115, 115, 115]⟩ : ByteArray) (⟨#[100, 100, 100, 100, 100, 100, 100, 100, 100, 100, 100, 100, 100, 100, 100, 100]⟩ : ByteArray) _ _ y101 (⟨#[120]⟩ : ByteArray) t105 t106 _ ?side1 ?side2 A1.out).mono ?_); (case side1 => refine (Kd.R_reads' (e := 49) (base := w.heap.size) (ok := fun k_ => True) (n := y101.length) (c := co12) ?_).2.2; exact (by (with_reducible repeat first | apply Kd.R_alloc | apply Kd.R_drewN | apply Kd.R_drew); exact (Kd.R_mono (Kd.R_far (p := ⟨gb104, 6, none⟩) (Kd.R_far (p := ⟨gb104, 5, none⟩) (Kd.R_far (p := ⟨gb104, 4, none⟩) (Kd.R_far (p := ⟨gb104, 3, none⟩) (Kd.R_far (p := ⟨gb104, 2, none⟩) (Kd.R_far (p := ⟨gb104, 1, none⟩) (Kd.R_far (p := ⟨gb104, 0, none⟩) (Kd.R_types HO103.out BK104.out (by decide)) (fun _ hk => hk.2) (.int .i64 0)) (fun _ hk => hk.2) (.int .i64 0)) (fun _ hk => hk.2) (.int .i64 0)) (fun _ hk => hk.2) (.int .i64 17)) (fun _ hk => hk.2) (.string (⟨#[115, 115, 115, 115, 115, 115, 115, 115, 115, 115, 115, 115, 115, 115, 115, 115]⟩ : ByteArray))) (fun _ hk => hk.2) (.string (⟨#[100, 100, 100, 100, 100, 100, 100, 100, 100, 100, 100, 100, 100, 100, 100, 100]⟩ : ByteArray))) (fun _ hk => hk.2) (.slice Ao12 y101.length co12)) (fun _ h_ => h_.1)))); (case side2 => exact (Kd.R_reads' HO103.out).2.1); rintro e w15 ⟨rfl, hb⟩; refine ⟨_, rfl, ?_⟩; have n0_ := Aside0.mk (Kd.R_below (by (with_reducible repeat first | apply Kd.R_alloc | apply Kd.R_drewN | apply Kd.R_drew); exact (Kd.R_mono (Kd.R_far (p := ⟨gb104, 6, none⟩) (Kd.R_far (p := ⟨gb104, 5, none⟩) (Kd.R_far (p := ⟨gb104, 4, none⟩) (Kd.R_far (p := ⟨gb104, 3, none⟩) (Kd.R_far (p := ⟨gb104, 2, none⟩) (Kd.R_far (p := ⟨gb104, 1, none⟩) (Kd.R_far (p := ⟨gb104, 0, none⟩) (Kd.R_types HO103.out BK104.out (by decide)) (fun _ hk => hk.2) (.int .i64 0)) (fun _ hk => hk.2) (.int .i64 0)) (fun _ hk => hk.2) (.int .i64 0)) (fun _ hk => hk.2) (.int .i64 17)) (fun _ hk => hk.2) (.string (⟨#[115, 115, 115, 115, 115, 115, 115, 115, 115, 115, 115, 115, 115, 115, 115, 115]⟩ : ByteArray))) (fun _ hk => hk.2) (.string (⟨#[100, 100, 100, 100, 100, 100, 100, 100, 100, 100, 100, 100, 100, 100, 100, 100]⟩ : ByteArray))) (fun _ hk => hk.2) (.slice Ao12 y101.length co12)) (fun _ h_ => h_.1))) hb); have n1_ := Aside0.mk (blk_below (g := gb104) (o := .cells #[.int .i64 0, .int .i64 0, .int .i64 0, .int .i64 17, .string (⟨#[115, 115, 115, 115, 115, 115, 115, 115, 115, 115, 115, 115, 115, 115, 115, 115]⟩ : ByteArray), .string (⟨#[100, 100, 100, 100, 100, 100, 100, 100, 100, 100, 100, 100, 100, 100, 100, 100]⟩ : ByteArray), .slice Ao12 y101.length co12] 25 (0, 0)) (by (with_reducible repeat first | apply pN_ | apply pD_ | apply pA_); refine blk_put (cs := #[.int .i64 0, .int .i64 0, .int .i64 0, .int .i64 17, .string (⟨#[115, 115, 115, 115, 115, 115, 115, 115, 115, 115, 115, 115, 115, 115, 115, 115]⟩ : ByteArray), .string (⟨#[100, 100, 100, 100, 100, 100, 100, 100, 100, 100, 100, 100, 100, 100, 100, 100]⟩ : ByteArray), .slice none 0 0]) ?_ 6 _ rfl; (with_reducible repeat first | apply pN_ | apply pD_ | apply pA_); refine blk_put (cs := #[.int .i64 0, .int .i64 0, .int .i64 0, .int .i64 17, .string (⟨#[115, 115, 115, 115, 115, 115, 115, 115, 115, 115, 115, 115, 115, 115, 115, 115]⟩ : ByteArray), .string (⟨#[]⟩ : ByteArray), .slice none 0 0]) ?_ 5 _ rfl; (with_reducible repeat first | apply pN_ | apply pD_ | apply pA_); refine blk_put (cs := #[.int .i64 0, .int .i64 0, .int .i64 0, .int .i64 17, .string (⟨#[]⟩ : ByteArray), .string (⟨#[]⟩ : ByteArray), .slice none 0 0]) ?_ 4 _ rfl; (with_reducible repeat first | apply pN_ | apply pD_ | apply pA_); refine blk_put (cs := #[.int .i64 0, .int .i64 0, .int .i64 0, .int .i64 0, .string (⟨#[]⟩ : ByteArray), .string (⟨#[]⟩ : ByteArray), .slice none 0 0]) ?_ 3 _ rfl; (with_reducible repeat first | apply pN_ | apply pD_ | apply pA_); refine blk_put (cs := #[.int .i64 0, .int .i64 0, .int .i64 0, .int .i64 0, .string (⟨#[]⟩ : ByteArray), .string (⟨#[]⟩ : ByteArray), .slice none 0 0]) ?_ 2 _ rfl; (with_reducible repeat first | apply pN_ | apply pD_ | apply pA_); refine blk_put (cs := #[.int .i64 0, .int .i64 0, .int .i64 0, .int .i64 0, .string (⟨#[]⟩ : ByteArray), .string (⟨#[]⟩ : ByteArray), .slice none 0 0]) ?_ 1 _ rfl; (with_reducible repeat first | apply pN_ | apply pD_ | apply pA_); refine blk_put (cs := #[.int .i64 0, .int .i64 0, .int .i64 0, .int .i64 0, .string (⟨#[]⟩ : ByteArray), .string (⟨#[]⟩ : ByteArray), .slice none 0 0]) ?_ 0 _ rfl; (with_reducible repeat first | apply pN_ | apply pD_ | apply pA_); exact BK104.out) hb); have n2_ := Aside0.mk (below_step (bU_ HB.out) hb); clear HO103; clear BK104; clear HB; have HO103 := n0_; have BK104 := n1_; have HB := n2_; clear n0_ n1_ n2_; (try clear hb); (try clear hb2); (try clear hk); (try clear hi)) | ((with_reducible refine gate_callee (f := 9) rfl ?_); refine gL_ (some 17) rfl rfl Try.func9 (by kernel_rfl) rfl #[.string t105] rfl ?_; (with_reducible refine (ipsix_Take.calls k t105 t107 t108 t109 t110 t111 t112 t113 t116 t117 _ A2.out).mono ?_); rintro e w16 ⟨v114, rfl, ho0, hb⟩; refine ⟨_, rfl, ?_⟩; have n0_ := Aside0.mk (Kd.R_elder' (by (with_reducible repeat first | apply Kd.R_alloc | apply Kd.R_drewN | apply Kd.R_drew); exact HO103.out) (Kd.R_base ho0) hb); have n1_ := Aside0.mk (Kd.R_lower (Kd.R_new' ho0 (Kd.R_lt (by (with_reducible repeat first | apply Kd.R_alloc | apply Kd.R_drewN | apply Kd.R_drew); exact HO103.out))) (below_size (bU_ HB.out))); have n2_ := Aside0.mk (blk_below (g := gb104) (o := .cells #[.int .i64 0, .int .i64 0, .int .i64 0, .int .i64 17, .string (⟨#[115, 115, 115, 115, 115, 115, 115, 115, 115, 115, 115, 115, 115, 115, 115, 115]⟩ : ByteArray), .string (⟨#[100, 100, 100, 100, 100, 100, 100, 100, 100, 100, 100, 100, 100, 100, 100, 100]⟩ : ByteArray), .slice Ao12 y101.length co12] 25 (0, 0)) (by (with_reducible repeat first | apply pN_ | apply pD_ | apply pA_); exact BK104.out) hb); have n3_ := Aside0.mk (below_step (bU_ HB.out) hb); clear HO103; clear BK104; clear HB; have HO103 := n0_; have HO115 := n1_; have BK104 := n2_; have HB := n3_; clear n0_ n1_ n2_ n3_; (try clear hb); (try clear hb2); (try clear hk); (try clear hi); (try clear ho0)) | ((with_reducible refine gate_dst (N := 4) rfl ?_); (try (refine gate_guard (by rfl) ?_; dsimp only)); refine box_event ?hg (N := 4) ?hd (cs := #[.int .i64 0, .int .i64 0, .int .i64 0, .int .i64 0, .string (⟨#[]⟩ : ByteArray), .string (⟨#[]⟩ : ByteArray), .slice none 0 0]) (t := 25) ?hr ?_; (case hd => rfl); (case hg => rfl); (case hr => first | (go_simp; done) | (go_simp; rfl)); intro gb118 hg w17 hbox hb; have n0_ := Aside0.mk (Kd.R_below (by (with_reducible repeat first | apply Kd.R_alloc | apply Kd.R_drewN | apply Kd.R_drew); exact HO103.out) hb); have n1_ := Aside0.mk (Kd.R_below (by (with_reducible repeat first | apply Kd.R_alloc | apply Kd.R_drewN | apply Kd.R_drew); exact HO115.out) hb); have n2_ := Aside0.mk (blk_below (g := gb104) (o := .cells #[.int .i64 0, .int .i64 0, .int .i64 0, .int .i64 17, .string (⟨#[115, 115, 115, 115, 115, 115, 115, 115, 115, 115, 115, 115, 115, 115, 115, 115]⟩ : ByteArray), .string (⟨#[100, 100, 100, 100, 100, 100, 100, 100, 100, 100, 100, 100, 100, 100, 100, 100]⟩ : ByteArray), .slice Ao12 y101.length co12] 25 (0, 0)) (by (with_reducible repeat first | apply pN_ | apply pD_ | apply pA_); exact BK104.out) hb); have n3_ := Aside0.mk (below_step (bU_ HB.out) hb); have n4_ := Aside0.mk (hbox); have n5_ := Aside0.mk ((by rw [hg]; exact (below_size (bU_ HB.out)) : w.heap.size ≤ gb118)); have n6_ := Aside0.mk ((by rw [hg]; exact (below_size (bU_ HB.out)) : w.heap.size ≤ gb118)); have n7_ := Aside0.mk ((by rw [hg]; exact Nat.ne_of_lt (blk_lt (g := gb104) (o := .cells #[.int .i64 0, .int .i64 0, .int .i64 0, .int .i64 17, .string (⟨#[115, 115, 115, 115, 115, 115, 115, 115, 115, 115, 115, 115, 115, 115, 115, 115]⟩ : ByteArray), .string (⟨#[100, 100, 100, 100, 100, 100, 100, 100, 100, 100, 100, 100, 100, 100, 100, 100]⟩ : ByteArray), .slice Ao12 y101.length co12] 25 (0, 0)) (by (with_reducible repeat first | apply pN_ | apply pD_ | apply pA_); exact BK104.out)) : gb104 ≠ gb118)); have n8_ := Aside0.mk ((by rw [hg]; exact Nat.ne_of_gt (blk_lt (g := gb104) (o := .cells #[.int .i64 0, .int .i64 0, .int .i64 0, .int .i64 17, .string (⟨#[115, 115, 115, 115, 115, 115, 115, 115, 115, 115, 115, 115, 115, 115, 115, 115]⟩ : ByteArray), .string (⟨#[100, 100, 100, 100, 100, 100, 100, 100, 100, 100, 100, 100, 100, 100, 100, 100]⟩ : ByteArray), .slice Ao12 y101.length co12] 25 (0, 0)) (by (with_reducible repeat first | apply pN_ | apply pD_ | apply pA_); exact BK104.out)) : gb118 ≠ gb104)); clear HO103; clear HO115; clear BK104; clear HB; have HO103 := n0_; have HO115 := n1_; have BK104 := n2_; have HB := n3_; have BK118 := n4_; have GW118 := n5_; have GE118 := n6_; have NB104_118 := n7_; have NB118_104 := n8_; clear n0_ n1_ n2_ n3_ n4_ n5_ n6_ n7_ n8_; clear hb hbox hg; have hnb18 := NB118_104.out; have hnc18 := NB104_118.out; have hcz19_0 : w17.cell? ⟨gb118, 0, none⟩ = some (.int .i64 0) := (blk_cell BK118.out 0).trans rfl; have hcz19_1 : w17.cell? ⟨gb118, 1, none⟩ = some (.int .i64 0) := (blk_cell BK118.out 1).trans rfl; have hcz19_2 : w17.cell? ⟨gb118, 2, none⟩ = some (.int .i64 0) := (blk_cell BK118.out 2).trans rfl; have hcz19_3 : w17.cell? ⟨gb118, 3, none⟩ = some (.int .i64 0) := (blk_cell BK118.out 3).trans rfl; have hcz19_4 : w17.cell? ⟨gb118, 4, none⟩ = some (.string (⟨#[]⟩ : ByteArray)) := (blk_cell BK118.out 4).trans rfl; have hcz19_5 : w17.cell? ⟨gb118, 5, none⟩ = some (.string (⟨#[]⟩ : ByteArray)) := (blk_cell BK118.out 5).trans rfl; have hcz19_6 : w17.cell? ⟨gb118, 6, none⟩ = some (.slice none 0 0) := (blk_cell BK118.out 6).trans rfl; have hfz19_0 := blk_frozen BK118.out 0; have hfz19_1 := blk_frozen BK118.out 1; have hfz19_2 := blk_frozen BK118.out 2; have hfz19_3 := blk_frozen BK118.out 3; have hfz19_4 := blk_frozen BK118.out 4; have hfz19_5 := blk_frozen BK118.out 5; have hfz19_6 := blk_frozen BK118.out 6; obtain ⟨Ao20, co20, eo20⟩ := Kd.R_slice HO115.out; subst eo20) | (go_at_call 13; (with_reducible refine (ipsix_Piece.calls k t107 t108 t109 t110 t111 t112 _ _ t113 t119 _ ?side1 ?side2 A9.out).mono ?_); (case side1 => refine (Kd.R_reads' (e := 49) (base := w.heap.size) (ok := fun k_ => (True ∧ some k_ ≠ (.slice Ao12 y101.length co12 : Value).ownBlock)) (n := t113.length) (c := co20) ?_).2.2; exact (by (with_reducible repeat first | apply Kd.R_alloc | apply Kd.R_drewN | apply Kd.R_drew); exact (Kd.R_mono (Kd.R_far (p := ⟨gb118, 6, none⟩) (Kd.R_far (p := ⟨gb118, 5, none⟩) (Kd.R_far (p := ⟨gb118, 4, none⟩) (Kd.R_far (p := ⟨gb118, 3, none⟩) (Kd.R_far (p := ⟨gb118, 2, none⟩) (Kd.R_far (p := ⟨gb118, 1, none⟩) (Kd.R_far (p := ⟨gb118, 0, none⟩) (Kd.R_types HO115.out BK118.out (by decide)) (fun _ hk => hk.2) (.int .i64 t107)) (fun _ hk => hk.2) (.int .i64 t108)) (fun _ hk => hk.2) (.int .i64 t109)) (fun _ hk => hk.2) (.int .i64 t110)) (fun _ hk => hk.2) (.string t111)) (fun _ hk => hk.2) (.string t112)) (fun _ hk => hk.2) (.slice Ao20 t113.length co20)) (fun _ h_ => h_.1)))); (case side2 => exact (Kd.R_reads' HO115.out).2.1); rintro e w21 ⟨rfl, hb⟩; have n0_ := Aside0.mk (Kd.R_below (by (with_reducible repeat first | apply Kd.R_alloc | apply Kd.R_drewN | apply Kd.R_drew); exact (Kd.R_mono (Kd.R_far (p := ⟨gb118, 6, none⟩) (Kd.R_far (p := ⟨gb118, 5, none⟩) (Kd.R_far (p := ⟨gb118, 4, none⟩) (Kd.R_far (p := ⟨gb118, 3, none⟩) (Kd.R_far (p := ⟨gb118, 2, none⟩) (Kd.R_far (p := ⟨gb118, 1, none⟩) (Kd.R_far (p := ⟨gb118, 0, none⟩) (Kd.R_types HO103.out BK118.out (by decide)) (fun _ hk => hk.2) (.int .i64 t107)) (fun _ hk => hk.2) (.int .i64 t108)) (fun _ hk => hk.2) (.int .i64 t109)) (fun _ hk => hk.2) (.int .i64 t110)) (fun _ hk => hk.2) (.string t111)) (fun _ hk => hk.2) (.string t112)) (fun _ hk => hk.2) (.slice Ao20 t113.length co20)) (fun _ h_ => h_.1))) hb); have n1_ := Aside0.mk (Kd.R_below (by (with_reducible repeat first | apply Kd.R_alloc | apply Kd.R_drewN | apply Kd.R_drew); exact (Kd.R_mono (Kd.R_far (p := ⟨gb118, 6, none⟩) (Kd.R_far (p := ⟨gb118, 5, none⟩) (Kd.R_far (p := ⟨gb118, 4, none⟩) (Kd.R_far (p := ⟨gb118, 3, none⟩) (Kd.R_far (p := ⟨gb118, 2, none⟩) (Kd.R_far (p := ⟨gb118, 1, none⟩) (Kd.R_far (p := ⟨gb118, 0, none⟩) (Kd.R_types HO115.out BK118.out (by decide)) (fun _ hk => hk.2) (.int .i64 t107)) (fun _ hk => hk.2) (.int .i64 t108)) (fun _ hk => hk.2) (.int .i64 t109)) (fun _ hk => hk.2) (.int .i64 t110)) (fun _ hk => hk.2) (.string t111)) (fun _ hk => hk.2) (.string t112)) (fun _ hk => hk.2) (.slice Ao20 t113.length co20)) (fun _ h_ => h_.1))) hb); have n2_ := Aside0.mk (blk_below (g := gb104) (o := .cells #[.int .i64 0, .int .i64 0, .int .i64 0, .int .i64 17, .string (⟨#[115, 115, 115, 115, 115, 115, 115, 115, 115, 115, 115, 115, 115, 115, 115, 115]⟩ : ByteArray), .string (⟨#[100, 100, 100, 100, 100, 100, 100, 100, 100, 100, 100, 100, 100, 100, 100, 100]⟩ : ByteArray), .slice Ao12 y101.length co12] 25 (0, 0)) (by (with_reducible repeat first | apply pN_ | apply pD_ | apply pA_); refine blk_far ?_ NB104_118.out _; (with_reducible repeat first | apply pN_ | apply pD_ | apply pA_); refine blk_far ?_ NB104_118.out _; (with_reducible repeat first | apply pN_ | apply pD_ | apply pA_); refine blk_far ?_ NB104_118.out _; (with_reducible repeat first | apply pN_ | apply pD_ | apply pA_); refine blk_far ?_ NB104_118.out _; (with_reducible repeat first | apply pN_ | apply pD_ | apply pA_); refine blk_far ?_ NB104_118.out _; (with_reducible repeat first | apply pN_ | apply pD_ | apply pA_); refine blk_far ?_ NB104_118.out _; (with_reducible repeat first | apply pN_ | apply pD_ | apply pA_); refine blk_far ?_ NB104_118.out _; (with_reducible repeat first | apply pN_ | apply pD_ | apply pA_); exact BK104.out) hb); have n3_ := Aside0.mk (blk_below (g := gb118) (o := .cells #[.int .i64 t107, .int .i64 t108, .int .i64 t109, .int .i64 t110, .string t111, .string t112, .slice Ao20 t113.length co20] 25 (0, 0)) (by (with_reducible repeat first | apply pN_ | apply pD_ | apply pA_); refine blk_put (cs := #[.int .i64 t107, .int .i64 t108, .int .i64 t109, .int .i64 t110, .string t111, .string t112, .slice none 0 0]) ?_ 6 _ rfl; (with_reducible repeat first | apply pN_ | apply pD_ | apply pA_); refine blk_put (cs := #[.int .i64 t107, .int .i64 t108, .int .i64 t109, .int .i64 t110, .string t111, .string (⟨#[]⟩ : ByteArray), .slice none 0 0]) ?_ 5 _ rfl; (with_reducible repeat first | apply pN_ | apply pD_ | apply pA_); refine blk_put (cs := #[.int .i64 t107, .int .i64 t108, .int .i64 t109, .int .i64 t110, .string (⟨#[]⟩ : ByteArray), .string (⟨#[]⟩ : ByteArray), .slice none 0 0]) ?_ 4 _ rfl; (with_reducible repeat first | apply pN_ | apply pD_ | apply pA_); refine blk_put (cs := #[.int .i64 t107, .int .i64 t108, .int .i64 t109, .int .i64 0, .string (⟨#[]⟩ : ByteArray), .string (⟨#[]⟩ : ByteArray), .slice none 0 0]) ?_ 3 _ rfl; (with_reducible repeat first | apply pN_ | apply pD_ | apply pA_); refine blk_put (cs := #[.int .i64 t107, .int .i64 t108, .int .i64 0, .int .i64 0, .string (⟨#[]⟩ : ByteArray), .string (⟨#[]⟩ : ByteArray), .slice none 0 0]) ?_ 2 _ rfl; (with_reducible repeat first | apply pN_ | apply pD_ | apply pA_); refine blk_put (cs := #[.int .i64 t107, .int .i64 0, .int .i64 0, .int .i64 0, .string (⟨#[]⟩ : ByteArray), .string (⟨#[]⟩ : ByteArray), .slice none 0 0]) ?_ 1 _ rfl; (with_reducible repeat first | apply pN_ | apply pD_ | apply pA_); refine blk_put (cs := #[.int .i64 0, .int .i64 0, .int .i64 0, .int .i64 0, .string (⟨#[]⟩ : ByteArray), .string (⟨#[]⟩ : ByteArray), .slice none 0 0]) ?_ 0 _ rfl; (with_reducible repeat first | apply pN_ | apply pD_ | apply pA_); exact BK118.out) hb); have n4_ := Aside0.mk (below_step (bU_ HB.out) hb); clear HO103; clear HO115; clear BK104; clear BK118; clear HB; have HO103 := n0_; have HO115 := n1_; have BK104 := n2_; have BK118 := n3_; have HB := n4_; clear n0_ n1_ n2_ n3_ n4_; (try clear hb); (try clear hb2); (try clear hk); (try clear hi)))
       go_ret
       exact ⟨by first | rfl | (simp [errW_none, errW_some] <;> rfl) | (simp [*, errW_none, errW_some] <;> rfl), bU_ HB.out⟩
      ·rw [if_neg c8] at H
       obtain rfl := Option.some.inj H
       exact absurd hrt.out (by decide)
     ·rw [if_neg c7] at H
      obtain rfl := Option.some.inj H
      exact absurd hrt.out (by decide)
    ·rw [if_neg c6] at H
     obtain rfl := Option.some.inj H
     exact absurd hrt.out (by decide)
   ·rw [if_neg c5] at H
    obtain rfl := Option.some.inj H
    exact absurd hrt.out (by decide)
  ·rw [if_neg c4] at H
   obtain rfl := Option.some.inj H
   exact absurd hrt.out (by decide)
 ·rw [if_neg c3] at H
  obtain rfl := Option.some.inj H
  exact absurd hrt.out (by decide)

/-! ### rillmeterref04_Number: function 23 -/
def rillmeterref04_Number.l0 : Nat → ByteArray → Int → Int → Option (Int)
 | 0, _, _, _ => none
 | k + 1, x0, x3, x4 => if x4 < (x0.size : Int) then (if 0 ≤ x4 then (rillmeterref04_Number.l0 k x0 (wrap64 ((wrap64 (256 * x3)) + (wrap64 (bt x0 x4)))) (wrap64 (x4 + 1))) else (none)) else (some x3)
def rillmeterref04_Number.f (k : Nat) (a0 : ByteArray) : Option (Int) := rillmeterref04_Number.l0 k a0 0 0
theorem rillmeterref04_Number.mono_l : ∀ k, (∀ y0 y1 y2, LeO (rillmeterref04_Number.l0 k y0 y1 y2) (rillmeterref04_Number.l0 (k + 1) y0 y1 y2))
 | 0 => fun _ _ _ r h => by simp [rillmeterref04_Number.l0] at h
 | k + 1 => by
  have ih0 := rillmeterref04_Number.mono_l k
  ·intro y0 y1 y2
   unfold rillmeterref04_Number.l0
   repeat' first
   | (with_reducible exact ih0 _ _ _)
   | (with_reducible exact LeO.refl _)
   | (with_reducible exact LeO.none _)
   | (with_reducible refine LeO.ite ?_ ?_)
   | (with_reducible refine LeO.bind ?_ (fun _ => ?_))
   | exact ih0 _ _ _
   | exact LeO.none _
   | refine LeO.ite ?_ ?_
   | refine LeO.bind ?_ (fun _ => ?_)
theorem rillmeterref04_Number.mono : ∀ a0 k, LeO (rillmeterref04_Number.f k a0) (rillmeterref04_Number.f (k + 1) a0) := by
 intro a0 k
 have ih0 := rillmeterref04_Number.mono_l k
 unfold rillmeterref04_Number.f
 repeat' first
   | (with_reducible exact ih0 _ _ _)
   | (with_reducible exact LeO.refl _)
   | (with_reducible exact LeO.none _)
   | (with_reducible refine LeO.ite ?_ ?_)
   | (with_reducible refine LeO.bind ?_ (fun _ => ?_))
   | exact ih0 _ _ _
   | exact LeO.none _
   | refine LeO.ite ?_ ?_
   | refine LeO.bind ?_ (fun _ => ?_)
set_option maxHeartbeats 8000000 in
set_option maxRecDepth 100000 in
theorem rillmeterref04_Number.calls (k : Nat) (a0 : ByteArray) (r : Int) (w : World) (h : rillmeterref04_Number.f k a0 = some r) :
  Calls Try.prog 23 #[.string a0] w fun e w' => e = .returned (.int .i64 r) ∧ Drawn0 w w' := by
 have H : (rillmeterref04_Number.l0 k a0 0 0) = some r := h
 clear h
 have H' := Aside0.mk H
 clear H
 go_enter Try.func23, Try.ntmps23
 go_wp2
 go_loopg [3, 4] k (fun kq v3 v4 w' => ∃ (x3_1 : Int) (x4_1 : Int), v3 = .int .i64 x3_1 ∧ v4 = .int .i64 x4_1 ∧ Aside0 (rillmeterref04_Number.l0 kq a0 x3_1 x4_1 = some r) ∧ Aside0 (kq ≤ k) ∧ Drawn0 w w')
 case atStart => exact ⟨(0), (0), (by first | rfl | (simp; done) | (simp [*]; done)), (by first | rfl | (simp; done) | (simp [*]; done)), H', ⟨Nat.le_refl _⟩, by repeat (first | exact Drawn0.refl _ | apply Drawn0.step)⟩
 case round =>
  clear H'
  obtain ⟨x3_1, x4_1, rfl, rfl, HA, HK1, ⟨m1, rfl⟩⟩ := hrel
  cases gk with
  | zero => exact absurd HA.out (by simp [rillmeterref04_Number.l0])
  | succ k1 =>
   have H := HA.out
   clear HA
   simp only [rillmeterref04_Number.l0] at H
   by_cases c2 : x4_1 < (a0.size : Int)
   ·rw [if_pos c2] at H
    have c2b0 : decide (x4_1 < (a0.size : Int)) = true := decide_eq_true c2
    clear c2
    by_cases c3 : 0 ≤ x4_1
    ·rw [if_pos c3] at H
     have c3b0 : decide (0 ≤ x4_1) = true := decide_eq_true c3
     clear c3
     have H' := Aside0.mk H
     clear H
     have p4 : 0 ≤ (x4_1 : Int) := of_decide_eq_true (by first | (with_reducible assumption) | assumption)
     have q4 : x4_1 < (a0.size : Int) := of_decide_eq_true (by first | (with_reducible assumption) | assumption)
     have hx4 := bt_at a0 x4_1
     replace p4 := eq_true p4
     replace q4 := eq_true q4
     go_wp2
     go_roundg k1
     case measure => have := HK1.out; omega
     case rel => exact ⟨(wrap64 ((wrap64 (256 * x3_1)) + (wrap64 (bt a0 x4_1)))), (wrap64 (x4_1 + 1)), (by first | rfl | (simp; done) | (simp [*]; done)), (by first | rfl | (simp; done) | (simp [*]; done)), H', ⟨by have := HK1.out; omega⟩, by repeat (first | exact Drawn0.refl _ | apply Drawn0.step)⟩
    ·rw [if_neg c3] at H
     exact absurd H (by simp)
   ·rw [if_neg c2] at H
    have c2b0 : decide (x4_1 < (a0.size : Int)) = false := decide_eq_false c2
    clear c2
    obtain rfl := Option.some.inj H
    go_wp2
    go_ret
    exact ⟨by first | rfl | (simp; done) | (simp [*]; done), by repeat (first | exact Drawn0.refl _ | apply Drawn0.step)⟩

/-! ### rillmeterref07_extension: function 24 -/
def rillmeterref07_extension.f (a0 : Int) : Option (Bool) := if a0 = 0 then (some true) else (if a0 = 43 then (some true) else (if a0 = 44 then (some true) else (some (a0 == 60))))
set_option maxHeartbeats 8000000 in
set_option maxRecDepth 100000 in
theorem rillmeterref07_extension.calls (a0 : Int) (r : Bool) (w : World) (h : rillmeterref07_extension.f a0 = some r) :
  Calls Try.prog 24 #[.int .i64 a0] w fun e w' => e = .returned (.bool r) ∧ Drawn0 w w' := by
 have H : (if a0 = 0 then (some true) else (if a0 = 43 then (some true) else (if a0 = 44 then (some true) else (some (a0 == 60))))) = some r := h
 clear h
 by_cases c2 : a0 = 0
 ·rw [if_pos c2] at H
  have c2b0 : (a0 == 0) = true := beq_iff_eq.mpr c2
  have c2b1 : (a0 != 0) = false := bne_eq_false_iff_eq.mpr c2
  clear c2
  obtain rfl := Option.some.inj H
  go_enter Try.func24, Try.ntmps24
  go_wp2
  go_ret
  exact ⟨by first | rfl | (simp; done) | (simp [*]; done), by repeat (first | exact Drawn0.refl _ | apply Drawn0.step)⟩
 ·rw [if_neg c2] at H
  have c2b0 : (a0 == 0) = false := beq_eq_false_iff_ne.mpr c2
  have c2b1 : (a0 != 0) = true := bne_iff_ne.mpr c2
  by_cases c3 : a0 = 43
  ·rw [if_pos c3] at H
   have c3b0 : (a0 == 43) = true := beq_iff_eq.mpr c3
   have c3b1 : (a0 != 43) = false := bne_eq_false_iff_eq.mpr c3
   clear c3
   obtain rfl := Option.some.inj H
   go_enter Try.func24, Try.ntmps24
   go_wp2
   go_ret
   exact ⟨by first | rfl | (simp; done) | (simp [*]; done), by repeat (first | exact Drawn0.refl _ | apply Drawn0.step)⟩
  ·rw [if_neg c3] at H
   have c3b0 : (a0 == 43) = false := beq_eq_false_iff_ne.mpr c3
   have c3b1 : (a0 != 43) = true := bne_iff_ne.mpr c3
   by_cases c4 : a0 = 44
   ·rw [if_pos c4] at H
    have c4b0 : (a0 == 44) = true := beq_iff_eq.mpr c4
    have c4b1 : (a0 != 44) = false := bne_eq_false_iff_eq.mpr c4
    clear c4
    obtain rfl := Option.some.inj H
    go_enter Try.func24, Try.ntmps24
    go_wp2
    go_ret
    exact ⟨by first | rfl | (simp; done) | (simp [*]; done), by repeat (first | exact Drawn0.refl _ | apply Drawn0.step)⟩
   ·rw [if_neg c4] at H
    have c4b0 : (a0 == 44) = false := beq_eq_false_iff_ne.mpr c4
    have c4b1 : (a0 != 44) = true := bne_iff_ne.mpr c4
    obtain rfl := Option.some.inj H
    go_enter Try.func24, Try.ntmps24
    go_wp2
    go_ret
    exact ⟨by first | rfl | (simp; done) | (simp [*]; done), by repeat (first | exact Drawn0.refl _ | apply Drawn0.step)⟩

end Go.Proofs.Ytmjpemnlilcpkaa.Q
