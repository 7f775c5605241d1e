/- The meter's Tick, its parts together. -/
import Derived.Test.YtkikpolmfaiabaaGreatDoorClk4
namespace Go.Proofs.YtkikpolmfaiabaaGreatDoor
open Go.Run Go
namespace Clk
set_option maxRecDepth 100000
/-- a bank and a queue that were made in turn, put into the meter -/
theorem made {B0 : Option Blk} {σ : St} {mp q b : Nat} {len clk : Int} {cv : CV} (h0 : σ.get 0 = B0) (hp : 0 < mp) (hlt : mp < σ.next) (hm : σ.get mp = some (.cells (mC len clk b cv) 116 true))
    (hq : ∃ j l, cv = .slice (some (j, 0)) q (.to (4 + 1)) ∧ 0 < j ∧ j < σ.next ∧ j ≠ mp ∧ σ.get j = some (.cells l 66 false) ∧ l.length = q * (4 + 1)) :
    MAt B0 ((pushAll σ (bankB σ.next)).put mp (.cells (mC len clk σ.next cv) 116 true)) mp len clk q := by
  have hn : ((pushAll σ (bankB σ.next)).put mp (.cells (mC len clk σ.next cv) 116 true)).next = σ.next + 14 := by
    rw [St.next_put, pushAll_next, bankB_len]
  refine ⟨σ.next, cv, ?_, hp, by rw [hn]; omega, by omega, by rw [hn]; exact Nat.le_refl _, .inl hlt, ?_, ?_, ?_⟩
  · rw [St.get_put, if_neg (by omega), pushAll_old (by omega)]; exact h0
  · rw [St.get_put, if_pos rfl]
  · intro k blk hk
    rw [St.get_put, if_neg (by omega)]
    exact pushAll_new hk
  · obtain ⟨j, l, h1, h2, h3, h4, h5, h6⟩ := hq
    exact .inr ⟨j, l, h1, h2, by rw [hn]; omega, h4, .inl h3, by rw [St.get_put, if_neg h4, pushAll_old h3]; exact h5, h6⟩
theorem tick6 {B0 : Option Blk} {n mp b q j0 : Nat} {σ : St} {len clk ep : Int} {cv : CV} {t5 : AV} (h0 : σ.get 0 = B0) (hp : 0 < mp) (hlt : mp < σ.next) (hm : σ.get mp = some (.cells (mC len clk b cv) 116 true))
    (hQ : QAt σ mp b cv q) (hq : q < 60) (hj : σ.get j0 = some (pieceB ep)) (hjlt : j0 < σ.next) (hjm : j0 ≠ mp) :
    ∃ σ', K14_6 M (cc (n + 1)) (P mp 0) t5 (.one (st j0 0 1 5)) σ = some (B true, σ') ∧ MAt B0 σ' mp len clk (q + 1) := by
  obtain ⟨p, cap, hcv⟩ : ∃ p cap, cv = .slice p q cap := by
    rcases hQ with ⟨rfl, rfl⟩ | ⟨j, l, rfl, _⟩
    · exact ⟨none, .ex 0, rfl⟩
    · exact ⟨_, _, rfl⟩
  -- the queue, a piece longer
  have happ : ∃ σ3 j' l', appendTo 66 5 p q cap 1 (pieceC ep) σ = .st (.one (.slice (some (j', 0)) (q + 1) (.to (4 + 1)))) σ3 ∧ σ3.get 0 = B0 ∧ mp < σ3.next ∧ σ3.get mp = some (.cells (mC len clk b cv) 116 true) ∧
      0 < j' ∧ j' < σ3.next ∧ j' ≠ mp ∧ σ3.get j' = some (.cells l' 66 false) ∧ l'.length = (q + 1) * (4 + 1) := by
    rcases hQ with ⟨h1, rfl⟩ | ⟨j, l, h1, h2, h3, h4, h5, h6, h7⟩
    · rw [h1] at hcv
      cases hcv
      refine ⟨σ.push (.cells (pieceC ep) 66 false), σ.next, pieceC ep, append_nil, ?_, ?_, ?_, by omega, ?_, by omega, ?_, rfl⟩
      · rw [St.get_push, if_neg (by omega)]; exact h0
      · rw [St.next_push]; omega
      · rw [St.get_push, if_neg (by omega)]; exact hm
      · rw [St.next_push]; omega
      · rw [St.get_push, if_pos rfl]
    · rw [h1] at hcv
      cases hcv
      refine ⟨(σ.kill j).push (.cells (l ++ pieceC ep) 66 false), σ.next, l ++ pieceC ep, append_full h6 h7 (by omega), ?_, ?_, ?_, by omega, ?_, by omega, ?_, ?_⟩
      · rw [get_kp, if_neg (by omega), if_neg (by omega)]; exact h0
      · rw [St.next_push, St.next_kill]; omega
      · rw [get_kp, if_neg (by omega), if_neg (fun e => h4 e.symm)]; exact hm
      · rw [St.next_push, St.next_kill]; omega
      · rw [get_kp, if_pos rfl]
      · rw [List.length_append, h7]; show q * 5 + 5 = _; omega
  obtain ⟨σ3, j', l', ha, g0, glt, gm, gj0, gjlt, gjm, gj, gl⟩ := happ
  refine ⟨_, Yl.eq (v := B true) (σ' := (pushAll (σ3.put mp (.cells (mC len clk b (.slice (some (j', 0)) (q + 1) (.to (4 + 1)))) 116 true)) (bankB σ3.next)).put mp (.cells (mC len clk σ3.next (.slice (some (j', 0)) (q + 1) (.to (4 + 1)))) 116 true)) ?_, ?_⟩
  · subst hcv
    unfold K14_6
    refine y_val nilP ?_
    refine y_val fa4 ?_
    refine y_val (o_ld hm rfl (partA_one ty57 (n41 ..))) ?_
    refine y_val (o_len un57) ?_
    refine y_val (o_len un57) ?_
    refine y_val o_add ?_
    rw [wrap_id (by omega) (by omega)]
    refine y_val o_gtr ?_
    refine y_iff (decide_eq_false (by omega)) ?_
    refine y_val nilP ?_
    refine y_val fa4 ?_
    refine y_val (o_ld hm rfl (partA_one ty57 (n41 ..))) ?_
    refine y_st ((append_piece hj hq).trans ha) ?_
    refine y_val nilP ?_
    refine y_val fa4 ?_
    refine y_st (o_st gm rfl sz57 rfl (over41 ..)) ?_
    refine y_of (tick7 (b := b) (len := len) (clk := clk) (cv := .slice (some (j', 0)) (q + 1) (.to (4 + 1))) (by rw [St.get_put, if_pos rfl]) (by rw [St.next_put]; exact glt)) ?_
    exact ⟨rfl, rfl⟩
  · have := made (B0 := B0) (σ := σ3.put mp (.cells (mC len clk b (.slice (some (j', 0)) (q + 1) (.to (4 + 1)))) 116 true)) (mp := mp) (q := q + 1) (b := b) (len := len) (clk := clk) (cv := .slice (some (j', 0)) (q + 1) (.to (4 + 1)))
      (by rw [St.get_put, if_neg (by omega)]; exact g0) hp (by rw [St.next_put]; exact glt) (by rw [St.get_put, if_pos rfl]) ⟨j', l', rfl, gj0, by rw [St.next_put]; exact gjlt, gjm, by rw [St.get_put, if_neg gjm]; exact gj, gl⟩
    exact this

/-- The clock is read. -/
theorem tick_run {B0 : Option Blk} {n mp q : Nat} {σ : St} {len clk r : Int} (h : MAt B0 σ mp len clk q) (hlen : 1 ≤ len) (h1 : 0 ≤ clk) (h2 : clk ≤ 4294967296) (hq : q < 60) :
    ∃ σ' q', cc (n + 2) 14 [P mp 0, I r] σ = some (B (!(max clk (min r 4294967296) / len == clk / len)), σ') ∧ MAt B0 σ' mp len (max clk (min r 4294967296)) q' ∧ q' ≤ q + 1 := by
  obtain ⟨b, cv, g0, gp, glt, gb, gbn, gmb, gm, gB, gQ⟩ := h
  generalize hc : max clk (min r 4294967296) = c
  have c1 : 0 ≤ c := by omega
  have c2 : c ≤ 4294967296 := by omega
  have gm1 : (σ.put mp (.cells (mC len c b cv) 116 true)).get mp = some (.cells (mC len c b cv) 116 true) := by rw [St.get_put, if_pos rfl]
  have gB1 : BankAt b (σ.put mp (.cells (mC len c b cv) 116 true)) := fun k blk hk => by
    have := bank_lt hk
    rw [St.get_put, if_neg (by omega)]; exact gB k blk hk
  have gQ1 : QAt (σ.put mp (.cells (mC len c b cv) 116 true)) mp b cv q := by
    rcases gQ with h | ⟨j, l, k1, k2, k3, k4, k5, k6, k7⟩
    · exact .inl h
    · exact .inr ⟨j, l, k1, k2, k3, k4, k5, by rw [St.get_put, if_neg k4]; exact k6, k7⟩
  have step : ∀ (Q : AV → St → Prop), Yl (K14_4 M (cc (n + 1)) (P mp 0) (I (clk / len)) (σ.put mp (.cells (mC len c b cv) 116 true))) Q → Yl (K14_0 M (cc (n + 1)) (P mp 0) (I r) σ) Q := by
    intro Q hQ
    unfold K14_0 K14_1
    refine y_val eq23 ?_
    refine y_iff rfl ?_
    unfold K14_2
    refine y_cal rfl (epoch_run gm rfl rfl hlen h1 h2) ?_
    unfold K14_3
    refine y_val nilP ?_
    refine y_val fa2 ?_
    refine y_val (o_ld gm rfl (partA_one ty3 rfl)) ?_
    refine y_val o_min ?_
    refine y_val o_max ?_
    rw [hc]
    refine y_val nilP ?_
    refine y_val fa2 ?_
    refine y_st (o_st gm rfl sz3 rfl (over2 ..)) ?_
    exact hQ
  cases he : (c / len == clk / len) with
  | true =>
    refine ⟨σ.put mp (.cells (mC len c b cv) 116 true), q, callK_body rfl Tryz.func14 (by kernel_rfl) ?_, ⟨b, cv, by rw [St.get_put, if_neg (by omega)]; exact g0, gp, glt, gb, gbn, gmb, gm1, gB1, gQ1⟩, by omega⟩
    rw [F14_eq]
    refine Yl.eq (step _ ?_)
    unfold K14_4
    refine y_cal rfl (epoch_run gm1 rfl rfl hlen c1 c2) ?_
    refine y_val o_eql ?_
    refine y_ift he ?_
    exact y_ret0 ⟨rfl, rfl⟩
  | false =>
    obtain ⟨σ', k1, k2⟩ := tick6 (B0 := B0) (n := n) (mp := mp) (b := b) (q := q) (j0 := σ.next) (σ := (σ.put mp (.cells (mC len c b cv) 116 true)).push (pieceB (clk / len))) (len := len) (clk := c) (ep := clk / len) (cv := cv) (t5 := I (clk / len))
      (by rw [St.get_push, St.next_put, if_neg (by omega), St.get_put, if_neg (by omega)]; exact g0) gp (by rw [St.next_push, St.next_put]; omega) (by rw [St.get_push, St.next_put, if_neg (by omega)]; exact gm1)
      (by
        rcases gQ1 with h | ⟨j, l, k1, k2, k3, k4, k5, k6, k7⟩
        · exact .inl h
        · exact .inr ⟨j, l, k1, k2, by rw [St.next_push]; omega, k4, k5, by rw [St.get_push, if_neg (by omega)]; exact k6, k7⟩) hq (by rw [St.get_push, St.next_put, if_pos rfl]) (by rw [St.next_push, St.next_put]; omega) (by omega)
    refine ⟨σ', q + 1, callK_body rfl Tryz.func14 (by kernel_rfl) ?_, k2, Nat.le_refl _⟩
    rw [F14_eq]
    refine Yl.eq (step _ ?_)
    unfold K14_4
    refine y_cal rfl (epoch_run gm1 rfl rfl hlen c1 c2) ?_
    refine y_val o_eql ?_
    refine y_iff he ?_
    unfold K14_5
    refine y_dval nilP ?_
    refine y_dval fa0 ?_
    refine y_dchk (o_ld gm1 rfl (partA_one ty3 rfl)) rfl ?_
    refine y_dval nilP ?_
    refine y_dval fa3 ?_
    refine y_dchk (o_ld gm1 rfl (partA_agg ty53 sz53 (ld53 ..))) rfl ?_
    refine y_dcall rfl (call_pieces gB1) ?_
    exact y_of k1 ⟨rfl, rfl⟩
end Clk
end Go.Proofs.YtkikpolmfaiabaaGreatDoor
