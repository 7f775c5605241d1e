/- The table of calls whose answers are known. -/
import Derived.Test.YtggjhmhjjghncaaGreatBld
import Derived.Test.YtggjhmhjjghncaaGreatAw
namespace Go.Proofs.YtggjhmhjjghncaaGreat
open Go.Run Go
namespace Oct
open Ty
set_option maxRecDepth 1000000
theorem hx : ExtOk (C M) := extOk M
theorem hg (g : Nat) : (C M).g.get .bad g = .bad := rfl
def putSpec (args : List AV) : Option AV := match args with
  | [.one (.int .i64 n), .one (.int .i64 k)] => if 1 ≤ k ∧ k ≤ 7 then some (.tup [S (beS k.toNat n), I (if fits k.toNat n = true then 0 else 1)]) else none
  | _ => none
def rputSpec (args : List AV) : Option AV := match args with
  | [.one (.int .i64 n), .one (.int .i64 k)] => if 1 ≤ k ∧ k ≤ 7 then some (.tup [S (beS k.toNat n), B (fits k.toNat n)]) else none
  | _ => none
def numSpec (args : List AV) : Option AV := match args with
  | [.one (.int .i64 n), .one (.int .i64 k)] => if 1 ≤ k ∧ k ≤ 7 then some (S (beS k.toNat n)) else none
  | _ => none
def withinSpec (args : List AV) : Option AV := match args with
  | [.one (.int .i64 a), .one (.int .i64 b), .one (.int .i64 c)] => some (B (decide (b ≤ a) && decide (a < c)))
  | _ => none
def inSpec (args : List AV) : Option AV := match args with
  | [.one (.int .i64 a), .one (.int .i64 b), .one (.int .i64 c)] => some (B (decide (b ≤ a) && decide (a ≤ c)))
  | _ => none
noncomputable def T1 : Tab := noTab.add 20 (flatS putSpec)
noncomputable def T2 : Tab := T1.add 24 (flatS rputSpec)
theorem T1_ok : TabOk (C M) T1 := TabOk.flat hx mixed hg (tabOk_none _) (tabOk_none _) fun args v h => by
  unfold putSpec at h
  split at h
  · rename_i n k
    split at h
    · rename_i hk
      cases h
      obtain ⟨kk, rfl⟩ : ∃ kk : Nat, k = (kk : Int) := ⟨k.toNat, by omega⟩
      obtain ⟨σ', hr⟩ := (put_run (k := kk) (n := n) (by omega) (by omega)).run
      exact ⟨rfl, rfl, 1, σ', hr⟩
    · cases h
  · cases h
theorem T2_ok : TabOk (C M) T2 := TabOk.flat hx mixed hg T1_ok (tabOk_none _) fun args v h => by
  unfold rputSpec at h
  split at h
  · rename_i n k
    split at h
    · rename_i hk
      cases h
      obtain ⟨kk, rfl⟩ : ∃ kk : Nat, k = (kk : Int) := ⟨k.toNat, by omega⟩
      obtain ⟨σ', hr⟩ := (rput_run (k := kk) (n := n) (by omega) (by omega)).run
      exact ⟨rfl, rfl, 2, σ', hr⟩
    · cases h
  · cases h
section
variable {tab : Tab} {m k : Nat} {n : Int} {σ : St}
theorem put_spec (h1 : 1 ≤ k) (h7 : k ≤ 7) : putSpec [I n, I (k : Nat)] = some (.tup [S (beS k n), I (if fits k n = true then 0 else 1)]) := by
  unfold putSpec I
  simp only
  rw [if_pos ⟨by omega, by omega⟩]; rfl
theorem rput_spec (h1 : 1 ≤ k) (h7 : k ≤ 7) : rputSpec [I n, I (k : Nat)] = some (.tup [S (beS k n), B (fits k n)]) := by
  unfold rputSpec I
  simp only
  rw [if_pos ⟨by omega, by omega⟩]; rfl
theorem num_spec (h1 : 1 ≤ k) (h7 : k ≤ 7) : numSpec [I n, I (k : Nat)] = some (S (beS k n)) := by
  unfold numSpec I
  simp only
  rw [if_pos ⟨by omega, by omega⟩]; rfl
end
noncomputable def T3 : Tab := T2.add 41 (flatS numSpec)
noncomputable def T4 : Tab := T3.add 45 (flatS numSpec)
theorem T3_ok : TabOk (C M) T3 := TabOk.flat hx mixed hg T2_ok T2_ok fun args v h => by
  unfold numSpec at h
  split at h
  · rename_i n k
    split at h
    · rename_i hk
      cases h
      obtain ⟨kk, rfl⟩ : ∃ kk : Nat, k = (kk : Int) := ⟨k.toNat, by omega⟩
      refine ⟨rfl, rfl, 2, σE, callK_body rfl Tryz.func41 (by kernel_rfl) ?_⟩
      rw [F41_eq]
      refine Yl.eq ?_
      unfold K41_0
      refine y_cal rfl (call_flat (t := T2) (n := 0) rfl (put_spec (k := kk) (n := n) (by omega) (by omega))) ?_
      refine y_val (rfl) ?_
      refine y_val (rfl) ?_
      exact y_ret0 ⟨rfl, rfl⟩
    · cases h
  · cases h
theorem T4_ok : TabOk (C M) T4 := TabOk.flat hx mixed hg T3_ok T2_ok fun args v h => by
  unfold numSpec at h
  split at h
  · rename_i n k
    split at h
    · rename_i hk
      cases h
      obtain ⟨kk, rfl⟩ : ∃ kk : Nat, k = (kk : Int) := ⟨k.toNat, by omega⟩
      refine ⟨rfl, rfl, 2, σE, callK_body rfl Tryz.func45 (by kernel_rfl) ?_⟩
      rw [F45_eq]
      refine Yl.eq ?_
      unfold K45_0
      refine y_cal rfl (call_flat (t := T2) (n := 0) rfl (rput_spec (k := kk) (n := n) (by omega) (by omega))) ?_
      refine y_val (rfl) ?_
      refine y_val (rfl) ?_
      exact y_ret0 ⟨rfl, rfl⟩
    · cases h
  · cases h
noncomputable def T5 : Tab := T4.add 68 (flatS withinSpec)
noncomputable def T6 : Tab := T5.add 46 (flatS inSpec)
theorem T5_ok : TabOk (C M) T5 := TabOk.flat hx mixed hg T4_ok (tabOk_none _) fun args v h => by
  unfold withinSpec at h
  split at h
  · rename_i a b c
    cases h
    refine ⟨rfl, rfl, 1, σE, callK_body rfl Tryz.func68 (by kernel_rfl) ?_⟩
    show enterK (C M) _ Tryz.f68 [I a, I b, I c] σE = _
    rw [F68_eq]
    refine Yl.eq ?_
    unfold K68_0
    refine y_val (o_geq) ?_
    by_cases h1 : a < b
    · rw [decide_eq_true h1, decide_eq_false (show ¬ b ≤ a by omega)]
      refine y_goff rfl ?_
      refine y_goff rfl ?_
      refine y_goff rfl ?_
      refine y_val (rfl) ?_
      exact y_ret0 ⟨rfl, rfl⟩
    · rw [decide_eq_false h1, decide_eq_true (show b ≤ a by omega)]
      refine y_gon rfl (rfl) ?_
      refine y_gon rfl (rfl) ?_
      refine y_gon rfl (o_lss) ?_
      refine y_val (rfl) ?_
      exact y_ret0 ⟨by rw [Bool.true_and]; rfl, rfl⟩
  · cases h
theorem T6_ok : TabOk (C M) T6 := TabOk.flat hx mixed hg T5_ok (tabOk_none _) fun args v h => by
  unfold inSpec at h
  split at h
  · rename_i a b c
    cases h
    refine ⟨rfl, rfl, 1, σE, callK_body rfl Tryz.func46 (by kernel_rfl) ?_⟩
    show enterK (C M) _ Tryz.f46 [I a, I b, I c] σE = _
    rw [F46_eq]
    refine Yl.eq ?_
    unfold K46_0
    refine y_val (o_geq) ?_
    by_cases h1 : a < b
    · rw [decide_eq_true h1, decide_eq_false (show ¬ b ≤ a by omega)]
      refine y_goff rfl ?_
      refine y_goff rfl ?_
      refine y_goff rfl ?_
      refine y_val (rfl) ?_
      exact y_ret0 ⟨rfl, rfl⟩
    · rw [decide_eq_false h1, decide_eq_true (show b ≤ a by omega)]
      refine y_gon rfl (rfl) ?_
      refine y_gon rfl (rfl) ?_
      refine y_gon rfl (o_leq) ?_
      refine y_val (rfl) ?_
      refine y_ret0 ⟨?_, rfl⟩
      show B (!decide (c < a)) = _
      rw [Bool.true_and]
      congr 1
      by_cases h2 : c < a
      · rw [decide_eq_true h2, decide_eq_false (show ¬ a ≤ c by omega)]; rfl
      · rw [decide_eq_false h2, decide_eq_true (show a ≤ c by omega)]; rfl
  · cases h

/-! The layouts. -/
def i (n : Int) : CV := .int .i64 n
def s (l : List UInt8) : CV := .str ⟨⟨l⟩⟩
def st (a b n c : Nat) : CV := .slice (some (a, b)) n (.to c)
def fieldsL : List CV := [i 1, i 4, i 9999, i 2, i 2, i 9999, i 3, i 2, i 9999, i 4, i 65535, i 9999]
def fldB : Blk := .cells fieldsL 41 false
def fldRB : Blk := .cells fieldsL 42 false
def layP (args : List AV) : Option (AV × List Blk × List Nat) := match args with
  | [] => some (.agg [i 300, st 10 0 4 3], [fldB], [10])
  | _ => none
def layR (args : List AV) : Option (AV × List Blk × List Nat) := match args with
  | [] => some (.agg [i 300, st 58 0 4 3], [fldRB], [58])
  | _ => none
theorem run_layP : (callK (C M) noTab M 9 [] σE).map (fun r => (r.1, [10].map r.2.get)) = some (.agg [i 300, st 10 0 4 3], [some fldB]) := by kernel_rfl
theorem run_layR : (callK (C M) noTab M 11 [] σE).map (fun r => (r.1, [58].map r.2.get)) = some (.agg [i 300, st 58 0 4 3], [some fldRB]) := by kernel_rfl
noncomputable def T7 : Tab := T6.add 9 (newB layP)
noncomputable def T8 : Tab := T7.add 11 (newB layR)
theorem T7_ok : TabOk (C M) T7 := TabOk.fresh hx mixed hg T6_ok (tabOk_none _) fun args v bs nu h => by
  unfold layP at h
  split at h
  · cases h
    obtain ⟨⟨v2, σ2⟩, h1, h2⟩ := Option.map_eq_some_iff.mp run_layP
    obtain ⟨h3, h4⟩ := Prod.mk.inj h2
    have h3 : v2 = _ := h3
    subst h3
    exact ⟨rfl, M, σ2, h1, h4, by decide, by kernel_rfl, by kernel_rfl⟩
  · cases h
theorem T8_ok : TabOk (C M) T8 := TabOk.fresh hx mixed hg T7_ok (tabOk_none _) fun args v bs nu h => by
  unfold layR at h
  split at h
  · cases h
    obtain ⟨⟨v2, σ2⟩, h1, h2⟩ := Option.map_eq_some_iff.mp run_layR
    obtain ⟨h3, h4⟩ := Prod.mk.inj h2
    have h3 : v2 = _ := h3
    subst h3
    exact ⟨rfl, M, σ2, h1, h4, by decide, by kernel_rfl, by kernel_rfl⟩
  · cases h

/-! Calls that look at blocks. -/
def tplB (fb : Nat) : Blk := .cells [i 300, st fb 0 4 3] 35 true
def setTB (tb : Nat) : Blk := .cells [i 2, st tb 0 1 2, s []] 83 true
def setDB (d : List UInt8) : Blk := .cells [i 300, .slice none 0 (.ex 0), s d] 83 true
def SetT (σ : St) (sb : Nat) : Prop := ∃ tb fb, σ.get sb = some (setTB tb) ∧ σ.get tb = some (tplB fb) ∧ σ.get fb = some fldB
open Classical in
noncomputable def conSpec (args : List AV) (σ : St) : Option AV :=
  if ∃ sb, args = [.one (st sb 0 1 3), fnV 70] ∧ (SetT σ sb ∨ ∃ d, σ.get sb = some (setDB d)) then some (B false) else none
theorem run_conT : (callK (C M) noTab M 69 [.one (st 0 0 1 3), fnV 70] (parts [setTB 1, tplB 2, fldB])).map Prod.fst = some (B false) := by kernel_rfl
theorem run_conD (d : List UInt8) : (callK (C M) noTab M 69 [.one (st 0 0 1 3), fnV 70] (parts [setDB d])).map Prod.fst = some (B false) := by kernel_rfl
theorem fst_of {r : Option (AV × St)} {v : AV} (h : r.map Prod.fst = some v) : ∃ τ, r = some (v, τ) := by
  obtain ⟨⟨v2, τ⟩, h1, h2⟩ := Option.map_eq_some_iff.mp h
  have h2 : v2 = v := h2
  subst h2
  exact ⟨τ, h1⟩
noncomputable def T9 : Tab := T8.add 69 (partS conSpec)
theorem T9_ok : TabOk (C M) T9 := TabOk.part hx mixed hg T8_ok (tabOk_none _) fun args σ v h => by
  unfold conSpec at h
  split at h
  · rename_i hc
    cases h
    obtain ⟨sb, rfl, ⟨tb, fb, h1, h2, h3⟩ | ⟨d, h1⟩⟩ := hc
    · obtain ⟨τ, hr⟩ := fst_of run_conT
      refine ⟨rfl, [setTB 1, tplB 2, fldB], [sb, tb, fb], _, M, τ, rfl, rfl, ?_, rfl, rfl, hr⟩
      intro j a b ha hb
      match j, ha, hb with
      | 0, ha, hb => cases ha; cases hb; exact h1
      | 1, ha, hb => cases ha; cases hb; exact h2
      | 2, ha, hb => cases ha; cases hb; exact h3
      | j + 3, ha, hb => simp at ha
    · obtain ⟨τ, hr⟩ := fst_of (run_conD d)
      refine ⟨rfl, [setDB d], [sb], _, M, τ, rfl, rfl, ?_, rfl, rfl, hr⟩
      intro j a b ha hb
      match j, ha, hb with
      | 0, ha, hb => cases ha; cases hb; exact h1
      | j + 1, ha, hb => simp at ha
  · cases h
open Classical in
noncomputable def fldSpec (blk : Blk) (args : List AV) (σ : St) : Option AV := if ∃ fb, args = [.agg [i 300, st fb 0 4 3]] ∧ σ.get fb = some blk then some (B true) else none
theorem run_right : (callK (C M) noTab M 44 [.agg [i 300, st 0 0 4 3]] (parts [fldB])).map Prod.fst = some (B true) := by kernel_rfl
theorem run_sound : (callK (C M) noTab M 47 [.agg [i 300, st 0 0 4 3]] (parts [fldRB])).map Prod.fst = some (B true) := by kernel_rfl
noncomputable def T10 : Tab := T9.add 44 (partS (fldSpec fldB))
noncomputable def T11 : Tab := T10.add 47 (partS (fldSpec fldRB))
theorem T10_ok : TabOk (C M) T10 := TabOk.part hx mixed hg T9_ok (tabOk_none _) fun args σ v h => by
  unfold fldSpec at h
  split at h
  · rename_i hc
    cases h
    obtain ⟨fb, rfl, h1⟩ := hc
    obtain ⟨τ, hr⟩ := fst_of run_right
    refine ⟨rfl, [fldB], [fb], _, M, τ, rfl, rfl, ?_, rfl, rfl, hr⟩
    intro j a b ha hb
    match j, ha, hb with
    | 0, ha, hb => cases ha; cases hb; exact h1
    | j + 1, ha, hb => simp at ha
  · cases h
theorem T11_ok : TabOk (C M) T11 := TabOk.part hx mixed hg T10_ok (tabOk_none _) fun args σ v h => by
  unfold fldSpec at h
  split at h
  · rename_i hc
    cases h
    obtain ⟨fb, rfl, h1⟩ := hc
    obtain ⟨τ, hr⟩ := fst_of run_sound
    refine ⟨rfl, [fldRB], [fb], _, M, τ, rfl, rfl, ?_, rfl, rfl, hr⟩
    intro j a b ha hb
    match j, ha, hb with
    | 0, ha, hb => cases ha; cases hb; exact h1
    | j + 1, ha, hb => simp at ha
  · cases h
def bodyL : List UInt8 := [1, 44, 0, 4, 128, 1, 0, 4, 0, 0, 39, 15, 128, 2, 0, 2, 0, 0, 39, 15, 128, 3, 0, 2, 0, 0, 39, 15, 128, 4, 255, 255, 0, 0, 39, 15]
theorem run_body : (callK (C M) noTab M 39 [.agg [i 2, st 0 0 1 2, s []]] (parts [tplB 1, fldB])).map Prod.fst = some (S bodyL) := by kernel_rfl
/-- a body of bytes -/
theorem run_bodyD {d : List UInt8} (hd : d.length ≤ 1099511627776) : Yl (callK (C M) noTab 4 39 [.agg [i 300, .slice none 0 (.ex 0), s d]] σE) (fun v _ => v = S d) := by
  refine y_body rfl Tryz.func39 (by kernel_rfl) ?_
  rw [F39_eq]
  unfold K39_0
  refine y_new (rfl) ?_
  unfold K39_1
  refine y_new (rfl) ?_
  unfold K39_2
  have hg0 : ((σE.push (.cells [i 300, .slice none 0 (.ex 0), s d] 83 true)).push (.cells [.ptr none, .slice none 0 (.ex 0)] 128 true)).get 0 = some (.cells [i 300, .slice none 0 (.ex 0), s d] 83 true) := by
    rw [St.get_push, if_neg (by show ¬ (0 : Nat) = 1; decide), St.get_push, if_pos (by rfl)]
  have hB : BAt 1 ((σE.push (.cells [i 300, .slice none 0 (.ex 0), s d] 83 true)).push (.cells [.ptr none, .slice none 0 (.ex 0)] 128 true)) 1 [] :=
    ⟨.ptr none, .slice none 0 (.ex 0), by rw [St.get_push, if_pos (by rfl)], by omega, by show 1 < 2; omega, .inl rfl, .inl ⟨rfl, rfl⟩⟩
  obtain ⟨σ1, w1, w2, w3, w4⟩ := write_run (tab := noTab) (n := 1) (t := d) rfl rfl hB (by simpa using hd)
  have hg1 := (w4 0 (by omega)).trans hg0
  refine y_val (fa83_2) ?_
  refine y_val (o_ld hg0 rfl (partA_one ag9 rfl)) ?_
  refine y_cal rfl (w1) ?_
  unfold K39_3
  refine y_val (fa83_1) ?_
  refine y_val (o_ld hg1 rfl (partA_one ag81 rfl)) ?_
  refine y_val (o_len un81) ?_
  unfold K39_5 M
  rw [L39_6_succ]
  unfold L39_6_b
  refine y_val (o_lss) ?_
  unfold K39_7
  refine y_iff (decide_eq_false (by omega)) ?_
  unfold K39_4
  obtain ⟨σ2, q1, q2, q3⟩ := string_run (tab := noTab) (n := 2) rfl w2 (by simpa using hd)
  refine y_cal rfl (q1) ?_
  exact y_ret0 rfl

/-- the bodies that are made here -/
def BodyT (args : List AV) (σ : St) : Prop := ∃ tb fb, args = [.agg [i 2, st tb 0 1 2, s []]] ∧ σ.get tb = some (tplB fb) ∧ σ.get fb = some fldB
def BodyD (args : List AV) (d : List UInt8) : Prop := args = [.agg [i 300, .slice none 0 (.ex 0), s d]] ∧ d.length ≤ 1099511627776
def dOf : List AV → List UInt8
  | [.agg [_, _, .str b]] => bytesOf b
  | _ => []
open Classical in
noncomputable def bodySpec (args : List AV) (σ : St) : Option AV := if BodyT args σ then some (S bodyL) else if h : ∃ d, BodyD args d then some (S h.choose) else none
noncomputable def T12 : Tab := T11.add 39 (partS bodySpec)
theorem T12_ok : TabOk (C M) T12 := TabOk.part hx mixed hg T11_ok (tabOk_none _) fun args σ v h => by
  unfold bodySpec at h
  split at h
  · rename_i hc
    cases h
    obtain ⟨tb, fb, rfl, h1, h2⟩ := hc
    obtain ⟨τ, hr⟩ := fst_of run_body
    refine ⟨rfl, [tplB 1, fldB], [tb, fb], _, M, τ, rfl, rfl, ?_, rfl, rfl, hr⟩
    intro j a b ha hb
    match j, ha, hb with
    | 0, ha, hb => cases ha; cases hb; exact h1
    | 1, ha, hb => cases ha; cases hb; exact h2
    | j + 2, ha, hb => simp at ha
  · split at h
    · rename_i hd
      obtain ⟨ha, hl⟩ := hd.choose_spec
      generalize hd.choose = d at h ha hl
      cases h
      obtain ⟨τ, hr⟩ := (run_bodyD hl).run
      refine ⟨rfl, [], [], _, 4, τ, rfl, rfl, fun j a b h1 h2 => by simp at h1, rfl, ?_, hr⟩
      rw [ha]; rfl
    · cases h
theorem body_T {σ : St} {tb fb : Nat} (h1 : σ.get tb = some (tplB fb)) (h2 : σ.get fb = some fldB) : bodySpec [.agg [i 2, st tb 0 1 2, s []]] σ = some (S bodyL) := by
  unfold bodySpec
  rw [if_pos ⟨tb, fb, rfl, h1, h2⟩]
theorem body_D {σ : St} {d : List UInt8} (hl : d.length ≤ 1099511627776) : bodySpec [.agg [i 300, .slice none 0 (.ex 0), s d]] σ = some (S d) := by
  unfold bodySpec
  have h0 : ¬ BodyT [.agg [i 300, .slice none 0 (.ex 0), s d]] σ := by
    rintro ⟨tb, fb, h, _⟩
    simp [i, st, s] at h
  have h1 : ∃ d', BodyD [.agg [i 300, .slice none 0 (.ex 0), s d]] d' := ⟨d, rfl, hl⟩
  rw [if_neg h0, dif_pos h1]
  obtain ⟨ha, _⟩ := h1.choose_spec
  have : d = h1.choose := congrArg dOf ha
  rw [← this]
theorem isTrue_some : ∀ {r : Option (AV × St)}, isTrue r = true → ∃ σ', r = some (B true, σ')
  | some (.one (.bool true), σ'), _ => ⟨σ', rfl⟩
/-- awake -/
def awSpec (args : List AV) : Option AV := match args with
  | [] => some (B true)
  | _ => none
noncomputable def T13 : Tab := T12.add 4 (flatS awSpec)
theorem T13_ok : TabOk (C M) T13 := TabOk.flat hx mixed hg T12_ok (tabOk_none _) fun args v h => by
  unfold awSpec at h
  split at h
  · cases h
    obtain ⟨σ2, h1⟩ := isTrue_some awake_true
    exact ⟨rfl, rfl, M, σ2, h1⟩
  · cases h
open Classical in
noncomputable def sameSpec (args : List AV) (σ : St) : Option AV := if ∃ fa fb, args = [.agg [i 300, st fa 0 4 3], .agg [i 300, st fb 0 4 3]] ∧ σ.get fa = some fldRB ∧ σ.get fb = some fldRB then some (B true) else none
theorem run_same : (callK (C M) noTab M 10 [.agg [i 300, st 0 0 4 3], .agg [i 300, st 1 0 4 3]] (parts [fldRB, fldRB])).map Prod.fst = some (B true) := by kernel_rfl
noncomputable def TT : Tab := T13.add 10 (partS sameSpec)
theorem TT_ok : TabOk (C M) TT := TabOk.part hx mixed hg T13_ok (tabOk_none _) fun args σ v h => by
  unfold sameSpec at h
  split at h
  · rename_i hc
    cases h
    obtain ⟨fa, fb, rfl, h1, h2⟩ := hc
    obtain ⟨τ, hr⟩ := fst_of run_same
    refine ⟨rfl, [fldRB, fldRB], [fa, fb], _, M, τ, rfl, rfl, ?_, rfl, rfl, hr⟩
    intro j a b ha hb
    match j, ha, hb with
    | 0, ha, hb => cases ha; cases hb; exact h1
    | 1, ha, hb => cases ha; cases hb; exact h2
    | j + 2, ha, hb => simp at ha
  · cases h
end Oct
end Go.Proofs.YtggjhmhjjghncaaGreat
