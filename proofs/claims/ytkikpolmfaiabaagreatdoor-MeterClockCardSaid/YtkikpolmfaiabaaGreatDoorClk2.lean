/- The table: calls whose answers are known from runs from nothing. -/
import Derived.Test.YtkikpolmfaiabaaGreatDoorClk1
namespace Go.Proofs.YtkikpolmfaiabaaGreatDoor
open Go.Run Go
namespace Clk
open Classical in
noncomputable def newS (args : List AV) (σ : St) : Option (AV × St) := match args with
  | [.agg l] => if l = oneL then some (.tup [.agg (bankC σ.next), I 0], pushAll σ (bankB σ.next)) else none
  | _ => none
def oneS (args : List AV) (σ : St) : Option (AV × St) := match args with
  | [] => some (.agg oneL, σ)
  | _ => none
def awS (args : List AV) (σ : St) : Option (AV × St) := match args with
  | [] => some (.one (.bool true), σ)
  | _ => none
def BankAt (b : Nat) (σ : St) : Prop := ∀ (k : Nat) (blk : Blk), (bankB b)[k]? = some blk → σ.get (b + k) = some blk
open Classical in
noncomputable def pieceF (args : List AV) (σ : St) : Option (AV × St) := match args with
  | [.one (.int .i64 a), .one (.int .i64 e), .agg l] => if a = 1 ∧ ∃ b, l = bankC b ∧ BankAt b σ then some (.one (st σ.next 0 1 5), σ.push (pieceB e)) else none
  | _ => none
noncomputable def tabC : Tab := fun f => bif Nat.beq f 10 then some oneS else bif Nat.beq f 11 then some awS else bif Nat.beq f 16 then some newS else bif Nat.beq f 17 then some pieceF else none

theorem call0 : CallOk (C 1000000) (callK (C 1000000) noTab 1000000) := callK_ok (extOk _) (tabOk_none _) mixed 1000000

theorem ok_one {args : List AV} {σ σ' : St} {v : AV} (hs : oneS args σ = some (v, σ')) {π : Pl} {w : World} {vs : Array Value} (hR : R π σ w) (hargs : RT π args vs.toList) :
    (∃ fn, (C 1000000).P.funcs[10]? = some fn ∧ fn.body ≠ none) ∧ Calls (C 1000000).P 10 vs w (Post (C 1000000).P π σ w v σ') := by
  unfold oneS at hs
  split at hs
  · cases hs
    obtain ⟨⟨v2, σ2⟩, h1, h2⟩ := Option.map_eq_some_iff.mp run_one
    have h3 : v2 = .agg oneL := h2
    subst h3
    exact flat_call call0 h1 rfl rfl hR (fun g => rfl) hargs
  · cases hs
theorem ok_aw {args : List AV} {σ σ' : St} {v : AV} (hs : awS args σ = some (v, σ')) {π : Pl} {w : World} {vs : Array Value} (hR : R π σ w) (hargs : RT π args vs.toList) :
    (∃ fn, (C 1000000).P.funcs[11]? = some fn ∧ fn.body ≠ none) ∧ Calls (C 1000000).P 11 vs w (Post (C 1000000).P π σ w v σ') := by
  unfold awS at hs
  split at hs
  · cases hs
    have h := awake_true
    unfold isTrue at h
    split at h
    · rename_i σ2 h1
      exact flat_call call0 h1 rfl rfl hR (fun g => rfl) hargs
    · cases h
  · cases hs

theorem new_v (n : Nat) : rnR (phi bankNu n) bankRaw = .tup [.agg (bankC n), I 0] := by kernel_rfl
theorem new_b (n : Nat) : bankRawB.map (rnB (phi bankNu n)) = bankB n := by kernel_rfl
theorem part_none {ψ : Ren} {σ : St} (h : ∀ i, ψ i = (σ.next, 0)) : Part ψ σE σ := ⟨fun i _ => h i, fun i b hb => by cases hb⟩
theorem ok_new {args : List AV} {σ σ' : St} {v : AV} (hs : newS args σ = some (v, σ')) {π : Pl} {w : World} {vs : Array Value} (hR : R π σ w) (hargs : RT π args vs.toList) :
    (∃ fn, (C 1000000).P.funcs[16]? = some fn ∧ fn.body ≠ none) ∧ Calls (C 1000000).P 16 vs w (Post (C 1000000).P π σ w v σ') := by
  unfold newS at hs
  split at hs
  · split at hs
    · rename_i l hl
      subst hl
      cases hs
      obtain ⟨⟨v2, σ2⟩, h1, h2⟩ := Option.map_eq_some_iff.mp run_new
      obtain ⟨h3, h4⟩ := Prod.mk.inj h2
      have h3 : v2 = bankRaw := h3
      subst h3
      have := sub_new call0 h1 (part_none (ψ := fun _ => (σ.next, 0)) fun _ => rfl) bankNu bankRawB h4 (by decide) (by kernel_rfl) (by kernel_rfl) (by kernel_rfl) hR (fun g => rfl) (flatVs_ok (by rfl) hargs)
      rw [new_v, new_b] at this
      exact this
    · cases hs
  · cases hs

def psi (b n : Nat) : Ren := fun i => bif Nat.blt i 14 then (b + i, 0) else (n, 0)
def isCells : Blk → Bool
  | .cells _ _ _ => true
  | _ => false
theorem bank_c (b n : Nat) : (bankC 0).map (rnC (psi b n)) = bankC b := by kernel_rfl
theorem bank_b (b n : Nat) : (bankB 0).map (rnB (psi b n)) = bankB b := by kernel_rfl
theorem bank_cells : allB isCells (bankB 0) = true := by kernel_rfl
theorem bankS_next : bankS.next = 14 := pushAll_next _ _
theorem part_bank {b : Nat} {σ : St} (h : BankAt b σ) : Part (psi b σ.next) bankS σ := by
  refine ⟨fun i hi => ?_, fun i blk hb => ?_⟩
  · rw [bankS_next] at hi
    have : Nat.blt i 14 = false := by
      cases hb : Nat.blt i 14 with
      | false => rfl
      | true => have := Nat.le_of_ble_eq_true hb; omega
    simp only [psi, this, cond_false]
  · unfold bankS at hb
    rw [pushAll_get] at hb
    have h0 : σE.next = 0 := rfl
    rw [h0, if_neg (by omega), Nat.sub_zero, List.getElem?_map] at hb
    cases hk : (bankB 0)[i]? with
    | none => rw [hk] at hb; cases hb
    | some b0 =>
      rw [hk] at hb
      have hb' : some (ro b0) = some blk := hb
      have hlen : i < 14 := (List.getElem?_eq_some_iff.mp hk).1
      refine ⟨by rw [bankS_next]; exact hlen, ?_⟩
      have hc := allB_mem bank_cells b0 (List.mem_of_getElem? hk)
      cases b0 with
      | cells l e x =>
        cases hb'
        have hblt : Nat.blt i 14 = true := Nat.ble_eq_true_of_le hlen
        have hk2 : (bankB b)[i]? = some (.cells (l.map (rnC (psi b σ.next))) e x) := by
          rw [← bank_b b σ.next, List.getElem?_map, hk]; rfl
        refine ⟨l, .cells (l.map (rnC (psi b σ.next))) e x, l.map (rnC (psi b σ.next)), [], [], rfl, ?_, rfl, by simp, ?_⟩
        · simp only [psi, hblt, cond_true]; exact h i _ hk2
        · simp only [psi, hblt, cond_true]; rfl
      | map es c => cases hc
      | ro l => cases hc
theorem ok_pieces {args : List AV} {σ σ' : St} {v : AV} (hs : pieceF args σ = some (v, σ')) {π : Pl} {w : World} {vs : Array Value} (hR : R π σ w) (hargs : RT π args vs.toList) :
    (∃ fn, (C 1000000).P.funcs[17]? = some fn ∧ fn.body ≠ none) ∧ Calls (C 1000000).P 17 vs w (Post (C 1000000).P π σ w v σ') := by
  unfold pieceF at hs
  split at hs
  · split at hs
    · rename_i a e l hx
      obtain ⟨rfl, b, rfl, hb⟩ := hx
      cases hs
      obtain ⟨⟨v2, σ2⟩, h1, h2⟩ := Option.map_eq_some_iff.mp (run_pieces e)
      obtain ⟨h3, h4⟩ := Prod.mk.inj h2
      have h3 : v2 = _ := h3
      subst h3
      have hargs' : RT (plOf (psi b σ.next) π) [I 1, I e, .agg (bankC 0)] vs.toList := by
        revert hargs
        cases vs.toList with
        | nil => intro h; simp [RT] at h
        | cons x1 r => cases r with
          | nil => intro h; simp [RT] at h
          | cons x2 r => cases r with
            | nil => intro h; simp [RT] at h
            | cons x3 r =>
              intro h
              simp only [RT, RA, I] at h ⊢
              obtain ⟨g1, g2, ⟨a, g3, g4⟩, g5⟩ := h
              refine ⟨g1, g2, ⟨a, g3, ?_⟩, ?_⟩
              · rw [RL_rn, bank_c]; exact g4
              · revert g5; cases r <;> simp [RT]
      have := sub_new call0 h1 (part_bank hb) [292] [pieceB e] h4 (by decide) (by kernel_rfl) (by kernel_rfl) (by kernel_rfl) hR (fun g => rfl) hargs'
      exact this
    · cases hs
  · cases hs

theorem tabC_ok (m : Nat) : TabOk (C m) tabC := by
  intro f s hf args σ v σ' hs π w vs hR hG hargs
  have hf' : (bif Nat.beq f 10 then some oneS else bif Nat.beq f 11 then some awS else bif Nat.beq f 16 then some newS else bif Nat.beq f 17 then some pieceF else none) = some s := hf
  cases h1 : Nat.beq f 10 with
  | true =>
    rw [h1] at hf'; cases hf'; have := Nat.eq_of_beq_eq_true h1; subst this
    exact ok_one hs hR hargs
  | false =>
  cases h2 : Nat.beq f 11 with
  | true =>
    rw [h1, h2] at hf'; cases hf'; have := Nat.eq_of_beq_eq_true h2; subst this
    exact ok_aw hs hR hargs
  | false =>
  cases h3 : Nat.beq f 16 with
  | true =>
    rw [h1, h2, h3] at hf'; cases hf'; have := Nat.eq_of_beq_eq_true h3; subst this
    exact ok_new hs hR hargs
  | false =>
  cases h4 : Nat.beq f 17 with
  | true =>
    rw [h1, h2, h3, h4] at hf'; cases hf'; have := Nat.eq_of_beq_eq_true h4; subst this
    exact ok_pieces hs hR hargs
  | false => rw [h1, h2, h3, h4] at hf'; cases hf'
end Clk
end Go.Proofs.YtkikpolmfaiabaaGreatDoor
