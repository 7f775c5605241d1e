/- A parameter that is a slice of whole numbers, as an abstract run knows it. -/
import Derived.Test.YtkikpolmfaiabaaGreatDoorR4
import Derived.ChangeSlices
import Derived.WalkKit
import Derived.ProofKit
namespace Go.Proofs.YtkikpolmfaiabaaGreatDoor.RowI
open Go Go.Run Go.ChangeShapes Go.WideShapes
/-- the cells, as they lie -/
def LAt (B0 : Option Blk) (p : Option (Nat × Nat)) (zs : List Int) : Prop := ∀ (j : Nat) (z : Int), zs[j]? = some z → p = some (0, 0) ∧ ∃ l, B0 = some (.ro l) ∧ nth l j = some (.int .i64 z)
theorem nth_get {α : Type} : ∀ (l : List α) (n : Nat), nth l n = l[n]?
  | [], n => by simp [nth]
  | a :: l, 0 => rfl
  | a :: l, n + 1 => by simp only [nth, List.getElem?_cons_succ]; exact nth_get l n
theorem RL_ints {π : Pl} : ∀ (zs : List Int), RL π (zs.map fun z => CV.int .i64 z) (zs.map fun z => Value.int .i64 z)
  | [] => trivial
  | z :: zs => ⟨rfl, RL_ints zs⟩
theorem ints_param {H : Type} {enc : TypeId × Value → H} {P : Program} {w : World} {base : Nat} {spare : Nat → Bool} {held : Bool} {t e : TypeId} {r : Reach} {b0 : Nat} {v : Value} {d : DataW H} {pl : List MemPlace}
    (ht : P.underlying t = some (.slice e)) (he : P.underlying e = some (.int .i64)) (hc : P.cellsOf e = 1) (hok : Value.okWide P w r b0 t v) (h : DataW.Trod enc P w base spare held t v d pl) :
    ∃ (p : Option (Nat × Nat)) (cap : Cap) (zs : List Int) (σ : St) (π : Pl), R π σ w ∧ (∀ b, ¬ own π σ b) ∧ RC π (.slice p zs.length cap) v ∧ 0 < σ.next ∧ zs.length < 9223372036854775808 ∧ LAt (σ.get 0) p zs := by
  have hcell : Cell.okWide P w r b0 t v := by
    have := hok
    unfold Value.okWide at this
    rw [ht] at this
    exact this
  have hok1 : Cell.ok P w r b0 t v := by
    unfold Cell.okWide at hcell
    rw [ht] at hcell
    exact hcell
  obtain ⟨fuel, hf⟩ := h
  have hE : R (fun _ => none) (⟨1, .leaf⟩ : St) w := ⟨fun i b hb => (by cases hb), fun i j bi bj x y hb => (by cases hb), fun i x hx => (by cases hx)⟩
  have ownE : ∀ π b, ¬ own π (⟨1, .leaf⟩ : St) b := fun π b ⟨i, blk, x, hb, _⟩ => by cases hb
  have vcells : (∃ x, v.cells.toList = [x]) → v.cells.toList = [v] := by
    unfold Cell.ok at hok1
    rw [ht] at hok1
    cases v <;> first | (intro _; rfl) | (exact hok1.elim) | (simp at hok1)
  rcases open_ints ht he hc hf with ⟨h1, _⟩ | ⟨a, len, cap, zs, h1, h2, h3, h4, h5, _, h6, _⟩
  · have hv : v = .slice none 0 0 := by
      have := vcells ⟨_, h1⟩
      rw [h1] at this
      exact (List.cons.inj this).1.symm
    subst hv
    exact ⟨none, .ex 0, [], ⟨1, .leaf⟩, fun _ => none, hE, ownE _, ⟨rfl, rfl⟩, Nat.one_pos, by simp, fun j z hz => by simp at hz⟩
  · have hv : v = .slice (some a) len cap := by
      have := vcells ⟨_, h1⟩
      rw [h1] at this
      exact (List.cons.inj this).1.symm
    subst hv
    have hspot : a.spot = none := by
      unfold Cell.ok at hok1
      rw [ht] at hok1
      exact hok1.2.2.2.1
    have hlz : len ≤ zs.length := by rw [h5]; split <;> omega
    have hlen : (zs.take len).length = len := by rw [List.length_take]; omega
    obtain ⟨ab, ao, asp⟩ := a
    simp only at hspot
    subst hspot
    have hm : len < 9223372036854775808 := by unfold maxLen at h4; omega
    cases hz : len with
    | zero =>
      subst hz
      refine ⟨some (0, 0), .ex cap, [], ⟨1, .leaf⟩, fun i => if i = 0 then some (ab, ao, 0) else none, ⟨fun i b hb => (by cases hb), fun i j bi bj x y hb => (by cases hb), fun i x hx => ?_⟩, ownE _, ?_, Nat.one_pos, by simp, fun j z hz => by simp at hz⟩
      · by_cases hi : i = 0
        · subst hi; exact Nat.one_pos
        · simp only [hi, if_false] at hx; cases hx
      · exact ⟨ab, ao, 0, ao, cap, rfl, rfl, Nat.zero_le _, rfl, .inl rfl⟩
    | succ n =>
      have hcells : ∃ cs e' frz, w.heap[ab]? = some (.cells cs e' frz) ∧ ∀ k, k < zs.length → cs[ao + k]? = some (.int .i64 (zs.getD k 0)) := by
        have h0 := h6 0 (by omega)
        have ha0 : (Addr.add ⟨ab, ao, none⟩ 0) = ⟨ab, ao, none⟩ := rfl
        rw [ha0] at h0
        unfold World.cell? at h0
        simp only at h0
        cases hh : w.heap[ab]? with
        | none => rw [hh] at h0; cases h0
        | some o =>
          rw [hh] at h0
          cases o with
          | cells cs e' frz =>
            refine ⟨cs, e', frz, rfl, fun k hk => ?_⟩
            have hk' := h6 k hk
            have hadd : (Addr.add ⟨ab, ao, none⟩ k) = ⟨ab, ao + k, none⟩ := by
              unfold Addr.add
              split
              · rename_i hk0; subst hk0; rfl
              · rfl
            rw [hadd] at hk'
            unfold World.cell? at hk'
            simp only [hh] at hk'
            exact hk'
          | _ => cases h0
      obtain ⟨cs, e', frz, hh, hcs⟩ := hcells
      have hsz : ao + len ≤ cs.size := by
        have := hcs n (by omega)
        have := (Array.getElem?_eq_some_iff.mp this).1
        omega
      refine ⟨some (0, 0), .ex cap, zs.take len, σE.push (.ro ((zs.take len).map fun z => CV.int .i64 z)), fun i => if i = 0 then some (ab, ao, cs.size) else none, ⟨?_, ?_, ?_⟩, ?_, ?_, Nat.one_pos, by rw [hlen]; omega, ?_⟩
      · intro i b hb
        rw [St.get_push] at hb
        by_cases hi : i = 0
        · subst hi
          rw [if_pos (show (0 : Nat) = σE.next from rfl)] at hb
          cases hb
          refine ⟨(ab, ao, cs.size), rfl, cs, e', frz, hh, rfl, ?_, (zs.take len).map fun z => Value.int .i64 z, RL_ints _, fun j v hj => ?_⟩
          · simp only [List.length_map, hlen]; exact hsz
          · rw [List.getElem?_map] at hj
            cases hj2 : (zs.take len)[j]? with
            | none => rw [hj2] at hj; cases hj
            | some z =>
              rw [hj2] at hj
              cases hj
              have hjl := (List.getElem?_eq_some_iff.mp hj2).1
              rw [hlen] at hjl
              rw [List.getElem?_take, if_pos hjl] at hj2
              have := hcs j (by omega)
              rw [this, List.getD, hj2]
              rfl
        · rw [if_neg (show ¬ i = σE.next from hi)] at hb
          cases hb
      · intro i j bi bj x y hb hb2 hro
        rw [St.get_push] at hb
        by_cases hi : i = 0
        · subst hi
          rw [if_pos (show (0 : Nat) = σE.next from rfl)] at hb
          cases hb
          cases hro
        · rw [if_neg (show ¬ i = σE.next from hi)] at hb
          cases hb
      · intro i x hx
        by_cases hi : i = 0
        · subst hi; exact Nat.one_pos
        · simp only [hi, if_false] at hx; cases hx
      · rintro b ⟨i, blk, x, hb, hro, _⟩
        rw [St.get_push] at hb
        by_cases hi : i = 0
        · subst hi
          rw [if_pos (show (0 : Nat) = σE.next from rfl)] at hb
          cases hb
          cases hro
        · rw [if_neg (show ¬ i = σE.next from hi)] at hb
          cases hb
      · rw [hlen]
        exact ⟨ab, ao, cs.size, ao, cap, rfl, by rw [hz], h3, rfl, .inl rfl⟩
      · intro j z hj
        refine ⟨rfl, _, by rw [St.get_push, if_pos (show (0 : Nat) = σE.next from rfl)], ?_⟩
        rw [nth_get, List.getElem?_map, hj]
        rfl
end Go.Proofs.YtkikpolmfaiabaaGreatDoor.RowI
