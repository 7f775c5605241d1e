/- General lemmas on steps, memory, loops. -/
import Derived.Test.YtnoieleoklpciaaGreatDoorTy
import Derived.Test.YtnoieleoklpciaaGreatDoorR4
set_option linter.unusedVariables false
set_option linter.unusedSimpArgs false
namespace Go.Proofs.YtnoieleoklpciaaGreatDoor
open Go.Run Go
namespace Core
open Ty
set_option maxRecDepth 1000000
abbrev M : Nat := 1000000
theorem hx : ExtOk (C M) := extOk M
theorem y_rets {t : TypeId} {a : AV} {b v : AV} {σ : St} {Q : AV → St → Prop} (h : loadA (C M) t a σ = some v) (hq : Q (.tup [v, b]) σ) : Yl (retV (C M) [(some t, a), (none, b)] σ) Q := by
  refine y_ret (vs := [v, b]) ?_ hq
  show (match loadA (C M) t a σ, (some [b] : Option (List AV)) with | some v, some vs => some (v :: vs) | _, _ => none) = _
  rw [h]
theorem ld_agg {t : TypeId} {i n : Nat} {b : Blk} {l r : List CV} {σ : St} (h : σ.get i = some b) (hb : Blk.rd (some b) = some l) (ha : Go.Run.isAgg (C M) t = some true) (hs : size (C M) t = some n) (hr : takeN n (dropN 0 l) = some r) : loadA (C M) t (P i 0) σ = some (.agg r) := by
  unfold loadA
  simp only [h, hb]
  exact partA_agg ha hs hr

/-- a loop whose state is a -/
theorem y_loop {α : Type} {L : Nat → α → St → Rs} {Q : AV → St → Prop} {n : Nat} (Inv : Nat → α → St → Prop)
    (step : ∀ f j a σ, j < n → Inv j a σ → (∀ a' σ', Inv (j + 1) a' σ' → Yl (L f a' σ') Q) → Yl (L (f + 1) a σ) Q)
    (last : ∀ f a σ, Inv n a σ → Yl (L (f + 1) a σ) Q) : ∀ (d j f : Nat) (a : α) (σ : St), j + d = n → d < f → Inv j a σ → Yl (L f a σ) Q := by
  intro d
  induction d with
  | zero =>
    intro j f a σ hj hf h
    obtain ⟨g, rfl⟩ : ∃ g, f = g + 1 := ⟨f - 1, by omega⟩
    have : j = n := by omega
    subst this
    exact last g a σ h
  | succ d ih =>
    intro j f a σ hj hf h
    obtain ⟨g, rfl⟩ : ∃ g, f = g + 1 := ⟨f - 1, by omega⟩
    exact step g j a σ (by omega) h fun a' σ' h' => ih (j + 1) g a' σ' (by omega) (by omega) h'
/-- cells lie there -/
def Lies (σ : St) (b k : Nat) (cs : List CV) : Prop := ∃ blk l, σ.get b = some blk ∧ Blk.rd (some blk) = some l ∧ takeN cs.length (dropN k l) = some cs
section
variable {σ σ' : St} {b k i n : Nat} {cs cs' : List CV} {t : TypeId} {c : CV}
theorem Lies.to (h : Lies σ b k cs) (hg : σ'.get b = σ.get b) : Lies σ' b k cs := by
  obtain ⟨blk, l, h1, h2⟩ := h
  exact ⟨blk, l, hg.trans h1, h2⟩
theorem Lies.of {e : TypeId} {x : Bool} (h : σ.get b = some (.cells cs e x)) : Lies σ b 0 cs :=
  ⟨_, cs, h, rfl, by rw [dropN_zero]; exact takeN_len rfl⟩
theorem takeN_fit {α : Type} {n : Nat} {l r : List α} (h : takeN n l = some r) : r = l.take n ∧ n ≤ l.length := by
  rcases Nat.lt_or_ge l.length n with hlt | hge
  · exfalso
    have key : ∀ (n : Nat) (x : List α), x.length < n → takeN n x = none := by
      intro n
      induction n with
      | zero => intro x hx; omega
      | succ n ih =>
        intro x hx
        cases x with
        | nil => rfl
        | cons a r => simp only [takeN, ih r (by simpa using hx)]
    rw [key _ _ hlt] at h
    cases h
  · rw [takeN_take _ _ hge] at h
    cases h
    exact ⟨rfl, hge⟩
theorem ld_all (h : Lies σ b k cs) (ha : Go.Run.isAgg (C M) t = some true) (hs : size (C M) t = some n) (hn : cs.length = n) : ldO (C M) t (P b k) σ = .val (.agg cs) := by
  obtain ⟨blk, l, h1, h2, h3⟩ := h
  subst hn
  exact o_ld h1 h2 (partA_agg ha hs h3)
theorem ld_sub (h : Lies σ b k cs) (ha : Go.Run.isAgg (C M) t = some true) (hs : size (C M) t = some n) (hc : takeN n (dropN i cs) = some cs') : ldO (C M) t (P b (k + i)) σ = .val (.agg cs') := by
  obtain ⟨blk, l, h1, h2, h3⟩ := h
  refine o_ld h1 h2 (partA_agg ha hs ?_)
  obtain ⟨e1, e2⟩ := takeN_fit h3
  obtain ⟨e3, e4⟩ := takeN_fit hc
  rw [dropN_drop] at e1 e2 e3 e4
  rw [List.length_drop] at e2 e4
  rw [dropN_drop, takeN_take _ _ (by rw [List.length_drop]; omega), e3]
  congr 1
  conv => rhs; rw [e1]
  rw [List.drop_take, List.take_take, List.drop_drop]
  congr 1
  omega
theorem ld_fld (h : Lies σ b k cs) (ha : Go.Run.isAgg (C M) t = some false) (hc : cs[i]? = some c) : ldO (C M) t (P b (k + i)) σ = .val (.one c) := by
  obtain ⟨blk, l, h1, h2, h3⟩ := h
  refine o_ld h1 h2 (partA_one ha ?_)
  obtain ⟨e1, e2⟩ := takeN_fit h3
  rw [dropN_drop] at e1 e2
  rw [nth_get, ← hc]
  conv => rhs; rw [e1]
  have hi := (List.getElem?_eq_some_iff.mp hc).1
  rw [List.getElem?_take, if_pos hi, List.getElem?_drop]
theorem ld_at (h : Lies σ b k cs) (ha : Go.Run.isAgg (C M) t = some false) (hc : cs[0]? = some c) : ldO (C M) t (P b k) σ = .val (.one c) := ld_fld (i := 0) h ha hc
end
/-- an element of a slice: its address, its cells -/
theorem elem_at {σ : St} {ok : Nat → Prop} {t e' : TypeId} {sz j : Nat} {cv : CV} {es : List (List DV)} {x : List DV} (hu : und (C M) t = some (.slice e')) (hs : size (C M) e' = some sz) (h : Rep ok σ cv (.sl sz es)) (he : es[j]? = some x) :
    ∃ b k cs, (∀ σ', iadO (C M) t (.one cv) (I (j : Nat)) σ' = .val (P b k)) ∧ ok b ∧ b < σ.next ∧ Lies σ b k cs ∧ RepL ok σ cs x ∧ cs.length = sz := by
  obtain ⟨b, o, cap, blk, l, cs, rfl, h1, h2, h3, h4, h5, h6, h7⟩ := h.elem he
  have hl := h6.len
  have hj := (List.getElem?_eq_some_iff.mp he).1
  exact ⟨b, o + j * sz, cs, fun σ' => o_iad hu hs hj, h1, h2, ⟨blk, l, h3, h4, by rw [hl, h7]; exact h5⟩, h6, by omega⟩
theorem len_of {σ σ' : St} {ok : Nat → Prop} {t e' : TypeId} {ts : List TypeId} {sz : Nat} {cv : CV} {es : List (List DV)} (hu : und (C M) t = some (.slice e')) (h : Rep ok σ cv (.sl sz es)) : bltO (C M) .len (t :: ts) [.one cv] σ' = .val (I (es.length : Nat)) := by
  obtain ⟨p, cap, rfl⟩ := h.len
  exact o_len hu
theorem one_of {σ : St} {ok : Nat → Prop} {cs : List CV} {d : DV} (h : RepL ok σ cs [d]) : ∃ c, cs = [c] ∧ Rep ok σ c d := by
  rcases h with _ | ⟨h1, _ | _⟩
  exact ⟨_, rfl, h1⟩
theorem y_not {b : Bool} {σ : St} : unO .not (B b) σ = .val (B (!b)) := rfl
theorem o_lssn {t : TypeId} {a b : Nat} {σ : St} : binO (C M) .lss t (I (a : Nat)) (I (b : Nat)) σ = .val (B (decide (a < b))) := by
  rw [o_lss, decide_eq_decide.mpr Int.ofNat_lt]
/-- a thing is like itself -/
theorem o_neqi {t : TypeId} {a : Int} {σ : St} : binO (C M) .neq t (I a) (I a) σ = .val (B false) := by rw [o_neq]; simp
theorem o_eqli {t : TypeId} {a : Int} {σ : St} : binO (C M) .eql t (I a) (I a) σ = .val (B true) := by rw [o_eql]; simp

/-- which functions have contracts of their own -/
def noSp (f : Nat) : Bool := Nat.beq f 4 || (Nat.beq f 60 || (Nat.beq f 214 || (Nat.beq f 264 || (Nat.beq f 172 || (Nat.beq f 51 || (Nat.beq f 112 || (Nat.beq f 113 || (Nat.beq f 114 || Nat.beq f 115))))))))
/-- no other function has one -/
abbrev Fr (tab : Tab) : Prop := ∀ f, noSp f = false → tab f = none
section
variable {cx : Cx} {t : TypeId} {σ σ' : St} {o : St → Out} {a c : Int} {Q : AV → St → Prop} {k : AV → Kt}
theorem gd_on {X : Out} (h : o σ = X) : gdO (some true) o σ = X := h
theorem gd_off : gdO (some false) o σ = .val (.tup []) := rfl
theorem k_lssT (h : a < c) : binO cx .lss t (I a) (I c) σ = .val (B true) := by rw [o_lss, decide_eq_true h]
theorem k_lssF (h : c ≤ a) : binO cx .lss t (I a) (I c) σ = .val (B false) := by rw [o_lss, decide_eq_false (by omega)]
theorem k_gtrT (h : c < a) : binO cx .gtr t (I a) (I c) σ = .val (B true) := by rw [o_gtr, decide_eq_true h]
theorem k_gtrF (h : a ≤ c) : binO cx .gtr t (I a) (I c) σ = .val (B false) := by rw [o_gtr, decide_eq_false (by omega)]
theorem k_leqT (h : a ≤ c) : binO cx .leq t (I a) (I c) σ = .val (B true) := by rw [o_leq, decide_eq_false (by omega)]; rfl
theorem k_leqF (h : c < a) : binO cx .leq t (I a) (I c) σ = .val (B false) := by rw [o_leq, decide_eq_true h]; rfl
theorem k_geqT (h : c ≤ a) : binO cx .geq t (I a) (I c) σ = .val (B true) := by rw [o_geq, decide_eq_false (by omega)]; rfl
theorem k_geqF (h : a < c) : binO cx .geq t (I a) (I c) σ = .val (B false) := by rw [o_geq, decide_eq_true h]; rfl
theorem k_eqlT (h : a = c) : binO cx .eql t (I a) (I c) σ = .val (B true) := by rw [o_eql, h]; simp
theorem k_eqlF (h : a ≠ c) : binO cx .eql t (I a) (I c) σ = .val (B false) := by rw [o_eql, beq_eq_false_iff_ne.mpr h]
theorem k_neqT (h : a ≠ c) : binO cx .neq t (I a) (I c) σ = .val (B true) := by rw [o_neq, beq_eq_false_iff_ne.mpr h]; rfl
theorem k_neqF (h : a = c) : binO cx .neq t (I a) (I c) σ = .val (B false) := by rw [o_neq, h]; simp
theorem u_eqlT (h : a = c) : binO cx .eql t (Iu a) (Iu c) σ = .val (B true) := by subst h; show Out.val (B (intEq a a)) = _; rw [intEq_ok]; simp
theorem u_neqF (h : a = c) : binO cx .neq t (Iu a) (Iu c) σ = .val (B false) := by subst h; show Out.val (B (!intEq a a)) = _; rw [intEq_ok]; simp
theorem s_neqF {x y : List UInt8} (h : x = y) : binO cx .neq t (S x) (S y) σ = .val (B false) := by rw [o_sneq, decide_eq_true h]; rfl
theorem s_neqT {x y : List UInt8} (h : x ≠ y) : binO cx .neq t (S x) (S y) σ = .val (B true) := by rw [o_sneq, decide_eq_false h]; rfl
theorem s_eqlT {x y : List UInt8} (h : x = y) : binO cx .eql t (S x) (S y) σ = .val (B true) := by rw [o_seql, decide_eq_true h]
theorem s_eqlF {x y : List UInt8} (h : x ≠ y) : binO cx .eql t (S x) (S y) σ = .val (B false) := by rw [o_seql, decide_eq_false h]
theorem o_addw (h1 : -9223372036854775808 ≤ a + c) (h2 : a + c < 9223372036854775808) : binO cx .add t (I a) (I c) σ = .val (I (a + c)) := by rw [o_add, wrap_id h1 h2]
theorem o_inc {j : Nat} (h : j < 9223372036854775807) : binO cx .add t (I (j : Nat)) (I 1) σ = .val (I ((j + 1 : Nat) : Int)) := by rw [o_add, wrap_id (by omega) (by omega)]; rfl
theorem box_of {l : List CV} : boxO t (.agg l) σ = .new (.cells l t true) (fun a => P a 0) := rfl
end
section
variable {σ : St} {x y : Bool}
theorem b_neq : binO (C M) .neq 4 (B x) (B y) σ = .val (B (!(x == y))) := by cases x <;> cases y <;> kernel_rfl
theorem b_eql : binO (C M) .eql 4 (B x) (B y) σ = .val (B (x == y)) := by cases x <;> cases y <;> kernel_rfl
theorem b_neqF (h : x = y) : binO (C M) .neq 4 (B x) (B y) σ = .val (B false) := by rw [b_neq, h]; simp
/-- what a comparison of structs comes to -/
def chainE : List Bool → Option Bool
  | [] => some true
  | b :: r => match some b with
    | some true => chainE r
    | r => r
theorem chainE_true {l : List Bool} (h : ∀ b ∈ l, b = true) : chainE l = some true := by
  induction l with
  | nil => rfl
  | cons b r ih =>
    have hb := h b (by simp)
    subst hb
    exact ih fun x hx => h x (by simp [hx])


end
/-- cells lie there, and it is a block that there is -/
def At (σ : St) (b k : Nat) (cs : List CV) : Prop := b < σ.next ∧ Lies σ b k cs
section
variable {t : TypeId} {σ σ' : St} {o : St → Out} {Q : AV → St → Prop} {k : AV → Kt} {b i n q : Nat} {cs l : List CV} {c : CV}
theorem At.ext (h : At σ b q cs) (e : Gr σ σ') : At σ' b q cs := ⟨Nat.lt_of_lt_of_le h.1 e.1, h.2.to (e.2 b h.1)⟩
theorem y_box (h : ∀ σ' b, Gr σ σ' → At σ' b 0 l → σ.next ≤ b → Yl (k (P b 0) σ') Q) : Yl (bnd (boxO t (.agg l)) k σ) Q :=
  y_new box_of (h _ _ (Gr.push _ _) ⟨by rw [St.next_push]; omega, Lies.of (by rw [St.get_push, if_pos rfl])⟩ (Nat.le_refl _))
theorem ne_of {z : List CV} (h : rowOf (C M) t n 1 = some z) : True := trivial
/-- a struct is copied into a new block -/
theorem y_cpy {k : AV → AV → Kt} {z : List CV} (hz : newO (C M) t σ = .new (.cells z t true) (fun a => P a 0)) (hs : size (C M) t = some n) (hn : l.length = n) (hl : z.length = n)
    (h : ∀ σ' b, Gr σ σ' → At σ' b 0 l → σ.next ≤ b → Yl (k (P b 0) (.tup []) σ') Q) : Yl (bnd (newO (C M) t) (fun v => bnd (stO (C M) t v (.agg l)) (k v)) σ) Q := by
  refine y_new hz (y_st (o_st (l' := l) (by rw [St.get_push, if_pos rfl]) rfl hs (by rw [lenN_eq]; exact hn) ?_) (h _ _ ((Gr.push _ _).put _ (Nat.le_refl _)) ⟨by rw [St.next_put, St.next_push]; omega, Lies.of (by rw [St.get_put, if_pos rfl])⟩ (Nat.le_refl _)))
  have := over_front l z [] (by omega)
  simpa using this
theorem y_for {L : Nat → Nat → St → Rs} {n : Nat} (Inv : Nat → St → Prop)
    (step : ∀ f j σ, j < n → Inv j σ → (∀ σ', Inv (j + 1) σ' → Yl (L f (j + 1) σ') Q) → Yl (L (f + 1) j σ) Q)
    (last : ∀ f σ, Inv n σ → Yl (L (f + 1) n σ) Q) (s f : Nat) (σ : St) (hs : s ≤ n) (hf : n < f + s) (h : Inv s σ) : Yl (L f s σ) Q := by
    have key : ∀ (d j f : Nat) (σ : St), j + d = n → d < f → Inv j σ → Yl (L f j σ) Q := by
      intro d
      induction d with
      | zero =>
        intro j f σ hj hf h
        obtain ⟨g, rfl⟩ : ∃ g, f = g + 1 := ⟨f - 1, by omega⟩
        have : j = n := by omega
        subst this
        exact last g σ h
      | succ d ih =>
        intro j f σ hj hf h
        obtain ⟨g, rfl⟩ : ∃ g, f = g + 1 := ⟨f - 1, by omega⟩
        exact step g j σ (by omega) h fun σ' h' => ih (j + 1) g σ' (by omega) (by omega) h'
    exact key (n - s) s f σ (by omega) (by omega) h
end
/-- an element of a slice: its address, its cells -/
theorem elem {σ : St} {ok : Nat → Prop} {t e' : TypeId} {sz j : Nat} {cv : CV} {es : List (List DV)} {x : List DV} (hu : und (C M) t = some (.slice e')) (hs : size (C M) e' = some sz) (h : Rep ok σ cv (.sl sz es)) (he : es[j]? = some x) :
    ∃ b k cs, (∀ σ', iadO (C M) t (.one cv) (I (j : Nat)) σ' = .val (P b k)) ∧ ok b ∧ At σ b k cs ∧ RepL ok σ cs x ∧ cs.length = sz := by
  obtain ⟨b, k, cs, h1, h2, h3, h4, h5, h6⟩ := elem_at hu hs h he
  exact ⟨b, k, cs, h1, h2, ⟨h3, h4⟩, h5, h6⟩
section
variable {ok : Nat → Prop} {σ : St} {cs : List CV} {a b c d e f g h : DV}
theorem rl0 (p : RepL ok σ cs []) : cs = [] := by cases p; rfl
theorem rlc {l : List DV} (p : RepL ok σ cs (a :: l)) : ∃ x r, cs = x :: r ∧ Rep ok σ x a ∧ RepL ok σ r l := by
  cases p with
  | cons h t => exact ⟨_, _, rfl, h, t⟩
theorem rl1 (p : RepL ok σ cs [a]) : ∃ x, cs = [x] ∧ Rep ok σ x a := by
  obtain ⟨x, r, rfl, h1, t⟩ := rlc p; obtain rfl := rl0 t; exact ⟨x, rfl, h1⟩
theorem rl2 (p : RepL ok σ cs [a, b]) : ∃ x y, cs = [x, y] ∧ Rep ok σ x a ∧ Rep ok σ y b := by
  obtain ⟨x, r, rfl, h1, t⟩ := rlc p; obtain ⟨y, rfl, h2⟩ := rl1 t; exact ⟨x, y, rfl, h1, h2⟩
theorem rl3 (p : RepL ok σ cs [a, b, c]) : ∃ x y z, cs = [x, y, z] ∧ Rep ok σ x a ∧ Rep ok σ y b ∧ Rep ok σ z c := by
  obtain ⟨x, r, rfl, h1, t⟩ := rlc p; obtain ⟨y, z, rfl, h2, h3⟩ := rl2 t; exact ⟨x, y, z, rfl, h1, h2, h3⟩
theorem rl4 (p : RepL ok σ cs [a, b, c, d]) : ∃ x y z u, cs = [x, y, z, u] ∧ Rep ok σ x a ∧ Rep ok σ y b ∧ Rep ok σ z c ∧ Rep ok σ u d := by
  obtain ⟨x, r, rfl, h1, t⟩ := rlc p; obtain ⟨y, z, u, rfl, h2, h3, h4⟩ := rl3 t; exact ⟨x, y, z, u, rfl, h1, h2, h3, h4⟩
theorem rl5 (p : RepL ok σ cs [a, b, c, d, e]) : ∃ x y z u v, cs = [x, y, z, u, v] ∧ Rep ok σ x a ∧ Rep ok σ y b ∧ Rep ok σ z c ∧ Rep ok σ u d ∧ Rep ok σ v e := by
  obtain ⟨x, r, rfl, h1, t⟩ := rlc p; obtain ⟨y, z, u, v, rfl, h2, h3, h4, h5⟩ := rl4 t; exact ⟨x, y, z, u, v, rfl, h1, h2, h3, h4, h5⟩
theorem rl7 (p : RepL ok σ cs [a, b, c, d, e, f, g]) : ∃ x y z u v w s, cs = [x, y, z, u, v, w, s] ∧ Rep ok σ x a ∧ Rep ok σ y b ∧ Rep ok σ z c ∧ Rep ok σ u d ∧ Rep ok σ v e ∧ Rep ok σ w f ∧ Rep ok σ s g := by
  obtain ⟨x, r, rfl, h1, t⟩ := rlc p; obtain ⟨y, r, rfl, h2, t⟩ := rlc t; obtain ⟨z, u, v, w, s, rfl, h3, h4, h5, h6, h7⟩ := rl5 t; exact ⟨x, y, z, u, v, w, s, rfl, h1, h2, h3, h4, h5, h6, h7⟩
theorem RepL.split : ∀ {a b : List DV} {cs : List CV}, RepL ok σ cs (a ++ b) → ∃ x y, cs = x ++ y ∧ RepL ok σ x a ∧ RepL ok σ y b
  | [], _, cs, h => ⟨[], cs, rfl, .nil, h⟩
  | _ :: _, _, _, h => by
    obtain ⟨x, r, rfl, h1, t⟩ := rlc h
    obtain ⟨u, v, rfl, h2, h3⟩ := RepL.split t
    exact ⟨x :: u, v, rfl, .cons h1 h2, h3⟩
end
/-- the elements of rows of numbers -/
theorem get_map {α β : Type} {f : α → β} {l : List α} {j : Nat} {x : α} (h : l[j]? = some x) : (l.map f)[j]? = some (f x) := by rw [List.getElem?_map, h]; rfl
theorem get_lt {α : Type} {l : List α} {j : Nat} (h : j < l.length) : ∃ x, l[j]? = some x := ⟨l[j], List.getElem?_eq_getElem h⟩

theorem len_m {α : Type} {l : List α} {f : α → List DV} {σ σ' : St} {ok : Nat → Prop} {t e' : TypeId} {ts : List TypeId} {sz : Nat} {cv : CV} (hu : und (C M) t = some (.slice e')) (h : Rep ok σ cv (.sl sz (l.map f))) : bltO (C M) .len (t :: ts) [.one cv] σ' = .val (I (l.length : Nat)) := by
  rw [len_of hu h, List.length_map]
theorem elem_m {α : Type} {l : List α} {f : α → List DV} {x : α} {σ : St} {ok : Nat → Prop} {t e' : TypeId} {sz j : Nat} {cv : CV} (hu : und (C M) t = some (.slice e')) (hs : size (C M) e' = some sz) (h : Rep ok σ cv (.sl sz (l.map f))) (he : l[j]? = some x) :
    ∃ b k cs, (∀ σ', iadO (C M) t (.one cv) (I (j : Nat)) σ' = .val (P b k)) ∧ At σ b k cs ∧ RepL ok σ cs (f x) ∧ ok b := by
  obtain ⟨b, k, cs, h1, h2, h3, h4, _⟩ := elem hu hs h (get_map he)
  exact ⟨b, k, cs, h1, h3, h4, h2⟩
/-- an element that is one cell -/
theorem cell_m {α : Type} {l : List α} {f : α → DV} {x : α} {σ : St} {ok : Nat → Prop} {t e' : TypeId} {j : Nat} {cv : CV} (hu : und (C M) t = some (.slice e')) (hs : size (C M) e' = some 1) (h : Rep ok σ cv (.sl 1 (l.map fun y => [f y]))) (he : l[j]? = some x) :
    ∃ b k c, (∀ σ', iadO (C M) t (.one cv) (I (j : Nat)) σ' = .val (P b k)) ∧ At σ b k [c] ∧ Rep ok σ c (f x) ∧ ok b := by
  obtain ⟨b, k, cs, h1, h2, h3, h4⟩ := elem_m hu hs h he
  obtain ⟨c, rfl, h5⟩ := rl1 h3
  exact ⟨b, k, c, h1, h2, h5, h4⟩
/-- the place of the first that is such, or -1 -/
def fIdx {α : Type} (p : α → Bool) (l : List α) : Int := match l.findIdx? p with
  | some i => (i : Nat)
  | none => -1
theorem fIdx_some {α : Type} {p : α → Bool} {l : List α} {j : Nat} {x : α} (h : l[j]? = some x) (hp : p x = true) (hno : ∀ i y, i < j → l[i]? = some y → p y = false) : fIdx p l = (j : Nat) := by
  have : l.findIdx? p = some j := by
    rw [List.findIdx?_eq_some_iff_getElem]
    obtain ⟨hj, rfl⟩ := List.getElem?_eq_some_iff.mp h
    exact ⟨hj, hp, fun i hi => by rw [hno i _ hi (List.getElem?_eq_getElem (by omega))]; decide⟩
  unfold fIdx; rw [this]
theorem fIdx_none {α : Type} {p : α → Bool} {l : List α} (hno : ∀ i y, i < l.length → l[i]? = some y → p y = false) : fIdx p l = -1 := by
  have : l.findIdx? p = none := by
    rw [List.findIdx?_eq_none_iff]
    intro x hx
    obtain ⟨i, hi, rfl⟩ := List.getElem_of_mem hx
    exact hno i _ hi (List.getElem?_eq_getElem hi)
  unfold fIdx; rw [this]
theorem geq_fIdx {α : Type} {p : α → Bool} {l : List α} {cx : Cx} {t : TypeId} {σ : St} : binO cx .geq t (I (fIdx p l)) (I 0) σ = .val (B (l.any p)) := by
  cases h : l.findIdx? p with
  | none =>
    have e : l.any p = false := by
      rw [List.findIdx?_eq_none_iff] at h
      rw [List.any_eq_false]
      intro x hx; rw [h x hx]; decide
    have : fIdx p l = -1 := by unfold fIdx; rw [h]
    rw [this, e]
    exact k_geqF (by omega)
  | some i =>
    have e : l.any p = true := by
      rw [List.findIdx?_eq_some_iff_getElem] at h
      obtain ⟨h1, h2, _⟩ := h
      rw [List.any_eq_true]
      exact ⟨_, List.getElem_mem h1, h2⟩
    have : fIdx p l = (i : Nat) := by unfold fIdx; rw [h]
    rw [this, e]
    exact k_geqT (by omega)
theorem elem_l {α : Type} {l : List α} {f : α → List DV} {x : α} {σ : St} {ok : Nat → Prop} {t e' : TypeId} {sz j : Nat} {cv : CV} (hu : und (C M) t = some (.slice e')) (hs : size (C M) e' = some sz) (h : Rep ok σ cv (.sl sz (l.map f))) (he : l[j]? = some x) :
    ∃ b k cs, (∀ σ', iadO (C M) t (.one cv) (I (j : Nat)) σ' = .val (P b k)) ∧ At σ b k cs ∧ RepL ok σ cs (f x) ∧ cs.length = sz := by
  obtain ⟨b, k, cs, h1, _, h3, h4, h5⟩ := elem hu hs h (get_map he)
  exact ⟨b, k, cs, h1, h3, h4, h5⟩
theorem y_fcyl {cx : Cx} {call : CallF} {σ : St} {Q Q' : AV → St → Prop} {g : FuncId} {caps : List (Nat × Nat)} {args : List AV} {k : AV → Kt} (hx : cx.ext g = none) (h : Yl (call g (args ++ capVs caps) σ) Q') (hk : ∀ v σ', Q' v σ' → Yl (k v σ') Q) : Yl (bnd (calO cx call (.one (.func g caps)) args) k σ) Q := by
  obtain ⟨v, σ', h1, h2⟩ := h
  refine y_st (v := v) (σ' := σ') ?_ (hk v σ' h2)
  unfold calO callV
  simp only [hx, outC, h1]
theorem y_fora {α : Type} {L : Nat → Nat → α → St → Rs} {Q : AV → St → Prop} {n : Nat} (Inv : Nat → α → St → Prop)
    (step : ∀ f j a σ, j < n → Inv j a σ → (∀ a' σ', Inv (j + 1) a' σ' → Yl (L f (j + 1) a' σ') Q) → Yl (L (f + 1) j a σ) Q)
    (last : ∀ f a σ, Inv n a σ → Yl (L (f + 1) n a σ) Q) (s f : Nat) (a : α) (σ : St) (hs : s ≤ n) (hf : n < f + s) (h : Inv s a σ) : Yl (L f s a σ) Q := by
  have key : ∀ (d j f : Nat) (a : α) (σ : St), j + d = n → d < f → Inv j a σ → Yl (L f j a σ) Q := by
    intro d
    induction d with
    | zero =>
      intro j f a σ hj hf h
      obtain ⟨g, rfl⟩ : ∃ g, f = g + 1 := ⟨f - 1, by omega⟩
      have : j = n := by omega
      subst this
      exact last g a σ h
    | succ d ih =>
      intro j f a σ hj hf h
      obtain ⟨g, rfl⟩ : ∃ g, f = g + 1 := ⟨f - 1, by omega⟩
      exact step g j a σ (by omega) h fun a' σ' h' => ih (j + 1) g a' σ' (by omega) (by omega) h'
  exact key (n - s) s f a σ (by omega) (by omega) h

/-- it lies in a block of its own, at lo or beyond; what its elements lie in is old (ahead of base), or lies beyond lo, too -/
def Bld (base lo : Nat) (σ : St) (sz : Nat) (e : TypeId) (cv : CV) (es : List (List DV)) : Prop :=
  ∃ l, Own lo σ sz e cv l ∧ l.length = es.length * (sz + 1) ∧ RepL (fun i => (i < base ∨ lo ≤ i) ∧ ¬ isAt cv i) σ l es.flatten ∧ ∀ x ∈ es, x.length = sz + 1
section
variable {base lo sz : Nat} {σ σ' : St} {e : TypeId} {cv : CV} {es : List (List DV)}
theorem Bld.nil : Bld base lo σ sz e (.slice none 0 (.ex 0)) [] := ⟨[], Own.nil, by simp, .nil, fun x hx => by cases hx⟩
theorem Bld.at (h : Bld base lo σ sz e cv es) {i : Nat} (hi : isAt cv i) : lo ≤ i ∧ i < σ.next := by
  obtain ⟨l, ho, _⟩ := h
  obtain ⟨n, c, rfl⟩ := hi
  rcases ho with ⟨h, _⟩ | ⟨k', n', h, hk', hk2, _⟩
  · cases h
  · cases h; exact ⟨hk', hk2⟩
theorem Bld.to (h : Bld base lo σ sz e cv es) (hn : σ.next ≤ σ'.next) (hg : ∀ i, i < base ∨ lo ≤ i → i < σ.next → σ'.get i = σ.get i) : Bld base lo σ' sz e cv es := by
  have hat := fun i (hi : isAt cv i) => h.at hi
  obtain ⟨l, ho, hl, hr, hx⟩ := h
  exact ⟨l, ho.to hn fun i hi => hg i (.inr (hat i hi).1) (hat i hi).2, hl, hr.to fun i hi hlt => ⟨hg i hi.1 hlt, by omega, hi⟩, hx⟩
theorem Bld.ext (h : Bld base lo σ sz e cv es) (g : Gr σ σ') : Bld base lo σ' sz e cv es := h.to g.1 fun i _ hi => g.2 i hi
theorem Bld.rep {ok : Nat → Prop} (h : Bld base lo σ sz e cv es) (hok : ∀ i, i < base ∨ lo ≤ i → ok i) : Rep ok σ cv (.sl (sz + 1) es) := by
  have hat := fun i (hi : isAt cv i) => h.at hi
  obtain ⟨l, ho, hl, hr, hx⟩ := h
  exact ho.rep (fun i hi => hok i (.inr (hat i hi).1)) hx (hr.to fun i hi hlt => ⟨rfl, hlt, hok i hi.1⟩)
/-- one more -/
theorem y_app {t by' : Nat} {x : List DV} {new : List CV} {xv : AV} {k : AV → Kt} {Q : AV → St → Prop} (hu : und (C M) t = some (.slice e)) (hi : ((C M).P.info? e).map (fun t => (t.size, t.bytes)) = some (sz + 1, by')) (hno : noInt (C M) [t] = true) (hrow : (rowOf (C M) e (sz + 1) 1).isSome = true) (hby : by' ≤ 10000)
    (hb : bslO (C M) t 1 [(0, xv)] σ = .new (.cells new e true) (fun i => .one (.slice (some (i, 0)) 1 (.to (sz + 1))))) (h : Bld base lo σ sz e cv es) (hlo : lo ≤ σ.next) (hx : RepL (fun i => (i < base ∨ lo ≤ i) ∧ ¬ isAt cv i) σ new x) (hxl : x.length = sz + 1) (hes : es.length * (sz + 1) ≤ 1000000)
    (hk : ∀ σ' cv', Bld base lo σ' sz e cv' (es ++ [x]) → σ.next ≤ σ'.next → (∀ i, i < σ.next → ¬ isAt cv i → σ'.get i = σ.get i) → Yl (k (.one cv') σ') Q) :
    Yl (bnd (bslO (C M) t 1 [(0, xv)]) (fun v => bnd (bltO (C M) .append [t, t] [.one cv, v]) k) σ) Q := by
  have hat := fun i (hi : isAt cv i) => h.at hi
  obtain ⟨l, ho, hl, hr, hxs⟩ := h
  refine y_new hb ?_
  have e1 : Gr σ (σ.push (.cells new e true)) := Gr.push _ _
  have ho' : Own lo (σ.push (.cells new e true)) sz e cv l := ho.to e1.1 fun i hi => e1.2 i (hat i hi).2
  obtain ⟨cv', σ2, q1, q2, q3, q4, q5⟩ := own_append (t := t) (cx := C M) (vb := σ.next) hu hi hno hrow ho' (by rw [St.next_push]; omega) (by rw [St.get_push, if_pos rfl]) rfl (by rw [hx.len, hxl]) (by omega) hby
  have n1 : (σ.push (.cells new e true)).next = σ.next + 1 := rfl
  refine y_st q1 (hk σ2 cv' ⟨l ++ new, q2, ?_, ?_, ?_⟩ (by omega) fun i hi hne => by rw [q4 i (by omega) hne, e1.2 i hi])
  · rw [List.length_append, hl, hx.len, hxl, List.length_append, Nat.add_mul]; simp
  · rw [List.flatten_append, List.flatten_cons, List.flatten_nil, List.append_nil]
    refine RepL.append ?_ ?_
    · exact hr.to fun i hi hlt => ⟨by rw [q4 i (by omega) hi.2, e1.2 i hlt], by omega, hi.1, fun hat' => by have := q5 i hat'; omega⟩
    · exact hx.to fun i hi hlt => ⟨by rw [q4 i (by omega) hi.2, e1.2 i hlt], by omega, hi.1, fun hat' => by have := q5 i hat'; omega⟩
  · intro y hy
    rcases List.mem_append.mp hy with hy | hy
    · exact hxs y hy
    · rw [List.mem_singleton.mp hy]; exact hxl
end
section
variable {σ : St}
theorem y_box1 {t : TypeId} {c : CV} {Q : AV → St → Prop} {k : AV → Kt} (h : ∀ σ' b, Gr σ σ' → At σ' b 0 [c] → σ.next ≤ b → Yl (k (P b 0) σ') Q) : Yl (bnd (boxO t (.one c)) k σ) Q :=
  y_new (b := .cells [c] t true) (f := fun a => P a 0) rfl (h _ _ (Gr.push _ _) ⟨by rw [St.next_push]; omega, Lies.of (by rw [St.get_push, if_pos rfl])⟩ (Nat.le_refl _))
end
section
variable {σ : St}
theorem y_ret1 {t : TypeId} {a v : AV} {σ : St} {Q : AV → St → Prop} (h : loadA (C M) t a σ = some v) (hq : Q v σ) : Yl (retV (C M) [(some t, a)] σ) Q := by
  refine y_ret (vs := [v]) ?_ hq
  show (match loadA (C M) t a σ, (some [] : Option (List AV)) with | some v, some vs => some (v :: vs) | _, _ => none) = _
  rw [h]
end
end Core
end Go.Proofs.YtnoieleoklpciaaGreatDoor
