import Derived.Test.YtkikpolmfaiabaaGreatDoorRunS21
import GoSem.Extern.Atomic
import GoSem.Extern.AbiNoEscape
namespace Go.Run
variable {cx : Cx} {π : Pl} {σ : St} {w : World} {env : Env} {a : Act}

theorem same_ok {as : List AV} {vs : Array Value} {x : AV} (h : RT π as vs.toList) (e : as = [x]) : Yields cx.P π σ w (Extern.AbiNoEscape.same vs) (.val x) := by
  subst e
  obtain ⟨X, r, hv, hx, hr⟩ := h.cons
  have hr' : r = [] := by cases r with
    | nil => rfl
    | cons _ _ => simp [RT] at hr
  subst hr'
  have : vs = #[X] := by apply Array.toList_inj.1; simpa using hv
  subst this
  exact yields_val rfl hx

theorem loadI64_ok (hR : R π σ w) {p : Nat × Nat} {vs : Array Value} (h : RT π [.one (.ptr (some p))] vs.toList) {l : List CV} {e : TypeId} {ex : Bool} (hi : σ.get p.1 = some (.cells l e ex)) {n : Int} (hn : nth l p.2 = some (.int .i64 n)) :
    Yields cx.P π σ w (Extern.Atomic.loadT (.int .i64) vs) (.val (.one (.int .i64 n))) := by
  obtain ⟨X, r, hv, hx, hr⟩ := h.cons
  have hr' : r = [] := by cases r with
    | nil => rfl
    | cons _ _ => simp [RT] at hr
  subst hr'
  have : vs = #[X] := by apply Array.toList_inj.1; simpa using hv
  subst this
  obtain ⟨⟨b, base, sz⟩, hp, hblk⟩ := hR.blk p.1 _ hi
  simp only [RA] at hx
  obtain ⟨b', base', sz', hp', rfl⟩ := hx
  rw [hp] at hp'; cases hp'
  obtain ⟨v, hv1, hv2⟩ := hblk.one hn
  cases hv1
  refine yields_val (x := .int .i64 n) ?_ (RA_int _ _)
  simp only at hv2
  have hdef : Extern.Atomic.loadT (.int .i64) #[.pointer (some ⟨b, base + p.2, none⟩)] = (do Extern.Atomic.read (.int .i64) (← asAddr (.pointer (some ⟨b, base + p.2, none⟩)))) := rfl
  rw [hdef]
  simp [Extern.Atomic.read, asAddr, hv2]

theorem addI64_ok (hR : R π σ w) {p : Nat × Nat} {y : Int} {vs : Array Value} (h : RT π [.one (.ptr (some p)), .one (.int .i64 y)] vs.toList) {l : List CV} {e : TypeId} {ex : Bool} (hi : σ.get p.1 = some (.cells l e ex)) {n : Int} (hn : nth l p.2 = some (.int .i64 n)) :
    Yields cx.P π σ w (Extern.Atomic.update (Op.intArith .add) .i64 true vs) (storeCellsA p [.int .i64 (wrapA .i64 (Int.add n y))] (.one (.int .i64 (wrapA .i64 (Int.add n y)))) σ) := by
  obtain ⟨X, r, hv, hx, hr⟩ := h.cons
  obtain ⟨Y, r', rfl, hy, hr'⟩ := hr.cons'
  have hr2 : r' = [] := by cases r' with
    | nil => rfl
    | cons _ _ => simp [RT] at hr'
  subst hr2
  have hY := int_of hy
  subst hY
  have : vs = #[X, .int .i64 y] := by apply Array.toList_inj.1; simpa using hv
  subst this
  obtain ⟨⟨b, base, sz⟩, hp, hblk⟩ := hR.blk p.1 _ hi
  simp only [RA] at hx
  obtain ⟨b', base', sz', hp', rfl⟩ := hx
  rw [hp] at hp'; cases hp'
  obtain ⟨v, hv1, hv2⟩ := hblk.one hn
  cases hv1
  simp only at hv2
  rw [wrapA_ok]
  rcases storeCells_cases p [.int .i64 (IntKind.i64.wrap (Int.add n y))] (.one (.int .i64 (IntKind.i64.wrap (Int.add n y)))) σ with hst | ⟨σ', hst⟩
  · rw [hst]; trivial
  · have hvs : RL π [.int .i64 (IntKind.i64.wrap (Int.add n y))] [.int .i64 (IntKind.i64.wrap (Int.add n y))] := ⟨rfl, trivial⟩
    obtain ⟨_, k1, k2, k3⟩ := storeCells_ok (cx := cx) hR (p := p) hvs hp hst
    rw [hst]
    refine ⟨.int .i64 (IntKind.i64.wrap (Int.add n y)), _, π, ?_, k2, RA_int _ _, k3⟩
    obtain ⟨cs, frz, h1, h2, h3, h4, h5, us, h6, h7⟩ := hblk
    simp only at h1 h2 h3 h5
    rw [nth_eq] at hn
    have hlt : p.2 < l.length := by
      rcases Nat.lt_or_ge p.2 l.length with h | h
      · exact h
      · rw [List.getElem?_eq_none h] at hn; cases hn
    have hfz := frozen_of (o := base + p.2) h1 (h5 _ (by omega))
    have hdef : Extern.Atomic.update (Op.intArith .add) .i64 true #[.pointer (some ⟨b, base + p.2, none⟩), .int .i64 y] = (do
        let a ← asAddr (.pointer (some ⟨b, base + p.2, none⟩))
        let old ← Extern.Atomic.read (.int .i64) a
        let new ← Op.intArith .add .i64 (← asInt old) (← asInt (.int .i64 y))
        store a new .atomic
        pure (if true then new else old)) := rfl
    rw [hdef]
    have hst2 := run_store cx.P w ⟨b, base + p.2, none⟩ (.int .i64 (IntKind.i64.wrap (n + y))) .atomic rfl
    rw [hv2] at hst2
    simp only [hfz, Bool.false_eq_true, if_false] at hst2
    simp [Extern.Atomic.read, asAddr, hv2, asInt, asIntOf, Op.intArith, hst2]
    rfl
end Go.Run
