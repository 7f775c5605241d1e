import Derived.Test.YtkikpolmfaiabaaGreatDoorRunS15
import Derived.Lib.UnsafeStr
namespace Go.Run
variable {cx : Cx} {π : Pl} {σ : St} {w : World} {env : Env} {a : Act}

/-- a block is changed, and no more known -/
theorem R.drop (h : R π σ w) {i : Nat} {bi : Blk} (hi : σ.get i = some bi) {x : Nat × Nat × Nat} (hx : π i = some x) {w' : World} (hs : w'.heap.size = w.heap.size) (ho : ∀ b, b ≠ x.1 → w'.heap[b]? = w.heap[b]?) (hsame : Same w w') :
    R π (σ.kill i) w' ∧ Go π σ w π (σ.kill i) w' := by
  have hk : ∀ {j b}, (σ.kill i).get j = some b → j ≠ i ∧ σ.get j = some b := fun {j b} hj => by
    rw [St.get_kill] at hj; split at hj
    · cases hj
    · rename_i e; exact ⟨e, hj⟩
  refine ⟨⟨fun j b hj => ?_, fun j k bj bk u v hj hk' => h.inj j k bj bk u v (hk hj).2 (hk hk').2, h.lt⟩,
    ⟨fun _ _ => rfl, Nat.le_refl _, by rw [hs]; exact Nat.le_refl _, fun b hb hn => ho b fun e => hn ⟨i, bi, x, hi, hx, e.symm⟩, fun b _ ⟨j, bj, u, hj, hu, e⟩ => ⟨j, bj, u, (hk hj).2, hu, e⟩, hsame⟩⟩
  obtain ⟨e, hj'⟩ := hk hj
  obtain ⟨u, hu, hb⟩ := h.blk j b hj'
  exact ⟨u, hu, hb.congr (ho _ (h.inj j i b bi u x hj' hi hu hx e))⟩

theorem liesAt_bytes_at {P : Program} {e : TypeId} (hc : P.cellsOf e = 1) (count off n : Nat) (hn : off + n ≤ count) : liesAt P P.depth e count off e n = true := by
  have hd : P.depth = (2 * (P.types.size + Made.depth) + 1) + 1 := rfl
  rw [hd]
  simp only [liesAt, Bool.or_eq_true]
  left
  rw [hd]
  have : off % 1 = 0 := Nat.mod_one _
  simp [rowAt, hc, hn, sameLayout, this]

theorem run_unsafeString_at {P : Program} {w : World} {ts : Array TypeId} {pt ty e : TypeId} {k : IntKind} (ht : ts[0]? = some pt) (hp : P.underlying pt = some (.pointer e)) (hc : P.cellsOf e = 1) (g off cells : Nat) (hsh : w.shape? g = some (e, cells)) (l : List UInt8) (h0 : l ≠ []) (hn : off + l.length ≤ cells) (h63 : l.length ≤ 9223372036854775807)
    (hcell : ∀ j x, l[j]? = some x → w.cell? ((⟨g, off, none⟩ : Addr).add j) = some (.int .u8 x.toNat)) :
    (Builtin.unsafeString_ ts ty #[.pointer (some ⟨g, off, none⟩), .int k l.length]).run P w = .ok (.string ⟨l.toArray⟩) (w.freeze ⟨g, off, none⟩ l.length) := by
  have hl : l.length ≠ 0 := by simpa using h0
  have hlb := Lib.run_loadBytes (P := P) w l ⟨g, off, none⟩ .empty hcell
  have hlies := liesAt_bytes_at (P := P) hc (cells / P.cellsOf e) off l.length (by rw [hc]; simpa using hn)
  have hmax : IntKind.i64.max = 9223372036854775807 := rfl
  have h63' : ¬ (9223372036854775807 : Int) < (l.length : Int) := by omega
  have hdef : Builtin.unsafeString_ ts ty #[.pointer (some ⟨g, off, none⟩), .int k l.length] =
      (do
        let n ← asInt (.int k l.length)
        let some pt := ts[0]? | stuck "unsafe.String: no argument types"
        if n < 0 then runtimePanic (.error "unsafe.String: len out of range")
        if n > IntKind.i64.max then unsupported (.unsafePointer "String: a length above the largest int")
        if n = 0 then pure (.string .empty)
        else if ← variablesAt ⟨g, off, none⟩ (← elemOf pt) n.toNat then do
          let s ← loadBytes ⟨g, off, none⟩ .empty n.toNat
          freeze ⟨g, off, none⟩ n.toNat
          pure (.string s)
        else unsupported (.unsafePointer "String: not so many bytes at ptr")) := rfl
  rw [hdef]
  have hneg : ¬ ((l.length : Int) < 0) := by omega
  have he : ByteArray.empty.data ++ l.toArray = l.toArray := by
    have : ByteArray.empty.data = #[] := rfl
    rw [this]; simp
  simp [asInt, asIntOf, ht, hmax, hneg, h63', hl, elemOf, run_underlying hp, variablesAt, hsh, hlies, hlb, he]

theorem run_unsafeString_zero {P : Program} {w : World} {ts : Array TypeId} {pt ty : TypeId} {k : IntKind} (ht : ts[0]? = some pt) (p : Option Addr) : (Builtin.unsafeString_ ts ty #[.pointer p, .int k 0]).run P w = .ok (.string .empty) w := by
  have hmax : IntKind.i64.max = 9223372036854775807 := rfl
  cases p with
  | none =>
    have hdef : Builtin.unsafeString_ ts ty #[.pointer none, .int k 0] =
        (do
          let n ← asInt (.int k 0)
          let some _ := ts[0]? | stuck "unsafe.String: no argument types"
          if n < 0 then runtimePanic (.error "unsafe.String: len out of range")
          if n > IntKind.i64.max then unsupported (.unsafePointer "String: a length above the largest int")
          if n = 0 then pure (.string .empty)
          else runtimePanic (.error "unsafe.String: ptr is nil and len is not zero")) := rfl
    rw [hdef]
    simp [asInt, asIntOf, hmax, ht]
  | some a =>
    have hdef : Builtin.unsafeString_ ts ty #[.pointer (some a), .int k 0] =
        (do
          let n ← asInt (.int k 0)
          let some pt := ts[0]? | stuck "unsafe.String: no argument types"
          if n < 0 then runtimePanic (.error "unsafe.String: len out of range")
          if n > IntKind.i64.max then unsupported (.unsafePointer "String: a length above the largest int")
          if n = 0 then pure (.string .empty)
          else if ← variablesAt a (← elemOf pt) n.toNat then do
            let s ← loadBytes a .empty n.toNat
            freeze a n.toNat
            pure (.string s)
          else unsupported (.unsafePointer "String: not so many bytes at ptr")) := rfl
    rw [hdef]
    simp [asInt, asIntOf, hmax, ht]
theorem same_freeze (w : World) (g o n : Nat) : Same w (w.freeze ⟨g, o, none⟩ n) := by
  unfold World.freeze
  split <;> exact ⟨rfl, rfl, rfl⟩
theorem heap_freeze (w : World) (g o n : Nat) : (w.freeze ⟨g, o, none⟩ n).heap.size = w.heap.size ∧ ∀ b, b ≠ g → (w.freeze ⟨g, o, none⟩ n).heap[b]? = w.heap[b]? := by
  unfold World.freeze
  split
  · exact ⟨rfl, fun _ _ => rfl⟩
  · exact ⟨by simp, fun b hb => by simp only [Array.getElem?_modify]; rw [if_neg (Ne.symm hb)]⟩

theorem string_ok (hR : R π σ w) {ts : Array TypeId} {ty : TypeId} {as : List AV} {vs : Array Value} (h : RT π as vs.toList) : Yields cx.P π σ w (Builtin.unsafeString_ ts ty vs) (stringB cx ts.toList as σ) := by
  unfold stringB
  split
  · rename_i t ts' p nv ht
    obtain ⟨S, r, hv, hs, hr⟩ := h.cons
    obtain ⟨N, r', rfl, hN, hr'⟩ := hr.cons'
    have hr2 : r' = [] := by cases r' with
      | nil => rfl
      | cons _ _ => simp [RT] at hr'
    subst hr2
    have e0 := tget0 ht
    split
    · rename_i hn
      obtain ⟨k, rfl⟩ := natOf_ok hn hN
      obtain ⟨pa, rfl⟩ : ∃ pa, S = .pointer pa := by
        cases p with
        | none => exact ⟨none, by simpa [RA, RC] using hs⟩
        | some p => simp only [RA] at hs; obtain ⟨_, _, _, _, rfl⟩ := hs; exact ⟨_, rfl⟩
      have hvs : vs = #[.pointer pa, .int k 0] := by apply Array.toList_inj.1; simpa using hv
      subst hvs
      exact yields_val (x := .string .empty) (run_unsafeString_zero e0 pa) (RA_str _)
    · rename_i n hne hn
      obtain ⟨k, rfl⟩ := natOf_ok hn hN
      split
      · trivial
      · rename_i i o
        split
        · rename_i u l e ex hu hi
          cases hc : (Nat.beq e u && Nat.ble n 4611686018427387904)
          · trivial
          · simp only [cond_true]
            simp only [Bool.and_eq_true, beq_eq, ble_eq, decide_eq_true_eq] at hc
            obtain ⟨rfl, hn63⟩ := hc
            split
            · rename_i cs hsz hcs
              split
              · rename_i b hb
                obtain ⟨⟨bl, base, sz⟩, hp, hblk⟩ := hR.blk i _ hi
                simp only [RA] at hs
                obtain ⟨b', base', sz', hp', rfl⟩ := hs
                simp only at hp'
                rw [hp] at hp'; cases hp'
                obtain ⟨ms, h1, h2, h3⟩ := hblk.read hcs
                have hms := bytesAt_ok cs b ms hb h1
                have hbl : b.length = n := by rw [← h2, hms]; simp
                obtain ⟨cur, frz, g1, g2, g3, _⟩ := hblk
                simp only at g1 g2 g3
                have hlen : o + n ≤ l.length := by
                  obtain ⟨_, hle⟩ := takeN_eq _ _ _ hcs
                  rw [dropN_eq] at hle; simp at hle
                  have : n ≠ 0 := fun e => hne e
                  omega
                have hsh : w.shape? bl = some (e, cur.size) := by simp [World.shape?, g1]
                have hvs : vs = #[.pointer (some ⟨bl, base + o, none⟩), .int k n] := by apply Array.toList_inj.1; simpa using hv
                subst hvs
                subst hbl
                have hb0 : b ≠ [] := fun e => hne (by rw [e]; rfl)
                have hcl : cx.P.cellsOf e = 1 := by
                  obtain ⟨inf, hinf, hs1⟩ := size_info hsz
                  simp [Program.cellsOf, hinf, hs1]
                have hrun := run_unsafeString_at (P := cx.P) (w := w) (ts := ts) (pt := t) (ty := ty) (e := e) (k := k) e0 hu hcl bl (base + o) cur.size hsh b hb0 (by omega) (by omega) (fun j x hj => by
                  rw [Addr.add_mid]
                  refine h3 j _ ?_
                  rw [hms]; simp [hj])
                obtain ⟨f1, f2⟩ := heap_freeze w bl (base + o) b.length
                obtain ⟨r1, r2⟩ := hR.drop hi hp f1 f2 (same_freeze w bl (base + o) b.length)
                exact ⟨_, _, π, hrun, r1, RA_str _, r2⟩
              · trivial
            · trivial
        · trivial
    · trivial
  · trivial
end Go.Run
