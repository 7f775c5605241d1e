/- An abstract interpreter of the model's code and the proof that it is sound: part 4 of 4. -/
import Derived.Test.YtnoieleoklpciaaGreatDoorR3
set_option linter.unusedVariables false
set_option linter.unusedSimpArgs false
namespace Go.Run
variable {cx : Cx} {call : CallF} {σ σ' : St} {Q : AV → St → Prop}

/-! Append. -/
theorem takeN_all {α : Type} : ∀ (l : List α), takeN (lenN l) l = some l
  | [] => rfl
  | a :: r => by show (match takeN (lenN r) r with | some l => some (a :: l) | none => none) = _; rw [takeN_all r]
theorem lenN_len {α : Type} : ∀ (l : List α), lenN l = l.length
  | [] => rfl
  | a :: r => by show Nat.succ (lenN r) = _; rw [lenN_len r]; rfl
theorem takeN_len {α : Type} {l : List α} {n : Nat} (h : l.length = n) : takeN n l = some l := by rw [← h, ← lenN_len]; exact takeN_all l
theorem o_append {t e n len : Nat} {ts : List TypeId} {inf : TypeInfo} {p : Option (Nat × Nat)} {cap : Cap} {x : AV} {new row : List CV} (hu : und cx t = some (.slice e)) (hi : cx.P.info? e = some inf) (hl : lenA x = some n)
    (hc : (noInt cx ts && !(Nat.beq inf.size 0) && Nat.ble (Nat.mul (Nat.add (Nat.mul 2 (Nat.add len n)) 2048) inf.bytes) 140737488355328 && Nat.ble (Nat.add len n) 4611686018427387904) = true)
    (hf : firstA inf.size n x σ = some new) (hr : rowOf cx e inf.size 1 = some row) (hn : Nat.beq n 0 = false) : bltO cx .append (t :: ts) [.one (.slice p len cap), x] σ = appendTo e inf.size p len cap n new σ := by
  show appendA cx (t :: ts) [.one (.slice p len cap), x] σ = _
  unfold appendA
  simp only [hu, hi, hl, hc, cond_true, hf, hr, hn, cond_false]
theorem append_nil {e sz len n : Nat} {cap : Cap} {new : List CV} : appendTo e sz none len cap n new σ = .st (.one (.slice (some (σ.next, 0)) (Nat.add len n) (.to sz))) (σ.push (.cells new e false)) := rfl
/-- behind a block that is full -/
theorem append_full {e sz len n j : Nat} {new l : List CV} (hj : σ.get j = some (.cells l e false)) (hlen : l.length = len * (sz + 1)) (hn : n ≠ 0) :
    appendTo e (sz + 1) (some (j, 0)) len (.to (sz + 1)) n new σ = .st (.one (.slice (some (σ.next, 0)) (len + n) (.to (sz + 1)))) ((σ.kill j).push (.cells (l ++ new) e false)) := by
  unfold appendTo
  have hc : capOf (j, 0) (.to (sz + 1)) (sz + 1) σ = some (len, false) := by
    unfold capOf
    simp only [Nat.beq_refl, cond_true, hj]
    rw [lenN_len, hlen]
    show some (len * (sz + 1) / (sz + 1), false) = _
    rw [Nat.mul_div_cancel _ (Nat.succ_pos sz)]
  simp only [hc]
  have h1 : Nat.ble (Nat.add len n) len = false := by
    cases hb : Nat.ble (Nat.add len n) len with
    | false => rfl
    | true => have := Nat.le_of_ble_eq_true hb; simp only [Nat.add_eq] at this; omega
  have h2 : elemIs σ j e = true := by unfold elemIs; simp only [hj, Nat.beq_refl]
  simp only [h1, cond_false, h2, Bool.or_true, cond_true]
  have h3 : firstA (sz + 1) len (.one (.slice (some (j, 0)) len (.to (sz + 1)))) σ = some l := by
    unfold firstA
    cases h0 : Nat.beq len 0 with
    | true =>
      have := Nat.eq_of_beq_eq_true h0
      subst this
      simp only [Nat.zero_mul, List.length_eq_zero_iff] at hlen
      rw [hlen]
      simp only [cond_true]
    | false =>
      simp only [cond_false, hj, Blk.rd]
      exact takeN_len hlen
  simp only [h3]
  rfl
theorem get_kp (σ : St) (j i : Nat) (b : Blk) : ((σ.kill j).push b).get i = if i = σ.next then some b else if i = j then none else σ.get i := by
  rw [St.get_push, St.get_kill]; rfl
theorem y_cal {v : AV} {k : AV → Kt} {f : FuncId} {args : List AV} (hx : cx.ext f = none) (h : call f args σ = some (v, σ')) (hk : Yl (k v σ') Q) : Yl (bnd (calO cx call (fnV f) args) k σ) Q := y_call (r := none) hx h hk
theorem y_body {tab : Tab} {n f : Nat} {args : List AV} {fn : Func} (ht : tab f = none) (hf : cx.P.funcs[f]? = some fn) (hok : (match fn.body with | some c => Nat.ble (lenN args) fn.ntmps && codeOk fn.ntmps c | none => false) = true)
    (h : Yl (enterK cx (callK cx tab n) fn args σ) Q) : Yl (callK cx tab (n + 1) f args σ) Q := by
  obtain ⟨v, σ', h1, h2⟩ := h
  exact ⟨v, σ', callK_body ht hf hok h1, h2⟩
theorem y_gon {v : AV} {k : AV → Kt} {w : Option Bool} {o : St → Out} (hw : w = some true) (h : o σ = .val v) (hk : Yl (k v σ) Q) : Yl (bnd (gdO w o) k σ) Q := by subst hw; exact y_val h hk
theorem y_goff {k : AV → Kt} {w : Option Bool} {o : St → Out} (hw : w = some false) (hk : Yl (k (.tup []) σ) Q) : Yl (bnd (gdO w o) k σ) Q := by subst hw; exact y_val rfl hk
theorem y_gcal {v : AV} {k : AV → Kt} {w : Option Bool} {f : FuncId} {args : List AV} (hw : w = some true) (hx : cx.ext f = none) (h : call f args σ = some (v, σ')) (hk : Yl (k v σ') Q) : Yl (bnd (gdO w (calO cx call (fnV f) args)) k σ) Q := by subst hw; exact y_cal hx h hk
theorem y_eq {r r' : Rs} (h : r = r') (hy : Yl r' Q) : Yl r Q := h ▸ hy
end Go.Run

namespace Go.Run
variable {cx : Cx} {call : CallF} {σ σ' : St} {Q : AV → St → Prop}

/-! Tables, a function more at a time. -/
def Tab.add (t : Tab) (f : Nat) (s : List AV → St → Option (AV × St)) : Tab := fun g => bif Nat.beq g f then some s else t g
theorem TabOk.add {t : Tab} {f : Nat} {s : List AV → St → Option (AV × St)} (h : TabOk cx t) (hs : ∀ args σ v σ', s args σ = some (v, σ') → ∀ π w (vs : Array Value), R π σ w → GlobOk cx π → RT π args vs.toList →
    (∃ fn, cx.P.funcs[f]? = some fn ∧ fn.body ≠ none) ∧ Calls cx.P f vs w (Post cx.P π σ w v σ')) : TabOk cx (t.add f s) := by
  intro g s' hg args σ v σ' hs' π w vs hR hG hargs
  unfold Tab.add at hg
  cases hb : Nat.beq g f with
  | true =>
    rw [hb] at hg
    cases hg
    have := Nat.eq_of_beq_eq_true hb
    subst this
    exact hs args σ v σ' hs' π w vs hR hG hargs
  | false => rw [hb] at hg; exact h g s' hg args σ v σ' hs' π w vs hR hG hargs
/-- a function of flat arguments with a flat answer: the state is left as it was -/
def flatS (spec : List AV → Option AV) : List AV → St → Option (AV × St) := fun args σ => match spec args with
  | some v => some (v, σ)
  | none => none
theorem TabOk.flat (hx : ExtOk cx) (hm : cx.P.follows .mixedOrders = true) (hg : ∀ g, cx.g.get .bad g = .bad) {t t0 : Tab} (h : TabOk cx t) (h0 : TabOk cx t0) {f : Nat} {spec : List AV → Option AV}
    (hs : ∀ args v, spec args = some v → flatVs args = true ∧ flatT v = true ∧ ∃ n σ', callK cx t0 n f args σE = some (v, σ')) : TabOk cx (t.add f (flatS spec)) := by
  refine h.add fun args σ v σ' hsp π w vs hR hG hargs => ?_
  unfold flatS at hsp
  split at hsp
  · rename_i v2 hv2
    cases hsp
    obtain ⟨h1, h2, n, σ2, h3⟩ := hs _ _ hv2
    exact flat_call (callK_ok hx h0 hm n) h3 h2 h1 hR hg hargs
  · cases hsp
theorem call_flat {t : Tab} {n f : Nat} {args : List AV} {spec : List AV → Option AV} {v : AV} (ht : t f = some (flatS spec)) (hv : spec args = some v) : callK cx t (n + 1) f args σ = some (v, σ) := by
  rw [callK_tab ht]
  unfold flatS
  rw [hv]
theorem Yl.some {r : Rs} (h : Yl r Q) : ∃ v σ', r = some (v, σ') ∧ Q v σ' := h
theorem Yl.run {r : Rs} {v : AV} (h : Yl r (fun x _ => x = v)) : ∃ σ', r = .some (v, σ') := by
  obtain ⟨v2, σ', h1, rfl⟩ := h; exact ⟨σ', h1⟩

/-! Strings. -/
theorem bytesOf_mk (l : List UInt8) : bytesOf ⟨⟨l⟩⟩ = l := rfl
theorem o_sadd {t : TypeId} {a b : List UInt8} (h : a.length + b.length ≤ 4611686018427387904) : binO cx .add t (S a) (S b) σ = .val (S (a ++ b)) := by
  show (bif Nat.ble (Nat.add (lenN a) (lenN b)) 4611686018427387904 then Out.val (.one (.str (ofBytes (a ++ b)))) else .no) = _
  rw [lenN_len, lenN_len]; simp only [Nat.add_eq]; rw [Nat.ble_eq_true_of_le h]
  rfl
theorem bytesEq_dec (a b : List UInt8) : bytesEq a b = decide (a = b) := by
  rw [bytesEq_ok]
  by_cases h : a = b <;> simp [h]
theorem o_seql {t : TypeId} {a b : List UInt8} : binO cx .eql t (S a) (S b) σ = .val (B (decide (a = b))) := by
  show Out.val (.one (.bool (bytesEq a b))) = _
  rw [bytesEq_dec]; rfl
theorem o_sneq {t : TypeId} {a b : List UInt8} : binO cx .neq t (S a) (S b) σ = .val (B (!decide (a = b))) := by
  show Out.val (.one (.bool (!bytesEq a b))) = _
  rw [bytesEq_dec]; rfl
theorem o_slen {t : TypeId} {ts : List TypeId} {a : List UInt8} (h : und cx t = some .string) : bltO cx .len (t :: ts) [S a] σ = .val (I (a.length : Nat)) := by
  show lenB cx (t :: ts) [S a] σ = _
  unfold lenB
  simp only [h]
  show Out.val (.one (.int .i64 (.ofNat (lenN a)))) = _
  rw [lenN_len]; rfl
theorem bytesAt_cells : ∀ (l : List UInt8), bytesAt (cellsOfBytes l) = some l
  | [] => rfl
  | b :: r => by
    show (bif Nat.blt b.toNat 256 then (match bytesAt (cellsOfBytes r) with | some c => some (b.toNat.toUInt8 :: c) | none => none) else none) = _
    have h : Nat.blt b.toNat 256 = true := Nat.ble_eq_true_of_le b.toNat_lt
    rw [h, bytesAt_cells r]
    simp only [cond_true]
    congr 2
    exact UInt8.ofNat_toNat
theorem cellsOf_len (l : List UInt8) : (cellsOfBytes l).length = l.length := by simp [cellsOfBytes]
theorem nth_get {α : Type} : ∀ (l : List α) (n : Nat), nth l n = l[n]?
  | [], n => by simp [nth]
  | a :: l, 0 => rfl
  | a :: l, n + 1 => by simp only [nth, List.getElem?_cons_succ]; exact nth_get l n
theorem over_one {α : Type} (c : α) : ∀ (j : Nat) (l : List α), j < l.length → over j [c] l = some (l.set j c)
  | 0, a :: l, _ => by cases l <;> rfl
  | j + 1, a :: l, h => by
    show (match over j [c] l with | some r => some (a :: r) | none => none) = _
    rw [over_one c j l (by simpa using h)]
    rfl
  | 0, [], h => by simp at h
  | j + 1, [], h => by simp at h
theorem dropN_zero {α : Type} (l : List α) : dropN 0 l = l := rfl
theorem dropN_drop {α : Type} : ∀ (n : Nat) (l : List α), dropN n l = l.drop n
  | 0, _ => rfl
  | n + 1, [] => by simp [dropN]
  | n + 1, a :: l => by show dropN n l = _; rw [dropN_drop n l]; rfl
theorem takeN_take {α : Type} : ∀ (n : Nat) (l : List α), n ≤ l.length → takeN n l = some (l.take n)
  | 0, l, _ => by simp [takeN]
  | n + 1, [], h => by simp at h
  | n + 1, a :: l, h => by
    show (match takeN n l with | some r => some (a :: r) | none => none) = _
    rw [takeN_take n l (by simpa using h)]
    rfl
theorem repN_one {α : Type} (a : α) : ∀ n, repN n [a] = List.replicate n a
  | 0 => rfl
  | n + 1 => by show [a] ++ repN n [a] = _; rw [repN_one a n]; rfl
/-- an element's address -/
theorem o_iad {t e sz n j b o : Nat} {cap : Cap} (hu : und cx t = some (.slice e)) (hs : size cx e = some sz) (h : j < n) : iadO cx t (.one (.slice (some (b, o)) n cap)) (I (j : Nat)) σ = .val (P b (o + j * sz)) := by
  show indexAddrA cx t (.one (.slice (some (b, o)) n cap)) (I (j : Nat)) = _
  unfold indexAddrA
  simp only [hu]
  show (match size cx e with | some sz => bif Nat.blt j n then Out.val (.one (.ptr (some (b, Nat.add o (Nat.mul j sz))))) else Out.no | none => Out.no) = _
  rw [hs]
  have : Nat.blt j n = true := Nat.ble_eq_true_of_le h
  simp only [this, cond_true, Nat.add_eq, Nat.mul_eq]
theorem o_mks {t e len cp : Nat} {inf : TypeInfo} {z : List CV} (hu : und cx t = some (.slice e)) (hi : cx.P.info? e = some inf) (hz : rowOf cx e inf.size cp = some z)
    (hc : (Nat.ble (inf.bytes * cp) 140737488355328 && Nat.ble len cp && Nat.ble cp 4611686018427387904 && !(Nat.beq inf.size 0)) = true) :
    mksO cx t (I (len : Nat)) (I (cp : Nat)) σ = .new (.cells z e true) (fun i => .one (.slice (some (i, 0)) len (.to inf.size))) := by
  show makeSliceA cx t (I (len : Nat)) (I (cp : Nat)) = _
  unfold makeSliceA
  simp only [hu]
  show (match cx.P.info? e with
      | some i => bif Nat.ble (i.bytes * cp) 140737488355328 && Nat.ble len cp && Nat.ble cp 4611686018427387904 && !(Nat.beq i.size 0) then
          match rowOf cx e i.size cp with
          | some z => sliceNew z e len i.size
          | none => .no
        else .no
      | none => .no) = _
  simp only [hi, hc, cond_true, hz]
  rfl
theorem o_shr {t : TypeId} {k : IntKind} {a : Int} {c : Nat} (h : c ≤ 64) : binO cx .shr t (I a) (.one (.int k (.ofNat c))) σ = .val (I (a / (2 ^ c : Nat))) := by
  show intV .i64 (Int.fdiv a (.ofNat (Nat.pow 2 (bif Nat.ble c 64 then c else 64)))) = _
  rw [Nat.ble_eq_true_of_le h, intV_eq]
  show Out.val (I (Int.fdiv a ((2 ^ c : Nat) : Int))) = _
  rw [Int.fdiv_eq_ediv_of_nonneg _ (Int.natCast_nonneg _)]
theorem o_cv8 {s d : TypeId} {su : TypeDesc} {k : IntKind} {a : Int} (hs : und cx s = some su) (hd : und cx d = some (.int .u8)) : cvO cx s d (.one (.int k a)) σ = .val (.one (.int .u8 (wrapA .u8 a))) := by
  show convA cx s d (.one (.int k a)) σ = _
  unfold convA
  simp only [hs, hd]
  exact intV_eq .u8 _
theorem o_rem {t : TypeId} {a c : Int} (h : c ≠ 0) : binO cx .rem t (I a) (I c) σ = .val (I (Int.tmod a c)) := by
  show (bif true && !(intEq c 0) then intV .i64 (Int.tmod a c) else Out.no) = _
  rw [intEq_ok]
  have : (c == 0) = false := by simpa using h
  rw [this]
  exact intV_eq .i64 _
theorem wrap8 (a : Int) : wrapA .u8 a = a % 256 := rfl
theorem o_udata {ts : List TypeId} {p : Nat × Nat} {n : Nat} {c : Cap} : bltO cx .unsafeSliceData ts [.one (.slice (some p) (n + 1) c)] σ = .val (.one (.ptr (some p))) := rfl
theorem o_ustr {t e k : Nat} {ts : List TypeId} {x : Bool} {s : List UInt8} (hu : und cx t = some (.pointer e)) (hs : size cx e = some 1) (hg : σ.get k = some (.cells (cellsOfBytes s) e x)) (hn : s ≠ []) (hl : s.length ≤ 4611686018427387904) :
    bltO cx .unsafeString (t :: ts) [P k 0, I (s.length : Nat)] σ = .st (S s) (σ.kill k) := by
  show stringB cx (t :: ts) [P k 0, I (s.length : Nat)] σ = _
  cases s with
  | nil => exact absurd rfl hn
  | cons a r =>
    have e1 : stringB cx (t :: ts) [P k 0, I ((a :: r).length : Nat)] σ = (match und cx t, σ.get k with
        | some (.pointer u), some (.cells l e _) => bif Nat.beq e u && Nat.ble (a :: r).length 4611686018427387904 then match size cx e, takeN (a :: r).length (dropN 0 l) with
          | some 1, some cs => match bytesAt cs with
            | some b => .st (.one (.str (ofBytes b))) (σ.kill k)
            | none => .no
          | _, _ => .no
          else .no
        | _, _ => .no) := rfl
    rw [e1, hu, hg]
    have hb : (Nat.beq e e && Nat.ble (a :: r).length 4611686018427387904) = true := by rw [Nat.beq_refl, Nat.ble_eq_true_of_le hl]; rfl
    simp only [hb, cond_true, hs, dropN_zero, takeN_len (l := cellsOfBytes (a :: r)) (n := (a :: r).length) (by rw [cellsOf_len]), bytesAt_cells]
    rfl
/-- bytes as a string -/
theorem o_cvS {s d e b o n : Nat} {cap : Cap} {blk : Blk} {l : List CV} {bs : List UInt8} (hs : und cx s = some (.slice e)) (he : und cx e = some (.int .u8)) (hd : und cx d = some .string) (hg : σ.get b = some blk) (hb : Blk.rd (some blk) = some l)
    (hl : takeN n (dropN o l) = some (cellsOfBytes bs)) : cvO cx s d (.one (.slice (some (b, o)) n cap)) σ = .val (S bs) := by
  show convA cx s d (.one (.slice (some (b, o)) n cap)) σ = _
  unfold convA
  simp only [hs, hd, he, hg, hb, hl, bytesAt_cells]
  rfl
end Go.Run

namespace Go.Run

/-! Numbers as bytes, the greatest first. -/
def be (k n : Nat) : List UInt8 := (List.range k).map fun i => UInt8.ofNat (n / 256 ^ (k - 1 - i) % 256)
theorem be_len (k n : Nat) : (be k n).length = k := by simp [be]
theorem be_zero (n : Nat) : be 0 n = [] := rfl
theorem be_succ (k n : Nat) : be (k + 1) n = be k (n / 256) ++ [UInt8.ofNat (n % 256)] := by
  unfold be
  rw [List.range_succ, List.map_append]
  congr 1
  · refine List.map_congr_left fun i hi => ?_
    have hi := List.mem_range.mp hi
    have e : k + 1 - 1 - i = (k - 1 - i) + 1 := by omega
    rw [e, Nat.pow_succ, Nat.mul_comm, ← Nat.div_div_eq_div_mul]
  · have e : k + 1 - 1 - k = 0 := by omega
    simp only [List.map_cons, List.map_nil, e, Nat.pow_zero, Nat.div_one]
/-- does a number go into so many bytes? -/
def fits (k : Nat) (n : Int) : Bool := decide (0 ≤ n) && decide (n < (256 ^ k : Nat))
def beS (k : Nat) (n : Int) : List UInt8 := if fits k n = true then be k n.toNat else []
theorem beS_len {k : Nat} {n : Int} (h : fits k n = true) : (beS k n).length = k := by rw [beS, if_pos h, be_len]
theorem beS_no {k : Nat} {n : Int} (h : fits k n = false) : beS k n = [] := by rw [beS, if_neg (by rw [h]; exact fun e => by cases e)]
theorem fits_iff {k : Nat} {n : Int} : fits k n = true ↔ 0 ≤ n ∧ n < (256 ^ k : Nat) := by unfold fits; rw [Bool.and_eq_true, decide_eq_true_iff, decide_eq_true_iff]
end Go.Run

namespace Go.Run
variable {cx : Cx}

/-! Calls whose arguments lie in blocks, run from these blocks alone. -/
def isCells : Blk → Bool
  | .cells _ _ _ => true
  | _ => false
def roB : Blk → Blk
  | .cells l _ _ => .ro l
  | b => b
/-- block i is the caller's block ad[i] -/
def psiL (ad : List Nat) (n : Nat) : Ren := fun i => match ad[i]? with
  | some a => (a, 0)
  | none => (n, 0)
noncomputable def parts (bl : List Blk) : St := pushAll σE (bl.map roB)
theorem part_list {σ : St} {bl : List Blk} {ad : List Nat} (hlen : ad.length = bl.length) (hc : allB isCells bl = true) (hg : ∀ (i : Nat) (a : Nat) (b : Blk), ad[i]? = some a → bl[i]? = some b → σ.get a = some (rnB (psiL ad σ.next) b)) :
    Part (psiL ad σ.next) (parts bl) σ := by
  have hn : (parts bl).next = bl.length := by unfold parts; rw [pushAll_next, List.length_map]; show 0 + bl.length = _; omega
  refine ⟨fun i hi => ?_, fun i blk hb => ?_⟩
  · rw [hn] at hi
    unfold psiL
    rw [List.getElem?_eq_none (by omega)]
  · unfold parts at hb
    rw [pushAll_get] at hb
    have h0 : σE.next = 0 := rfl
    rw [h0, if_neg (by omega), Nat.sub_zero, List.getElem?_map] at hb
    cases hk : bl[i]? with
    | none => rw [hk] at hb; cases hb
    | some b0 =>
      rw [hk] at hb
      have hb' : some (roB b0) = some blk := hb
      have hl := (List.getElem?_eq_some_iff.mp hk).1
      refine ⟨by rw [hn]; exact hl, ?_⟩
      have ha : ad[i]? = some (ad[i]'(by omega)) := List.getElem?_eq_getElem (by omega)
      have hcell := allB_mem hc b0 (List.mem_of_getElem? hk)
      have hσ := hg i _ b0 ha hk
      cases b0 with
      | cells l e x =>
        cases hb'
        refine ⟨l, .cells (l.map (rnC (psiL ad σ.next))) e x, l.map (rnC (psiL ad σ.next)), [], [], rfl, ?_, rfl, by simp, ?_⟩
        · have : (psiL ad σ.next i).1 = ad[i]'(by omega) := by unfold psiL; rw [ha]
          rw [this]; exact hσ
        · unfold psiL; rw [ha]; rfl
      | map es c => cases hcell
      | ro l => cases hcell
/-- a value that is one or an aggregate -/
def is1 : AV → Bool
  | .one _ => true
  | .agg _ => true
  | _ => false
theorem RT_rn1 {ψ : Ren} {π : Pl} : ∀ {l : List AV} {vs : List Value}, allB is1 l = true → RT π (l.map (rn1 ψ)) vs → RT (plOf ψ π) l vs
  | [], [], _, _ => by simp [RT]
  | v :: l, x :: vs, h, hr => by
    simp only [allB, Bool.and_eq_true] at h
    simp only [RT, List.map_cons] at hr ⊢
    refine ⟨?_, RT_rn1 h.2 hr.2⟩
    cases v with
    | one c => have := hr.1; simp only [RA, rn1] at this ⊢; exact RC_rn.mpr this
    | agg l => have := hr.1; simp only [RA, rn1] at this ⊢; obtain ⟨a, e, h⟩ := this; exact ⟨a, e, RL_rn.mpr h⟩
    | tup l => cases h.1
    | bad => cases h.1
  | [], _ :: _, _, h => by simp [RT] at h
  | _ :: _, [], _, h => by simp [RT] at h
theorem flatC_rn {φ : Ren} {c : CV} (h : flatC c = true) : rnC φ c = c ∧ inC (memN []) c = true := by
  cases c with
  | ptr p => cases p with
    | none => exact ⟨rfl, rfl⟩
    | some p => cases h
  | slice p l k => cases p with
    | none => exact ⟨rfl, rfl⟩
    | some p => cases h
  | map p => cases p with
    | none => exact ⟨rfl, rfl⟩
    | some p => cases h
  | func f caps => cases caps with
    | nil => exact ⟨rfl, rfl⟩
    | cons _ _ => cases h
  | _ => exact ⟨rfl, rfl⟩
theorem flatCs_rn {φ : Ren} : ∀ {l : List CV}, flatCs l = true → l.map (rnC φ) = l ∧ allB (inC (memN [])) l = true
  | [], _ => ⟨rfl, rfl⟩
  | c :: l, h => by
    simp only [flatCs, Bool.and_eq_true] at h
    obtain ⟨h1, h2⟩ := flatC_rn (φ := φ) h.1
    obtain ⟨h3, h4⟩ := flatCs_rn (φ := φ) h.2
    exact ⟨by rw [List.map_cons, h1, h3], by simp only [allB, h2, h4, Bool.and_self]⟩
theorem flatV_rn {φ : Ren} {v : AV} (h : flatV v = true) : rn1 φ v = v ∧ in1 (memN []) v = true := by
  cases v with
  | one c => obtain ⟨h1, h2⟩ := flatC_rn (φ := φ) (c := c) h; exact ⟨by simp only [rn1, h1], h2⟩
  | agg l => obtain ⟨h1, h2⟩ := flatCs_rn (φ := φ) (l := l) h; exact ⟨by simp only [rn1, h1], h2⟩
  | tup l => cases h
  | bad => cases h
theorem flatVs_rn {φ : Ren} : ∀ {l : List AV}, flatVs l = true → l.map (rn1 φ) = l ∧ allB (in1 (memN [])) l = true
  | [], _ => ⟨rfl, rfl⟩
  | c :: l, h => by
    simp only [flatVs, Bool.and_eq_true] at h
    obtain ⟨h1, h2⟩ := flatV_rn (φ := φ) h.1
    obtain ⟨h3, h4⟩ := flatVs_rn (φ := φ) h.2
    exact ⟨by rw [List.map_cons, h1, h3], by simp only [allB, h2, h4, Bool.and_self]⟩
theorem flatT_rn {φ : Ren} {v : AV} (h : flatT v = true) : rnR φ v = v ∧ inR (memN []) v = true := by
  cases v with
  | tup l => obtain ⟨h1, h2⟩ := flatVs_rn (φ := φ) (l := l) h; exact ⟨by simp only [rnR, h1], h2⟩
  | one c => exact flatV_rn (v := .one c) h
  | agg l => exact flatV_rn (v := .agg l) h
  | bad => cases h
def partS (spec : List AV → St → Option AV) : List AV → St → Option (AV × St) := fun args σ => match spec args σ with
  | some v => some (v, σ)
  | none => none
/-- a function that looks at blocks and gives a flat answer: the state is left as it was -/
theorem TabOk.part (hx : ExtOk cx) (hm : cx.P.follows .mixedOrders = true) (hg : ∀ g, cx.g.get .bad g = .bad) {t t0 : Tab} (h : TabOk cx t) (h0 : TabOk cx t0) {f : Nat} {spec : List AV → St → Option AV}
    (hs : ∀ args σ v, spec args σ = some v → flatT v = true ∧ ∃ bl ad args0 n τ', ad.length = bl.length ∧ allB isCells bl = true ∧ (∀ (i : Nat) (a : Nat) (b : Blk), ad[i]? = some a → bl[i]? = some b → σ.get a = some (rnB (psiL ad σ.next) b)) ∧
      allB is1 args0 = true ∧ args = args0.map (rn1 (psiL ad σ.next)) ∧ callK cx t0 n f args0 (parts bl) = some (v, τ')) : TabOk cx (t.add f (partS spec)) := by
  refine h.add fun args σ v σ' hsp π w vs hR hG hargs => ?_
  unfold partS at hsp
  split at hsp
  · rename_i v2 hv2
    cases hsp
    obtain ⟨h1, bl, ad, args0, n, τ', h2, h3, h4, h5, h6, h7⟩ := hs _ _ _ hv2
    obtain ⟨e1, e2⟩ := flatT_rn (φ := phi [] σ.next) h1
    have := sub_new (callK_ok hx h0 hm n) h7 (part_list h2 h3 h4) [] [] rfl List.nodup_nil rfl rfl e2 hR hg (RT_rn1 h5 (by rw [← h6]; exact hargs))
    rw [e1] at this
    exact this
  · cases hsp
theorem call_part {t : Tab} {n f : Nat} {args : List AV} {σ : St} {spec : List AV → St → Option AV} {v : AV} (ht : t f = some (partS spec)) (hv : spec args σ = some v) : callK cx t (n + 1) f args σ = some (v, σ) := by
  rw [callK_tab ht]
  unfold partS
  rw [hv]
/-- a function of flat arguments whose answer lies in new blocks -/
noncomputable def newB (spec : List AV → Option (AV × List Blk × List Nat)) : List AV → St → Option (AV × St) := fun args σ => match spec args with
  | some (v, bs, nu) => some (rnR (phi nu σ.next) v, pushAll σ (bs.map (rnB (phi nu σ.next))))
  | none => none
theorem TabOk.fresh (hx : ExtOk cx) (hm : cx.P.follows .mixedOrders = true) (hg : ∀ g, cx.g.get .bad g = .bad) {t t0 : Tab} (h : TabOk cx t) (h0 : TabOk cx t0) {f : Nat} {spec : List AV → Option (AV × List Blk × List Nat)}
    (hs : ∀ args v bs nu, spec args = some (v, bs, nu) → flatVs args = true ∧ ∃ n τ', callK cx t0 n f args σE = some (v, τ') ∧ nu.map τ'.get = bs.map some ∧ nu.Nodup ∧ allB (fun b => !b.isRo && inB (memN nu) b) bs = true ∧ inR (memN nu) v = true) : TabOk cx (t.add f (newB spec)) := by
  refine h.add fun args σ v σ' hsp π w vs hR hG hargs => ?_
  unfold newB at hsp
  split at hsp
  · rename_i v2 bs nu hv2
    cases hsp
    obtain ⟨h1, n, τ', h2, h3, h4, h5, h6⟩ := hs _ _ _ _ hv2
    have hp : Part (fun _ => (σ.next, 0)) σE σ := ⟨fun i _ => rfl, fun i b hb => by cases hb⟩
    have h3' : allB (fun x => Nat.ble σE.next x) nu = true := by
      have : ∀ l : List Nat, allB (fun x => Nat.ble σE.next x) l = true := by
        intro l
        induction l with
        | nil => rfl
        | cons a r ih => simp only [allB, ih, Bool.and_true]; exact Nat.ble_eq_true_of_le (Nat.zero_le _)
      exact this nu
    exact sub_new (callK_ok hx h0 hm n) h2 hp nu bs h3 h4 h3' h5 h6 hR hg (flatVs_ok h1 hargs)
  · cases hsp
theorem call_new {t : Tab} {n f : Nat} {args : List AV} {σ : St} {spec : List AV → Option (AV × List Blk × List Nat)} {v : AV} {bs : List Blk} {nu : List Nat} (ht : t f = some (newB spec)) (hv : spec args = some (v, bs, nu)) :
    callK cx t (n + 1) f args σ = some (rnR (phi nu σ.next) v, pushAll σ (bs.map (rnB (phi nu σ.next)))) := by
  rw [callK_tab ht]
  unfold newB
  rw [hv]
end Go.Run

namespace Go.Run
variable {cx : Cx} {σ : St} {t : TypeId}

/-! Words on whole numbers without a sign. -/
theorem u_wrap {n : Nat} : wrapA .u64 (n : Int) = ((n % 18446744073709551616 : Nat) : Int) := rfl
theorem u_bits {n : Nat} (h : n < 18446744073709551616) : bits .u64 (n : Int) = n := by
  show n % (2 ^ 64) = n
  exact Nat.mod_eq_of_lt h
theorem ou_add {a b : Nat} : binO cx .add t (Iu (a : Int)) (Iu (b : Int)) σ = .val (Iu (((a + b) % 18446744073709551616 : Nat) : Int)) := by
  show intV .u64 (wrapA .u64 ((a + b : Nat) : Int)) = _
  rw [intV_eq, u_wrap]; rfl
theorem ou_mul {a b : Nat} : binO cx .mul t (Iu (a : Int)) (Iu (b : Int)) σ = .val (Iu (((a * b) % 18446744073709551616 : Nat) : Int)) := by
  show intV .u64 (wrapA .u64 ((a * b : Nat) : Int)) = _
  rw [intV_eq, u_wrap]; rfl
theorem ou_sub {a b : Nat} (h : b ≤ a) (ha : a < 18446744073709551616) : binO cx .sub t (Iu (a : Int)) (Iu (b : Int)) σ = .val (Iu ((a - b : Nat) : Int)) := by
  have e : (a : Int) - (b : Int) = ((a - b : Nat) : Int) := by omega
  show intV .u64 (wrapA .u64 ((a : Int) - (b : Int))) = _
  rw [intV_eq, e, u_wrap, Nat.mod_eq_of_lt (by omega)]; rfl
theorem ou_and {a b : Nat} (ha : a < 18446744073709551616) (hb : b < 18446744073709551616) : binO cx .and t (Iu (a : Int)) (Iu (b : Int)) σ = .val (Iu ((a &&& b : Nat) : Int)) := by
  show intV .u64 (wrapA .u64 (.ofNat (Nat.land (bits .u64 (a : Int)) (bits .u64 (b : Int))))) = _
  rw [intV_eq, u_bits ha, u_bits hb]
  have : Nat.land a b < 18446744073709551616 := Nat.lt_of_le_of_lt Nat.and_le_left ha
  show Out.val (Iu (wrapA .u64 ((Nat.land a b : Nat) : Int))) = _
  rw [u_wrap, Nat.mod_eq_of_lt this]; rfl
theorem ou_or {a b : Nat} (ha : a < 18446744073709551616) (hb : b < 18446744073709551616) : binO cx .or t (Iu (a : Int)) (Iu (b : Int)) σ = .val (Iu ((a ||| b : Nat) : Int)) := by
  show intV .u64 (wrapA .u64 (.ofNat (Nat.lor (bits .u64 (a : Int)) (bits .u64 (b : Int))))) = _
  rw [intV_eq, u_bits ha, u_bits hb]
  have : Nat.lor a b < 2 ^ 64 := Nat.or_lt_two_pow (by exact ha) (by exact hb)
  show Out.val (Iu (wrapA .u64 ((Nat.lor a b : Nat) : Int))) = _
  rw [u_wrap, Nat.mod_eq_of_lt (by exact this)]; rfl
theorem ou_shr {a c : Nat} {k : IntKind} (h : c ≤ 64) : binO cx .shr t (Iu (a : Int)) (.one (.int k (.ofNat c))) σ = .val (Iu ((a / 2 ^ c : Nat) : Int)) := by
  show intV .u64 (Int.fdiv (a : Int) (.ofNat (Nat.pow 2 (bif Nat.ble c 64 then c else 64)))) = _
  rw [Nat.ble_eq_true_of_le h, intV_eq]
  show Out.val (Iu (Int.fdiv (a : Int) ((2 ^ c : Nat) : Int))) = _
  rw [Int.fdiv_eq_ediv_of_nonneg _ (Int.natCast_nonneg _), ← Int.natCast_ediv]
theorem ou_shl {a c : Nat} {k : IntKind} (h : c ≤ 64) : binO cx .shl t (Iu (a : Int)) (.one (.int k (.ofNat c))) σ = .val (Iu (((a * 2 ^ c) % 18446744073709551616 : Nat) : Int)) := by
  show intV .u64 (wrapA .u64 (Int.mul (a : Int) (.ofNat (Nat.pow 2 (bif Nat.ble c 64 then c else 64))))) = _
  rw [Nat.ble_eq_true_of_le h, intV_eq]
  rfl
theorem ou_rem {a b : Nat} (h : b ≠ 0) : binO cx .rem t (Iu (a : Int)) (Iu (b : Int)) σ = .val (Iu ((a % b : Nat) : Int)) := by
  show (bif true && !(intEq (b : Int) 0) then intV .u64 (Int.tmod (a : Int) (b : Int)) else Out.no) = _
  rw [intEq_ok]
  have : ((b : Int) == 0) = false := by simp only [beq_eq_false_iff_ne, ne_eq]; omega
  rw [this, intV_eq]; rfl
theorem ou_quo {a b : Nat} (h : b ≠ 0) (ha : a < 18446744073709551616) : binO cx .quo t (Iu (a : Int)) (Iu (b : Int)) σ = .val (Iu ((a / b : Nat) : Int)) := by
  show (bif true && !(intEq (b : Int) 0) then intV .u64 (wrapA .u64 (Int.tdiv (a : Int) (b : Int))) else Out.no) = _
  rw [intEq_ok]
  have : ((b : Int) == 0) = false := by simp only [beq_eq_false_iff_ne, ne_eq]; omega
  rw [this]
  show intV .u64 (wrapA .u64 ((a / b : Nat) : Int)) = _
  rw [intV_eq, u_wrap, Nat.mod_eq_of_lt (Nat.lt_of_le_of_lt (Nat.div_le_self _ _) ha)]; rfl
theorem ou_geq {a b : Nat} : binO cx .geq t (Iu (a : Int)) (Iu (b : Int)) σ = .val (B (decide (b ≤ a))) := by
  show Out.val (B (!(intLt (a : Int) (b : Int)))) = _
  rw [intLt_ok]
  by_cases h : a < b
  · rw [decide_eq_true (by omega), decide_eq_false (by omega)]; rfl
  · rw [decide_eq_false (by omega), decide_eq_true (by omega)]; rfl
theorem ou_gtr {a b : Nat} : binO cx .gtr t (Iu (a : Int)) (Iu (b : Int)) σ = .val (B (decide (b < a))) := by
  show Out.val (B (intLt (b : Int) (a : Int))) = _
  rw [intLt_ok]
  by_cases h : b < a
  · rw [decide_eq_true (by omega), decide_eq_true h]
  · rw [decide_eq_false (by omega), decide_eq_false h]
theorem ou_eql {a b : Nat} : binO cx .eql t (Iu (a : Int)) (Iu (b : Int)) σ = .val (B (decide (a = b))) := by
  show Out.val (B (intEq (a : Int) (b : Int))) = _
  rw [intEq_ok]
  by_cases h : a = b
  · subst h; simp
  · have : ((a : Int) == (b : Int)) = false := by simp only [beq_eq_false_iff_ne, ne_eq]; omega
    rw [this, decide_eq_false h]
/-- modulo the prime 2^61 - 1 -/
def PR : Nat := 2305843009213693951
theorem and_PR (a : Nat) : a &&& 2305843009213693951 = a % 2305843009213693952 := by
  have : (2305843009213693951 : Nat) = 2 ^ 61 - 1 := by decide
  rw [this, Nat.and_two_pow_sub_one_eq_mod]
theorem fold_PR (a : Nat) : (a % 2305843009213693952 + a / 2305843009213693952) % PR = a % PR := by unfold PR; omega
/-- what is made smaller once -/
theorem of_PR {a : Nat} (h : a < 18446744073709551616) : (if 2305843009213693951 ≤ a % 2305843009213693952 + a / 2305843009213693952 then a % 2305843009213693952 + a / 2305843009213693952 - 2305843009213693951 else a % 2305843009213693952 + a / 2305843009213693952) = a % PR := by
  unfold PR
  split <;> omega
end Go.Run

namespace Go.Run
variable {cx : Cx} {σ σ' : St}

/-! Deep values: what a cell stands for, its slices laid open. -/
inductive DV where
  | flat (c : CV)
  | sl (sz : Nat) (es : List (List DV))
/-- what there is stays -/
def Gr (σ σ' : St) : Prop := σ.next ≤ σ'.next ∧ ∀ i, i < σ.next → σ'.get i = σ.get i
theorem Gr.refl (σ : St) : Gr σ σ := ⟨Nat.le_refl _, fun _ _ => rfl⟩
theorem Gr.trans {a b c : St} (h : Gr a b) (h' : Gr b c) : Gr a c := ⟨Nat.le_trans h.1 h'.1, fun i hi => (h'.2 i (Nat.lt_of_lt_of_le hi h.1)).trans (h.2 i hi)⟩
theorem Gr.push (σ : St) (b : Blk) : Gr σ (σ.push b) := ⟨by rw [St.next_push]; omega, fun i hi => by rw [St.get_push, if_neg (by omega)]⟩
theorem Gr.gap (σ : St) (n : Nat) : Gr σ (σ.gap n) := ⟨by rw [St.next_gap]; omega, fun i _ => rfl⟩
theorem Gr.put {σ σ' : St} (h : Gr σ σ') {j : Nat} (b : Blk) (hj : σ.next ≤ j) : Gr σ (σ'.put j b) := ⟨h.1, fun i hi => by rw [St.get_put, if_neg (by omega)]; exact h.2 i hi⟩
theorem Gr.lay {σ σ' : St} (h : Gr σ σ') {j : Nat} (b : Blk) (hj : σ.next ≤ j) : Gr σ (σ'.lay j b) := ⟨h.1, fun i hi => by rw [St.get_lay, if_neg (by omega)]; exact h.2 i hi⟩
theorem Gr.kill {σ σ' : St} (h : Gr σ σ') {j : Nat} (hj : σ.next ≤ j) : Gr σ (σ'.kill j) := ⟨h.1, fun i hi => by rw [St.get_kill, if_neg (by omega)]; exact h.2 i hi⟩

/-- ok: the blocks that it may lie in -/
inductive Rep (ok : Nat → Prop) (σ : St) : CV → DV → Prop
  | flat {c : CV} (h : flatC c = true) : Rep ok σ c (.flat c)
  | nil {sz : Nat} : Rep ok σ (.slice none 0 (.ex 0)) (.sl sz [])
  | sl {b o sz n : Nat} {cap : Cap} {blk : Blk} {l : List CV} {es : List (List DV)} (f : Nat → Nat → CV) (ho : ok b) (hb : b < σ.next) (hg : σ.get b = some blk) (hr : Blk.rd (some blk) = some l) (hn : es.length = n)
      (hl : ∀ (i : Nat) (e : List DV), es[i]? = some e → e.length = sz) (hc : ∀ (i : Nat) (e : List DV) (k : Nat) (d : DV), es[i]? = some e → e[k]? = some d → l[o + i * sz + k]? = some (f i k))
      (hd : ∀ (i : Nat) (e : List DV) (k : Nat) (d : DV), es[i]? = some e → e[k]? = some d → Rep ok σ (f i k) d) : Rep ok σ (.slice (some (b, o)) n cap) (.sl sz es)
theorem Rep.to {ok ok' : Nat → Prop} {c : CV} {d : DV} (h : Rep ok σ c d) (e : ∀ i, ok i → i < σ.next → σ'.get i = σ.get i ∧ i < σ'.next ∧ ok' i) : Rep ok' σ' c d := by
  induction h with
  | flat h => exact .flat h
  | nil => exact .nil
  | sl f ho hb hg hr hn hl hc hd ih => exact .sl f (e _ ho hb).2.2 (e _ ho hb).2.1 ((e _ ho hb).1.trans hg) hr hn hl hc ih
theorem Rep.ext {ok : Nat → Prop} {c : CV} {d : DV} (h : Rep ok σ c d) (e : Gr σ σ') : Rep ok σ' c d := h.to fun i ho hi => ⟨e.2 i hi, Nat.lt_of_lt_of_le hi e.1, ho⟩
theorem Rep.any {ok : Nat → Prop} {c : CV} {d : DV} (h : Rep ok σ c d) : Rep (fun _ => True) σ c d := h.to fun i _ hi => ⟨rfl, hi, trivial⟩
/-- cells one by one -/
inductive RepL (ok : Nat → Prop) (σ : St) : List CV → List DV → Prop
  | nil : RepL ok σ [] []
  | cons {c : CV} {d : DV} {cs : List CV} {ds : List DV} (h : Rep ok σ c d) (t : RepL ok σ cs ds) : RepL ok σ (c :: cs) (d :: ds)
variable {ok ok' : Nat → Prop}
theorem RepL.to {cs : List CV} {ds : List DV} (h : RepL ok σ cs ds) (e : ∀ i, ok i → i < σ.next → σ'.get i = σ.get i ∧ i < σ'.next ∧ ok' i) : RepL ok' σ' cs ds := by
  induction h with
  | nil => exact .nil
  | cons h t ih => exact .cons (h.to e) ih
theorem RepL.ext {cs : List CV} {ds : List DV} (h : RepL ok σ cs ds) (e : Gr σ σ') : RepL ok σ' cs ds := h.to fun i ho hi => ⟨e.2 i hi, Nat.lt_of_lt_of_le hi e.1, ho⟩
theorem RepL.any {cs : List CV} {ds : List DV} (h : RepL ok σ cs ds) : RepL (fun _ => True) σ cs ds := h.to fun i _ hi => ⟨rfl, hi, trivial⟩
theorem RepL.len {cs : List CV} {ds : List DV} (h : RepL ok σ cs ds) : cs.length = ds.length := by
  induction h with
  | nil => rfl
  | cons h t ih => simp [ih]
theorem RepL.get {cs : List CV} {ds : List DV} (h : RepL ok σ cs ds) : ∀ {k : Nat} {d : DV}, ds[k]? = some d → ∃ c, cs[k]? = some c ∧ Rep ok σ c d := by
  induction h with
  | nil => intro k d hk; simp at hk
  | cons h t ih =>
    intro k d hk
    cases k with
    | zero => simp at hk; subst hk; exact ⟨_, rfl, h⟩
    | succ k => simpa using ih (by simpa using hk)
theorem RepL.append {a b : List CV} {x y : List DV} (h : RepL ok σ a x) (h' : RepL ok σ b y) : RepL ok σ (a ++ b) (x ++ y) := by
  induction h with
  | nil => exact h'
  | cons h t ih => exact .cons h ih
theorem RepL.of_get : ∀ {ds : List DV} {cs : List CV}, cs.length = ds.length → (∀ (k : Nat) (d : DV), ds[k]? = some d → ∃ c, cs[k]? = some c ∧ Rep ok σ c d) → RepL ok σ cs ds
  | [], [], _, _ => .nil
  | d :: ds, c :: cs, hl, h => by
    obtain ⟨c', h1, h2⟩ := h 0 d rfl
    simp at h1
    subst h1
    exact .cons h2 (RepL.of_get (by simpa using hl) fun k d hk => by simpa using h (k + 1) d (by simpa using hk))
  | [], _ :: _, hl, _ => by simp at hl
  | _ :: _, [], hl, _ => by simp at hl
/-- an element of a slice: where it lies, its cells -/
theorem Rep.elem {cv : CV} {sz : Nat} {es : List (List DV)} (h : Rep ok σ cv (.sl sz es)) {j : Nat} {e : List DV} (he : es[j]? = some e) :
    ∃ b o cap blk l cs, cv = .slice (some (b, o)) es.length cap ∧ ok b ∧ b < σ.next ∧ σ.get b = some blk ∧ Blk.rd (some blk) = some l ∧ takeN sz (dropN (o + j * sz) l) = some cs ∧ RepL ok σ cs e ∧ e.length = sz := by
  cases h with
  | nil => simp at he
  | sl f ho hb hg hr hn hl hc hd =>
    rename_i b o n cap blk l
    subst hn
    have hlen := hl j e he
    have hcs : (l.drop (o + j * sz)).take sz = (List.range sz).map (f j) := by
      apply List.ext_getElem?
      intro k
      by_cases hk : k < sz
      · have hd' : e[k]? = some (e[k]'(by omega)) := List.getElem?_eq_getElem (by omega)
        rw [List.getElem?_take, if_pos hk, List.getElem?_drop, hc j e k _ he hd', List.getElem?_map, List.getElem?_range hk]; rfl
      · rw [List.getElem?_take, if_neg hk, List.getElem?_eq_none (by simp; omega)]
    have hfit : sz ≤ (l.drop (o + j * sz)).length := by
      have := congrArg List.length hcs
      simp only [List.length_take, List.length_map, List.length_range] at this
      omega
    refine ⟨b, o, cap, blk, l, (List.range sz).map (f j), rfl, ho, hb, hg, hr, ?_, ?_, hlen⟩
    · rw [dropN_drop, takeN_take _ _ hfit, hcs]
    · refine RepL.of_get (by simp [hlen]) fun k d hk => ?_
      have hk' : k < sz := by rw [← hlen]; exact (List.getElem?_eq_some_iff.mp hk).1
      exact ⟨f j k, by rw [List.getElem?_map, List.getElem?_range hk']; rfl, hd j e k d he hk⟩
theorem Rep.len {cv : CV} {sz : Nat} {es : List (List DV)} (h : Rep ok σ cv (.sl sz es)) : ∃ p cap, cv = .slice p es.length cap := by
  cases h with
  | nil => exact ⟨none, .ex 0, rfl⟩
  | sl f ho hb hg hr hn hl hc hd => subst hn; exact ⟨_, _, rfl⟩
/-- a slice of a block's cells -/
theorem Rep.mk {b o sz : Nat} {cap : Cap} {blk : Blk} {l : List CV} {es : List (List DV)} (ho : ok b) (hb : b < σ.next) (hg : σ.get b = some blk) (hr : Blk.rd (some blk) = some l) (hl : ∀ (i : Nat) (e : List DV), es[i]? = some e → e.length = sz)
    (hc : ∀ (i : Nat) (e : List DV), es[i]? = some e → ∃ cs, takeN sz (dropN (o + i * sz) l) = some cs ∧ RepL ok σ cs e) : Rep ok σ (.slice (some (b, o)) es.length cap) (.sl sz es) := by
  have get : ∀ (i : Nat) (e : List DV) (k : Nat) (d : DV), es[i]? = some e → e[k]? = some d → ∃ c, l[o + i * sz + k]? = some c ∧ Rep ok σ c d := by
    intro i e k d he hk
    obtain ⟨cs, h1, h2⟩ := hc i e he
    obtain ⟨c, h3, h4⟩ := h2.get hk
    have hsz := hl i e he
    have hlen := h2.len
    refine ⟨c, ?_, h4⟩
    have hfit : sz ≤ (l.drop (o + i * sz)).length := by
      rcases Nat.lt_or_ge (l.drop (o + i * sz)).length sz with h | h
      · exfalso
        rw [dropN_drop] at h1
        have key : ∀ (n : Nat) (x : List CV), x.length < n → takeN n x = none := by
          intro n
          induction n with
          | zero => intro x hx; omega
          | succ n ih =>
            intro x hx
            cases x with
            | nil => rfl
            | cons a r =>
              simp only [takeN, ih r (by simpa using hx)]
        rw [key _ _ h] at h1
        cases h1
      · exact h
    rw [dropN_drop, takeN_take _ _ hfit] at h1
    cases h1
    rw [List.getElem?_take] at h3
    split at h3
    · rw [List.getElem?_drop] at h3; exact h3
    · cases h3
  refine .sl (fun i k => (l[o + i * sz + k]?).getD .nilI) ho hb hg hr rfl hl (fun i e k d he hk => ?_) (fun i e k d he hk => ?_)
  · obtain ⟨c, h1, _⟩ := get i e k d he hk; rw [h1]; rfl
  · obtain ⟨c, h1, h2⟩ := get i e k d he hk; rw [h1]; exact h2
/-! Numbers, strings, bools. -/
abbrev dI (n : Int) : DV := .flat (.int .i64 n)
abbrev dU (n : Nat) : DV := .flat (.int .u64 (n : Int))
abbrev dB (b : Bool) : DV := .flat (.bool b)
abbrev dS (l : List UInt8) : DV := .flat (.str ⟨⟨l⟩⟩)
def dInts (l : List Int) : DV := .sl 1 (l.map fun n => [dI n])
def dBools (l : List Bool) : DV := .sl 1 (l.map fun n => [dB n])
theorem Rep.of_flat {c d : CV} (h : Rep ok σ c (.flat d)) : c = d := by cases h; rfl
end Go.Run

namespace Go.Run
variable {cx : Cx} {call : CallF} {σ σ' : St} {Q : AV → St → Prop}

/-! Chains of conditions. -/
section
variable {p b : Bool} {x c : Int} {t : TypeId} {K : AV → Kt} {o : St → Out}
/-- .. or x < c -/
theorem y_orl (h : Yl (K (B (p || decide (x < c))) σ) Q) :
    Yl (bnd (gdO (wantV (B p) false) (fun _ => .val (I x))) (fun v => bnd (gdO (wantV (B p) false) (binO cx .lss t v (I c))) fun w => bnd (pickO (B p) (B true) w) K) σ) Q := by
  cases p with
  | true => exact y_goff rfl (y_goff rfl (y_val rfl (by rw [Bool.true_or] at h; exact h)))
  | false => exact y_gon rfl rfl (y_gon rfl o_lss (y_val rfl (by rw [Bool.false_or] at h; exact h)))
/-- .. or x > c -/
theorem y_org (h : Yl (K (B (p || decide (c < x))) σ) Q) :
    Yl (bnd (gdO (wantV (B p) false) (fun _ => .val (I x))) (fun v => bnd (gdO (wantV (B p) false) (binO cx .gtr t v (I c))) fun w => bnd (pickO (B p) (B true) w) K) σ) Q := by
  cases p with
  | true => exact y_goff rfl (y_goff rfl (y_val rfl (by rw [Bool.true_or] at h; exact h)))
  | false => exact y_gon rfl rfl (y_gon rfl o_gtr (y_val rfl (by rw [Bool.false_or] at h; exact h)))
/-- .. and x < c -/
theorem y_anl (h : Yl (K (B (p && decide (x < c))) σ) Q) :
    Yl (bnd (gdO (wantV (B p) true) (fun _ => .val (I x))) (fun v => bnd (gdO (wantV (B p) true) (binO cx .lss t v (I c))) fun w => bnd (pickO (B p) w (B false)) K) σ) Q := by
  cases p with
  | false => exact y_goff rfl (y_goff rfl (y_val rfl (by rw [Bool.false_and] at h; exact h)))
  | true => exact y_gon rfl rfl (y_gon rfl o_lss (y_val rfl (by rw [Bool.true_and] at h; exact h)))
end
/-- a call by what is known of it -/
theorem y_cyl {f : FuncId} {args : List AV} {k : AV → Kt} {Q' : AV → St → Prop} (hx : cx.ext f = none) (h : Yl (call f args σ) Q') (hk : ∀ v σ', Q' v σ' → Yl (k v σ') Q) : Yl (bnd (calO cx call (fnV f) args) k σ) Q := by
  obtain ⟨v, σ', h1, h2⟩ := h
  exact y_cal hx h1 (hk v σ' h2)
theorem y_dcyl {f : FuncId} {args : List AV} {k : AV → St → Kt} {Q' : AV → St → Prop} (hx : cx.ext f = none) (h : Yl (call f args σ) Q') (hk : ∀ v σ', Q' v σ' → Yl (k v σ' σ') Q) : Yl (dEff (calO cx call (fnV f) args) k σ) Q := by
  obtain ⟨v, σ', h1, h2⟩ := h
  exact y_dcall hx h1 (hk v σ' h2)
end Go.Run

namespace Go.Run
variable {cx : Cx} {call : CallF} {σ σ' : St} {Q : AV → St → Prop}

/-! A slice that is made by appending. -/
/-- the block it lies in is its own: its cells, whole elements of sz + 1 cells -/
def Own (lo : Nat) (σ : St) (sz : Nat) (e : TypeId) (cv : CV) (l : List CV) : Prop :=
  (cv = .slice none 0 (.ex 0) ∧ l = []) ∨ ∃ k n, cv = .slice (some (k, 0)) n (.to (sz + 1)) ∧ lo ≤ k ∧ k < σ.next ∧ σ.get k = some (.cells l e false) ∧ l.length = n * (sz + 1)
def isAt (cv : CV) (i : Nat) : Prop := ∃ n c, cv = .slice (some (i, 0)) n c
theorem isAt_nil {i : Nat} : ¬ isAt (.slice none 0 (.ex 0)) i := by rintro ⟨n, c, h⟩; cases h
theorem Own.to {lo sz : Nat} {e : TypeId} {cv : CV} {l : List CV} (h : Own lo σ sz e cv l) (hn : σ.next ≤ σ'.next) (hg : ∀ i, isAt cv i → σ'.get i = σ.get i) : Own lo σ' sz e cv l := by
  rcases h with h | ⟨k, n, rfl, h1, h2, h3, h4⟩
  · exact .inl h
  · exact .inr ⟨k, n, rfl, h1, by omega, (hg k ⟨n, _, rfl⟩).trans h3, h4⟩
theorem Own.nil {lo sz : Nat} {e : TypeId} : Own lo σ sz e (.slice none 0 (.ex 0)) [] := .inl ⟨rfl, rfl⟩
theorem own_append {t e sz by' lo vb : Nat} {cv : CV} {l new : List CV} {xb : Blk} (hu : und cx t = some (.slice e)) (hi : (cx.P.info? e).map (fun t => (t.size, t.bytes)) = some (sz + 1, by')) (hno : noInt cx [t] = true) (hrow : (rowOf cx e (sz + 1) 1).isSome = true)
    (h : Own lo σ sz e cv l) (hlo : lo ≤ σ.next) (hv : σ.get vb = some xb) (hr : Blk.rd (some xb) = some new) (hnew : new.length = sz + 1) (hl : l.length ≤ 1000000) (hb : by' ≤ 10000) :
    ∃ cv' σ', bltO cx .append [t, t] [.one cv, .one (.slice (some (vb, 0)) 1 (.to (sz + 1)))] σ = .st (.one cv') σ' ∧ Own lo σ' sz e cv' (l ++ new) ∧ σ'.next = σ.next + 1 ∧ (∀ i, i < σ.next → ¬ isAt cv i → σ'.get i = σ.get i) ∧ (∀ i, isAt cv' i → i = σ.next) := by
  obtain ⟨inf, h1, h2⟩ := Option.map_eq_some_iff.mp hi
  obtain ⟨h3, h4⟩ := Prod.mk.inj h2
  have h3 : inf.size = sz + 1 := h3
  have h4 : inf.bytes = by' := h4
  obtain ⟨row, hrow⟩ := Option.isSome_iff_exists.mp hrow
  have cond : ∀ n, n ≤ 1000000 → (noInt cx [t] && !(Nat.beq inf.size 0) && Nat.ble (Nat.mul (Nat.add (Nat.mul 2 (Nat.add n 1)) 2048) inf.bytes) 140737488355328 && Nat.ble (Nat.add n 1) 4611686018427387904) = true := by
    intro n hn
    have a2 : Nat.ble (Nat.mul (Nat.add (Nat.mul 2 (Nat.add n 1)) 2048) inf.bytes) 140737488355328 = true := by
      refine Nat.ble_eq_true_of_le ?_
      show (2 * (n + 1) + 2048) * inf.bytes ≤ _
      rw [h4]
      exact Nat.le_trans (Nat.mul_le_mul (show 2 * (n + 1) + 2048 ≤ 2002050 by omega) hb) (by decide)
    have a3 : Nat.ble (Nat.add n 1) 4611686018427387904 = true := Nat.ble_eq_true_of_le (by show n + 1 ≤ _; omega)
    rw [hno, h3, a2, a3]; rfl
  have hfirst : firstA inf.size 1 (.one (.slice (some (vb, 0)) 1 (.to (sz + 1)))) σ = some new := by
    rw [h3]
    show (match Blk.rd (σ.get vb) with | some l => takeN (Nat.mul 1 (sz + 1)) (dropN 0 l) | none => none) = _
    rw [hv, hr]
    show takeN (1 * (sz + 1)) new = _
    exact takeN_len (by omega)
  rcases h with ⟨rfl, rfl⟩ | ⟨k, n, rfl, k1, k2, k3, k4⟩
  · refine ⟨.slice (some (σ.next, 0)) (0 + 1) (.to (sz + 1)), σ.push (.cells new e false), ?_, .inr ⟨σ.next, 0 + 1, rfl, hlo, by rw [St.next_push]; omega, by rw [St.get_push, if_pos rfl]; simp, by simp [hnew]⟩, rfl, fun i hi _ => by rw [St.get_push, if_neg (by omega)], ?_⟩
    · rw [o_append hu h1 rfl (cond 0 (by omega)) hfirst (by rw [h3]; exact hrow) rfl, h3]
      exact append_nil
    · rintro i ⟨n, c, hc⟩; cases hc; rfl
  · have hn : n ≤ 1000000 := by
      have : n ≤ n * (sz + 1) := Nat.le_mul_of_pos_right n (by omega)
      omega
    refine ⟨.slice (some (σ.next, 0)) (n + 1) (.to (sz + 1)), (σ.kill k).push (.cells (l ++ new) e false), ?_, .inr ⟨σ.next, n + 1, rfl, hlo, by rw [St.next_push, St.next_kill]; omega, by rw [get_kp, if_pos rfl], ?_⟩, by rw [St.next_push, St.next_kill], fun i hi hne => ?_, ?_⟩
    · rw [o_append hu h1 rfl (cond n hn) hfirst (by rw [h3]; exact hrow) rfl, h3]
      exact append_full k3 k4 (by omega)
    · rw [List.length_append, k4, hnew, Nat.add_mul]; omega
    · rw [get_kp, if_neg (by omega), if_neg (fun e => hne ⟨n, _, by rw [e]⟩)]
    · rintro i ⟨n, c, hc⟩; cases hc; rfl
/-- such a slice, its elements laid open -/
theorem Own.rep {lo sz : Nat} {e : TypeId} {cv : CV} {l : List CV} {ok : Nat → Prop} {es : List (List DV)} (h : Own lo σ sz e cv l) (hok : ∀ i, isAt cv i → ok i) (hl : ∀ x ∈ es, x.length = sz + 1) (hr : RepL ok σ l es.flatten) : Rep ok σ cv (.sl (sz + 1) es) := by
  rcases h with ⟨rfl, rfl⟩ | ⟨k, n, rfl, k1, k2, k3, k4⟩
  · cases es with
    | nil => exact .nil
    | cons x r =>
      exfalso
      have := hr.len
      have hx := hl x (by simp)
      simp only [List.length_nil, List.flatten_cons, List.length_append] at this
      omega
  · have hlen : es.length = n := by
      have h1 := hr.len
      have h2 : ∀ (es : List (List DV)), (∀ x ∈ es, x.length = sz + 1) → es.flatten.length = es.length * (sz + 1) := by
        intro es
        induction es with
        | nil => intro _; simp
        | cons x r ih =>
          intro h
          rw [List.flatten_cons, List.length_append, ih (fun y hy => h y (by simp [hy])), h x (by simp), List.length_cons, Nat.add_mul]; omega
      rw [h2 es hl, k4] at h1
      exact (Nat.eq_of_mul_eq_mul_right (by omega) h1).symm
    subst hlen
    refine Rep.mk (hok k ⟨_, _, rfl⟩) k2 k3 rfl (fun i x hx => hl x (List.mem_of_getElem? hx)) fun i x hx => ?_
    have hsl : ∀ (es : List (List DV)) (l : List CV), (∀ x ∈ es, x.length = sz + 1) → RepL ok σ l es.flatten → ∀ (i : Nat) (x : List DV), es[i]? = some x → ∃ cs, takeN (sz + 1) (dropN (0 + i * (sz + 1)) l) = some cs ∧ RepL ok σ cs x := by
      intro es
      induction es with
      | nil => intro l _ _ i x hx; simp at hx
      | cons y r ih =>
        intro l hl hr i x hx
        have hy := hl y (by simp)
        rw [List.flatten_cons] at hr
        have split : ∀ (a b : List DV) (l : List CV), RepL ok σ l (a ++ b) → RepL ok σ (l.take a.length) a ∧ RepL ok σ (l.drop a.length) b := by
          intro a
          induction a with
          | nil => intro b l h; exact ⟨.nil, h⟩
          | cons d a ih =>
            intro b l h
            cases h with
            | cons h t => obtain ⟨h1, h2⟩ := ih b _ t; exact ⟨.cons h h1, h2⟩
        obtain ⟨s1, s2⟩ := split y r.flatten l hr
        rw [hy] at s1 s2
        cases i with
        | zero =>
          simp at hx
          subst hx
          have hfit : sz + 1 ≤ l.length := by have := s1.len; rw [List.length_take, hy] at this; omega
          exact ⟨l.take (sz + 1), by rw [Nat.zero_mul, dropN_zero, takeN_take _ _ hfit], s1⟩
        | succ i =>
          obtain ⟨cs, c1, c2⟩ := ih (l.drop (sz + 1)) (fun z hz => hl z (by simp [hz])) s2 i x (by simpa using hx)
          refine ⟨cs, ?_, c2⟩
          rw [← c1, dropN_drop, dropN_drop, List.drop_drop]
          congr 2
          rw [Nat.add_mul]; omega
    exact hsl es l hl hr i x hx
end Go.Run

namespace Go.Run
variable {cx : Cx} {σ : St}

/-! Parts of slices, and copy. -/
theorem over_nil {α : Type} (l : List α) : over 0 [] l = some l := by cases l <;> rfl
theorem over_front {α : Type} : ∀ (v b c : List α), v.length = b.length → over 0 v (b ++ c) = some (v ++ c)
  | [], [], c, _ => over_nil c
  | x :: v, y :: b, c, h => by
    show (match over 0 v (b ++ c) with | some r => some (x :: r) | none => none) = _
    rw [over_front v b c (by simpa using h)]; rfl
  | [], _ :: _, _, h => by simp at h
  | _ :: _, [], _, h => by simp at h
theorem over_app {α : Type} : ∀ (a v b c : List α), v.length = b.length → over a.length v (a ++ (b ++ c)) = some (a ++ (v ++ c))
  | [], v, b, c, h => over_front v b c h
  | x :: a, v, b, c, h => by
    show (match over a.length v (a ++ (b ++ c)) with | some r => some (x :: r) | none => none) = _
    rw [over_app a v b c h]; rfl
/-- s[i:] -/
theorem o_from {t e sz b o n i : Nat} (hu : und cx t = some (.slice e)) (hs : size cx e = some (sz + 1)) (hi : i ≤ n) : slcO cx t (.one (.slice (some (b, o)) n (.to (sz + 1)))) (some (I (i : Nat))) none none σ = .val (.one (.slice (some (b, o + i * (sz + 1))) (n - i) (.to (sz + 1)))) := by
  show sliceF cx t (.one (.slice (some (b, o)) n (.to (sz + 1)))) (some (I (i : Nat))) none none σ = _
  unfold sliceF
  simp only [hu, hs]
  show sliceTwo (b, o) n (.to (sz + 1)) (sz + 1) (some i) (some n) σ = _
  unfold sliceTwo
  have h1 : Nat.ble i n = true := Nat.ble_eq_true_of_le hi
  have h2 : Nat.ble n n = true := Nat.ble_eq_true_of_le (Nat.le_refl _)
  simp only [h1, h2, cond_true, Nat.beq_refl]
  rfl
/-- s[:i] -/
theorem o_upto {t e sz b o n i : Nat} (hu : und cx t = some (.slice e)) (hs : size cx e = some (sz + 1)) (hi : i ≤ n) : slcO cx t (.one (.slice (some (b, o)) n (.to (sz + 1)))) none (some (I (i : Nat))) none σ = .val (.one (.slice (some (b, o + 0 * (sz + 1))) (i - 0) (.to (sz + 1)))) := by
  show sliceF cx t (.one (.slice (some (b, o)) n (.to (sz + 1)))) none (some (I (i : Nat))) none σ = _
  unfold sliceF
  simp only [hu, hs]
  show sliceTwo (b, o) n (.to (sz + 1)) (sz + 1) (some 0) (some i) σ = _
  unfold sliceTwo
  have h1 : Nat.ble 0 i = true := Nat.ble_eq_true_of_le (Nat.zero_le _)
  have h2 : Nat.ble i n = true := Nat.ble_eq_true_of_le hi
  simp only [h1, h2, cond_true, Nat.beq_refl]
  rfl
/-- copy between slices -/
theorem o_copy {t e sz b o n b2 o2 n2 m : Nat} {ts : List TypeId} {c c2 : Cap} {blk2 : Blk} {l l2 l' cs : List CV} {e1 : TypeId} {x : Bool} (hu : und cx t = some (.slice e)) (hs : size cx e = some (sz + 1)) (hm : m = min n n2) (hm0 : m ≠ 0)
    (hg2 : σ.get b2 = some blk2) (hr2 : Blk.rd (some blk2) = some l2) (hc : takeN (m * (sz + 1)) (dropN o2 l2) = some cs) (hg : σ.get b = some (.cells l e1 x)) (ho : over o cs l = some l') :
    bltO cx .copy (t :: ts) [.one (.slice (some (b, o)) n c), .one (.slice (some (b2, o2)) n2 c2)] σ = .st (I (m : Nat)) (σ.put b (.cells l' e1 x)) := by
  show copyA cx (t :: ts) [.one (.slice (some (b, o)) n c), .one (.slice (some (b2, o2)) n2 c2)] σ = _
  unfold copyA
  simp only [hu, hs, lenA]
  have hmin : (bif Nat.ble n n2 then n else n2) = m := by
    rcases Nat.le_total n n2 with h | h
    · rw [Nat.ble_eq_true_of_le h, hm, Nat.min_eq_left h]; rfl
    · rw [hm, Nat.min_eq_right h]
      rcases Nat.eq_or_lt_of_le h with h' | h'
      · rw [Nat.ble_eq_true_of_le (by omega), h']; rfl
      · have : Nat.ble n n2 = false := by
          cases hb : Nat.ble n n2 with
          | false => rfl
          | true => have := Nat.le_of_ble_eq_true hb; omega
        rw [this]; rfl
  rw [hmin]
  have hb0 : Nat.beq m 0 = false := by
    cases hb : Nat.beq m 0 with
    | false => rfl
    | true => exact absurd (Nat.eq_of_beq_eq_true hb) hm0
  have hf : firstA (sz + 1) m (.one (.slice (some (b2, o2)) n2 c2)) σ = some cs := by
    show (bif Nat.beq m 0 then some [] else match Blk.rd (σ.get b2) with | some l => takeN (Nat.mul m (sz + 1)) (dropN o2 l) | none => none) = _
    rw [hb0, hg2, hr2]
    exact hc
  simp only [hf, hb0, cond_false]
  unfold storeCellsA
  simp only [hg, ho]
  rfl
theorem o_cvi {s d : TypeId} {su : TypeDesc} {k : IntKind} {a : Nat} (hs : und cx s = some su) (hd : und cx d = some (.int .i64)) (h : a < 9223372036854775808) : cvO cx s d (.one (.int k (a : Int))) σ = .val (I (a : Nat)) := by
  show convA cx s d (.one (.int k (a : Int))) σ = _
  unfold convA
  simp only [hs, hd]
  rw [intV_eq, wrap_id (by omega) (by omega)]; rfl
end Go.Run

namespace Go.Run
variable {cx : Cx}

/-! Calls that are run from blocks alone, where a variable of the program lies in block 0. -/
/-- the variables that a setting knows lie in block 0 -/
def Glob0 (cx : Cx) : Prop := ∀ g, cx.g.get .bad g = .bad ∨ cx.g.get .bad g = .one (.ptr (some (0, 0)))
theorem GlobOk.part {ψ : Ren} {π : Pl} (h0 : Glob0 cx) (hψ : ψ 0 = (0, 0)) (h : GlobOk cx π) : GlobOk cx (plOf ψ π) := fun g => by
  have hg := h g
  rcases h0 g with e | e
  · rw [e]; simp only [RA]
  · rw [e] at hg ⊢
    simp only [RA] at hg ⊢
    refine RC_rn.mpr ?_
    simp only [rnC, rnP, hψ]
    exact hg
theorem sub_callG {call : CallF} (hc : CallOk cx call) {f : FuncId} {args : List AV} {v : AV} {ψ φ : Ren} {n : Nat} {ν : Nat → Nat} {ok : Nat → Bool} {τ τ' σ σ'' : St} {π : Pl} {w : World} (h : call f args τ = some (v, τ')) (hP : Part ψ τ σ) (hB : Back ψ φ n ν ok τ τ' σ σ'') (hv : inR ok v = true)
    (hR : R π σ w) (hG : GlobOk cx (plOf ψ π)) {vs : Array Value} (hargs : RT (plOf ψ π) args vs.toList) : (∃ fn, cx.P.funcs[f]? = some fn ∧ fn.body ≠ none) ∧ Calls cx.P f vs w (Post cx.P π σ w (rnR φ v) σ'') := by
  obtain ⟨h1, h2⟩ := hc f args τ v τ' h (plOf ψ π) w vs (hP.R hR) hG hargs
  refine ⟨h1, h2.mono ?_⟩
  rintro e w' ⟨π2, x, rfl, k1, k2, k3⟩
  exact ⟨plAt σ n ν π π2, x, rfl, hB.R hP hR k1 k3, RA_out (hB.le hP hR k3) hv k2, hB.go hP hR k1 k3⟩
def okM (k : Nat) (nu : List Nat) (i : Nat) : Bool := Nat.blt i k || memN nu i
def phiM (ψ : Ren) (k : Nat) (nu : List Nat) (n : Nat) : Ren := fun i => bif Nat.blt i k then ψ i else phi nu n i
theorem sub_made {call : CallF} (hc : CallOk cx call) {f : FuncId} {args : List AV} {v : AV} {ψ : Ren} {τ τ' σ : St} {π : Pl} {w : World} (h : call f args τ = some (v, τ')) (hP : Part ψ τ σ) (nu : List Nat) (bs : List Blk)
    (h1 : nu.map τ'.get = bs.map some) (h2 : nu.Nodup) (h3 : allB (fun x => Nat.ble τ.next x) nu = true) (h4 : allB (fun b => !b.isRo && inB (okM τ.next nu) b) bs = true) (hv : inR (okM τ.next nu) v = true)
    (hR : R π σ w) (hG : GlobOk cx (plOf ψ π)) {vs : Array Value} (hargs : RT (plOf ψ π) args vs.toList) :
    (∃ fn, cx.P.funcs[f]? = some fn ∧ fn.body ≠ none) ∧ Calls cx.P f vs w (Post cx.P π σ w (rnR (phiM ψ τ.next nu σ.next) v) (pushAll σ (bs.map (rnB (phiM ψ τ.next nu σ.next))))) := by
  have hlen : nu.length = bs.length := by simpa using congrArg List.length h1
  have hget : ∀ (k x : Nat), nu[k]? = some x → ∃ b, bs[k]? = some b ∧ τ'.get x = some b := by
    intro k x hk
    have := congrArg (·[k]?) h1
    simp only [List.getElem?_map, hk, Option.map_some] at this
    cases hb : bs[k]? with
    | none => rw [hb] at this; cases this
    | some b => rw [hb] at this; exact ⟨b, rfl, by simpa using this⟩
  have hnone : ∀ i, σ.next ≤ i → σ.get i = none := by
    intro i hi
    cases hb : σ.get i with
    | none => rfl
    | some b =>
      obtain ⟨x, hx, _⟩ := hR.blk i b hb
      exact absurd (hR.lt i x hx) (by omega)
  refine sub_callG (φ := phiM ψ τ.next nu σ.next) (n := nu.length) (ν := fun k => nu.getD k 0) (ok := okM τ.next nu) hc h hP ⟨?_, ?_, ?_, ?_, ?_, ?_⟩ hv hR hG hargs
  · rw [pushAll_next, List.length_map, hlen]
  · exact fun i hi => pushAll_old hi
  · intro i hi
    rw [pushAll_get, if_neg (by omega)]
    rw [List.getElem?_eq_none (by simp only [List.length_map]; omega)]
    exact hnone i (by omega)
  · intro k hk
    have hx : nu[k]? = some (nu.getD k 0) := by simp [List.getD, hk]
    obtain ⟨b, hb, hg⟩ := hget k _ hx
    have hbm := allB_mem h4 b (List.mem_of_getElem? hb)
    simp only [Bool.and_eq_true, Bool.not_eq_true'] at hbm
    refine ⟨?_, b, hg, hbm.1, hbm.2, ?_⟩
    · exact Nat.le_of_ble_eq_true (allB_mem h3 _ (List.mem_of_getElem? hx))
    · exact pushAll_new (by rw [List.getElem?_map, hb]; rfl)
  · intro k j hk hj hne e
    have e1 : nu[k]? = some (nu.getD k 0) := by simp [List.getD, hk]
    have e2 : nu[j]? = some (nu.getD j 0) := by simp [List.getD, hj]
    have e : nu.getD k 0 = nu.getD j 0 := e
    rw [← e] at e2
    exact hne ((List.getElem?_inj hk h2).mp (e1.trans e2.symm))
  · intro i hi
    cases hb : Nat.blt i τ.next with
    | true => exact .inl ⟨Nat.le_of_ble_eq_true hb, by simp only [phiM, hb, cond_true]⟩
    | false =>
      unfold okM at hi
      rw [hb, Bool.false_or] at hi
      obtain ⟨k, h1, h2, h3⟩ := memN_mem hi
      exact .inr ⟨k, h1, by simp [List.getD, h2], by simp only [phiM, hb, cond_false, phi, h3]⟩
/-- block 0 is the variables', block i + 1 the caller's block ad[i] -/
def psiG (ad : List Nat) (n : Nat) : Ren := fun i => Nat.rec (motive := fun _ => Nat × Nat) (0, 0) (fun i _ => match ad[i]? with
  | some a => (a, 0)
  | none => (n, 0)) i
noncomputable def partsG (tb : List CV) (bl : List Blk) : St := pushAll (σE.push (.ro tb)) (bl.map roB)
theorem partsG_next (tb : List CV) (bl : List Blk) : (partsG tb bl).next = bl.length + 1 := by
  unfold partsG
  rw [pushAll_next, List.length_map]
  show 0 + 1 + bl.length = _
  omega
theorem flatsB {φ : Ren} {l : List CV} (h : flatCs l = true) : l.map (rnC φ) = l := (flatCs_rn h).1
theorem part_listG {σ : St} {tb : List CV} {bl : List Blk} {ad : List Nat} (h0 : σ.get 0 = some (.ro tb)) (hf : flatCs tb = true) (hn0 : 0 < σ.next) (hlen : ad.length = bl.length) (hc : allB isCells bl = true) (hg : ∀ (i : Nat) (a : Nat) (b : Blk), ad[i]? = some a → bl[i]? = some b → σ.get a = some (rnB (psiG ad σ.next) b)) :
    Part (psiG ad σ.next) (partsG tb bl) σ := by
  refine ⟨fun i hi => ?_, fun i blk hb => ?_⟩
  · rw [partsG_next] at hi
    obtain ⟨j, rfl⟩ : ∃ j, i = j + 1 := ⟨i - 1, by omega⟩
    show (match ad[j]? with | some a => (a, 0) | none => (σ.next, 0)) = _
    rw [List.getElem?_eq_none (by omega)]
  · unfold partsG at hb
    rw [pushAll_get] at hb
    have hn : (σE.push (.ro tb)).next = 1 := rfl
    rw [hn] at hb
    cases i with
    | zero =>
      rw [if_pos (by omega), St.get_push, if_pos (show (0 : Nat) = σE.next from rfl)] at hb
      cases hb
      refine ⟨by rw [partsG_next]; omega, tb, .ro tb, tb, [], [], rfl, h0, rfl, ?_, rfl⟩
      rw [flatsB hf]; simp
    | succ j =>
      rw [if_neg (by omega), Nat.add_sub_cancel, List.getElem?_map] at hb
      cases hk : bl[j]? with
      | none =>
        rw [hk] at hb
        have hb' : (σE.push (.ro tb)).get (j + 1) = some blk := hb
        rw [St.get_push, if_neg (show ¬ j + 1 = σE.next from Nat.succ_ne_zero j)] at hb'
        cases hb'
      | some b0 =>
        rw [hk] at hb
        have hb' : some (roB b0) = some blk := hb
        have hl := (List.getElem?_eq_some_iff.mp hk).1
        refine ⟨by rw [partsG_next]; omega, ?_⟩
        have ha : ad[j]? = some (ad[j]'(by omega)) := List.getElem?_eq_getElem (by omega)
        have hcell := allB_mem hc b0 (List.mem_of_getElem? hk)
        have hσ := hg j _ b0 ha hk
        have hψ : psiG ad σ.next (j + 1) = (ad[j]'(by omega), 0) := by
          show (match ad[j]? with | some a => (a, 0) | none => (σ.next, 0)) = _
          rw [ha]
        cases b0 with
        | cells l e x =>
          cases hb'
          refine ⟨l, .cells (l.map (rnC (psiG ad σ.next))) e x, l.map (rnC (psiG ad σ.next)), [], [], rfl, ?_, rfl, by simp, ?_⟩
          · rw [hψ]; exact hσ
          · rw [hψ]; rfl
        | map es c => cases hcell
        | ro l => cases hcell
def nodB : List Nat → Bool
  | [] => true
  | a :: r => !(memN r a) && nodB r
theorem mem_memN : ∀ {l : List Nat} {i : Nat}, i ∈ l → memN l i = true
  | a :: r, i, h => by
    unfold memN
    rcases List.mem_cons.mp h with rfl | h
    · rw [show Nat.beq i i = true from Nat.beq_refl i]; rfl
    · rw [mem_memN h, Bool.or_true]
theorem nodB_ok : ∀ {l : List Nat}, nodB l = true → l.Nodup
  | [], _ => List.nodup_nil
  | a :: r, h => by
    simp only [nodB, Bool.and_eq_true, Bool.not_eq_true'] at h
    exact List.nodup_cons.mpr ⟨fun hm => (by have h1 := h.1; rw [mem_memN hm] at h1; cases h1), nodB_ok h.2⟩
/-- what was made is whole -/
noncomputable def chkM (k : Nat) (nu : List Nat) (v : AV) (τ' : St) : Bool := nodB nu && (allB (fun x => Nat.ble k x) nu && (allB (fun i => match τ'.get i with | some b => !b.isRo && inB (okM k nu) b | none => false) nu && inR (okM k nu) v))
noncomputable def blks (τ' : St) (nu : List Nat) : List Blk := nu.filterMap τ'.get
theorem blks_ok {τ' : St} {f : Blk → Bool} : ∀ {nu : List Nat}, allB (fun i => match τ'.get i with | some b => f b | none => false) nu = true → nu.map τ'.get = (blks τ' nu).map some ∧ allB f (blks τ' nu) = true
  | [], _ => ⟨rfl, rfl⟩
  | i :: r, h => by
    simp only [allB, Bool.and_eq_true] at h
    obtain ⟨h1, h2⟩ := blks_ok h.2
    cases hb : τ'.get i with
    | none => rw [hb] at h; cases h.1
    | some b =>
      have e : blks τ' (i :: r) = b :: blks τ' r := by unfold blks; rw [List.filterMap_cons, hb]
      have hf := h.1
      rw [hb] at hf
      rw [e]
      simp only [List.map_cons, hb, h1, allB, h2, Bool.and_true]
      exact ⟨trivial, hf⟩
/-- what a call is known to come to, by a run from blocks alone -/
def MadeAt (cx : Cx) (t0 : Tab) (f : Nat) (args : List AV) (σ : St) (v' : AV) (σ' : St) : Prop :=
  ∃ (tb : List CV) (bl : List Blk) (ad : List Nat) (args0 : List AV) (n : Nat) (v : AV) (τ' : St) (nu : List Nat), σ.get 0 = some (.ro tb) ∧ flatCs tb = true ∧ 0 < σ.next ∧ ad.length = bl.length ∧ allB isCells bl = true ∧
    (∀ (i : Nat) (a : Nat) (b : Blk), ad[i]? = some a → bl[i]? = some b → σ.get a = some (rnB (psiG ad σ.next) b)) ∧ allB is1 args0 = true ∧ args = args0.map (rn1 (psiG ad σ.next)) ∧
    callK cx t0 n f args0 (partsG tb bl) = some (v, τ') ∧ chkM (bl.length + 1) nu v τ' = true ∧ v' = rnR (phiM (psiG ad σ.next) (bl.length + 1) nu σ.next) v ∧ σ' = pushAll σ ((blks τ' nu).map (rnB (phiM (psiG ad σ.next) (bl.length + 1) nu σ.next)))
theorem MadeAt.sound (hx : ExtOk cx) (hm : cx.P.follows .mixedOrders = true) (h0 : Glob0 cx) {t0 : Tab} (ht : TabOk cx t0) {f : Nat} {args : List AV} {σ σ' : St} {v' : AV} (h : MadeAt cx t0 f args σ v' σ') {π : Pl} {w : World} {vs : Array Value} (hR : R π σ w) (hG : GlobOk cx π) (hargs : RT π args vs.toList) :
    (∃ fn, cx.P.funcs[f]? = some fn ∧ fn.body ≠ none) ∧ Calls cx.P f vs w (Post cx.P π σ w v' σ') := by
  obtain ⟨tb, bl, ad, args0, n, v, τ', nu, g0, gf, gn, g1, g2, g3, g4, g5, g6, g7, rfl, rfl⟩ := h
  simp only [chkM, Bool.and_eq_true] at g7
  obtain ⟨c1, c2, c3, c4⟩ := g7
  obtain ⟨d1, d2⟩ := blks_ok (f := fun b => !b.isRo && inB (okM (bl.length + 1) nu) b) c3
  have hP := part_listG g0 gf gn g1 g2 g3
  have hψ : psiG ad σ.next 0 = (0, 0) := rfl
  have := sub_made (callK_ok hx ht hm n) g6 hP nu (blks τ' nu) d1 (nodB_ok c1) (by rw [partsG_next]; exact c2) (by rw [partsG_next]; exact d2) (by rw [partsG_next]; exact c4) hR (GlobOk.part h0 hψ hG) (RT_rn1 g4 (by rw [← g5]; exact hargs))
  rw [partsG_next] at this
  exact this
open Classical in
/-- a function's entry: it comes to something that is such -/
noncomputable def madeS (cx : Cx) (t0 : Tab) (f : Nat) (Q : List AV → AV → Prop) : List AV → St → Option (AV × St) := fun args σ =>
  if h : ∃ r : AV × St, MadeAt cx t0 f args σ r.1 r.2 ∧ Q args r.1 then some h.choose else none
theorem TabOk.made (hx : ExtOk cx) (hm : cx.P.follows .mixedOrders = true) (hg : Glob0 cx) {t t0 : Tab} (h : TabOk cx t) (h0 : TabOk cx t0) {f : Nat} {Q : List AV → AV → Prop} : TabOk cx (t.add f (madeS cx t0 f Q)) := by
  refine h.add fun args σ v σ' hsp π w vs hR hG hargs => ?_
  unfold madeS at hsp
  split at hsp
  · rename_i hex
    have hs := hex.choose_spec
    have e : hex.choose = (v, σ') := Option.some.inj hsp
    rw [e] at hs
    exact hs.1.sound hx hm hg h0 hR hG hargs
  · cases hsp
theorem call_made {t t0 : Tab} {n f : Nat} {args : List AV} {σ σ1 : St} {v1 : AV} {Q : List AV → AV → Prop} (ht : t f = some (madeS cx t0 f Q)) (h : MadeAt cx t0 f args σ v1 σ1) (hq : Q args v1) :
    ∃ v bs, callK cx t (n + 1) f args σ = some (v, pushAll σ bs) ∧ Q args v := by
  have hex : ∃ r : AV × St, MadeAt cx t0 f args σ r.1 r.2 ∧ Q args r.1 := ⟨(v1, σ1), h, hq⟩
  have hs := hex.choose_spec
  obtain ⟨tb, bl, ad, args0, n, v, τ', nu, g0, gf, gn, g1, g2, g3, g4, g5, g6, g7, g8, g9⟩ := hs.1
  refine ⟨hex.choose.1, (blks τ' nu).map (rnB (phiM (psiG ad σ.next) (bl.length + 1) nu σ.next)), ?_, hs.2⟩
  rw [callK_tab ht]
  unfold madeS
  rw [dif_pos hex]
  exact congrArg some (Prod.ext rfl g9)
/-- a function of flat arguments with a flat answer, that may look at the variables: the state is left as it was -/
noncomputable def flatG (spec : List CV → List AV → Option AV) : List AV → St → Option (AV × St) := fun args σ => match σ.get 0 with
  | some (.ro tb) => bif flatCs tb && Nat.blt 0 σ.next then (match spec tb args with
    | some v => some (v, σ)
    | none => none) else none
  | _ => none
theorem flatC_in {ok : Nat → Bool} {c : CV} (h : flatC c = true) : inC ok c = true := by
  cases c with
  | ptr p => cases p with
    | none => rfl
    | some p => cases h
  | slice p l k => cases p with
    | none => rfl
    | some p => cases h
  | map p => cases p with
    | none => rfl
    | some p => cases h
  | func f caps => cases caps with
    | nil => rfl
    | cons _ _ => cases h
  | _ => rfl
theorem flatCs_in {ok : Nat → Bool} : ∀ {l : List CV}, flatCs l = true → allB (inC ok) l = true
  | [], _ => rfl
  | c :: l, h => by
    simp only [flatCs, Bool.and_eq_true] at h
    simp only [allB, flatC_in h.1, flatCs_in h.2, Bool.and_self]
theorem flatV_in {ok : Nat → Bool} {v : AV} (h : flatV v = true) : in1 ok v = true := by
  cases v with
  | one c => exact flatC_in h
  | agg l => exact flatCs_in h
  | tup l => cases h
  | bad => cases h
theorem flatVs_in {ok : Nat → Bool} : ∀ {l : List AV}, flatVs l = true → allB (in1 ok) l = true
  | [], _ => rfl
  | c :: l, h => by
    simp only [flatVs, Bool.and_eq_true] at h
    simp only [allB, flatV_in h.1, flatVs_in h.2, Bool.and_self]
theorem flatT_in {ok : Nat → Bool} {v : AV} (h : flatT v = true) : inR ok v = true := by
  cases v with
  | tup l => exact flatVs_in h
  | one c => exact flatV_in (v := .one c) h
  | agg l => exact flatV_in (v := .agg l) h
  | bad => cases h
theorem flatVs_is1 : ∀ {l : List AV}, flatVs l = true → allB is1 l = true
  | [], _ => rfl
  | c :: l, h => by
    simp only [flatVs, Bool.and_eq_true] at h
    simp only [allB, flatVs_is1 h.2, Bool.and_true]
    cases c with
    | one c => rfl
    | agg l => rfl
    | tup l => cases h.1
    | bad => cases h.1
theorem TabOk.flatG (hx : ExtOk cx) (hm : cx.P.follows .mixedOrders = true) (hg : Glob0 cx) {t t0 : Tab} (h : TabOk cx t) (h0 : TabOk cx t0) {f : Nat} {spec : List CV → List AV → Option AV}
    (hs : ∀ tb args v, flatCs tb = true → spec tb args = some v → flatVs args = true ∧ flatT v = true ∧ ∃ n τ', callK cx t0 n f args (partsG tb []) = some (v, τ')) : TabOk cx (t.add f (flatG spec)) := by
  refine h.add fun args σ v σ' hsp π w vs hR hG hargs => ?_
  unfold Go.Run.flatG at hsp
  split at hsp
  · rename_i tb h0'
    cases hb : (flatCs tb && Nat.blt 0 σ.next) with
    | false => rw [hb] at hsp; cases hsp
    | true =>
      rw [hb] at hsp
      simp only [cond_true] at hsp
      split at hsp
      · rename_i v2 hv2
        cases hsp
        rw [Bool.and_eq_true] at hb
        obtain ⟨k1, k2, n, τ', k3⟩ := hs tb _ _ hb.1 hv2
        have hma : MadeAt cx t0 f args σ v σ := by
          refine ⟨tb, [], [], args, n, v, τ', [], h0', hb.1, Nat.le_of_ble_eq_true hb.2, rfl, rfl, fun i a b hi => by simp at hi, flatVs_is1 k1, (flatVs_rn k1).1.symm, k3, ?_, (flatT_rn k2).1.symm, rfl⟩
          simp only [chkM, flatT_in k2, allB, nodB, Bool.and_self]
        exact hma.sound hx hm hg h0 hR hG hargs
      · cases hsp
  · cases hsp
theorem call_flatG {t : Tab} {n f : Nat} {args : List AV} {σ : St} {tb : List CV} {spec : List CV → List AV → Option AV} {v : AV} (ht : t f = some (Go.Run.flatG spec)) (h0 : σ.get 0 = some (.ro tb)) (hf : flatCs tb = true) (hn : 0 < σ.next) (hv : spec tb args = some v) : callK cx t (n + 1) f args σ = some (v, σ) := by
  rw [callK_tab ht]
  unfold Go.Run.flatG
  have : Nat.blt 0 σ.next = true := Nat.ble_eq_true_of_le hn
  simp only [h0, hf, this, Bool.and_self, cond_true, hv]
end Go.Run
