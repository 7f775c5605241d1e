/- An abstract interpreter of the model's code and the proof that it is sound: part 4 of 4. -/
import Derived.Test.YtggjhmhjjghncaaGreatR3
namespace Go.Run
variable {cx : Cx} {call : CallF} {σ σ' : St} {Q : AV → St → Prop}

/-! Append. -/
theorem takeN_all {α : Type} : ∀ (l : List α), takeN (lenN l) l = some l
  | [] => rfl
  | a :: r => by show (match takeN (lenN r) r with | some l => some (a :: l) | none => none) = _; rw [takeN_all r]
theorem lenN_len {α : Type} : ∀ (l : List α), lenN l = l.length
  | [] => rfl
  | a :: r => by show Nat.succ (lenN r) = _; rw [lenN_len r]; rfl
theorem takeN_len {α : Type} {l : List α} {n : Nat} (h : l.length = n) : takeN n l = some l := by rw [← h, ← lenN_len]; exact takeN_all l
theorem o_append {t e n len : Nat} {ts : List TypeId} {inf : TypeInfo} {p : Option (Nat × Nat)} {cap : Cap} {x : AV} {new row : List CV} (hu : und cx t = some (.slice e)) (hi : cx.P.info? e = some inf) (hl : lenA x = some n)
    (hc : (noInt cx ts && !(Nat.beq inf.size 0) && Nat.ble (Nat.mul (Nat.add (Nat.mul 2 (Nat.add len n)) 2048) inf.bytes) 140737488355328 && Nat.ble (Nat.add len n) 4611686018427387904) = true)
    (hf : firstA inf.size n x σ = some new) (hr : rowOf cx e inf.size 1 = some row) (hn : Nat.beq n 0 = false) : bltO cx .append (t :: ts) [.one (.slice p len cap), x] σ = appendTo e inf.size p len cap n new σ := by
  show appendA cx (t :: ts) [.one (.slice p len cap), x] σ = _
  unfold appendA
  simp only [hu, hi, hl, hc, cond_true, hf, hr, hn, cond_false]
theorem append_nil {e sz len n : Nat} {cap : Cap} {new : List CV} : appendTo e sz none len cap n new σ = .st (.one (.slice (some (σ.next, 0)) (Nat.add len n) (.to sz))) (σ.push (.cells new e false)) := rfl
/-- behind a block that is full -/
theorem append_full {e sz len n j : Nat} {new l : List CV} (hj : σ.get j = some (.cells l e false)) (hlen : l.length = len * (sz + 1)) (hn : n ≠ 0) :
    appendTo e (sz + 1) (some (j, 0)) len (.to (sz + 1)) n new σ = .st (.one (.slice (some (σ.next, 0)) (len + n) (.to (sz + 1)))) ((σ.kill j).push (.cells (l ++ new) e false)) := by
  unfold appendTo
  have hc : capOf (j, 0) (.to (sz + 1)) (sz + 1) σ = some (len, false) := by
    unfold capOf
    simp only [Nat.beq_refl, cond_true, hj]
    rw [lenN_len, hlen]
    show some (len * (sz + 1) / (sz + 1), false) = _
    rw [Nat.mul_div_cancel _ (Nat.succ_pos sz)]
  simp only [hc]
  have h1 : Nat.ble (Nat.add len n) len = false := by
    cases hb : Nat.ble (Nat.add len n) len with
    | false => rfl
    | true => have := Nat.le_of_ble_eq_true hb; simp only [Nat.add_eq] at this; omega
  have h2 : elemIs σ j e = true := by unfold elemIs; simp only [hj, Nat.beq_refl]
  simp only [h1, cond_false, h2, Bool.or_true, cond_true]
  have h3 : firstA (sz + 1) len (.one (.slice (some (j, 0)) len (.to (sz + 1)))) σ = some l := by
    unfold firstA
    cases h0 : Nat.beq len 0 with
    | true =>
      have := Nat.eq_of_beq_eq_true h0
      subst this
      simp only [Nat.zero_mul, List.length_eq_zero_iff] at hlen
      rw [hlen]
      simp only [cond_true]
    | false =>
      simp only [cond_false, hj, Blk.rd]
      exact takeN_len hlen
  simp only [h3]
  rfl
theorem get_kp (σ : St) (j i : Nat) (b : Blk) : ((σ.kill j).push b).get i = if i = σ.next then some b else if i = j then none else σ.get i := by
  rw [St.get_push, St.get_kill]; rfl
theorem y_cal {v : AV} {k : AV → Kt} {f : FuncId} {args : List AV} (hx : cx.ext f = none) (h : call f args σ = some (v, σ')) (hk : Yl (k v σ') Q) : Yl (bnd (calO cx call (fnV f) args) k σ) Q := y_call (r := none) hx h hk
theorem y_body {tab : Tab} {n f : Nat} {args : List AV} {fn : Func} (ht : tab f = none) (hf : cx.P.funcs[f]? = some fn) (hok : (match fn.body with | some c => Nat.ble (lenN args) fn.ntmps && codeOk fn.ntmps c | none => false) = true)
    (h : Yl (enterK cx (callK cx tab n) fn args σ) Q) : Yl (callK cx tab (n + 1) f args σ) Q := by
  obtain ⟨v, σ', h1, h2⟩ := h
  exact ⟨v, σ', callK_body ht hf hok h1, h2⟩
theorem y_gon {v : AV} {k : AV → Kt} {w : Option Bool} {o : St → Out} (hw : w = some true) (h : o σ = .val v) (hk : Yl (k v σ) Q) : Yl (bnd (gdO w o) k σ) Q := by subst hw; exact y_val h hk
theorem y_goff {k : AV → Kt} {w : Option Bool} {o : St → Out} (hw : w = some false) (hk : Yl (k (.tup []) σ) Q) : Yl (bnd (gdO w o) k σ) Q := by subst hw; exact y_val rfl hk
theorem y_gcal {v : AV} {k : AV → Kt} {w : Option Bool} {f : FuncId} {args : List AV} (hw : w = some true) (hx : cx.ext f = none) (h : call f args σ = some (v, σ')) (hk : Yl (k v σ') Q) : Yl (bnd (gdO w (calO cx call (fnV f) args)) k σ) Q := by subst hw; exact y_cal hx h hk
theorem y_eq {r r' : Rs} (h : r = r') (hy : Yl r' Q) : Yl r Q := h ▸ hy
end Go.Run

namespace Go.Run
variable {cx : Cx} {call : CallF} {σ σ' : St} {Q : AV → St → Prop}

/-! Tables, a function more at a time. -/
def Tab.add (t : Tab) (f : Nat) (s : List AV → St → Option (AV × St)) : Tab := fun g => bif Nat.beq g f then some s else t g
theorem TabOk.add {t : Tab} {f : Nat} {s : List AV → St → Option (AV × St)} (h : TabOk cx t) (hs : ∀ args σ v σ', s args σ = some (v, σ') → ∀ π w (vs : Array Value), R π σ w → GlobOk cx π → RT π args vs.toList →
    (∃ fn, cx.P.funcs[f]? = some fn ∧ fn.body ≠ none) ∧ Calls cx.P f vs w (Post cx.P π σ w v σ')) : TabOk cx (t.add f s) := by
  intro g s' hg args σ v σ' hs' π w vs hR hG hargs
  unfold Tab.add at hg
  cases hb : Nat.beq g f with
  | true =>
    rw [hb] at hg
    cases hg
    have := Nat.eq_of_beq_eq_true hb
    subst this
    exact hs args σ v σ' hs' π w vs hR hG hargs
  | false => rw [hb] at hg; exact h g s' hg args σ v σ' hs' π w vs hR hG hargs
/-- a function of flat arguments with a flat answer: the state is left as it was -/
def flatS (spec : List AV → Option AV) : List AV → St → Option (AV × St) := fun args σ => match spec args with
  | some v => some (v, σ)
  | none => none
theorem TabOk.flat (hx : ExtOk cx) (hm : cx.P.follows .mixedOrders = true) (hg : ∀ g, cx.g.get .bad g = .bad) {t t0 : Tab} (h : TabOk cx t) (h0 : TabOk cx t0) {f : Nat} {spec : List AV → Option AV}
    (hs : ∀ args v, spec args = some v → flatVs args = true ∧ flatT v = true ∧ ∃ n σ', callK cx t0 n f args σE = some (v, σ')) : TabOk cx (t.add f (flatS spec)) := by
  refine h.add fun args σ v σ' hsp π w vs hR hG hargs => ?_
  unfold flatS at hsp
  split at hsp
  · rename_i v2 hv2
    cases hsp
    obtain ⟨h1, h2, n, σ2, h3⟩ := hs _ _ hv2
    exact flat_call (callK_ok hx h0 hm n) h3 h2 h1 hR hg hargs
  · cases hsp
theorem call_flat {t : Tab} {n f : Nat} {args : List AV} {spec : List AV → Option AV} {v : AV} (ht : t f = some (flatS spec)) (hv : spec args = some v) : callK cx t (n + 1) f args σ = some (v, σ) := by
  rw [callK_tab ht]
  unfold flatS
  rw [hv]
theorem Yl.some {r : Rs} (h : Yl r Q) : ∃ v σ', r = some (v, σ') ∧ Q v σ' := h
theorem Yl.run {r : Rs} {v : AV} (h : Yl r (fun x _ => x = v)) : ∃ σ', r = .some (v, σ') := by
  obtain ⟨v2, σ', h1, rfl⟩ := h; exact ⟨σ', h1⟩

/-! Strings. -/
theorem bytesOf_mk (l : List UInt8) : bytesOf ⟨⟨l⟩⟩ = l := rfl
theorem o_sadd {t : TypeId} {a b : List UInt8} (h : a.length + b.length ≤ 4611686018427387904) : binO cx .add t (S a) (S b) σ = .val (S (a ++ b)) := by
  show (bif Nat.ble (Nat.add (lenN a) (lenN b)) 4611686018427387904 then Out.val (.one (.str (ofBytes (a ++ b)))) else .no) = _
  rw [lenN_len, lenN_len]; simp only [Nat.add_eq]; rw [Nat.ble_eq_true_of_le h]
  rfl
theorem bytesEq_dec (a b : List UInt8) : bytesEq a b = decide (a = b) := by
  rw [bytesEq_ok]
  by_cases h : a = b <;> simp [h]
theorem o_seql {t : TypeId} {a b : List UInt8} : binO cx .eql t (S a) (S b) σ = .val (B (decide (a = b))) := by
  show Out.val (.one (.bool (bytesEq a b))) = _
  rw [bytesEq_dec]; rfl
theorem o_sneq {t : TypeId} {a b : List UInt8} : binO cx .neq t (S a) (S b) σ = .val (B (!decide (a = b))) := by
  show Out.val (.one (.bool (!bytesEq a b))) = _
  rw [bytesEq_dec]; rfl
theorem o_slen {t : TypeId} {ts : List TypeId} {a : List UInt8} (h : und cx t = some .string) : bltO cx .len (t :: ts) [S a] σ = .val (I (a.length : Nat)) := by
  show lenB cx (t :: ts) [S a] σ = _
  unfold lenB
  simp only [h]
  show Out.val (.one (.int .i64 (.ofNat (lenN a)))) = _
  rw [lenN_len]; rfl
theorem bytesAt_cells : ∀ (l : List UInt8), bytesAt (cellsOfBytes l) = some l
  | [] => rfl
  | b :: r => by
    show (bif Nat.blt b.toNat 256 then (match bytesAt (cellsOfBytes r) with | some c => some (b.toNat.toUInt8 :: c) | none => none) else none) = _
    have h : Nat.blt b.toNat 256 = true := Nat.ble_eq_true_of_le b.toNat_lt
    rw [h, bytesAt_cells r]
    simp only [cond_true]
    congr 2
    exact UInt8.ofNat_toNat
theorem cellsOf_len (l : List UInt8) : (cellsOfBytes l).length = l.length := by simp [cellsOfBytes]
theorem nth_get {α : Type} : ∀ (l : List α) (n : Nat), nth l n = l[n]?
  | [], n => by simp [nth]
  | a :: l, 0 => rfl
  | a :: l, n + 1 => by simp only [nth, List.getElem?_cons_succ]; exact nth_get l n
theorem over_one {α : Type} (c : α) : ∀ (j : Nat) (l : List α), j < l.length → over j [c] l = some (l.set j c)
  | 0, a :: l, _ => by cases l <;> rfl
  | j + 1, a :: l, h => by
    show (match over j [c] l with | some r => some (a :: r) | none => none) = _
    rw [over_one c j l (by simpa using h)]
    rfl
  | 0, [], h => by simp at h
  | j + 1, [], h => by simp at h
theorem dropN_zero {α : Type} (l : List α) : dropN 0 l = l := rfl
theorem dropN_drop {α : Type} : ∀ (n : Nat) (l : List α), dropN n l = l.drop n
  | 0, _ => rfl
  | n + 1, [] => by simp [dropN]
  | n + 1, a :: l => by show dropN n l = _; rw [dropN_drop n l]; rfl
theorem takeN_take {α : Type} : ∀ (n : Nat) (l : List α), n ≤ l.length → takeN n l = some (l.take n)
  | 0, l, _ => by simp [takeN]
  | n + 1, [], h => by simp at h
  | n + 1, a :: l, h => by
    show (match takeN n l with | some r => some (a :: r) | none => none) = _
    rw [takeN_take n l (by simpa using h)]
    rfl
theorem repN_one {α : Type} (a : α) : ∀ n, repN n [a] = List.replicate n a
  | 0 => rfl
  | n + 1 => by show [a] ++ repN n [a] = _; rw [repN_one a n]; rfl
/-- an element's address -/
theorem o_iad {t e sz n j b o : Nat} {cap : Cap} (hu : und cx t = some (.slice e)) (hs : size cx e = some sz) (h : j < n) : iadO cx t (.one (.slice (some (b, o)) n cap)) (I (j : Nat)) σ = .val (P b (o + j * sz)) := by
  show indexAddrA cx t (.one (.slice (some (b, o)) n cap)) (I (j : Nat)) = _
  unfold indexAddrA
  simp only [hu]
  show (match size cx e with | some sz => bif Nat.blt j n then Out.val (.one (.ptr (some (b, Nat.add o (Nat.mul j sz))))) else Out.no | none => Out.no) = _
  rw [hs]
  have : Nat.blt j n = true := Nat.ble_eq_true_of_le h
  simp only [this, cond_true, Nat.add_eq, Nat.mul_eq]
theorem o_mks {t e len cp : Nat} {inf : TypeInfo} {z : List CV} (hu : und cx t = some (.slice e)) (hi : cx.P.info? e = some inf) (hz : rowOf cx e inf.size cp = some z)
    (hc : (Nat.ble (inf.bytes * cp) 140737488355328 && Nat.ble len cp && Nat.ble cp 4611686018427387904 && !(Nat.beq inf.size 0)) = true) :
    mksO cx t (I (len : Nat)) (I (cp : Nat)) σ = .new (.cells z e true) (fun i => .one (.slice (some (i, 0)) len (.to inf.size))) := by
  show makeSliceA cx t (I (len : Nat)) (I (cp : Nat)) = _
  unfold makeSliceA
  simp only [hu]
  show (match cx.P.info? e with
      | some i => bif Nat.ble (i.bytes * cp) 140737488355328 && Nat.ble len cp && Nat.ble cp 4611686018427387904 && !(Nat.beq i.size 0) then
          match rowOf cx e i.size cp with
          | some z => sliceNew z e len i.size
          | none => .no
        else .no
      | none => .no) = _
  simp only [hi, hc, cond_true, hz]
  rfl
theorem o_shr {t : TypeId} {k : IntKind} {a : Int} {c : Nat} (h : c ≤ 64) : binO cx .shr t (I a) (.one (.int k (.ofNat c))) σ = .val (I (a / (2 ^ c : Nat))) := by
  show intV .i64 (Int.fdiv a (.ofNat (Nat.pow 2 (bif Nat.ble c 64 then c else 64)))) = _
  rw [Nat.ble_eq_true_of_le h, intV_eq]
  show Out.val (I (Int.fdiv a ((2 ^ c : Nat) : Int))) = _
  rw [Int.fdiv_eq_ediv_of_nonneg _ (Int.natCast_nonneg _)]
theorem o_cv8 {s d : TypeId} {su : TypeDesc} {k : IntKind} {a : Int} (hs : und cx s = some su) (hd : und cx d = some (.int .u8)) : cvO cx s d (.one (.int k a)) σ = .val (.one (.int .u8 (wrapA .u8 a))) := by
  show convA cx s d (.one (.int k a)) σ = _
  unfold convA
  simp only [hs, hd]
  exact intV_eq .u8 _
theorem o_rem {t : TypeId} {a c : Int} (h : c ≠ 0) : binO cx .rem t (I a) (I c) σ = .val (I (Int.tmod a c)) := by
  show (bif true && !(intEq c 0) then intV .i64 (Int.tmod a c) else Out.no) = _
  rw [intEq_ok]
  have : (c == 0) = false := by simpa using h
  rw [this]
  exact intV_eq .i64 _
theorem wrap8 (a : Int) : wrapA .u8 a = a % 256 := rfl
theorem o_udata {ts : List TypeId} {p : Nat × Nat} {n : Nat} {c : Cap} : bltO cx .unsafeSliceData ts [.one (.slice (some p) (n + 1) c)] σ = .val (.one (.ptr (some p))) := rfl
theorem o_ustr {t e k : Nat} {ts : List TypeId} {x : Bool} {s : List UInt8} (hu : und cx t = some (.pointer e)) (hs : size cx e = some 1) (hg : σ.get k = some (.cells (cellsOfBytes s) e x)) (hn : s ≠ []) (hl : s.length ≤ 4611686018427387904) :
    bltO cx .unsafeString (t :: ts) [P k 0, I (s.length : Nat)] σ = .st (S s) (σ.kill k) := by
  show stringB cx (t :: ts) [P k 0, I (s.length : Nat)] σ = _
  cases s with
  | nil => exact absurd rfl hn
  | cons a r =>
    have e1 : stringB cx (t :: ts) [P k 0, I ((a :: r).length : Nat)] σ = (match und cx t, σ.get k with
        | some (.pointer u), some (.cells l e _) => bif Nat.beq e u && Nat.ble (a :: r).length 4611686018427387904 then match size cx e, takeN (a :: r).length (dropN 0 l) with
          | some 1, some cs => match bytesAt cs with
            | some b => .st (.one (.str (ofBytes b))) (σ.kill k)
            | none => .no
          | _, _ => .no
          else .no
        | _, _ => .no) := rfl
    rw [e1, hu, hg]
    have hb : (Nat.beq e e && Nat.ble (a :: r).length 4611686018427387904) = true := by rw [Nat.beq_refl, Nat.ble_eq_true_of_le hl]; rfl
    simp only [hb, cond_true, hs, dropN_zero, takeN_len (l := cellsOfBytes (a :: r)) (n := (a :: r).length) (by rw [cellsOf_len]), bytesAt_cells]
    rfl
/-- bytes as a string -/
theorem o_cvS {s d e b o n : Nat} {cap : Cap} {blk : Blk} {l : List CV} {bs : List UInt8} (hs : und cx s = some (.slice e)) (he : und cx e = some (.int .u8)) (hd : und cx d = some .string) (hg : σ.get b = some blk) (hb : Blk.rd (some blk) = some l)
    (hl : takeN n (dropN o l) = some (cellsOfBytes bs)) : cvO cx s d (.one (.slice (some (b, o)) n cap)) σ = .val (S bs) := by
  show convA cx s d (.one (.slice (some (b, o)) n cap)) σ = _
  unfold convA
  simp only [hs, hd, he, hg, hb, hl, bytesAt_cells]
  rfl
end Go.Run

namespace Go.Run

/-! Numbers as bytes, the greatest first. -/
def be (k n : Nat) : List UInt8 := (List.range k).map fun i => UInt8.ofNat (n / 256 ^ (k - 1 - i) % 256)
theorem be_len (k n : Nat) : (be k n).length = k := by simp [be]
theorem be_zero (n : Nat) : be 0 n = [] := rfl
theorem be_succ (k n : Nat) : be (k + 1) n = be k (n / 256) ++ [UInt8.ofNat (n % 256)] := by
  unfold be
  rw [List.range_succ, List.map_append]
  congr 1
  · refine List.map_congr_left fun i hi => ?_
    have hi := List.mem_range.mp hi
    have e : k + 1 - 1 - i = (k - 1 - i) + 1 := by omega
    rw [e, Nat.pow_succ, Nat.mul_comm, ← Nat.div_div_eq_div_mul]
  · have e : k + 1 - 1 - k = 0 := by omega
    simp only [List.map_cons, List.map_nil, e, Nat.pow_zero, Nat.div_one]
/-- does a number go into so many bytes? -/
def fits (k : Nat) (n : Int) : Bool := decide (0 ≤ n) && decide (n < (256 ^ k : Nat))
def beS (k : Nat) (n : Int) : List UInt8 := if fits k n = true then be k n.toNat else []
theorem beS_len {k : Nat} {n : Int} (h : fits k n = true) : (beS k n).length = k := by rw [beS, if_pos h, be_len]
theorem beS_no {k : Nat} {n : Int} (h : fits k n = false) : beS k n = [] := by rw [beS, if_neg (by rw [h]; exact fun e => by cases e)]
theorem fits_iff {k : Nat} {n : Int} : fits k n = true ↔ 0 ≤ n ∧ n < (256 ^ k : Nat) := by unfold fits; rw [Bool.and_eq_true, decide_eq_true_iff, decide_eq_true_iff]
end Go.Run

namespace Go.Run
variable {cx : Cx}

/-! Calls whose arguments lie in blocks, run from these blocks alone. -/
def isCells : Blk → Bool
  | .cells _ _ _ => true
  | _ => false
def roB : Blk → Blk
  | .cells l _ _ => .ro l
  | b => b
/-- block i is the caller's block ad[i] -/
def psiL (ad : List Nat) (n : Nat) : Ren := fun i => match ad[i]? with
  | some a => (a, 0)
  | none => (n, 0)
noncomputable def parts (bl : List Blk) : St := pushAll σE (bl.map roB)
theorem part_list {σ : St} {bl : List Blk} {ad : List Nat} (hlen : ad.length = bl.length) (hc : allB isCells bl = true) (hg : ∀ (i : Nat) (a : Nat) (b : Blk), ad[i]? = some a → bl[i]? = some b → σ.get a = some (rnB (psiL ad σ.next) b)) :
    Part (psiL ad σ.next) (parts bl) σ := by
  have hn : (parts bl).next = bl.length := by unfold parts; rw [pushAll_next, List.length_map]; show 0 + bl.length = _; omega
  refine ⟨fun i hi => ?_, fun i blk hb => ?_⟩
  · rw [hn] at hi
    unfold psiL
    rw [List.getElem?_eq_none (by omega)]
  · unfold parts at hb
    rw [pushAll_get] at hb
    have h0 : σE.next = 0 := rfl
    rw [h0, if_neg (by omega), Nat.sub_zero, List.getElem?_map] at hb
    cases hk : bl[i]? with
    | none => rw [hk] at hb; cases hb
    | some b0 =>
      rw [hk] at hb
      have hb' : some (roB b0) = some blk := hb
      have hl := (List.getElem?_eq_some_iff.mp hk).1
      refine ⟨by rw [hn]; exact hl, ?_⟩
      have ha : ad[i]? = some (ad[i]'(by omega)) := List.getElem?_eq_getElem (by omega)
      have hcell := allB_mem hc b0 (List.mem_of_getElem? hk)
      have hσ := hg i _ b0 ha hk
      cases b0 with
      | cells l e x =>
        cases hb'
        refine ⟨l, .cells (l.map (rnC (psiL ad σ.next))) e x, l.map (rnC (psiL ad σ.next)), [], [], rfl, ?_, rfl, by simp, ?_⟩
        · have : (psiL ad σ.next i).1 = ad[i]'(by omega) := by unfold psiL; rw [ha]
          rw [this]; exact hσ
        · unfold psiL; rw [ha]; rfl
      | map es c => cases hcell
      | ro l => cases hcell
/-- a value that is one or an aggregate -/
def is1 : AV → Bool
  | .one _ => true
  | .agg _ => true
  | _ => false
theorem RT_rn1 {ψ : Ren} {π : Pl} : ∀ {l : List AV} {vs : List Value}, allB is1 l = true → RT π (l.map (rn1 ψ)) vs → RT (plOf ψ π) l vs
  | [], [], _, _ => by simp [RT]
  | v :: l, x :: vs, h, hr => by
    simp only [allB, Bool.and_eq_true] at h
    simp only [RT, List.map_cons] at hr ⊢
    refine ⟨?_, RT_rn1 h.2 hr.2⟩
    cases v with
    | one c => have := hr.1; simp only [RA, rn1] at this ⊢; exact RC_rn.mpr this
    | agg l => have := hr.1; simp only [RA, rn1] at this ⊢; obtain ⟨a, e, h⟩ := this; exact ⟨a, e, RL_rn.mpr h⟩
    | tup l => cases h.1
    | bad => cases h.1
  | [], _ :: _, _, h => by simp [RT] at h
  | _ :: _, [], _, h => by simp [RT] at h
theorem flatC_rn {φ : Ren} {c : CV} (h : flatC c = true) : rnC φ c = c ∧ inC (memN []) c = true := by
  cases c with
  | ptr p => cases p with
    | none => exact ⟨rfl, rfl⟩
    | some p => cases h
  | slice p l k => cases p with
    | none => exact ⟨rfl, rfl⟩
    | some p => cases h
  | map p => cases p with
    | none => exact ⟨rfl, rfl⟩
    | some p => cases h
  | func f caps => cases caps with
    | nil => exact ⟨rfl, rfl⟩
    | cons _ _ => cases h
  | _ => exact ⟨rfl, rfl⟩
theorem flatCs_rn {φ : Ren} : ∀ {l : List CV}, flatCs l = true → l.map (rnC φ) = l ∧ allB (inC (memN [])) l = true
  | [], _ => ⟨rfl, rfl⟩
  | c :: l, h => by
    simp only [flatCs, Bool.and_eq_true] at h
    obtain ⟨h1, h2⟩ := flatC_rn (φ := φ) h.1
    obtain ⟨h3, h4⟩ := flatCs_rn (φ := φ) h.2
    exact ⟨by rw [List.map_cons, h1, h3], by simp only [allB, h2, h4, Bool.and_self]⟩
theorem flatV_rn {φ : Ren} {v : AV} (h : flatV v = true) : rn1 φ v = v ∧ in1 (memN []) v = true := by
  cases v with
  | one c => obtain ⟨h1, h2⟩ := flatC_rn (φ := φ) (c := c) h; exact ⟨by simp only [rn1, h1], h2⟩
  | agg l => obtain ⟨h1, h2⟩ := flatCs_rn (φ := φ) (l := l) h; exact ⟨by simp only [rn1, h1], h2⟩
  | tup l => cases h
  | bad => cases h
theorem flatVs_rn {φ : Ren} : ∀ {l : List AV}, flatVs l = true → l.map (rn1 φ) = l ∧ allB (in1 (memN [])) l = true
  | [], _ => ⟨rfl, rfl⟩
  | c :: l, h => by
    simp only [flatVs, Bool.and_eq_true] at h
    obtain ⟨h1, h2⟩ := flatV_rn (φ := φ) h.1
    obtain ⟨h3, h4⟩ := flatVs_rn (φ := φ) h.2
    exact ⟨by rw [List.map_cons, h1, h3], by simp only [allB, h2, h4, Bool.and_self]⟩
theorem flatT_rn {φ : Ren} {v : AV} (h : flatT v = true) : rnR φ v = v ∧ inR (memN []) v = true := by
  cases v with
  | tup l => obtain ⟨h1, h2⟩ := flatVs_rn (φ := φ) (l := l) h; exact ⟨by simp only [rnR, h1], h2⟩
  | one c => exact flatV_rn (v := .one c) h
  | agg l => exact flatV_rn (v := .agg l) h
  | bad => cases h
def partS (spec : List AV → St → Option AV) : List AV → St → Option (AV × St) := fun args σ => match spec args σ with
  | some v => some (v, σ)
  | none => none
/-- a function that looks at blocks and gives a flat answer: the state is left as it was -/
theorem TabOk.part (hx : ExtOk cx) (hm : cx.P.follows .mixedOrders = true) (hg : ∀ g, cx.g.get .bad g = .bad) {t t0 : Tab} (h : TabOk cx t) (h0 : TabOk cx t0) {f : Nat} {spec : List AV → St → Option AV}
    (hs : ∀ args σ v, spec args σ = some v → flatT v = true ∧ ∃ bl ad args0 n τ', ad.length = bl.length ∧ allB isCells bl = true ∧ (∀ (i : Nat) (a : Nat) (b : Blk), ad[i]? = some a → bl[i]? = some b → σ.get a = some (rnB (psiL ad σ.next) b)) ∧
      allB is1 args0 = true ∧ args = args0.map (rn1 (psiL ad σ.next)) ∧ callK cx t0 n f args0 (parts bl) = some (v, τ')) : TabOk cx (t.add f (partS spec)) := by
  refine h.add fun args σ v σ' hsp π w vs hR hG hargs => ?_
  unfold partS at hsp
  split at hsp
  · rename_i v2 hv2
    cases hsp
    obtain ⟨h1, bl, ad, args0, n, τ', h2, h3, h4, h5, h6, h7⟩ := hs _ _ _ hv2
    obtain ⟨e1, e2⟩ := flatT_rn (φ := phi [] σ.next) h1
    have := sub_new (callK_ok hx h0 hm n) h7 (part_list h2 h3 h4) [] [] rfl List.nodup_nil rfl rfl e2 hR hg (RT_rn1 h5 (by rw [← h6]; exact hargs))
    rw [e1] at this
    exact this
  · cases hsp
theorem call_part {t : Tab} {n f : Nat} {args : List AV} {σ : St} {spec : List AV → St → Option AV} {v : AV} (ht : t f = some (partS spec)) (hv : spec args σ = some v) : callK cx t (n + 1) f args σ = some (v, σ) := by
  rw [callK_tab ht]
  unfold partS
  rw [hv]
/-- a function of flat arguments whose answer lies in new blocks -/
noncomputable def newB (spec : List AV → Option (AV × List Blk × List Nat)) : List AV → St → Option (AV × St) := fun args σ => match spec args with
  | some (v, bs, nu) => some (rnR (phi nu σ.next) v, pushAll σ (bs.map (rnB (phi nu σ.next))))
  | none => none
theorem TabOk.fresh (hx : ExtOk cx) (hm : cx.P.follows .mixedOrders = true) (hg : ∀ g, cx.g.get .bad g = .bad) {t t0 : Tab} (h : TabOk cx t) (h0 : TabOk cx t0) {f : Nat} {spec : List AV → Option (AV × List Blk × List Nat)}
    (hs : ∀ args v bs nu, spec args = some (v, bs, nu) → flatVs args = true ∧ ∃ n τ', callK cx t0 n f args σE = some (v, τ') ∧ nu.map τ'.get = bs.map some ∧ nu.Nodup ∧ allB (fun b => !b.isRo && inB (memN nu) b) bs = true ∧ inR (memN nu) v = true) : TabOk cx (t.add f (newB spec)) := by
  refine h.add fun args σ v σ' hsp π w vs hR hG hargs => ?_
  unfold newB at hsp
  split at hsp
  · rename_i v2 bs nu hv2
    cases hsp
    obtain ⟨h1, n, τ', h2, h3, h4, h5, h6⟩ := hs _ _ _ _ hv2
    have hp : Part (fun _ => (σ.next, 0)) σE σ := ⟨fun i _ => rfl, fun i b hb => by cases hb⟩
    have h3' : allB (fun x => Nat.ble σE.next x) nu = true := by
      have : ∀ l : List Nat, allB (fun x => Nat.ble σE.next x) l = true := by
        intro l
        induction l with
        | nil => rfl
        | cons a r ih => simp only [allB, ih, Bool.and_true]; exact Nat.ble_eq_true_of_le (Nat.zero_le _)
      exact this nu
    exact sub_new (callK_ok hx h0 hm n) h2 hp nu bs h3 h4 h3' h5 h6 hR hg (flatVs_ok h1 hargs)
  · cases hsp
theorem call_new {t : Tab} {n f : Nat} {args : List AV} {σ : St} {spec : List AV → Option (AV × List Blk × List Nat)} {v : AV} {bs : List Blk} {nu : List Nat} (ht : t f = some (newB spec)) (hv : spec args = some (v, bs, nu)) :
    callK cx t (n + 1) f args σ = some (rnR (phi nu σ.next) v, pushAll σ (bs.map (rnB (phi nu σ.next)))) := by
  rw [callK_tab ht]
  unfold newB
  rw [hv]
end Go.Run
