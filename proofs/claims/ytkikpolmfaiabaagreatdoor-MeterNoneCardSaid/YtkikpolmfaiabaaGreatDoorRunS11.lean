import Derived.Test.YtkikpolmfaiabaaGreatDoorRunS10
import Derived.Laws.IdiomStrings
namespace Go.Run
variable {cx : Cx} {π : Pl} {σ : St} {w : World} {env : Env} {a : Act}

theorem cellsOfBytes_ok : ∀ (l : List UInt8), RL π (cellsOfBytes l) (l.map fun b => Value.int .u8 (b.toNat : Int))
  | [] => trivial
  | b :: r => ⟨rfl, cellsOfBytes_ok r⟩
theorem bytesAt_ok : ∀ (l : List CV) (b : List UInt8) (vs : List Value), bytesAt l = some b → RL π l vs → vs = b.map (fun x => Value.int .u8 (x.toNat : Int))
  | [], b, [], h, _ => by simp [bytesAt] at h; subst h; rfl
  | c :: r, b, v :: vs, h, hl => by
    unfold bytesAt at h
    split at h
    · rename_i heq; cases heq
    · rename_i n r' heq
      cases heq
      rw [blt_eq] at h
      by_cases hn : n < 256
      · rw [decide_eq_true hn] at h
        simp only [cond_true] at h
        split at h
        · rename_i b' hb'
          cases h
          have := bytesAt_ok _ b' vs hb' hl.2
          have h1 : v = .int .u8 (n : Int) := hl.1
          rw [h1, this, List.map_cons]
          congr 2
          have : n.toUInt8.toNat = n := by simp [Nat.toUInt8, UInt8.toNat_ofNat']; omega
          rw [this]
        · cases h
      · rw [decide_eq_false hn] at h; cases h
    · cases h
  | [], _, _ :: _, _, h => h.elim
  | _ :: _, _, [], _, h => h.elim

theorem grownCap_ge (w : World) (n m : Nat) (e : TypeId) : n ≤ grownCap w n m e := by simp [grownCap, Question.cut]

theorem conv_ok (hR : R π σ w) {s d : TypeId} {x : AV} {X : Value} (hx : RA π x X) : Yields cx.P π σ w (convert s d X) (convA cx s d x σ) := by
  unfold convA
  split
  · trivial
  · rename_i su hsu
    split
    · rename_i k k' n hu
      rw [int_of hx]
      exact yields_int (m := k.wrap n) (by simp [convert, und_run hsu, und_run hu, Conv.intToInt]) (wrapA_ok _ _)
    · rename_i b hu
      rw [str_of hx]
      exact yields_val (x := .string b) (by simp [convert, und_run hsu, und_run hu]) (RA_str _)
    · rename_i e b hu
      rw [str_of hx]
      split
      · rename_i hue
        split
        · rename_i hsz
          have hrun := run_bytes_of_string (P := cx.P) w s d e b hsu hu hue
          have hg := grownCap_ge w b.size 0 e
          have hb : b.data.size = b.size := rfl
          have hsize : (bytesRow b (grownCap w b.size 0 e)).size = grownCap w b.size 0 e := by simp [bytesRow, hb]; omega
          have hlen : (bytesOf b).length = b.size := rfl
          refine ⟨_, _, (w.heap.size, 0, grownCap w b.size 0 e), hrun, ⟨rfl, ⟨by simp, fun i hi => ?_, ⟨rfl, rfl, rfl⟩⟩, fun i hi => ?_, fun i hi => ?_⟩⟩
          · have := (more_alloc w.drew (.cells (bytesRow b (grownCap w b.size 0 e)) e ((bytesRow b (grownCap w b.size 0 e)).size, (bytesRow b (grownCap w b.size 0 e)).size + 1))).old i hi
            exact this
          · refine ⟨_, _, heap_alloc w.drew _, hsize, ?_, fun h => (by cases h), fun j hj => ?_, _, cellsOfBytes_ok (bytesOf b), fun j v hj => ?_⟩
            · simp [cellsOfBytes]; rw [hlen]; exact hg
            · simp only [hsize]; simp only at hj; omega
            · simp only [Nat.zero_add, bytesRow]
              have hjl : j < b.data.size := by
                rcases Nat.lt_or_ge j (bytesOf b).length with h | h
                · exact h
                · rw [List.getElem?_eq_none (by simpa using h)] at hj; cases hj
              rw [Array.getElem?_append_left (by simpa using hjl)]
              simp [bytesOf] at hj
              simp [hj]
          · simp only [RA]
            refine ⟨_, _, _, 0, grownCap w b.size 0 e, Pl.upd_same _ _ _, ?_, ?_, by omega, by omega, by simp, .inl rfl⟩
            · rw [lenN_eq, hlen]
            · rw [lenN_eq, hlen]; exact hg
        · trivial
      · trivial
    · rename_i p n c hu
      split
      · rename_i e
        split
        · rename_i hue
          split
          · simp only [RA] at hx
            obtain ⟨rfl, rfl⟩ := hx
            refine yields_val (x := .string .empty) ?_ (by have : ofBytes [] = ByteArray.empty := rfl
                                                           rw [this]; exact RA_str _)
            simp [convert, und_run hsu, und_run hu, und_run hue, Conv.bytesToString]
          · rename_i i o
            split
            · rename_i l el ex hi
              split
              · rename_i cs hcs
                split
                · rename_i b hb
                  obtain ⟨⟨bl, base, sz⟩, hp, hblk⟩ := hR.blk i _ hi
                  simp only [RA] at hx
                  obtain ⟨b', base', sz', ad, cp, hp', rfl, hle, hc⟩ := hx
                  simp only at hp'
                  rw [hp] at hp'; cases hp'
                  obtain ⟨ms, h1, h2, h3⟩ := hblk.read hcs
                  have hms := bytesAt_ok cs b ms hb h1
                  have hbl : b.length = n := by rw [← h2, hms]; simp
                  subst hbl
                  have had : b.length = 0 ∨ ad = base + o := by
                    cases c with
                    | ex c => rcases hc.2 with h | h
                              · exact .inr h
                              · left; have := hc.1; omega
                    | to z => rcases hc.2.2.2 with h | h
                              · exact .inr h
                              · left; omega
                  refine yields_val (x := .string ⟨b.toArray⟩) ?_ (RA_str _)
                  refine run_convert_bytes_back (P := cx.P) w s d e ⟨bl, ad, none⟩ cp b hsu hue hu (fun j hj => ?_)
                  rcases had with h | h
                  · omega
                  · subst h
                    rw [Addr.add_mid]
                    refine h3 j _ ?_
                    rw [hms]; simp [hj]
                · trivial
              · trivial
            · trivial
        · trivial
      · trivial
    · rename_i hu
      split
      · have e : X = .pointer none := by simpa [RA, RC] using hx
        subst e
        refine yields_val ?_ hx
        simp [convert, und_run hsu, und_run hu, Conv.unsafePointer]
      · trivial
    · rename_i u hu
      split
      · have e : X = .pointer none := by simpa [RA, RC] using hx
        subst e
        refine yields_val ?_ hx
        simp [convert, und_run hsu, und_run hu, Conv.unsafePointer]
      · trivial
    · rename_i i o hu
      split
      · rename_i t
        split
        · rename_i l el ex n hi hn
          rw [blt_eq]
          by_cases ho : o < lenN l
          · rw [decide_eq_true ho]
            obtain ⟨⟨bl, base, sz⟩, hp, hblk⟩ := hR.blk i _ hi
            have hx' := hx
            simp only [RA] at hx
            obtain ⟨b', base', sz', hp', rfl⟩ := hx
            simp only at hp'
            rw [hp] at hp'; cases hp'
            obtain ⟨cs, frz, h1, h2, h3, _⟩ := hblk
            simp only at h1 h2 h3
            rw [lenN_eq] at ho
            have hsh : w.shape? bl = some (el, cs.size) := by simp [World.shape?, h1]
            refine yields_val ?_ hx'
            have hlt : ¬ (cs.size ≤ base + o) := by omega
            simp [convert, und_run hsu, und_run hu, Conv.unsafePointer, Conv.seenAt, viewAt, hsh, cellsIn, hlt, size_run hn]
          · rw [decide_eq_false ho]; trivial
        · trivial
      · trivial
    · rename_i u i o hu
      split
      · split
        · rename_i l el n hi hn
          cases hla : liesAt cx.P cx.P.depth el (lenN l / cx.P.cellsOf el) o u 1
          · trivial
          · obtain ⟨⟨bl, base, sz⟩, hp, hblk⟩ := hR.blk i _ hi
            have hx' := hx
            simp only [RA] at hx
            obtain ⟨b', base', sz', hp', rfl⟩ := hx
            simp only at hp'
            rw [hp] at hp'; cases hp'
            obtain ⟨cs, frz, h1, h2, h3, h4, _⟩ := hblk
            simp only at h1 h2 h3 h4
            obtain ⟨rfl, hl⟩ := h4 trivial
            have hsh : w.shape? bl = some (el, cs.size) := by simp [World.shape?, h1]
            refine yields_val ?_ hx'
            rw [lenN_eq, hl, ← h2] at hla
            simp [convert, und_run hsu, und_run hu, Conv.unsafePointer, Conv.seenAt, viewAt, hsh, size_run hn, variablesAt, hla]
        · trivial
      · trivial
    · trivial
end Go.Run
