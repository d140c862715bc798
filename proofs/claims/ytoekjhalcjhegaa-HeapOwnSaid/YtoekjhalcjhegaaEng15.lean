/- What a call has of its own, as a list: blocks, and slices that may be appended to; and what it may read, as a view. The rules of the frame over it. Nothing here names a program. -/
import Derived.Test.YtoekjhalcjhegaaEng14
set_option linter.unusedVariables false
set_option linter.unusedSimpArgs false
namespace Go.Eng
open Go Go.RowKit
/-- An own thing: an object in a block; a slice with the n elements xs (cells), in a block that is nobody else's, or nil. -/
inductive Ent
  | obj (b : Nat) (o : Obj)
  | own (v : Value) (e sz n : Nat) (xs : List Value)
abbrev Ent.blk (b : Nat) (cs : List Value) (t : TypeId) : Ent := .obj b (.cells cs.toArray t (0, 0))
def Ent.here (w : World) : Ent → Option Nat → Prop
  | .obj b o, f => f = some b ∧ w.heap[b]? = some o
  | .own v e sz n xs, f => (f = none ∧ v = .slice none 0 0 ∧ n = 0 ∧ xs = []) ∨ ∃ b, f = some b ∧ Own w e sz v n xs b
structure MemF (w0 w : World) (L : List Ent) (F : List (Option Nat)) (V : Vw) : Prop where
  below : Below w0.heap.size w0 w
  len : L.length = F.length
  all : ∀ (i : Nat) e f, L[i]? = some e → F[i]? = some f → e.here w f
  apart : ∀ (i j : Nat) b, F[i]? = some (some b) → F[j]? = some (some b) → i = j
  low : ∀ (i : Nat) b, F[i]? = some (some b) → w0.heap.size ≤ b ∧ b < w.heap.size
  view : ∀ a v, V a = some v → w.cell? a = some v ∧ ∀ i : Nat, F[i]? ≠ some (some a.block)
def Mem (w0 w : World) (L : List Ent) (V : Vw) : Prop := ∃ F, MemF w0 w L F V
def VLe (V V' : Vw) : Prop := ∀ a v, V a = some v → V' a = some v
theorem VLe.refl (V : Vw) : VLe V V := fun _ _ h => h
theorem VLe.trans {V V' V'' : Vw} (h : VLe V V') (h' : VLe V' V'') : VLe V V'' := fun a v e => h' a v (h a v e)
variable {w0 w w' : World} {L : List Ent} {V : Vw}
theorem Mem.init (w : World) : Mem w w [] w.cell? := ⟨[], Below.refl _ _, rfl, fun i e f h => by simp at h, fun i j b h => by simp at h, fun i b h => by simp at h, fun a v h => ⟨h, fun i h => by simp at h⟩⟩
theorem Mem.below (h : Mem w0 w L V) : Below w0.heap.size w0 w := by obtain ⟨F, h⟩ := h; exact h.below
theorem Mem.view (h : Mem w0 w L V) {a : Addr} {v : Value} (hv : V a = some v) : w.cell? a = some v := by obtain ⟨F, h⟩ := h; exact (h.view a v hv).1
theorem Mem.vle (h : Mem w0 w L V) : VLe V w.cell? := fun a v hv => h.view hv
theorem Mem.le {V' : Vw} (h : Mem w0 w L V) (hv : VLe V' V) : Mem w0 w L V' := by
  obtain ⟨F, h⟩ := h
  exact ⟨F, h.below, h.len, h.all, h.apart, h.low, fun a v e => h.view a v (hv a v e)⟩
theorem Ent.here_keep {e : Ent} {f : Option Nat} (h : e.here w f) (hk : ∀ b, f = some b → w'.heap[b]? = w.heap[b]?) : e.here w' f := by
  cases e with
  | obj b o => exact ⟨h.1, (hk b h.1).trans h.2⟩
  | own v e sz n xs =>
    rcases h with h | ⟨b, hf, h⟩
    · exact .inl h
    · refine .inr ⟨b, hf, h.1, ?_⟩
      rcases h.2 with h1 | ⟨cap, spare, h1, h2, h3, h4, h5⟩
      · exact .inl h1
      · refine .inr ⟨cap, spare, h1, h2, h3, h4, ?_⟩
        unfold Blk at h5 ⊢
        rw [hk b hf]; exact h5
theorem getF {L : List Ent} {F : List (Option Nat)} {i : Nat} {e : Ent} (hl : L.length = F.length) (hi : L[i]? = some e) : ∃ f, F[i]? = some f := by
  have := (List.getElem?_eq_some_iff.1 hi).1
  exact ⟨F[i]'(by omega), by simp⟩
/-- Nothing that was there has turned. -/
theorem Mem.ext (h : Mem w0 w L V) (hb : Below w.heap.size w w') : Mem w0 w' L V := by
  obtain ⟨F, h⟩ := h
  have hs := hb.size
  refine ⟨F, below_ext h.below hb h.below.size, h.len, fun i e f h1 h2 => ?_, h.apart, fun i b h1 => ⟨(h.low i b h1).1, by have := (h.low i b h1).2; omega⟩, fun a v hv => ⟨cell_ext (h.view a v hv).1 hb, (h.view a v hv).2⟩⟩
  refine Ent.here_keep (h.all i e f h1 h2) fun b hf => ?_
  subst hf
  exact hb.block b (h.low i b h2).2
/-- A new thing ahead. -/
theorem Mem.push {e : Ent} {f : Option Nat} (h : Mem w0 w L V) (hb : Below w.heap.size w w') (he : e.here w' f) (hf : ∀ b, f = some b → w.heap.size ≤ b ∧ b < w'.heap.size) : Mem w0 w' (e :: L) V := by
  obtain ⟨F, h⟩ := h
  have hs := hb.size
  have h0 := h.below.size
  have hnew : ∀ (i : Nat) b, F[i]? = some (some b) → f ≠ some b := fun i b h1 h2 => by
    have := (h.low i b h1).2
    have := (hf b h2).1
    omega
  obtain ⟨F', h'⟩ := Mem.ext (⟨F, h⟩ : Mem w0 w L V) hb
  refine ⟨f :: F, below_ext h.below hb h0, by simp [h.len], fun i e' f' h1 h2 => ?_, fun i j b h1 h2 => ?_, fun i b h1 => ?_, fun a v hv => ⟨cell_ext (h.view a v hv).1 hb, fun i h1 => ?_⟩⟩
  · cases i with
    | zero => simp at h1 h2; subst h1; subst h2; exact he
    | succ i =>
      simp at h1 h2
      refine Ent.here_keep (h.all i e' f' h1 h2) fun b hf' => ?_
      subst hf'
      exact hb.block b (h.low i b h2).2
  · cases i with
    | zero =>
      cases j with
      | zero => rfl
      | succ j => simp at h1 h2; exact absurd h1 (hnew j b h2)
    | succ i =>
      cases j with
      | zero => simp at h1 h2; exact absurd h2 (hnew i b h1)
      | succ j => simp at h1 h2; rw [h.apart i j b h1 h2]
  · cases i with
    | zero => simp at h1; have := hf b h1; omega
    | succ i => simp at h1; have := h.low i b h1; omega
  · cases i with
    | zero =>
      simp at h1
      have h2 := (hf _ h1).1
      have h3 := cell_lt (h.view a v hv).1
      omega
    | succ i => simp at h1; exact (h.view a v hv).2 i h1
theorem Mem.newOwn (h : Mem w0 w L V) (e sz : Nat) : Mem w0 w (.own (.slice none 0 0) e sz 0 [] :: L) V :=
  h.push (f := none) (Below.refl _ _) (.inl ⟨rfl, rfl, rfl, rfl⟩) (fun b h => by cases h)
theorem Mem.newObj {o : Obj} (h : Mem w0 w L V) : Mem w0 (w.alloc o) (.obj w.heap.size o :: L) V :=
  h.push (f := some w.heap.size) (ext_alloc _ _) ⟨rfl, heap_alloc_new w o⟩ (fun b h => by cases h; simp)
theorem Mem.newBlk {cs : List Value} {t : TypeId} (h : Mem w0 w L V) (hb : Below w.heap.size w w') (hB : Blk w' w.heap.size cs t) : Mem w0 w' (.blk w.heap.size cs t :: L) V :=
  h.push (f := some w.heap.size) hb ⟨rfl, by unfold Blk at hB; exact hB⟩ (fun b h => by cases h; exact ⟨Nat.le_refl _, hB.lt⟩)
/-- Thing i has turned. -/
theorem Mem.put {i : Nat} {e e' : Ent} {F : List (Option Nat)} {f f' : Option Nat} (h : MemF w0 w L F V) (hi : L[i]? = some e) (hf : F[i]? = some f) (ho : w'.os = w.os ∧ w'.tape = w.tape ∧ w'.output = w.output) (hs : w.heap.size ≤ w'.heap.size)
    (hk : ∀ k, k < w.heap.size → f ≠ some k → w'.heap[k]? = w.heap[k]?) (he : e'.here w' f') (hf' : f' = f ∨ f' = none ∨ ∃ b, f' = some b ∧ w.heap.size ≤ b ∧ b < w'.heap.size) : MemF w0 w' (L.set i e') (F.set i f') V := by
  have h0 := h.below.size
  have hil := (List.getElem?_eq_some_iff.1 hf).1
  have hnew : ∀ (j : Nat) b, j ≠ i → F[j]? = some (some b) → f' ≠ some b := fun j b hj h1 h2 => by
    have h3 := (h.low j b h1).2
    rcases hf' with rfl | rfl | ⟨c, rfl, h4, h5⟩
    · subst h2; exact hj (h.apart j i b h1 hf)
    · cases h2
    · cases h2; omega
  refine ⟨?_, by simp [h.len], fun j e2 f2 h1 h2 => ?_, fun j k b h1 h2 => ?_, fun j b h1 => ?_, fun a v hv => ⟨?_, fun j h1 => ?_⟩⟩
  · refine h.below.trans ⟨ho.1, ho.2.1, ho.2.2, by omega, fun k hk1 => hk k (by omega) fun hfk => ?_⟩
    subst hfk
    have := (h.low i k hf).1
    omega
  · by_cases hij : i = j
    · subst hij
      rw [List.getElem?_set_self (by have := h.len; omega)] at h1
      rw [List.getElem?_set_self hil] at h2
      cases h1; cases h2
      exact he
    · rw [List.getElem?_set_ne hij] at h1 h2
      refine Ent.here_keep (h.all j e2 f2 h1 h2) fun b hb => ?_
      subst hb
      refine hk b (h.low j b h2).2 fun hfb => ?_
      subst hfb
      exact hij (h.apart i j b hf h2)
  · by_cases hij : i = j
    · by_cases hik : i = k
      · omega
      · subst hij
        rw [List.getElem?_set_self hil] at h1
        rw [List.getElem?_set_ne hik] at h2
        cases h1
        exact absurd rfl (hnew k b (Ne.symm hik) h2)
    · by_cases hik : i = k
      · subst hik
        rw [List.getElem?_set_self hil] at h2
        rw [List.getElem?_set_ne hij] at h1
        cases h2
        exact absurd rfl (hnew j b (Ne.symm hij) h1)
      · rw [List.getElem?_set_ne hij] at h1
        rw [List.getElem?_set_ne hik] at h2
        exact h.apart j k b h1 h2
  · by_cases hij : i = j
    · subst hij
      rw [List.getElem?_set_self hil] at h1
      cases h1
      rcases hf' with h4 | h4 | ⟨c, h4, h5, h6⟩
      · subst h4; have := h.low i b hf; omega
      · cases h4
      · cases h4; omega
    · rw [List.getElem?_set_ne hij] at h1
      have := h.low j b h1; omega
  · have hlt := cell_lt (h.view a v hv).1
    rw [World.cell?_of_block (hk a.block hlt fun hfa => (h.view a v hv).2 i (by rw [hf, hfa]))]
    exact (h.view a v hv).1
  · by_cases hij : i = j
    · subst hij
      rw [List.getElem?_set_self hil] at h1
      cases h1
      have hlt := cell_lt (h.view a v hv).1
      rcases hf' with h4 | h4 | ⟨c, h4, h5, h6⟩
      · exact (h.view a v hv).2 i (by rw [hf, ← h4])
      · cases h4
      · simp only [Option.some.injEq] at h4; omega
    · rw [List.getElem?_set_ne hij] at h1
      exact (h.view a v hv).2 j h1
theorem Mem.getObj {i b : Nat} {o : Obj} (h : Mem w0 w L V) (hi : L[i]? = some (.obj b o)) : w.heap[b]? = some o := by
  obtain ⟨F, h⟩ := h
  obtain ⟨f, hf⟩ := getF h.len hi
  exact (h.all i _ f hi hf).2
theorem Mem.get {i b : Nat} {cs : List Value} {t : TypeId} (h : Mem w0 w L V) (hi : L[i]? = some (.blk b cs t)) : Blk w b cs t := by
  unfold Blk; exact h.getObj hi
theorem Mem.cell {i b o : Nat} {cs : List Value} {t : TypeId} {v : Value} (h : Mem w0 w L V) (hi : L[i]? = some (.blk b cs t)) (ho : cs[o]? = some v) : w.cell? ⟨b, o, none⟩ = some v := (h.get hi).cell_some ho
theorem Mem.setObj {i b : Nat} {o o' : Obj} (h : Mem w0 w L V) (hi : L[i]? = some (.obj b o)) (hc : Chg b w w') (hB : w'.heap[b]? = some o') : Mem w0 w' (L.set i (.obj b o')) V := by
  obtain ⟨F, h⟩ := h
  obtain ⟨f, hf⟩ := getF h.len hi
  have hh := h.all i _ f hi hf
  exact ⟨_, Mem.put h hi hf ⟨hc.os, hc.tape, hc.output⟩ hc.size (fun k hk hne => hc.block k hk (fun e => hne (by rw [hh.1, e]))) ⟨hh.1, hB⟩ (.inl rfl)⟩
theorem Mem.set {i b : Nat} {cs cs' : List Value} {t : TypeId} (h : Mem w0 w L V) (hi : L[i]? = some (.blk b cs t)) (hc : Chg b w w') (hB : Blk w' b cs' t) : Mem w0 w' (L.set i (.blk b cs' t)) V :=
  h.setObj hi hc (by unfold Blk at hB; exact hB)
/-- A slice of the call's own, and the block that may be written. -/
theorem Mem.own {i : Nat} {v : Value} {e sz n : Nat} {xs : List Value} (h : Mem w0 w L V) (hi : L[i]? = some (.own v e sz n xs)) :
    ∃ b, Own w e sz v n xs b ∧ ∀ (w' : World) (v' : Value) (n' : Nat) (xs' : List Value) (b' : Nat), Own w' e sz v' n' xs' b' → (b' = b ∨ w.heap.size ≤ b') → Chg b w w' → Mem w0 w' (L.set i (.own v' e sz n' xs')) V := by
  obtain ⟨F, h⟩ := h
  obtain ⟨f, hf⟩ := getF h.len hi
  have new : ∀ (w' : World) (v' : Value) (n' : Nat) (xs' : List Value) (b' : Nat), Own w' e sz v' n' xs' b' → ∃ f', Ent.here w' (.own v' e sz n' xs') f' ∧ (f' = none ∨ (f' = some b' ∧ b' < w'.heap.size)) := by
    intro w' v' n' xs' b' hO
    rcases hO.nil_or with ⟨h1, h2, h3⟩ | hlt
    · exact ⟨none, .inl ⟨rfl, h1, h2, h3⟩, .inl rfl⟩
    · exact ⟨some b', .inr ⟨b', rfl, hO⟩, .inr ⟨rfl, hlt⟩⟩
  rcases h.all i _ f hi hf with ⟨rfl, rfl, rfl, rfl⟩ | ⟨b, rfl, hO⟩
  · refine ⟨w.heap.size, Own.nil _ _ _ _, fun w' v' n' xs' b' hO hb' hc => ?_⟩
    obtain ⟨f', h1, h2⟩ := new w' v' n' xs' b' hO
    refine ⟨_, Mem.put h hi hf ⟨hc.os, hc.tape, hc.output⟩ hc.size (fun k hk _ => hc.block k hk (by omega)) h1 ?_⟩
    rcases h2 with rfl | ⟨rfl, h3⟩
    · exact .inl rfl
    · exact .inr (.inr ⟨b', rfl, by omega, h3⟩)
  · refine ⟨b, hO, fun w' v' n' xs' b' hO' hb' hc => ?_⟩
    obtain ⟨f', h1, h2⟩ := new w' v' n' xs' b' hO'
    refine ⟨_, Mem.put h hi hf ⟨hc.os, hc.tape, hc.output⟩ hc.size (fun k hk hne => hc.block k hk (fun e => hne (by rw [e]))) h1 ?_⟩
    rcases h2 with rfl | ⟨rfl, h3⟩
    · exact .inr (.inl rfl)
    · rcases hb' with rfl | hb'
      · exact .inl rfl
      · exact .inr (.inr ⟨b', rfl, hb', h3⟩)
/-- Fewer things, in another row. -/
theorem Mem.pick {L' : List Ent} (g : Nat → Nat) (h : Mem w0 w L V) (hg : ∀ (i : Nat) e, L'[i]? = some e → L[g i]? = some e) (hinj : ∀ i j : Nat, i < L'.length → j < L'.length → g i = g j → i = j) : Mem w0 w L' V := by
  obtain ⟨F, h⟩ := h
  have hF : ∀ (i : Nat) f, ((List.range L'.length).map fun i => (F[g i]?).getD none)[i]? = some f → i < L'.length ∧ ∃ e, L'[i]? = some e ∧ F[g i]? = some f := by
    intro i f hf
    rw [List.getElem?_map, Option.map_eq_some_iff] at hf
    obtain ⟨k, hk, rfl⟩ := hf
    obtain ⟨hlt, he⟩ := List.getElem?_eq_some_iff.1 hk
    rw [List.length_range] at hlt
    rw [List.getElem_range] at he
    subst he
    have h1 := hg i _ (List.getElem?_eq_getElem hlt)
    obtain ⟨f, hf⟩ := getF h.len h1
    exact ⟨hlt, _, List.getElem?_eq_getElem hlt, by simp [hf]⟩
  refine ⟨(List.range L'.length).map fun i => (F[g i]?).getD none, h.below, by simp, fun i e f h1 h2 => ?_, fun i j b h1 h2 => ?_, fun i b h1 => ?_, fun a v hv => ⟨(h.view a v hv).1, fun i h1 => ?_⟩⟩
  · obtain ⟨hl, e', he, hf⟩ := hF i f h2
    rw [h1] at he; cases he
    exact h.all _ _ _ (hg i e h1) hf
  · obtain ⟨hl, e', he, hf⟩ := hF i _ h1
    obtain ⟨hl2, e2, he2, hf2⟩ := hF j _ h2
    exact hinj i j hl hl2 (h.apart _ _ b hf hf2)
  · obtain ⟨hl, e', he, hf⟩ := hF i _ h1
    exact h.low _ b hf
  · obtain ⟨hl, e', he, hf⟩ := hF i _ h1
    exact (h.view a v hv).2 _ hf
theorem Mem.dropn (n : Nat) (h : Mem w0 w L V) : Mem w0 w (L.drop n) V :=
  h.pick (fun i => n + i) (fun i e hi => by rwa [List.getElem?_drop] at hi) (fun i j _ _ h => by omega)
theorem Mem.erase (n : Nat) (h : Mem w0 w L V) : Mem w0 w (L.eraseIdx n) V :=
  h.pick (fun i => if i < n then i else i + 1) (fun i e hi => by
    rw [List.getElem?_eraseIdx] at hi
    split <;> rename_i hc
    · rwa [if_pos hc] at hi
    · rwa [if_neg hc] at hi) (fun i j _ _ h => by split at h <;> split at h <;> omega)
theorem Mem.front (n : Nat) {e : Ent} (h : Mem w0 w L V) (he : L[n]? = some e) : Mem w0 w (e :: L.eraseIdx n) V := by
  have hn := (List.getElem?_eq_some_iff.1 he).1
  refine h.pick (fun i => match i with | 0 => n | i + 1 => if i < n then i else i + 1) (fun i e' hi => ?_) (fun i j _ _ h => ?_)
  · cases i with
    | zero => simp at hi; subst hi; exact he
    | succ i =>
      simp only [List.getElem?_cons_succ] at hi
      rw [List.getElem?_eraseIdx] at hi
      show L[if i < n then i else i + 1]? = some e'
      split <;> rename_i hc
      · rwa [if_pos hc] at hi
      · rwa [if_neg hc] at hi
  · cases i with
    | zero =>
      cases j with
      | zero => rfl
      | succ j => simp only at h; split at h <;> omega
    | succ i =>
      cases j with
      | zero => simp only at h; split at h <;> omega
      | succ j => simp only at h; split at h <;> split at h <;> omega
/-! ## What is built may be read from then on -/
def vblk (V : Vw) (w : World) (b : Nat) : Vw := fun a => if a.block = b then w.cell? a else V a
theorem Mem.freezeAt {e : Ent} {F : List (Option Nat)} {b : Nat} (h : MemF w0 w (e :: L) F V) (hf : F[0]? = some (some b)) : Mem w0 w L (vblk V w b) ∧ VLe V (vblk V w b) := by
  refine ⟨⟨F.drop 1, h.below, ?_, fun i e f h1 h2 => ?_, fun i j c h1 h2 => ?_, fun i c h1 => ?_, fun a v hv => ?_⟩, fun a v hv => ?_⟩
  · have := h.len; simp at this ⊢; omega
  · rw [List.getElem?_drop] at h2
    exact h.all (i + 1) e f (by simpa using h1) (by rwa [Nat.add_comm] at h2)
  · rw [List.getElem?_drop] at h1 h2
    have := h.apart _ _ c h1 h2
    omega
  · rw [List.getElem?_drop] at h1
    exact h.low _ c h1
  · unfold vblk at hv
    split at hv
    · rename_i hab
      refine ⟨hv, fun i h1 => ?_⟩
      rw [List.getElem?_drop, hab] at h1
      have := h.apart _ _ b h1 hf
      omega
    · exact ⟨(h.view a v hv).1, fun i h1 => by rw [List.getElem?_drop] at h1; exact (h.view a v hv).2 _ h1⟩
  · unfold vblk
    split
    · exact (h.view a v hv).1
    · exact hv
theorem Mem.freezeBlk {b : Nat} {cs : List Value} {t : TypeId} (h : Mem w0 w (.blk b cs t :: L) V) : ∃ V', VLe V V' ∧ Mem w0 w L V' ∧ ∀ i v, cs[i]? = some v → V' ⟨b, i, none⟩ = some v := by
  have hB := h.get (i := 0) rfl
  obtain ⟨F, h⟩ := h
  obtain ⟨f, hf⟩ := getF h.len (i := 0) rfl
  have hh := h.all 0 _ f rfl hf
  have h1 := hh.1
  subst h1
  obtain ⟨h2, h3⟩ := Mem.freezeAt h hf
  exact ⟨_, h3, h2, fun i v hi => by unfold vblk; rw [if_pos rfl]; exact hB.cell_some hi⟩
theorem Mem.freezeOwn {v : Value} {e sz n : Nat} {xs : List Value} (h : Mem w0 w (.own v e sz n xs :: L) V) :
    ∃ V', VLe V V' ∧ Mem w0 w L V' ∧ ∃ a c b, v = .slice a n c ∧ n ≤ c ∧ c ≤ maxLen ∧ (0 < n → a = some ⟨b, 0, none⟩) ∧ ∀ (i : Nat) u, xs[i]? = some u → V' ⟨b, 0 + i, none⟩ = some u := by
  obtain ⟨F, h⟩ := h
  obtain ⟨f, hf⟩ := getF h.len (i := 0) rfl
  rcases h.all 0 _ f rfl hf with ⟨rfl, rfl, rfl, rfl⟩ | ⟨b, rfl, hO⟩
  · exact ⟨V, VLe.refl _, Mem.dropn 1 ⟨F, h⟩, none, 0, 0, rfl, Nat.le_refl _, Nat.zero_le _, fun h => absurd h (by omega), fun i u h => by simp at h⟩
  · obtain ⟨h2, h3⟩ := Mem.freezeAt h hf
    obtain ⟨a, c, e1, e2, e3, e4⟩ := hO.shape
    exact ⟨_, h3, h2, a, c, b, e1, e2, e3, e4, fun i u hi => by unfold vblk; rw [if_pos rfl, Nat.zero_add]; exact hO.cell hi⟩
theorem Mem.ownShape {i : Nat} {v : Value} {e sz n : Nat} {xs : List Value} (h : Mem w0 w L V) (hi : L[i]? = some (.own v e sz n xs)) : ∃ a c, v = .slice a n c ∧ n ≤ c ∧ c ≤ maxLen := by
  obtain ⟨b, hO, _⟩ := h.own hi
  obtain ⟨a, c, h1, h2, h3, _⟩ := hO.shape
  exact ⟨a, c, h1, h2, h3⟩
end Go.Eng
