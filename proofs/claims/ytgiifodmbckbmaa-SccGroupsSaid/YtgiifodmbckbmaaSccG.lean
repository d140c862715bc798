/- Who leads to whom: the plain law. No program in sight. -/
import Derived.Test.YtgiifodmbckbmaaEng7
set_option linter.unusedVariables false
set_option linter.unusedSimpArgs false
namespace Go.Scc
inductive Star (E : Int → Int → Prop) : Int → Int → Prop
  | refl (i : Int) : Star E i i
  | tail {i j k : Int} : Star E i j → E j k → Star E i k
theorem Star.trans {E : Int → Int → Prop} {i j k : Int} (h : Star E i j) (h' : Star E j k) : Star E i k := by
  induction h' with
  | refl => exact h
  | tail _ e ih => exact .tail ih e
def edge (n : Int) (ls : List (List Int)) (i k : Int) : Prop := 0 ≤ i ∧ i < n ∧ 0 ≤ k ∧ k < n ∧ ∃ row, ls[i.toNat]? = some row ∧ k ∈ row
def mem (S : List Bool) (k : Int) : Prop := 0 ≤ k ∧ S[k.toNat]? = some true
def Closed (n : Int) (ls : List (List Int)) (S : List Bool) : Prop := ∀ j k, mem S j → edge n ls j k → mem S k
theorem closed_star {n : Int} {ls : List (List Int)} {S : List Bool} (hc : Closed n ls S) {f k : Int} (hf : mem S f) (h : Star (edge n ls) f k) : mem S k := by
  induction h with
  | refl => exact hf
  | tail _ e ih => exact hc _ _ ih e
def Le (S T : List Bool) : Prop := S.length = T.length ∧ ∀ k, mem S k → mem T k
theorem Le.refl (S : List Bool) : Le S S := ⟨rfl, fun _ h => h⟩
theorem Le.trans {S T U : List Bool} (h : Le S T) (h' : Le T U) : Le S U := ⟨h.1.trans h'.1, fun k hk => h'.2 k (h.2 k hk)⟩
theorem mem_cons_zero {b : Bool} {S : List Bool} : mem (b :: S) 0 ↔ b = true := by simp [mem]
theorem mem_cons_succ {b : Bool} {S : List Bool} {k : Int} (h : 0 ≤ k) : mem (b :: S) (k + 1) ↔ mem S k := by
  have : (k + 1).toNat = k.toNat + 1 := by omega
  simp only [mem, this, List.getElem?_cons_succ]
  constructor
  · rintro ⟨_, h2⟩; exact ⟨h, h2⟩
  · rintro ⟨_, h2⟩; exact ⟨by omega, h2⟩
theorem Le.cons {a b : Bool} {S T : List Bool} (h : Le (a :: S) (b :: T)) : (a = true → b = true) ∧ Le S T := by
  refine ⟨fun ha => mem_cons_zero.1 (h.2 0 (mem_cons_zero.2 ha)), by simpa using h.1, fun k hk => ?_⟩
  exact (mem_cons_succ hk.1).1 (h.2 (k + 1) ((mem_cons_succ hk.1).2 hk))
theorem Le.count : ∀ {S T : List Bool}, Le S T → S.count true ≤ T.count true ∧ (S ≠ T → S.count true < T.count true)
  | [], [], _ => by simp
  | [], b :: T, h => by have := h.1; simp at this
  | a :: S, [], h => by have := h.1; simp at this
  | a :: S, b :: T, h => by
    obtain ⟨h1, h2⟩ := h.cons
    obtain ⟨i1, i2⟩ := h2.count
    by_cases hst : S = T
    · subst hst
      cases a <;> cases b <;> simp_all
    · have := i2 hst
      cases a <;> cases b <;> simp_all <;> omega
theorem Le.antisymm {S T : List Bool} (h : Le S T) (h' : Le T S) : S = T := by
  apply Classical.byContradiction
  intro hne
  have h1 := h.count.2 hne
  have h2 := h'.count.1
  omega
/-- A round that adds what the elder ones use either adds one more, or there is nothing to be added any more. -/
theorem round_grows {n : Int} {ls : List (List Int)} {S0 S : List Bool} {f : Int} {s : Nat} (hle : Le S0 S) (hadd : ∀ j k, mem S0 j → edge n ls j k → mem S k)
    (hsound : ∀ k, mem S k → Star (edge n ls) f k) (hf : mem S0 f) (h : Closed n ls S0 ∨ s + 1 ≤ S0.count true) : Closed n ls S ∨ s + 2 ≤ S.count true := by
  by_cases heq : S0 = S
  · subst heq
    exact .inl fun j k hj he => hadd j k hj he
  · rcases h with h | h
    · exfalso
      apply heq
      refine hle.antisymm ⟨hle.1.symm, fun k hk => closed_star h hf (hsound k hk)⟩
    · have := hle.count.2 heq
      exact .inr (by omega)
theorem mem_set {S : List Bool} {u k : Int} (hu : 0 ≤ u) (hl : u.toNat < S.length) : mem (S.set u.toNat true) k ↔ mem S k ∨ k = u := by
  unfold mem
  rw [List.getElem?_set]
  constructor
  · rintro ⟨h0, h1⟩
    by_cases h : u.toNat = k.toNat
    · right; omega
    · left; rw [if_neg h] at h1; exact ⟨h0, h1⟩
  · rintro (⟨h0, h1⟩ | rfl)
    · refine ⟨h0, ?_⟩
      by_cases h : u.toNat = k.toNat
      · rw [if_pos h, if_pos hl]
      · rw [if_neg h]; exact h1
    · exact ⟨hu, by simp [hl]⟩
theorem le_set (S : List Bool) {u : Int} (hu : 0 ≤ u) (hl : u.toNat < S.length) : Le S (S.set u.toNat true) :=
  ⟨by simp, fun k hk => (mem_set hu hl).2 (.inl hk)⟩
theorem count_le (S : List Bool) : S.count true ≤ S.length := List.count_le_length
theorem mem_init {n : Nat} {f k : Int} (hf : 0 ≤ f) (hfn : f.toNat < n) : mem ((List.replicate n false).set f.toNat true) k ↔ k = f := by
  rw [mem_set hf (by simpa using hfn)]
  constructor
  · rintro (⟨h0, h1⟩ | h)
    · rw [List.getElem?_replicate] at h1; split at h1 <;> simp at h1
    · exact h
  · exact .inr
theorem count_init {n : Nat} {f : Int} (hf : 0 ≤ f) (hfn : f.toNat < n) : 1 ≤ ((List.replicate n false).set f.toNat true).count true := by
  have : true ∈ (List.replicate n false).set f.toNat true := List.mem_iff_getElem?.2 ⟨f.toNat, by simp [hfn]⟩
  exact List.count_pos_iff.2 this

/-! ## By reckoning -/
def uses1 (ls : List (List Int)) (i k : Nat) : Bool := match ls[i]? with | some row => row.contains (k : Int) | none => false
def relax (n : Nat) (ls : List (List Int)) (S : List Bool) : List Bool :=
  (List.range n).map fun k => S.getD k false || (List.range n).any fun i => S.getD i false && uses1 ls i k
def rounds (n : Nat) (ls : List (List Int)) : Nat → List Bool → List Bool
  | 0, S => S
  | m + 1, S => rounds n ls m (relax n ls S)
/-- Does f lead to t? -/
def rB (n : Int) (ls : List (List Int)) (f t : Int) : Bool :=
  decide (0 ≤ f) && decide (f < n) && decide (0 ≤ t) && decide (t < n) && (rounds n.toNat ls n.toNat ((List.replicate n.toNat false).set f.toNat true)).getD t.toNat false
theorem mem_relax {n : Int} {ls : List (List Int)} {S : List Bool} (hl : S.length = n.toNat) (k : Int) : mem (relax n.toNat ls S) k ↔ mem S k ∨ ∃ j, mem S j ∧ edge n ls j k := by
  unfold mem relax
  constructor
  · rintro ⟨h0, h1⟩
    simp only [List.getElem?_map, Option.map_eq_some_iff, List.getElem?_range] at h1
    obtain ⟨a, ha, h2⟩ := h1
    have hk : k.toNat < n.toNat ∧ a = k.toNat := by
      rw [List.getElem?_eq_some_iff] at ha
      obtain ⟨hlt, he⟩ := ha
      rw [List.getElem_range] at he
      rw [List.length_range] at hlt
      exact ⟨hlt, he.symm⟩
    obtain ⟨hlt, rfl⟩ := hk
    simp only [Bool.or_eq_true, List.any_eq_true, Bool.and_eq_true, List.mem_range] at h2
    rcases h2 with h2 | ⟨i, hi, h3, h4⟩
    · left
      refine ⟨h0, ?_⟩
      rw [List.getD_eq_getElem?_getD] at h2
      cases hs : S[k.toNat]? with
      | none => rw [hs] at h2; simp at h2
      | some b => rw [hs] at h2; simpa using h2
    · right
      refine ⟨(i : Int), ⟨by omega, ?_⟩, by omega, by omega, h0, by omega, ?_⟩
      · simp only [Int.toNat_natCast]
        rw [List.getD_eq_getElem?_getD] at h3
        cases hs : S[i]? with
        | none => rw [hs] at h3; simp at h3
        | some b => rw [hs] at h3; simpa using h3
      · simp only [Int.toNat_natCast]
        unfold uses1 at h4
        cases hr : ls[i]? with
        | none => rw [hr] at h4; simp at h4
        | some row =>
          rw [hr] at h4
          refine ⟨row, rfl, ?_⟩
          have h5 : ((k.toNat : Nat) : Int) ∈ row := by simpa using h4
          rwa [show ((k.toNat : Nat) : Int) = k by omega] at h5
  · rintro (⟨h0, h1⟩ | ⟨j, ⟨j0, j1⟩, e1, e2, e3, e4, row, hr, hk⟩)
    · have hlt : k.toNat < n.toNat := by
        rw [← hl]
        exact (List.getElem?_eq_some_iff.1 h1).1
      refine ⟨h0, ?_⟩
      rw [List.getElem?_map, List.getElem?_range hlt]
      simp [h1]
    · have hlt : k.toNat < n.toNat := by omega
      refine ⟨e3, ?_⟩
      rw [List.getElem?_map, List.getElem?_range hlt]
      simp only [Option.map_some, Option.some.injEq, Bool.or_eq_true, List.any_eq_true, Bool.and_eq_true, List.mem_range]
      right
      refine ⟨j.toNat, by omega, by simp [j1], ?_⟩
      unfold uses1
      rw [hr]
      have : ((k.toNat : Nat) : Int) ∈ row := by rwa [show ((k.toNat : Nat) : Int) = k by omega]
      simpa using this
theorem relax_len (n : Nat) (ls : List (List Int)) (S : List Bool) : (relax n ls S).length = n := by simp [relax]
theorem rounds_spec {n : Int} {ls : List (List Int)} {f : Int} : ∀ (m : Nat) (S : List Bool) (s : Nat), S.length = n.toNat → mem S f → (∀ k, mem S k → Star (edge n ls) f k) → (Closed n ls S ∨ s + 1 ≤ S.count true) →
    (rounds n.toNat ls m S).length = n.toNat ∧ mem (rounds n.toNat ls m S) f ∧ (∀ k, mem (rounds n.toNat ls m S) k → Star (edge n ls) f k) ∧ (Closed n ls (rounds n.toNat ls m S) ∨ s + m + 1 ≤ (rounds n.toNat ls m S).count true)
  | 0, S, s, h1, h2, h3, h4 => ⟨h1, h2, h3, by simpa [rounds] using h4⟩
  | m + 1, S, s, h1, h2, h3, h4 => by
    have hs : ∀ k, mem (relax n.toNat ls S) k → Star (edge n ls) f k := by
      intro k hk
      rcases (mem_relax h1 k).1 hk with h | ⟨j, hj, he⟩
      · exact h3 k h
      · exact .tail (h3 j hj) he
    have := rounds_spec m (relax n.toNat ls S) (s + 1) (relax_len _ _ _) ((mem_relax h1 f).2 (.inl h2)) hs
      (round_grows ⟨by rw [relax_len, h1], fun k hk => (mem_relax h1 k).2 (.inl hk)⟩ (fun j k hj he => (mem_relax h1 k).2 (.inr ⟨j, hj, he⟩)) hs h2 h4)
    simp only [rounds]
    refine ⟨this.1, this.2.1, this.2.2.1, ?_⟩
    rcases this.2.2.2 with h | h
    · exact .inl h
    · exact .inr (by omega)
theorem rB_iff {n : Int} {ls : List (List Int)} {f t : Int} : rB n ls f t = true ↔ 0 ≤ f ∧ f < n ∧ 0 ≤ t ∧ t < n ∧ Star (edge n ls) f t := by
  unfold rB
  simp only [Bool.and_eq_true, decide_eq_true_eq]
  constructor
  · rintro ⟨⟨⟨⟨h1, h2⟩, h3⟩, h4⟩, h5⟩
    have hf : f.toNat < n.toNat := by omega
    have := rounds_spec (n := n) (ls := ls) (f := f) n.toNat ((List.replicate n.toNat false).set f.toNat true) 0 (by simp) ((mem_init h1 hf).2 rfl) (fun k hk => by rw [(mem_init h1 hf).1 hk]; exact .refl _) (.inr (count_init h1 hf))
    refine ⟨h1, h2, h3, h4, this.2.2.1 t ⟨h3, ?_⟩⟩
    rw [List.getD_eq_getElem?_getD] at h5
    cases hs : (rounds n.toNat ls n.toNat ((List.replicate n.toNat false).set f.toNat true))[t.toNat]? with
    | none => rw [hs] at h5; simp at h5
    | some b => rw [hs] at h5; simpa using h5
  · rintro ⟨h1, h2, h3, h4, h5⟩
    refine ⟨⟨⟨⟨h1, h2⟩, h3⟩, h4⟩, ?_⟩
    have hf : f.toNat < n.toNat := by omega
    have := rounds_spec (n := n) (ls := ls) (f := f) n.toNat ((List.replicate n.toNat false).set f.toNat true) 0 (by simp) ((mem_init h1 hf).2 rfl) (fun k hk => by rw [(mem_init h1 hf).1 hk]; exact .refl _) (.inr (count_init h1 hf))
    have hc : Closed n ls (rounds n.toNat ls n.toNat ((List.replicate n.toNat false).set f.toNat true)) := by
      rcases this.2.2.2 with h | h
      · exact h
      · have h6 := count_le (rounds n.toNat ls n.toNat ((List.replicate n.toNat false).set f.toNat true))
        rw [this.1] at h6
        omega
    have hm := closed_star hc this.2.1 h5
    simp [hm.2]
/-- A set that is closed, and sound, tells it. -/
theorem rB_of {n : Int} {ls : List (List Int)} {S : List Bool} {f t : Int} (h1 : 0 ≤ f) (h2 : f < n) (h3 : 0 ≤ t) (h4 : t < n) (hl : S.length = n.toNat) (hf : mem S f) (hs : ∀ k, mem S k → Star (edge n ls) f k) (hc : Closed n ls S) :
    S[t.toNat]? = some (rB n ls f t) := by
  have hlt : t.toNat < S.length := by omega
  have he : S[t.toNat]? = some S[t.toNat] := by simp [hlt]
  rw [he]
  congr 1
  rw [Bool.eq_iff_iff, rB_iff]
  constructor
  · intro h
    exact ⟨h1, h2, h3, h4, hs t ⟨h3, by rw [he, h]⟩⟩
  · rintro ⟨_, _, _, _, h5⟩
    have := (closed_star hc hf h5).2
    rw [he] at this
    simpa using this
end Go.Scc
