/- What is placed when groups are looked at one by one: the plain law. No program in sight. -/
import Derived.Test.YtgiifodmbckbmaaSccT
set_option linter.unusedVariables false
set_option linter.unusedSimpArgs false
namespace Go.Scc
def nz (x : Int) : Bool := !(x == 0)
theorem countP_set0 : ∀ {p : List Int} {u : Nat} {v : Int}, p[u]? = some 0 → v ≠ 0 → (p.set u v).countP nz = p.countP nz + 1
  | [], u, v, h, _ => by simp at h
  | a :: p, 0, v, h, hv => by
    simp at h; subst h
    rw [List.set_cons_zero, List.countP_cons, List.countP_cons]
    simp [nz, hv]
  | a :: p, u + 1, v, h, hv => by
    have := countP_set0 (p := p) (u := u) (by simpa using h) hv
    rw [List.set_cons_succ, List.countP_cons, List.countP_cons, this]; omega
/-- What is placed when i groups, and j things of the next, were looked at. -/
structure PL (G : List (List Int)) (i j : Nat) (p : List Int) : Prop where
  a : ∀ (i' : Nat) g x, i' < i → G[i']? = some g → x ∈ g → p[x.toNat]? = some ((i' : Int) + 1)
  b : ∀ g x, G[i]? = some g → x ∈ g.take j → p[x.toNat]? = some ((i : Int) + 1)
  c : ∀ (x : Nat) v, p[x]? = some v → v ≠ 0 → (∃ (i' : Nat) (g : List Int), i' < i ∧ G[i']? = some g ∧ (x : Int) ∈ g) ∨ ∃ g, G[i]? = some g ∧ (x : Int) ∈ g.take j
theorem PL.zero (G : List (List Int)) (n : Nat) : PL G 0 0 (List.replicate n 0) := by
  refine ⟨fun i' g x h => by omega, fun g x _ h => by simp at h, fun x v h hv => ?_⟩
  rw [List.getElem?_replicate] at h
  split at h
  · simp at h; exact absurd h.symm hv
  · cases h
theorem PL.next {G : List (List Int)} {i : Nat} {g : List Int} {p : List Int} (h : PL G i g.length p) (hg : G[i]? = some g) : PL G (i + 1) 0 p := by
  refine ⟨fun i' g' x h1 h2 h3 => ?_, fun g x _ h => by simp at h, fun x v h1 h2 => ?_⟩
  · by_cases hi : i' = i
    · subst hi; rw [hg] at h2; cases h2
      exact h.b g x hg (by rwa [List.take_length])
    · exact h.a i' g' x (by omega) h2 h3
  · rcases h.c x v h1 h2 with ⟨i', g', e1, e2, e3⟩ | ⟨g', e2, e3⟩
    · exact .inl ⟨i', g', by omega, e2, e3⟩
    · exact .inl ⟨i, g', by omega, e2, List.mem_of_mem_take e3⟩
theorem PL.free {n : Int} {ls : List (List Int)} {i j : Nat} {g : List Int} {p : List Int} {u : Int} (h : PL (groups n ls) i j p) (hl : p.length = n.toNat) (hg : (groups n ls)[i]? = some g) (hu : g[j]? = some u) : p[u.toNat]? = some 0 := by
  have hm := List.mem_of_getElem? hu
  have hr := groups_range hg hm
  obtain ⟨v, hv⟩ : ∃ v, p[u.toNat]? = some v := ⟨p[u.toNat]'(by omega), by simp⟩
  by_cases h0 : v = 0
  · rw [hv, h0]
  · exfalso
    have hu' : ((u.toNat : Nat) : Int) = u := by omega
    rcases h.c _ _ hv h0 with ⟨i', g', e1, e2, e3⟩ | ⟨g', e2, e3⟩
    · rw [hu'] at e3
      have := groups_one e2 hg e3 hm
      omega
    · rw [hg] at e2; cases e2
      rw [hu'] at e3
      have hnd := groups_nodup hg
      obtain ⟨k, hk⟩ := List.mem_iff_getElem?.1 e3
      rw [List.getElem?_take] at hk
      split at hk
      · rename_i hlt
        have hkl := (List.getElem?_eq_some_iff.1 hk).1
        have hjl := (List.getElem?_eq_some_iff.1 hu).1
        have := (List.getElem?_inj hkl hnd).1 (hk.trans hu.symm)
        omega
      · cases hk
theorem PL.put {n : Int} {ls : List (List Int)} {i j : Nat} {g : List Int} {p : List Int} {u : Int} (h : PL (groups n ls) i j p) (hl : p.length = n.toNat) (hg : (groups n ls)[i]? = some g) (hu : g[j]? = some u) : PL (groups n ls) i (j + 1) (p.set u.toNat ((i : Int) + 1)) := by
  have hm := List.mem_of_getElem? hu
  have hr := groups_range hg hm
  refine ⟨fun i' g' x h1 h2 h3 => ?_, fun g' x h2 h3 => ?_, fun x v h1 h2 => ?_⟩
  · have hx := groups_range h2 h3
    have hne : u.toNat ≠ x.toNat := by
      intro e
      have : u = x := by omega
      subst this
      have := groups_one h2 hg h3 hm
      omega
    rw [List.getElem?_set_ne hne]
    exact h.a i' g' x h1 h2 h3
  · rw [hg] at h2; cases h2
    by_cases e : u.toNat = x.toNat
    · rw [e, List.getElem?_set_self (by rw [← e]; omega)]
    · rw [List.getElem?_set_ne e]
      rw [List.take_add_one, hu] at h3
      simp only [Option.toList_some, List.mem_append, List.mem_singleton] at h3
      rcases h3 with h3 | rfl
      · exact h.b g x hg h3
      · exact absurd rfl e
  · have ht : g.take (j + 1) = g.take j ++ [u] := by rw [List.take_add_one, hu]; rfl
    by_cases e : u.toNat = x
    · right
      refine ⟨g, hg, ?_⟩
      rw [ht]
      simp only [List.mem_append, List.mem_singleton]
      right; omega
    · rw [List.getElem?_set_ne e] at h1
      rcases h.c x v h1 h2 with h3 | ⟨g', h3, h4⟩
      · exact .inl h3
      · right
        refine ⟨g', h3, ?_⟩
        rw [hg] at h3; cases h3
        rw [ht]; simp [h4]
theorem PL.all {n : Int} {ls : List (List Int)} {p : List Int} (h : PL (groups n ls) (groups n ls).length 0 p) (hl : p.length = n.toNat) : p.countP nz = n.toNat := by
  rw [← hl, List.countP_eq_length]
  intro v hv
  obtain ⟨x, hx⟩ := List.mem_iff_getElem?.1 hv
  have hxl := (List.getElem?_eq_some_iff.1 hx).1
  obtain ⟨j, g, e1, e2⟩ := groups_all ls (n := n) (x := (x : Int)) (by omega) (by omega)
  have := h.a j g x (List.getElem?_eq_some_iff.1 e1).1 e1 e2
  simp only [Int.toNat_natCast] at this
  rw [hx] at this
  cases this
  simp [nz]; omega
theorem PL.le {n x y : Int} {ls : List (List Int)} {p : List Int} (h : PL (groups n ls) (groups n ls).length 0 p) (hr : rB n ls x y = true) : ∃ a b : Int, p[x.toNat]? = some a ∧ p[y.toNat]? = some b ∧ b ≤ a := by
  have hr' := rB_iff.1 hr
  obtain ⟨j, g, e1, e2⟩ := groups_all ls (n := n) (x := x) hr'.1 hr'.2.1
  obtain ⟨k, h', e3, e4⟩ := groups_all ls (n := n) (x := y) hr'.2.2.1 hr'.2.2.2.1
  have := groups_ahead e1 e2 hr e3 e4
  exact ⟨_, _, h.a j g x (List.getElem?_eq_some_iff.1 e1).1 e1 e2, h.a k h' y (List.getElem?_eq_some_iff.1 e3).1 e3 e4, by omega⟩
theorem rB_edge {n x y : Int} {ls : List (List Int)} {row : List Int} (hx0 : 0 ≤ x) (hx : x < n) (hy0 : 0 ≤ y) (hy : y < n) (hrow : ls[x.toNat]? = some row) (hm : y ∈ row) : rB n ls x y = true :=
  rB_iff.2 ⟨hx0, hx, hy0, hy, .tail (.refl _) ⟨hx0, hx, hy0, hy, row, hrow, hm⟩⟩
theorem groups_len (n : Int) (ls : List (List Int)) : (groups n ls).length ≤ n.toNat + 1 := by
  unfold groups
  generalize List.replicate n.toNat false = T
  generalize n.toNat + 1 = f
  induction f generalizing T with
  | zero => simp [gs]
  | succ f ih =>
    simp only [gs]
    split
    · simp
    · have := ih (markTo n ls ‹Nat› n.toNat T)
      simp; omega
theorem PL.same {n x y a b : Int} {ls : List (List Int)} {p : List Int} (h : PL (groups n ls) (groups n ls).length 0 p) (hx0 : 0 ≤ x) (hx : x < n) (hy0 : 0 ≤ y) (hy : y < n) (hpx : p[x.toNat]? = some a) (hpy : p[y.toNat]? = some b) :
    a = b ↔ (rB n ls x y && rB n ls y x) = true := by
  obtain ⟨j, g, e1, e2⟩ := groups_all ls (n := n) (x := x) hx0 hx
  obtain ⟨k, h', e3, e4⟩ := groups_all ls (n := n) (x := y) hy0 hy
  have h1 := h.a j g x (List.getElem?_eq_some_iff.1 e1).1 e1 e2
  have h2 := h.a k h' y (List.getElem?_eq_some_iff.1 e3).1 e3 e4
  rw [hpx] at h1; rw [hpy] at h2
  cases h1; cases h2
  rw [Bool.and_eq_true, ← groups_both e1 e2]
  constructor
  · intro e
    have : j = k := by omega
    subst this
    rw [e1] at e3; cases e3
    exact e4
  · intro hm
    rw [groups_one e1 e3 hm e4]
theorem PL.get {n x : Int} {ls : List (List Int)} {p : List Int} (h : PL (groups n ls) (groups n ls).length 0 p) (hl : p.length = n.toNat) (hx0 : 0 ≤ x) (hx : x < n) : ∃ a, p[x.toNat]? = some a :=
  ⟨p[x.toNat]'(by omega), by simp⟩
end Go.Scc
