/- Texts and tokens in memory. -/
import Derived.Test.YtlalagkkmoifpaaLexG2
import Derived.Test.YtlalagkkmoifpaaEng17
set_option linter.unusedVariables false
set_option linter.unusedSimpArgs false
namespace Go.Eng
open Go Go.RowKit Go.Lx
abbrev IsTs (V : Vw) (v : Value) (l : List (List UInt8)) : Prop := IsSl V v (l.map St)
theorem isTs_of {V : Vw} {a : Option Addr} {n c b off : Nat} {xs : List (List UInt8)} (hn : n = xs.length) (h2 : xs.length ≤ c) (h3 : c ≤ maxLen) (h4 : 0 < xs.length → a = some ⟨b, off, none⟩)
    (h5 : ∀ (i : Nat) u, (xs.map St)[i]? = some u → V ⟨b, off + i, none⟩ = some u) : IsTs V (.slice a n c) xs := by
  subst hn
  exact ⟨a, c, b, off, by simp, by simpa using h2, h3, by simpa using h4, h5⟩
theorem IsTs.open' {V : Vw} {v : Value} {l : List (List UInt8)} (h : IsTs V v l) :
    ∃ a c b off, v = .slice a l.length c ∧ l.length ≤ c ∧ c ≤ maxLen ∧ (0 < l.length → a = some ⟨b, off, none⟩) ∧ ∀ (i : Nat) s, l[i]? = some s → V ⟨b, off + i, none⟩ = some (St s) := by
  obtain ⟨a, c, b, off, h1, h2, h3, h4, h5⟩ := h
  refine ⟨a, c, b, off, by simpa using h1, by simpa using h2, h3, by simpa using h4, fun i s hs => h5 i _ (by simp [hs])⟩
def tokCells (t : Tok) : List Value := [.int .i64 t.k, St t.s, .int .i64 t.n, .int .i64 t.a]
def IsTk (V : Vw) (v : Value) (l : List Tok) : Prop :=
  ∃ a c b off, v = .slice a l.length c ∧ l.length ≤ c ∧ c ≤ maxLen ∧ (0 < l.length → a = some ⟨b, off, none⟩) ∧ ∀ (i : Nat) t, l[i]? = some t → VRow V b (off + i * 4) (tokCells t)
theorem IsTk.le {V V' : Vw} {v : Value} {l : List Tok} (h : IsTk V v l) (hv : VLe V V') : IsTk V' v l := by
  obtain ⟨a, c, b, off, h1, h2, h3, h4, h5⟩ := h
  exact ⟨a, c, b, off, h1, h2, h3, h4, fun i t ht => (h5 i t ht).le hv⟩
theorem IsTk.nil (V : Vw) : IsTk V (.slice none 0 0) [] := ⟨none, 0, 0, 0, rfl, Nat.le_refl _, by unfold maxLen; omega, fun h => absurd h (by simp), fun i t ht => by simp at ht⟩
theorem tokCells_fit (t : Tok) : cellsFit [some .i64, none, some .i64, some .i64] (tokCells t) = true := rfl
theorem tokCells_inj {t u : Tok} (h : tokCells t = tokCells u) : t = u := by
  simp only [tokCells, List.cons.injEq, Value.int.injEq, true_and, and_true] at h
  obtain ⟨k, s, n, a⟩ := t
  obtain ⟨k', s', n', a'⟩ := u
  obtain ⟨h1, h2, h3, h4⟩ := h
  simp only at h1 h2 h3 h4
  have : s = s' := by
    have h2' : (⟨s.toArray⟩ : ByteArray) = ⟨s'.toArray⟩ := Value.string.inj h2
    have := congrArg (fun b : ByteArray => b.data.toList) h2'
    simpa using this
  subst h1 this h3 h4
  rfl
/-- The cells of tokens, one behind the other. -/
def tkCells (l : List Tok) : List Value := l.flatMap tokCells
theorem tkCells_len (l : List Tok) : (tkCells l).length = l.length * 4 := by
  induction l with
  | nil => rfl
  | cons t l ih => simp only [tkCells, List.flatMap_cons, List.length_append] at ih ⊢; rw [ih]; simp [tokCells]; omega
theorem tkCells_get : ∀ (l : List Tok) (i : Nat) (t : Tok), l[i]? = some t → ∀ (j : Nat) u, (tokCells t)[j]? = some u → (tkCells l)[i * 4 + j]? = some u
  | [], i, t, h, j, u, hu => by simp at h
  | t0 :: l, 0, t, h, j, u, hu => by
    simp at h
    subst h
    simp only [tkCells, List.flatMap_cons, Nat.zero_mul, Nat.zero_add]
    rw [List.getElem?_append_left (List.getElem?_eq_some_iff.1 hu).1]
    exact hu
  | t0 :: l, i + 1, t, h, j, u, hu => by
    have ih := tkCells_get l i t (by simpa using h) j u hu
    simp only [tkCells, List.flatMap_cons] at ih ⊢
    rw [List.getElem?_append_right (by simp [tokCells]; omega)]
    rw [← ih]
    congr 1
    simp [tokCells]; omega
theorem isTk_of {V : Vw} {a : Option Addr} {n c b : Nat} {l : List Tok} (hn : n = l.length) (h2 : n ≤ c) (h3 : c ≤ maxLen) (h4 : 0 < n → a = some ⟨b, 0, none⟩)
    (h5 : ∀ (i : Nat) u, (tkCells l)[i]? = some u → V ⟨b, 0 + i, none⟩ = some u) : IsTk V (.slice a n c) l := by
  subst hn
  refine ⟨a, c, b, 0, rfl, h2, h3, h4, fun i t ht j u hu => ?_⟩
  have := h5 _ _ (tkCells_get l i t ht j u hu)
  rw [← this, Nat.add_assoc]
theorem tkCells_snoc (l : List Tok) (t : Tok) : tkCells (l ++ [t]) = tkCells l ++ tokCells t := by simp [tkCells]
end Go.Eng
