/- Texts of tokens with gaps between are lexed as they were: the plain law. -/
import Derived.Test.YtlalagkkmoifpaaLexW15
set_option linter.unusedVariables false
set_option linter.unusedSimpArgs false
namespace Go.Proofs.Ytlalagkkmoifpaa.Lex
open Go Go.Eng Go.RowKit Go.Lx
def tok (t : List UInt8) : Tok := match one t with | .ok x => x | .error _ => ⟨0, [], 0, 0⟩
def seps : List UInt8 := [32, 9, 10, 45]
theorem word_one {t : List UInt8} (ht : t ∈ table) {r : List UInt8} (hr : r = [] ∨ ∃ c r', r = c :: r' ∧ c ∈ seps) : one (t ++ r) = .ok (tok t) := by
  simp only [table, List.mem_cons, List.not_mem_nil, or_false] at ht
  rcases hr with rfl | ⟨c, r', rfl, hc⟩
  · rcases ht with rfl | rfl | rfl | rfl | rfl | rfl | rfl | rfl | rfl | rfl | rfl | rfl | rfl | rfl | rfl | rfl | rfl | rfl | rfl | rfl | rfl | rfl | rfl | rfl | rfl | rfl | rfl | rfl | rfl | rfl | rfl | rfl | rfl | rfl <;> rfl
  · simp only [seps, List.mem_cons, List.not_mem_nil, or_false] at hc
    rcases hc with rfl | rfl | rfl | rfl <;>
    · rcases ht with rfl | rfl | rfl | rfl | rfl | rfl | rfl | rfl | rfl | rfl | rfl | rfl | rfl | rfl | rfl | rfl | rfl | rfl | rfl | rfl | rfl | rfl | rfl | rfl | rfl | rfl | rfl | rfl | rfl | rfl | rfl | rfl | rfl | rfl <;> rfl
def wordB (t : List UInt8) : Bool := decide ((tok t).s = t) && decide ((tok t).k ≠ 6) && decide (1 ≤ (tok t).k) && decide ((tok t).k ≤ 5) && decide ((tok t).n ≤ 2147483647) && decide (0 ≤ (tok t).n) &&
  (match t with | c :: r => !Lx.blank c && (decide (c ≠ 45) || decide (r.head? = some 62)) | [] => false) && (decide ((tok t).k ≠ 1) || isName 97 122 t) && (decide ((tok t).k ≠ 2) || isName 65 90 t)
theorem words_B : ∀ t ∈ table, wordB t = true := by decide +kernel
theorem word_s {t : List UInt8} (ht : t ∈ table) : (tok t).s = t := by
  have := words_B t ht
  simp only [wordB, Bool.and_eq_true, decide_eq_true_eq] at this
  exact this.1.1.1.1.1.1.1.1
theorem word_k {t : List UInt8} (ht : t ∈ table) : (tok t).k ≠ 6 ∧ 1 ≤ (tok t).k ∧ (tok t).k ≤ 5 := by
  have := words_B t ht
  simp only [wordB, Bool.and_eq_true, decide_eq_true_eq] at this
  exact ⟨this.1.1.1.1.1.1.1.2, this.1.1.1.1.1.1.2, this.1.1.1.1.1.2⟩
theorem word_low {t : List UInt8} (ht : t ∈ table) (h : (tok t).k = 1) : isName 97 122 t = true := by
  have := words_B t ht
  simp only [wordB, Bool.and_eq_true, Bool.or_eq_true, decide_eq_true_eq] at this
  rcases this.1.2 with h' | h'
  · exact absurd h h'
  · exact h'
theorem word_upp {t : List UInt8} (ht : t ∈ table) (h : (tok t).k = 2) : isName 65 90 t = true := by
  have := words_B t ht
  simp only [wordB, Bool.and_eq_true, Bool.or_eq_true, decide_eq_true_eq] at this
  rcases this.2 with h' | h'
  · exact absurd h h'
  · exact h'
theorem word_head {t : List UInt8} (ht : t ∈ table) : ∃ c t', t = c :: t' ∧ Lx.blank c = false ∧ ∀ r : List UInt8, isPre (c :: (t' ++ r)) [45, 45] = false := by
  have := words_B t ht
  simp only [wordB, Bool.and_eq_true, decide_eq_true_eq] at this
  have h := this.1.1.2
  cases t with
  | nil => cases h
  | cons c t' =>
    simp only [Bool.and_eq_true, Bool.or_eq_true, Bool.not_eq_true', decide_eq_true_eq] at h
    refine ⟨c, t', rfl, h.1, fun r => decide_eq_false fun he => ?_⟩
    rcases h.2 with h2 | h2
    · have := congrArg List.head? he
      simp at this
      exact h2 this
    · cases t' with
      | nil => cases h2
      | cons d t'' =>
        simp at h2
        subst h2
        simp at he
theorem gap_mem (n : Int) : gap n ∈ gaps := by
  have hr := around_lt n 7 (by omega)
  obtain ⟨x, hx⟩ : ∃ x, gaps[(around n 7).toNat]? = some x := ⟨_, List.getElem?_eq_getElem (by show _ < 7; omega)⟩
  have hg : gap n = x := by unfold gap; rw [hx]; rfl
  rw [hg]; exact List.mem_of_getElem? hx
theorem word_mem (n : Int) : word n ∈ table := by
  have hr := around_lt n 34 (by omega)
  obtain ⟨x, hx⟩ : ∃ x, table[(around n 34).toNat]? = some x := ⟨_, List.getElem?_eq_getElem (by show _ < 34; omega)⟩
  have hg : word n = x := by unfold word; rw [hx]; rfl
  rw [hg]; exact List.mem_of_getElem? hx
theorem words_mem (l : List Int) : ∀ t ∈ words l, t ∈ table := by
  intro t ht
  obtain ⟨n, _, rfl⟩ := List.mem_map.1 ht
  exact word_mem n
theorem gaps_lex {x : List UInt8} (hx : x ∈ gaps) (s : List UInt8) (i : Nat) : lexR (x ++ s) i = lexR s (i + x.length) := by
  simp only [gaps, List.mem_cons, List.not_mem_nil, or_false] at hx
  rcases hx with rfl | rfl | rfl | rfl | rfl | rfl | rfl
  · exact lexR_blank rfl
  · exact lexR_blank rfl
  · exact (lexR_blank rfl).trans (lexR_blank rfl)
  · exact lexR_blank rfl
  · exact (lexR_blank rfl).trans ((lexR_remark rfl rfl).trans (lexR_blank rfl))
  · exact (lexR_remark rfl rfl).trans (lexR_blank rfl)
  · exact (lexR_blank rfl).trans (lexR_blank rfl)
theorem gaps_sep {x : List UInt8} (hx : x ∈ gaps) : ∃ c x', x = c :: x' ∧ c ∈ seps := by
  have : ∀ x ∈ gaps, (match x with | c :: _ => decide (c ∈ seps) | [] => false) = true := by decide
  have h := this x hx
  cases x with
  | nil => cases h
  | cons c x' => exact ⟨c, x', rfl, by simpa using h⟩
/-- The gap ahead of a text. -/
def g0 : List Int → List UInt8
  | [] => [32]
  | g :: _ => gap g
theorem g0_mem (gs : List Int) : g0 gs ∈ gaps := by
  cases gs with
  | nil => exact List.mem_cons_self ..
  | cons g gs => exact gap_mem g
theorem srcOf_cons (t : List UInt8) (ts : List (List UInt8)) (gs : List Int) : srcOf (t :: ts) gs = g0 gs ++ (t ++ srcOf ts gs.tail) := by cases gs <;> rfl
def toks : List (List UInt8) → List Int → Nat → List Tok
  | [], _, _ => []
  | t :: ts, gs, i => ⟨(tok t).k, t, (tok t).n, ((i + (g0 gs).length : Nat) : Int)⟩ :: toks ts gs.tail (i + (g0 gs).length + t.length)
theorem toks_len : ∀ (ts : List (List UInt8)) (gs : List Int) (i : Nat), (toks ts gs i).length = ts.length
  | [], _, _ => rfl
  | t :: ts, gs, i => by simp only [toks, List.length_cons, toks_len ts]
/-- What may stand behind: nothing, or a blank, or a remark, up to the end. -/
structure Tail (e : List UInt8) : Prop where
  sep : e = [] ∨ ∃ c r', e = c :: r' ∧ c ∈ seps
  lex : ∀ i, lexR e i = .ok [⟨6, [], 0, ((i + e.length : Nat) : Int)⟩]
theorem tail_nil : Tail [] := ⟨.inl rfl, fun i => rfl⟩
theorem tail_end : Tail [10, 32, 45, 45, 32, 101, 110, 100] := ⟨.inr ⟨_, _, rfl, by decide⟩, fun i => (lexR_blank rfl).trans ((lexR_blank rfl).trans (lexR_remark rfl rfl))⟩
theorem src_sep (ts : List (List UInt8)) (gs : List Int) {e : List UInt8} (he : Tail e) : srcOf ts gs ++ e = [] ∨ ∃ c r', srcOf ts gs ++ e = c :: r' ∧ c ∈ seps := by
  cases ts with
  | nil => exact he.sep
  | cons t ts =>
    obtain ⟨c, x, hx, hc⟩ := gaps_sep (g0_mem gs)
    rw [srcOf_cons, hx]
    exact .inr ⟨c, _, rfl, hc⟩
theorem lex_word {t : List UInt8} (ht : t ∈ table) {r : List UInt8} (hr : r = [] ∨ ∃ c r', r = c :: r' ∧ c ∈ seps) (i : Nat) :
    lexR (t ++ r) i = pre [⟨(tok t).k, t, (tok t).n, i⟩] (lexR r (i + t.length)) := by
  have h1 := word_one ht hr
  obtain ⟨c, t', rfl, hb, hp⟩ := word_head ht
  have h2 := lexR_tok (i := i) hb (hp r) h1
  rw [word_s ht] at h2
  simp only [List.cons_append] at h2 ⊢
  rw [h2]
  congr 2
  have : c :: (t' ++ r) = (c :: t') ++ r := rfl
  rw [this, List.drop_left]
theorem lex_src : ∀ (ts : List (List UInt8)) (gs : List Int) (e : List UInt8) (i : Nat), (∀ t ∈ ts, t ∈ table) → Tail e →
    lexR (srcOf ts gs ++ e) i = .ok (toks ts gs i ++ [⟨6, [], 0, ((i + (srcOf ts gs ++ e).length : Nat) : Int)⟩])
  | [], gs, e, i, _, he => he.lex i
  | t :: ts, gs, e, i, ht, he => by
    have hm : t ∈ table := ht t (by simp)
    have ih := lex_src ts gs.tail e (i + (g0 gs).length + t.length) (fun t h => ht t (by simp [h])) he
    have hl : i + (g0 gs).length + t.length + (srcOf ts gs.tail ++ e).length = i + (srcOf (t :: ts) gs ++ e).length := by
      rw [srcOf_cons]
      simp only [List.length_append]
      omega
    rw [hl] at ih
    have e1 : srcOf (t :: ts) gs ++ e = g0 gs ++ (t ++ (srcOf ts gs.tail ++ e)) := by rw [srcOf_cons]; simp
    rw [e1, gaps_lex (g0_mem gs), lex_word hm (src_sep ts gs.tail he), ih, ← e1]
    rfl
theorem toks_drop {ts : List (List UInt8)} {t : List UInt8} {k : Nat} (h : ts[k]? = some t) : ts.drop k = t :: ts.drop (k + 1) := by
  obtain ⟨hlt, he⟩ := List.getElem?_eq_some_iff.1 h
  rw [List.drop_eq_getElem_cons hlt, he]
theorem toks_get : ∀ (ts : List (List UInt8)) (gs : List Int) (i k : Nat) (t : List UInt8), ts[k]? = some t → ∃ a : Int, (toks ts gs i)[k]? = some ⟨(tok t).k, t, (tok t).n, a⟩
  | [], _, _, _, _, h => by simp at h
  | t0 :: ts, gs, i, 0, t, h => by
    simp at h
    subst h
    exact ⟨_, rfl⟩
  | t0 :: ts, gs, i, k + 1, t, h => by
    obtain ⟨a, ha⟩ := toks_get ts gs.tail (i + (g0 gs).length + t0.length) k t (by simpa using h)
    exact ⟨a, by simpa [toks] using ha⟩
end Go.Proofs.Ytlalagkkmoifpaa.Lex
