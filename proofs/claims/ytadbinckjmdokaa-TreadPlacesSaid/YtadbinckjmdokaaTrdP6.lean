/- Texts of tokens with blanks between are lexed. No program in sight. -/
import Derived.Test.YtadbinckjmdokaaTrdP5
set_option linter.unusedVariables false
set_option linter.unusedSimpArgs false
namespace Go.Proofs.Ytadbinckjmdokaa.Trd
open Go Go.Eng Go.RowKit Go.Tr Go.Lx
def tokW (t : List UInt8) : Tok := match one t with | .ok x => x | .error _ => ⟨0, [], 0, 0⟩
theorem word_one {t : List UInt8} (ht : t ∈ table) (r : List UInt8) : one (t ++ 32 :: r) = .ok (tokW t) := by
  simp only [table, List.mem_cons, List.not_mem_nil, or_false] at ht
  rcases ht with rfl | rfl | rfl | rfl | rfl | rfl | rfl | rfl | rfl | rfl | rfl | rfl | rfl | rfl | rfl | rfl | rfl | rfl | rfl | rfl | rfl | rfl | rfl | rfl | rfl | rfl | rfl | rfl | rfl | rfl | rfl | rfl | rfl | rfl <;> rfl
def wordB (t : List UInt8) : Bool := decide ((tokW t).s = t) && (match t with | c :: r => !Lx.blank c && (decide (c ≠ 45) || decide (r.head? = some 62)) | [] => false)
theorem words_B : ∀ t ∈ table, wordB t = true := by decide +kernel
theorem word_s {t : List UInt8} (ht : t ∈ table) : (tokW t).s = t := by
  have := words_B t ht
  simp only [wordB, Bool.and_eq_true, decide_eq_true_eq] at this
  exact this.1
theorem word_head {t : List UInt8} (ht : t ∈ table) : ∃ c t', t = c :: t' ∧ Lx.blank c = false ∧ ∀ r : List UInt8, isPre (c :: (t' ++ r)) [45, 45] = false := by
  have := words_B t ht
  simp only [wordB, Bool.and_eq_true, decide_eq_true_eq] at this
  have h := this.2
  cases t with
  | nil => cases h
  | cons c t' =>
    simp only [Bool.and_eq_true, Bool.or_eq_true, Bool.not_eq_true', decide_eq_true_eq] at h
    refine ⟨c, t', rfl, h.1, fun r => decide_eq_false fun he => ?_⟩
    rcases h.2 with h2 | h2
    · have := congrArg List.head? he
      simp at this
      exact h2 this
    · cases t' with
      | nil => cases h2
      | cons d t'' =>
        simp at h2
        subst h2
        simp at he
theorem lex_word {t : List UInt8} (ht : t ∈ table) (r : List UInt8) (i : Nat) :
    lexR (t ++ 32 :: r) i = pre [⟨(tokW t).k, t, (tokW t).n, i⟩] (lexR r (i + t.length + 1)) := by
  have h1 := word_one ht r
  have hs := word_s ht
  obtain ⟨c, t', rfl, hb, hp⟩ := word_head ht
  have h2 := lexR_tok (i := i) hb (hp (32 :: r)) h1
  rw [hs] at h2
  simp only [List.cons_append] at h2 ⊢
  rw [h2]
  have : c :: (t' ++ 32 :: r) = (c :: t') ++ (32 :: r) := rfl
  rw [this, List.drop_left, lexR_blank rfl]
theorem lex_words : ∀ (ws : List (List UInt8)) (i : Nat), (∀ w ∈ ws, w ∈ table) → ∃ l, lexR (srcT ws) i = .ok l
  | [], i, _ => ⟨_, lexR_nil i⟩
  | w :: ws, i, h => by
    obtain ⟨l, hl⟩ := lex_words ws (i + w.length + 1) (fun x hx => h x (by simp [hx]))
    refine ⟨[⟨(tokW w).k, w, (tokW w).n, i⟩] ++ l, ?_⟩
    have : srcT (w :: ws) = w ++ 32 :: srcT ws := by simp [srcT]
    rw [this, lex_word (h w (by simp)), hl]
    rfl
theorem words_mem (xs : List Int) : ∀ w ∈ words xs, w ∈ table := by
  intro w hw
  simp only [words, List.mem_map] at hw
  obtain ⟨n, _, rfl⟩ := hw
  have hr := around_lt n 34 (by omega)
  obtain ⟨y, hy⟩ : ∃ y, table[(around n 34).toNat]? = some y := ⟨_, List.getElem?_eq_getElem (by show _ < 34; omega)⟩
  have : word n = y := by unfold word; rw [hy]; rfl
  rw [this]; exact List.mem_of_getElem? hy
end Go.Proofs.Ytadbinckjmdokaa.Trd
