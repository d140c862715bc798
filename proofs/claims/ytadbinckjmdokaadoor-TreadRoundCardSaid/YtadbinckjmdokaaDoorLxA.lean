/- Signs, names, tokens: what the walks show to be computed. No program in sight. Tokens, keys, symbols, numbers, and a source as tokens: what the walks show to be computed. No program in sight. Texts and tokens in memory. A byte as the text of its sign. No program in sight. -/
import Derived.Test.YtadbinckjmdokaaDoorEnC
set_option linter.unusedVariables false
namespace Go.Lx
def dig (c : UInt8) : Bool := decide (48 ≤ c.toNat) && decide (c.toNat ≤ 57)
def low (c : UInt8) : Bool := decide (97 ≤ c.toNat) && decide (c.toNat ≤ 122)
def upp (c : UInt8) : Bool := decide (65 ≤ c.toNat) && decide (c.toNat ≤ 90)
def plain (c : UInt8) : Bool := low c || upp c || dig c
def sign (c : UInt8) : Bool := plain c || decide (c.toNat = 39) || decide (c.toNat = 95)
def fst (lo hi : Nat) (s : List UInt8) : Bool := s.head?.all fun c => decide (lo ≤ c.toNat) && decide (c.toNat ≤ hi)
def isName (lo hi : Nat) (s : List UInt8) : Bool := !s.isEmpty && (decide (s.length ≤ 32) && (s.all sign && fst lo hi s))
theorem plain_iff (c : UInt8) : plain c = true ↔ (97 ≤ c.toNat ∧ c.toNat ≤ 122) ∨ (65 ≤ c.toNat ∧ c.toNat ≤ 90) ∨ (48 ≤ c.toNat ∧ c.toNat ≤ 57) := by
  simp [plain, low, upp, dig, or_assoc]
theorem sign_lt {c : UInt8} (h : sign c = true) : c.toNat < 128 := by
  simp only [sign, Bool.or_eq_true, decide_eq_true_eq] at h
  rw [plain_iff] at h
  omega
theorem isName_iff {lo hi : Nat} {s : List UInt8} : isName lo hi s = true ↔ s ≠ [] ∧ s.length ≤ 32 ∧ s.all sign = true ∧ fst lo hi s = true := by
  simp only [isName, Bool.and_eq_true, decide_eq_true_eq, Bool.not_eq_true', ne_eq, List.isEmpty_eq_false_iff]
theorem isName_false {lo hi : Nat} {s : List UInt8} {p : Nat} {c : UInt8} (h : s[p]? = some c) (hc : sign c = false) : isName lo hi s = false := by
  cases hn : isName lo hi s with
  | false => rfl
  | true =>
    have := (isName_iff.1 hn).2.2.1
    rw [List.all_eq_true] at this
    have h2 := this c (List.mem_of_getElem? h)
    rw [hc] at h2; cases h2
theorem all_take_succ {s : List UInt8} {p : Nat} {c : UInt8} {f : UInt8 → Bool} (h : s[p]? = some c) (h1 : (s.take p).all f = true) (h2 : f c = true) : (s.take (p + 1)).all f = true := by
  rw [List.take_add_one, h, List.all_append, h1]
  simp [h2]
end Go.Lx
set_option linter.unusedVariables false
namespace Go.Lx
def keys : List (List UInt8) := [[99, 97, 115, 101], [99, 108, 97, 115, 115], [100, 97, 116, 97], [105, 110], [105, 110, 115, 116, 97, 110, 99, 101], [108, 101, 116], [111, 102]]
def syms : List (List UInt8) := [[45, 62], [61, 62], [92], [61], [124], [40], [41], [123], [125], [59], [58], [44], [95]]
def isPre (s x : List UInt8) : Bool := decide (s.take x.length = x)
def symOf (s : List UInt8) : Option (List UInt8) := syms.find? (isPre s)
def val (s : List UInt8) : Nat := s.foldl (fun n c => n * 10 + (c.toNat - 48)) 0
structure Tok where
  k : Int
  s : List UInt8
  n : Int
  a : Int
deriving DecidableEq
def one (s : List UInt8) : Except Int Tok :=
  if s.head?.any dig then
    (if val (s.takeWhile dig) ≤ 2147483647 then .ok ⟨3, s.takeWhile dig, val (s.takeWhile dig), 0⟩ else .error 11)
  else if s.head?.any fun c => low c || upp c then
    (if 32 < (s.takeWhile sign).length then .error 2
     else .ok ⟨if s.head?.any upp then 2 else if s.takeWhile sign ∈ keys then 5 else 1, s.takeWhile sign, 0, 0⟩)
  else match symOf s with
    | some x => .ok ⟨4, x, 0, 0⟩
    | none => .error 10
def blank (c : UInt8) : Bool := decide (c ∈ [(32 : UInt8), 9, 10])
def noNl (c : UInt8) : Bool := decide (c.toNat ≠ 10)
/-- The tokens of what is left of a source from a place on; or an error and its place. -/
def lexF : Nat → List UInt8 → Nat → Except (Int × Nat) (List Tok)
  | 0, _, i => .ok [⟨6, [], 0, i⟩]
  | _, [], i => .ok [⟨6, [], 0, i⟩]
  | f + 1, c :: r, i =>
    if blank c then lexF f r (i + 1)
    else if isPre (c :: r) [45, 45] then lexF f ((c :: r).drop ((c :: r).takeWhile noNl).length) (i + ((c :: r).takeWhile noNl).length)
    else match one (c :: r) with
      | .error e => .error (e, i)
      | .ok t => match lexF f ((c :: r).drop t.s.length) (i + t.s.length) with
        | .error e => .error e
        | .ok l => .ok (⟨t.k, t.s, t.n, i⟩ :: l)
def lexA (s : List UInt8) : Except (Int × Nat) (List Tok) := if s.length ≤ 4000 then lexF s.length s 0 else .error (2, 0)
/-- Tokens that are there already, ahead. -/
def pre (acc : List Tok) : Except (Int × Nat) (List Tok) → Except (Int × Nat) (List Tok)
  | .error e => .error e
  | .ok l => .ok (acc ++ l)
theorem pre_pre (a b : List Tok) (x : Except (Int × Nat) (List Tok)) : pre a (pre b x) = pre (a ++ b) x := by
  cases x <;> simp [pre]
theorem val_snoc (s : List UInt8) (c : UInt8) : val (s ++ [c]) = val s * 10 + (c.toNat - 48) := by simp [val, List.foldl_append]
theorem symOf_mem {s x : List UInt8} (h : symOf s = some x) : x ∈ syms ∧ s.take x.length = x := by
  unfold symOf at h
  exact ⟨List.mem_of_find?_eq_some h, by have := List.find?_some h; simpa [isPre] using this⟩
theorem syms_pos {x : List UInt8} (h : x ∈ syms) : 0 < x.length ∧ x.length ≤ 2 := by
  revert x
  decide
theorem tw_le {α : Type} (p : α → Bool) (s : List α) : (s.takeWhile p).length ≤ s.length := (List.takeWhile_prefix p).length_le
theorem one_len {s : List UInt8} {t : Tok} (h : one s = .ok t) : 0 < t.s.length ∧ t.s.length ≤ s.length := by
  unfold one at h
  have tw : ∀ p : UInt8 → Bool, (s.takeWhile p).length ≤ s.length := fun p => tw_le p s
  have hd : ∀ p q : UInt8 → Bool, (∀ c, q c = true → p c = true) → s.head?.any q = true → 0 < (s.takeWhile p).length := by
    intro p q hpq hq
    cases s with
    | nil => cases hq
    | cons a s =>
      have : q a = true := hq
      rw [List.takeWhile_cons, if_pos (hpq a this)]
      simp
  split at h
  · rename_i h1
    split at h
    · cases h
      exact ⟨hd dig dig (fun _ h => h) h1, tw dig⟩
    · cases h
  · split at h
    · rename_i h1
      split at h
      · cases h
      · cases h
        refine ⟨hd sign (fun c => low c || upp c) (fun c hc => ?_) h1, tw sign⟩
        simp only [sign, plain]
        rw [hc]; simp
    · split at h
      · rename_i x hx
        cases h
        have h2 := symOf_mem hx
        refine ⟨(syms_pos h2.1).1, ?_⟩
        have h3 := congrArg List.length h2.2
        rw [List.length_take] at h3
        simp only
        omega
      · cases h
/-- The fuel is no matter. -/
theorem lexF_fuel : ∀ (f g : Nat) (s : List UInt8) (i : Nat), s.length ≤ f → s.length ≤ g → lexF f s i = lexF g s i := by
  intro f
  induction f with
  | zero =>
    intro g s i h1 h2
    have : s = [] := List.eq_nil_of_length_eq_zero (by omega)
    subst this
    cases g <;> rfl
  | succ f ih =>
    intro g s i h1 h2
    cases s with
    | nil => cases g <;> rfl
    | cons c r =>
      cases g with
      | zero => simp at h2
      | succ g =>
        simp only [List.length_cons] at h1 h2
        simp only [lexF]
        split
        · exact ih _ _ _ (by omega) (by omega)
        · split
          · rename_i hp
            have h0 : 0 < ((c :: r).takeWhile noNl).length := by
              have : c = 45 := by
                simp only [isPre, decide_eq_true_eq] at hp
                have := congrArg List.head? hp
                simpa using this
              subst this
              rw [List.takeWhile_cons, if_pos (by decide)]
              simp
            exact ih _ _ _ (by rw [List.length_drop, List.length_cons]; omega) (by rw [List.length_drop, List.length_cons]; omega)
          · split
            · rfl
            · rename_i t ht
              have := one_len ht
              rw [ih g _ _ (by rw [List.length_drop, List.length_cons]; omega) (by rw [List.length_drop, List.length_cons]; omega)]
def lexR (s : List UInt8) (i : Nat) : Except (Int × Nat) (List Tok) := lexF s.length s i
theorem lexR_nil (i : Nat) : lexR [] i = .ok [⟨6, [], 0, i⟩] := rfl
theorem lexR_blank {c : UInt8} {r : List UInt8} {i : Nat} (h : blank c = true) : lexR (c :: r) i = lexR r (i + 1) := by
  show lexF (r.length + 1) (c :: r) i = _
  simp only [lexF, h, if_true]; rfl
theorem lexR_remark {c : UInt8} {r : List UInt8} {i : Nat} (h : blank c = false) (h2 : isPre (c :: r) [45, 45] = true) :
    lexR (c :: r) i = lexR ((c :: r).drop ((c :: r).takeWhile noNl).length) (i + ((c :: r).takeWhile noNl).length) := by
  show lexF (r.length + 1) (c :: r) i = _
  have h0 : 0 < ((c :: r).takeWhile noNl).length := by
    have : c = 45 := by
      simp only [isPre, decide_eq_true_eq] at h2
      have := congrArg List.head? h2
      simpa using this
    subst this
    rw [List.takeWhile_cons, if_pos (by decide)]
    simp
  simp only [lexF, h, h2, if_true, Bool.false_eq_true, if_false]
  exact lexF_fuel _ _ _ _ (by rw [List.length_drop, List.length_cons]; omega) (Nat.le_refl _)
theorem lexR_err {c : UInt8} {r : List UInt8} {i : Nat} {e : Int} (h : blank c = false) (h2 : isPre (c :: r) [45, 45] = false) (h3 : one (c :: r) = .error e) : lexR (c :: r) i = .error (e, i) := by
  show lexF (r.length + 1) (c :: r) i = _
  simp only [lexF, h, h2, h3, Bool.false_eq_true, if_false]
theorem lexR_tok {c : UInt8} {r : List UInt8} {i : Nat} {t : Tok} (h : blank c = false) (h2 : isPre (c :: r) [45, 45] = false) (h3 : one (c :: r) = .ok t) :
    lexR (c :: r) i = pre [⟨t.k, t.s, t.n, i⟩] (lexR ((c :: r).drop t.s.length) (i + t.s.length)) := by
  show lexF (r.length + 1) (c :: r) i = _
  have := one_len h3
  simp only [lexF, h, h2, h3, Bool.false_eq_true, if_false]
  rw [lexF_fuel r.length ((c :: r).drop t.s.length).length _ _ (by rw [List.length_drop, List.length_cons]; omega) (Nat.le_refl _)]
  show _ = pre _ (lexF _ _ _)
  cases lexF ((c :: r).drop t.s.length).length ((c :: r).drop t.s.length) (i + t.s.length) <;> rfl
end Go.Lx
set_option linter.unusedVariables false
set_option linter.unusedSimpArgs false
namespace Go.Eng
open Go Go.RowKit Go.Lx
abbrev IsTs (V : Vw) (v : Value) (l : List (List UInt8)) : Prop := IsSl V v (l.map St)
theorem isTs_of {V : Vw} {a : Option Addr} {n c b off : Nat} {xs : List (List UInt8)} (hn : n = xs.length) (h2 : xs.length ≤ c) (h3 : c ≤ maxLen) (h4 : 0 < xs.length → a = some ⟨b, off, none⟩)
    (h5 : ∀ (i : Nat) u, (xs.map St)[i]? = some u → V ⟨b, off + i, none⟩ = some u) : IsTs V (.slice a n c) xs := by
  subst hn
  exact ⟨a, c, b, off, by simp, by simpa using h2, h3, by simpa using h4, h5⟩
theorem IsTs.open' {V : Vw} {v : Value} {l : List (List UInt8)} (h : IsTs V v l) :
    ∃ a c b off, v = .slice a l.length c ∧ l.length ≤ c ∧ c ≤ maxLen ∧ (0 < l.length → a = some ⟨b, off, none⟩) ∧ ∀ (i : Nat) s, l[i]? = some s → V ⟨b, off + i, none⟩ = some (St s) := by
  obtain ⟨a, c, b, off, h1, h2, h3, h4, h5⟩ := h
  refine ⟨a, c, b, off, by simpa using h1, by simpa using h2, h3, by simpa using h4, fun i s hs => h5 i _ (by simp [hs])⟩
def tokCells (t : Tok) : List Value := [.int .i64 t.k, St t.s, .int .i64 t.n, .int .i64 t.a]
def IsTk (V : Vw) (v : Value) (l : List Tok) : Prop :=
  ∃ a c b off, v = .slice a l.length c ∧ l.length ≤ c ∧ c ≤ maxLen ∧ (0 < l.length → a = some ⟨b, off, none⟩) ∧ ∀ (i : Nat) t, l[i]? = some t → VRow V b (off + i * 4) (tokCells t)
theorem IsTk.le {V V' : Vw} {v : Value} {l : List Tok} (h : IsTk V v l) (hv : VLe V V') : IsTk V' v l := by
  obtain ⟨a, c, b, off, h1, h2, h3, h4, h5⟩ := h
  exact ⟨a, c, b, off, h1, h2, h3, h4, fun i t ht => (h5 i t ht).le hv⟩
theorem IsTk.nil (V : Vw) : IsTk V (.slice none 0 0) [] := ⟨none, 0, 0, 0, rfl, Nat.le_refl _, by unfold maxLen; omega, fun h => absurd h (by simp), fun i t ht => by simp at ht⟩
theorem tokCells_fit (t : Tok) : cellsFit [some .i64, none, some .i64, some .i64] (tokCells t) = true := rfl
theorem tokCells_inj {t u : Tok} (h : tokCells t = tokCells u) : t = u := by
  simp only [tokCells, List.cons.injEq, Value.int.injEq, true_and, and_true] at h
  obtain ⟨k, s, n, a⟩ := t
  obtain ⟨k', s', n', a'⟩ := u
  obtain ⟨h1, h2, h3, h4⟩ := h
  simp only at h1 h2 h3 h4
  have : s = s' := by
    have h2' : (⟨s.toArray⟩ : ByteArray) = ⟨s'.toArray⟩ := Value.string.inj h2
    have := congrArg (fun b : ByteArray => b.data.toList) h2'
    simpa using this
  subst h1 this h3 h4
  rfl
/-- The cells of tokens, one behind the other. -/
def tkCells (l : List Tok) : List Value := l.flatMap tokCells
theorem tkCells_len (l : List Tok) : (tkCells l).length = l.length * 4 := by
  induction l with
  | nil => rfl
  | cons t l ih => simp only [tkCells, List.flatMap_cons, List.length_append] at ih ⊢; rw [ih]; simp [tokCells]; omega
theorem tkCells_get : ∀ (l : List Tok) (i : Nat) (t : Tok), l[i]? = some t → ∀ (j : Nat) u, (tokCells t)[j]? = some u → (tkCells l)[i * 4 + j]? = some u
  | [], i, t, h, j, u, hu => by simp at h
  | t0 :: l, 0, t, h, j, u, hu => by
    simp at h
    subst h
    simp only [tkCells, List.flatMap_cons, Nat.zero_mul, Nat.zero_add]
    rw [List.getElem?_append_left (List.getElem?_eq_some_iff.1 hu).1]
    exact hu
  | t0 :: l, i + 1, t, h, j, u, hu => by
    have ih := tkCells_get l i t (by simpa using h) j u hu
    simp only [tkCells, List.flatMap_cons] at ih ⊢
    rw [List.getElem?_append_right (by simp [tokCells]; omega)]
    rw [← ih]
    congr 1
    simp [tokCells]; omega
theorem isTk_of {V : Vw} {a : Option Addr} {n c b : Nat} {l : List Tok} (hn : n = l.length) (h2 : n ≤ c) (h3 : c ≤ maxLen) (h4 : 0 < n → a = some ⟨b, 0, none⟩)
    (h5 : ∀ (i : Nat) u, (tkCells l)[i]? = some u → V ⟨b, 0 + i, none⟩ = some u) : IsTk V (.slice a n c) l := by
  subst hn
  refine ⟨a, c, b, 0, rfl, h2, h3, h4, fun i t ht j u hu => ?_⟩
  have := h5 _ _ (tkCells_get l i t ht j u hu)
  rw [← this, Nat.add_assoc]
theorem tkCells_snoc (l : List Tok) (t : Tok) : tkCells (l ++ [t]) = tkCells l ++ tokCells t := by simp [tkCells]
end Go.Eng
set_option linter.unusedVariables false
namespace Go.Lx
open Go
theorem enc1 (r : Nat) (c1 : r < 128) : (Utf8.encode (r : Int)).data.toList = [UInt8.ofNat r] := by
  have v : Utf8.valid (r : Int) = true := by simp [Utf8.valid]; omega
  simp [Utf8.encode, v, c1]
theorem enc2 (r : Nat) (c1 : ¬ r < 128) (c2 : r < 2048) : (Utf8.encode (r : Int)).data.toList = [UInt8.ofNat (192 + r / 64), UInt8.ofNat (128 + r % 64)] := by
  have v : Utf8.valid (r : Int) = true := by simp [Utf8.valid]; omega
  simp [Utf8.encode, v, c1, c2]
def enc (c : UInt8) : List UInt8 := if c.toNat < 128 then [c] else [UInt8.ofNat (192 + c.toNat / 64), UInt8.ofNat (128 + c.toNat % 64)]
theorem ofNat_toNat (c : UInt8) : UInt8.ofNat c.toNat = c := by simp
theorem enc_lo {c : UInt8} (h : c.toNat < 128) : enc c = [c] := if_pos h
theorem enc_two {c : UInt8} (h : ¬ c.toNat < 128) : enc c = [UInt8.ofNat (192 + c.toNat / 64), UInt8.ofNat (128 + c.toNat % 64)] := if_neg h
/-- Why not by definition: the kernel would count to 55296. -/
theorem enc_eq (c : UInt8) : (Utf8.encode ((c.toNat : Nat) : Int)).data.toList = enc c := by
  by_cases h : c.toNat < 128
  · have h1 := enc1 c.toNat h
    rw [ofNat_toNat] at h1
    exact h1.trans (enc_lo h).symm
  · exact (enc2 c.toNat h (by have := c.toNat_lt; omega)).trans (enc_two h).symm
theorem enc_hi {c : UInt8} (h : 128 ≤ c.toNat) : ∃ a r, enc c = a :: r ∧ 192 ≤ a.toNat := by
  have hl := c.toNat_lt
  refine ⟨UInt8.ofNat (192 + c.toNat / 64), [UInt8.ofNat (128 + c.toNat % 64)], enc_two (by omega), ?_⟩
  have h5 : 192 + c.toNat / 64 < 256 := by omega
  simp [UInt8.toNat_ofNat', Nat.mod_eq_of_lt h5]
theorem enc_len (c : UInt8) : (enc c).length ≤ 4 := by
  by_cases h : c.toNat < 128
  · rw [enc_lo h]; simp
  · rw [enc_two h]; simp
theorem isName_enc (c : UInt8) (lo hi : Nat) (hh : hi < 128) : isName lo hi (enc c) = (sign c && (decide (lo ≤ c.toNat) && decide (c.toNat ≤ hi))) := by
  by_cases h : c.toNat < 128
  · rw [enc_lo h]
    simp [isName, fst]
  · obtain ⟨a, r, he, ha⟩ := enc_hi (c := c) (by omega)
    rw [he]
    have h1 : decide (a.toNat ≤ hi) = false := decide_eq_false (by omega)
    have h2 : decide (c.toNat ≤ hi) = false := decide_eq_false (by omega)
    simp only [isName, fst, List.head?_cons, Option.all_some, h1, h2, Bool.and_false]
theorem isLow_enc (c : UInt8) : isName 97 122 (enc c) = low c := by
  rw [isName_enc c 97 122 (by decide)]
  cases h : low c with
  | true =>
    have : sign c = true := by simp [sign, plain, h]
    rw [this]; exact h
  | false =>
    have : (decide (97 ≤ c.toNat) && decide (c.toNat ≤ 122)) = false := h
    rw [this, Bool.and_false]
theorem isUpp_enc (c : UInt8) : isName 65 90 (enc c) = upp c := by
  rw [isName_enc c 65 90 (by decide)]
  cases h : upp c with
  | true =>
    have : sign c = true := by simp [sign, plain, h]
    rw [this]; exact h
  | false =>
    have : (decide (65 ≤ c.toNat) && decide (c.toNat ≤ 90)) = false := h
    rw [this, Bool.and_false]
end Go.Lx
