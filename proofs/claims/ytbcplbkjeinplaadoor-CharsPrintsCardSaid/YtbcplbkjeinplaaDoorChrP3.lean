/- Texts out of prints: what is scanned, and that it is what was printed. No program in sight. -/
import Derived.Test.YtbcplbkjeinplaaDoorChrG
set_option linter.unusedVariables false
set_option linter.unusedSimpArgs false
namespace Go.Lx
def hexv (c : UInt8) : Option Nat := if 48 ≤ c.toNat ∧ c.toNat ≤ 57 then some (c.toNat - 48) else if 97 ≤ (c ||| 32).toNat ∧ (c ||| 32).toNat ≤ 102 then some ((c ||| 32).toNat - 87) else none
def hex2 (a b : UInt8) : Option UInt8 := (hexv a).bind fun x => (hexv b).map fun y => UInt8.ofNat (16 * x + y)
def dec : List UInt8 → Option (List UInt8)
  | [] => some []
  | [c] => if c = 39 then none else some [c]
  | [c, a] => if c = 39 then none else (dec [a]).map (c :: ·)
  | c :: a :: b :: r => if c = 39 then (hex2 a b).bind fun n => (dec r).map (n :: ·) else (dec (a :: b :: r)).map (c :: ·)
theorem dec_esc (a b : UInt8) (r : List UInt8) : dec (39 :: a :: b :: r) = (hex2 a b).bind fun n => (dec r).map (n :: ·) := by
  rw [dec, if_pos rfl]
theorem dec_short : ∀ {l : List UInt8}, l.length < 2 → dec (39 :: l) = none
  | [], _ => by rw [dec, if_pos rfl]
  | [a], _ => by rw [dec, if_pos rfl]
  | a :: b :: r, h => absurd h (by simp only [List.length_cons]; omega)
theorem dec_cons {c : UInt8} (h : c ≠ 39) : ∀ l : List UInt8, dec (c :: l) = (dec l).map (c :: ·)
  | [] => by simp [dec, h]
  | [a] => by simp [dec, h]
  | a :: b :: r => by rw [dec, if_neg h]
theorem dec_app : ∀ (h l : List UInt8), (∀ u ∈ h, u ≠ 39) → dec (h ++ l) = (dec l).map (h ++ ·)
  | [], l, _ => by cases hd : dec l <;> simp [hd]
  | c :: h, l, hh => by
    rw [List.cons_append, dec_cons (hh c (List.mem_cons_self ..)), dec_app h l fun u hu => hh u (List.mem_cons_of_mem _ hu), Option.map_map]
    rfl
def escaped (c : UInt8) : Bool := plain c || (match byteP c with | [m, a, b] => decide (m = 39) && decide (hex2 a b = some c) | _ => false)
theorem escaped_all : ((List.range 256).all fun n => escaped (UInt8.ofNat n)) = true := by decide +kernel
theorem byteP_esc {c : UInt8} (h : plain c = false) : ∃ a b, byteP c = [39, a, b] ∧ hex2 a b = some c := by
  have h1 : escaped c = true := by
    have := List.all_eq_true.1 escaped_all c.toNat (List.mem_range.2 c.toNat_lt)
    rwa [UInt8.ofNat_toNat] at this
  unfold escaped at h1
  rw [h, Bool.false_or] at h1
  split at h1
  · rename_i m a b he
    rw [Bool.and_eq_true, decide_eq_true_eq, decide_eq_true_eq] at h1
    exact ⟨a, b, by rw [he, h1.1], h1.2⟩
  · cases h1
theorem plain_ne {c : UInt8} (h : plain c = true) : c ≠ 39 := fun e => by subst e; exact absurd h (by decide)
theorem dec_byteP (c : UInt8) (l : List UInt8) : dec (byteP c ++ l) = (dec l).map (c :: ·) := by
  cases h : plain c with
  | true => rw [byteP, if_pos h]; exact dec_cons (plain_ne h) l
  | false =>
    obtain ⟨a, b, h1, h2⟩ := byteP_esc h
    rw [h1]
    show dec (39 :: a :: b :: l) = _
    rw [dec_esc, h2]; rfl
theorem dec_flat : ∀ (o l : List UInt8), dec (o.flatMap byteP ++ l) = (dec l).map (o ++ ·)
  | [], l => by cases hd : dec l <;> simp [hd]
  | c :: o, l => by
    rw [List.flatMap_cons, List.append_assoc, dec_byteP, dec_flat o l, Option.map_map]
    rfl
theorem byteP_ne (c : UInt8) : byteP c ≠ [] := by
  cases h : plain c with
  | true => rw [byteP, if_pos h]; simp
  | false => obtain ⟨a, b, h1, _⟩ := byteP_esc h; rw [h1]; simp
theorem flat_ne {o : List UInt8} (h : o ≠ []) : o.flatMap byteP ≠ [] := by
  cases o with
  | nil => exact absurd rfl h
  | cons c o => rw [List.flatMap_cons]; intro e; exact byteP_ne c (List.append_eq_nil_iff.1 e).1
theorem flat_95 {o : List UInt8} : o.flatMap byteP ≠ [95] := by
  cases o with
  | nil => simp
  | cons c o =>
    rw [List.flatMap_cons]
    intro e
    cases h : plain c with
    | true =>
      rw [byteP, if_pos h, List.singleton_append] at e
      obtain ⟨e1, _⟩ := List.cons.inj e
      subst e1; exact absurd h (by decide)
    | false =>
      obtain ⟨a, b, h1, _⟩ := byteP_esc h
      rw [h1] at e
      obtain ⟨e1, _⟩ := List.cons.inj e
      exact absurd e1 (by decide)
/-- What a print is a print of. -/
def scanP (s : List UInt8) : Option (List UInt8) := if s = [95] then some [] else match dec s with
  | none => none
  | some o => if printP o = s then some o else none
theorem scanP_print (x : List UInt8) : scanP (printP x) = some x := by
  by_cases h : x = []
  · subst h; rfl
  · have e : printP x = x.flatMap byteP := by rw [printP, if_neg h]
    unfold scanP
    rw [if_neg (by rw [e]; exact flat_95)]
    have h1 := dec_flat x []
    rw [List.append_nil, dec] at h1
    rw [← e, Option.map_some, List.append_nil] at h1
    rw [h1]
    show (if printP x = printP x then some x else none) = some x
    rw [if_pos rfl]
theorem scanP_flat {s o : List UInt8} (h : o.flatMap byteP = s) (hs : s ≠ []) : scanP s = some o := by
  have : o ≠ [] := fun e => by subst e; exact hs h.symm
  have e : printP o = s := by rw [printP, if_neg this, h]
  rw [← e]; exact scanP_print o
theorem scanP_stuck {s out rest : List UInt8} (h95 : s ≠ [95]) (hs : s = out.flatMap byteP ++ rest) (hr : rest ≠ []) (hn : ∀ c, ¬ byteP c <+: rest) : scanP s = none := by
  unfold scanP
  rw [if_neg h95]
  have h1 := dec_flat out rest
  rw [← hs] at h1
  rw [h1]
  cases h2 : dec rest with
  | none => rfl
  | some o2 =>
    show (if printP (out ++ o2) = s then some (out ++ o2) else none) = none
    rw [if_neg]
    intro h3
    have hne : out ++ o2 ≠ [] := fun e => by rw [e] at h3; exact h95 h3.symm
    rw [printP, if_neg hne, List.flatMap_append, hs] at h3
    have h4 := List.append_cancel_left h3
    cases o2 with
    | nil => exact hr h4.symm
    | cons c o3 =>
      rw [List.flatMap_cons] at h4
      exact hn c ⟨_, h4⟩
end Go.Lx
