/- A string of bytes that stand in a slice of the call's own, nil or not. Nothing here names a program. -/
import Derived.Test.YtbcplbkjeinplaaDoorEng18
import Derived.Test.YtbcplbkjeinplaaDoorEng24
import Derived.Test.YtbcplbkjeinplaaDoorEng32
set_option linter.unusedVariables false
set_option linter.unusedSimpArgs false
namespace Go.Eng
open Go Go.RowKit
variable {P : Program} {N : NN} {Q : Exit → Act → World → Prop} {S : World → Prop} {σ : Env} {w0 w w' : World} {ops rest : List Oper} {r : List (Nat × Bool)}
  {d : Tmp} {ty : TypeId} {pos : String} {af : Array Edge} {g : Option (Nat × Bool)} {io nt : Nat} {L : List Ent} {V : Vw}
theorem run_b2sN {src dst e n c : Nat} (hs : P.underlying src = some (.slice e)) (he : P.underlying e = some (.int .u8)) (hd : P.underlying dst = some .string) : (convert src dst (.slice none n c)).run P w = .ok (St []) w := by
  simp [convert, run_underlying hs, run_underlying hd, run_underlying he, Conv.bytesToString, St]
  rfl
theorem rl_b2sO {src dst e e' n : Nat} {x : Operand} {v : Value} (l : List UInt8) (i : Nat) (hM : Mem w0 w L V) (hi : L[i]? = some (.own v e' 1 n (by8 l))) (hs : P.underlying src = some (.slice e)) (he : P.underlying e = some (.int .u8)) (hd : P.underlying dst = some .string) (hg : want N ops σ g = true) (hx : ev N σ x = v)
    (k : RL P N ops Q rest (upd σ d (St l)) w) : RL P N ops Q (⟨some d, .convert src dst x, ty, pos, af, g⟩ :: rest) σ w := by
  have hn : n = l.length := by
    have := hM.ownLen hi
    rw [by8_len] at this; omega
  by_cases h0 : 0 < n
  · obtain ⟨b, c, rfl, _, _⟩ := hM.ownA hi h0
    exact rl_b2s l hs he hd hg hx hn (fun j u hj => by rw [Nat.zero_add]; exact hM.cellO hi (by8_get hj)) k
  · obtain ⟨a, c, rfl, _, _⟩ := hM.ownShape hi
    have hl : l = [] := List.eq_nil_of_length_eq_zero (by omega)
    subst hl
    cases a with
    | none => exact rl_val hg (by simp [execOp, hx, run_b2sN (P := P) hs he hd]) k
    | some a =>
      obtain ⟨b, off, kk⟩ := a
      refine rl_val hg ?_ k
      subst hn
      have h := run_convert_bytes_back (P := P) w src dst e ⟨b, off, kk⟩ c [] hs he hd (fun j hj => by cases hj)
      have h' : (convert src dst (.slice (some ⟨b, off, kk⟩) 0 c)).run P w = .ok (St []) w := h
      simp [execOp, hx, h']
end Go.Eng
