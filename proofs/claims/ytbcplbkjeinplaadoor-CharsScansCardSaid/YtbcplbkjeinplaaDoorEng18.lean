/- Bytes of a string in memory, and back. Nothing here names a program. -/
import Derived.Test.YtbcplbkjeinplaaDoorEnB
import Derived.Laws.IdiomStrings
set_option linter.unusedVariables false
set_option linter.unusedSimpArgs false
namespace Go.Eng
open Go Go.RowKit
variable {P : Program} {N : NN} {Q : Exit → Act → World → Prop} {S : World → Prop} {σ : Env} {w0 w w' : World} {ops rest : List Oper} {r : List (Nat × Bool)}
  {d : Tmp} {ty : TypeId} {pos : String} {af : Array Edge} {g : Option (Nat × Bool)} {io nt : Nat} {L : List Ent} {V : Vw}
/-- A row of cells, some of which may be no longer written. -/
abbrev Ent.row (b : Nat) (cs : List Value) (t : TypeId) (fr : Nat × Nat) : Ent := .obj b (.cells cs.toArray t fr)
theorem Mem.cellR {i b o : Nat} {cs : List Value} {t : TypeId} {fr : Nat × Nat} {v : Value} (h : Mem w0 w L V) (hi : L[i]? = some (.row b cs t fr)) (ho : cs[o]? = some v) : w.cell? ⟨b, o, none⟩ = some v := by
  have := h.getObj hi
  simp [World.cell?, this, ho]
theorem bytesRow_mk (l : List UInt8) (cap : Nat) : bytesRow ⟨l.toArray⟩ cap = (by8 l ++ List.replicate (cap - l.length) (Value.int .u8 0)).toArray := by
  apply Array.ext'
  have : (ByteArray.mk l.toArray).size = l.length := st_size l
  simp [bytesRow, by8, this]
/-- Bytes of a string, in a row of their own. -/
theorem rl_s2b {src dst e : TypeId} {x : Operand} {l : List UInt8} (hM : Mem w0 w L V) (hs : P.underlying src = some .string) (hd : P.underlying dst = some (.slice e)) (he : P.underlying e = some (.int .u8)) (hg : want N ops σ g = true) (hx : ev N σ x = St l) (hl : l.length ≤ maxLen)
    (k : ∀ w' b sp, (by8 l ++ sp).length ≤ maxLen → Mem w0 w' (.row b (by8 l ++ sp) e ((by8 l ++ sp).length, (by8 l ++ sp).length + 1) :: L) V → RL P N ops Q rest (upd σ d (.slice (some ⟨b, 0, none⟩) l.length (by8 l ++ sp).length)) w') :
    RL P N ops Q (⟨some d, .convert src dst x, ty, pos, af, g⟩ :: rest) σ w := by
  have hsz : (ByteArray.mk l.toArray).size = l.length := st_size l
  have h := run_bytes_of_string (P := P) w src dst e ⟨l.toArray⟩ hs hd he
  rw [bytesRow_mk, hsz] at h
  obtain ⟨sp, hsp⟩ : ∃ sp, sp = List.replicate (grownCap w l.length 0 e - l.length) (Value.int .u8 0) := ⟨_, rfl⟩
  rw [← hsp] at h
  have hge : l.length ≤ grownCap w l.length 0 e := grownCap_ge w l.length 0 e
  have hcm : grownCap w l.length 0 e ≤ maxLen := grownCap_le_maxLen w l.length 0 e hl
  have hlen : (by8 l ++ sp).length = grownCap w l.length 0 e := by rw [List.length_append, by8_len, hsp, List.length_replicate]; omega
  have hlen' : (by8 l ++ sp).toArray.size = grownCap w l.length 0 e := by rw [List.size_toArray, hlen]
  rw [hlen'] at h
  have hdr : Mem w0 w.drew L V := hM.ext ⟨rfl, rfl, rfl, Nat.le_refl _, fun _ _ => rfl⟩
  have hn := hdr.newObj (o := .cells (by8 l ++ sp).toArray e (grownCap w l.length 0 e, grownCap w l.length 0 e + 1))
  have k' := k _ _ sp (by omega) (by rw [hlen]; exact hn)
  rw [hlen] at k'
  exact rl_val hg (by simp [execOp, hx, h]) k'
/-- A string of bytes that stand in memory. -/
theorem run_b2s {src dst e b off n c : Nat} {l : List UInt8} (hs : P.underlying src = some (.slice e)) (he : P.underlying e = some (.int .u8)) (hd : P.underlying dst = some .string) (hn : n = l.length)
    (hc : ∀ (j : Nat) u, l[j]? = some u → w.cell? ⟨b, off + j, none⟩ = some (.int .u8 u.toNat)) : (convert src dst (.slice (some ⟨b, off, none⟩) n c)).run P w = .ok (St l) w := by
  subst hn
  exact run_convert_bytes_back w src dst e ⟨b, off, none⟩ c l hs he hd (fun j hj => by rw [Addr.add_lit]; exact hc j _ (List.getElem?_eq_getElem hj))
theorem rl_b2s {src dst e b off n c : Nat} {x : Operand} (l : List UInt8) (hs : P.underlying src = some (.slice e)) (he : P.underlying e = some (.int .u8)) (hd : P.underlying dst = some .string) (hg : want N ops σ g = true) (hx : ev N σ x = .slice (some ⟨b, off, none⟩) n c) (hn : n = l.length)
    (hc : ∀ (j : Nat) u, l[j]? = some u → w.cell? ⟨b, off + j, none⟩ = some (.int .u8 u.toNat))
    (k : RL P N ops Q rest (upd σ d (St l)) w) : RL P N ops Q (⟨some d, .convert src dst x, ty, pos, af, g⟩ :: rest) σ w :=
  rl_val hg (by simp [execOp, hx, run_b2s (P := P) hs he hd hn hc]) k
theorem rx_b2s {src dst e b off n c : Nat} {x : Operand} (l : List UInt8) (ho : ops[io]? = some ⟨some d, .convert src dst x, ty, pos, af, g⟩) (hs : P.underlying src = some (.slice e)) (he : P.underlying e = some (.int .u8)) (hd : P.underlying dst = some .string) (hg : want N ops σ g = true) (hx : ev N σ x = .slice (some ⟨b, off, none⟩) n c) (hn : n = l.length)
    (hc : ∀ w, S w → ∀ (j : Nat) u, l[j]? = some u → w.cell? ⟨b, off + j, none⟩ = some (.int .u8 u.toNat))
    (k : RX P N ops Q S nt r (upd σ d (St l)) w) : RX P N ops Q S nt ((io, false) :: r) σ w :=
  rx_val ho hg (fun w hS => by simp [execOp, hx, run_b2s (P := P) hs he hd hn (hc w hS)]) k
/-- A store of one cell into such a row. -/
theorem rl_storeR {t t' : TypeId} {x y : Operand} {b o : Nat} {v : Value} {cs : List Value} {lo hi : Nat} (i : Nat) (hM : Mem w0 w L V) (hT : VarT P t) (hg : want N ops σ g = true) (hx : ev N σ x = .pointer (some ⟨b, o, none⟩)) (hy : ev N σ y = v) (h1 : v.oneCell' = true)
    (hi' : L[i]? = some (.row b cs t' (lo, hi))) (ho : o < cs.length) (hlo : o < lo)
    (k : ∀ w', Mem w0 w' (L.set i (.row b (cs.set o v) t' (lo, hi))) V → RL P N ops Q rest σ w') : RL P N ops Q (⟨none, .store t x y, ty, pos, af, g⟩ :: rest) σ w := by
  have hob := hM.getObj hi'
  refine rl_unit hg (w' := w.setCell ⟨b, o, none⟩ v) ?_ (k _ (hM.setObj hi' (chg_set b o v w) ?_))
  · obtain ⟨inf, hi1, hi2⟩ := hT.size
    have hcell : w.cell? ⟨b, o, none⟩ = some cs[o] := hM.cellR hi' (by simp [ho])
    have hfz : w.frozen? ⟨b, o, none⟩ = false := by
      simp only [World.frozen?, hob]
      have : ¬ lo ≤ o := by omega
      simp [this]
    have hcells : v.cells = #[v] := by cases v <;> first | rfl | (cases h1; done)
    have hst := run_store P w ⟨b, o, none⟩ v .plain h1
    simp [execOp, hx, hy, Instr.storeAt, Instr.sureAddr, storeVar, sizeOf, typeInfo, hi1, hi2, hcells, storeCells, Addr.add, hst, hcell, hfz]
  · simp [World.setCell, Array.getElem?_modify, hob]
end Go.Eng
