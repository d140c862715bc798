/- Rows of acts that are handed in. -/
import Derived.Test.YtoekjhalcjhegaaHepM
import Derived.Deep.Strs
set_option linter.unusedVariables false
set_option linter.unusedSimpArgs false
namespace Go.Hp
open Go Go.Eng Go.RowKit
structure Ac where
  doo : Int
  at_ : Int
  node : Nd
def acCells (a : Ac) (v : Value) : List Value := [.int .i64 a.doo, .int .i64 a.at_, .int .i64 a.node.form, .int .i64 a.node.n, St a.node.name, v]
/-- What is handed in of an act is of its types. -/
structure AcW (a : Ac) : Prop where
  doo : I64 a.doo
  at_ : I64 a.at_
  form : I64 a.node.form
  n : I64 a.node.n
  name : a.node.name.length ≤ maxLen
def IsActs (V : Vw) (v : Value) (l : List Ac) : Prop :=
  ∃ a c b off, v = .slice a l.length c ∧ l.length ≤ c ∧ c ≤ maxLen ∧ (0 < l.length → a = some ⟨b, off, none⟩) ∧
    ∀ (i : Nat) x, l[i]? = some x → AcW x ∧ ∃ kv, VRow V b (off + i * 6) (acCells x kv) ∧ IsInts V kv x.node.kids
theorem IsActs.le {V V' : Vw} {v : Value} {l : List Ac} (h : IsActs V v l) (hv : VLe V V') : IsActs V' v l := by
  obtain ⟨a, c, b, off, h1, h2, h3, h4, h5⟩ := h
  exact ⟨a, c, b, off, h1, h2, h3, h4, fun i x hx => by
    obtain ⟨e1, kv, e2, e3⟩ := h5 i x hx
    exact ⟨e1, kv, e2.le hv, e3.le hv⟩⟩
variable {P : Program}
theorem take_one {cs : List Value} {o : Nat} {v : Value} (h : (cs.drop o).take 1 = [v]) : cs[o]? = some v := by
  have : ((cs.drop o).take 1)[0]? = some v := by rw [h]; rfl
  rw [List.getElem?_take] at this
  simp only [Nat.zero_lt_one, if_true, List.getElem?_drop, Nat.add_zero] at this
  exact this
theorem acts_open {H : Type} {enc : TypeId × Value → H} {W : World} {a : Option Addr} {len cap : Nat} {d : DataW H} {ps : List MemPlace} {base : Nat} {t e s ti ts tk : TypeId} {f0 f1 f2 g0 g1 g2 g3 : Field}
    (ht : P.underlying t = some (.slice e)) (he : P.underlying e = some (.struct #[f0, f1, f2])) (hs : P.underlying s = some (.struct #[g0, g1, g2, g3]))
    (hi : P.underlying ti = some (.int .i64)) (hS : P.underlying ts = some .string) (hk : P.underlying tk = some (.slice ti))
    (ce : P.cellsOf e = 6) (cs' : P.cellsOf s = 4) (ci : P.cellsOf ti = 1) (cS : P.cellsOf ts = 1) (ck : P.cellsOf tk = 1)
    (e0 : f0.type = ti ∧ f0.offset = 0) (e1 : f1.type = ti ∧ f1.offset = 1) (e2 : f2.type = s ∧ f2.offset = 2) (e3 : g0.type = ti ∧ g0.offset = 0) (e4 : g1.type = ti ∧ g1.offset = 1) (e5 : g2.type = ts ∧ g2.offset = 2) (e6 : g3.type = tk ∧ g3.offset = 3)
    (h : DataW.Trod enc P W base (fun _ => true) true t (.slice a len cap) d ps) : ∃ xs, IsActs W.cell? (.slice a len cap) xs := by
  obtain ⟨fuel, hf⟩ := h
  rcases DataW.trod_slice ht hf with ⟨hcs, _⟩ | ⟨x, l, c, elems, rest, n, _, hcs, _, hb, hl, hm, hlen, hel, _, _⟩
  · simp [Value.cells] at hcs
    obtain ⟨rfl, rfl, rfl⟩ := hcs
    exact ⟨[], none, 0, 0, 0, rfl, Nat.le_refl _, Nat.zero_le _, fun h => absurd h (by simp), fun i x hx => by simp at hx⟩
  · simp [Value.cells] at hcs
    obtain ⟨rfl, rfl, rfl⟩ := hcs
    have each : ∀ i, i < len → ∃ y : Ac × Value, AcW y.1 ∧ (∀ (j : Nat) u, (acCells y.1 y.2)[j]? = some u → W.cell? ((x.add (i * 6)).add j) = some u) ∧ IsInts W.cell? y.2 y.1.node.kids := by
      intro i hil
      have h1 := hel i hil
      rw [List.getElem?_eq_getElem (by omega), Option.bind_eq_some_iff, ce] at h1
      obtain ⟨cs, hcs, htr⟩ := h1
      obtain ⟨_, hcl, hcell⟩ := World.cells?_some hcs
      obtain ⟨y0, y1, y2, m, _, _, h2, h3, h4⟩ := Deep.trod_struct3 he htr
      rw [e0.1, e0.2, ci] at h2
      rw [e1.1, e1.2, ci] at h3
      rw [e2.1, e2.2, cs'] at h4
      obtain ⟨v0, q0, _, r0⟩ := DataW.trod_int hi h2
      obtain ⟨v1, q1, _, r1⟩ := DataW.trod_int hi h3
      obtain ⟨zs, m2, _, _, hl4, hz, hg⟩ := DataW.trod_struct hs h4
      have gz : ∀ j : Nat, j < 4 → ∃ z, zs[j]? = some z := fun j hj => ⟨_, List.getElem?_eq_getElem (by rw [hz]; exact hj)⟩
      obtain ⟨z0, hz0⟩ := gz 0 (by decide)
      obtain ⟨z1, hz1⟩ := gz 1 (by decide)
      obtain ⟨z2, hz2⟩ := gz 2 (by decide)
      obtain ⟨z3, hz3⟩ := gz 3 (by decide)
      have k0 := hg 0 g0 rfl
      have k1 := hg 1 g1 rfl
      have k2 := hg 2 g2 rfl
      have k3 := hg 3 g3 rfl
      rw [hz0, e3.1, e3.2, ci] at k0
      rw [hz1, e4.1, e4.2, ci] at k1
      rw [hz2, e5.1, e5.2, cS] at k2
      rw [hz3, e6.1, e6.2, ck] at k3
      obtain ⟨u0, p0, _, s0⟩ := DataW.trod_int hi k0
      obtain ⟨u1, p1, _, s1⟩ := DataW.trod_int hi k1
      obtain ⟨u2, p2, _, s2⟩ := DataW.trod_string hS k2
      have c0 := take_one q0
      have c1 := take_one q1
      have in4 : ∀ (j : Nat) v, j < 4 → ((cs.drop 2).take 4)[j]? = some v → cs[2 + j]? = some v := by
        intro j v hj h
        rw [List.getElem?_take, if_pos hj, List.getElem?_drop] at h
        exact h
      have c2 := in4 0 _ (by decide) (take_one p0)
      have c3 := in4 1 _ (by decide) (take_one p1)
      have c4 := in4 2 _ (by decide) (take_one p2)
      -- the kids
      have kidV : ∃ kv ks, cs[5]? = some kv ∧ IsInts W.cell? kv ks := by
        have hlen5 : 5 < cs.length := by omega
        have h5 : ((cs.drop 2).take 4).drop 3 = [cs[5]] := by
          rw [List.drop_take, List.drop_drop]
          rw [List.drop_eq_getElem_cons hlen5]; rfl
        rw [h5] at k3
        rcases ChangeShapes.open_ints hk hi ci k3 with ⟨hcs3, _⟩ | ⟨x3, l3, c3', zs3, hcs3, _, hl3, hm3, hzl3, _, hcell3, hwf3⟩
        · have hcs3 : cs[5] = Value.slice none 0 0 := by simpa using hcs3
          exact ⟨_, [], List.getElem?_eq_getElem hlen5, by rw [hcs3]; exact isSl_addr rfl (Nat.le_refl _) (Nat.zero_le _) (fun i u hu => by simp at hu), fun x hx => by simp at hx⟩
        · have hcs3 : cs[5] = Value.slice (some x3) l3 c3' := by simpa using hcs3
          simp only [if_true] at hzl3
          refine ⟨_, zs3.take l3, List.getElem?_eq_getElem hlen5, ?_, fun n hn => i64_of_wf (hwf3 n (List.mem_of_mem_take hn))⟩
          rw [hcs3]
          refine isSl_addr (by simp; omega) hl3 hm3 fun i u hu => ?_
          rw [List.getElem?_map, Option.map_eq_some_iff] at hu
          obtain ⟨n, hn, rfl⟩ := hu
          rw [List.getElem?_take] at hn
          split at hn
          · have hi := (List.getElem?_eq_some_iff.1 hn).1
            refine ⟨x3, rfl, ?_⟩
            rw [hcell3 i hi, List.getD_eq_getElem?_getD, hn]; rfl
          · cases hn
      obtain ⟨kv, ks, c5, hkv⟩ := kidV
      refine ⟨(⟨v0, v1, ⟨u0, u1, u2.data.toList, ks⟩⟩, kv), ⟨i64_of_wf r0, i64_of_wf r1, i64_of_wf s0, i64_of_wf s1, s2⟩, fun j u hj => ?_, hkv⟩
      have hj6 : j < 6 := (List.getElem?_eq_some_iff.1 hj).1
      rw [hcell j hj6]
      match j, hj with
      | 0, hj => simp [acCells] at hj; rw [c0, hj]
      | 1, hj => simp [acCells] at hj; rw [c1, hj]
      | 2, hj => simp [acCells] at hj; rw [c2, hj]
      | 3, hj => simp [acCells] at hj; rw [c3, hj]
      | 4, hj => simp [acCells] at hj; rw [c4, ← hj]
      | 5, hj => simp [acCells] at hj; rw [c5, hj]
      | j + 6, hj => omega
    haveI : Inhabited (Ac × Value) := ⟨(⟨0, 0, ⟨0, 0, [], []⟩⟩, .nilFunc)⟩
    obtain ⟨y, hy⟩ := Deep.choose_lt each
    cases hl0 : len with
    | zero =>
      exact ⟨[], some x, cap, 0, 0, rfl, Nat.zero_le _, hm, fun h => absurd h (by simp), fun i x hx => by simp at hx⟩
    | succ m =>
      rw [← hl0]
      have hspot : x.spot = none := by
        have := (hy 0 (by omega)).2.1 0 (.int .i64 (y 0).1.doo) rfl
        have := spot_none this
        simpa [Addr.add] using this
      obtain ⟨b, o, sp⟩ := x
      simp only at hspot
      subst hspot
      refine ⟨(List.range len).map fun i => (y i).1, _, cap, b, o, by simp, by simpa using hl, hm, fun _ => rfl, fun i u hu => ?_⟩
      rw [List.getElem?_map, Option.map_eq_some_iff] at hu
      obtain ⟨r, hr, rfl⟩ := hu
      obtain ⟨hlt, he⟩ := List.getElem?_eq_some_iff.1 hr
      rw [List.length_range] at hlt
      rw [List.getElem_range] at he
      subst he
      obtain ⟨w1, w2, w3⟩ := hy i hlt
      refine ⟨w1, (y i).2, fun j u hj => ?_, w3⟩
      have := w2 j u hj
      rw [Addr.add_lit, Addr.add_lit] at this
      exact this
end Go.Hp
