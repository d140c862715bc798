/- Rules for strings.Builder: bytes of a string appended, pointers turned about, unsafe.String. Nothing here names a program. -/
import Derived.Test.YtoekjhalcjhegaaEng12
import Derived.Lib.Builder
import Derived.Lib.AppendStr
import Derived.Lib.UnsafeStr
import Derived.Laws.Externs
set_option linter.unusedVariables false
set_option linter.unusedSimpArgs false
namespace Go.Eng
open Go Go.RowKit
variable {P : Program} {N : NN} {Q : Exit → Act → World → Prop} {S : World → Prop} {σ : Env} {w w' : World} {ops rest : List Oper} {r : List (Nat × Bool)}
  {d : Tmp} {ty : TypeId} {pos : String} {af : Array Edge} {g : Option (Nat × Bool)} {io nt : Nat}
def by8 (l : List UInt8) : List Value := l.map fun b => Value.int .u8 b.toNat
theorem by8_len (l : List UInt8) : (by8 l).length = l.length := by simp [by8]
theorem by8_append (a b : List UInt8) : by8 (a ++ b) = by8 a ++ by8 b := by simp [by8]
theorem strCells_mk (l : List UInt8) : Lib.strCells ⟨l.toArray⟩ = by8 l := by simp [Lib.strCells, by8]
theorem run_append_OwnS {t u ty e b : Nat} {v : Value} (hT : SlT P t e 1 1 (.int .u8 0)) (hu : P.underlying u = some .string) {n : Nat} {xs : List Value} (l : List UInt8)
    (hown : Own w e 1 v n xs b) (h63 : n + l.length ≤ maxLen) (hby : n + l.length ≤ 140737488355328) :
    ∃ v' w' b', (Builtin.append_ #[t, u] ty #[v, St l]).run P w = .ok v' w' ∧ Own w' e 1 v' (n + l.length) (xs ++ by8 l) b' ∧ (b' = b ∨ w.heap.size ≤ b') ∧ Chg b w w' := by
  obtain ⟨i, hi, hz, hisz, hiby⟩ := hT.info
  have ht := hT.und
  have hsz : (ByteArray.mk l.toArray).size = l.length := st_size l
  have hsmall : n + l.length ≤ 9223372036854775807 := by simp only [maxLen] at h63; omega
  have hxl : xs.length = n := by simpa using hown.1
  have hlen : (xs ++ by8 l).length = (n + l.length) * 1 := by rw [List.length_append, hxl, by8_len, Nat.mul_one]
  have grown : ∀ (old : Nat), old < n + l.length →
      Own (w.drew.alloc (.cells (xs.toArray ++ (by8 l).toArray ++ Builtin.zeroCells (Value.int .u8 0).cells (grownCap w (n + l.length) old e - (n + l.length))) e)) e 1
        (.slice (some ⟨w.heap.size, 0, none⟩) (n + l.length) (grownCap w (n + l.length) old e)) (n + l.length) (xs ++ by8 l) w.heap.size ∧
      Chg b w (w.drew.alloc (.cells (xs.toArray ++ (by8 l).toArray ++ Builtin.zeroCells (Value.int .u8 0).cells (grownCap w (n + l.length) old e - (n + l.length))) e)) := by
    intro old ho
    have hge := grownCap_ge w (n + l.length) old e
    have hcm : grownCap w (n + l.length) old e ≤ maxLen := grownCap_le_maxLen w (n + l.length) old e h63
    refine ⟨⟨hlen, .inr ⟨_, (Builtin.zeroCells (Value.int .u8 0).cells (grownCap w (n + l.length) old e - (n + l.length))).toList, rfl, hge, hcm, ?_, ?_⟩⟩, ⟨rfl, rfl, rfl, by simp, fun k hk _ => heap_alloc_old w.drew _ hk⟩⟩
    · have hz1 : (Value.int IntKind.u8 0).cells.size = 1 := rfl
      simp only [List.length_append, Array.length_toList, size_zeroCells, hz1, hxl, by8_len]
      omega
    · have : xs.toArray ++ (by8 l).toArray ++ Builtin.zeroCells (Value.int .u8 0).cells (grownCap w (n + l.length) old e - (n + l.length)) = (xs ++ by8 l ++ (Builtin.zeroCells (Value.int .u8 0).cells (grownCap w (n + l.length) old e - (n + l.length))).toList).toArray := by
        apply Array.ext'; simp
      rw [this]
      exact blk_alloc w.drew _ _
  rcases hown.2 with ⟨rfl, rfl⟩ | ⟨cap, spare, rfl, hnc, hcm, hcs, hB⟩
  · have hx : xs = [] := List.eq_nil_of_length_eq_zero hxl
    subst hx
    by_cases hm : l.length = 0
    · have hl : l = [] := List.eq_nil_of_length_eq_zero hm
      subst hl
      refine ⟨.slice none 0 0, w, b, ?_, Own.nil _ _ _ _, .inl rfl, Chg.refl _ _⟩
      have hf := Lib.run_firstCells_string (P := P) w 1 ⟨#[]⟩
      have h0 : (ByteArray.mk #[]).size = 0 := rfl
      rw [h0] at hf
      simp [Builtin.append_, run_underlying ht, run_underlying hu, sizeOf, typeInfo, hi, hisz, Builtin.lenOf, h0, hf]
    · have hr := run_append_nil_string (P := P) w t u ty e i (.int .u8 0) ht hu hi hz ⟨l.toArray⟩ (by rw [hsz]; omega) (by rw [hsz]; omega) (by rw [hsz, hiby]; omega)
      have hgr := grown 0 (by omega)
      have e1 : (ByteArray.mk l.toArray).data.map (fun b => Value.int .u8 (b.toNat : Int)) = (by8 l).toArray := by
        apply Array.ext'; simp [by8]
      rw [e1, hsz] at hr
      simp only [Nat.zero_add, List.nil_append, Array.empty_append] at hgr ⊢
      exact ⟨_, _, _, hr, hgr.1, .inr (Nat.le_refl _), hgr.2⟩
  · by_cases hroom : n + l.length ≤ cap
    · have hcs' : (xs ++ spare).length = cap := by simpa using hcs
      have hr := Lib.run_append_room_string (P := P) w t u ty e i ht hu hi hisz b n cap (xs ++ spare).toArray hB ⟨l.toArray⟩ (by rw [hsz]; exact hroom) (by rw [hsz, List.size_toArray]; omega)
      rw [strCells_mk, hsz] at hr
      have e1 : ((xs ++ spare).toArray.toList.take n ++ by8 l ++ (xs ++ spare).toArray.toList.drop (n + l.length)) = (xs ++ by8 l) ++ (xs ++ spare).drop (n + l.length) := by
        simp only [← hxl, List.take_left]
      rw [e1] at hr
      refine ⟨_, _, b, hr, ⟨hlen, .inr ⟨cap, (xs ++ spare).drop (n + l.length), rfl, hroom, hcm, ?_, blk_row hB⟩⟩, .inl rfl, chg_row _ _ _⟩
      simp only [List.length_append, List.length_drop, by8_len, Nat.mul_one] at hcs' ⊢
      omega
    · have holds : ∀ j u, xs[j]? = some u → w.cell? ((⟨b, 0, none⟩ : Addr).add j) = some u := fun j u h => by rw [Addr.add_lit, Nat.zero_add]; exact hown.cell h
      have hr := Lib.run_append_grow_string (P := P) w t u ty e i (.int .u8 0) ht hu hi hz ⟨b, 0, none⟩ n cap xs (by rw [hisz]; simpa using hxl) holds ⟨l.toArray⟩ (by rw [hsz]; omega) (by rw [hsz]; omega) (by rw [hiby, hsz]; exact growslice_fits (by omega) (by omega))
      rw [strCells_mk, hsz] at hr
      have hgr := grown cap (by omega)
      exact ⟨_, _, _, hr, hgr.1, .inr (Nat.le_refl _), hgr.2⟩
theorem rl_appendS {t u e b : Nat} {x y : Operand} {v : Value} {n : Nat} {xs : List Value} {l : List UInt8} (hT : SlT P t e 1 1 (.int .u8 0)) (hu : P.underlying u = some .string)
    (hown : Own w e 1 v n xs b) (hg : want N ops σ g = true) (hx : ev N σ x = v) (hy : ev N σ y = St l) (h63 : n + l.length ≤ maxLen) (hby : n + l.length ≤ 140737488355328)
    (k : ∀ v' w' b', Own w' e 1 v' (n + l.length) (xs ++ by8 l) b' → (b' = b ∨ w.heap.size ≤ b') → Chg b w w' → RL P N ops Q rest (upd σ d v') w') :
    RL P N ops Q (⟨some d, .call ⟨.builtin .append, #[x, y], #[t, u]⟩, ty, pos, af, g⟩ :: rest) σ w := by
  obtain ⟨v', w', b', hr, h2, h3, h4⟩ := run_append_OwnS (ty := ty) hT hu l hown h63 hby
  exact rl_val hg (by simp [execOp, resolve, invoke, builtin, hx, hy, hr]) (k v' w' b' h2 h3 h4)
theorem rl_pneqsame {t t' e : TypeId} {x y : Operand} {A : Addr} (hT : P.underlying t = some (.pointer e)) (he : (P.info? e).isSome = true) (hg : want N ops σ g = true) (hx : ev N σ x = .pointer (some A)) (hy : ev N σ y = .pointer (some A))
    (k : RL P N ops Q rest (upd σ d (.bool false)) w) : RL P N ops Q (⟨some d, .binOp .neq t x y t', ty, pos, af, g⟩ :: rest) σ w :=
  rl_val hg (by
    obtain ⟨j, hj⟩ := Option.isSome_iff_exists.1 he
    have h := Lib.run_neq_ptr_same (P := P) w A hT hj
    unfold execOp; simp only [hx, hy]
    simp [eqGuard, h]) k
theorem rl_toUns {src dst t e b off : Nat} {x : Operand} {cs : List Value} (hs : P.underlying src = some (.pointer t)) (hd : P.underlying dst = some .unsafePointer) (ht : (P.info? t).map (fun i => i.size == 0) = some false)
    (hg : want N ops σ g = true) (hx : ev N σ x = .pointer (some ⟨b, off, none⟩)) (hB : Blk w b cs e) (ho : off < cs.length)
    (k : RL P N ops Q rest (upd σ d (.pointer (some ⟨b, off, none⟩))) w) : RL P N ops Q (⟨some d, .convert src dst x, ty, pos, af, g⟩ :: rest) σ w :=
  rl_val hg (by
    simp only [Option.map_eq_some_iff, beq_eq_false_iff_ne] at ht
    obtain ⟨j, hj, hne⟩ := ht
    have hsh : w.shape? b = some (e, cs.length) := by unfold Blk at hB; simp [World.shape?, hB]
    have h := Lib.run_to_unsafe (P := P) w ⟨b, off, none⟩ hs hd hj hne hsh ho
    simp [execOp, hx, h]) k
theorem rl_fromUns {src dst u e b off : Nat} {x : Operand} {cs : List Value} (hs : P.underlying src = some .unsafePointer) (hd : P.underlying dst = some (.pointer u)) (hu : (P.info? u).isSome = true)
    (hg : want N ops σ g = true) (hx : ev N σ x = .pointer (some ⟨b, off, none⟩)) (hB : Blk w b cs e) (hl : liesAt P P.depth e (cs.length / P.cellsOf e) off u 1 = true)
    (k : RL P N ops Q rest (upd σ d (.pointer (some ⟨b, off, none⟩))) w) : RL P N ops Q (⟨some d, .convert src dst x, ty, pos, af, g⟩ :: rest) σ w :=
  rl_val hg (by
    obtain ⟨j, hj⟩ := Option.isSome_iff_exists.1 hu
    have hsh : w.shape? b = some (e, cs.length) := by unfold Blk at hB; simp [World.shape?, hB]
    have h := Lib.run_from_unsafe (P := P) w ⟨b, off, none⟩ hs hd hj hsh hl
    simp [execOp, hx, h]) k
/-- A call of a function of the runtime's own, that has no body. -/
theorem rl_extern {f : FuncId} {fn : Func} {e : Array Value → Sem Value} {ts : Array TypeId} {args : List Operand} {as : List Value} {v : Value} (hf : P.funcs[f]? = some fn) (hname : (fn.name == "runtime.NumGoroutine") = false) (hb : fn.body.isNone = true) (hn : Extern.findNext fn = none) (he : Extern.find fn = some e)
    (hg : want N ops σ g = true) (ha : args.map (ev N σ) = as) (hr : (e as.toArray).run P w = .ok v w')
    (k : RL P N ops Q rest (upd σ d v) w') : RL P N ops Q (⟨some d, .call ⟨.value (.func f), args.toArray, ts⟩, ty, pos, af, g⟩ :: rest) σ w :=
  rl_val hg (by
    subst ha
    have h := run_callFunc_extern (P := P) hf hname hb hn he (args.map (ev N σ)).toArray w
    simp [execOp, resolve, ev, Deferred.ofValue, invoke]
    rw [show (args.map (ev N σ)).toArray = (args.toArray.map (ev N σ)) by simp] at h hr
    simp at h hr
    rw [h, hr]; rfl) k
/-- unsafe.String over a buffer of the call's own. -/
theorem rl_ustring {pt it e b : Nat} {x y : Operand} {v : Value} {l : List UInt8} (hp : P.underlying pt = some (.pointer e)) (hc : P.cellsOf e = 1) (hg : want N ops σ g = true)
    (hown : Own w e 1 v l.length (by8 l) b) (hx0 : ∃ A, ev N σ x = .pointer A) (hx : l ≠ [] → ev N σ x = .pointer (some ⟨b, 0, none⟩)) (hy : ev N σ y = .int .i64 l.length)
    (k : ∀ w', Chg b w w' → w'.heap.size = w.heap.size → RL P N ops Q rest (upd σ d (St l)) w') :
    RL P N ops Q (⟨some d, .call ⟨.builtin .unsafeString, #[x, y], #[pt, it]⟩, ty, pos, af, g⟩ :: rest) σ w := by
  by_cases hl : l = []
  · subst hl
    obtain ⟨A, hA⟩ := hx0
    refine rl_val hg (w' := w) ?_ (k w (Chg.refl _ _) rfl)
    have h := Lib.run_unsafeString_none (P := P) w pt it ty A
    have hy' : ev N σ y = .int .i64 0 := hy
    simp [execOp, resolve, invoke, builtin, hA, hy', h]
    rfl
  · have hA := hx hl
    rcases hown.2 with ⟨_, h0⟩ | ⟨cap, spare, rfl, hnc, hcm, hcs, hB⟩
    · exact absurd (List.eq_nil_of_length_eq_zero h0) hl
    · have hsh : w.shape? b = some (e, (by8 l ++ spare).length) := by unfold Blk at hB; simp [World.shape?, hB]
      have h := Lib.run_unsafeString_row (P := P) w pt it ty e hp hc b _ hsh l hl (by simp [by8_len]) (by have := maxLen_le; omega) (fun j x hj => by
        rw [Addr.add_lit, Nat.zero_add]
        refine hown.cell ?_
        simp [by8, hj])
      have hn : ¬ l.length = 0 := fun h => hl (List.eq_nil_of_length_eq_zero h)
      have hcg : Chg b w (w.freeze ⟨b, 0, none⟩ l.length) ∧ (w.freeze ⟨b, 0, none⟩ l.length).heap.size = w.heap.size := by
        unfold World.freeze
        rw [if_neg hn]
        exact ⟨⟨rfl, rfl, rfl, by simp, fun k hk hne => by simp [Array.getElem?_modify, Ne.symm hne]⟩, by simp⟩
      refine rl_val hg (w' := w.freeze ⟨b, 0, none⟩ l.length) ?_ (k _ hcg.1 hcg.2)
      simp [execOp, resolve, invoke, builtin, hA, hy, h]
end Go.Eng
