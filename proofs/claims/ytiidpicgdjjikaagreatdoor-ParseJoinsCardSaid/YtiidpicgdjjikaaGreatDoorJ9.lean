import Derived.Test.YtiidpicgdjjikaaGreatDoorProg
import Derived.WalkKit
import Derived.IntWalk
import Derived.Maps.OwnSet
import Derived.Lib.LazyBuf
import Derived.Test.YtiidpicgdjjikaaGreatDoorJ2
namespace Go.Proofs.YtiidpicgdjjikaaGreatDoor.G
open Go.RowKit Go.Lib Go.Maps Go.ChangeMaps Go.MapKept Go.Proofs Go.Proofs.YtiidpicgdjjikaaGreatDoorW.PrintWords Go.Proofs.YtiidpicgdjjikaaGreatDoorW.PrintLast Go.Proofs.YtiidpicgdjjikaaGreatDoorW.PrintMore
set_option linter.unusedVariables false
set_option linter.unusedSimpArgs false
def IMap (w : World) (b : Nat) (q : IntKind) (l : List (Int × Value)) : Prop :=
  ∃ es clock, w.heap[b]? = some (.map es clock) ∧ es.toList.map (fun e => (e.key, e.val)) = l.map (fun p => (Value.int q p.1, p.2))
theorem findNow_int (q : IntKind) (x : Int) : ∀ (es : List MapEntry) (l : List (Int × Value)) (i : Nat), es.map (fun e => (e.key, e.val)) = l.map (fun p => (Value.int q p.1, p.2)) →
    (l.lookup x = none → Instr.findNow (.int q) (.int q x) es i = some none) ∧ (∀ v, l.lookup x = some v → ∃ j e, Instr.findNow (.int q) (.int q x) es i = some (some (i + j, v)) ∧ es[j]? = some e ∧ e.key = .int q x)
  | [], [], i, _ => ⟨fun _ => rfl, fun v h => by simp at h⟩
  | [], _ :: _, i, h => by simp at h
  | _ :: _, [], i, h => by simp at h
  | e :: es, (y, u) :: l, i, h => by
    simp only [List.map_cons, List.cons.injEq, Prod.mk.injEq] at h
    obtain ⟨⟨h1, h2⟩, h3⟩ := h
    obtain ⟨i1, i2⟩ := findNow_int q x es l (i + 1) h3
    have hs : Instr.sameNow (.int q) (.int q x) e.key = some (x == y) := by
      rw [h1]
      simp [Instr.sameNow]
    by_cases hxy : x = y
    · subst hxy
      refine ⟨fun h => by simp [List.lookup] at h, fun v hv => ⟨0, e, ?_, rfl, h1⟩⟩
      simp [List.lookup] at hv
      subst hv
      simp [Instr.findNow, hs, h2]
    · have hb : (x == y) = false := by simpa using hxy
      rw [hb] at hs
      refine ⟨fun h => ?_, fun v hv => ?_⟩
      · simp only [List.lookup, hb] at h
        simp [Instr.findNow, hs, i1 h]
      · simp only [List.lookup, hb] at hv
        obtain ⟨j, e', h4, h5, h6⟩ := i2 v hv
        refine ⟨j + 1, e', ?_, by simpa using h5, h6⟩
        simp only [Instr.findNow, hs, h4]
        congr 3
        omega
theorem run_checkKey_int {P : Program} {w : World} {k : TypeId} {q : IntKind} (hk : P.underlying k = some (.int q)) (x : Int) (em : Bool) (n : Nat) : (Instr.checkKey em (n + 1) k (.int q x)).run P w = .ok () w := by
  simp [Instr.checkKey, run_underlying hk, Result.andThen]
theorem run_findKey_int {P : Program} {w : World} {k : TypeId} {q : IntKind} (hk : P.underlying k = some (.int q)) {key : Value} {es : List MapEntry} {r : Option (Nat × Value)} (h : Instr.findNow (.int q) key es 0 = some r) :
    (Instr.findKey k key es).run P w = .ok r w := by
  simp [Instr.findKey, run_underlying hk, Result.andThen, h]
theorem IMap.lookup {w : World} {b : Nat} {q : IntKind} {l : List (Int × Value)} (h : IMap w b q l) {P : Program} {t k e : TypeId} (ht : P.underlying t = some (.map k e)) (hk : P.underlying k = some (.int q))
    {z : Value} (hz : (zeroValue e).run P w = .ok z w) (x : Int) (ok : Bool) :
    (Instr.lookup t (.map (some b)) (.int q x) ok).run P w = .ok (if ok then .tuple #[(l.lookup x).getD z, .bool (l.lookup x).isSome] else (l.lookup x).getD z) w := by
  obtain ⟨es, clock, hb, hl⟩ := h
  obtain ⟨i1, i2⟩ := findNow_int q x es.toList l 0 hl
  have hc := run_checkKey_int (w := w) hk x es.isEmpty 9999
  cases hx : l.lookup x with
  | none =>
    have h1 := run_findKey_int (w := w) hk (i1 hx)
    simp only [Nat.reduceAdd] at hc
    simp [Instr.lookup, run_underlying ht, MapKept.run_getObj_map hb, hc, h1, hz, Result.andThen]
  | some v =>
    obtain ⟨j, e', h0, _, _⟩ := i2 v hx
    have h1 := run_findKey_int (w := w) hk h0
    simp only [Nat.reduceAdd] at hc
    simp [Instr.lookup, run_underlying ht, MapKept.run_getObj_map hb, hc, h1, Result.andThen]

def MTurn (w w' : World) (b : Nat) : Prop := (∃ o, w' = setBlock w b o) ∧ b < w.heap.size
theorem MTurn.block {w w' : World} {b : Nat} (h : MTurn w w' b) {k : Nat} (hk : k ≠ b) : w'.heap[k]? = w.heap[k]? := by
  obtain ⟨⟨o, rfl⟩, _⟩ := h
  simp [setBlock, Array.getElem?_setIfInBounds, Ne.symm hk]
theorem MTurn.size {w w' : World} {b : Nat} (h : MTurn w w' b) : w'.heap.size = w.heap.size := by
  obtain ⟨⟨o, rfl⟩, _⟩ := h
  simp [setBlock]
theorem MTurn.below {w0 w w' : World} {b n : Nat} (hb : Below n w0 w) (hn : n ≤ b) (h : MTurn w w' b) : Below n w0 w' := by
  refine hb.trans ⟨?_, ?_, ?_, Nat.le_of_eq h.size.symm, fun k hk => h.block (by omega)⟩ <;> (obtain ⟨⟨o, rfl⟩, _⟩ := h; rfl)
theorem IMap.lt {w : World} {b : Nat} {q : IntKind} {l : List (Int × Value)} (h : IMap w b q l) : b < w.heap.size := by
  obtain ⟨es, clock, hb, _⟩ := h
  exact (Array.getElem?_eq_some_iff.1 hb).1
theorem IMap.turn {w w' : World} {b c : Nat} {q : IntKind} {l : List (Int × Value)} (h : IMap w b q l) (ht : MTurn w w' c) (hne : b ≠ c) : IMap w' b q l := by
  obtain ⟨es, clock, hb, hl⟩ := h
  exact ⟨es, clock, (ht.block hne).trans hb, hl⟩
theorem IMap.below {w w' : World} {b : Nat} {q : IntKind} {l : List (Int × Value)} (h : IMap w b q l) (hb : Below w.heap.size w w') : IMap w' b q l := by
  have hlt := h.lt
  obtain ⟨es, clock, hh, hl⟩ := h
  exact ⟨es, clock, (hb.block _ hlt).trans hh, hl⟩
theorem IMap.fresh (w : World) (q : IntKind) : IMap (w.alloc (.map #[] 0)) w.heap.size q [] := ⟨#[], 0, by show (w.heap.push _)[w.heap.size]? = _; simp, rfl⟩
theorem IMap.update {w : World} {b : Nat} {q : IntKind} {l : List (Int × Value)} (h : IMap w b q l) {P : Program} {t k e : TypeId} (ht : P.underlying t = some (.map k e)) (hk : P.underlying k = some (.int q))
    (x : Int) (v : Value) (hx : l.lookup x = none) :
    ∃ w', (Instr.mapUpdate t (.map (some b)) (.int q x) v).run P w = .ok () w' ∧ IMap w' b q (l ++ [(x, v)]) ∧ MTurn w w' b := by
  have hlt := h.lt
  obtain ⟨es, clock, hb, hl⟩ := h
  have h1 := run_findKey_int (w := w) hk ((findNow_int q x es.toList l 0 hl).1 hx)
  have hc := run_checkKey_int (w := w) hk x false 9999
  simp only [Nat.reduceAdd] at hc
  refine ⟨setBlock w b (.map (es.push { key := .int q x, val := v, born := clock }) (clock + 1)), ?_, ⟨_, _, heap_setBlock_same hb _, ?_⟩, ⟨_, rfl⟩, hlt⟩
  · simp [Instr.mapUpdate, run_underlying ht, MapKept.run_getObj_map hb, hc, h1, Result.andThen, MapKept.run_setObj_map _ hb, setBlock]
  · simp [hl]
section
variable {P : Program} {w : World} {ops : Array Oper} {rest : List Oper} {o : Oper} {a : Act} {Q : Exit → Act → World → Prop}
theorem wpList_insert_imap (hg : o.guard = none) (m x v : Operand) (t : TypeId) (hop : o.op = Op.insert t m x v) (k e : TypeId) (q : IntKind) (ht : P.underlying t = some (.map k e)) (hk : P.underlying k = some (.int q))
    (b : Nat) (l : List (Int × Value)) (hm : a.eval m = .map (some b)) (hI : IMap w b q l) (X : Int) (V : Value) (hx : a.eval x = .int q X) (hv : a.eval v = V) (hX : l.lookup X = none)
    (hK : ∀ w', IMap w' b q (l ++ [(X, V)]) → MTurn w w' b → wpList P ops Q rest (a.put o.dst undef) w') : wpList P ops Q (o :: rest) a w := by
  refine wpList_plain hg fun K' hK' => ?_
  obtain ⟨w', hrun, r1, r2⟩ := hI.update ht hk X V hX
  unfold Oper.wp
  simp [execOp, hop, hm, hx, hv, hrun, Result.andThen]
  exact hK' _ _ (hK w' r1 r2)
theorem wpList_mapUpdate_imap (hg : o.guard = none) (m x v : Operand) (t : TypeId) (hop : o.op = Op.mapUpdate t m x v) (k e : TypeId) (q : IntKind) (ht : P.underlying t = some (.map k e)) (hk : P.underlying k = some (.int q))
    (b : Nat) (l : List (Int × Value)) (hm : a.eval m = .map (some b)) (hI : IMap w b q l) (X : Int) (V : Value) (hx : a.eval x = .int q X) (hv : a.eval v = V) (hX : l.lookup X = none)
    (hK : ∀ w', IMap w' b q (l ++ [(X, V)]) → MTurn w w' b → wpList P ops Q rest (a.put o.dst undef) w') : wpList P ops Q (o :: rest) a w := by
  refine wpList_plain hg fun K' hK' => ?_
  obtain ⟨w', hrun, r1, r2⟩ := hI.update ht hk X V hX
  unfold Oper.wp
  simp [execOp, hop, hm, hx, hv, hrun, Result.andThen]
  exact hK' _ _ (hK w' r1 r2)
theorem wpList_lookup_imap (hg : o.guard = none) (m x : Operand) (t : TypeId) (ok : Bool) (hop : o.op = Op.lookup t m x ok) (k e : TypeId) (q : IntKind) (ht : P.underlying t = some (.map k e)) (hk : P.underlying k = some (.int q))
    {z : Value} (hz : (zeroValue e).run P w = .ok z w) (b : Nat) (l : List (Int × Value)) (hm : a.eval m = .map (some b)) (hI : IMap w b q l) (X : Int) (hx : a.eval x = .int q X)
    (hK : wpList P ops Q rest (a.put o.dst (if ok then .tuple #[(l.lookup X).getD z, .bool (l.lookup X).isSome] else (l.lookup X).getD z)) w) : wpList P ops Q (o :: rest) a w := by
  refine wpList_plain hg fun K' hK' => ?_
  have hrun := hI.lookup ht hk hz X ok
  unfold Oper.wp
  simp [execOp, hop, hm, hx, hrun, Result.andThen]
  exact hK' _ _ hK
end
theorem run_makeMap_none {P : Program} (t : TypeId) (w : World) : (Instr.makeMap t none).run P w = .ok (.map (some w.heap.size)) (w.alloc (.map #[] 0)) := rfl
attribute [local go_sem] run_makeMap_none
def singleL : List (Int × Value) := [(48, .int .i64 6), (35, .int .i64 6), (63, .int .i64 6), (46, .int .i64 7), (44, .int .i64 8), (37, .int .i64 9), (47, .int .i64 10), (59, .int .i64 11), (64, .int .i64 12)]
def singleN (c : Int) : Option Int := if c = 48 then some 6 else if c = 35 then some 6 else if c = 63 then some 6 else if c = 46 then some 7 else if c = 44 then some 8 else if c = 37 then some 9 else if c = 47 then some 10 else if c = 59 then some 11 else if c = 64 then some 12 else none
theorem lookup_ite (c k : Int) (v : Value) (l : List (Int × Value)) : List.lookup c ((k, v) :: l) = if c = k then some v else l.lookup c := by
  by_cases h : c = k
  · subst h
    simp [List.lookup]
  · have h2 : (c == k) = false := by simpa using h
    simp [List.lookup, h2, h]
theorem singleL_lookup (c : Int) : singleL.lookup c = (singleN c).map fun n => Value.int .i64 n := by
  unfold singleN singleL
  simp only [lookup_ite, apply_ite (Option.map _), Option.map_some, Option.map_none, List.lookup_nil]
def token_single.f (a0 : Int) : Option (Int × Bool) := some ((singleN a0).getD 0, (singleN a0).isSome)
set_option maxHeartbeats 4000000 in
set_option maxRecDepth 1000000 in
theorem token_single.calls (a0 : Int) (r1 : Int) (r2 : Bool) (w : World) (h : token_single.f a0 = some (r1, r2)) :
    Calls Tryz.prog 88 #[.int .u8 a0] w fun e w' => e = .returned (.tuple #[.int .i64 r1, .bool r2]) ∧ Below w.heap.size w w' := by
  unfold token_single.f at h
  simp only [Option.some.injEq, Prod.mk.injEq] at h
  obtain ⟨rfl, rfl⟩ := h
  have hz : ∀ W : World, (zeroValue 51).run Tryz.prog W = .ok (.int .i64 0) W := fun W => by kernel_rfl
  have hI := IMap.fresh w .u8
  have hB := below_alloc (Below.refl w.heap.size w) (.map #[] 0)
  have hL := singleL_lookup a0
  go_enter Tryz.func88, Tryz.ntmps88
  go_wp2_with (first
    | (refine wpList_insert_imap rfl _ _ _ _ rfl _ _ .u8 Tryz.underlying178 Tryz.underlying5 w.heap.size _ rfl hI _ _ rfl rfl (by rfl) ?_
       intro w1 hI1 ht1
       replace hB := MTurn.below hB (Nat.le_refl _) ht1
       clear hI ht1
       have hI := hI1
       clear hI1)
    | (refine wpList_lookup_imap rfl _ _ _ _ rfl _ _ .u8 Tryz.underlying178 Tryz.underlying5 (hz _) w.heap.size _ rfl hI a0 rfl ?_))
  go_ret2
  unfold singleL at hL
  exact ⟨by rw [hL]; cases singleN a0 <;> rfl, hB⟩
end Go.Proofs.YtiidpicgdjjikaaGreatDoor.G
