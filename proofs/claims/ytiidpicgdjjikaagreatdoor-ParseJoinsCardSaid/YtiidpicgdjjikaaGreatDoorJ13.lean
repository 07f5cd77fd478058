import Derived.Test.YtiidpicgdjjikaaGreatDoorJ11
import Derived.Test.YtiidpicgdjjikaaGreatDoorJ12
namespace Go.Proofs.YtiidpicgdjjikaaGreatDoor.G
open Go.RowKit Go.Lib Go.Maps Go.ChangeMaps Go.MapKept Go.Proofs Go.Proofs.YtiidpicgdjjikaaGreatDoor.P Go.Proofs.YtiidpicgdjjikaaGreatDoorW.PrintWords Go.Proofs.YtiidpicgdjjikaaGreatDoorW.PrintLast Go.Proofs.YtiidpicgdjjikaaGreatDoorW.PrintMore
set_option linter.unusedVariables false
set_option linter.unusedSimpArgs false
def Gw (w : World) (os : Array Obj) : World := { w with heap := w.heap ++ os }
theorem Gw_alloc (w : World) (os : Array Obj) (o : Obj) : (Gw w os).alloc o = Gw w (os.push o) := by simp [Gw, World.alloc]
theorem Gw_one (w : World) (o : Obj) : w.alloc o = Gw w #[o] := by
  have : w.alloc o = { w with heap := w.heap.push o } := rfl
  rw [this]
  simp [Gw]
theorem Gw_size (w : World) (os : Array Obj) : (Gw w os).heap.size = w.heap.size + os.size := by simp [Gw]
theorem Gw_at (w : World) (os : Array Obj) (i : Nat) : (Gw w os).heap[w.heap.size + i]? = os[i]? := by
  show (w.heap ++ os)[w.heap.size + i]? = os[i]?
  rw [Array.getElem?_append_right (by omega)]
  congr 1
  omega
theorem Gw_below (w : World) (os : Array Obj) : Below w.heap.size w (Gw w os) := ⟨rfl, rfl, rfl, by simp [Gw], fun k hk => by simp [Gw, Array.getElem?_append, hk]⟩
theorem Gw_set (w : World) (os : Array Obj) (i : Nat) (o : Obj) : setBlock (Gw w os) (w.heap.size + i) o = Gw w (os.setIfInBounds i o) := by
  have e : (w.heap ++ os).setIfInBounds (w.heap.size + i) o = w.heap ++ os.setIfInBounds i o := by
    apply Array.ext'
    simp only [Array.toList_setIfInBounds, Array.toList_append]
    simp [List.set_append]
  show { Gw w os with heap := (w.heap ++ os).setIfInBounds (w.heap.size + i) o } = _
  rw [e]
  rfl
section
variable {P : Program} {w : World} {ops : Array Oper} {rest : List Oper} {o : Oper} {a : Act} {Q : Exit → Act → World → Prop}
theorem wpList_insert_G (hg : o.guard = none) (m x v : Operand) (t : TypeId) (hop : o.op = Op.insert t m x v) (k e : TypeId) (q : IntKind) (ht : P.underlying t = some (.map k e)) (hk : P.underlying k = some (.int q))
    (i : Nat) (os os' : Array Obj) (es : Array MapEntry) (clock : Nat) (ho : os[i]? = some (.map es clock)) (hm : a.eval m = .map (some (w.heap.size + i))) (X : Int) (V : Value) (hx : a.eval x = .int q X) (hv : a.eval v = V) (hX : Instr.findNow (.int q) (.int q X) es.toList 0 = some none)
    (he : os.setIfInBounds i (.map (es.push { key := .int q X, val := V, born := clock }) (clock + 1)) = os')
    (hK : wpList P ops Q rest (a.put o.dst undef) (Gw w os')) : wpList P ops Q (o :: rest) a (Gw w os) := by
  refine wpList_plain hg fun K' hK' => ?_
  have hb : (Gw w os).heap[w.heap.size + i]? = some (.map es clock) := (Gw_at w os i).trans ho
  have h1 := run_findKey_int (w := Gw w os) hk hX
  have hc := run_checkKey_int (P := P) (w := Gw w os) hk X false 9999
  simp only [Nat.reduceAdd] at hc
  have hs := Gw_set w os i (.map (es.push { key := .int q X, val := V, born := clock }) (clock + 1))
  have hrun : (Instr.mapUpdate t (.map (some (w.heap.size + i))) (.int q X) V).run P (Gw w os) = .ok () (Gw w os') := by
    rw [← he, ← hs]
    simp [Instr.mapUpdate, run_underlying ht, MapKept.run_getObj_map hb, hc, h1, Result.andThen, MapKept.run_setObj_map _ hb, setBlock]
  unfold Oper.wp
  simp [execOp, hop, hm, hx, hv, hrun, Result.andThen]
  exact hK' _ _ hK
end
attribute [local irreducible] Gw
attribute [local go_sem] isSome_setCell_eq run_makeMap_none Gw_alloc Gw_size
def meansL (s : Int) : List Int := if s = 2 then [7, 8, 9] else if s = 3 then [7, 9, 13] else if s = 4 then [10] else []
def wrongL (s : Int) : List Int := if s = 3 then [8] else if s = 4 then [8, 7, 13] else []
def kindsL : List (Int × Value) := [(7, .int .i64 5), (8, .int .i64 6), (9, .int .i64 7), (10, .int .i64 8), (13, .int .i64 9)]
def kindN (k : Int) : Int := if k = 7 then 5 else if k = 8 then 6 else if k = 9 then 7 else if k = 10 then 8 else if k = 13 then 9 else 0
theorem kindsL_lookup (k : Int) : (kindsL.lookup k).getD (.int .i64 0) = .int .i64 (kindN k) := by
  unfold kindsL kindN
  simp only [lookup_ite, List.lookup_nil]
  repeat' split
  all_goals rfl
def signF (k : Nat) (b : BSt) (x : S53) : Option (Int × BSt) :=
  (token_Kind_83.f k (wrongL b.sort) x.f0).bind fun cw => if cw = true then some (11, b) else
  (token_Kind_83.f k (meansL b.sort) x.f0).bind fun cm => if cm = true then
    (if x.f0 = 8 ∨ x.f0 = 9 then (addF b ⟨kindN x.f0, x.f1, 0⟩).bind fun b2 => some (0, b2)
      else if (onlyF b x.f0).1 = 0 then (addF (onlyF b x.f0).2 ⟨kindN x.f0, x.f1, 0⟩).bind fun b2 => some (0, b2) else some (onlyF b x.f0))
  else if x.f0 = 13 then (if 1 + x.f1.size ≤ 9223372036854775807 then (addF b ⟨1, ⟨#[69]⟩ ++ x.f1, 0⟩).bind fun b2 => some (0, b2) else none)
  else (addF b ⟨1, x.f1, 0⟩).bind fun b2 => some (0, b2)
theorem lit_C {w : World} {g : Nat} {t : TypeId} (l : List Int) (h : w.heap[g]? = some (.cells (l.map (fun x => Value.int .i64 x)).toArray t (0, 0))) (hl : l.length ≤ 9223372036854775807) : Kd.C (Kd.int .i64) w (some ⟨g, 0, none⟩) l.length l := by
  refine Kd.C_of_reads (d := (0 : Int)) (h1 := fun _ => rfl) ⟨rfl, hl, fun _ => ⟨_, rfl, fun j hj => ?_⟩⟩
  have e : (⟨g, 0, none⟩ : Addr).add j = ⟨g, j, none⟩ := add_plain g j
  rw [e, blk_cell h j]
  simp [List.getD_eq_getElem?_getD, List.getElem?_eq_getElem hj]
theorem gw_means (w1 : World) (s : Int) : ∃ (A : Option Addr) (c : Nat), (([(2, .slice (some ⟨w1.heap.size + 2, 0, none⟩) 3 3), (3, .slice (some ⟨w1.heap.size + 3, 0, none⟩) 3 3), (4, .slice (some ⟨w1.heap.size + 4, 0, none⟩) 1 1)] : List (Int × Value)).lookup s).getD (.slice none 0 0) = .slice A (meansL s).length c ∧ Kd.C (Kd.int .i64) (Gw w1 #[.map #[{ key := .int .i64 7, val := .int .i64 5, born := 0 }, { key := .int .i64 8, val := .int .i64 6, born := 1 }, { key := .int .i64 9, val := .int .i64 7, born := 2 }, { key := .int .i64 10, val := .int .i64 8, born := 3 }, { key := .int .i64 13, val := .int .i64 9, born := 4 }] 5, .map #[{ key := .int .i64 2, val := .slice (some ⟨w1.heap.size + 2, 0, none⟩) 3 3, born := 0 }, { key := .int .i64 3, val := .slice (some ⟨w1.heap.size + 3, 0, none⟩) 3 3, born := 1 }, { key := .int .i64 4, val := .slice (some ⟨w1.heap.size + 4, 0, none⟩) 1 1, born := 2 }] 3, .cells #[.int .i64 7, .int .i64 8, .int .i64 9] 51 (0, 0), .cells #[.int .i64 7, .int .i64 9, .int .i64 13] 51 (0, 0), .cells #[.int .i64 10] 51 (0, 0), .map #[{ key := .int .i64 3, val := .slice (some ⟨w1.heap.size + 6, 0, none⟩) 1 1, born := 0 }, { key := .int .i64 4, val := .slice (some ⟨w1.heap.size + 7, 0, none⟩) 3 3, born := 1 }] 2, .cells #[.int .i64 8] 51 (0, 0), .cells #[.int .i64 8, .int .i64 7, .int .i64 13] 51 (0, 0)]) A (meansL s).length (meansL s) ∧ (meansL s).length ≤ c := by
  simp only [lookup_ite, List.lookup_nil]
  unfold meansL
  split
  · exact ⟨_, _, rfl, lit_C [7, 8, 9] (Gw_at w1 _ 2) (by decide), by decide⟩
  · split
    · exact ⟨_, _, rfl, lit_C [7, 9, 13] (Gw_at w1 _ 3) (by decide), by decide⟩
    · split
      · exact ⟨_, _, rfl, lit_C [10] (Gw_at w1 _ 4) (by decide), by decide⟩
      · exact ⟨none, 0, rfl, Kd.C_nil _ _, by decide⟩
theorem gw_wrong (w1 : World) (s : Int) : ∃ (A : Option Addr) (c : Nat), (([(3, .slice (some ⟨w1.heap.size + 6, 0, none⟩) 1 1), (4, .slice (some ⟨w1.heap.size + 7, 0, none⟩) 3 3)] : List (Int × Value)).lookup s).getD (.slice none 0 0) = .slice A (wrongL s).length c ∧ Kd.C (Kd.int .i64) (Gw w1 #[.map #[{ key := .int .i64 7, val := .int .i64 5, born := 0 }, { key := .int .i64 8, val := .int .i64 6, born := 1 }, { key := .int .i64 9, val := .int .i64 7, born := 2 }, { key := .int .i64 10, val := .int .i64 8, born := 3 }, { key := .int .i64 13, val := .int .i64 9, born := 4 }] 5, .map #[{ key := .int .i64 2, val := .slice (some ⟨w1.heap.size + 2, 0, none⟩) 3 3, born := 0 }, { key := .int .i64 3, val := .slice (some ⟨w1.heap.size + 3, 0, none⟩) 3 3, born := 1 }, { key := .int .i64 4, val := .slice (some ⟨w1.heap.size + 4, 0, none⟩) 1 1, born := 2 }] 3, .cells #[.int .i64 7, .int .i64 8, .int .i64 9] 51 (0, 0), .cells #[.int .i64 7, .int .i64 9, .int .i64 13] 51 (0, 0), .cells #[.int .i64 10] 51 (0, 0), .map #[{ key := .int .i64 3, val := .slice (some ⟨w1.heap.size + 6, 0, none⟩) 1 1, born := 0 }, { key := .int .i64 4, val := .slice (some ⟨w1.heap.size + 7, 0, none⟩) 3 3, born := 1 }] 2, .cells #[.int .i64 8] 51 (0, 0), .cells #[.int .i64 8, .int .i64 7, .int .i64 13] 51 (0, 0)]) A (wrongL s).length (wrongL s) ∧ (wrongL s).length ≤ c := by
  simp only [lookup_ite, List.lookup_nil]
  unfold wrongL
  split
  · exact ⟨_, _, rfl, lit_C [8] (Gw_at w1 _ 6) (by decide), by decide⟩
  · split
    · exact ⟨_, _, rfl, lit_C [8, 7, 13] (Gw_at w1 _ 7) (by decide), by decide⟩
    · exact ⟨none, 0, rfl, Kd.C_nil _ _, by decide⟩
theorem gw_maps (w1 : World) : IMap (Gw w1 #[.map #[{ key := .int .i64 7, val := .int .i64 5, born := 0 }, { key := .int .i64 8, val := .int .i64 6, born := 1 }, { key := .int .i64 9, val := .int .i64 7, born := 2 }, { key := .int .i64 10, val := .int .i64 8, born := 3 }, { key := .int .i64 13, val := .int .i64 9, born := 4 }] 5, .map #[{ key := .int .i64 2, val := .slice (some ⟨w1.heap.size + 2, 0, none⟩) 3 3, born := 0 }, { key := .int .i64 3, val := .slice (some ⟨w1.heap.size + 3, 0, none⟩) 3 3, born := 1 }, { key := .int .i64 4, val := .slice (some ⟨w1.heap.size + 4, 0, none⟩) 1 1, born := 2 }] 3, .cells #[.int .i64 7, .int .i64 8, .int .i64 9] 51 (0, 0), .cells #[.int .i64 7, .int .i64 9, .int .i64 13] 51 (0, 0), .cells #[.int .i64 10] 51 (0, 0), .map #[{ key := .int .i64 3, val := .slice (some ⟨w1.heap.size + 6, 0, none⟩) 1 1, born := 0 }, { key := .int .i64 4, val := .slice (some ⟨w1.heap.size + 7, 0, none⟩) 3 3, born := 1 }] 2, .cells #[.int .i64 8] 51 (0, 0), .cells #[.int .i64 8, .int .i64 7, .int .i64 13] 51 (0, 0)]) (w1.heap.size + 0) .i64 kindsL ∧ IMap (Gw w1 #[.map #[{ key := .int .i64 7, val := .int .i64 5, born := 0 }, { key := .int .i64 8, val := .int .i64 6, born := 1 }, { key := .int .i64 9, val := .int .i64 7, born := 2 }, { key := .int .i64 10, val := .int .i64 8, born := 3 }, { key := .int .i64 13, val := .int .i64 9, born := 4 }] 5, .map #[{ key := .int .i64 2, val := .slice (some ⟨w1.heap.size + 2, 0, none⟩) 3 3, born := 0 }, { key := .int .i64 3, val := .slice (some ⟨w1.heap.size + 3, 0, none⟩) 3 3, born := 1 }, { key := .int .i64 4, val := .slice (some ⟨w1.heap.size + 4, 0, none⟩) 1 1, born := 2 }] 3, .cells #[.int .i64 7, .int .i64 8, .int .i64 9] 51 (0, 0), .cells #[.int .i64 7, .int .i64 9, .int .i64 13] 51 (0, 0), .cells #[.int .i64 10] 51 (0, 0), .map #[{ key := .int .i64 3, val := .slice (some ⟨w1.heap.size + 6, 0, none⟩) 1 1, born := 0 }, { key := .int .i64 4, val := .slice (some ⟨w1.heap.size + 7, 0, none⟩) 3 3, born := 1 }] 2, .cells #[.int .i64 8] 51 (0, 0), .cells #[.int .i64 8, .int .i64 7, .int .i64 13] 51 (0, 0)]) (w1.heap.size + 1) .i64 [(2, .slice (some ⟨w1.heap.size + 2, 0, none⟩) 3 3), (3, .slice (some ⟨w1.heap.size + 3, 0, none⟩) 3 3), (4, .slice (some ⟨w1.heap.size + 4, 0, none⟩) 1 1)] ∧ IMap (Gw w1 #[.map #[{ key := .int .i64 7, val := .int .i64 5, born := 0 }, { key := .int .i64 8, val := .int .i64 6, born := 1 }, { key := .int .i64 9, val := .int .i64 7, born := 2 }, { key := .int .i64 10, val := .int .i64 8, born := 3 }, { key := .int .i64 13, val := .int .i64 9, born := 4 }] 5, .map #[{ key := .int .i64 2, val := .slice (some ⟨w1.heap.size + 2, 0, none⟩) 3 3, born := 0 }, { key := .int .i64 3, val := .slice (some ⟨w1.heap.size + 3, 0, none⟩) 3 3, born := 1 }, { key := .int .i64 4, val := .slice (some ⟨w1.heap.size + 4, 0, none⟩) 1 1, born := 2 }] 3, .cells #[.int .i64 7, .int .i64 8, .int .i64 9] 51 (0, 0), .cells #[.int .i64 7, .int .i64 9, .int .i64 13] 51 (0, 0), .cells #[.int .i64 10] 51 (0, 0), .map #[{ key := .int .i64 3, val := .slice (some ⟨w1.heap.size + 6, 0, none⟩) 1 1, born := 0 }, { key := .int .i64 4, val := .slice (some ⟨w1.heap.size + 7, 0, none⟩) 3 3, born := 1 }] 2, .cells #[.int .i64 8] 51 (0, 0), .cells #[.int .i64 8, .int .i64 7, .int .i64 13] 51 (0, 0)]) (w1.heap.size + 5) .i64 [(3, .slice (some ⟨w1.heap.size + 6, 0, none⟩) 1 1), (4, .slice (some ⟨w1.heap.size + 7, 0, none⟩) 3 3)] :=
  ⟨⟨_, _, Gw_at w1 _ 0, rfl⟩, ⟨_, _, Gw_at w1 _ 1, rfl⟩, ⟨_, _, Gw_at w1 _ 5, rfl⟩⟩
end Go.Proofs.YtiidpicgdjjikaaGreatDoor.G
