import Derived.Test.YtiidpicgdjjikaaGreatDoorProg
import Derived.Below
import Derived.Deep.Draws
import Derived.Deep.AppendLies
import Derived.Maps.AppendAt
import Derived.OwnWalk
import Derived.Laws.BytesArg
import Derived.Laws.MakeOwn
import Derived.Laws.OwnMore
import Derived.Deep.OwnRows
import Derived.Tactics
import Derived.Lib.ConvBytes
import Derived.Laws.Slices
import Derived.WalkKit
import Derived.KernelRfl
import Derived.RowKit3
import Derived.Deep.LoopGhost
import Derived.Deep.QuietTactic
import Derived.BigQuiet
import Derived.WideLaws
import Derived.Deep.DeepCutAuto
import Derived.Deep.CutBlock
import Derived.Deep.RegionHeld3
import Derived.Laws.Rows
import Derived.Lib.AppendStr
import Derived.ArgAppend
import Derived.Laws.IdiomCopy
import Derived.OrdersHeld
import Derived.Laws.BitsLemmas
import Derived.RowKit
import Derived.Test.YtiidpicgdjjikaaGreatDoorJ1
import Derived.Test.YtiidpicgdjjikaaGreatDoorJ2
namespace Go.Proofs.YtiidpicgdjjikaaGreatDoor.P
open Go.RowKit Go.Proofs.YtiidpicgdjjikaaGreatDoor.G Go.Proofs.YtiidpicgdjjikaaGreatDoorW.PrintWords Go.Proofs.YtiidpicgdjjikaaGreatDoorW.PrintLast Go.Proofs.YtiidpicgdjjikaaGreatDoorW.PrintMore
attribute [local go_sem] isSome_setCell_eq max2_int min2_int max_two min_two max_three min_three max_four min_four
set_option linter.unusedVariables false
set_option linter.unusedSimpArgs false



def errW : Option Int → Value
 | none => .nilIface
 | some c => .iface 0 (.int .i64 c)
theorem info33 : (Tryz.prog.info? 33).map (fun i => (i.zero, i.size, i.bytes)) = some (some (.agg #[(.int .i64 0), (.int .i64 0), (.int .i64 0), (.bool false), (.string ⟨#[]⟩), (.string ⟨#[]⟩), (.slice none 0 0)]), 7, 88) := by kernel_rfl
theorem info53 : (Tryz.prog.info? 53).map (fun i => (i.zero, i.size, i.bytes)) = some (some (.agg #[(.int .i64 0), (.string ⟨#[]⟩), (.int .i64 0), (.int .i64 0)]), 4, 40) := by kernel_rfl
theorem info55 : (Tryz.prog.info? 55).map (fun i => (i.zero, i.size, i.bytes)) = some (some (.agg #[(.int .i64 0), (.string ⟨#[]⟩), (.int .i64 0)]), 3, 32) := by kernel_rfl
theorem info96 : (Tryz.prog.info? 96).map (fun i => (i.zero, i.size, i.bytes)) = some (some (.int .u32 0), 1, 4) := by kernel_rfl
theorem info112 : (Tryz.prog.info? 112).map (fun i => (i.zero, i.size, i.bytes)) = some (some (.agg #[(.slice none 0 0), (.int .i64 0)]), 2, 32) := by kernel_rfl
structure S53 where
 f0 : Int
 f1 : ByteArray
 f2 : Int
 f3 : Int
def z53 : S53 := ⟨(0 : Int), (⟨#[]⟩ : ByteArray), (0 : Int), (0 : Int)⟩
def k53 : Kd S53 := Kd.iso (Kd.pair (Kd.int .i64) (Kd.pair Kd.string (Kd.pair (Kd.int .i64) (Kd.int .i64)))) (fun x : S53 => (x.f0, x.f1, x.f2, x.f3))
theorem k53_open {w : World} {x : S53} {cs : List Value} (h : k53.K w x cs) : cs = [.int .i64 x.f0, .string x.f1, .int .i64 x.f2, .int .i64 x.f3] := by
 obtain ⟨_, _, rfl, rfl, ⟨_, _, rfl, rfl, ⟨_, _, rfl, rfl, rfl⟩⟩⟩ := h
 exact rfl
theorem k53_mkM (w : World) (base : Nat) (ok : Nat → Prop) (x : S53)  : k53.M w base ok x [.int .i64 x.f0, .string x.f1, .int .i64 x.f2, .int .i64 x.f3] := ⟨[.int .i64 x.f0], [.string x.f1, .int .i64 x.f2, .int .i64 x.f3], rfl, rfl, ⟨[.string x.f1], [.int .i64 x.f2, .int .i64 x.f3], rfl, rfl, ⟨[.int .i64 x.f2], [.int .i64 x.f3], rfl, rfl, rfl⟩⟩⟩
def rd_T53 (xs : List S53) (i : Int) : S53 := xs.getD i.toNat z53
theorem at_T53 {w : World} {A : Option Addr} {n : Nat} {xs : List S53} (h : Kd.C k53 w A n xs) (i : Int) (h0 : 0 ≤ i) (h1 : i < n) : ∃ ad , A = some ad ∧ w.cell? (ad.add (i.toNat * 4)) = some (.int .i64 (rd_T53 xs i).f0) ∧ w.cell? ⟨(ad.add (i.toNat * 4)).block, (ad.add (i.toNat * 4)).off + 1, none⟩ = some (.string (rd_T53 xs i).f1) ∧ w.cell? ⟨(ad.add (i.toNat * 4)).block, (ad.add (i.toNat * 4)).off + 2, none⟩ = some (.int .i64 (rd_T53 xs i).f2) ∧ w.cell? ⟨(ad.add (i.toNat * 4)).block, (ad.add (i.toNat * 4)).off + 3, none⟩ = some (.int .i64 (rd_T53 xs i).f3) := by
 obtain ⟨ad, c, e, _, hK, hc0⟩ := Kd.C_get h z53 i h0 h1
 have hc : ∀ j u, c[j]? = some u → w.cell? (ad.add (i.toNat * 4 + j)) = some u := hc0
 obtain rfl := k53_open hK
 exact ⟨ad, e, hc 0 _ rfl, by rw [← add_field _ _ 1 (by omega)]; exact hc 1 _ rfl, by rw [← add_field _ _ 2 (by omega)]; exact hc 2 _ rfl, by rw [← add_field _ _ 3 (by omega)]; exact hc 3 _ rfl⟩

structure S55 where
 f0 : Int
 f1 : ByteArray
 f2 : Int
def z55 : S55 := ⟨(0 : Int), (⟨#[]⟩ : ByteArray), (0 : Int)⟩
def k55 : Kd S55 := Kd.iso (Kd.pair (Kd.int .i64) (Kd.pair Kd.string (Kd.int .i64))) (fun x : S55 => (x.f0, x.f1, x.f2))
theorem k55_open {w : World} {x : S55} {cs : List Value} (h : k55.K w x cs) : cs = [.int .i64 x.f0, .string x.f1, .int .i64 x.f2] := by
 obtain ⟨_, _, rfl, rfl, ⟨_, _, rfl, rfl, rfl⟩⟩ := h
 exact rfl
theorem k55_openM {w : World} {base : Nat} {ok : Nat → Prop} {x : S55} {cs : List Value} (h : k55.M w base ok x cs) : cs = [.int .i64 x.f0, .string x.f1, .int .i64 x.f2] := by
 obtain ⟨_, _, rfl, rfl, ⟨_, _, rfl, rfl, rfl⟩⟩ := h
 exact rfl
theorem k55_mkM (w : World) (base : Nat) (ok : Nat → Prop) (x : S55)  : k55.M w base ok x [.int .i64 x.f0, .string x.f1, .int .i64 x.f2] := ⟨[.int .i64 x.f0], [.string x.f1, .int .i64 x.f2], rfl, rfl, ⟨[.string x.f1], [.int .i64 x.f2], rfl, rfl, rfl⟩⟩
def rd_T55 (xs : List S55) (i : Int) : S55 := xs.getD i.toNat z55
theorem at_T55 {w : World} {A : Option Addr} {n : Nat} {xs : List S55} (h : Kd.C k55 w A n xs) (i : Int) (h0 : 0 ≤ i) (h1 : i < n) : ∃ ad , A = some ad ∧ w.cell? (ad.add (i.toNat * 3)) = some (.int .i64 (rd_T55 xs i).f0) ∧ w.cell? ⟨(ad.add (i.toNat * 3)).block, (ad.add (i.toNat * 3)).off + 1, none⟩ = some (.string (rd_T55 xs i).f1) ∧ w.cell? ⟨(ad.add (i.toNat * 3)).block, (ad.add (i.toNat * 3)).off + 2, none⟩ = some (.int .i64 (rd_T55 xs i).f2) := by
 obtain ⟨ad, c, e, _, hK, hc0⟩ := Kd.C_get h z55 i h0 h1
 have hc : ∀ j u, c[j]? = some u → w.cell? (ad.add (i.toNat * 3 + j)) = some u := hc0
 obtain rfl := k55_open hK
 exact ⟨ad, e, hc 0 _ rfl, by rw [← add_field _ _ 1 (by omega)]; exact hc 1 _ rfl, by rw [← add_field _ _ 2 (by omega)]; exact hc 2 _ rfl⟩

structure S112 where
 f0 : (List S53)
 f1 : Int
def z112 : S112 := ⟨([] : List S53), (0 : Int)⟩
def k112 : Kd S112 := Kd.iso (Kd.pair (Kd.slice 53 k53) (Kd.int .i64)) (fun x : S112 => (x.f0, x.f1))
theorem k112_open {w : World} {x : S112} {cs : List Value} (h : k112.K w x cs) : ∃ A0 c0, cs = [.slice A0 x.f0.length c0, .int .i64 x.f1] ∧ x.f0.length ≤ c0 ∧ k53.C w A0 x.f0.length x.f0 := by
 obtain ⟨_, _, rfl, ⟨A0, c0, rfl, l0, g0⟩, rfl⟩ := h
 exact ⟨A0, c0, rfl, l0, g0⟩
theorem k112_openM {w : World} {base : Nat} {ok : Nat → Prop} {x : S112} {cs : List Value} (h : k112.M w base ok x cs) : ∃ v0, cs = [v0, .int .i64 x.f1] ∧ k53.R 53 w base ok v0 x.f0 := by
 obtain ⟨_, _, rfl, ⟨v0, rfl, g0⟩, rfl⟩ := h
 exact ⟨v0, rfl, g0⟩
theorem k112_mkM (w : World) (base : Nat) (ok : Nat → Prop) (x : S112) {v0 : Value} (g0 : k53.R 53 w base ok v0 x.f0) : k112.M w base ok x [v0, .int .i64 x.f1] := ⟨[v0], [.int .i64 x.f1], rfl, ⟨v0, rfl, g0⟩, rfl⟩
def rd_T112 (xs : List S112) (i : Int) : S112 := xs.getD i.toNat z112
theorem at_T112 {w : World} {A : Option Addr} {n : Nat} {xs : List S112} (h : Kd.C k112 w A n xs) (i : Int) (h0 : 0 ≤ i) (h1 : i < n) : ∃ ad A0 c0, A = some ad ∧ w.cell? (ad.add (i.toNat * 2)) = some (.slice A0 (rd_T112 xs i).f0.length c0) ∧ w.cell? ⟨(ad.add (i.toNat * 2)).block, (ad.add (i.toNat * 2)).off + 1, none⟩ = some (.int .i64 (rd_T112 xs i).f1) ∧ (rd_T112 xs i).f0.length ≤ c0 ∧ k53.C w A0 (rd_T112 xs i).f0.length (rd_T112 xs i).f0 := by
 obtain ⟨ad, c, e, _, hK, hc0⟩ := Kd.C_get h z112 i h0 h1
 have hc : ∀ j u, c[j]? = some u → w.cell? (ad.add (i.toNat * 2 + j)) = some u := hc0
 obtain ⟨A0, c0, rfl, l0, g0⟩ := k112_open hK
 exact ⟨ad, A0, c0, e, hc 0 _ rfl, by rw [← add_field _ _ 1 (by omega)]; exact hc 1 _ rfl, l0, g0⟩

structure S30 where
 f0 : Int
 f1 : Bool
 f2 : ByteArray
 f3 : ByteArray
def z30 : S30 := ⟨(0 : Int), false, (⟨#[]⟩ : ByteArray), (⟨#[]⟩ : ByteArray)⟩
def k30 : Kd S30 := Kd.iso (Kd.pair (Kd.int .i64) (Kd.pair Kd.bool (Kd.pair Kd.string Kd.string))) (fun x : S30 => (x.f0, x.f1, x.f2, x.f3))
theorem k30_open {w : World} {x : S30} {cs : List Value} (h : k30.K w x cs) : cs = [.int .i64 x.f0, .bool x.f1, .string x.f2, .string x.f3] := by
 obtain ⟨_, _, rfl, rfl, ⟨_, _, rfl, rfl, ⟨_, _, rfl, rfl, rfl⟩⟩⟩ := h
 exact rfl
theorem k30_openM {w : World} {base : Nat} {ok : Nat → Prop} {x : S30} {cs : List Value} (h : k30.M w base ok x cs) : cs = [.int .i64 x.f0, .bool x.f1, .string x.f2, .string x.f3] := by
 obtain ⟨_, _, rfl, rfl, ⟨_, _, rfl, rfl, ⟨_, _, rfl, rfl, rfl⟩⟩⟩ := h
 exact rfl
theorem k30_mkM (w : World) (base : Nat) (ok : Nat → Prop) (x : S30)  : k30.M w base ok x [.int .i64 x.f0, .bool x.f1, .string x.f2, .string x.f3] := ⟨[.int .i64 x.f0], [.bool x.f1, .string x.f2, .string x.f3], rfl, rfl, ⟨[.bool x.f1], [.string x.f2, .string x.f3], rfl, rfl, ⟨[.string x.f2], [.string x.f3], rfl, rfl, rfl⟩⟩⟩
structure S33 where
 f0 : Int
 f1 : Int
 f2 : S30
 f3 : (List S55)
def z33 : S33 := ⟨(0 : Int), (0 : Int), z30, ([] : List S55)⟩
def k33 : Kd S33 := Kd.iso (Kd.pair (Kd.int .i64) (Kd.pair (Kd.int .i64) (Kd.pair k30 (Kd.slice 55 k55)))) (fun x : S33 => (x.f0, x.f1, x.f2, x.f3))
theorem k33_open {w : World} {x : S33} {cs : List Value} (h : k33.K w x cs) : ∃ A6 c6, cs = [.int .i64 x.f0, .int .i64 x.f1, .int .i64 x.f2.f0, .bool x.f2.f1, .string x.f2.f2, .string x.f2.f3, .slice A6 x.f3.length c6] ∧ x.f3.length ≤ c6 ∧ k55.C w A6 x.f3.length x.f3 := by
 obtain ⟨_, _, rfl, rfl, ⟨_, _, rfl, rfl, ⟨_, _, rfl, s2, ⟨A6, c6, rfl, l6, g6⟩⟩⟩⟩ := h
 obtain rfl := k30_open s2
 exact ⟨A6, c6, rfl, l6, g6⟩
theorem k33_openM {w : World} {base : Nat} {ok : Nat → Prop} {x : S33} {cs : List Value} (h : k33.M w base ok x cs) : ∃ v6, cs = [.int .i64 x.f0, .int .i64 x.f1, .int .i64 x.f2.f0, .bool x.f2.f1, .string x.f2.f2, .string x.f2.f3, v6] ∧ k55.R 55 w base ok v6 x.f3 := by
 obtain ⟨_, _, rfl, rfl, ⟨_, _, rfl, rfl, ⟨_, _, rfl, s2, ⟨v6, rfl, g6⟩⟩⟩⟩ := h
 obtain rfl := k30_openM s2
 exact ⟨v6, rfl, g6⟩
theorem k33_mkM (w : World) (base : Nat) (ok : Nat → Prop) (x : S33) {v6 : Value} (g6 : k55.R 55 w base ok v6 x.f3) : k33.M w base ok x [.int .i64 x.f0, .int .i64 x.f1, .int .i64 x.f2.f0, .bool x.f2.f1, .string x.f2.f2, .string x.f2.f3, v6] := ⟨[.int .i64 x.f0], [.int .i64 x.f1, .int .i64 x.f2.f0, .bool x.f2.f1, .string x.f2.f2, .string x.f2.f3, v6], rfl, rfl, ⟨[.int .i64 x.f1], [.int .i64 x.f2.f0, .bool x.f2.f1, .string x.f2.f2, .string x.f2.f3, v6], rfl, rfl, ⟨[.int .i64 x.f2.f0, .bool x.f2.f1, .string x.f2.f2, .string x.f2.f3], [v6], rfl, (k30_mkM w base ok x.f2 ), ⟨v6, rfl, g6⟩⟩⟩⟩
def rd_T33 (xs : List S33) (i : Int) : S33 := xs.getD i.toNat z33
theorem at_T33 {w : World} {A : Option Addr} {n : Nat} {xs : List S33} (h : Kd.C k33 w A n xs) (i : Int) (h0 : 0 ≤ i) (h1 : i < n) : ∃ ad A6 c6, A = some ad ∧ w.cell? (ad.add (i.toNat * 7)) = some (.int .i64 (rd_T33 xs i).f0) ∧ w.cell? ⟨(ad.add (i.toNat * 7)).block, (ad.add (i.toNat * 7)).off + 1, none⟩ = some (.int .i64 (rd_T33 xs i).f1) ∧ w.cell? ⟨(ad.add (i.toNat * 7)).block, (ad.add (i.toNat * 7)).off + 2, none⟩ = some (.int .i64 (rd_T33 xs i).f2.f0) ∧ w.cell? ⟨(ad.add (i.toNat * 7)).block, (ad.add (i.toNat * 7)).off + 3, none⟩ = some (.bool (rd_T33 xs i).f2.f1) ∧ w.cell? ⟨(ad.add (i.toNat * 7)).block, (ad.add (i.toNat * 7)).off + 4, none⟩ = some (.string (rd_T33 xs i).f2.f2) ∧ w.cell? ⟨(ad.add (i.toNat * 7)).block, (ad.add (i.toNat * 7)).off + 5, none⟩ = some (.string (rd_T33 xs i).f2.f3) ∧ w.cell? ⟨(ad.add (i.toNat * 7)).block, (ad.add (i.toNat * 7)).off + 6, none⟩ = some (.slice A6 (rd_T33 xs i).f3.length c6) ∧ (rd_T33 xs i).f3.length ≤ c6 ∧ k55.C w A6 (rd_T33 xs i).f3.length (rd_T33 xs i).f3 := by
 obtain ⟨ad, c, e, _, hK, hc0⟩ := Kd.C_get h z33 i h0 h1
 have hc : ∀ j u, c[j]? = some u → w.cell? (ad.add (i.toNat * 7 + j)) = some u := hc0
 obtain ⟨A6, c6, rfl, l6, g6⟩ := k33_open hK
 exact ⟨ad, A6, c6, e, hc 0 _ rfl, by rw [← add_field _ _ 1 (by omega)]; exact hc 1 _ rfl, by rw [← add_field _ _ 2 (by omega)]; exact hc 2 _ rfl, by rw [← add_field _ _ 3 (by omega)]; exact hc 3 _ rfl, by rw [← add_field _ _ 4 (by omega)]; exact hc 4 _ rfl, by rw [← add_field _ _ 5 (by omega)]; exact hc 5 _ rfl, by rw [← add_field _ _ 6 (by omega)]; exact hc 6 _ rfl, l6, g6⟩


theorem eqA30 (d : Nat) (w : World) (x0 y0 : Int) (x1 y1 : Bool) (x2 y2 : ByteArray) (x3 y3 : ByteArray) :
 (Op.equalIn (d + 2) 30 (.agg #[.int .i64 x0, .bool x1, .string x2, .string x3]) (.agg #[.int .i64 y0, .bool y1, .string y2, .string y3])).run Tryz.prog w = .ok (x0 == y0 && (x1 == y1 && (x2.toList == y2.toList && (x3.toList == y3.toList)))) w := by
 refine eqA_of Tryz.underlying30 (by kernel_rfl) ?_
 refine eqf_cons (by rfl) (by go_simp; rfl) (by go_simp; rfl) (by go_simp) ?_
 refine eqf_cons (by rfl) (by go_simp; rfl) (by go_simp; rfl) (by go_simp) ?_
 refine eqf_cons (by rfl) (by go_simp; rfl) (by go_simp; rfl) (by go_simp) ?_
 exact eqf_last (by rfl) (by go_simp; rfl) (by go_simp; rfl) (by go_simp)

theorem eqA55 (d : Nat) (w : World) (x0 y0 : Int) (x1 y1 : ByteArray) (x2 y2 : Int) :
 (Op.equalIn (d + 2) 55 (.agg #[.int .i64 x0, .string x1, .int .i64 x2]) (.agg #[.int .i64 y0, .string y1, .int .i64 y2])).run Tryz.prog w = .ok (x0 == y0 && (x1.toList == y1.toList && (x2 == y2))) w := by
 refine eqA_of Tryz.underlying55 (by kernel_rfl) ?_
 refine eqf_cons (by rfl) (by go_simp; rfl) (by go_simp; rfl) (by go_simp) ?_
 refine eqf_cons (by rfl) (by go_simp; rfl) (by go_simp; rfl) (by go_simp) ?_
 exact eqf_last (by rfl) (by go_simp; rfl) (by go_simp; rfl) (by go_simp)

attribute [local go_sem high] eqA55
def item_Item.l0 : Nat → List (S55) → List (S55) → Int → Int → Option (Bool)
 | 0, _, _, _, _ => none
 | k + 1, x0, x1, x12, x13 => if x13 < x12 then (if 0 ≤ x13 then (if x13 < (x0.length : Int) then (if x13 < (x1.length : Int) then (if (!(((rd_T55 x0 x13).f0) == ((rd_T55 x1 x13).f0)) || (!((((rd_T55 x0 x13).f1).toList) == (((rd_T55 x1 x13).f1).toList)) || (!(((rd_T55 x0 x13).f2) == ((rd_T55 x1 x13).f2))))) = true then (some false) else (item_Item.l0 k x0 x1 x12 (wrap64 (x13 + 1)))) else (none)) else (none)) else (none)) else (some true)
def item_Item.f (k : Nat) (l0 : List (S55)) (l1 : List (S55)) : Option (Bool) := if (l0.length : Int) = (l1.length : Int) then (item_Item.l0 k l0 l1 (l0.length : Int) 0) else (some false)
set_option maxRecDepth 1000000 in
theorem item_Item.k1 {p : Prop} (h : p := by
 first | (obtain rfl := Option.some.inj H) | (have H' := am_ H; clear H)
 first
  | (
   have p553 : 0 ≤ (x13_1 : Int) := da_
   have q553 : x13_1 < (l0.length : Int) := da_
   obtain ⟨ad553, e553, hx553_0, hx553_1, hx553_2⟩ := at_T55 HR0.out x13_1 p553 q553
   cases e553
   replace p553 := eq_true p553
   replace q553 := eq_true q553
   have p554 : 0 ≤ (x13_1 : Int) := da_
   have q554 : x13_1 < (l1.length : Int) := da_
   obtain ⟨ad554, e554, hx554_0, hx554_1, hx554_2⟩ := at_T55 HR1.out x13_1 p554 q554
   cases e554
   replace p554 := eq_true p554
   replace q554 := eq_true q554
   go_wp2
   repeat (go_quiet (fail); try go_wp2)
   first
    | (
     go_ret
     exact ⟨by first | rfl | (simp; done) | (simp [*]; done), by repeat (first | exact Drawn0.refl _ | apply Drawn0.step)⟩)
    | (
     go_roundg k1
     case measure => have := HK1.out; omega
     case rel => exact ⟨(wrap64 (x13_1 + 1)), sr_, H', ⟨by have := HK1.out; omega⟩, by repeat (first | exact Drawn0.refl _ | apply Drawn0.step)⟩))
  | (
   go_wp2
   repeat (go_quiet (fail); try go_wp2)
   go_ret
   exact ⟨by first | rfl | (simp; done) | (simp [*]; done), by repeat (first | exact Drawn0.refl _ | apply Drawn0.step)⟩)
  | (
   go_enter Tryz.func43, Tryz.ntmps43
   go_wp2
   repeat (go_quiet (fail); try go_wp2)
   go_ret
   exact ⟨by first | rfl | (simp; done) | (simp [*]; done), by repeat (first | exact Drawn0.refl _ | apply Drawn0.step)⟩)) : p := h
set_option maxHeartbeats 8000000 in
set_option maxRecDepth 100000 in
theorem item_Item.calls (k : Nat) (A0 : Option Addr) (c0 : Nat) (l0 : List (S55)) (A1 : Option Addr) (c1 : Nat) (l1 : List (S55)) (r : Bool) (w : World) (hr0 : Kd.C k55 w A0 l0.length l0) (hc0 : l0.length ≤ c0) (hr1 : Kd.C k55 w A1 l1.length l1) (hc1 : l1.length ≤ c1) (h : item_Item.f k l0 l1 = some r) :
 Calls Tryz.prog 43 #[.slice A0 l0.length c0, .slice A1 l1.length c1] w fun e w' => e = .returned (.bool r) ∧ Drawn0 w w' := by
 have hu55 := Tryz.underlying55
 have HR0 := am_ hr0
 have HC0 := am_ hc0
 clear hr0 hc0
 have HR1 := am_ hr1
 have HC1 := am_ hc1
 clear hr1 hc1
 have H : (if (l0.length : Int) = (l1.length : Int) then (item_Item.l0 k l0 l1 (l0.length : Int) 0) else (some false)) = some r := h
 clear h
 replace H := ie_ H
 rcases H with ⟨c3, c3b0, c3b1, H⟩ | ⟨c3, c3b0, c3b1, H⟩
 ·
  have c3b2 : (l0.length == l1.length) = true := by first | simpa using c3 | (simp at c3 ⊢; omega)
  clear c3
  have H' := am_ H
  clear H
  go_enter Tryz.func43, Tryz.ntmps43
  go_wp2
  repeat (go_quiet (fail); try go_wp2)
  go_loopg [13] k (fun kq v13 w' => ∃ (x13_1 : Int), v13 = .int .i64 x13_1 ∧ Aside0 (item_Item.l0 kq l0 l1 (l0.length : Int) x13_1 = some r) ∧ Aside0 (kq ≤ k) ∧ Drawn0 w w')
  case atStart => exact ⟨(0), sr_, H', ⟨Nat.le_refl _⟩, by repeat (first | exact Drawn0.refl _ | apply Drawn0.step)⟩
  case round =>
   clear H'
   try clear c1
   try clear p2
   try clear c3
   try clear c3b0
   try clear c3b1
   try clear c3b2
   obtain ⟨x13_1, rfl, HA, HK1, ⟨m1, rfl⟩⟩ := hrel
   cases gk with
   | zero => exact absurd HA.out (by simp [item_Item.l0])
   | succ k1 =>
    have H := HA.out
    clear HA
    simp only [item_Item.l0] at H
    replace H := il_ H
    rcases H with ⟨-, c4b0, H⟩ | ⟨-, c4b0, H⟩
    ·
     replace H := ixl_ H
     obtain ⟨-, c5b0, H⟩ := H
     replace H := ixl_ H
     obtain ⟨-, c6b0, H⟩ := H
     replace H := ixl_ H
     obtain ⟨-, c7b0, H⟩ := H
     by_cases c8 : (!(((rd_T55 l0 x13_1).f0) == ((rd_T55 l1 x13_1).f0)) || (!((((rd_T55 l0 x13_1).f1).toList) == (((rd_T55 l1 x13_1).f1).toList)) || (!(((rd_T55 l0 x13_1).f2) == ((rd_T55 l1 x13_1).f2))))) = true
     ·
      rw [if_pos c8] at H
      have c8b0 : (!(((rd_T55 l0 x13_1).f0) == ((rd_T55 l1 x13_1).f0)) || (!((((rd_T55 l0 x13_1).f1).toList) == (((rd_T55 l1 x13_1).f1).toList)) || (!(((rd_T55 l0 x13_1).f2) == ((rd_T55 l1 x13_1).f2))))) = true := c8
      clear c8
      exact item_Item.k1
     ·
      rw [if_neg c8] at H
      have c8b0 : (!(((rd_T55 l0 x13_1).f0) == ((rd_T55 l1 x13_1).f0)) || (!((((rd_T55 l0 x13_1).f1).toList) == (((rd_T55 l1 x13_1).f1).toList)) || (!(((rd_T55 l0 x13_1).f2) == ((rd_T55 l1 x13_1).f2))))) = false := by simpa using c8
      clear c8
      exact item_Item.k1
    ·
     exact item_Item.k1
 ·
  have c3b2 : (l0.length == l1.length) = false := by first | simpa using c3 | (simp at c3 ⊢; omega)
  exact item_Item.k1


attribute [local go_sem high] eqA30
def item_Section_Equal.f (k : Nat) (a0_0 : Int) (a0_1 : Int) (a0_2 : Int) (a0_3 : Bool) (a0_4 : ByteArray) (a0_5 : ByteArray) (l0_6 : List (S55)) (a1_0 : Int) (a1_1 : Int) (a1_2 : Int) (a1_3 : Bool) (a1_4 : ByteArray) (a1_5 : ByteArray) (l1_6 : List (S55)) : Option (Bool) := if a0_0 = a1_0 then (if a0_1 = a1_1 then (if (a0_2 == a1_2 && (a0_3 == a1_3 && (a0_4.toList == a1_4.toList && (a0_5.toList == a1_5.toList)))) = true then ((item_Item.f k l0_6 l1_6).bind fun t557 => (some t557)) else (some false)) else (some false)) else (some false)
set_option maxRecDepth 1000000 in
theorem item_Section_Equal.k1 {p : Prop} (h : p := by
 first | (obtain rfl := Option.some.inj H) | (have H' := am_ H; clear H)
 go_enter Tryz.func16, Tryz.ntmps16
 try go_wp2_with (first | ((with_reducible refine gate_dst (N := 2) rfl ?_); refine bx_ (N := 2) (cs := #[.int .i64 a0_0, .int .i64 a0_1, .int .i64 a0_2, .bool a0_3, .string a0_4, .string a0_5, .slice A0_6 l0_6.length c0_6]) (t := 33) ?_; intro gb555 hg w1 hbox hb; have BK555 := am_ hbox; have GW555 := am_ (bg_ hg : w.heap.size ≤ gb555); replace HB := sb_ hb; clear hb hbox hg) | ((with_reducible refine gate_dst (N := 3) rfl ?_); refine bx_ (N := 3) (cs := #[.int .i64 a1_0, .int .i64 a1_1, .int .i64 a1_2, .bool a1_3, .string a1_4, .string a1_5, .slice A1_6 l1_6.length c1_6]) (t := 33) ?_; intro gb556 hg w2 hbox hb; have BK556 := am_ hbox; have GW556 := am_ (bg_ hg : w.heap.size ≤ gb556); obtain ⟨NB555_556, NB556_555⟩ := nb_ hg BK555; replace BK555 := bb_ BK555 hb; replace HB := sb_ hb; clear hb hbox hg; have hnb3 := NB555_556.out; have hnc3 := NB556_555.out; obtain ⟨hcz4_0, hcz4_1, hcz4_2, hcz4_3, hcz4_4, hcz4_5, hcz4_6, hfz4_0, hfz4_1, hfz4_2, hfz4_3, hfz4_4, hfz4_5, hfz4_6⟩ := cz7_ BK555.out; obtain ⟨hcz5_0, hcz5_1, hcz5_2, hcz5_3, hcz5_4, hcz5_5, hcz5_6, hfz5_0, hfz5_1, hfz5_2, hfz5_3, hfz5_4, hfz5_5, hfz5_6⟩ := cz7_ BK556.out) | (go_at_call 43; (with_reducible refine (item_Item.calls _ _ _ _ _ _ _ _ _ ?side1 ?side2 ?side3 ?side4 A6.out).mono ?_); (case side1 => exact kc_ (Kd.C_below HR0_6.out HB.out)); (case side2 => exact HC0_6.out); (case side3 => exact kc_ (Kd.C_below HR1_6.out HB.out)); (case side4 => exact HC1_6.out); rintro e w' ⟨rfl, ⟨nd, rfl⟩⟩))
 go_ret
 exact ⟨er_, bl_⟩) : p := h
set_option maxHeartbeats 8000000 in
set_option maxRecDepth 100000 in
theorem item_Section_Equal.calls (k : Nat) (a0_0 : Int) (a0_1 : Int) (a0_2 : Int) (a0_3 : Bool) (a0_4 : ByteArray) (a0_5 : ByteArray) (A0_6 : Option Addr) (c0_6 : Nat) (l0_6 : List (S55)) (a1_0 : Int) (a1_1 : Int) (a1_2 : Int) (a1_3 : Bool) (a1_4 : ByteArray) (a1_5 : ByteArray) (A1_6 : Option Addr) (c1_6 : Nat) (l1_6 : List (S55)) (r : Bool) (w : World) (hr0_6 : Kd.C k55 w A0_6 l0_6.length l0_6) (hc0_6 : l0_6.length ≤ c0_6) (hr1_6 : Kd.C k55 w A1_6 l1_6.length l1_6) (hc1_6 : l1_6.length ≤ c1_6) (h : item_Section_Equal.f k a0_0 a0_1 a0_2 a0_3 a0_4 a0_5 l0_6 a1_0 a1_1 a1_2 a1_3 a1_4 a1_5 l1_6 = some r) :
 Calls Tryz.prog 16 #[.agg #[.int .i64 a0_0, .int .i64 a0_1, .int .i64 a0_2, .bool a0_3, .string a0_4, .string a0_5, .slice A0_6 l0_6.length c0_6], .agg #[.int .i64 a1_0, .int .i64 a1_1, .int .i64 a1_2, .bool a1_3, .string a1_4, .string a1_5, .slice A1_6 l1_6.length c1_6]] w fun e w' => e = .returned (.bool r) ∧ Below w.heap.size w w' := by
 have hu33 := Tryz.underlying33
 have hu30 := Tryz.underlying30
 have HR0_6 := am_ hr0_6
 have HC0_6 := am_ hc0_6
 clear hr0_6 hc0_6
 have HR1_6 := am_ hr1_6
 have HC1_6 := am_ hc1_6
 clear hr1_6 hc1_6
 have HB := am_ (Below.refl w.heap.size w)
 have H : (if a0_0 = a1_0 then (if a0_1 = a1_1 then (if (a0_2 == a1_2 && (a0_3 == a1_3 && (a0_4.toList == a1_4.toList && (a0_5.toList == a1_5.toList)))) = true then ((item_Item.f k l0_6 l1_6).bind fun t557 => (some t557)) else (some false)) else (some false)) else (some false)) = some r := h
 clear h
 replace H := ie_ H
 rcases H with ⟨-, c3b0, c3b1, H⟩ | ⟨c3, c3b0, c3b1, H⟩
 ·
  replace H := ie_ H
  rcases H with ⟨-, c4b0, c4b1, H⟩ | ⟨c4, c4b0, c4b1, H⟩
  ·
   by_cases c5 : (a0_2 == a1_2 && (a0_3 == a1_3 && (a0_4.toList == a1_4.toList && (a0_5.toList == a1_5.toList)))) = true
   ·
    rw [if_pos c5] at H
    have c5b0 : (a0_2 == a1_2 && (a0_3 == a1_3 && (a0_4.toList == a1_4.toList && (a0_5.toList == a1_5.toList)))) = true := c5
    (try (have c5b1 : decide (a0_2 = a1_2 && (a0_3 == a1_3 && (a0_4.toList == a1_4.toList && (a0_5.toList == a1_5.toList)))) = true := by simpa using c5))
    (try (have c5b2 : (a0_2 == a1_2 && (a0_3 == a1_3 && (a0_4.toList == a1_4.toList && (a0_5.toList == a1_5.toList)))) = true := by simpa using c5))
    clear c5
    replace H := bd_ H
    obtain ⟨t557, A6, H⟩ := H
    exact item_Section_Equal.k1
   ·
    rw [if_neg c5] at H
    have c5b0 : (a0_2 == a1_2 && (a0_3 == a1_3 && (a0_4.toList == a1_4.toList && (a0_5.toList == a1_5.toList)))) = false := by simpa using c5
    (try (have c5b1 : decide (a0_2 = a1_2 && (a0_3 == a1_3 && (a0_4.toList == a1_4.toList && (a0_5.toList == a1_5.toList)))) = false := by simpa using c5))
    (try (have c5b2 : (a0_2 == a1_2 && (a0_3 == a1_3 && (a0_4.toList == a1_4.toList && (a0_5.toList == a1_5.toList)))) = false := by simpa using c5))
    (try (have c5b3 : ¬ (a0_2 = a1_2 && (a0_3 == a1_3 && (a0_4.toList == a1_4.toList && (a0_5.toList == a1_5.toList)))) := by simpa using c5))
    clear c5
    exact item_Section_Equal.k1
  ·
   exact item_Section_Equal.k1
 ·
  exact item_Section_Equal.k1


def runes_long.f (a0 : Int) : Option (Int × Int) := if a0 < 128 then (some (1, wrap64 (a0))) else (if (a0 / 32) = 6 then (some (2, wrap64 (Go.bits .and .u8 a0 31))) else (if (a0 / 16) = 14 then (some (3, wrap64 (Go.bits .and .u8 a0 15))) else (if (a0 / 8) = 30 then (some (4, wrap64 (Go.bits .and .u8 a0 7))) else (some (0, 0)))))
set_option maxRecDepth 1000000 in
theorem runes_long.k1 {p : Prop} (h : p := by
 first | (simp only [Option.some.injEq, Prod.mk.injEq] at H; obtain ⟨rfl, rfl⟩ := H) | (have H' := am_ H; clear H)
 go_enter Tryz.func116, Tryz.ntmps116
 go_wp2
 go_ret2
 exact ⟨by first | rfl | (simp; done) | (simp [*]; done), by repeat (first | exact Drawn0.refl _ | apply Drawn0.step)⟩) : p := h
set_option maxHeartbeats 8000000 in
set_option maxRecDepth 100000 in
theorem runes_long.calls (a0 : Int) (r1 : Int) (r2 : Int) (w : World) (h : runes_long.f a0 = some (r1, r2)) :
 Calls Tryz.prog 116 #[.int .u8 a0] w fun e w' => e = .returned (.tuple #[.int .i64 r1, .int .i64 r2]) ∧ Drawn0 w w' := by
 have H : (if a0 < 128 then (some (1, wrap64 (a0))) else (if (a0 / 32) = 6 then (some (2, wrap64 (Go.bits .and .u8 a0 31))) else (if (a0 / 16) = 14 then (some (3, wrap64 (Go.bits .and .u8 a0 15))) else (if (a0 / 8) = 30 then (some (4, wrap64 (Go.bits .and .u8 a0 7))) else (some (0, 0)))))) = some (r1, r2) := h
 clear h
 replace H := il_ H
 rcases H with ⟨-, c2b0, H⟩ | ⟨-, c2b0, H⟩
 ·
  exact runes_long.k1
 ·
  replace H := ie_ H
  rcases H with ⟨-, c3b0, c3b1, H⟩ | ⟨c3, c3b0, c3b1, H⟩
  ·
   exact runes_long.k1
  ·
   replace H := ie_ H
   rcases H with ⟨-, c4b0, c4b1, H⟩ | ⟨c4, c4b0, c4b1, H⟩
   ·
    exact runes_long.k1
   ·
    replace H := ie_ H
    rcases H with ⟨-, c5b0, c5b1, H⟩ | ⟨c5, c5b0, c5b1, H⟩
    ·
     exact runes_long.k1
    ·
     exact runes_long.k1


def runes_is.f (a0 : Int) : Option (Bool) := if a0 ≥ 0 then (if a0 ≤ 1114111 then (if a0 < 55296 then (some true) else (some (decide (a0 > 57343)))) else (some false)) else (some false)
set_option maxRecDepth 1000000 in
theorem runes_is.k1 {p : Prop} (h : p := by
 first | (obtain rfl := Option.some.inj H) | (have H' := am_ H; clear H)
 go_enter Tryz.func117, Tryz.ntmps117
 go_wp2
 go_ret
 exact ⟨by first | rfl | (simp; done) | (simp [*]; done), by repeat (first | exact Drawn0.refl _ | apply Drawn0.step)⟩) : p := h
set_option maxHeartbeats 8000000 in
set_option maxRecDepth 100000 in
theorem runes_is.calls (a0 : Int) (r : Bool) (w : World) (h : runes_is.f a0 = some r) :
 Calls Tryz.prog 117 #[.int .i64 a0] w fun e w' => e = .returned (.bool r) ∧ Drawn0 w w' := by
 have H : (if a0 ≥ 0 then (if a0 ≤ 1114111 then (if a0 < 55296 then (some true) else (some (decide (a0 > 57343)))) else (some false)) else (some false)) = some r := h
 clear h
 replace H := il_ H
 rcases H with ⟨-, c2b0, H⟩ | ⟨-, c2b0, H⟩
 ·
  replace H := il_ H
  rcases H with ⟨-, c3b0, H⟩ | ⟨-, c3b0, H⟩
  ·
   replace H := il_ H
   rcases H with ⟨-, c4b0, H⟩ | ⟨-, c4b0, H⟩
   ·
    exact runes_is.k1
   ·
    exact runes_is.k1
  ·
   exact runes_is.k1
 ·
  exact runes_is.k1


def runes_width.l0 : Nat → Int → Int → List Int → Int → Int → Option (Int)
 | 0, _, _, _, _, _ => none
 | k + 1, x0, x3, x6, x7, x8 => if x8 < x7 then (if 0 ≤ x8 then (if x8 < (x6.length : Int) then (if x0 ≥ (rd x6 x8) then (runes_width.l0 k x0 (wrap64 (x3 + 1)) x6 x7 (wrap64 (x8 + 1))) else (runes_width.l0 k x0 x3 x6 x7 (wrap64 (x8 + 1)))) else (none)) else (none)) else (some x3)
def runes_width.f (k : Nat) (a0 : Int) : Option (Int) := (some (([128, 2048, 65536] : List Int) : List Int)).bind fun y615 => (runes_width.l0 k a0 1 y615 (y615.length : Int) 0)
theorem runes_width.mono_l : ∀ k, (∀ y0 y1 y2 y3 y4, LeO (runes_width.l0 k y0 y1 y2 y3 y4) (runes_width.l0 (k + 1) y0 y1 y2 y3 y4))
 | 0 => fun _ _ _ _ _ r h => by simp [runes_width.l0] at h
 | k + 1 => by
  have ih0 := runes_width.mono_l k
  ·
   intro y0 y1 y2 y3 y4
   unfold runes_width.l0
   repeat' first
   | (with_reducible exact ih0 _ _ _ _ _)
   | (with_reducible exact LeO.refl _)
   | (with_reducible exact LeO.none _)
   | (with_reducible refine LeO.ite ?_ ?_)
   | (with_reducible refine LeO.bind ?_ (fun _ => ?_))
   | exact ih0 _ _ _ _ _
   | exact LeO.none _
   | refine LeO.ite ?_ ?_
   | refine LeO.bind ?_ (fun _ => ?_)
theorem runes_width.mono : ∀ a0 k, LeO (runes_width.f k a0) (runes_width.f (k + 1) a0) := by
 intro a0 k
 have ih0 := runes_width.mono_l k
 unfold runes_width.f
 repeat' first | with_reducible first | exact ih0 _ _ _ _ _ | exact LeO.refl _ | exact LeO.none _ | refine LeO.ite ?_ ?_ | refine LeO.bind ?_ (fun _ => ?_)
set_option maxRecDepth 1000000 in
theorem runes_width.k1 {p : Prop} (h : p := by
 first | (obtain rfl := Option.some.inj H) | (have H' := am_ H; clear H)
 first
  | (
   have p618 : 0 ≤ (x8_1 : Int) := da_
   have q618 : x8_1 < (y615.length : Int) := da_
   obtain ⟨ad618, e618, hx618_0⟩ := Kd.at_int (Kd.R_reads' HO_6.out).2.2 x8_1 p618 q618
   cases e618
   replace p618 := eq_true p618
   replace q618 := eq_true q618
   go_wp2
   go_roundg k1
   case measure => have := HK1.out; omega
   first
    | (
     case rel => exact ⟨(wrap64 (x3_1 + 1)), (wrap64 (x8_1 + 1)), sr_, sr_, H', ⟨by have := HK1.out; omega⟩, ⟨kr_ HO_6.out⟩, ⟨bl_⟩⟩)
    | (
     case rel => exact ⟨(x3_1), (wrap64 (x8_1 + 1)), sr_, sr_, H', ⟨by have := HK1.out; omega⟩, ⟨kr_ HO_6.out⟩, ⟨bl_⟩⟩))
  | (
   go_wp2
   go_ret
   exact ⟨er_, bl_⟩)) : p := h
set_option maxHeartbeats 8000000 in
set_option maxRecDepth 100000 in
theorem runes_width.calls (k : Nat) (a0 : Int) (r : Int) (w : World) (h : runes_width.f k a0 = some r) :
 Calls Tryz.prog 118 #[.int .i64 a0] w fun e w' => e = .returned (.int .i64 r) ∧ Below w.heap.size w w' := by
 have HB := am_ (Below.refl w.heap.size w)
 have H : ((some (([128, 2048, 65536] : List Int) : List Int)).bind fun y615 => (runes_width.l0 k a0 1 y615 (y615.length : Int) 0)) = some r := h
 clear h
 obtain ⟨y615, hy615⟩ : ∃ y_ : List Int, y_ = (([128, 2048, 65536] : List Int)) := ⟨_, rfl⟩
 replace H : (runes_width.l0 k a0 1 y615 (y615.length : Int) 0) = some r := by first | (rw [hy615]; with_reducible exact H) | (have H2_ := (Option.bind_some _ _).symm.trans H; rw [hy615]; with_reducible exact H2_) | (have H2_ := (Option.bind_some _ _).symm.trans H; with_reducible exact H2_) | with_reducible exact H | (rw [hy615]; exact H) | exact H
 have Ny615 := am_ hy615
 clear hy615
 have H' := am_ H
 clear H
 go_enter Tryz.func118, Tryz.ntmps118
 go_wp2_with (first | ((with_reducible refine gate_dst (N := 6) rfl ?_); refine Kd.R_lit (Kd.int .i64) _ 3 ?hg (N := 6) ?hd (xs := ([128, 2048, 65536] : List Int)) (inner := [.int .i64 128, .int .i64 2048, .int .i64 65536]) (ok := fun _ => True) (okp := fun _ => True) ?hr ?hp (fun _ hk => hk) trivial (Below.refl _ _) (Nat.le_refl _) (by simp) ?_; (case hd => rfl); (case hg => rfl); (case hr => first | (go_simp; done) | (go_simp; rfl)); (case hp => exact (Reps.one (show Kd.M (Kd.int .i64) _ _ _ 128 [.int .i64 128] from rfl) (Reps.one (show Kd.M (Kd.int .i64) _ _ _ 2048 [.int .i64 2048] from rfl) (Reps.one (show Kd.M (Kd.int .i64) _ _ _ 65536 [.int .i64 65536] from rfl) (Reps.none _ _))))); intro v616 w2 ho3 hb hg_ hnew_; clear hg_ hnew_; (first | rw [← Ny615.out] at ho3 | (simp only [Int.reduceToNat] at ho3; rw [← Ny615.out] at ho3)); have HO617 := am_ (Kd.R_lower ho3 (below_size bl_)); replace HB := sb_ hb; clear hb ho3; obtain ⟨Ao4, co4, eo4⟩ := Kd.R_slice HO617.out; subst eo4))
 go_loopg [3, 8] k (fun kq v3 v8 w' => ∃ (x3_1 : Int) (x8_1 : Int), v3 = .int .i64 x3_1 ∧ v8 = .int .i64 x8_1 ∧ Aside0 (runes_width.l0 kq a0 x3_1 y615 (y615.length : Int) x8_1 = some r) ∧ Aside0 (kq ≤ k) ∧ Aside0 (Kd.R (Kd.int .i64) 3 w' w.heap.size (fun _ => True) (.slice Ao4 y615.length co4) y615) ∧ Aside0 (Below w.heap.size w w'))
 case atStart => exact ⟨(1), (0), sr_, sr_, H', ⟨Nat.le_refl _⟩, ⟨kr_ HO617.out⟩, ⟨bl_⟩⟩
 case round =>
  clear H'
  try clear c1
  try clear p2
  obtain ⟨x3_1, x8_1, rfl, rfl, HA, HK1, HO_6, HB⟩ := hrel
  cases gk with
  | zero => exact absurd HA.out (by simp [runes_width.l0])
  | succ k1 =>
   have H := HA.out
   clear HA
   simp only [runes_width.l0] at H
   replace H := il_ H
   rcases H with ⟨-, c5b0, H⟩ | ⟨-, c5b0, H⟩
   ·
    replace H := ixl_ H
    obtain ⟨-, c6b0, H⟩ := H
    replace H := ixl_ H
    obtain ⟨-, c7b0, H⟩ := H
    replace H := il_ H
    rcases H with ⟨-, c8b0, H⟩ | ⟨-, c8b0, H⟩
    ·
     exact runes_width.k1
    ·
     exact runes_width.k1
   ·
    exact runes_width.k1


mutual
def runes_First.j0 : Nat → ByteArray → Int → Int → Bool → Option (Int × Int × Bool)
 | 0, _, _, _, _ => none
 | k + 1, x0, x5, x6, x24 => if x24 = true then (some (0, 0, false)) else (if 1 ≤ x5 then (if x5 ≤ (x0.size : Int) then (if (x0.extract 1 (x5 : Int).toNat).size ≤ 9223372036854775807 then ((some (bytesOf (x0.extract 1 (x5 : Int).toNat) : List Int)).bind fun y621 => (runes_First.l0 k x5 x6 y621 (y621.length : Int) 0)) else (none)) else (none)) else (none))
def runes_First.l0 : Nat → Int → Int → List Int → Int → Int → Option (Int × Int × Bool)
 | 0, _, _, _, _, _ => none
 | k + 1, x5, x6, x28, x29, x30 => if x30 < x29 then (if 0 ≤ x30 then (if x30 < (x28.length : Int) then (if ((rd x28 x30) / 64) = 2 then (runes_First.l0 k x5 (Go.bits .or .i64 (wrap64 (x6 * 64)) (wrap64 (Go.bits .and .u8 (rd x28 x30) 63))) x28 x29 (wrap64 (x30 + 1))) else (some (0, 0, false))) else (none)) else (none)) else ((runes_is.f x6).bind fun t625 => (if t625 = true then ((runes_width.f k x6).bind fun t626 => (if t626 = x5 then (some (x6, x5, true)) else (some (0, 0, false)))) else (some (0, 0, false))))
end
def runes_First.f (k : Nat) (a0 : ByteArray) : Option (Int × Int × Bool) := if a0.toList = ([] : List UInt8) then (some (0, 0, false)) else (if 0 < (a0.size : Int) then ((runes_long.f (bt a0 0)).bind fun bt619 => (if bt619.1 = 0 then (runes_First.j0 k a0 bt619.1 bt619.2 true) else (runes_First.j0 k a0 bt619.1 bt619.2 (decide (bt619.1 > (a0.size : Int)))))) else (none))
theorem runes_First.mono_l : ∀ k, (∀ y0 y1 y2 y3, LeO (runes_First.j0 k y0 y1 y2 y3) (runes_First.j0 (k + 1) y0 y1 y2 y3)) ∧ (∀ y0 y1 y2 y3 y4, LeO (runes_First.l0 k y0 y1 y2 y3 y4) (runes_First.l0 (k + 1) y0 y1 y2 y3 y4))
 | 0 => ⟨fun _ _ _ _ r h => by simp [runes_First.j0] at h, fun _ _ _ _ _ r h => by simp [runes_First.l0] at h⟩
 | k + 1 => by
  obtain ⟨ih0, ih1⟩ := runes_First.mono_l k
  refine ⟨?_, ?_⟩
  ·
   intro y0 y1 y2 y3
   unfold runes_First.j0
   repeat' first
   | (with_reducible exact ih0 _ _ _ _)
   | (with_reducible exact ih1 _ _ _ _ _)
   | (with_reducible exact runes_width.mono _ _)
   | (with_reducible exact LeO.refl _)
   | (with_reducible exact LeO.none _)
   | (with_reducible refine LeO.ite ?_ ?_)
   | (with_reducible refine LeO.bind ?_ (fun _ => ?_))
   | exact ih0 _ _ _ _
   | exact ih1 _ _ _ _ _
   | exact runes_width.mono _ _
   | exact LeO.none _
   | refine LeO.ite ?_ ?_
   | refine LeO.bind ?_ (fun _ => ?_)
  ·
   intro y0 y1 y2 y3 y4
   unfold runes_First.l0
   repeat' first
   | (with_reducible exact ih0 _ _ _ _)
   | (with_reducible exact ih1 _ _ _ _ _)
   | (with_reducible exact runes_width.mono _ _)
   | (with_reducible exact LeO.refl _)
   | (with_reducible exact LeO.none _)
   | (with_reducible refine LeO.ite ?_ ?_)
   | (with_reducible refine LeO.bind ?_ (fun _ => ?_))
   | exact ih0 _ _ _ _
   | exact ih1 _ _ _ _ _
   | exact runes_width.mono _ _
   | exact LeO.none _
   | refine LeO.ite ?_ ?_
   | refine LeO.bind ?_ (fun _ => ?_)
theorem runes_First.mono : ∀ a0 k, LeO (runes_First.f k a0) (runes_First.f (k + 1) a0) := by
 intro a0 k
 obtain ⟨ih0, ih1⟩ := runes_First.mono_l k
 unfold runes_First.f
 repeat' first | with_reducible first | exact ih0 _ _ _ _ | exact ih1 _ _ _ _ _ | exact runes_width.mono _ _ | exact LeO.refl _ | exact LeO.none _ | refine LeO.ite ?_ ?_ | refine LeO.bind ?_ (fun _ => ?_)
set_option maxRecDepth 1000000 in
theorem runes_First.k1 {p : Prop} (h : p := by
 first | (simp only [Option.some.injEq, Prod.mk.injEq] at H; obtain ⟨rfl, rfl, rfl⟩ := H) | (have H' := am_ H; clear H)
 first
  | (
   go_enter Tryz.func90, Tryz.ntmps90
   go_wp2
   go_ret3
   exact ⟨er_, bl_⟩)
  | (
   go_wp2
   first
    | (
     go_meet
     first
      | (
       case rel => exact ⟨_, (true), sr_, H', ⟨by first | omega | exact Nat.le_refl _⟩, ⟨bl_⟩⟩)
      | (
       case rel => exact ⟨_, (decide (t619 > (a0.size : Int))), sr_, H', ⟨by first | omega | exact Nat.le_refl _⟩, ⟨bl_⟩⟩))
    | (
     go_ret3
     exact ⟨er_, bl_⟩))
  | (
   have p624 : 0 ≤ (x30_2 : Int) := da_
   have q624 : x30_2 < (y621.length : Int) := da_
   obtain ⟨ad624, e624, hx624_0⟩ := Kd.at_int (Kd.V_reads' HO_28.out).2.2 x30_2 p624 q624
   cases e624
   replace p624 := eq_true p624
   replace q624 := eq_true q624
   go_wp2
   first
    | (
     go_roundg k2
     case measure => have := HJ5.out; have := HK2.out; omega
     case rel => exact ⟨(Go.bits .or .i64 (wrap64 (x6_2 * 64)) (wrap64 (Go.bits .and .u8 (rd y621 x30_2) 63))), (wrap64 (x30_2 + 1)), sr_, sr_, H', ⟨by have := HJ5.out; have := HK2.out; omega⟩, ⟨by (with_reducible repeat (first | apply Kd.V_alloc | apply Kd.V_drewN | apply Kd.V_drew)); exact HO_28.out⟩, ⟨bl_⟩⟩)
    | (
     go_ret3
     exact ⟨er_, bl_⟩))
  | (
   try go_wp2_with (first | ((with_reducible refine gate_callee (f := 117) rfl ?_); refine gc_ (some 45) rfl rfl Tryz.func117 rfl #[.int .i64 x6_2] rfl ?_; (with_reducible refine (runes_is.calls _ _ _ A19.out).mono ?_); rintro e w' ⟨rfl, ⟨nd, rfl⟩⟩; refine ⟨_, rfl, ?_⟩) | (go_at_call 118; (with_reducible refine (runes_width.calls _ _ _ _ A21.out).mono ?_); rintro e w1 ⟨rfl, hb⟩; replace HO_28 := am_ (Kd.V_below (by (with_reducible repeat (first | apply Kd.V_alloc | apply Kd.V_drewN | apply Kd.V_drew)); exact HO_28.out) hb); replace HB := sb_ hb; (try clear hb); (try clear hb2); (try clear hk); (try clear hi)))
   go_ret3
   exact ⟨er_, bl_⟩)) : p := h
set_option maxHeartbeats 8000000 in
set_option maxRecDepth 100000 in
theorem runes_First.calls (k : Nat) (a0 : ByteArray) (r1 : Int) (r2 : Int) (r3 : Bool) (w : World) (h : runes_First.f k a0 = some (r1, r2, r3)) :
 Calls Tryz.prog 90 #[.string a0] w fun e w' => e = .returned (.tuple #[.int .i64 r1, .int .i64 r2, .bool r3]) ∧ Below w.heap.size w w' := by
 have HB := am_ (Below.refl w.heap.size w)
 have H : (if a0.toList = ([] : List UInt8) then (some (0, 0, false)) else (if 0 < (a0.size : Int) then ((runes_long.f (bt a0 0)).bind fun bt619 => (if bt619.1 = 0 then (runes_First.j0 k a0 bt619.1 bt619.2 true) else (runes_First.j0 k a0 bt619.1 bt619.2 (decide (bt619.1 > (a0.size : Int)))))) else (none))) = some (r1, r2, r3) := h
 clear h
 replace H := ie_ H
 rcases H with ⟨-, c2b0, c2b1, H⟩ | ⟨c2, c2b0, c2b1, H⟩
 ·
  exact runes_First.k1
 ·
  replace H := ixl_ H
  obtain ⟨c3, c3b0, H⟩ := H
  have c3b1 : decide (0 < a0.size) = true := decide_eq_true (by omega)
  clear c3
  replace H := bd_ H
  obtain ⟨⟨t619, t620⟩, A5, H⟩ := H
  try dsimp only at H
  have HC6 := am_ H
  clear H
  have p4 : 0 ≤ (0 : Int) := (by omega)
  have q4 : 0 < a0.size := (by have : (0 : Int) < (a0.size : Int) := da_; omega)
  have hx4 : ∀ h : 0 < a0.size, ((a0[0]'h).toNat : Int) = bt a0 0 := bt_at a0 0
  clear p4
  have qi4 : (0 < (a0.size : Int)) = True := eq_true (da_)
  replace q4 := eq_true q4
  go_enter Tryz.func90, Tryz.ntmps90
  go_upto_region 4 with (first | ((with_reducible refine gate_callee (f := 116) rfl ?_); refine gc_ (some 14) rfl rfl Tryz.func116 rfl #[.int .u8 (bt a0 0)] rfl ?_; (with_reducible refine (runes_long.calls _ _ _ _ A5.out).mono ?_); rintro e w' ⟨rfl, ⟨nd, rfl⟩⟩; refine ⟨_, rfl, ?_⟩))
  (try simp only [Act.put, List.setIfInBounds_toArray, List.set_cons_zero, List.set_cons_succ])
  go_cut [24] (fun v24 wc => ∃ (kq : Nat) (x24_5 : Bool), v24 = .bool x24_5 ∧ Aside0 (runes_First.j0 kq a0 t619 t620 x24_5 = some (r1, r2, r3)) ∧ Aside0 (kq ≤ k) ∧ Aside0 (Below w.heap.size w wc))
  case first =>
   have H := HC6.out
   clear HC6
   replace H := ie_ H
   rcases H with ⟨-, c7b0, c7b1, H⟩ | ⟨c7, c7b0, c7b1, H⟩
   ·
    (first | rw [c7b0] | (simp only [i64_w, i32_w]; rw [c7b0]) | skip)
    exact runes_First.k1
   ·
    (first | rw [c7b0] | (simp only [i64_w, i32_w]; rw [c7b0]) | skip)
    exact runes_First.k1
  case rest =>
   clear HC6
   try clear c1
   try clear c2
   try clear c2b0
   try clear c2b1
   try clear p2
   try clear c3
   try clear c3b0
   try clear c3b1
   try clear p4
   try clear q4
   try clear hx4
   try clear qi4
   try clear c7
   try clear c7b0
   try clear c7b1
   try clear p4
   try clear q4
   obtain ⟨kq, x24_5, rfl, HA, HJ5, HB⟩ := hcut
   cases kq with
   | zero => exact absurd HA.out (by simp [runes_First.j0])
   | succ kj5 =>
    have H := HA.out
    clear HA
    simp only [runes_First.j0] at H
    replace H := ib_ H
    rcases H with ⟨rfl, H⟩ | ⟨rfl, H⟩
    ·
     exact runes_First.k1
    ·
     replace H := ixl_ H
     obtain ⟨c9, -, H⟩ := H
     have c9b0 := eq_true c9
     have c9b1 : decide (1 ≤ t619) = true := decide_eq_true c9
     clear c9
     replace H := ixl_ H
     obtain ⟨c10, -, H⟩ := H
     have c10b0 := eq_true c10
     have c10b1 : decide (t619 ≤ (a0.size : Int)) = true := decide_eq_true c10
     clear c10
     replace H := ixl_ H
     obtain ⟨c11, -, H⟩ := H
     have c11b0 := eq_true c11
     have c11b1 : decide ((a0.extract 1 (t619 : Int).toNat).size ≤ 9223372036854775807) = true := decide_eq_true c11
     try have c11b2 : (9223372036854775807 < (a0.extract 1 (t619 : Int).toNat).size) = False := eq_false (Nat.not_lt.2 c11)
     clear c11
     obtain ⟨y621, hy621⟩ : ∃ y_ : List Int, y_ = (bytesOf (a0.extract 1 (t619 : Int).toNat)) := ⟨_, rfl⟩
     replace H : (runes_First.l0 kj5 t619 t620 y621 (y621.length : Int) 0) = some (r1, r2, r3) := by first | (rw [hy621]; with_reducible exact H) | (have H2_ := (Option.bind_some _ _).symm.trans H; rw [hy621]; with_reducible exact H2_) | (have H2_ := (Option.bind_some _ _).symm.trans H; with_reducible exact H2_) | with_reducible exact H | (rw [hy621]; exact H) | exact H
     have Ny621 := am_ hy621
     clear hy621
     have H' := am_ H
     clear H
     go_wp2_with (first | ((with_reducible refine gate_dst (N := 28) rfl ?_); (try (refine gate_guard (by rfl) ?_; dsimp only)); refine conv_V _ 5 rfl (N := 28) rfl 9 50 _ rfl (a0.extract 1 (t619 : Int).toNat) rfl Tryz.underlying9 Tryz.underlying50 Tryz.underlying5 (by first | omega | exact of_decide_eq_true (by assumption)) (ok := fun k_ => wc.heap.size ≤ k_) (by first | exact Nat.le_refl _ | (simp; done) | (simp; omega)) (Below.refl _ _) (Nat.le_refl _) ?_; intro v622 w12 ho13 hb hg_ hnew_; clear hg_ hnew_; (first | rw [← Ny621.out] at ho13 | (simp only [Int.reduceToNat] at ho13; rw [← Ny621.out] at ho13)); have HO623 := am_ (Kd.V_lower (Kd.V_mono (ok' := fun k_ => True) ho13 (fun k_ hk_ => trivial)) (below_size bl_)); replace HB := sb_ hb; clear hb ho13; obtain ⟨Ao14, co14, eo14⟩ := Kd.V_slice HO623.out; subst eo14))
     go_loopg [6, 30] kj5 (fun kq v6 v30 w' => ∃ (x6_2 : Int) (x30_2 : Int), v6 = .int .i64 x6_2 ∧ v30 = .int .i64 x30_2 ∧ Aside0 (runes_First.l0 kq t619 x6_2 y621 (y621.length : Int) x30_2 = some (r1, r2, r3)) ∧ Aside0 (kq ≤ kj5) ∧ Aside0 (Kd.V (Kd.int .u8) 5 w' w.heap.size (fun _ => True) (.slice Ao14 y621.length co14) y621) ∧ Aside0 (Below w.heap.size w w'))
     case atStart => exact ⟨(t620), (0), sr_, sr_, H', ⟨Nat.le_refl _⟩, ⟨by (with_reducible repeat (first | apply Kd.V_alloc | apply Kd.V_drewN | apply Kd.V_drew)); exact HO623.out⟩, ⟨bl_⟩⟩
     case round =>
      clear H'
      try clear c1
      try clear c2
      try clear c2b0
      try clear c2b1
      try clear p2
      try clear c3
      try clear c3b0
      try clear c3b1
      try clear p4
      try clear q4
      try clear hx4
      try clear qi4
      try clear c7
      try clear c7b0
      try clear c7b1
      try clear c8
      try clear c9
      try clear c9b0
      try clear c9b1
      try clear c10
      try clear c10b0
      try clear c10b1
      try clear c11
      try clear c11b0
      try clear c11b1
      try clear c11b2
      try clear p2
      try clear p4
      try clear q4
      obtain ⟨x6_2, x30_2, rfl, rfl, HA, HK2, HO_28, HB⟩ := hrel
      cases gk with
      | zero => exact absurd HA.out (by simp [runes_First.l0])
      | succ k2 =>
       have H := HA.out
       clear HA
       simp only [runes_First.l0] at H
       replace H := il_ H
       rcases H with ⟨-, c15b0, H⟩ | ⟨-, c15b0, H⟩
       ·
        replace H := ixl_ H
        obtain ⟨-, c16b0, H⟩ := H
        replace H := ixl_ H
        obtain ⟨-, c17b0, H⟩ := H
        replace H := ie_ H
        rcases H with ⟨-, c18b0, c18b1, H⟩ | ⟨c18, c18b0, c18b1, H⟩
        ·
         exact runes_First.k1
        ·
         exact runes_First.k1
       ·
        replace H := bd_ H
        obtain ⟨t625, A19, H⟩ := H
        replace H := ib_ H
        rcases H with ⟨rfl, H⟩ | ⟨rfl, H⟩
        ·
         replace H := bd_ H
         obtain ⟨t626, A21, H⟩ := H
         replace H := ie_ H
         rcases H with ⟨-, c22b0, c22b1, H⟩ | ⟨c22, c22b0, c22b1, H⟩
         ·
          exact runes_First.k1
         ·
          exact runes_First.k1
        ·
         exact runes_First.k1


mutual
def token_closed.l0 : Nat → ByteArray → Int → Int → Int → Int → Option (Int × ByteArray × Int × Int × Int × Int × Int)
 | 0, _, _, _, _, _ => none
 | k + 1, x0, x1, x2, x3, x12 => if x12 < (x0.size : Int) then (if 0 ≤ x12 then (token_closed.j1 k x0 x1 x2 x3 x12 ((bt x0 x12) != x2)) else (none)) else (token_closed.j1 k x0 x1 x2 x3 x12 false)
def token_closed.j1 : Nat → ByteArray → Int → Int → Int → Int → Bool → Option (Int × ByteArray × Int × Int × Int × Int × Int)
 | 0, _, _, _, _, _, _ => none
 | k + 1, x0, x1, x2, x3, x12, x26 => if x26 = true then (if 0 ≤ x12 then (if x12 ≤ (x0.size : Int) then ((runes_First.f k (x0.extract (x12 : Int).toNat x0.size)).bind fun bt628 => (if bt628.2.2 = true then (token_closed.l0 k x0 x1 x2 x3 (wrap64 (x12 + bt628.2.1))) else (some (0, (⟨#[]⟩ : ByteArray), 0, 0, 0, x12, 4)))) else (none)) else (none)) else (if x12 = (x0.size : Int) then (some (0, (⟨#[]⟩ : ByteArray), 0, 0, 0, x12, x3)) else (if 1 ≤ x12 then (if x12 ≤ (x0.size : Int) then (some (x1, x0.extract 1 (x12 : Int).toNat, 0, 0, wrap64 (x12 + 1), 0, 0)) else (none)) else (none)))
end
def token_closed.f (k : Nat) (a0 : ByteArray) (a1 : Int) (a2 : Int) (a3 : Int) : Option (Int × ByteArray × Int × Int × Int × Int × Int) := token_closed.l0 k a0 a1 a2 a3 1
theorem token_closed.mono_l : ∀ k, (∀ y0 y1 y2 y3 y4, LeO (token_closed.l0 k y0 y1 y2 y3 y4) (token_closed.l0 (k + 1) y0 y1 y2 y3 y4)) ∧ (∀ y0 y1 y2 y3 y4 y5, LeO (token_closed.j1 k y0 y1 y2 y3 y4 y5) (token_closed.j1 (k + 1) y0 y1 y2 y3 y4 y5))
 | 0 => ⟨fun _ _ _ _ _ r h => by simp [token_closed.l0] at h, fun _ _ _ _ _ _ r h => by simp [token_closed.j1] at h⟩
 | k + 1 => by
  obtain ⟨ih0, ih1⟩ := token_closed.mono_l k
  refine ⟨?_, ?_⟩
  ·
   intro y0 y1 y2 y3 y4
   unfold token_closed.l0
   repeat' first
   | (with_reducible exact ih0 _ _ _ _ _)
   | (with_reducible exact ih1 _ _ _ _ _ _)
   | (with_reducible exact runes_First.mono _ _)
   | (with_reducible exact LeO.refl _)
   | (with_reducible exact LeO.none _)
   | (with_reducible refine LeO.ite ?_ ?_)
   | (with_reducible refine LeO.bind ?_ (fun _ => ?_))
   | exact ih0 _ _ _ _ _
   | exact ih1 _ _ _ _ _ _
   | exact runes_First.mono _ _
   | exact LeO.none _
   | refine LeO.ite ?_ ?_
   | refine LeO.bind ?_ (fun _ => ?_)
  ·
   intro y0 y1 y2 y3 y4 y5
   unfold token_closed.j1
   repeat' first
   | (with_reducible exact ih0 _ _ _ _ _)
   | (with_reducible exact ih1 _ _ _ _ _ _)
   | (with_reducible exact runes_First.mono _ _)
   | (with_reducible exact LeO.refl _)
   | (with_reducible exact LeO.none _)
   | (with_reducible refine LeO.ite ?_ ?_)
   | (with_reducible refine LeO.bind ?_ (fun _ => ?_))
   | exact ih0 _ _ _ _ _
   | exact ih1 _ _ _ _ _ _
   | exact runes_First.mono _ _
   | exact LeO.none _
   | refine LeO.ite ?_ ?_
   | refine LeO.bind ?_ (fun _ => ?_)
theorem token_closed.mono : ∀ a0 a1 a2 a3 k, LeO (token_closed.f k a0 a1 a2 a3) (token_closed.f (k + 1) a0 a1 a2 a3) := by
 intro a0 a1 a2 a3 k
 obtain ⟨ih0, ih1⟩ := token_closed.mono_l k
 unfold token_closed.f
 repeat' first | with_reducible first | exact ih0 _ _ _ _ _ | exact ih1 _ _ _ _ _ _ | exact runes_First.mono _ _ | exact LeO.refl _ | exact LeO.none _ | refine LeO.ite ?_ ?_ | refine LeO.bind ?_ (fun _ => ?_)
set_option maxRecDepth 1000000 in
theorem token_closed.k1 {p : Prop} (h : p := by
 first | (simp only [Option.some.injEq, Prod.mk.injEq] at H; obtain ⟨rfl, rfl, rfl, rfl, rfl, rfl, rfl⟩ := H) | (have H' := am_ H; clear H)
 first
  | (
   have p9 : 0 ≤ (x12_1 : Int) := da_
   have q9 : x12_1 < (a0.size : Int) := da_
   have hx9 := bt_at a0 x12_1
   replace p9 := eq_true p9
   replace q9 := eq_true q9
   go_wp2
   go_meet
   case rel => exact ⟨_, (((bt a0 x12_1) != a2)), sr_, H', ⟨by have := HK1.out; first | omega | exact Nat.le_refl _⟩, ⟨bk_ BK627.out⟩, ⟨bl_⟩⟩)
  | (
   go_wp2
   go_meet
   case rel => exact ⟨_, (false), sr_, H', ⟨by have := HK1.out; first | omega | exact Nat.le_refl _⟩, ⟨bk_ BK627.out⟩, ⟨bl_⟩⟩)
  | (
   try go_wp2_with (first | ((with_reducible refine gate_callee (f := 90) rfl ?_); refine gc_ (some 31) rfl rfl Tryz.func90 rfl #[.string (a0.extract (x12_1 : Int).toNat a0.size)] rfl ?_; (with_reducible refine (runes_First.calls _ _ _ _ _ _ A13.out).mono ?_); rintro e w1 ⟨rfl, hb⟩; refine ⟨_, rfl, ?_⟩; replace BK627 := bb_ BK627 hb; replace HB := sb_ hb; clear hb; (try (obtain ⟨hcz2_0, hcz2_1, hcz2_2, hcz2_3, hfz2_0, hfz2_1, hfz2_2, hfz2_3⟩ := cz4_ BK627.out))))
   first
    | (
     go_roundg kj5
     case measure => have := HK1.out; have := HJ5.out; omega
     case rel => exact ⟨(wrap64 (x12_1 + t629)), (x628000_1), (x628001_1), (x628002_1), (x628003_1), sr_, H', ⟨by have := HK1.out; have := HJ5.out; omega⟩, ⟨bk_ BK627.out⟩, ⟨bl_⟩⟩)
    | (
     refine bodyPost_ret (results_list (rs := [.cell 8 53, .tmp 9, .tmp 10, .tmp 11]) rfl (by simp) (.cell gb627 53 _ (0, 0) _ rfl (bp_ BK627.out) Tryz.underlying53 rfl (by kernel_rfl) (.tmp (.tmp (.tmp .nil))))) rfl ?_
     exact ⟨er_, bl_⟩))
  | (
   obtain ⟨hcz2_0, hcz2_1, hcz2_2, hcz2_3, hfz2_0, hfz2_1, hfz2_2, hfz2_3⟩ := cz4_ BK627.out
   go_wp2
   refine bodyPost_ret (results_list (rs := [.cell 8 53, .tmp 9, .tmp 10, .tmp 11]) rfl (by simp) (.cell gb627 53 _ (0, 0) _ rfl (bp_ BK627.out) Tryz.underlying53 rfl (by kernel_rfl) (.tmp (.tmp (.tmp .nil))))) rfl ?_
   exact ⟨er_, bl_⟩)) : p := h
set_option maxHeartbeats 8000000 in
set_option maxRecDepth 100000 in
theorem token_closed.calls (k : Nat) (a0 : ByteArray) (a1 : Int) (a2 : Int) (a3 : Int) (r1 : Int) (r2 : ByteArray) (r3 : Int) (r4 : Int) (r5 : Int) (r6 : Int) (r7 : Int) (w : World) (h : token_closed.f k a0 a1 a2 a3 = some (r1, r2, r3, r4, r5, r6, r7)) :
 Calls Tryz.prog 112 #[.string a0, .int .i64 a1, .int .u8 a2, .int .i64 a3] w fun e w' => e = .returned (.tuple #[.agg #[.int .i64 r1, .string r2, .int .i64 r3, .int .i64 r4], .int .i64 r5, .int .i64 r6, .int .i64 r7]) ∧ Below w.heap.size w w' := by
 have hu53 := Tryz.underlying53
 have HB := am_ (Below.refl w.heap.size w)
 have H : (token_closed.l0 k a0 a1 a2 a3 1) = some (r1, r2, r3, r4, r5, r6, r7) := h
 clear h
 have H' := am_ H
 clear H
 go_enter Tryz.func112, Tryz.ntmps112
 go_wp2_with (first | ((with_reducible refine gate_dst (N := 8) rfl ?_); refine bx_ (N := 8) (cs := #[.int .i64 0, .string (⟨#[]⟩ : ByteArray), .int .i64 0, .int .i64 0]) (t := 53) ?_; intro gb627 hg w5 hbox hb; have BK627 := am_ hbox; have GW627 := am_ (bg_ hg : w.heap.size ≤ gb627); replace HB := sb_ hb; clear hb hbox hg))
 go_loopg [12] k (fun kq v12 w' => ∃ (x12_1 : Int) (x628000_1 : Int) (x628001_1 : ByteArray) (x628002_1 : Int) (x628003_1 : Int), v12 = .int .i64 x12_1 ∧ Aside0 (token_closed.l0 kq a0 a1 a2 a3 x12_1 = some (r1, r2, r3, r4, r5, r6, r7)) ∧ Aside0 (kq ≤ k) ∧ Aside0 (w'.heap[gb627]? = some (.cells #[.int .i64 x628000_1, .string x628001_1, .int .i64 x628002_1, .int .i64 x628003_1] 53 (0, 0))) ∧ Aside0 (Below w.heap.size w w'))
 case atStart => exact ⟨(1), (0), ((⟨#[]⟩ : ByteArray)), (0), (0), sr_, H', ⟨Nat.le_refl _⟩, ⟨bk_ BK627.out⟩, ⟨bl_⟩⟩
 case round =>
  clear H'
  try clear c1
  try clear p2
  obtain ⟨x12_1, x628000_1, x628001_1, x628002_1, x628003_1, rfl, HA, HK1, BK627, HB⟩ := hrel
  cases gk with
  | zero => exact absurd HA.out (by simp [token_closed.l0])
  | succ k1 =>
   have H := HA.out
   clear HA
   simp only [token_closed.l0] at H
   have HC6 := am_ H
   clear H
   go_upto_region 2 with (fail)
   go_cut [26] (fun v26 wc => ∃ (kq : Nat) (x26_5 : Bool), v26 = .bool x26_5 ∧ Aside0 (token_closed.j1 kq a0 a1 a2 a3 x12_1 x26_5 = some (r1, r2, r3, r4, r5, r6, r7)) ∧ Aside0 (kq ≤ k1) ∧ Aside0 (wc.heap[gb627]? = some (.cells #[.int .i64 x628000_1, .string x628001_1, .int .i64 x628002_1, .int .i64 x628003_1] 53 (0, 0))) ∧ Aside0 (Below w.heap.size w wc))
   case first =>
    have H := HC6.out
    clear HC6
    replace H := il_ H
    rcases H with ⟨-, c7b0, H⟩ | ⟨-, c7b0, H⟩
    ·
     (first | rw [c7b0] | (simp only [i64_w, i32_w]; rw [c7b0]) | skip)
     replace H := ixl_ H
     obtain ⟨-, c8b0, H⟩ := H
     exact token_closed.k1
    ·
     (first | rw [c7b0] | (simp only [i64_w, i32_w]; rw [c7b0]) | skip)
     exact token_closed.k1
   case rest =>
    clear HC6
    try clear c1
    try clear p2
    try clear c7
    try clear c7b0
    try clear c8
    try clear c8b0
    try clear p9
    try clear q9
    try clear hx9
    try clear p2
    try clear p9
    try clear q9
    obtain ⟨kq, x26_5, rfl, HA, HJ5, BK627, HB⟩ := hcut
    cases kq with
    | zero => exact absurd HA.out (by simp [token_closed.j1])
    | succ kj5 =>
     have H := HA.out
     clear HA
     simp only [token_closed.j1] at H
     replace H := ib_ H
     rcases H with ⟨rfl, H⟩ | ⟨rfl, H⟩
     ·
      replace H := ixl_ H
      obtain ⟨c11, -, H⟩ := H
      have c11b0 := eq_true c11
      have c11b1 : decide (0 ≤ x12_1) = true := decide_eq_true c11
      clear c11
      replace H := ixl_ H
      obtain ⟨c12, -, H⟩ := H
      have c12b0 := eq_true c12
      have c12b1 : decide (x12_1 ≤ (a0.size : Int)) = true := decide_eq_true c12
      clear c12
      replace H := bd_ H
      obtain ⟨⟨t628, t629, t630⟩, A13, H⟩ := H
      try dsimp only at H
      replace H := ib_ H
      rcases H with ⟨rfl, H⟩ | ⟨rfl, H⟩
      ·
       exact token_closed.k1
      ·
       exact token_closed.k1
     ·
      replace H := ie_ H
      rcases H with ⟨-, c18b0, c18b1, H⟩ | ⟨c18, c18b0, c18b1, H⟩
      ·
       exact token_closed.k1
      ·
       replace H := ixl_ H
       obtain ⟨c20, -, H⟩ := H
       have c20b0 := eq_true c20
       have c20b1 : decide (1 ≤ x12_1) = true := decide_eq_true c20
       clear c20
       replace H := ixl_ H
       obtain ⟨c21, -, H⟩ := H
       have c21b0 := eq_true c21
       have c21b1 : decide (x12_1 ≤ (a0.size : Int)) = true := decide_eq_true c21
       clear c21
       exact token_closed.k1


def token_marked.f (k : Nat) (a0 : ByteArray) (a1 : Int) (a2 : Int) : Option (Int × ByteArray × Int × Int × Int × Int × Int) := if (a0.size : Int) = 1 then (some (0, (⟨#[]⟩ : ByteArray), 0, 0, 0, 1, a2)) else (if 1 ≤ (a0.size : Int) then ((runes_First.f k (a0.extract 1 a0.size)).bind fun bt632 => (if bt632.2.2 = true then (if 1 ≤ (wrap64 (1 + bt632.2.1)) then (if (wrap64 (1 + bt632.2.1)) ≤ (a0.size : Int) then (some (a1, a0.extract 1 ((wrap64 (1 + bt632.2.1)) : Int).toNat, 0, 0, wrap64 (1 + bt632.2.1), 0, 0)) else (none)) else (none)) else (some (0, (⟨#[]⟩ : ByteArray), 0, 0, 0, 1, 4)))) else (none))
theorem token_marked.mono : ∀ a0 a1 a2 k, LeO (token_marked.f k a0 a1 a2) (token_marked.f (k + 1) a0 a1 a2) := by
 intro a0 a1 a2 k
 unfold token_marked.f
 repeat' first | with_reducible first | exact runes_First.mono _ _ | exact LeO.refl _ | exact LeO.none _ | refine LeO.ite ?_ ?_ | refine LeO.bind ?_ (fun _ => ?_)
set_option maxRecDepth 1000000 in
theorem token_marked.k1 {p : Prop} (h : p := by
 first | (simp only [Option.some.injEq, Prod.mk.injEq] at H; obtain ⟨rfl, rfl, rfl, rfl, rfl, rfl, rfl⟩ := H) | (have H' := am_ H; clear H)
 go_enter Tryz.func113, Tryz.ntmps113
 try go_wp2_with (first | ((with_reducible refine gate_dst (N := 6) rfl ?_); refine bx_ (N := 6) (cs := #[.int .i64 0, .string (⟨#[]⟩ : ByteArray), .int .i64 0, .int .i64 0]) (t := 53) ?_; intro gb631 hg w1 hbox hb; have BK631 := am_ hbox; have GW631 := am_ (bg_ hg : w.heap.size ≤ gb631); replace HB := sb_ hb; clear hb hbox hg; (try (obtain ⟨hcz2_0, hcz2_1, hcz2_2, hcz2_3, hfz2_0, hfz2_1, hfz2_2, hfz2_3⟩ := cz4_ BK631.out))) | ((with_reducible refine gate_callee (f := 90) rfl ?_); refine gc_ (some 21) rfl rfl Tryz.func90 rfl #[.string (a0.extract 1 a0.size)] rfl ?_; (with_reducible refine (runes_First.calls _ _ _ _ _ _ A8.out).mono ?_); rintro e w3 ⟨rfl, hb⟩; refine ⟨_, rfl, ?_⟩; replace BK631 := bb_ BK631 hb; replace HB := sb_ hb; clear hb; obtain ⟨hcz2_0, hcz2_1, hcz2_2, hcz2_3, hfz2_0, hfz2_1, hfz2_2, hfz2_3⟩ := cz4_ BK631.out))
 refine bodyPost_ret (results_list (rs := [.cell 6 53, .tmp 7, .tmp 8, .tmp 9]) rfl (by simp) (.cell gb631 53 _ (0, 0) _ rfl (bp_ BK631.out) Tryz.underlying53 rfl (by kernel_rfl) (.tmp (.tmp (.tmp .nil))))) rfl ?_
 exact ⟨er_, bl_⟩) : p := h
set_option maxHeartbeats 8000000 in
set_option maxRecDepth 100000 in
theorem token_marked.calls (k : Nat) (a0 : ByteArray) (a1 : Int) (a2 : Int) (r1 : Int) (r2 : ByteArray) (r3 : Int) (r4 : Int) (r5 : Int) (r6 : Int) (r7 : Int) (w : World) (h : token_marked.f k a0 a1 a2 = some (r1, r2, r3, r4, r5, r6, r7)) :
 Calls Tryz.prog 113 #[.string a0, .int .i64 a1, .int .i64 a2] w fun e w' => e = .returned (.tuple #[.agg #[.int .i64 r1, .string r2, .int .i64 r3, .int .i64 r4], .int .i64 r5, .int .i64 r6, .int .i64 r7]) ∧ Below w.heap.size w w' := by
 have hu53 := Tryz.underlying53
 have HB := am_ (Below.refl w.heap.size w)
 have H : (if (a0.size : Int) = 1 then (some (0, (⟨#[]⟩ : ByteArray), 0, 0, 0, 1, a2)) else (if 1 ≤ (a0.size : Int) then ((runes_First.f k (a0.extract 1 a0.size)).bind fun bt632 => (if bt632.2.2 = true then (if 1 ≤ (wrap64 (1 + bt632.2.1)) then (if (wrap64 (1 + bt632.2.1)) ≤ (a0.size : Int) then (some (a1, a0.extract 1 ((wrap64 (1 + bt632.2.1)) : Int).toNat, 0, 0, wrap64 (1 + bt632.2.1), 0, 0)) else (none)) else (none)) else (some (0, (⟨#[]⟩ : ByteArray), 0, 0, 0, 1, 4)))) else (none))) = some (r1, r2, r3, r4, r5, r6, r7) := h
 clear h
 replace H := ie_ H
 rcases H with ⟨-, c4b0, c4b1, H⟩ | ⟨c4, c4b0, c4b1, H⟩
 ·
  exact token_marked.k1
 ·
  replace H := ixl_ H
  obtain ⟨c7, -, H⟩ := H
  have c7b0 := eq_true c7
  have c7b1 : decide (1 ≤ (a0.size : Int)) = true := decide_eq_true c7
  clear c7
  replace H := bd_ H
  obtain ⟨⟨t632, t633, t634⟩, A8, H⟩ := H
  try dsimp only at H
  replace H := ib_ H
  rcases H with ⟨rfl, H⟩ | ⟨rfl, H⟩
  ·
   replace H := ixl_ H
   obtain ⟨c10, -, H⟩ := H
   have c10b0 := eq_true c10
   have c10b1 : decide (1 ≤ (wrap64 (1 + t633))) = true := decide_eq_true c10
   replace H := ixl_ H
   obtain ⟨c11, -, H⟩ := H
   have c11b0 := eq_true c11
   have c11b1 : decide ((wrap64 (1 + t633)) ≤ (a0.size : Int)) = true := decide_eq_true c11
   exact token_marked.k1
  ·
   exact token_marked.k1


def token_begun.f (k : Nat) (a0 : ByteArray) : Option (Int × ByteArray × Int × Int × Int × Int × Int × Bool) := if 0 < (a0.size : Int) then (if (bt a0 0) = 34 then ((token_closed.f k a0 1 34 5).bind fun bt637 => (some (bt637.1, bt637.2.1, bt637.2.2.1, bt637.2.2.2.1, bt637.2.2.2.2.1, bt637.2.2.2.2.2.1, bt637.2.2.2.2.2.2, true))) else (if (bt a0 0) = 92 then ((token_marked.f k a0 2 6).bind fun bt644 => (some (bt644.1, bt644.2.1, bt644.2.2.1, bt644.2.2.2.1, bt644.2.2.2.2.1, bt644.2.2.2.2.2.1, bt644.2.2.2.2.2.2, true))) else (if (bt a0 0) = 95 then ((token_marked.f k a0 3 8).bind fun bt651 => (some (bt651.1, bt651.2.1, bt651.2.2.1, bt651.2.2.2.1, bt651.2.2.2.2.1, bt651.2.2.2.2.2.1, bt651.2.2.2.2.2.2, true))) else (if (bt a0 0) = 42 then ((token_marked.f k a0 4 8).bind fun bt658 => (some (bt658.1, bt658.2.1, bt658.2.2.1, bt658.2.2.2.1, bt658.2.2.2.2.1, bt658.2.2.2.2.2.1, bt658.2.2.2.2.2.2, true))) else (if (bt a0 0) = 91 then ((token_closed.f k a0 5 93 7).bind fun bt665 => (some (bt665.1, bt665.2.1, bt665.2.2.1, bt665.2.2.2.1, bt665.2.2.2.2.1, bt665.2.2.2.2.2.1, bt665.2.2.2.2.2.2, true))) else (some (0, (⟨#[]⟩ : ByteArray), 0, 0, 0, 0, 0, false))))))) else (none)
theorem token_begun.mono : ∀ a0 k, LeO (token_begun.f k a0) (token_begun.f (k + 1) a0) := by
 intro a0 k
 unfold token_begun.f
 repeat' first | with_reducible first | exact token_closed.mono _ _ _ _ _ | exact token_marked.mono _ _ _ _ | exact LeO.refl _ | exact LeO.none _ | refine LeO.ite ?_ ?_ | refine LeO.bind ?_ (fun _ => ?_)
set_option maxRecDepth 1000000 in
theorem token_begun.k1 {p : Prop} (h : p := by
 first | (simp only [Option.some.injEq, Prod.mk.injEq] at H; obtain ⟨rfl, rfl, rfl, rfl, rfl, rfl, rfl, rfl⟩ := H) | (have H' := am_ H; clear H)
 go_enter Tryz.func87, Tryz.ntmps87
 try go_wp2_with (first | ((with_reducible refine gate_dst (N := 2) rfl ?_); refine bx_ (N := 2) (cs := #[.int .i64 0, .string (⟨#[]⟩ : ByteArray), .int .i64 0, .int .i64 0]) (t := 53) ?_; intro gb635 hg w1 hbox hb; have BK635 := am_ hbox; have GW635 := am_ (bg_ hg : w.heap.size ≤ gb635); replace HB := sb_ hb; clear hb hbox hg) | ((with_reducible refine gate_dst (N := 7) rfl ?_); refine bx_ (N := 7) (cs := #[.int .i64 0, .string (⟨#[]⟩ : ByteArray), .int .i64 0, .int .i64 0]) (t := 53) ?_; intro gb636 hg w2 hbox hb; have BK636 := am_ hbox; have GW636 := am_ (bg_ hg : w.heap.size ≤ gb636); obtain ⟨NB635_636, NB636_635⟩ := nb_ hg BK635; replace BK635 := bb_ BK635 hb; replace HB := sb_ hb; clear hb hbox hg; have p3 : 0 ≤ (0 : Int) := (by omega); have q3 : 0 < a0.size := (by have : (0 : Int) < (a0.size : Int) := da_; omega); have hx3 : ∀ h : 0 < a0.size, ((a0[0]'h).toNat : Int) = bt a0 0 := bt_at a0 0; clear p3; have qi3 : (0 < (a0.size : Int)) = True := eq_true (da_); replace q3 := eq_true q3; (try (have hnb4 := NB636_635.out; have hnc4 := NB635_636.out; obtain ⟨hcz5_0, hcz5_1, hcz5_2, hcz5_3, hfz5_0, hfz5_1, hfz5_2, hfz5_3⟩ := cz4_ BK636.out; obtain ⟨hcz6_0, hcz6_1, hcz6_2, hcz6_3, hfz6_0, hfz6_1, hfz6_2, hfz6_3⟩ := cz4_ BK635.out))) | ((with_reducible refine gate_callee (f := 112) rfl ?_); (try (refine gc_ (some 57) rfl rfl Tryz.func112 rfl #[.string a0, .int .i64 5, .int .u8 93, .int .i64 7] rfl ?_; (with_reducible refine (token_closed.calls _ _ _ _ _ _ _ _ _ _ _ _ _ A37.out).mono ?_); rintro e w3 ⟨rfl, hb⟩; refine ⟨_, rfl, ?_⟩; replace BK635 := bb_ BK635 hb; replace BK636 := bb_ BK636 hb; replace HB := sb_ hb; clear hb; have hnb4 := NB636_635.out; have hnc4 := NB635_636.out; obtain ⟨hcz5_0, hcz5_1, hcz5_2, hcz5_3, hfz5_0, hfz5_1, hfz5_2, hfz5_3⟩ := cz4_ BK636.out; obtain ⟨hcz6_0, hcz6_1, hcz6_2, hcz6_3, hfz6_0, hfz6_1, hfz6_2, hfz6_3⟩ := cz4_ BK635.out)); (try (refine gc_ (some 21) rfl rfl Tryz.func112 rfl #[.string a0, .int .i64 1, .int .u8 34, .int .i64 5] rfl ?_; (with_reducible refine (token_closed.calls _ _ _ _ _ _ _ _ _ _ _ _ _ A5.out).mono ?_); rintro e w3 ⟨rfl, hb⟩; refine ⟨_, rfl, ?_⟩; replace BK635 := bb_ BK635 hb; replace BK636 := bb_ BK636 hb; replace HB := sb_ hb; clear hb; have hnb4 := NB636_635.out; have hnc4 := NB635_636.out; obtain ⟨hcz5_0, hcz5_1, hcz5_2, hcz5_3, hfz5_0, hfz5_1, hfz5_2, hfz5_3⟩ := cz4_ BK636.out; obtain ⟨hcz6_0, hcz6_1, hcz6_2, hcz6_3, hfz6_0, hfz6_1, hfz6_2, hfz6_3⟩ := cz4_ BK635.out))) | ((with_reducible refine gate_callee (f := 113) rfl ?_); (try (refine gc_ (some 30) rfl rfl Tryz.func113 rfl #[.string a0, .int .i64 2, .int .i64 6] rfl ?_; (with_reducible refine (token_marked.calls _ _ _ _ _ _ _ _ _ _ _ _ A13.out).mono ?_); rintro e w3 ⟨rfl, hb⟩; refine ⟨_, rfl, ?_⟩; replace BK635 := bb_ BK635 hb; replace BK636 := bb_ BK636 hb; replace HB := sb_ hb; clear hb; have hnb4 := NB636_635.out; have hnc4 := NB635_636.out; obtain ⟨hcz5_0, hcz5_1, hcz5_2, hcz5_3, hfz5_0, hfz5_1, hfz5_2, hfz5_3⟩ := cz4_ BK636.out; obtain ⟨hcz6_0, hcz6_1, hcz6_2, hcz6_3, hfz6_0, hfz6_1, hfz6_2, hfz6_3⟩ := cz4_ BK635.out)); (try (refine gc_ (some 39) rfl rfl Tryz.func113 rfl #[.string a0, .int .i64 3, .int .i64 8] rfl ?_; (with_reducible refine (token_marked.calls _ _ _ _ _ _ _ _ _ _ _ _ A21.out).mono ?_); rintro e w3 ⟨rfl, hb⟩; refine ⟨_, rfl, ?_⟩; replace BK635 := bb_ BK635 hb; replace BK636 := bb_ BK636 hb; replace HB := sb_ hb; clear hb; have hnb4 := NB636_635.out; have hnc4 := NB635_636.out; obtain ⟨hcz5_0, hcz5_1, hcz5_2, hcz5_3, hfz5_0, hfz5_1, hfz5_2, hfz5_3⟩ := cz4_ BK636.out; obtain ⟨hcz6_0, hcz6_1, hcz6_2, hcz6_3, hfz6_0, hfz6_1, hfz6_2, hfz6_3⟩ := cz4_ BK635.out)); (try (refine gc_ (some 48) rfl rfl Tryz.func113 rfl #[.string a0, .int .i64 4, .int .i64 8] rfl ?_; (with_reducible refine (token_marked.calls _ _ _ _ _ _ _ _ _ _ _ _ A29.out).mono ?_); rintro e w3 ⟨rfl, hb⟩; refine ⟨_, rfl, ?_⟩; replace BK635 := bb_ BK635 hb; replace BK636 := bb_ BK636 hb; replace HB := sb_ hb; clear hb; have hnb4 := NB636_635.out; have hnc4 := NB635_636.out; obtain ⟨hcz5_0, hcz5_1, hcz5_2, hcz5_3, hfz5_0, hfz5_1, hfz5_2, hfz5_3⟩ := cz4_ BK636.out; obtain ⟨hcz6_0, hcz6_1, hcz6_2, hcz6_3, hfz6_0, hfz6_1, hfz6_2, hfz6_3⟩ := cz4_ BK635.out))))
 refine bodyPost_ret (results_list (rs := [.cell 2 53, .tmp 3, .tmp 4, .tmp 5, .tmp 6]) rfl (by simp) (.cell gb635 53 _ (0, 0) _ rfl (bp_ BK635.out) Tryz.underlying53 rfl (by kernel_rfl) (.tmp (.tmp (.tmp (.tmp .nil)))))) rfl ?_
 exact ⟨er_, bl_⟩) : p := h
set_option maxHeartbeats 8000000 in
set_option maxRecDepth 100000 in
theorem token_begun.calls (k : Nat) (a0 : ByteArray) (r1 : Int) (r2 : ByteArray) (r3 : Int) (r4 : Int) (r5 : Int) (r6 : Int) (r7 : Int) (r8 : Bool) (w : World) (h : token_begun.f k a0 = some (r1, r2, r3, r4, r5, r6, r7, r8)) :
 Calls Tryz.prog 87 #[.string a0] w fun e w' => e = .returned (.tuple #[.agg #[.int .i64 r1, .string r2, .int .i64 r3, .int .i64 r4], .int .i64 r5, .int .i64 r6, .int .i64 r7, .bool r8]) ∧ Below w.heap.size w w' := by
 have hu53 := Tryz.underlying53
 have HB := am_ (Below.refl w.heap.size w)
 have H : (if 0 < (a0.size : Int) then (if (bt a0 0) = 34 then ((token_closed.f k a0 1 34 5).bind fun bt637 => (some (bt637.1, bt637.2.1, bt637.2.2.1, bt637.2.2.2.1, bt637.2.2.2.2.1, bt637.2.2.2.2.2.1, bt637.2.2.2.2.2.2, true))) else (if (bt a0 0) = 92 then ((token_marked.f k a0 2 6).bind fun bt644 => (some (bt644.1, bt644.2.1, bt644.2.2.1, bt644.2.2.2.1, bt644.2.2.2.2.1, bt644.2.2.2.2.2.1, bt644.2.2.2.2.2.2, true))) else (if (bt a0 0) = 95 then ((token_marked.f k a0 3 8).bind fun bt651 => (some (bt651.1, bt651.2.1, bt651.2.2.1, bt651.2.2.2.1, bt651.2.2.2.2.1, bt651.2.2.2.2.2.1, bt651.2.2.2.2.2.2, true))) else (if (bt a0 0) = 42 then ((token_marked.f k a0 4 8).bind fun bt658 => (some (bt658.1, bt658.2.1, bt658.2.2.1, bt658.2.2.2.1, bt658.2.2.2.2.1, bt658.2.2.2.2.2.1, bt658.2.2.2.2.2.2, true))) else (if (bt a0 0) = 91 then ((token_closed.f k a0 5 93 7).bind fun bt665 => (some (bt665.1, bt665.2.1, bt665.2.2.1, bt665.2.2.2.1, bt665.2.2.2.2.1, bt665.2.2.2.2.2.1, bt665.2.2.2.2.2.2, true))) else (some (0, (⟨#[]⟩ : ByteArray), 0, 0, 0, 0, 0, false))))))) else (none)) = some (r1, r2, r3, r4, r5, r6, r7, r8) := h
 clear h
 replace H := ixl_ H
 obtain ⟨c2, c2b0, H⟩ := H
 have c2b1 : decide (0 < a0.size) = true := decide_eq_true (by omega)
 clear c2
 replace H := ie_ H
 rcases H with ⟨-, c4b0, c4b1, H⟩ | ⟨c4, c4b0, c4b1, H⟩
 ·
  replace H := bd_ H
  obtain ⟨⟨t637, t638, t639, t640, t641, t642, t643⟩, A5, H⟩ := H
  try dsimp only at H
  exact token_begun.k1
 ·
  replace H := ie_ H
  rcases H with ⟨-, c12b0, c12b1, H⟩ | ⟨c12, c12b0, c12b1, H⟩
  ·
   replace H := bd_ H
   obtain ⟨⟨t644, t645, t646, t647, t648, t649, t650⟩, A13, H⟩ := H
   try dsimp only at H
   exact token_begun.k1
  ·
   replace H := ie_ H
   rcases H with ⟨-, c20b0, c20b1, H⟩ | ⟨c20, c20b0, c20b1, H⟩
   ·
    replace H := bd_ H
    obtain ⟨⟨t651, t652, t653, t654, t655, t656, t657⟩, A21, H⟩ := H
    try dsimp only at H
    exact token_begun.k1
   ·
    replace H := ie_ H
    rcases H with ⟨-, c28b0, c28b1, H⟩ | ⟨c28, c28b0, c28b1, H⟩
    ·
     replace H := bd_ H
     obtain ⟨⟨t658, t659, t660, t661, t662, t663, t664⟩, A29, H⟩ := H
     try dsimp only at H
     exact token_begun.k1
    ·
     replace H := ie_ H
     rcases H with ⟨-, c36b0, c36b1, H⟩ | ⟨c36, c36b0, c36b1, H⟩
     ·
      replace H := bd_ H
      obtain ⟨⟨t665, t666, t667, t668, t669, t670, t671⟩, A37, H⟩ := H
      try dsimp only at H
      exact token_begun.k1
     ·
      exact token_begun.k1

end Go.Proofs.YtiidpicgdjjikaaGreatDoor.P
