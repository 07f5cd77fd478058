/- Texts of this seat, one behind the other (merged by a program of this session's own). -/
import Derived.Test.YtiidpicgdjjikaaGreatDoorM22

-- GHas
/-
  (item.Section).Has.
-/
namespace Go.Proofs.YtiidpicgdjjikaaGreatDoor.G
open Go.RowKit Go.Lib Go.Maps Go.ChangeMaps Go.MapKept Go.Proofs Go.Proofs.YtiidpicgdjjikaaGreatDoor.P Go.Proofs.YtiidpicgdjjikaaGreatDoorW.PrintWords Go.Proofs.YtiidpicgdjjikaaGreatDoorW.PrintLast Go.Proofs.YtiidpicgdjjikaaGreatDoorW.PrintMore
set_option linter.unusedVariables false
set_option linter.unusedSimpArgs false
attribute [local go_sem] isSome_setCell_eq
theorem cell_keep {w w' : World} (hb : Below w.heap.size w w') {a : Addr} {v : Value} (hc : w.cell? a = some v) : w'.cell? a = some v := by
  have hlt : a.block < w.heap.size := by
    apply Classical.byContradiction
    intro hn
    unfold World.cell? at hc
    rw [Array.getElem?_eq_none (by omega)] at hc
    simp at hc
  rw [hb.cell hlt]
  exact hc
def item_Section_Has.f (a0 a1 a2 : Int) (a3 : Bool) (a4 a5 : ByteArray) (l : List S55) (k : Int) : Option Bool := some (decide (0 ≤ idxG (fun x : S55 => x.f0 == k) l 0))
set_option maxHeartbeats 4000000 in
set_option maxRecDepth 1000000 in
theorem has_pred (g : Nat) (k : Int) (x : S55) (W : World) (hk : W.cell? ⟨g, 0, none⟩ = some (.int .i64 k)) :
    Calls Tryz.prog 42 (#[.agg #[.int .i64 x.f0, .string x.f1, .int .i64 x.f2]] ++ #[.pointer (some ⟨g, 0, none⟩)]) W fun e w' => e = .returned (.bool (x.f0 == k)) ∧ Below W.heap.size W w' := by
  show Calls Tryz.prog 42 #[.agg #[.int .i64 x.f0, .string x.f1, .int .i64 x.f2], .pointer (some ⟨g, 0, none⟩)] W _
  have HK := Aside0.mk hk
  clear hk
  go_enter Tryz.func42, Tryz.ntmps42
  go_wp2_with (first
    | ((with_reducible refine gate_dst (N := 2) rfl ?_); refine box_event ?hg (N := 2) ?hd (cs := #[.int .i64 x.f0, .string x.f1, .int .i64 x.f2]) (t := 55) ?hr ?_; (case hd => rfl); (case hg => rfl); (case hr => first | (go_simp; done) | (go_simp; rfl)); intro g2 hg w1 hbox hb; have HB := Aside0.mk hb; have c0 : w1.cell? ⟨g2, 0, none⟩ = some (.int .i64 x.f0) := (blk_cell hbox 0).trans rfl; have c1 : w1.cell? ⟨g, 0, none⟩ = some (.int .i64 k) := cell_keep hb HK.out; clear hg hbox hb))
  go_ret
  exact ⟨rfl, HB.out⟩
set_option maxHeartbeats 4000000 in
set_option maxRecDepth 1000000 in
theorem contains_items (g : Nat) (lb : Array Value) (eg : ∀ args w, (callFunc g args).run Tryz.prog w = .ok (.enter g args) w) (p : S55 → Bool) (A : Option Addr) (c : Nat) (xs : List S55) (w : World) (hC : Kd.C k55 w A xs.length xs)
    (hp : ∀ W x, Below w.heap.size w W → Calls Tryz.prog g (#[.agg #[.int .i64 x.f0, .string x.f1, .int .i64 x.f2]] ++ lb) W fun e w' => e = .returned (.bool (p x)) ∧ Below W.heap.size W w') :
    Calls Tryz.prog 41 #[.slice A xs.length c, .func (.func g) #[] lb] w fun e w' => e = .returned (.bool (decide (0 ≤ idxG p xs 0))) ∧ Below w.heap.size w w' := by
  have HX := Aside0.mk (index_items g lb eg p A c xs w hC hp)
  clear hC hp eg
  go_enter Tryz.func41, Tryz.ntmps41
  go_wp2_with (first | (go_at_call 65; (with_reducible refine HX.out.mono ?_); rintro e w2 ⟨rfl, hb2⟩; have HB2 := Aside0.mk hb2; clear hb2))
  go_ret
  exact ⟨rfl, HB2.out⟩
set_option maxHeartbeats 4000000 in
set_option maxRecDepth 1000000 in
theorem item_Section_Has.calls (a0 a1 a2 : Int) (a3 : Bool) (a4 a5 : ByteArray) (A0 : Option Addr) (c0 : Nat) (l0 : List S55) (k : Int) (r : Bool) (w : World) (hr0 : Kd.C k55 w A0 l0.length l0) (hc0 : l0.length ≤ c0) (h : item_Section_Has.f a0 a1 a2 a3 a4 a5 l0 k = some r) :
    Calls Tryz.prog 15 #[.agg #[.int .i64 a0, .int .i64 a1, .int .i64 a2, .bool a3, .string a4, .string a5, .slice A0 l0.length c0], .int .i64 k] w fun e w' => e = .returned (.bool r) ∧ Below w.heap.size w w' := by
  obtain rfl := Option.some.inj h
  have HC := Aside0.mk hr0
  clear hr0 h
  go_enter Tryz.func15, Tryz.ntmps15
  go_wp2_with (first
    | ((with_reducible refine gate_dst (N := 2) rfl ?_); refine box_event ?hg (N := 2) ?hd (cs := #[.int .i64 a0, .int .i64 a1, .int .i64 a2, .bool a3, .string a4, .string a5, .slice A0 l0.length c0]) (t := 33) ?hr ?_; (case hd => rfl); (case hg => rfl); (case hr => first | (go_simp; done) | (go_simp; rfl)); intro g2 hg w1 hbox hb; have HB1 := Aside0.mk hb; have K1 := Aside0.mk hbox; clear hg hbox hb)
    | ((with_reducible refine gate_dst (N := 3) rfl ?_); refine box_event ?hg (N := 3) ?hd (cs := #[.int .i64 k]) (t := 45) ?hr ?_; (case hd => rfl); (case hg => rfl); (case hr => first | (go_simp; done) | (go_simp; rfl)); intro g3 hg w2 hbox hb; have HB2 := Aside0.mk (HB1.out.trans (hb.mono HB1.out.size)); have K3 := Aside0.mk hbox; have c6 : w2.cell? ⟨g2, 6, none⟩ = some (.slice A0 l0.length c0) := (blk_cell ((hb.block g2 (blk_lt K1.out)).trans K1.out) 6).trans rfl; clear hg hbox hb)
    | (go_at_call 41; go_loud (refine (contains_items 42 #[.pointer (some ⟨g3, 0, none⟩)] (enters_of Tryz.func42 (by kernel_rfl) rfl) (fun x => x.f0 == k) A0 c0 l0 _ (Kd.C_below HC.out HB2.out) (fun W x hb => has_pred g3 k x W (cell_keep hb ((blk_cell K3.out 0).trans rfl)))).mono ?_); rintro e w4 ⟨rfl, hb4⟩; have HB4 := Aside0.mk (HB2.out.trans (hb4.mono HB2.out.size)); clear hb4))
  go_ret
  exact ⟨rfl, HB4.out⟩
end Go.Proofs.YtiidpicgdjjikaaGreatDoor.G

