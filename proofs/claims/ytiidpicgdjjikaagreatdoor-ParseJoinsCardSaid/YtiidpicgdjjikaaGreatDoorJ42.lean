import Derived.Test.YtiidpicgdjjikaaGreatDoorJ37
namespace Go.Proofs.YtiidpicgdjjikaaGreatDoor.G
open Go.RowKit Go.Lib Go.Maps Go.ChangeMaps Go.MapKept Go.Proofs Go.Proofs.YtiidpicgdjjikaaGreatDoor.P Go.Proofs.YtiidpicgdjjikaaGreatDoorW.PrintWords Go.Proofs.YtiidpicgdjjikaaGreatDoorW.PrintLast Go.Proofs.YtiidpicgdjjikaaGreatDoorW.PrintMore
set_option linter.unusedVariables false
set_option linter.unusedSimpArgs false
attribute [local go_sem] isSome_setCell_eq
theorem rd_dropS (xs : List S33) (i : Nat) (hi : i < xs.length) : xs.drop i = rd_T33 xs (i : Int) :: xs.drop (i + 1) := by
  rw [List.drop_eq_getElem_cons hi]
  congr 1
  unfold rd_T33
  rw [Int.toNat_natCast, List.getD_eq_getElem?_getD, List.getElem?_eq_getElem hi]
  rfl
set_option maxHeartbeats 2000000 in
set_option maxRecDepth 1000000 in
theorem index_sections (g : Nat) (lb : Array Value) (eg : ∀ args w, (callFunc g args).run Tryz.prog w = .ok (.enter g args) w) (p : S33 → Bool) (A : Option Addr) (c : Nat) (xs : List S33) (w : World) (hC : Kd.C k33 w A xs.length xs)
    (hp : ∀ W x A1 c1, Below w.heap.size w W → Calls Tryz.prog g (#[.agg #[.int .i64 x.f0, .int .i64 x.f1, .int .i64 x.f2.f0, .bool x.f2.f1, .string x.f2.f2, .string x.f2.f3, .slice A1 x.f3.length c1]] ++ lb) W fun e w' => e = .returned (.bool (p x)) ∧ Below W.heap.size W w') :
    Calls Tryz.prog 68 #[.slice A xs.length c, .func (.func g) #[] lb] w fun e w' => e = .returned (.int .i64 (idxG p xs 0)) ∧ Below w.heap.size w w' := by
  have hmx := Kd.C_max hC
  have HC := Aside0.mk hC
  have HM := Aside0.mk hmx
  have HP := Aside0.mk hp
  clear hC hmx hp
  go_enter Tryz.func68, Tryz.ntmps68
  go_wp2
  go_loopg [8] xs.length (fun gk v8 wx => ∃ i : Nat, v8 = .int .i64 (i : Int) ∧ Aside0 (i + gk = xs.length) ∧ Aside0 (idxG p (xs.drop i) i = idxG p xs 0) ∧ Aside0 (Below w.heap.size w wx))
  case atStart => exact ⟨0, rfl, ⟨Nat.zero_add _⟩, ⟨rfl⟩, ⟨Below.refl _ _⟩⟩
  case round =>
    obtain ⟨i, rfl, HG, HF, HB⟩ := hrel
    cases gk with
    | zero =>
      have hi : i = xs.length := by have := HG.out; simpa using this
      have y1 : decide ((i : Int) < (xs.length : Int)) = false := decide_eq_false (by rw [hi]; exact Int.lt_irrefl _)
      have y2 : decide (i < xs.length) = false := decide_eq_false (by rw [hi]; exact Nat.lt_irrefl _)
      have hf := HF.out
      rw [List.drop_of_length_le (by rw [hi]; exact Nat.le_refl _)] at hf
      simp only [idxG] at hf
      clear hi
      go_wp2
      go_ret
      exact ⟨by rw [← hf]; rfl, HB.out⟩
    | succ g1 =>
      have hi : i < xs.length := by have := HG.out; omega
      have y1 : decide ((i : Int) < (xs.length : Int)) = true := decide_eq_true (Int.ofNat_lt.2 hi)
      have y2 : decide (i < xs.length) = true := decide_eq_true hi
      have y3 : ((i : Int) < (xs.length : Int)) = True := eq_true (Int.ofNat_lt.2 hi)
      have y4 : (i < xs.length) = True := eq_true hi
      obtain ⟨ae, A6, c6, eA, t0, t1, t2, t3, t4, t5, t6, _, _⟩ := at_T33 (Kd.C_below HC.out HB.out) (i : Int) (Int.natCast_nonneg i) (Int.ofNat_lt.2 hi)
      subst eA
      rw [Int.toNat_natCast] at t0 t1 t2 t3 t4 t5 t6
      have hf := HF.out
      rw [rd_dropS xs i hi] at hf
      simp only [idxG] at hf
      generalize rd_T33 xs (i : Int) = T at hf t0 t1 t2 t3 t4 t5 t6
      have hwi : wrap64 ((i : Int) + 1) = ((i + 1 : Nat) : Int) := (i64_w _).symm.trans (IntWalk.i64_in ((i + 1 : Nat) : Int) ⟨Int.le_trans (by decide) (Int.natCast_nonneg _), Int.le_trans (Int.ofNat_le.2 hi) (Int.ofNat_le.2 HM.out)⟩)
      have HWI := Aside0.mk hwi
      have hcall := HP.out wr T A6 c6 HB.out
      clear hi hwi
      cases hq : p T with
      | true =>
        rw [hq] at hcall hf
        rw [if_pos rfl] at hf
        have HF2 := Aside0.mk hf
        have HCA := Aside0.mk hcall
        clear hq hf hcall
        go_wp2_with (first | ((with_reducible refine HCA.out.mono ?_); rintro e w' ⟨rfl, hb'⟩))
        go_ret
        exact ⟨by rw [← HF2.out]; rfl, HB.out.trans (hb'.mono HB.out.size)⟩
      | false =>
        rw [hq] at hcall hf
        rw [if_neg (by simp)] at hf
        have HF2 := Aside0.mk hf
        have HCA := Aside0.mk hcall
        clear hq hf hcall
        go_wp2_with (first | ((with_reducible refine HCA.out.mono ?_); rintro e w' ⟨rfl, hb'⟩))
        go_roundg g1
        case measure => omega
        case rel => exact ⟨i + 1, by first | exact congrArg (Value.int .i64) HWI.out | rfl | simp, ⟨by have := HG.out; omega⟩, HF2, ⟨HB.out.trans (hb'.mono HB.out.size)⟩⟩

def condB (x : S33) : Bool := x.f2.f0 != 0
def parse_Code_Conds.f (l : List S33) : Option Bool := some (decide (0 ≤ idxG condB l 0))
set_option maxHeartbeats 1000000 in
set_option maxRecDepth 1000000 in
theorem conds_pred (x : S33) (A1 : Option Addr) (c1 : Nat) (W : World) :
    Calls Tryz.prog 48 (#[.agg #[.int .i64 x.f0, .int .i64 x.f1, .int .i64 x.f2.f0, .bool x.f2.f1, .string x.f2.f2, .string x.f2.f3, .slice A1 x.f3.length c1]] ++ #[]) W fun e w' => e = .returned (.bool (condB x)) ∧ Below W.heap.size W w' := by
  show Calls Tryz.prog 48 #[.agg #[.int .i64 x.f0, .int .i64 x.f1, .int .i64 x.f2.f0, .bool x.f2.f1, .string x.f2.f2, .string x.f2.f3, .slice A1 x.f3.length c1]] W _
  unfold condB
  go_enter Tryz.func48, Tryz.ntmps48
  go_wp2_with (first
    | ((with_reducible refine gate_dst (N := 1) rfl ?_); refine box_event ?hg (N := 1) ?hd (cs := #[.int .i64 x.f0, .int .i64 x.f1, .int .i64 x.f2.f0, .bool x.f2.f1, .string x.f2.f2, .string x.f2.f3, .slice A1 x.f3.length c1]) (t := 33) ?hr ?_; (case hd => rfl); (case hg => rfl); (case hr => first | (go_simp; done) | (go_simp; rfl)); intro g2 hg w1 hbox hb; have HB := Aside0.mk hb; have c2 : w1.cell? ⟨g2, 2, none⟩ = some (.int .i64 x.f2.f0) := (blk_cell hbox 2).trans rfl; clear hg hbox hb))
  go_ret
  exact ⟨rfl, HB.out⟩
set_option maxHeartbeats 1000000 in
set_option maxRecDepth 1000000 in
theorem contains_sections (g : Nat) (lb : Array Value) (eg : ∀ args w, (callFunc g args).run Tryz.prog w = .ok (.enter g args) w) (p : S33 → Bool) (A : Option Addr) (c : Nat) (xs : List S33) (w : World) (hC : Kd.C k33 w A xs.length xs)
    (hp : ∀ W x A1 c1, Below w.heap.size w W → Calls Tryz.prog g (#[.agg #[.int .i64 x.f0, .int .i64 x.f1, .int .i64 x.f2.f0, .bool x.f2.f1, .string x.f2.f2, .string x.f2.f3, .slice A1 x.f3.length c1]] ++ lb) W fun e w' => e = .returned (.bool (p x)) ∧ Below W.heap.size W w') :
    Calls Tryz.prog 47 #[.slice A xs.length c, .func (.func g) #[] lb] w fun e w' => e = .returned (.bool (decide (0 ≤ idxG p xs 0))) ∧ Below w.heap.size w w' := by
  have HX := Aside0.mk (index_sections g lb eg p A c xs w hC hp)
  clear hC hp eg
  go_enter Tryz.func47, Tryz.ntmps47
  go_wp2_with (first | (go_at_call 68; (with_reducible refine HX.out.mono ?_); rintro e w2 ⟨rfl, hb2⟩; have HB2 := Aside0.mk hb2; clear hb2))
  go_ret
  exact ⟨rfl, HB2.out⟩
set_option maxHeartbeats 1000000 in
set_option maxRecDepth 1000000 in
theorem parse_Code_Conds.calls (A0 : Option Addr) (c0 : Nat) (l0 : List S33) (r : Bool) (w : World) (hr0 : Kd.C k33 w A0 l0.length l0) (hc0 : l0.length ≤ c0) (h : parse_Code_Conds.f l0 = some r) :
    Calls Tryz.prog 21 #[.agg #[.slice A0 l0.length c0]] w fun e w' => e = .returned (.bool r) ∧ Below w.heap.size w w' := by
  obtain rfl := Option.some.inj h
  have HC := Aside0.mk hr0
  clear hr0 h
  go_enter Tryz.func21, Tryz.ntmps21
  go_wp2_with (first
    | ((with_reducible refine gate_dst (N := 1) rfl ?_); refine box_event ?hg (N := 1) ?hd (cs := #[.slice A0 l0.length c0]) (t := 61) ?hr ?_; (case hd => rfl); (case hg => rfl); (case hr => first | (go_simp; done) | (go_simp; rfl)); intro g2 hg w1 hbox hb; have HB1 := Aside0.mk hb; have c2 : w1.cell? ⟨g2, 0, none⟩ = some (.slice A0 l0.length c0) := (blk_cell hbox 0).trans rfl; clear hg hbox hb)
    | (go_at_call 47; go_loud (refine (contains_sections 48 #[] (enters_of Tryz.func48 (by kernel_rfl) rfl) condB A0 c0 l0 _ (Kd.C_below HC.out HB1.out) (fun W x A1 c1 hb => conds_pred x A1 c1 W)).mono ?_); rintro e w4 ⟨rfl, hb4⟩; have HB4 := Aside0.mk (HB1.out.trans (hb4.mono HB1.out.size)); clear hb4))
  go_ret
  exact ⟨rfl, HB4.out⟩
end Go.Proofs.YtiidpicgdjjikaaGreatDoor.G
