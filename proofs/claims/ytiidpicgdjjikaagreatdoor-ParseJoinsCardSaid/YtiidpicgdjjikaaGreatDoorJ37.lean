import Derived.Shelf.Abstract
import Derived.Test.YtiidpicgdjjikaaGreatDoorJ11
import Derived.Test.YtiidpicgdjjikaaGreatDoorJ36
namespace Go.Proofs.YtiidpicgdjjikaaGreatDoor.G
open Go.RowKit Go.Lib Go.Maps Go.ChangeMaps Go.MapKept Go.Proofs Go.Proofs.YtiidpicgdjjikaaGreatDoor.P Go.Proofs.YtiidpicgdjjikaaGreatDoorW.PrintWords Go.Proofs.YtiidpicgdjjikaaGreatDoorW.PrintLast Go.Proofs.YtiidpicgdjjikaaGreatDoorW.PrintMore
set_option linter.unusedVariables false
set_option linter.unusedSimpArgs false
attribute [local go_sem] isSome_setCell_eq
def idxG {α : Type} (p : α → Bool) : List α → Int → Int
  | [], _ => -1
  | x :: r, i => if p x = true then i else idxG p r (i + 1)
theorem rd_drop (xs : List S55) (i : Nat) (hi : i < xs.length) : xs.drop i = rd_T55 xs (i : Int) :: xs.drop (i + 1) := by
  rw [List.drop_eq_getElem_cons hi]
  congr 1
  unfold rd_T55
  rw [Int.toNat_natCast, List.getD_eq_getElem?_getD, List.getElem?_eq_getElem hi]
  rfl
set_option maxHeartbeats 8000000 in
set_option maxRecDepth 1000000 in
theorem index_items (g : Nat) (lb : Array Value) (eg : ∀ args w, (callFunc g args).run Tryz.prog w = .ok (.enter g args) w) (p : S55 → Bool) (A : Option Addr) (c : Nat) (xs : List S55) (w : World) (hC : Kd.C k55 w A xs.length xs)
    (hp : ∀ W x, Below w.heap.size w W → Calls Tryz.prog g (#[.agg #[.int .i64 x.f0, .string x.f1, .int .i64 x.f2]] ++ lb) W fun e w' => e = .returned (.bool (p x)) ∧ Below W.heap.size W w') :
    Calls Tryz.prog 65 #[.slice A xs.length c, .func (.func g) #[] lb] w fun e w' => e = .returned (.int .i64 (idxG p xs 0)) ∧ Below w.heap.size w w' := by
  have hmx := Kd.C_max hC
  have HC := Aside0.mk hC
  have HM := Aside0.mk hmx
  have HP := Aside0.mk hp
  clear hC hmx hp
  go_enter Tryz.func65, Tryz.ntmps65
  go_wp2
  go_loopg [8] xs.length (fun gk v8 wx => ∃ i : Nat, v8 = .int .i64 (i : Int) ∧ Aside0 (i + gk = xs.length) ∧ Aside0 (idxG p (xs.drop i) i = idxG p xs 0) ∧ Aside0 (Below w.heap.size w wx))
  case atStart => exact ⟨0, rfl, ⟨Nat.zero_add _⟩, ⟨rfl⟩, ⟨Below.refl _ _⟩⟩
  case round =>
    obtain ⟨i, rfl, HG, HF, HB⟩ := hrel
    cases gk with
    | zero =>
      have hi : i = xs.length := by have := HG.out; simpa using this
      have y1 : decide ((i : Int) < (xs.length : Int)) = false := decide_eq_false (by rw [hi]; exact Int.lt_irrefl _)
      have y2 : decide (i < xs.length) = false := decide_eq_false (by rw [hi]; exact Nat.lt_irrefl _)
      have hf := HF.out
      rw [List.drop_of_length_le (by rw [hi]; exact Nat.le_refl _)] at hf
      simp only [idxG] at hf
      clear hi
      go_wp2
      go_ret
      exact ⟨by rw [← hf]; rfl, HB.out⟩
    | succ g1 =>
      have hi : i < xs.length := by have := HG.out; omega
      have y1 : decide ((i : Int) < (xs.length : Int)) = true := decide_eq_true (Int.ofNat_lt.2 hi)
      have y2 : decide (i < xs.length) = true := decide_eq_true hi
      have y3 : ((i : Int) < (xs.length : Int)) = True := eq_true (Int.ofNat_lt.2 hi)
      have y4 : (i < xs.length) = True := eq_true hi
      obtain ⟨ae, eA, t0, t1, t2⟩ := at_T55 (Kd.C_below HC.out HB.out) (i : Int) (Int.natCast_nonneg i) (Int.ofNat_lt.2 hi)
      subst eA
      rw [Int.toNat_natCast] at t0 t1 t2
      have hf := HF.out
      rw [rd_drop xs i hi] at hf
      simp only [idxG] at hf
      generalize rd_T55 xs (i : Int) = T at hf t0 t1 t2
      have hwi : wrap64 ((i : Int) + 1) = ((i + 1 : Nat) : Int) := (i64_w _).symm.trans (IntWalk.i64_in ((i + 1 : Nat) : Int) ⟨Int.le_trans (by decide) (Int.natCast_nonneg _), Int.le_trans (Int.ofNat_le.2 hi) (Int.ofNat_le.2 HM.out)⟩)
      have HWI := Aside0.mk hwi
      have hcall := HP.out wr T HB.out
      clear hi hwi
      cases hq : p T with
      | true =>
        rw [hq] at hcall hf
        rw [if_pos rfl] at hf
        have HF2 := Aside0.mk hf
        have HCA := Aside0.mk hcall
        clear hq hf hcall
        go_wp2_with (first | ((with_reducible refine HCA.out.mono ?_); rintro e w' ⟨rfl, hb'⟩))
        go_ret
        exact ⟨by rw [← HF2.out]; rfl, HB.out.trans (hb'.mono HB.out.size)⟩
      | false =>
        rw [hq] at hcall hf
        rw [if_neg (by simp)] at hf
        have HF2 := Aside0.mk hf
        have HCA := Aside0.mk hcall
        clear hq hf hcall
        go_wp2_with (first | ((with_reducible refine HCA.out.mono ?_); rintro e w' ⟨rfl, hb'⟩))
        go_roundg g1
        case measure => omega
        case rel => exact ⟨i + 1, by first | exact congrArg (Value.int .i64) HWI.out | rfl | simp, ⟨by have := HG.out; omega⟩, HF2, ⟨HB.out.trans (hb'.mono HB.out.size)⟩⟩

def unitB (x : S55) : Bool := x.f0 == 12 || x.f0 == 13 || x.f0 == 14
theorem unit_f (x : S55) : item_unit.f x.f0 x.f1 x.f2 = some (unitB x) := by
  unfold item_unit.f unitB
  by_cases h1 : x.f0 = 12
  · simp [h1]
  · by_cases h2 : x.f0 = 13
    · simp [h2]
    · simp [h1, h2]
def nextF : List S55 → ByteArray
  | [] => ⟨#[]⟩
  | x :: r => if unitB x = true then x.f1 else nextF r
theorem next_idx : ∀ (xs : List S55) (k : Int), (idxG unitB xs k = -1 ∧ nextF xs = ⟨#[]⟩) ∨ ∃ i : Nat, i < xs.length ∧ idxG unitB xs k = k + i ∧ nextF xs = (rd_T55 xs (i : Int)).f1
  | [], k => Or.inl ⟨rfl, rfl⟩
  | x :: r, k => by
    simp only [idxG, nextF]
    by_cases h : unitB x = true
    · rw [if_pos h, if_pos h]
      exact Or.inr ⟨0, by simp, by simp, rfl⟩
    · rw [if_neg h, if_neg h]
      rcases next_idx r (k + 1) with ⟨h1, h2⟩ | ⟨i, h1, h2, h3⟩
      · exact Or.inl ⟨h1, h2⟩
      · refine Or.inr ⟨i + 1, by simp; omega, by rw [h2]; simp; omega, ?_⟩
        rw [h3]
        unfold rd_T55
        simp
set_option maxHeartbeats 8000000 in
set_option maxRecDepth 1000000 in
theorem next_calls (A : Option Addr) (c : Nat) (xs : List S55) (w : World) (hC : Kd.C k55 w A xs.length xs) :
    Calls Tryz.prog 59 #[.slice A xs.length c] w fun e w' => e = .returned (.string (nextF xs)) ∧ Below w.heap.size w w' := by
  have hX := index_items 58 #[] (enters_of Tryz.func58 (by kernel_rfl) rfl) unitB A c xs w hC (fun W x hb => (item_unit.calls x.f0 x.f1 x.f2 (unitB x) W (unit_f x)))
  have HX := Aside0.mk hX
  have HC := Aside0.mk hC
  clear hX hC
  rcases next_idx xs 0 with ⟨h1, h2⟩ | ⟨i, h1, h2, h3⟩
  · rw [h1] at HX
    rw [h2]
    clear h1 h2
    go_enter Tryz.func59, Tryz.ntmps59
    go_wp2_with (first | (go_at_call 65; (with_reducible refine HX.out.mono ?_); rintro e w2 ⟨rfl, hb2⟩; have HB2 := Aside0.mk hb2; clear hb2))
    go_ret
    exact ⟨rfl, HB2.out⟩
  · rw [h2, Int.zero_add] at HX
    rw [h3]
    have y1 : (0 ≤ (i : Int)) = True := eq_true (Int.natCast_nonneg i)
    have y2 : ((i : Int) < (xs.length : Int)) = True := eq_true (Int.ofNat_lt.2 h1)
    have y3 : (i < xs.length) = True := eq_true h1
    have H1 := Aside0.mk h1
    clear h1 h2 h3
    go_enter Tryz.func59, Tryz.ntmps59
    obtain ⟨ae, eA, s0, s1, s2⟩ := at_T55 HC.out (i : Int) (Int.natCast_nonneg i) (Int.ofNat_lt.2 H1.out)
    subst eA
    clear s0 s1 s2
    go_wp2_with (first | (go_at_call 65; (with_reducible refine HX.out.mono ?_); rintro e w2 ⟨rfl, hb2⟩; have HB2 := Aside0.mk hb2; obtain ⟨ad, eA, t0, t1, t2⟩ := at_T55 (Kd.C_below HC.out hb2) (i : Int) (Int.natCast_nonneg i) (Int.ofNat_lt.2 H1.out); cases eA; rw [Int.toNat_natCast] at t0 t1 t2; clear hb2))
    go_ret
    exact ⟨rfl, HB2.out⟩
end Go.Proofs.YtiidpicgdjjikaaGreatDoor.G
