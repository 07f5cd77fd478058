import Derived.Deep.LoopGhost
import Derived.WalkKit
import Derived.WalkMore
import Derived.ScopeJumps
import Derived.IntWalk
import Derived.Lib.TrimU
import Derived.Lib.Walk
import Derived.Lib.Strings
import Derived.Laws.Strings3
import Derived.Test.YtiidpicgdjjikaaGreatDoorJ4
namespace Go.Proofs.YtiidpicgdjjikaaGreatDoor.G
open Go.RowKit Go.Lib Go.Shelf Go.Proofs Go.Proofs.YtiidpicgdjjikaaGreatDoorW.PrintWords Go.Proofs.YtiidpicgdjjikaaGreatDoorW.PrintLast Go.Proofs.YtiidpicgdjjikaaGreatDoorW.PrintMore
set_option linter.unusedVariables false
set_option linter.unusedSimpArgs false
def foldB (b : UInt8) : Bool := decide (b.toNat < 128) && (b.toNat != 75 && b.toNat != 83 && b.toNat != 107 && b.toNat != 115)
def foldS (t : ByteArray) : Bool := t.data.toList.all foldB
theorem foldS_at {t : ByteArray} (h : foldS t = true) (j : Nat) (b : UInt8) (hb : t.data.toList[j]? = some b) : foldB b = true := List.all_eq_true.1 h b (List.mem_of_getElem? hb)
theorem foldTab_fin : ∀ x : Fin 128, (x.val = 75 ∨ x.val = 83 ∨ x.val = 107 ∨ x.val = 115) ∨ (0 ≤ foldTab.getD x.val 0 ∧ foldTab.getD x.val 0 < 128 ∧ foldTab.getD (foldTab.getD x.val 0).toNat 0 = (x.val : Int)) := by decide +kernel
theorem foldTab_small (x : Nat) (hx : x < 128) (h1 : x ≠ 75) (h2 : x ≠ 83) (h3 : x ≠ 107) (h4 : x ≠ 115) : 0 ≤ foldTab.getD x 0 ∧ foldTab.getD x 0 < 128 ∧ foldTab.getD (foldTab.getD x 0).toNat 0 = (x : Int) := by
  rcases foldTab_fin ⟨x, hx⟩ with h | h
  · exact absurd h (by simp only []; omega)
  · exact h

set_option maxHeartbeats 4000000 in
set_option maxRecDepth 1000000 in
theorem simpleFold (x : Nat) (hx : x < 128) (y : Int) (w : World) (hy : 0 ≤ y ∧ y < 65536) (hcell : w.cell? ⟨4, x, none⟩ = some (.int .u16 y)) :
    Calls Tryz.prog 146 #[.int .i32 (x : Int)] w fun e w' => e = .returned (.int .i32 y) ∧ w' = w := by
  have h1 : ¬ ((x : Int) < 0) := by omega
  have h2 : ¬ ((1114111 : Int) < (x : Int)) := by omega
  have h3 : (x : Int) < 128 := by omega
  have c1 : IntKind.i32.wrap y = y := by unfold IntKind.wrap; simp [IntKind.bits, IntKind.signed]; omega
  have c2 : IntKind.i64.wrap (x : Int) = (x : Int) := by unfold IntKind.wrap; simp [IntKind.bits, IntKind.signed]; omega
  go_enter Tryz.func146, Tryz.ntmps146
  go_wp2
  go_ret
  exact ⟨by simp [c1], rfl⟩
def strings_EqualFold.f (a0 a1 : ByteArray) : Option Bool := if a0.size < 4294967281 then (if asciiB a0 = true then (if asciiB a1 = true then some (Lib.equalFold a0.data.toList a1.data.toList) else none) else (if foldS a1 = true then some false else none)) else none

theorem asciiB_no {s : ByteArray} (h : ¬ asciiB s = true) : ∃ (j : Nat) (b : UInt8), s.data.toList[j]? = some b ∧ 128 ≤ b.toNat := by
  apply Classical.byContradiction
  intro hn
  apply h
  unfold asciiB
  rw [List.all_eq_true]
  intro b hb
  obtain ⟨j, hj⟩ := List.getElem?_of_mem hb
  apply decide_eq_true
  apply Classical.byContradiction
  intro h2
  exact hn ⟨j, b, hj, by omega⟩

section
variable {l : Nat} {J : Act → World → Prop} {Q : Exit → Act → World → Prop} {a : Act} {w : World}
theorem jump_normal : Exit.jump l J Q .normal a w = Q .normal a w := rfl
theorem jump_exit (id : Nat) : Exit.jump l J Q (.exit id) a w = Q (.exit id) a w := rfl
theorem jump_ret : Exit.jump l J Q .ret a w = Q .ret a w := rfl
theorem jump_panic (ch : List PanicEntry) : Exit.jump l J Q (.panic ch) a w = Q (.panic ch) a w := rfl
end
attribute [local go_sem] jump_normal jump_exit jump_ret jump_panic
def foldJ (s t : ByteArray) (w : World) : Act → World → Prop := fun a' w' => w' = w ∧ ∃ (i : Nat) (u : Nat → Value), a' = { tmps := #[.string s, .string t, u 2, u 3, u 4, .int .i64 (i : Int), u 6, u 7, u 8, u 9, u 10, u 11, u 12, u 13, u 14, u 15, u 16, u 17, u 18, u 19, u 20, u 21, u 22, u 23, u 24, u 25, u 26, u 27, u 28, u 29, u 30, u 31, u 32, u 33, u 34, u 35, u 36, u 37, u 38, u 39, u 40, u 41, u 42, u 43, u 44, u 45, u 46, u 47, u 48, u 49, u 50, u 51, u 52, u 53, u 54, u 55, u 56, u 57, u 58, u 59, u 60, u 61, u 62, u 63, u 64, u 65, u 66, u 67, u 68, u 69, u 70, u 71, u 72, u 73, u 74, u 75, u 76, u 77, u 78, u 79, u 80, u 81, u 82, u 83, u 84, u 85, u 86, u 87, u 88, u 89, u 90, u 91, u 92, u 93, u 94, u 95, u 96, u 97, u 98, u 99, u 100, u 101, u 102, u 103, u 104, u 105, u 106, u 107, u 108, u 109, u 110, u 111, u 112, u 113, u 114, u 115, u 116, u 117, u 118, u 119, u 120, u 121, u 122], defers := [] } ∧ (i : Int) < (s.size : Int) ∧ (i : Int) < (t.size : Int) ∧ Aside0 (i < s.size ∧ ∀ b, s.data.toList[i]? = some b → 128 ≤ b.toNat)
theorem foldJ_of (s t : ByteArray) (w : World) (i : Nat) (A : Array Value) (h : A = #[.string s, .string t, A.getD 2 undef, A.getD 3 undef, A.getD 4 undef, .int .i64 (i : Int), A.getD 6 undef, A.getD 7 undef, A.getD 8 undef, A.getD 9 undef, A.getD 10 undef, A.getD 11 undef, A.getD 12 undef, A.getD 13 undef, A.getD 14 undef, A.getD 15 undef, A.getD 16 undef, A.getD 17 undef, A.getD 18 undef, A.getD 19 undef, A.getD 20 undef, A.getD 21 undef, A.getD 22 undef, A.getD 23 undef, A.getD 24 undef, A.getD 25 undef, A.getD 26 undef, A.getD 27 undef, A.getD 28 undef, A.getD 29 undef, A.getD 30 undef, A.getD 31 undef, A.getD 32 undef, A.getD 33 undef, A.getD 34 undef, A.getD 35 undef, A.getD 36 undef, A.getD 37 undef, A.getD 38 undef, A.getD 39 undef, A.getD 40 undef, A.getD 41 undef, A.getD 42 undef, A.getD 43 undef, A.getD 44 undef, A.getD 45 undef, A.getD 46 undef, A.getD 47 undef, A.getD 48 undef, A.getD 49 undef, A.getD 50 undef, A.getD 51 undef, A.getD 52 undef, A.getD 53 undef, A.getD 54 undef, A.getD 55 undef, A.getD 56 undef, A.getD 57 undef, A.getD 58 undef, A.getD 59 undef, A.getD 60 undef, A.getD 61 undef, A.getD 62 undef, A.getD 63 undef, A.getD 64 undef, A.getD 65 undef, A.getD 66 undef, A.getD 67 undef, A.getD 68 undef, A.getD 69 undef, A.getD 70 undef, A.getD 71 undef, A.getD 72 undef, A.getD 73 undef, A.getD 74 undef, A.getD 75 undef, A.getD 76 undef, A.getD 77 undef, A.getD 78 undef, A.getD 79 undef, A.getD 80 undef, A.getD 81 undef, A.getD 82 undef, A.getD 83 undef, A.getD 84 undef, A.getD 85 undef, A.getD 86 undef, A.getD 87 undef, A.getD 88 undef, A.getD 89 undef, A.getD 90 undef, A.getD 91 undef, A.getD 92 undef, A.getD 93 undef, A.getD 94 undef, A.getD 95 undef, A.getD 96 undef, A.getD 97 undef, A.getD 98 undef, A.getD 99 undef, A.getD 100 undef, A.getD 101 undef, A.getD 102 undef, A.getD 103 undef, A.getD 104 undef, A.getD 105 undef, A.getD 106 undef, A.getD 107 undef, A.getD 108 undef, A.getD 109 undef, A.getD 110 undef, A.getD 111 undef, A.getD 112 undef, A.getD 113 undef, A.getD 114 undef, A.getD 115 undef, A.getD 116 undef, A.getD 117 undef, A.getD 118 undef, A.getD 119 undef, A.getD 120 undef, A.getD 121 undef, A.getD 122 undef]) (h1 : (i : Int) < (s.size : Int)) (h2 : (i : Int) < (t.size : Int)) (hx : Aside0 (i < s.size ∧ ∀ b, s.data.toList[i]? = some b → 128 ≤ b.toNat)) : foldJ s t w { tmps := A, defers := [] } w :=
  ⟨rfl, i, fun j => A.getD j undef, congrArg (fun x => ({ tmps := x, defers := [] } : Act)) h, h1, h2, hx⟩
set_option maxHeartbeats 16000000 in
set_option maxRecDepth 1000000 in
theorem equalFold_far (s t : ByteArray) (w : World) (hs : s.size < 4294967281) (hns : ¬ asciiB s = true) (ht : foldS t = true) (HLW_ : LW w) :
    Calls Tryz.prog 130 #[.string s, .string t] w fun e w' => e = .returned (.bool false) ∧ Below w.heap.size w w' := by
  have HLW := Aside0.mk HLW_
  clear HLW_
  have HS := Aside0.mk (asciiB_no hns)
  have HT := Aside0.mk (foldS_at ht)
  clear hns ht
  obtain ⟨M, hM⟩ : ∃ M : Nat, min (s.size : Int) (t.size : Int) = (M : Int) := ⟨min s.size t.size, by omega⟩
  have hMs : M ≤ s.size := by omega
  have hMt : M ≤ t.size := by omega
  have hMe : M = s.size ∨ M = t.size := by omega
  go_enter Tryz.func130, Tryz.ntmps130
  go_wp2
  refine wp_scope_jumps 0 (foldJ s t w) (fun _ _ => 0) rfl ?_ ?_
  · go_wp2
    go_loopg [5] M (fun g s5 wx => w = wx ∧ ∃ i : Nat, i + g = M ∧ s5 = .int .i64 i ∧ Aside0 (∀ j b, j < i → s.data.toList[j]? = some b → b.toNat < 128))
    case atStart => exact ⟨rfl, 0, by omega, rfl, ⟨fun j b hj => absurd hj (Nat.not_lt_zero _)⟩⟩
    case round =>
      obtain ⟨rfl, i, hig, rfl, hinv⟩ := hrel
      clear hM
      cases gk with
      | zero =>
        have hiM : ¬ ((i : Int) < (M : Int)) := by omega
        obtain rfl : i = M := by omega
        have hne : ¬ s.size = t.size := by
          intro e
          obtain ⟨j, b, hj, hb⟩ := HS.out
          have hl : j < s.size := by
            rw [Lib.size_eq]
            exact (List.getElem?_eq_some_iff.1 hj).1
          have := hinv.out j b (by omega) hj
          omega
        have hb : ((s.size : Int) == (t.size : Int)) = false := beq_eq_false_iff_ne.2 (by omega)
        go_wp2
        go_ret
        exact ⟨rfl, Below.refl _ _⟩
      | succ g =>
        have hiM : (i : Int) < (M : Int) := by omega
        have hisz : (i : Int) < (s.size : Int) := by omega
        have hitz : (i : Int) < (t.size : Int) := by omega
        obtain ⟨x, hx⟩ : ∃ x : UInt8, s[i]'(by omega) = x := ⟨_, rfl⟩
        obtain ⟨y, hy⟩ : ∃ y : UInt8, t[i]'(by omega) = y := ⟨_, rfl⟩
        have hxl : s.data.toList[i]? = some x := by rw [← hx]; exact Lib.data_getElem? s i (by omega)
        have hyl : t.data.toList[i]? = some y := by rw [← hy]; exact Lib.data_getElem? t i (by omega)
        have hx256 := x.toNat_lt
        have hy128 : y.toNat < 128 := by
          have := HT.out i y hyl
          simp only [foldB, Bool.and_eq_true, decide_eq_true_eq] at this
          exact this.1
        have hor : bits .or .u8 (x.toNat : Int) (y.toNat : Int) = ((x.toNat ||| y.toNat : Nat) : Int) := u8_or_nat _ _ (by omega) (by omega)
        by_cases hx128 : x.toNat < 128
        · have hor128 : ¬ ((128 : Int) ≤ ((x.toNat ||| y.toNat : Nat) : Int)) := by have := Nat.or_lt_two_pow (n := 7) hx128 hy128; omega
          have HI : Aside0 (∀ j b, j < i + 1 → s.data.toList[j]? = some b → b.toNat < 128) := by
            refine ⟨fun j b hj hb => ?_⟩
            by_cases hji : j = i
            · subst hji
              obtain rfl := Option.some.inj (hxl.symm.trans hb)
              exact hx128
            · exact hinv.out j b (by omega) hb
          clear hinv hxl hyl
          go_wp2
          all_goals (try simp only [beq_iff_eq, beq_eq_false_iff_ne, ne_eq] at *)
          all_goals first
            | (go_roundg g
               case measure => omega
               case rel => exact ⟨rfl, i + 1, by omega, by first | rfl | simp, HI⟩)
            | (go_ret
               exact ⟨rfl, Below.refl _ _⟩)
        · have hor128 : (128 : Int) ≤ ((x.toNat ||| y.toNat : Nat) : Int) := by have := (Nat.left_le_or : x.toNat ≤ x.toNat ||| y.toNat); omega
          have HX : Aside0 (i < s.size ∧ ∀ b, s.data.toList[i]? = some b → 128 ≤ b.toNat) := ⟨by omega, fun b hb => by obtain rfl := Option.some.inj (hxl.symm.trans hb); omega⟩
          clear hinv hxl hyl
          go_wp2
          go_step3
          exact And.intro rfl (foldJ_of s t _ i _ rfl hisz hitz HX)
  · rintro a' w' ⟨rfl, i, u, rfl, hisz, hitz, HX⟩
    clear hM hMs hMt hMe HS
    obtain ⟨s', hs'⟩ : ∃ s', s.extract i s.size = s' := ⟨_, rfl⟩
    obtain ⟨t', ht'⟩ : ∃ t', t.extract i t.size = t' := ⟨_, rfl⟩
    have zs : s'.size = s.size - i := by rw [← hs']; simp
    have zt : t'.size = t.size - i := by rw [← ht']; simp
    have hps : 0 < s'.size := by omega
    have hpt : 0 < t'.size := by omega
    have hb0 : 128 ≤ (s'[0]'hps).toNat := by
      have e1 : s'[0]'hps = s[i]'(by omega) := by
        subst hs'
        simp [ByteArray.getElem_extract]
      rw [e1]
      exact HX.out.2 _ (Lib.data_getElem? s i (by omega))
    have hc0 : foldB (t'[0]'hpt) = true := by
      have e1 : t'[0]'hpt = t[i]'(by omega) := by
        subst ht'
        simp [ByteArray.getElem_extract]
      rw [e1]
      exact HT.out i _ (Lib.data_getElem? t i (by omega))
    obtain ⟨c, hc⟩ : ∃ c : Nat, (t'[0]'hpt).toNat = c := ⟨_, rfl⟩
    simp only [foldB, Bool.and_eq_true, decide_eq_true_eq, bne_iff_ne, ne_eq] at hc0
    have hcc : c < 128 := by rw [← hc]; exact hc0.1
    have hcs := foldTab_small c hcc (by rw [← hc]; exact hc0.2.1.1.1) (by rw [← hc]; exact hc0.2.1.1.2) (by rw [← hc]; exact hc0.2.1.2) (by rw [← hc]; exact hc0.2.2)
    have hdt : Utf8.decode t' 0 = (c, 1) := by
      have := decode_ascii t' 0 hpt hc0.1
      rw [this, ← hc]
    have hdg : Lib.decodeGo t' = (c, 1) := by
      unfold Lib.decodeGo
      rw [if_neg (by omega), hdt]
    have hR0 := (decode_high s' 0 hps hb0).1
    obtain ⟨R, hR⟩ : ∃ R, (Utf8.decode s' 0).1 = R := ⟨_, rfl⟩
    obtain ⟨K, hK⟩ : ∃ K, (Utf8.decode s' 0).2 = K := ⟨_, rfl⟩
    have cD := fun W hW => Tryz.utf8_DecodeRuneInString t' W hW
    rw [hdg] at cD
    rw [hR] at hR0
    obtain ⟨y, hy⟩ : ∃ y : Nat, foldTab.getD c 0 = (y : Int) := ⟨(foldTab.getD c 0).toNat, by omega⟩
    rw [hy] at hcs
    have hy128 : y < 128 := by omega
    have hyc : foldTab.getD y 0 = (c : Int) := by have := hcs.2.2; simpa using this
    have FC : ∀ W, LW W → Calls Tryz.prog 146 #[.int .i32 (c : Int)] W fun e w' => e = .returned (.int .i32 (y : Int)) ∧ w' = W := fun W hW => simpleFold c hcc y W (by omega) (by rw [hW.fold c hcc, hy])
    have FY : ∀ W, LW W → Calls Tryz.prog 146 #[.int .i32 (y : Int)] W fun e w' => e = .returned (.int .i32 (c : Int)) ∧ w' = W := fun W hW => simpleFold y hy128 c W (by omega) (by rw [hW.fold y hy128, hyc])
    have hBi : Below w'.heap.size w' (w'.iter s' 0) := (Below.refl _ w').alloc (Nat.le_refl _) _
    have hit0 := World.iter_heap w' s' 0
    clear hb0 hc0 hdt hdg hcs hy hyc hc HX HT
    go_wp2
    go_loopg [1] 0 (fun g v1 wx => v1 = .string t' ∧ wx.heap[w'.heap.size]? = some (.stringIter s' 0) ∧ Below w'.heap.size w' wx)
    case atStart => exact ⟨rfl, hit0, hBi⟩
    case round =>
      clear hit0 hBi
      obtain ⟨rfl, hit, hB⟩ := hrel
      have hnx : ∀ ty, (Instr.next (.pointer (some ⟨w'.heap.size, 0, none⟩)) true ty).run Tryz.prog wr = _ := fun ty => Lib.run_next_any_at wr w'.heap.size s' 0 ty hit hps
      have hB2 := Lib.below_iterAt hB (k := w'.heap.size) (Nat.le_refl _) s' (0 + K)
      rw [hR, hK] at hnx
      obtain ⟨W, hW⟩ : ∃ W, wr.iterAt w'.heap.size s' (0 + K) = W := ⟨_, rfl⟩
      rw [hW] at hnx hB2
      have hLW : LW W := HLW.out.below hB2
      have cD1 := cD W hLW.utf8
      have e1 : ¬ ((t'.size : Int) = 0) := by omega
      have e2 : ((t'.size : Int) == 0) = false := beq_eq_false_iff_ne.2 e1
      have e3 : ((c : Int) == (R : Int)) = false := beq_eq_false_iff_ne.2 (by omega)
      have e4 : (c : Int) < (R : Int) := by omega
      have e5 : ¬ ((R : Int) < 128) := by omega
      have e6 : c < R := by omega
      have e7 : (1 : Int) ≤ (t'.size : Int) := by omega
      have hx : t'.extract 1 t'.size = t'.extract 1 t'.size := rfl
      clear hs' ht' hR hK hW
      go_wp2_with (first | (go_at_call 72; refine cD1.mono ?_; rintro e W1 ⟨rfl, hb1⟩; have hB3 := hB2.trans (hb1.mono hB2.size); have hL1 := HLW.out.below hB3; clear hb1) | (go_at_call 146; refine (FC _ hL1).mono ?_; rintro e W2 ⟨rfl, rfl⟩))
      go_loopg [13] 1 (fun g v13 wy => ∃ z : Nat, v13 = .int .i32 (z : Int) ∧ (z = c ∨ (z = y ∧ g = 1)) ∧ Below w'.heap.size w' wy)
      case atStart => exact ⟨y, rfl, Or.inr ⟨rfl, rfl⟩, hB3⟩
      case round =>
        clear hB3 hL1
        obtain ⟨z, rfl, hz, hB3⟩ := hrel
        have hL1 := HLW.out.below hB3
        by_cases hzc : z = c
        · subst hzc
          have q1 : ((z : Int) != (z : Int)) = false := by simp
          have q2 : ((z : Int) == (R : Int)) = false := beq_eq_false_iff_ne.2 (by omega)
          go_wp2
          go_ret
          exact ⟨rfl, hB3⟩
        · obtain ⟨rfl, rfl⟩ : z = y ∧ gk = 1 := by rcases hz with h | h; exact absurd h hzc; exact h
          have q1 : ((z : Int) != (c : Int)) = true := by simp; omega
          have q2 : (z : Int) < (R : Int) := by omega
          have q3 : z < R := by omega
          go_wp2_with (first | (go_at_call 146; refine (FY _ hL1).mono ?_; rintro e W2 ⟨rfl, rfl⟩))
          go_roundg 0
          case measure => omega
          case rel => exact ⟨c, rfl, Or.inl rfl, hB3⟩
theorem strings_EqualFold.calls (a0 a1 : ByteArray) (r : Bool) (w : World) (h : strings_EqualFold.f a0 a1 = some r) (HLW_ : LW w) :
    Calls Tryz.prog 130 #[.string a0, .string a1] w fun e w' => e = .returned (.bool r) ∧ Below w.heap.size w w' := by
  unfold strings_EqualFold.f at h
  split at h
  · rename_i h0
    split at h
    · rename_i h1
      split at h
      · rename_i h2
        obtain rfl := Option.some.inj h
        exact (Tryz.strings_EqualFold a0 a1 w h0 (asciiB_at h1) (asciiB_at h2)).mono fun e w' ⟨h1, h2⟩ => ⟨h1, by subst h2; exact Below.refl _ _⟩
      · cases h
    · rename_i h1
      split at h
      · rename_i h2
        obtain rfl := Option.some.inj h
        exact equalFold_far a0 a1 w h0 h1 h2 HLW_
      · cases h
  · cases h
end Go.Proofs.YtiidpicgdjjikaaGreatDoor.G
