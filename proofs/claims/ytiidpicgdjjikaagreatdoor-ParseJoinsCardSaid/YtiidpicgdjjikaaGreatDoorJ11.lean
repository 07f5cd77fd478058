import Derived.Deep.RegionLaw
import Derived.Deep.RegionHeld3
import Derived.Deep.QuietTactic
import Derived.BigQuiet
import Derived.StillTailTactics
import Derived.IntWalk
import Derived.Test.YtiidpicgdjjikaaGreatDoorJ6
import Derived.Test.YtiidpicgdjjikaaGreatDoorJ9
namespace Go.Proofs.YtiidpicgdjjikaaGreatDoor.G
open Go.RowKit Go.Lib Go.Maps Go.ChangeMaps Go.MapKept Go.Proofs Go.Proofs.YtiidpicgdjjikaaGreatDoor.P Go.Proofs.YtiidpicgdjjikaaGreatDoorW.PrintWords Go.Proofs.YtiidpicgdjjikaaGreatDoorW.PrintLast Go.Proofs.YtiidpicgdjjikaaGreatDoorW.PrintMore
set_option linter.unusedVariables false
set_option linter.unusedSimpArgs false
structure BSt where
  sort : Int
  colour : Int
  op : Int
  neg : Bool
  whole : ByteArray
  part : ByteArray
  items : List S55
  pos : Int
  kind : Int
  once : List Int
def bcs (b : BSt) (vi vl : Value) (m : Nat) : Array Value := #[.int .i64 b.sort, .int .i64 b.colour, .int .i64 b.op, .bool b.neg, .string b.whole, .string b.part, vi, vl, .int .i64 b.pos, .int .i64 b.kind, .map (some m)]
def onceL (l : List Int) : List (Int × Value) := l.map fun x => (x, .bool true)
structure BInv (n0 : Nat) (w : World) (p m : Nat) (vi vl : Value) (b : BSt) : Prop where
  blk : w.heap[p]? = some (.cells (bcs b vi vl m) 79 (0, 0))
  row : Kd.R k55 55 w n0 (fun _ => True) vi b.items
  map : IMap w m .i64 (onceL b.once)
  hp : n0 ≤ p
  hm : n0 ≤ m
theorem BInv.ne {n0 : Nat} {w : World} {p m : Nat} {vi vl : Value} {b : BSt} (h : BInv n0 w p m vi vl b) : m ≠ p := by
  rintro rfl
  obtain ⟨es, c, he, _⟩ := h.map
  rw [h.blk] at he
  cases he
theorem BInv.below {n0 : Nat} {w w1 : World} {p m : Nat} {vi vl : Value} {b : BSt} (h : BInv n0 w p m vi vl b) (hb : Below w.heap.size w w1) : BInv n0 w1 p m vi vl b :=
  ⟨(hb.block p (blk_lt h.blk)).trans h.blk, Kd.R_below h.row hb, h.map.below hb, h.hp, h.hm⟩
theorem BInv.set {n0 : Nat} {w : World} {p m : Nat} {vi vl vi' vl' : Value} {b b' : BSt} (h : BInv n0 w p m vi vl b) (i : Nat) (u : Value) (e : (bcs b vi vl m).setIfInBounds i u = bcs b' vi' vl' m)
    (hr : Kd.R k55 55 w n0 (fun _ => True) vi' b'.items) (ho : b'.once = b.once) : BInv n0 (w.setCell ⟨p, i, none⟩ u) p m vi' vl' b' :=
  ⟨blk_put h.blk i u e, Kd.R_set hr h.blk (by decide) i u, by
    rw [ho]
    obtain ⟨es, c, he, hl⟩ := h.map
    exact ⟨es, c, (Below.heap_setCell w ⟨p, i, none⟩ u m h.ne).trans he, hl⟩, h.hp, h.hm⟩
theorem onceL_lookup (k : Int) : ∀ l : List Int, (onceL l).lookup k = if k ∈ l then some (.bool true) else none
  | [] => rfl
  | x :: l => by
    have ih := onceL_lookup k l
    unfold onceL at ih ⊢
    rw [List.map_cons, lookup_ite, ih]
    by_cases h : k = x
    · simp [h]
    · simp [h]
theorem R_turn {n0 : Nat} {w w1 : World} {m : Nat} {vi : Value} {q : IntKind} {l : List (Int × Value)} {xs : List S55} (h : Kd.R k55 55 w n0 (fun _ => True) vi xs) (hm : IMap w m q l) (ht : MTurn w w1 m) : Kd.R k55 55 w1 n0 (fun _ => True) vi xs := by
  have hb := Kd.R_bound h
  refine Kd.R_mono (Kd.R_step hb (fun k hk _ => ht.block (fun e => ?_))) (fun _ _ => trivial)
  subst e
  obtain ⟨es, c, he, _⟩ := hm
  obtain ⟨_, _, _, q', _, cells, hc⟩ := hk
  rw [he] at hc
  cases hc
def OnlyT (w w' : World) (m : Nat) : Prop := w' = w ∨ MTurn w w' m
theorem OnlyT.blk {w w' : World} {m k : Nat} {o : Option Obj} (h : OnlyT w w' m) (hk : k ≠ m) (e : w.heap[k]? = o) : w'.heap[k]? = o := by
  rcases h with rfl | h
  · exact e
  · exact (h.block hk).trans e
theorem OnlyT.imap {w w' : World} {m b : Nat} {q : IntKind} {l : List (Int × Value)} (h : OnlyT w w' m) (hk : b ≠ m) (e : IMap w b q l) : IMap w' b q l := by
  rcases h with rfl | h
  · exact e
  · exact e.turn h hk
theorem OnlyT.size {w w' : World} {m : Nat} (h : OnlyT w w' m) : w'.heap.size = w.heap.size := by
  rcases h with rfl | h
  · rfl
  · exact h.size
def onlyF (b : BSt) (k : Int) : Int × BSt := if k ∈ b.once then (10, b) else (0, { b with once := b.once ++ [k] })
set_option maxHeartbeats 4000000 in
set_option maxRecDepth 1000000 in
theorem only_calls {n0 : Nat} {w0 w : World} {p m : Nat} {vi vl : Value} {b : BSt} (k : Int) (hI : BInv n0 w p m vi vl b) (hB : Below n0 w0 w) :
    Calls Tryz.prog 84 #[.pointer (some ⟨p, 0, none⟩), .int .i64 k] w fun e w' => e = .returned (.int .i64 (onlyF b k).1) ∧ Below n0 w0 w' ∧ BInv n0 w' p m vi vl (onlyF b k).2 ∧ OnlyT w w' m := by
  have hz : ∀ W : World, (zeroValue 4).run Tryz.prog W = .ok (.bool false) W := fun W => by kernel_rfl
  have hL := onceL_lookup k b.once
  have hc : w.cell? ⟨p, 10, none⟩ = some (.map (some m)) := (blk_cell hI.blk 10).trans rfl
  have hM := hI.map
  have HI := Aside0.mk hI
  clear hI
  by_cases h : k ∈ b.once
  · rw [if_pos h] at hL
    have e : onlyF b k = (10, b) := if_pos h
    rw [e]
    go_enter Tryz.func84, Tryz.ntmps84
    go_wp2_with (first
      | (refine wpList_lookup_imap rfl _ _ _ _ rfl _ _ .i64 Tryz.underlying77 Tryz.underlying51 (hz _) m _ rfl hM k rfl ?_; rw [hL]))
    go_ret
    exact ⟨rfl, hB, HI.out, Or.inl rfl⟩
  · rw [if_neg h] at hL
    have e : onlyF b k = (0, { b with once := b.once ++ [k] }) := if_neg h
    rw [e]
    go_enter Tryz.func84, Tryz.ntmps84
    go_wp2_with (first
      | (refine wpList_lookup_imap rfl _ _ _ _ rfl _ _ .i64 Tryz.underlying77 Tryz.underlying51 (hz _) m _ rfl hM k rfl ?_; rw [hL])
      | (refine wpList_mapUpdate_imap rfl _ _ _ _ rfl _ _ .i64 Tryz.underlying77 Tryz.underlying51 m _ rfl hM k (.bool true) rfl rfl hL ?_; intro w1 hM1 ht1))
    go_ret
    exact ⟨rfl, MTurn.below hB HI.out.hm ht1, ⟨(ht1.block (Ne.symm HI.out.ne)).trans HI.out.blk, R_turn HI.out.row HI.out.map ht1, by unfold onceL at hM1 ⊢; simpa using hM1, HI.out.hp, HI.out.hm⟩, Or.inr ht1⟩
def KeepT (w w' : World) : Prop := ∀ (g : Nat) (cs : Array Value) (t : TypeId), t ≠ 79 → t ≠ 55 → w.heap[g]? = some (.cells cs t (0, 0)) → w'.heap[g]? = some (.cells cs t (0, 0))
theorem KeepT.below {w w1 : World} (hb : Below w.heap.size w w1) : KeepT w w1 := fun g cs t _ _ h => (hb.block g (blk_lt h)).trans h
theorem KeepT.trans {w w1 w2 : World} (h : KeepT w w1) (h2 : KeepT w1 w2) : KeepT w w2 := fun g cs t a b e => h2 g cs t a b (h g cs t a b e)
theorem KeepT.set {w : World} {g j : Nat} {cs : Array Value} {t : TypeId} {u : Value} (hg : w.heap[g]? = some (.cells cs t (0, 0))) (ht : t = 79 ∨ t = 55) : KeepT w (w.setCell ⟨g, j, none⟩ u) := fun g' cs' t' a b h =>
  blk_far h (blk_ne h hg (by rcases ht with rfl | rfl; exact a; exact b)) _
theorem KeepT.grown {w w1 : World} {n0 : Nat} {ok : Nat → Prop} {v : Value} {xs : List S55} (hR : Kd.R k55 55 w n0 ok v xs) (hg : w.grownBy w1 v.ownBlock) : KeepT w w1 := fun g cs t a b h =>
  blk_grown h hg (Kd.R_ne hR h (Ne.symm b))
def lastI (l : List S55) : S55 := rd_T55 l ((l.length : Int) - 1)
def addF (b : BSt) (x : S55) : Option BSt :=
  if x.f0 = 1 ∧ x.f1.toList = [] then some b
  else if x.f0 = 1 ∧ 0 < b.items.length ∧ (lastI b.items).f0 = 1 then
    (if (lastI b.items).f1.size + x.f1.size ≤ 9223372036854775807 then some { b with items := b.items.set (b.items.length - 1) ⟨(lastI b.items).f0, (lastI b.items).f1 ++ x.f1, (lastI b.items).f2⟩ } else none)
  else if b.items.length < 1000000000 then some { b with items := b.items ++ [x] } else none
theorem BInv.mapNe {n0 : Nat} {w : World} {p m : Nat} {vi vl : Value} {b : BSt} (h : BInv n0 w p m vi vl b) : some m ≠ vi.ownBlock := by
  intro e
  obtain ⟨cells, hc⟩ := Kd.R_typed h.row m e.symm
  obtain ⟨es, c, he, _⟩ := h.map
  rw [he] at hc
  cases hc
theorem BInv.drew {n0 : Nat} {w : World} {p m : Nat} {vi vl : Value} {b : BSt} (h : BInv n0 w p m vi vl b) : BInv n0 w.drew p m vi vl b := h.below (below_drew (Below.refl _ _))
theorem BInv.text {n0 : Nat} {w : World} {p m g c q : Nat} {vl : Value} {b : BSt} (h : BInv n0 w p m (.slice (some ⟨g, 0, none⟩) b.items.length c) vl b) (hq : b.items.length = q + 1) (v : ByteArray) :
    BInv n0 (w.setCell ⟨g, q * 3 + 1, none⟩ (.string v)) p m (.slice (some ⟨g, 0, none⟩) b.items.length c) vl { b with items := b.items.set q ⟨(rd_T55 b.items (q : Int)).f0, v, (rd_T55 b.items (q : Int)).f2⟩ } := by
  have h0 : 0 ≤ (q : Int) := Int.natCast_nonneg q
  have h1 : (q : Int) < (b.items.length : Int) := by omega
  obtain ⟨ce, hcl, hM, hcc, hfr⟩ := Kd.R_elem h.row z55 (q : Int) h0 h1
  obtain rfl := k55_openM hM
  have hs := (Kd.R_seg h.row (q : Int) h0 h1 (seg := [.string v]) (j := 1) hcl hcc (show 2 ≤ 3 from by decide) (x' := (⟨(rd_T55 b.items (q : Int)).f0, v, (rd_T55 b.items (q : Int)).f2⟩ : S55)) (k55_mkM _ _ (fun _ => False) (⟨(rd_T55 b.items (q : Int)).f0, v, (rd_T55 b.items (q : Int)).f2⟩ : S55)) (fun _ hk => hk.elim)).1
  have hs2 : Kd.R k55 55 (w.setCell ⟨g, (q : Int).toNat * 3 + 1, none⟩ (.string v)) n0 (fun _ => True) (.slice (some ⟨g, 0, none⟩) b.items.length c) (b.items.set (q : Int).toNat ⟨(rd_T55 b.items (q : Int)).f0, v, (rd_T55 b.items (q : Int)).f2⟩) := hs
  rw [Int.toNat_natCast] at hs2
  have hpg : p ≠ g := fun e => Kd.R_ne h.row h.blk (by decide) (by rw [e]; simp [Value.ownBlock])
  have hmg : m ≠ g := fun e => h.mapNe (by rw [e]; simp [Value.ownBlock])
  refine ⟨blk_far h.blk hpg _, hs2, ?_, h.hp, h.hm⟩
  obtain ⟨es, cl, he, hl⟩ := h.map
  exact ⟨es, cl, (Below.heap_setCell w ⟨g, q * 3 + 1, none⟩ _ m hmg).trans he, hl⟩
theorem BInv.app {n0 : Nat} {w w1 : World} {p m : Nat} {vi vl v1 : Value} {b : BSt} {x : S55} (h : BInv n0 w p m vi vl b) (hR : Kd.R k55 55 w1 n0 (fun _ => True) v1 (b.items ++ [x])) (hg : w.grownBy w1 vi.ownBlock) :
    BInv n0 (w1.setCell ⟨p, 6, none⟩ v1) p m v1 vl { b with items := b.items ++ [x] } := by
  have hb := blk_grown h.blk hg (Kd.R_ne h.row h.blk (by decide))
  refine ⟨blk_put hb 6 v1 rfl, Kd.R_set hR hb (by decide) 6 v1, ?_, h.hp, h.hm⟩
  obtain ⟨es, cl, he, hl⟩ := h.map
  exact ⟨es, cl, (Below.heap_setCell w1 ⟨p, 6, none⟩ _ m h.ne).trans ((hg.block m h.map.lt h.mapNe).trans he), hl⟩
attribute [local go_sem] isSome_setCell_eq
set_option maxHeartbeats 8000000 in
set_option maxRecDepth 1000000 in
theorem add_calls {n0 : Nat} {w0 w : World} {p m : Nat} {vi vl : Value} {b b' : BSt} (x : S55) (hI : BInv n0 w p m vi vl b) (hB : Below n0 w0 w) (hn : n0 ≤ w.heap.size) (h : addF b x = some b') :
    Calls Tryz.prog 55 #[.pointer (some ⟨p, 0, none⟩), .agg #[.int .i64 x.f0, .string x.f1, .int .i64 x.f2]] w fun e w' => e = .returned (.tuple #[]) ∧ Below n0 w0 w' ∧ (∃ vi', BInv n0 w' p m vi' vl b') ∧ KeepT w w' := by
  obtain ⟨A, c, rfl, hlc, hC⟩ := Kd.R_reads hI.row
  have hu := Tryz.underlying55
  have hu2 := Tryz.underlying79
  have hu3 := Tryz.underlying33
  unfold addF at h
  by_cases h1 : x.f0 = 1 ∧ x.f1.toList = []
  · rw [if_pos h1] at h
    obtain rfl := Option.some.inj h
    have c1 : (x.f0 == 1) = true := beq_iff_eq.mpr h1.1
    have c2 : (x.f1.toList == ([] : List UInt8)) = true := beq_iff_eq.mpr h1.2
    go_enter Tryz.func55, Tryz.ntmps55
    go_wp2_with (first
      | ((with_reducible refine gate_dst (N := 3) rfl ?_); refine box_event ?hg (N := 3) ?hd (cs := #[.int .i64 x.f0, .string x.f1, .int .i64 x.f2]) (t := 55) ?hr ?_; (case hd => rfl); (case hg => rfl); (case hr => first | (go_simp; done) | (go_simp; rfl)); intro g3 hg w3 hbox hb; have hI3 := hI.below hb; have hB3 := Below.trans hB (hb.mono hn); have k6 : w3.cell? ⟨p, 6, none⟩ = some (.slice A b.items.length c) := (blk_cell hI3.blk 6).trans rfl; have k30 : w3.cell? ⟨g3, 0, none⟩ = some (.int .i64 x.f0) := (blk_cell hbox 0).trans rfl; have k31 : w3.cell? ⟨g3, 1, none⟩ = some (.string x.f1) := (blk_cell hbox 1).trans rfl; clear hg))
    go_end0
    exact ⟨rfl, hB3, ⟨_, hI3⟩, KeepT.below hb⟩
  · rw [if_neg h1] at h
    by_cases h2 : x.f0 = 1 ∧ 0 < b.items.length ∧ (lastI b.items).f0 = 1
    · rw [if_pos h2] at h
      by_cases h3 : (lastI b.items).f1.size + x.f1.size ≤ 9223372036854775807
      · rw [if_pos h3] at h
        obtain rfl := Option.some.inj h
        obtain ⟨q, hq⟩ : ∃ q : Nat, b.items.length = q + 1 := ⟨b.items.length - 1, by omega⟩
        have hj : (b.items.length : Int) - 1 = (q : Int) := by omega
        have hl : lastI b.items = rd_T55 b.items (q : Int) := by
          unfold lastI
          rw [hj]
        rw [hl] at h2 h3
        rw [hl]
        have c1 : (x.f0 == 1) = true := beq_iff_eq.mpr h2.1
        have c2 : (x.f1.toList == ([] : List UInt8)) = false := beq_eq_false_iff_ne.mpr (fun e => h1 ⟨h2.1, e⟩)
        have c3 : decide (0 < (b.items.length : Int)) = true := decide_eq_true (by omega)
        have c3' : decide (0 < b.items.length) = true := decide_eq_true (by omega)
        have c4 : ((rd_T55 b.items (q : Int)).f0 == 1) = true := beq_iff_eq.mpr h2.2.2
        have c5 : (0 ≤ (q : Int)) = True := eq_true (by omega)
        have c6 : ((q : Int) < (b.items.length : Int)) = True := eq_true (by omega)
        obtain ⟨g, cap, e1, gb, gl, cells, hg0⟩ := Kd.R_form hI.row (by omega)
        have hw : IntKind.i64.wrap ((b.items.length : Int) - 1) = (q : Int) := by
          have := Kd.C_max hC
          rw [hj]
          exact IntWalk.i64_in _ (by omega)
        have hw2 : wrap64 ((b.items.length : Int) - 1) = (q : Int) := (i64_w _).symm.trans hw
        have hw3 : wrap64 (q : Int) = (q : Int) := by rw [← hj]; rw [hw2, hj]
        have hw4 : IntKind.i64.wrap (q : Int) = (q : Int) := (i64_w _).trans hw3
        have HQ := Aside0.mk hq
        clear hq
        injection e1 with e2 _ e3
        subst e2
        subst e3
        go_enter Tryz.func55, Tryz.ntmps55
        go_wp2_with (first | ((with_reducible refine gate_dst (N := 3) rfl ?_); refine box_event ?hg (N := 3) ?hd (cs := #[.int .i64 x.f0, .string x.f1, .int .i64 x.f2]) (t := 55) ?hr ?_; (case hd => rfl); (case hg => rfl); (case hr => first | (go_simp; done) | (go_simp; rfl)); intro g3 hg w3 hbox hb; have hI3 := hI.below hb; have hB3 := Below.trans hB (hb.mono hn); have k6 : w3.cell? ⟨p, 6, none⟩ = some (.slice (some ⟨g, 0, none⟩) b.items.length c) := (blk_cell hI3.blk 6).trans rfl; have k30 : w3.cell? ⟨g3, 0, none⟩ = some (.int .i64 x.f0) := (blk_cell hbox 0).trans rfl; have k31 : w3.cell? ⟨g3, 1, none⟩ = some (.string x.f1) := (blk_cell hbox 1).trans rfl; clear hg; obtain ⟨ce, hcl, hM, hcc, hfr⟩ := Kd.R_elem hI3.row z55 (q : Int) (of_eq_true c5) (of_eq_true c6); obtain rfl := k55_openM hM; have e0 : w3.cell? ⟨g, (q : Int).toNat * 3, none⟩ = some (.int .i64 (rd_T55 b.items (q : Int)).f0) := hcc 0 _ rfl; have e1 : w3.cell? ⟨g, (q : Int).toNat * 3 + 1, none⟩ = some (.string (rd_T55 b.items (q : Int)).f1) := hcc 1 _ rfl; have f1 : w3.frozen? ⟨g, (q : Int).toNat * 3 + 1, none⟩ = false := hfr 1; rw [Int.toNat_natCast] at e0 e1 f1; clear hM hfr))
        have z1 : ((rd_T55 b.items (q : Int)).f1.size + x.f1.size ≤ 9223372036854775807) = True := eq_true h3
        have z2 : (9223372036854775807 < (rd_T55 b.items (q : Int)).f1.size + x.f1.size) = False := eq_false (Nat.not_lt.2 h3)
        have HF : Aside0 (Below n0 w0 (w3.setCell ⟨g, q * 3 + 1, none⟩ (.string ((rd_T55 b.items (q : Int)).f1 ++ x.f1))).drew ∧ ∃ vi', BInv n0 (w3.setCell ⟨g, q * 3 + 1, none⟩ (.string ((rd_T55 b.items (q : Int)).f1 ++ x.f1))).drew p m vi' vl { b with items := b.items.set (b.items.length - 1) ⟨(rd_T55 b.items (q : Int)).f0, (rd_T55 b.items (q : Int)).f1 ++ x.f1, (rd_T55 b.items (q : Int)).f2⟩ }) := by
          refine ⟨below_drew (hB3.setCell gb _), .slice (some ⟨g, 0, none⟩) b.items.length c, BInv.drew ?_⟩
          have := BInv.text hI3 HQ.out ((rd_T55 b.items (q : Int)).f1 ++ x.f1)
          rw [show b.items.length - 1 = q from by rw [HQ.out]; rfl]
          exact this
        have HKT : Aside0 (KeepT w (w3.setCell ⟨g, q * 3 + 1, none⟩ (.string ((rd_T55 b.items (q : Int)).f1 ++ x.f1))).drew) := ⟨(KeepT.below hb).trans ((KeepT.set ((hb.block g gl).trans hg0) (Or.inr rfl)).trans (KeepT.below (below_drew (Below.refl _ _))))⟩
        go_region_law (fail)
        all_goals (go_wp2; go_end0; exact ⟨rfl, HF.out.1, HF.out.2, HKT.out⟩)
      · rw [if_neg h3] at h
        cases h
    · rw [if_neg h2] at h
      by_cases h3 : b.items.length < 1000000000
      · rw [if_pos h3] at h
        obtain rfl := Option.some.inj h
        by_cases d1 : x.f0 = 1
        · have c1 : (x.f0 == 1) = true := beq_iff_eq.mpr d1
          have c2 : (x.f1.toList == ([] : List UInt8)) = false := beq_eq_false_iff_ne.mpr (fun e => h1 ⟨d1, e⟩)
          by_cases d2 : 0 < b.items.length
          · obtain ⟨q, hq⟩ : ∃ q : Nat, b.items.length = q + 1 := ⟨b.items.length - 1, by omega⟩
            have hj : (b.items.length : Int) - 1 = (q : Int) := by omega
            have hl : lastI b.items = rd_T55 b.items (q : Int) := by
              unfold lastI
              rw [hj]
            rw [hl] at h2
            have c3 : decide (0 < (b.items.length : Int)) = true := decide_eq_true (by omega)
            have c3' : decide (0 < b.items.length) = true := decide_eq_true (by omega)
            have c4 : ((rd_T55 b.items (q : Int)).f0 == 1) = false := beq_eq_false_iff_ne.mpr (fun e => h2 ⟨d1, d2, e⟩)
            have c5 : (0 ≤ (q : Int)) = True := eq_true (by omega)
            have c6 : ((q : Int) < (b.items.length : Int)) = True := eq_true (by omega)
            obtain ⟨g, cap, e1, gb, gl, cells, hg0⟩ := Kd.R_form hI.row (by omega)
            have hw : IntKind.i64.wrap ((b.items.length : Int) - 1) = (q : Int) := by
              have := Kd.C_max hC
              rw [hj]
              exact IntWalk.i64_in _ (by omega)
            have hw2 : wrap64 ((b.items.length : Int) - 1) = (q : Int) := (i64_w _).symm.trans hw
            have hw3 : wrap64 (q : Int) = (q : Int) := by rw [← hj]; rw [hw2, hj]
            have hw4 : IntKind.i64.wrap (q : Int) = (q : Int) := (i64_w _).trans hw3
            clear hq h2 d1 h1
            injection e1 with e2 _ e3
            subst e2
            subst e3
            have HP := Aside0.mk hI.hp
            go_enter Tryz.func55, Tryz.ntmps55
            go_wp2_with (first | ((with_reducible refine gate_dst (N := 3) rfl ?_); refine box_event ?hg (N := 3) ?hd (cs := #[.int .i64 x.f0, .string x.f1, .int .i64 x.f2]) (t := 55) ?hr ?_; (case hd => rfl); (case hg => rfl); (case hr => first | (go_simp; done) | (go_simp; rfl)); intro g3 hg w3 hbox hb; have hI3 := hI.below hb; have hB3 := Below.trans hB (hb.mono hn); have k6 : w3.cell? ⟨p, 6, none⟩ = some (.slice (some ⟨g, 0, none⟩) b.items.length c) := (blk_cell hI3.blk 6).trans rfl; have k30 : w3.cell? ⟨g3, 0, none⟩ = some (.int .i64 x.f0) := (blk_cell hbox 0).trans rfl; have k31 : w3.cell? ⟨g3, 1, none⟩ = some (.string x.f1) := (blk_cell hbox 1).trans rfl; have k32 : w3.cell? ⟨g3, 2, none⟩ = some (.int .i64 x.f2) := (blk_cell hbox 2).trans rfl; have hsz : n0 ≤ w3.heap.size := Nat.le_trans hn hb.size; clear hg; obtain ⟨ce, hcl, hM, hcc, hfr⟩ := Kd.R_elem hI3.row z55 (q : Int) (of_eq_true c5) (of_eq_true c6); obtain rfl := k55_openM hM; have e0 : w3.cell? ⟨g, (q : Int).toNat * 3, none⟩ = some (.int .i64 (rd_T55 b.items (q : Int)).f0) := hcc 0 _ rfl; have e1 : w3.cell? ⟨g, (q : Int).toNat * 3 + 1, none⟩ = some (.string (rd_T55 b.items (q : Int)).f1) := hcc 1 _ rfl; have f1 : w3.frozen? ⟨g, (q : Int).toNat * 3 + 1, none⟩ = false := hfr 1; rw [Int.toNat_natCast] at e0 e1 f1; clear hM hfr))
            have hblk := hI3.blk
            have k6a : ∀ o, (w3.alloc o).cell? ⟨p, 6, none⟩ = some (.slice (some ⟨g, 0, none⟩) b.items.length c) := fun o => (blk_cell ((Below.heap_alloc w3 o _ (blk_lt hblk)).trans hblk) 6).trans rfl
            have hR3 := hI3.row
            have hM3 := hI3.map
            go_region_law (first | (refine Kd.R_append_step k55 (w0 := w0) n0 (by rfl) (.tmp 16) (.tmp 18) 31 55 (.agg #[.int .i64 0, .string ⟨#[]⟩, .int .i64 0]) 32 rfl Tryz.underlying31 info55 rfl (by decide) (by decide) (.slice (some ⟨g, 0, none⟩) b.items.length c) b.items x [.int .i64 x.f0, .string x.f1, .int .i64 x.f2] (fun _ => True) (fun _ => False) rfl rfl (k55_mkM _ _ _ x) (fun _ hk => hk.elim) (fun _ _ => trivial) (Kd.R_drew hR3) (below_drew hB3) (show n0 ≤ w3.heap.size from hsz) (by omega) ?_; intro v1 w1 hR1 hB1 hg1 hat1; obtain ⟨A1, c1, rfl⟩ := Kd.R_slice hR1; have blk1 := blk_grown (show w3.drew.heap[p]? = _ from hblk) hg1 (Kd.R_ne (Kd.R_drew hR3) (show w3.drew.heap[p]? = _ from hblk) (by decide)); have k61 : w1.cell? ⟨p, 6, none⟩ = some (.slice (some ⟨g, 0, none⟩) b.items.length c) := (blk_cell blk1 6).trans rfl; have f61 := blk_frozen blk1 6; have HF := Aside0.mk (BInv.app hI3.drew hR1 hg1); have HB1 := Aside0.mk hB1; have HKT := Aside0.mk (((KeepT.below hb).trans (KeepT.below (below_drew (Below.refl _ w3)))).trans ((KeepT.grown (Kd.R_drew hR3) hg1).trans (KeepT.set (j := 6) (u := .slice A1 (b.items ++ [x]).length c1) blk1 (Or.inl rfl))))))
            all_goals (go_wp2; go_end0; exact ⟨rfl, Below.setCell HB1.out HP.out _, ⟨_, by have h_ := HF.out; simp only [List.length_append, List.length_singleton] at h_; exact h_⟩, by have h_ := HKT.out; simp only [List.length_append, List.length_singleton] at h_; exact h_⟩)
          · have c3 : decide (0 < (b.items.length : Int)) = false := decide_eq_false (by omega)
            have c3' : decide (0 < b.items.length) = false := decide_eq_false (by omega)
            clear d1 h1 h2
            have HP := Aside0.mk hI.hp
            go_enter Tryz.func55, Tryz.ntmps55
            go_wp2_with (first | ((with_reducible refine gate_dst (N := 3) rfl ?_); refine box_event ?hg (N := 3) ?hd (cs := #[.int .i64 x.f0, .string x.f1, .int .i64 x.f2]) (t := 55) ?hr ?_; (case hd => rfl); (case hg => rfl); (case hr => first | (go_simp; done) | (go_simp; rfl)); intro g3 hg w3 hbox hb; have hI3 := hI.below hb; have hB3 := Below.trans hB (hb.mono hn); have k6 : w3.cell? ⟨p, 6, none⟩ = some (.slice A b.items.length c) := (blk_cell hI3.blk 6).trans rfl; have k30 : w3.cell? ⟨g3, 0, none⟩ = some (.int .i64 x.f0) := (blk_cell hbox 0).trans rfl; have k31 : w3.cell? ⟨g3, 1, none⟩ = some (.string x.f1) := (blk_cell hbox 1).trans rfl; have k32 : w3.cell? ⟨g3, 2, none⟩ = some (.int .i64 x.f2) := (blk_cell hbox 2).trans rfl; have hsz : n0 ≤ w3.heap.size := Nat.le_trans hn hb.size; clear hg))
            have hblk := hI3.blk
            have k6a : ∀ o, (w3.alloc o).cell? ⟨p, 6, none⟩ = some (.slice A b.items.length c) := fun o => (blk_cell ((Below.heap_alloc w3 o _ (blk_lt hblk)).trans hblk) 6).trans rfl
            have hR3 := hI3.row
            have hM3 := hI3.map
            go_region_law (first | (refine Kd.R_append_step k55 (w0 := w0) n0 (by rfl) (.tmp 16) (.tmp 18) 31 55 (.agg #[.int .i64 0, .string ⟨#[]⟩, .int .i64 0]) 32 rfl Tryz.underlying31 info55 rfl (by decide) (by decide) (.slice A b.items.length c) b.items x [.int .i64 x.f0, .string x.f1, .int .i64 x.f2] (fun _ => True) (fun _ => False) rfl rfl (k55_mkM _ _ _ x) (fun _ hk => hk.elim) (fun _ _ => trivial) (Kd.R_drew hR3) (below_drew hB3) (show n0 ≤ w3.heap.size from hsz) (by omega) ?_; intro v1 w1 hR1 hB1 hg1 hat1; obtain ⟨A1, c1, rfl⟩ := Kd.R_slice hR1; have blk1 := blk_grown (show w3.drew.heap[p]? = _ from hblk) hg1 (Kd.R_ne (Kd.R_drew hR3) (show w3.drew.heap[p]? = _ from hblk) (by decide)); have k61 : w1.cell? ⟨p, 6, none⟩ = some (.slice A b.items.length c) := (blk_cell blk1 6).trans rfl; have f61 := blk_frozen blk1 6; have HF := Aside0.mk (BInv.app hI3.drew hR1 hg1); have HB1 := Aside0.mk hB1; have HKT := Aside0.mk (((KeepT.below hb).trans (KeepT.below (below_drew (Below.refl _ w3)))).trans ((KeepT.grown (Kd.R_drew hR3) hg1).trans (KeepT.set (j := 6) (u := .slice A1 (b.items ++ [x]).length c1) blk1 (Or.inl rfl))))))
            all_goals (go_wp2; go_end0; exact ⟨rfl, Below.setCell HB1.out HP.out _, ⟨_, by have h_ := HF.out; simp only [List.length_append, List.length_singleton] at h_; exact h_⟩, by have h_ := HKT.out; simp only [List.length_append, List.length_singleton] at h_; exact h_⟩)
        · have c1 : (x.f0 == 1) = false := beq_eq_false_iff_ne.mpr d1
          have HP := Aside0.mk hI.hp
          go_enter Tryz.func55, Tryz.ntmps55
          go_wp2_with (first | ((with_reducible refine gate_dst (N := 3) rfl ?_); refine box_event ?hg (N := 3) ?hd (cs := #[.int .i64 x.f0, .string x.f1, .int .i64 x.f2]) (t := 55) ?hr ?_; (case hd => rfl); (case hg => rfl); (case hr => first | (go_simp; done) | (go_simp; rfl)); intro g3 hg w3 hbox hb; have hI3 := hI.below hb; have hB3 := Below.trans hB (hb.mono hn); have k6 : w3.cell? ⟨p, 6, none⟩ = some (.slice A b.items.length c) := (blk_cell hI3.blk 6).trans rfl; have k30 : w3.cell? ⟨g3, 0, none⟩ = some (.int .i64 x.f0) := (blk_cell hbox 0).trans rfl; have k31 : w3.cell? ⟨g3, 1, none⟩ = some (.string x.f1) := (blk_cell hbox 1).trans rfl; have k32 : w3.cell? ⟨g3, 2, none⟩ = some (.int .i64 x.f2) := (blk_cell hbox 2).trans rfl; have hsz : n0 ≤ w3.heap.size := Nat.le_trans hn hb.size; clear hg))
          have hblk := hI3.blk
          have k6a : ∀ o, (w3.alloc o).cell? ⟨p, 6, none⟩ = some (.slice A b.items.length c) := fun o => (blk_cell ((Below.heap_alloc w3 o _ (blk_lt hblk)).trans hblk) 6).trans rfl
          have hR3 := hI3.row
          have hM3 := hI3.map
          go_region_law (first | (refine Kd.R_append_step k55 (w0 := w0) n0 (by rfl) (.tmp 16) (.tmp 18) 31 55 (.agg #[.int .i64 0, .string ⟨#[]⟩, .int .i64 0]) 32 rfl Tryz.underlying31 info55 rfl (by decide) (by decide) (.slice A b.items.length c) b.items x [.int .i64 x.f0, .string x.f1, .int .i64 x.f2] (fun _ => True) (fun _ => False) rfl rfl (k55_mkM _ _ _ x) (fun _ hk => hk.elim) (fun _ _ => trivial) (Kd.R_drew hR3) (below_drew hB3) (show n0 ≤ w3.heap.size from hsz) (by omega) ?_; intro v1 w1 hR1 hB1 hg1 hat1; obtain ⟨A1, c1, rfl⟩ := Kd.R_slice hR1; have blk1 := blk_grown (show w3.drew.heap[p]? = _ from hblk) hg1 (Kd.R_ne (Kd.R_drew hR3) (show w3.drew.heap[p]? = _ from hblk) (by decide)); have k61 : w1.cell? ⟨p, 6, none⟩ = some (.slice A b.items.length c) := (blk_cell blk1 6).trans rfl; have f61 := blk_frozen blk1 6; have HF := Aside0.mk (BInv.app hI3.drew hR1 hg1); have HB1 := Aside0.mk hB1; have HKT := Aside0.mk (((KeepT.below hb).trans (KeepT.below (below_drew (Below.refl _ w3)))).trans ((KeepT.grown (Kd.R_drew hR3) hg1).trans (KeepT.set (j := 6) (u := .slice A1 (b.items ++ [x]).length c1) blk1 (Or.inl rfl))))))
          all_goals (go_wp2; go_end0; exact ⟨rfl, Below.setCell HB1.out HP.out _, ⟨_, by have h_ := HF.out; simp only [List.length_append, List.length_singleton] at h_; exact h_⟩, by have h_ := HKT.out; simp only [List.length_append, List.length_singleton] at h_; exact h_⟩)
      · rw [if_neg h3] at h
        cases h
end Go.Proofs.YtiidpicgdjjikaaGreatDoor.G
