import Derived.Deep.RegionWith
import Derived.Test.YtiidpicgdjjikaaGreatDoorJ13
namespace Go.Proofs.YtiidpicgdjjikaaGreatDoor.G
open Go.RowKit Go.Lib Go.Maps Go.ChangeMaps Go.MapKept Go.Proofs Go.Proofs.YtiidpicgdjjikaaGreatDoor.P Go.Proofs.YtiidpicgdjjikaaGreatDoorW.PrintWords Go.Proofs.YtiidpicgdjjikaaGreatDoorW.PrintLast Go.Proofs.YtiidpicgdjjikaaGreatDoorW.PrintMore
set_option linter.unusedVariables false
set_option linter.unusedSimpArgs false
theorem drawn_below {W w2 : World} (h : Drawn0 W.drew w2) : Below W.heap.size W w2 := by
  obtain ⟨n, rfl⟩ := h
  exact (below_drew (Below.refl W.heap.size W)).trans (pw_below_drewN (Below.refl _ _) n)
attribute [local irreducible] Gw
attribute [local go_sem] isSome_setCell_eq run_makeMap_none Gw_alloc Gw_size
set_option maxHeartbeats 8000000 in
set_option maxRecDepth 1000000 in
theorem sign_calls (k : Nat) {n0 : Nat} {w0 w : World} {p m : Nat} {vi vl : Value} {b b' : BSt} {r : Int} (x : S53) (hI : BInv n0 w p m vi vl b) (hB : Below n0 w0 w) (hn : n0 ≤ w.heap.size) (h : signF k b x = some (r, b')) :
    Calls Tryz.prog 56 #[.pointer (some ⟨p, 0, none⟩), .agg #[.int .i64 x.f0, .string x.f1, .int .i64 x.f2, .int .i64 x.f3]] w fun e w' => e = .returned (.int .i64 r) ∧ Below n0 w0 w' ∧ ∃ vi', BInv n0 w' p m vi' vl b' := by
  have HI := Aside0.mk hI
  have HB := Aside0.mk hB
  have HN := Aside0.mk hn
  have H := Aside0.mk h
  clear hI hB hn h
  have hz1 : ∀ W : World, (zeroValue 45).run Tryz.prog W = .ok (.int .i64 0) W := fun W => by kernel_rfl
  have hz2 : ∀ W : World, (zeroValue 154).run Tryz.prog W = .ok (.slice none 0 0) W := fun W => by kernel_rfl
  have HZ1 := Aside0.mk hz1
  have HZ2 := Aside0.mk hz2
  clear hz1 hz2
  go_enter Tryz.func56, Tryz.ntmps56
  go_wp2_with (first
    | ((with_reducible refine gate_dst (N := 3) rfl ?_); refine box_event ?hg (N := 3) ?hd (cs := #[.int .i64 x.f0, .string x.f1, .int .i64 x.f2, .int .i64 x.f3]) (t := 53) ?hr ?_; (case hd => rfl); (case hg => rfl); (case hr => first | (go_simp; done) | (go_simp; rfl)); intro g3 hg w1 hbox hb; have HG := Aside0.mk hg; have HK := Aside0.mk hbox; have HBx := Aside0.mk hb; have hG1 := Gw_one w1 (.map #[] 0); clear hg hbox hb)
    | (refine wpList_insert_G (w := w1) rfl _ _ _ 153 rfl _ _ .i64 Tryz.underlying153 Tryz.underlying51 0 #[.map #[] 0] #[.map #[{ key := .int .i64 7, val := .int .i64 5, born := 0 }] 1] #[] 0 (by rfl) (by first | rfl | simp) 7 (.int .i64 5) (by rfl) (by first | rfl | simp) (by rfl) (by rfl) ?_)
    | (refine wpList_insert_G (w := w1) rfl _ _ _ 153 rfl _ _ .i64 Tryz.underlying153 Tryz.underlying51 0 #[.map #[{ key := .int .i64 7, val := .int .i64 5, born := 0 }] 1] #[.map #[{ key := .int .i64 7, val := .int .i64 5, born := 0 }, { key := .int .i64 8, val := .int .i64 6, born := 1 }] 2] #[{ key := .int .i64 7, val := .int .i64 5, born := 0 }] 1 (by rfl) (by first | rfl | simp) 8 (.int .i64 6) (by rfl) (by first | rfl | simp) (by rfl) (by rfl) ?_)
    | (refine wpList_insert_G (w := w1) rfl _ _ _ 153 rfl _ _ .i64 Tryz.underlying153 Tryz.underlying51 0 #[.map #[{ key := .int .i64 7, val := .int .i64 5, born := 0 }, { key := .int .i64 8, val := .int .i64 6, born := 1 }] 2] #[.map #[{ key := .int .i64 7, val := .int .i64 5, born := 0 }, { key := .int .i64 8, val := .int .i64 6, born := 1 }, { key := .int .i64 9, val := .int .i64 7, born := 2 }] 3] #[{ key := .int .i64 7, val := .int .i64 5, born := 0 }, { key := .int .i64 8, val := .int .i64 6, born := 1 }] 2 (by rfl) (by first | rfl | simp) 9 (.int .i64 7) (by rfl) (by first | rfl | simp) (by rfl) (by rfl) ?_)
    | (refine wpList_insert_G (w := w1) rfl _ _ _ 153 rfl _ _ .i64 Tryz.underlying153 Tryz.underlying51 0 #[.map #[{ key := .int .i64 7, val := .int .i64 5, born := 0 }, { key := .int .i64 8, val := .int .i64 6, born := 1 }, { key := .int .i64 9, val := .int .i64 7, born := 2 }] 3] #[.map #[{ key := .int .i64 7, val := .int .i64 5, born := 0 }, { key := .int .i64 8, val := .int .i64 6, born := 1 }, { key := .int .i64 9, val := .int .i64 7, born := 2 }, { key := .int .i64 10, val := .int .i64 8, born := 3 }] 4] #[{ key := .int .i64 7, val := .int .i64 5, born := 0 }, { key := .int .i64 8, val := .int .i64 6, born := 1 }, { key := .int .i64 9, val := .int .i64 7, born := 2 }] 3 (by rfl) (by first | rfl | simp) 10 (.int .i64 8) (by rfl) (by first | rfl | simp) (by rfl) (by rfl) ?_)
    | (refine wpList_insert_G (w := w1) rfl _ _ _ 153 rfl _ _ .i64 Tryz.underlying153 Tryz.underlying51 0 #[.map #[{ key := .int .i64 7, val := .int .i64 5, born := 0 }, { key := .int .i64 8, val := .int .i64 6, born := 1 }, { key := .int .i64 9, val := .int .i64 7, born := 2 }, { key := .int .i64 10, val := .int .i64 8, born := 3 }] 4] #[.map #[{ key := .int .i64 7, val := .int .i64 5, born := 0 }, { key := .int .i64 8, val := .int .i64 6, born := 1 }, { key := .int .i64 9, val := .int .i64 7, born := 2 }, { key := .int .i64 10, val := .int .i64 8, born := 3 }, { key := .int .i64 13, val := .int .i64 9, born := 4 }] 5] #[{ key := .int .i64 7, val := .int .i64 5, born := 0 }, { key := .int .i64 8, val := .int .i64 6, born := 1 }, { key := .int .i64 9, val := .int .i64 7, born := 2 }, { key := .int .i64 10, val := .int .i64 8, born := 3 }] 4 (by rfl) (by first | rfl | simp) 13 (.int .i64 9) (by rfl) (by first | rfl | simp) (by rfl) (by rfl) ?_)
    | (refine wpList_insert_G (w := w1) rfl _ _ _ 155 rfl _ _ .i64 Tryz.underlying155 Tryz.underlying27 1 #[.map #[{ key := .int .i64 7, val := .int .i64 5, born := 0 }, { key := .int .i64 8, val := .int .i64 6, born := 1 }, { key := .int .i64 9, val := .int .i64 7, born := 2 }, { key := .int .i64 10, val := .int .i64 8, born := 3 }, { key := .int .i64 13, val := .int .i64 9, born := 4 }] 5, .map #[] 0, .cells #[.int .i64 7, .int .i64 8, .int .i64 9] 51 (0, 0)] #[.map #[{ key := .int .i64 7, val := .int .i64 5, born := 0 }, { key := .int .i64 8, val := .int .i64 6, born := 1 }, { key := .int .i64 9, val := .int .i64 7, born := 2 }, { key := .int .i64 10, val := .int .i64 8, born := 3 }, { key := .int .i64 13, val := .int .i64 9, born := 4 }] 5, .map #[{ key := .int .i64 2, val := .slice (some ⟨w1.heap.size + 2, 0, none⟩) 3 3, born := 0 }] 1, .cells #[.int .i64 7, .int .i64 8, .int .i64 9] 51 (0, 0)] #[] 0 (by rfl) (by first | rfl | simp) 2 (.slice (some ⟨w1.heap.size + 2, 0, none⟩) 3 3) (by rfl) (by first | rfl | simp) (by rfl) (by rfl) ?_)
    | (refine wpList_insert_G (w := w1) rfl _ _ _ 155 rfl _ _ .i64 Tryz.underlying155 Tryz.underlying27 1 #[.map #[{ key := .int .i64 7, val := .int .i64 5, born := 0 }, { key := .int .i64 8, val := .int .i64 6, born := 1 }, { key := .int .i64 9, val := .int .i64 7, born := 2 }, { key := .int .i64 10, val := .int .i64 8, born := 3 }, { key := .int .i64 13, val := .int .i64 9, born := 4 }] 5, .map #[{ key := .int .i64 2, val := .slice (some ⟨w1.heap.size + 2, 0, none⟩) 3 3, born := 0 }] 1, .cells #[.int .i64 7, .int .i64 8, .int .i64 9] 51 (0, 0), .cells #[.int .i64 7, .int .i64 9, .int .i64 13] 51 (0, 0)] #[.map #[{ key := .int .i64 7, val := .int .i64 5, born := 0 }, { key := .int .i64 8, val := .int .i64 6, born := 1 }, { key := .int .i64 9, val := .int .i64 7, born := 2 }, { key := .int .i64 10, val := .int .i64 8, born := 3 }, { key := .int .i64 13, val := .int .i64 9, born := 4 }] 5, .map #[{ key := .int .i64 2, val := .slice (some ⟨w1.heap.size + 2, 0, none⟩) 3 3, born := 0 }, { key := .int .i64 3, val := .slice (some ⟨w1.heap.size + 3, 0, none⟩) 3 3, born := 1 }] 2, .cells #[.int .i64 7, .int .i64 8, .int .i64 9] 51 (0, 0), .cells #[.int .i64 7, .int .i64 9, .int .i64 13] 51 (0, 0)] #[{ key := .int .i64 2, val := .slice (some ⟨w1.heap.size + 2, 0, none⟩) 3 3, born := 0 }] 1 (by rfl) (by first | rfl | simp) 3 (.slice (some ⟨w1.heap.size + 3, 0, none⟩) 3 3) (by rfl) (by first | rfl | simp) (by rfl) (by rfl) ?_)
    | (refine wpList_insert_G (w := w1) rfl _ _ _ 155 rfl _ _ .i64 Tryz.underlying155 Tryz.underlying27 1 #[.map #[{ key := .int .i64 7, val := .int .i64 5, born := 0 }, { key := .int .i64 8, val := .int .i64 6, born := 1 }, { key := .int .i64 9, val := .int .i64 7, born := 2 }, { key := .int .i64 10, val := .int .i64 8, born := 3 }, { key := .int .i64 13, val := .int .i64 9, born := 4 }] 5, .map #[{ key := .int .i64 2, val := .slice (some ⟨w1.heap.size + 2, 0, none⟩) 3 3, born := 0 }, { key := .int .i64 3, val := .slice (some ⟨w1.heap.size + 3, 0, none⟩) 3 3, born := 1 }] 2, .cells #[.int .i64 7, .int .i64 8, .int .i64 9] 51 (0, 0), .cells #[.int .i64 7, .int .i64 9, .int .i64 13] 51 (0, 0), .cells #[.int .i64 10] 51 (0, 0)] #[.map #[{ key := .int .i64 7, val := .int .i64 5, born := 0 }, { key := .int .i64 8, val := .int .i64 6, born := 1 }, { key := .int .i64 9, val := .int .i64 7, born := 2 }, { key := .int .i64 10, val := .int .i64 8, born := 3 }, { key := .int .i64 13, val := .int .i64 9, born := 4 }] 5, .map #[{ key := .int .i64 2, val := .slice (some ⟨w1.heap.size + 2, 0, none⟩) 3 3, born := 0 }, { key := .int .i64 3, val := .slice (some ⟨w1.heap.size + 3, 0, none⟩) 3 3, born := 1 }, { key := .int .i64 4, val := .slice (some ⟨w1.heap.size + 4, 0, none⟩) 1 1, born := 2 }] 3, .cells #[.int .i64 7, .int .i64 8, .int .i64 9] 51 (0, 0), .cells #[.int .i64 7, .int .i64 9, .int .i64 13] 51 (0, 0), .cells #[.int .i64 10] 51 (0, 0)] #[{ key := .int .i64 2, val := .slice (some ⟨w1.heap.size + 2, 0, none⟩) 3 3, born := 0 }, { key := .int .i64 3, val := .slice (some ⟨w1.heap.size + 3, 0, none⟩) 3 3, born := 1 }] 2 (by rfl) (by first | rfl | simp) 4 (.slice (some ⟨w1.heap.size + 4, 0, none⟩) 1 1) (by rfl) (by first | rfl | simp) (by rfl) (by rfl) ?_)
    | (refine wpList_insert_G (w := w1) rfl _ _ _ 155 rfl _ _ .i64 Tryz.underlying155 Tryz.underlying27 5 #[.map #[{ key := .int .i64 7, val := .int .i64 5, born := 0 }, { key := .int .i64 8, val := .int .i64 6, born := 1 }, { key := .int .i64 9, val := .int .i64 7, born := 2 }, { key := .int .i64 10, val := .int .i64 8, born := 3 }, { key := .int .i64 13, val := .int .i64 9, born := 4 }] 5, .map #[{ key := .int .i64 2, val := .slice (some ⟨w1.heap.size + 2, 0, none⟩) 3 3, born := 0 }, { key := .int .i64 3, val := .slice (some ⟨w1.heap.size + 3, 0, none⟩) 3 3, born := 1 }, { key := .int .i64 4, val := .slice (some ⟨w1.heap.size + 4, 0, none⟩) 1 1, born := 2 }] 3, .cells #[.int .i64 7, .int .i64 8, .int .i64 9] 51 (0, 0), .cells #[.int .i64 7, .int .i64 9, .int .i64 13] 51 (0, 0), .cells #[.int .i64 10] 51 (0, 0), .map #[] 0, .cells #[.int .i64 8] 51 (0, 0)] #[.map #[{ key := .int .i64 7, val := .int .i64 5, born := 0 }, { key := .int .i64 8, val := .int .i64 6, born := 1 }, { key := .int .i64 9, val := .int .i64 7, born := 2 }, { key := .int .i64 10, val := .int .i64 8, born := 3 }, { key := .int .i64 13, val := .int .i64 9, born := 4 }] 5, .map #[{ key := .int .i64 2, val := .slice (some ⟨w1.heap.size + 2, 0, none⟩) 3 3, born := 0 }, { key := .int .i64 3, val := .slice (some ⟨w1.heap.size + 3, 0, none⟩) 3 3, born := 1 }, { key := .int .i64 4, val := .slice (some ⟨w1.heap.size + 4, 0, none⟩) 1 1, born := 2 }] 3, .cells #[.int .i64 7, .int .i64 8, .int .i64 9] 51 (0, 0), .cells #[.int .i64 7, .int .i64 9, .int .i64 13] 51 (0, 0), .cells #[.int .i64 10] 51 (0, 0), .map #[{ key := .int .i64 3, val := .slice (some ⟨w1.heap.size + 6, 0, none⟩) 1 1, born := 0 }] 1, .cells #[.int .i64 8] 51 (0, 0)] #[] 0 (by rfl) (by first | rfl | simp) 3 (.slice (some ⟨w1.heap.size + 6, 0, none⟩) 1 1) (by rfl) (by first | rfl | simp) (by rfl) (by rfl) ?_)
    | (refine wpList_insert_G (w := w1) rfl _ _ _ 155 rfl _ _ .i64 Tryz.underlying155 Tryz.underlying27 5 #[.map #[{ key := .int .i64 7, val := .int .i64 5, born := 0 }, { key := .int .i64 8, val := .int .i64 6, born := 1 }, { key := .int .i64 9, val := .int .i64 7, born := 2 }, { key := .int .i64 10, val := .int .i64 8, born := 3 }, { key := .int .i64 13, val := .int .i64 9, born := 4 }] 5, .map #[{ key := .int .i64 2, val := .slice (some ⟨w1.heap.size + 2, 0, none⟩) 3 3, born := 0 }, { key := .int .i64 3, val := .slice (some ⟨w1.heap.size + 3, 0, none⟩) 3 3, born := 1 }, { key := .int .i64 4, val := .slice (some ⟨w1.heap.size + 4, 0, none⟩) 1 1, born := 2 }] 3, .cells #[.int .i64 7, .int .i64 8, .int .i64 9] 51 (0, 0), .cells #[.int .i64 7, .int .i64 9, .int .i64 13] 51 (0, 0), .cells #[.int .i64 10] 51 (0, 0), .map #[{ key := .int .i64 3, val := .slice (some ⟨w1.heap.size + 6, 0, none⟩) 1 1, born := 0 }] 1, .cells #[.int .i64 8] 51 (0, 0), .cells #[.int .i64 8, .int .i64 7, .int .i64 13] 51 (0, 0)] #[.map #[{ key := .int .i64 7, val := .int .i64 5, born := 0 }, { key := .int .i64 8, val := .int .i64 6, born := 1 }, { key := .int .i64 9, val := .int .i64 7, born := 2 }, { key := .int .i64 10, val := .int .i64 8, born := 3 }, { key := .int .i64 13, val := .int .i64 9, born := 4 }] 5, .map #[{ key := .int .i64 2, val := .slice (some ⟨w1.heap.size + 2, 0, none⟩) 3 3, born := 0 }, { key := .int .i64 3, val := .slice (some ⟨w1.heap.size + 3, 0, none⟩) 3 3, born := 1 }, { key := .int .i64 4, val := .slice (some ⟨w1.heap.size + 4, 0, none⟩) 1 1, born := 2 }] 3, .cells #[.int .i64 7, .int .i64 8, .int .i64 9] 51 (0, 0), .cells #[.int .i64 7, .int .i64 9, .int .i64 13] 51 (0, 0), .cells #[.int .i64 10] 51 (0, 0), .map #[{ key := .int .i64 3, val := .slice (some ⟨w1.heap.size + 6, 0, none⟩) 1 1, born := 0 }, { key := .int .i64 4, val := .slice (some ⟨w1.heap.size + 7, 0, none⟩) 3 3, born := 1 }] 2, .cells #[.int .i64 8] 51 (0, 0), .cells #[.int .i64 8, .int .i64 7, .int .i64 13] 51 (0, 0)] #[{ key := .int .i64 3, val := .slice (some ⟨w1.heap.size + 6, 0, none⟩) 1 1, born := 0 }] 1 (by rfl) (by first | rfl | simp) 4 (.slice (some ⟨w1.heap.size + 7, 0, none⟩) 3 3) (by rfl) (by first | rfl | simp) (by rfl) (by rfl) ?_))
  clear hG1
  obtain ⟨Am, cm, em, Cm, lm⟩ := gw_means w1 b.sort
  obtain ⟨Aw, cw, ew, Cw, lw⟩ := gw_wrong w1 b.sort
  obtain ⟨M0, M1, M5⟩ := gw_maps w1
  have Bw := Gw_below w1 #[.map #[{ key := .int .i64 7, val := .int .i64 5, born := 0 }, { key := .int .i64 8, val := .int .i64 6, born := 1 }, { key := .int .i64 9, val := .int .i64 7, born := 2 }, { key := .int .i64 10, val := .int .i64 8, born := 3 }, { key := .int .i64 13, val := .int .i64 9, born := 4 }] 5, .map #[{ key := .int .i64 2, val := .slice (some ⟨w1.heap.size + 2, 0, none⟩) 3 3, born := 0 }, { key := .int .i64 3, val := .slice (some ⟨w1.heap.size + 3, 0, none⟩) 3 3, born := 1 }, { key := .int .i64 4, val := .slice (some ⟨w1.heap.size + 4, 0, none⟩) 1 1, born := 2 }] 3, .cells #[.int .i64 7, .int .i64 8, .int .i64 9] 51 (0, 0), .cells #[.int .i64 7, .int .i64 9, .int .i64 13] 51 (0, 0), .cells #[.int .i64 10] 51 (0, 0), .map #[{ key := .int .i64 3, val := .slice (some ⟨w1.heap.size + 6, 0, none⟩) 1 1, born := 0 }, { key := .int .i64 4, val := .slice (some ⟨w1.heap.size + 7, 0, none⟩) 3 3, born := 1 }] 2, .cells #[.int .i64 8] 51 (0, 0), .cells #[.int .i64 8, .int .i64 7, .int .i64 13] 51 (0, 0)]
  generalize hGW : Gw w1 #[.map #[{ key := .int .i64 7, val := .int .i64 5, born := 0 }, { key := .int .i64 8, val := .int .i64 6, born := 1 }, { key := .int .i64 9, val := .int .i64 7, born := 2 }, { key := .int .i64 10, val := .int .i64 8, born := 3 }, { key := .int .i64 13, val := .int .i64 9, born := 4 }] 5, .map #[{ key := .int .i64 2, val := .slice (some ⟨w1.heap.size + 2, 0, none⟩) 3 3, born := 0 }, { key := .int .i64 3, val := .slice (some ⟨w1.heap.size + 3, 0, none⟩) 3 3, born := 1 }, { key := .int .i64 4, val := .slice (some ⟨w1.heap.size + 4, 0, none⟩) 1 1, born := 2 }] 3, .cells #[.int .i64 7, .int .i64 8, .int .i64 9] 51 (0, 0), .cells #[.int .i64 7, .int .i64 9, .int .i64 13] 51 (0, 0), .cells #[.int .i64 10] 51 (0, 0), .map #[{ key := .int .i64 3, val := .slice (some ⟨w1.heap.size + 6, 0, none⟩) 1 1, born := 0 }, { key := .int .i64 4, val := .slice (some ⟨w1.heap.size + 7, 0, none⟩) 3 3, born := 1 }] 2, .cells #[.int .i64 8] 51 (0, 0), .cells #[.int .i64 8, .int .i64 7, .int .i64 13] 51 (0, 0)] = W at Cm Cw M0 M1 M5 Bw ⊢
  have FX : Aside0 (∀ W', Below W.heap.size W W' → BInv n0 W' p m vi vl b ∧ Below n0 w0 W' ∧ n0 ≤ W'.heap.size ∧ W'.heap[g3]? = some (.cells #[.int .i64 x.f0, .string x.f1, .int .i64 x.f2, .int .i64 x.f3] 53 (0, 0)) ∧
      (Instr.lookup 153 (.map (some w1.heap.size)) (.int .i64 x.f0) false).run Tryz.prog W' = .ok (.int .i64 (kindN x.f0)) W' ∧ (Instr.lookup 155 (.map (some (w1.heap.size + 1))) (.int .i64 b.sort) false).run Tryz.prog W' = .ok (.slice Am (meansL b.sort).length cm) W' ∧
      (Instr.lookup 155 (.map (some (w1.heap.size + 5))) (.int .i64 b.sort) false).run Tryz.prog W' = .ok (.slice Aw (wrongL b.sort).length cw) W' ∧ Kd.C (Kd.int .i64) W' Am (meansL b.sort).length (meansL b.sort) ∧ Kd.C (Kd.int .i64) W' Aw (wrongL b.sort).length (wrongL b.sort) ∧ IMap W' w1.heap.size .i64 kindsL) := by
    refine ⟨fun W' hb => ?_⟩
    have b1 : Below w.heap.size w W' := (HBx.out.trans (Bw.mono HBx.out.size)).trans (hb.mono (Nat.le_trans HBx.out.size Bw.size))
    have q0 := (M0.below hb).lookup Tryz.underlying153 Tryz.underlying51 (HZ1.out W') x.f0 false
    have q1 := (M1.below hb).lookup Tryz.underlying155 Tryz.underlying27 (HZ2.out W') b.sort false
    have q5 := (M5.below hb).lookup Tryz.underlying155 Tryz.underlying27 (HZ2.out W') b.sort false
    rw [em] at q1
    rw [ew] at q5
    rw [kindsL_lookup] at q0
    exact ⟨HI.out.below b1, HB.out.trans (b1.mono HN.out), Nat.le_trans HN.out b1.size, (hb.block g3 (Nat.lt_of_lt_of_le (blk_lt HK.out) Bw.size)).trans ((Bw.block g3 (blk_lt HK.out)).trans HK.out), q0, q1, q5, Kd.C_below Cm hb, Kd.C_below Cw hb, M0.below hb⟩
  have NE : Aside0 (p ≠ g3 ∧ g3 ≠ p) := ⟨by rw [HG.out]; exact Nat.ne_of_lt (blk_lt HI.out.blk), by rw [HG.out]; exact Nat.ne_of_gt (blk_lt HI.out.blk)⟩
  have LM := Aside0.mk lm
  have LWr := Aside0.mk lw
  have NEm : Aside0 (w1.heap.size ≠ m ∧ g3 ≠ m) := ⟨Nat.ne_of_gt (Nat.lt_of_lt_of_le HI.out.map.lt HBx.out.size), by rw [HG.out]; exact Nat.ne_of_gt HI.out.map.lt⟩
  clear hGW em ew Cm Cw M0 M1 M5 Bw lm lw HZ2
  have h := H.out
  unfold signF at h
  obtain ⟨c1, a1, h⟩ := Option.bind_eq_some_iff.mp h
  have A1 := Aside0.mk a1
  clear a1 H
  obtain ⟨iI0, iB0, iN0, iG0, lk0, lm0, lw0, iCm0, iCw0, iM0⟩ := FX.out W.drew (below_drew (Below.refl _ _))
  have kc0 : World.cell? W.drew ⟨p, 0, none⟩ = some (.int .i64 b.sort) := (blk_cell iI0.blk 0).trans rfl
  have kg00 : World.cell? W.drew ⟨g3, 0, none⟩ = some (.int .i64 x.f0) := (blk_cell iG0 0).trans rfl
  have kg10 : World.cell? W.drew ⟨g3, 1, none⟩ = some (.string x.f1) := (blk_cell iG0 1).trans rfl
  have hL0 := lw0
  have HCw := Aside0.mk iCw0
  clear iI0 iB0 iN0 iG0 lk0 lm0 lw0 iCm0 iCw0 iM0
  go_region_with (first | (go_at_call 83; (with_reducible refine (token_Kind_83.calls k Aw cw (wrongL b.sort) x.f0 _ _ HCw.out LWr.out A1.out).mono ?_); rintro e w2 ⟨rfl, hd2⟩; have hb2 : Below W.heap.size W w2 := drawn_below hd2; clear hd2))
  all_goals
    clear kc0 kg00 kg10 hL0 HCw
    cases c1 with
    | true =>
      rw [if_pos rfl] at h
      simp only [Option.some.injEq, Prod.mk.injEq] at h
      obtain ⟨rfl, rfl⟩ := h
      go_wp2
      go_ret
      exact ⟨rfl, (FX.out w2 hb2).2.1, _, (FX.out w2 hb2).1⟩
    | false =>
      rw [if_neg (by simp)] at h
      obtain ⟨c2, a1, h⟩ := Option.bind_eq_some_iff.mp h
      have A2 := Aside0.mk a1
      have H := Aside0.mk h
      clear a1 h
      obtain ⟨iI7, iB7, iN7, iG7, lk7, lm7, lw7, iCm7, iCw7, iM7⟩ := FX.out w2.drew (hb2.trans (below_drew (Below.refl _ _)))
      have kc7 : World.cell? w2.drew ⟨p, 0, none⟩ = some (.int .i64 b.sort) := (blk_cell iI7.blk 0).trans rfl
      have kg07 : World.cell? w2.drew ⟨g3, 0, none⟩ = some (.int .i64 x.f0) := (blk_cell iG7 0).trans rfl
      have kg17 : World.cell? w2.drew ⟨g3, 1, none⟩ = some (.string x.f1) := (blk_cell iG7 1).trans rfl
      have hL7 := lm7
      have HCm := Aside0.mk iCm7
      clear iI7 iB7 iN7 iG7 lk7 lm7 lw7 iCm7 iCw7 iM7
      have HB2 := Aside0.mk hb2
      clear hb2
      go_wp2
      go_region_with (first | (go_at_call 83; (with_reducible refine (token_Kind_83.calls k Am cm (meansL b.sort) x.f0 _ _ HCm.out LM.out A2.out).mono ?_); rintro e w3 ⟨rfl, hd3⟩; have hb3 : Below W.heap.size W w3 := HB2.out.trans ((drawn_below hd3).mono HB2.out.size); clear hd3))
      all_goals
        clear kc7 kg07 kg17 hL7 HCm
        obtain ⟨iI3, iB3, iN3, iG3, lk3, lm3, lw3, iCm3, iCw3, iM3⟩ := FX.out w3 hb3
        have kc3 : World.cell? w3 ⟨p, 0, none⟩ = some (.int .i64 b.sort) := (blk_cell iI3.blk 0).trans rfl
        have kg03 : World.cell? w3 ⟨g3, 0, none⟩ = some (.int .i64 x.f0) := (blk_cell iG3 0).trans rfl
        have kg13 : World.cell? w3 ⟨g3, 1, none⟩ = some (.string x.f1) := (blk_cell iG3 1).trans rfl
        clear kc3
        have HI3 := Aside0.mk iI3
        have HB3 := Aside0.mk iB3
        have HN3 := Aside0.mk iN3
        have HM3 := Aside0.mk iM3
        have HG3 := Aside0.mk iG3
        clear iI3 iB3 iN3 iG3 lm3 lw3 iCm3 iCw3 iM3 hb3
        have h := H.out
        cases c2 with
        | true =>
          rw [if_pos rfl] at h
          by_cases e8 : x.f0 = 8
          · rw [if_pos (Or.inl e8)] at h
            obtain ⟨b2, a1, h⟩ := Option.bind_eq_some_iff.mp h
            have HA := Aside0.mk a1
            simp only [Option.some.injEq, Prod.mk.injEq] at h
            obtain ⟨rfl, rfl⟩ := h
            have d8 : (x.f0 != 8) = false := by rw [e8]; rfl
            clear a1 e8 H
            go_wp2_with (first | (go_at_call 55; (with_reducible refine (add_calls ⟨kindN x.f0, x.f1, 0⟩ HI3.out HB3.out HN3.out HA.out).mono ?_); rintro e w5 ⟨rfl, hB5, ⟨vi5, hI5⟩, hK5⟩; have HI5 := Aside0.mk hI5; have HB5 := Aside0.mk hB5; clear hB5 hI5 hK5))
            go_ret
            exact ⟨rfl, HB5.out, _, HI5.out⟩
          · by_cases e9 : x.f0 = 9
            · rw [if_pos (Or.inr e9)] at h
              obtain ⟨b2, a1, h⟩ := Option.bind_eq_some_iff.mp h
              have HA := Aside0.mk a1
              simp only [Option.some.injEq, Prod.mk.injEq] at h
              obtain ⟨rfl, rfl⟩ := h
              have d8 : (x.f0 != 8) = true := bne_iff_ne.mpr e8
              have d9 : (x.f0 != 9) = false := by rw [e9]; rfl
              clear a1 e8 e9 H
              go_wp2_with (first | (go_at_call 55; (with_reducible refine (add_calls ⟨kindN x.f0, x.f1, 0⟩ HI3.out HB3.out HN3.out HA.out).mono ?_); rintro e w5 ⟨rfl, hB5, ⟨vi5, hI5⟩, hK5⟩; have HI5 := Aside0.mk hI5; have HB5 := Aside0.mk hB5; clear hB5 hI5 hK5))
              go_ret
              exact ⟨rfl, HB5.out, _, HI5.out⟩
            · rw [if_neg (by intro e; rcases e with e | e; exact e8 e; exact e9 e)] at h
              have d8 : (x.f0 != 8) = true := bne_iff_ne.mpr e8
              have d9 : (x.f0 != 9) = true := bne_iff_ne.mpr e9
              have hb3' := FX.out w3
              clear hb3'
              by_cases e0 : (onlyF b x.f0).1 = 0
              · rw [if_pos e0] at h
                obtain ⟨b2, a1, h⟩ := Option.bind_eq_some_iff.mp h
                have HA := Aside0.mk a1
                simp only [Option.some.injEq, Prod.mk.injEq] at h
                obtain ⟨rfl, rfl⟩ := h
                clear a1 e8 e9 H
                go_wp2_with (first | (go_at_call 84; (with_reducible refine (only_calls x.f0 HI3.out HB3.out).mono ?_); rintro e w4 ⟨rfl, hB4, hI4, hO4⟩; rw [e0]; have HI4 := Aside0.mk hI4; have HB4 := Aside0.mk hB4; have hM4 := hO4.imap NEm.out.1 HM3.out; have hG4 := hO4.blk NEm.out.2 HG3.out; have HN4 : Aside0 (n0 ≤ w4.heap.size) := ⟨by rw [hO4.size]; exact HN3.out⟩; have lk4 := hM4.lookup Tryz.underlying153 Tryz.underlying51 (HZ1.out w4) x.f0 false; rw [kindsL_lookup] at lk4; have kg04 : w4.cell? ⟨g3, 0, none⟩ = some (.int .i64 x.f0) := (blk_cell hG4 0).trans rfl; have kg14 : w4.cell? ⟨g3, 1, none⟩ = some (.string x.f1) := (blk_cell hG4 1).trans rfl; clear hM4 hG4 hO4; clear hB4 hI4) | (go_at_call 55; (with_reducible refine (add_calls ⟨kindN x.f0, x.f1, 0⟩ HI4.out HB4.out HN4.out HA.out).mono ?_); rintro e w5 ⟨rfl, hB5, ⟨vi5, hI5⟩, hK5⟩; have HI5 := Aside0.mk hI5; have HB5 := Aside0.mk hB5; clear hB5 hI5 hK5))
                go_ret
                exact ⟨rfl, HB5.out, _, HI5.out⟩
              · rw [if_neg e0] at h
                have hr : (onlyF b x.f0).1 = r := congrArg Prod.fst (Option.some.inj h)
                have hb' : (onlyF b x.f0).2 = b' := congrArg Prod.snd (Option.some.inj h)
                subst hr
                subst hb'
                have d0 : ((onlyF b x.f0).1 != 0) = true := bne_iff_ne.mpr e0
                clear h e8 e9 H e0
                go_wp2_with (first | (go_at_call 84; (with_reducible refine (only_calls x.f0 HI3.out HB3.out).mono ?_); rintro e w4 ⟨rfl, hB4, hI4, hO4⟩; have HI4 := Aside0.mk hI4; have HB4 := Aside0.mk hB4; clear hB4 hI4 hO4))
                go_ret
                exact ⟨rfl, HB4.out, _, HI4.out⟩
        | false =>
          rw [if_neg (by simp)] at h
          by_cases e13 : x.f0 = 13
          · rw [if_pos e13] at h
            by_cases hs : 1 + x.f1.size ≤ 9223372036854775807
            · rw [if_pos hs] at h
              obtain ⟨b2, a1, h⟩ := Option.bind_eq_some_iff.mp h
              have HA := Aside0.mk a1
              simp only [Option.some.injEq, Prod.mk.injEq] at h
              obtain ⟨rfl, rfl⟩ := h
              have d13 : (x.f0 == 13) = true := beq_iff_eq.mpr e13
              have z1 := eq_true hs
              have z2 : (9223372036854775807 < 1 + x.f1.size) = False := eq_false (Nat.not_lt.2 hs)
              clear a1 e13 H hs
              go_wp2_with (first | (go_at_call 55; (with_reducible refine (add_calls ⟨1, ⟨#[69]⟩ ++ x.f1, 0⟩ HI3.out HB3.out HN3.out HA.out).mono ?_); rintro e w5 ⟨rfl, hB5, ⟨vi5, hI5⟩, hK5⟩; have HI5 := Aside0.mk hI5; have HB5 := Aside0.mk hB5; clear hB5 hI5 hK5))
              go_ret
              exact ⟨rfl, HB5.out, _, HI5.out⟩
            · rw [if_neg hs] at h
              cases h
          · rw [if_neg e13] at h
            obtain ⟨b2, a1, h⟩ := Option.bind_eq_some_iff.mp h
            have HA := Aside0.mk a1
            simp only [Option.some.injEq, Prod.mk.injEq] at h
            obtain ⟨rfl, rfl⟩ := h
            have d13 : (x.f0 == 13) = false := beq_eq_false_iff_ne.mpr e13
            clear a1 e13 H
            go_wp2_with (first | (go_at_call 55; (with_reducible refine (add_calls ⟨1, x.f1, 0⟩ HI3.out HB3.out HN3.out HA.out).mono ?_); rintro e w5 ⟨rfl, hB5, ⟨vi5, hI5⟩, hK5⟩; have HI5 := Aside0.mk hI5; have HB5 := Aside0.mk hB5; clear hB5 hI5 hK5))
            go_ret
            exact ⟨rfl, HB5.out, _, HI5.out⟩
end Go.Proofs.YtiidpicgdjjikaaGreatDoor.G
