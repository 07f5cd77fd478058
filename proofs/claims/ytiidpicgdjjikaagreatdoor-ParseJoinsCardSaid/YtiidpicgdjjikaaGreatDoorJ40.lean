import Derived.Test.YtiidpicgdjjikaaGreatDoorJ39
namespace Go.Proofs.YtiidpicgdjjikaaGreatDoor.G
open Go.RowKit Go.Lib Go.Maps Go.ChangeMaps Go.MapKept Go.Proofs Go.Proofs.YtiidpicgdjjikaaGreatDoor.P Go.Proofs.YtiidpicgdjjikaaGreatDoorW.PrintWords Go.Proofs.YtiidpicgdjjikaaGreatDoorW.PrintLast Go.Proofs.YtiidpicgdjjikaaGreatDoorW.PrintMore
set_option linter.unusedVariables false
theorem bracketF_mono (k : Nat) (b : BSt) (t : ByteArray) : LeO (bracketF k b t) (bracketF (k + 1) b t) := by
  unfold bracketF
  refine LeO.bind (by apply colour_Number.mono) (fun x => LeO.ite (LeO.refl _) (LeO.bind (by apply cond_Parse.mono) (fun y => LeO.refl _)))
theorem signF_mono (k : Nat) (b : BSt) (x : S53) : LeO (signF k b x) (signF (k + 1) b x) := by
  unfold signF
  first
    | exact LeO.bind (by apply token_Kind_83.mono) (fun x => LeO.ite (LeO.refl _) (LeO.bind (by apply token_Kind_83.mono) (fun y => LeO.refl _)))
    | exact LeO.refl _
theorem otherF_mono (k : Nat) (b : BSt) (x : S53) : LeO (otherF k b x) (otherF (k + 1) b x) := by
  unfold otherF
  refine LeO.ite (LeO.refl _) (LeO.ite (LeO.refl _) (LeO.ite (LeO.refl _) (LeO.ite (LeO.refl _) (LeO.ite (LeO.refl _) (LeO.ite (LeO.refl _) (LeO.ite (LeO.refl _) (LeO.ite (LeO.refl _) (LeO.ite (LeO.refl _) (LeO.ite (LeO.refl _) (LeO.ite (bracketF_mono _ _ _) (LeO.refl _)))))))))))
theorem partF_mono (k : Nat) (l : List S53) (b : BSt) : LeO (partF k l b) (partF (k + 1) l b) := by
  unfold partF
  first
    | exact LeO.refl _
    | exact LeO.ite (LeO.bind (LeO.refl _) (fun e => LeO.ite (LeO.refl _) (LeO.ite (LeO.bind (by apply item_named.mono) (fun _ => LeO.refl _)) (LeO.refl _)))) (LeO.refl _)
theorem restF_mono (k : Nat) (b : BSt) (t : S53) : LeO (restF k b t) (restF (k + 1) b t) := by
  unfold restF
  exact LeO.ite (LeO.bind (signF_mono _ _ _) (fun _ => LeO.refl _)) (LeO.bind (otherF_mono _ _ _) (fun _ => LeO.refl _))
theorem tokenF_mono (k : Nat) (l : List S53) (b : BSt) : LeO (tokenF k l b) (tokenF (k + 1) l b) := by
  unfold tokenF
  refine LeO.bind (LeO.ite (partF_mono _ _ _) (LeO.refl _)) (fun n => LeO.ite (LeO.refl _) (LeO.bind (by apply item_sorts.mono) (fun s => LeO.ite (restF_mono _ _ _) (LeO.ite (restF_mono _ _ _) (LeO.refl _)))))
theorem sortL_mono (k : Nat) : ∀ (l : List S53) (h : List Bool) (sl po : Bool), LeO (sortL k l h sl po) (sortL (k + 1) l h sl po)
  | [], h, sl, po => LeO.refl _
  | t :: l, h, sl, po => by
    simp only [sortL]
    exact LeO.bind (by apply item_sorts.mono) (fun s => LeO.ite (sortL_mono k l _ _ _) (LeO.refl _))
theorem sortF_mono (k : Nat) (l : List S53) : LeO (sortF k l) (sortF (k + 1) l) := LeO.bind (sortL_mono k l _ _ _) (fun _ => LeO.refl _)
theorem ofL_mono (k : Nat) (l : List S53) : ∀ (f : Nat) (b : BSt), LeO (ofL k l f b) (ofL (k + 1) l (f + 1) b)
  | 0, b => LeO.none _
  | f + 1, b => by
    simp only [ofL]
    refine LeO.ite (LeO.ite (LeO.bind (tokenF_mono k l b) (fun r => ?_)) (LeO.refl _)) (LeO.refl _)
    by_cases hr : r.2.1 = 0
    · rw [if_pos hr, if_pos hr]
      have := ofL_mono k l f { r.2.2 with pos := wrap64 (r.2.2.pos + r.1) }
      simp only [ofL] at this
      exact this
    · rw [if_neg hr, if_neg hr]
      exact LeO.refl _
theorem item_Of.mono (l : List S53) (k : Nat) : LeO (item_Of.f k l) (item_Of.f (k + 1) l) := LeO.bind (sortF_mono k l) (fun _ => ofL_mono k l k _)
end Go.Proofs.YtiidpicgdjjikaaGreatDoor.G
