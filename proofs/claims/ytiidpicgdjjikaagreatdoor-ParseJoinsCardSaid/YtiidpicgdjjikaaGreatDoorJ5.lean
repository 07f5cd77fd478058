import Derived.Test.YtiidpicgdjjikaaGreatDoorRows
import Derived.Lib.LaidCase
import Derived.Lib.LaidU8
import Derived.Stop.LaidErr
import Derived.Shelf.Vars
import Derived.Lib.LaidTab
import Derived.LaidMore
import Derived.ProofKit
import Derived.Test.YtiidpicgdjjikaaGreatDoorJ4
namespace Go.Proofs.YtiidpicgdjjikaaGreatDoor.G
open Go.RowKit Go.Lib Go.Shelf Go.Proofs Go.Proofs.YtiidpicgdjjikaaGreatDoorW.PrintWords
set_option linter.unusedVariables false
abbrev L0 : List (String × DataW Unit) := Rows.itemOfRow.laid
theorem tab_of_reads {P : Program} {W : World} {name : String} {k : IntKind} {zs : List Int} {g t e n : Nat} (hg : P.globalNamed name = some g) (hty : (P.globals[g]?).map (·.type) = some t) (ht : P.underlying t = some (.array n e)) (he : P.underlying e = some (.int k)) (hce : P.cellsOf e = 1) (hct : P.cellsOf t = n)
    (h : VarReads P W name (tabData k zs)) : TabIs P W name k zs := by
  obtain ⟨g', t', cs, fuel, p, hg', ht', hvar, hd⟩ := h
  obtain rfl := Option.some.inj (hg.symm.trans hg')
  obtain rfl := Option.some.inj (hty.symm.trans ht')
  unfold TabIs
  rw [hvar, ← cells_of_tab ht he hce hct hd]
theorem tabAt_of {P : Program} {W : World} {name : String} {tab : List Nat} {g : Nat} (hg : P.globalNamed name = some g) (h : TabIs P W name .u8 (tab.map fun n : Nat => (n : Int))) : TabAt g tab W := by
  intro j hj
  rw [h.cell hg j (by simpa using hj)]
  simp [List.getD_eq_getElem?_getD, List.getElem?_map, List.getElem?_eq_getElem hj]
theorem laidMet.drops {P : Program} {w : World} : ∀ (k : Nat) {l : List (String × DataW Unit)}, laidMet P l w → laidMet P (l.drop k) w
  | 0, _, h => h
  | k + 1, [], h => h
  | k + 1, x :: l, h => laidMet.drops k (laidMet.tail h)
theorem starE : "*" ++ "errors.errorString" = "*errors.errorString" := by decide
theorem rowE (u : TypeId) (h : Tryz.prog.typeName? 3 u = some "*errors.errorString") : u = 269 :=
  typeName_ptr_named (nm := "errors.errorString") (by rw [starE]; kernel_rfl) (by kernel_rfl) (by decide) u (by rw [starE]; exact h)
theorem laid_of {W : World} (hL0 : laidMetH Tryz.prog L0 W) (hsh : W.ShapedOpen Tryz.prog) : Laid W := by
  rw [MakeChecks.laidMetH_plain _ _ _ (by kernel_rfl)] at hL0
  have hL := hL0
  exact {
    utf8 := utf8Tabs_of_reads (ρ := Tryz.lays159_ren) { Tryz.lays159 with } ⟨by kernel_rfl, by kernel_rfl, by kernel_rfl, by kernel_rfl, by kernel_rfl, by kernel_rfl, by kernel_rfl⟩ (Lib.laidMet.reads hL (List.mem_of_getElem? (i := 9) (by kernel_rfl : L0[9]? = some ("unicode/utf8.first", firstData)))) (Lib.laidMet.reads hL (List.mem_of_getElem? (i := 3) (by kernel_rfl : L0[3]? = some ("unicode/utf8.acceptRanges", acceptData))))
    case := caseVar_of_reads (ρ := Tryz.lays159_ren) { Tryz.lays159 with } (by kernel_rfl) ⟨by kernel_rfl, by kernel_rfl, by kernel_rfl, by kernel_rfl, by kernel_rfl, by kernel_rfl⟩ (Lib.laidMet.reads hL (List.mem_of_getElem? (i := 8) (by kernel_rfl : L0[8]? = some ("unicode.CaseRanges", caseData))))
    pow10 := tab_of_reads (g := 8) (t := 273) (e := 203) (n := 20) (by kernel_rfl) (by kernel_rfl) Tryz.underlying273 Tryz.underlying203 (by kernel_rfl) (by kernel_rfl) (Lib.laidMet.reads hL (List.mem_of_getElem? (i := 2) (by kernel_rfl : L0[2]? = some ("internal/strconv.uint64pow10", tabData .u64 Lib.pow10Tab))))
    maxlen := cell_of_shapedOpen_int hsh (of_decide_eq_true (by kernel_rfl)) (zero := #[.int .i64 0]) (t := 3) (by kernel_rfl) (by kernel_rfl) (by kernel_rfl) (by kernel_rfl) Tryz.underlying3
    db64 := tabAt_of (name := "math/bits.deBruijn64tab") (by kernel_rfl) (tab_of_reads (g := 10) (t := 278) (e := 5) (n := 64) (by kernel_rfl) (by kernel_rfl) Tryz.underlying278 Tryz.underlying5 (by kernel_rfl) (by kernel_rfl) (Lib.laidMet.reads hL (List.mem_of_getElem? (i := 1) (by kernel_rfl : L0[1]? = some ("math/bits.deBruijn64tab", tabData .u8 (Lib.deBruijn64tab.map fun n : Nat => (n : Int)))))))
    db32 := tabAt_of (name := "math/bits.deBruijn32tab") (by kernel_rfl) (tab_of_reads (g := 9) (t := 277) (e := 5) (n := 32) (by kernel_rfl) (by kernel_rfl) Tryz.underlying277 Tryz.underlying5 (by kernel_rfl) (by kernel_rfl) (Lib.laidMet.reads hL (List.mem_of_getElem? (i := 0) (by kernel_rfl : L0[0]? = some ("math/bits.deBruijn32tab", tabData .u8 (Lib.deBruijn32tab.map fun n : Nat => (n : Int)))))))
    fold := tab_of_reads (g := 4) (t := 234) (e := 233) (n := 128) (by kernel_rfl) (by kernel_rfl) Tryz.underlying234 Tryz.underlying233 (by kernel_rfl) (by kernel_rfl) (Lib.laidMet.reads hL (List.mem_of_getElem? (i := 6) (by kernel_rfl : L0[6]? = some ("unicode.asciiFold", tabData .u16 foldTab))))
    errS := by
      have h := laid_sentinel (g := 6) (tp := 269) (laidMet.drops 5 hL) (by kernel_rfl) (by kernel_rfl) Tryz.underlying142 rowE Tryz.underlying269 Tryz.underlying271 rfl rfl Tryz.underlying9 (by kernel_rfl) (by kernel_rfl)
      obtain ⟨a, s, hv, _⟩ := h
      exact ⟨_, _, hv⟩
    errR := by
      have h := laid_sentinel (g := 7) (tp := 269) (laidMet.drops 4 hL) (by kernel_rfl) (by kernel_rfl) Tryz.underlying142 rowE Tryz.underlying269 Tryz.underlying271 rfl rfl Tryz.underlying9 (by kernel_rfl) (by kernel_rfl)
      obtain ⟨a, s, hv, _⟩ := h
      exact ⟨_, _, hv⟩
  }
end Go.Proofs.YtiidpicgdjjikaaGreatDoor.G
