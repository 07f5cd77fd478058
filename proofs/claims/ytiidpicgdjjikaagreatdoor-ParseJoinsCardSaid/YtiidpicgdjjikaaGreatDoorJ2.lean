import Derived.Test.YtiidpicgdjjikaaGreatDoorJ1
namespace Go.Proofs.YtiidpicgdjjikaaGreatDoor.G
open Go.RowKit Go.Proofs.YtiidpicgdjjikaaGreatDoorW.PrintWords Go.Proofs.YtiidpicgdjjikaaGreatDoorW.PrintLast Go.Proofs.YtiidpicgdjjikaaGreatDoorW.PrintMore

theorem isEmpty_ne (l : List UInt8) : l.isEmpty = !(l != []) := by cases l <;> rfl
theorem bytesWorld_foot (W : World) (e : TypeId) (s : ByteArray) (hs : s.size ≤ 9223372036854775807) {ok : Nat → Prop} (hok : ok W.heap.size) :
    Kd.F (Kd.int .u8) (Lib.bytesWorld W e s) ok (some ⟨W.heap.size, 0, none⟩) s.size (bytesOf s) := by
  intro W' hW
  have hb : W'.heap[W.heap.size]? = (Lib.bytesWorld W e s).heap[W.heap.size]? := hW _ hok (by rw [Lib.bytesWorld_size]; omega)
  have hr := bytes_reads W e s hs
  refine ⟨hr.1, hr.2.1, fun hn => ?_⟩
  obtain ⟨ad, ea, hc⟩ := hr.2.2 hn
  refine ⟨ad, ea, fun j p hj => ⟨[.int .u8 p], rfl, rfl, fun i u hu => ?_⟩⟩
  cases i with
  | zero =>
    obtain rfl : u = .int .u8 p := by simpa using hu.symm
    obtain rfl := Option.some.inj ea
    have hlt : j < (bytesOf s).length := (List.getElem?_eq_some_iff.1 hj).1
    have hc2 := hc j (by rw [bytesOf_length] at hlt; exact hlt)
    have hp : (bytesOf s).getD j 0 = p := by simp [List.getD_eq_getElem?_getD, hj]
    rw [hp] at hc2
    have e1 : (⟨W.heap.size, 0, none⟩ : Addr).add (j * (Kd.int .u8).sz + 0) = (⟨W.heap.size, 0, none⟩ : Addr).add j := by
      have : j * (Kd.int .u8).sz + 0 = j := by show j * 1 + 0 = j; omega
      rw [this]
    rw [e1]
    have hbk : ((⟨W.heap.size, 0, none⟩ : Addr).add j).block = W.heap.size := by
      unfold Addr.add
      split <;> rfl
    rw [World.cell?_of_block (w := Lib.bytesWorld W e s) (by rw [hbk]; exact hb)]
    exact hc2
  | succ i => simp at hu

theorem conv_V {P : Program} {ops : Array Oper} {rest : List Oper} {o : Oper} {a : Act} {Q : Exit → Act → World → Prop} {w0 W : World} (base e : Nat) (hgd : o.guard = none) {N : Tmp} (hd : o.dst = some N) (src dst : TypeId) (x : Operand) (ho : o.op = .convert src dst x)
    (s : ByteArray) (hx : a.eval x = .string s) {u : TypeDesc} (hs : P.underlying src = some u) (hdd : P.underlying dst = some (.slice e)) (he : P.underlying e = some (.int .u8)) (hsz : s.size ≤ 9223372036854775807)
    {ok : Nat → Prop} (hfresh : ok W.heap.size) (HB : Below base w0 W) (hbase : base ≤ W.heap.size)
    (h : ∀ v1 w1, Kd.V (Kd.int .u8) e w1 base ok v1 (bytesOf s) → Below base w0 w1 → W.grownBy w1 none → (∃ b, v1.ownBlock = some b ∧ W.heap.size ≤ b) → wpList P ops Q rest (a.put o.dst v1) w1) : wpList P ops Q (o :: rest) a W := by
  refine wpList_plain hgd fun K' hK' => ?_
  have hrun := Lib.run_convert_string_bytes W src dst e s hs hdd he
  have hbl : ∀ k, k < W.heap.size → (Lib.bytesWorld W e s).heap[k]? = W.heap[k]? := fun k hk => Lib.bytesWorld_at_old W e s k hk
  have hsz2 := Lib.bytesWorld_size W e s
  have hos : (Lib.bytesWorld W e s).os = W.os ∧ (Lib.bytesWorld W e s).tape = W.tape ∧ (Lib.bytesWorld W e s).output = W.output := by
    simp [Lib.bytesWorld, World.freeze, World.alloc, World.drew, -World.alloc_eq, -World.drew_eq]
  have hV : Kd.V (Kd.int .u8) e (Lib.bytesWorld W e s) base ok (.slice (some ⟨W.heap.size, 0, none⟩) s.size (grownCap W s.size 0 e)) (bytesOf s) := by
    have hc : s.size ≤ grownCap W s.size 0 e := grownCap_ge W s.size 0 e
    have hl := bytesOf_length s
    have := bytesWorld_foot W e s hsz hfresh
    refine ⟨_, _, by rw [hl], by rw [hl]; exact hc, ?_⟩
    rw [hl]
    exact this
  unfold Oper.wp
  simp [execOp, ho, hx, hrun, Result.andThen]
  refine hK' _ _ (h _ _ hV ?_ ?_ ⟨_, rfl, Nat.le_refl _⟩)
  · exact ⟨hos.1.trans HB.os, hos.2.1.trans HB.tape, hos.2.2.trans HB.output, by have := HB.size; omega, fun k hk => (hbl k (by omega)).trans (HB.block k hk)⟩
  · exact ⟨hos.1, hos.2.1, hos.2.2, by omega, fun k hk _ => hbl k hk⟩
theorem isSome_setCell_eq (w : World) (a b : Addr) (v : Value) : ((w.setCell a v).cell? b).isSome = (w.cell? b).isSome := by
  unfold World.setCell World.cell?
  simp only [Array.getElem?_modify]
  by_cases h : a.block = b.block
  · rw [if_pos h]
    cases hb : w.heap[b.block]? with
    | none => rfl
    | some o =>
      cases o with
      | cells c e f =>
        simp only [Option.map_some]
        by_cases h2 : b.spot.isSome = true
        · simp [h2]
        · simp only [h2]
          by_cases h3 : a.spot.isSome = true
          · simp [h3]
          · simp [h3, Array.getElem?_setIfInBounds]
            split
            · rename_i h4
              rw [h4]
              by_cases h5 : b.off < c.size
              · simp [h5]
              · simp [h5]
            · rfl
      | _ => rfl
  · rw [if_neg h]
end Go.Proofs.YtiidpicgdjjikaaGreatDoor.G
