/- Texts of this seat, one behind the other (merged by a program of this session's own). -/
import Derived.Test.YtiidpicgdjjikaaGreatDoorM45

-- PureItemMinutes
/-
  The pure statement of ItemMinutes: an m of one or two letters is a minute just behind an hour, or ahead of a second; one of three or more never is.
-/
namespace Go.Proofs.YtiidpicgdjjikaaGreatDoor.Pure
open Go.RowKit Go.Lib Go.Proofs.YtiidpicgdjjikaaGreatDoor.P Go.Proofs.YtiidpicgdjjikaaGreatDoor.G Go.Proofs.YtiidpicgdjjikaaGreatDoorW.PrintWords Go.Proofs.YtiidpicgdjjikaaGreatDoorW.PrintLast Go.Proofs.YtiidpicgdjjikaaGreatDoorW.PrintMore
set_option linter.unusedVariables false
set_option linter.unusedSimpArgs false
theorem wakes14 : numerarylaw14_wakes.f 100 = some true := by decide +kernel
def T (b : Int) : ByteArray := Utf8.encode (bt (⟨#[121, 109, 100, 104, 115]⟩ : ByteArray) (Int.tmod b 5))
def Ct (b : Int) : Int := 1 + (((Int.tdiv b 5) % 256) % 4)
def Cn (b : Int) : Int := match item_counted.f 14 (T b) (Ct b) 0 with | some x => x.2.2 | none => 0
def tk (b : Int) : S53 := ⟨14, T b, Ct b, 0⟩
def pl : S53 := ⟨17, ⟨#[45]⟩, 1, 0⟩
def toks : List Int → List S53
  | [] => []
  | b :: l => tk b :: pl :: toks l
def it (b : Int) : S55 := ⟨12, T b, Cn b⟩
def dash : S55 := ⟨1, ⟨#[45]⟩, 0⟩
def its0 : List Int → List S55
  | [] => []
  | b :: l => it b :: dash :: its0 l
def nx : List Int → ByteArray
  | [] => ⟨#[]⟩
  | b :: _ => T b
def isM (ah : ByteArray) (b : Int) (l : List Int) : Prop := (T b).toList = [109] ∧ Ct b ≤ 2 ∧ (ah.toList = [104] ∨ (nx l).toList = [115])
instance (ah : ByteArray) (b : Int) (l : List Int) : Decidable (isM ah b l) := by unfold isM; infer_instance
def itM (ah : ByteArray) (b : Int) (l : List Int) : S55 := if isM ah b l then ⟨12, ⟨#[110]⟩, Cn b⟩ else it b
def its1 (ah : ByteArray) : List Int → List S55
  | [] => []
  | b :: l => itM ah b l :: dash :: its1 (T b) l
def isB (b : Int) : Prop := 0 ≤ b ∧ b < 256
theorem byteF : ∀ m : Fin 256, item_counted.f 14 (T (m.val : Int)) (Ct (m.val : Int)) 0 = some (12, T (m.val : Int), Cn (m.val : Int)) ∧ ((T (m.val : Int)).toList = [109] → Cn (m.val : Int) = Ct (m.val : Int)) ∧ 0 ≤ Int.tmod (m.val : Int) 5 ∧ Int.tmod (m.val : Int) 5 < 5 := by decide +kernel
theorem byteI (b : Int) (h : isB b) : item_counted.f 14 (T b) (Ct b) 0 = some (12, T b, Cn b) ∧ ((T b).toList = [109] → Cn b = Ct b) ∧ 0 ≤ Int.tmod b 5 ∧ Int.tmod b 5 < 5 := by
  obtain ⟨h0, h1⟩ := h
  have := byteF ⟨b.toNat, by omega⟩
  simp only [Int.toNat_of_nonneg h0] at this
  exact this
theorem sorts_date (k : Nat) (t : ByteArray) (c a : Int) : item_sorts.f (k + 1) 14 t c a = some 5 := rfl
theorem sorts_plain (k : Nat) (t : ByteArray) (c a : Int) : item_sorts.f (k + 1) 17 t c a = some 0 := rfl
theorem sortL_toks (k : Nat) : ∀ (l : List Int) (h : List Bool), h.length = 8 → ∃ h', sortL (k + 1) (toks l) h false false = some (h', false, false) ∧ h'.getD 5 false = (h.getD 5 false || !l.isEmpty)
  | [], h, _ => ⟨h, rfl, by simp⟩
  | b :: l, h, hh => by
    obtain ⟨h', e1, e2⟩ := sortL_toks k l ((h.set 5 true).set 0 true) (by simp [hh])
    refine ⟨h', ?_, ?_⟩
    · rw [← e1]
      rfl
    · rw [e2]
      have : ((h.set 5 true).set 0 true).getD 5 false = true := by
        simp [List.getD_eq_getElem?_getD, hh]
      rw [this]
      simp
def srt (l : List Int) : Int := if l.isEmpty then 1 else 5
theorem sortF_toks (k : Nat) (l : List Int) : sortF (k + 1) (toks l) = some (srt l) := by
  obtain ⟨h', e1, e2⟩ := sortL_toks k l (List.replicate 8 false) rfl
  cases l with
  | nil => rfl
  | cons b l =>
    unfold sortF
    rw [e1]
    have e3 : h'.getD 5 false = true := by rw [e2]; rfl
    show some (sortR h' false false) = some 5
    unfold sortR
    rw [if_pos e3]
theorem toks_len : ∀ l : List Int, (toks l).length = 2 * l.length
  | [] => rfl
  | b :: l => by simp only [toks, List.length_cons, toks_len l]; omega
theorem its0_len : ∀ l : List Int, (its0 l).length = 2 * l.length
  | [] => rfl
  | b :: l => by simp only [its0, List.length_cons, its0_len l]; omega
theorem its1_len : ∀ (l : List Int) (ah : ByteArray), (its1 ah l).length = 2 * l.length
  | [], _ => rfl
  | b :: l, ah => by simp only [its1, List.length_cons, its1_len l]; omega
theorem its0_app : ∀ a b : List Int, its0 (a ++ b) = its0 a ++ its0 b
  | [], _ => rfl
  | x :: a, b => by simp only [List.cons_append, its0, its0_app a b]
theorem toks_app : ∀ a b : List Int, toks (a ++ b) = toks a ++ toks b
  | [], _ => rfl
  | x :: a, b => by simp only [List.cons_append, toks, toks_app a b]
/-- The tokens at a place. -/
theorem toks_even (a : List Int) (b : Int) (l : List Int) (i : Nat) (h : a.length = i) : rd_T53 (toks (a ++ b :: l)) ((2 * i : Nat) : Int) = tk b := by
  unfold rd_T53
  rw [toks_app, Int.toNat_natCast, List.getD_eq_getElem?_getD, List.getElem?_append_right (by rw [toks_len]; omega), toks_len, h, Nat.sub_self]
  rfl
theorem toks_odd (a : List Int) (b : Int) (l : List Int) (i : Nat) (h : a.length = i) : rd_T53 (toks (a ++ b :: l)) ((2 * i + 1 : Nat) : Int) = pl := by
  unfold rd_T53
  rw [toks_app, Int.toNat_natCast, List.getD_eq_getElem?_getD, List.getElem?_append_right (by rw [toks_len]; omega), toks_len, h, show 2 * i + 1 - 2 * i = 1 by omega]
  rfl
def st (s kd : Int) (its : List S55) (p : Int) : BSt := ⟨s, 0, 0, false, ⟨#[]⟩, ⟨#[]⟩, its, p, kd, []⟩
theorem add_date (s kd p : Int) (its : List S55) (b : Int) (h : its.length < 1000000000) : addF (st s kd its p) (it b) = some (st s kd (its ++ [it b]) p) := by
  unfold addF
  rw [if_neg (by intro h; exact absurd h.1 (show ¬ ((12 : Int) = 1) by decide)), if_neg (by intro h; exact absurd h.1 (show ¬ ((12 : Int) = 1) by decide)), if_pos (show (st s kd its p).items.length < 1000000000 from h)]
  rfl
theorem last_app (its : List S55) (b : S55) : lastI (its ++ [b]) = b := by
  unfold lastI rd_T55
  have : (((its ++ [b]).length : Int) - 1).toNat = its.length := by simp only [List.length_append, List.length_cons, List.length_nil]; omega
  rw [this]
  simp [List.getD_eq_getElem?_getD]
theorem add_dash (s kd p : Int) (its : List S55) (b : Int) (h : its.length < 999999999) : addF (st s kd (its ++ [it b]) p) dash = some (st s kd (its ++ [it b] ++ [dash]) p) := by
  unfold addF
  rw [if_neg (by intro h; exact absurd h.2 (by decide +kernel)), if_neg (by
    intro h
    have h3 := h.2.2
    rw [show (st s kd (its ++ [it b]) p).items = its ++ [it b] from rfl, last_app] at h3
    exact absurd h3 (by show ¬ ((12 : Int) = 1); decide)), if_pos (by show (its ++ [it b]).length < 1000000000; simp only [List.length_append, List.length_cons, List.length_nil]; omega)]
  rfl
theorem token_date (k : Nat) (all : List S53) (s kd p : Int) (its : List S55) (b : Int) (hb : isB b) (hr : rd_T53 all p = tk b) (hk : kd = 0 ∨ kd = 5) (hl : its.length < 1000000000) :
    tokenF (k + 1) all (st s kd its p) = some (1, 0, st s 5 (its ++ [it b]) p) := by
  have e : (st s kd its p).pos = p := rfl
  unfold tokenF
  rw [e, hr]
  rw [if_neg (show ¬ (tk b).f0 = 7 by show ¬ ((14 : Int) = 7); decide)]
  rw [Option.bind_some, if_neg (by decide), show (tk b).f0 = 14 from rfl, sorts_date, Option.bind_some, if_neg (by decide), if_pos (by exact hk)]
  unfold restF
  rw [if_neg (by rw [show (tk b).f0 = 14 from rfl]; decide)]
  unfold otherF
  rw [show (tk b).f0 = 14 from rfl]
  rw [if_neg (by decide), if_neg (by decide), if_neg (by decide), if_neg (by decide), if_neg (by decide), if_neg (by decide), if_neg (by decide), if_neg (by decide), if_neg (by decide), if_pos rfl]
  rw [show item_counted.f 14 (tk b).f1 (tk b).f2 (tk b).f3 = some (12, T b, Cn b) from (byteI b hb).1, Option.bind_some]
  show (((addF (st s 5 its p) (it b)).bind fun b2 => some ((0 : Int), b2)).bind fun r => some ((1 : Int), r.1, r.2)) = _
  rw [add_date _ _ _ _ _ hl]
  rfl
theorem token_plain (k : Nat) (all : List S53) (s kd p : Int) (its : List S55) (b : Int) (hr : rd_T53 all p = pl) (hl : its.length < 999999999) :
    tokenF (k + 1) all (st s kd (its ++ [it b]) p) = some (1, 0, st s kd (its ++ [it b] ++ [dash]) p) := by
  have e : (st s kd (its ++ [it b]) p).pos = p := rfl
  unfold tokenF
  rw [e, hr]
  rw [if_neg (show ¬ pl.f0 = 7 by decide)]
  rw [Option.bind_some, if_neg (by decide), show pl.f0 = 17 from rfl, sorts_plain, Option.bind_some, if_pos rfl]
  unfold restF
  rw [if_neg (by decide)]
  unfold otherF
  rw [if_neg (by decide), if_neg (by decide), if_pos (by decide)]
  show (((addF (st s kd (its ++ [it b]) p) dash).bind fun b2 => some ((0 : Int), b2)).bind fun r => some ((1 : Int), r.1, r.2)) = _
  rw [add_dash _ _ _ _ _ hl]
  rfl
theorem of_two (k : Nat) (l a r : List Int) (b : Int) (f : Nat) (s kd : Int) (i : Nat) (hl : l = a ++ b :: r) (ha : a.length = i) (hi : i < 1000) (hb : isB b) (hk : kd = 0 ∨ kd = 5) :
    ofL (k + 1) (toks l) (f + 2) (st s kd (its0 a) ((2 * i : Nat) : Int)) = ofL (k + 1) (toks l) f (st s 5 (its0 (a ++ [b])) ((2 * (i + 1) : Nat) : Int)) := by
  have hlen : (toks l).length = 2 * i + 2 + 2 * r.length := by rw [toks_len, hl]; simp only [List.length_append, List.length_cons, ha]; omega
  have w1 : wrap64 (((2 * i : Nat) : Int) + 1) = ((2 * i + 1 : Nat) : Int) := by unfold wrap64; omega
  have w2 : wrap64 (((2 * i + 1 : Nat) : Int) + 1) = ((2 * (i + 1) : Nat) : Int) := by unfold wrap64; omega
  have n0 := its0_len a
  rw [show ofL (k + 1) (toks l) (f + 2) (st s kd (its0 a) ((2 * i : Nat) : Int)) = _ from rfl]
  rw [ofL, if_pos (show 0 ≤ (st s kd (its0 a) ((2 * i : Nat) : Int)).pos by show (0 : Int) ≤ ((2 * i : Nat) : Int); omega), if_pos (show (st s kd (its0 a) ((2 * i : Nat) : Int)).pos < ((toks l).length : Int) by show ((2 * i : Nat) : Int) < ((toks l).length : Int); rw [hlen]; omega)]
  rw [token_date k (toks l) s kd _ (its0 a) b hb (by rw [hl]; exact toks_even a b r i ha) hk (by omega), Option.bind_some, if_pos rfl]
  rw [show ({ (1, 0, st s 5 (its0 a ++ [it b]) ((2 * i : Nat) : Int)).2.2 with pos := wrap64 ((1, 0, st s 5 (its0 a ++ [it b]) ((2 * i : Nat) : Int)).2.2.pos + (1, 0, st s 5 (its0 a ++ [it b]) ((2 * i : Nat) : Int)).1) } : BSt) = st s 5 (its0 a ++ [it b]) (wrap64 (((2 * i : Nat) : Int) + 1)) from rfl, w1]
  rw [ofL, if_pos (show 0 ≤ (st s 5 (its0 a ++ [it b]) ((2 * i + 1 : Nat) : Int)).pos by show (0 : Int) ≤ ((2 * i + 1 : Nat) : Int); omega), if_pos (show (st s 5 (its0 a ++ [it b]) ((2 * i + 1 : Nat) : Int)).pos < ((toks l).length : Int) by show ((2 * i + 1 : Nat) : Int) < ((toks l).length : Int); rw [hlen]; omega)]
  rw [token_plain k (toks l) s 5 _ (its0 a) b (by rw [hl]; exact toks_odd a b r i ha) (by omega), Option.bind_some, if_pos rfl]
  rw [show ({ (1, 0, st s 5 (its0 a ++ [it b] ++ [dash]) ((2 * i + 1 : Nat) : Int)).2.2 with pos := wrap64 ((1, 0, st s 5 (its0 a ++ [it b] ++ [dash]) ((2 * i + 1 : Nat) : Int)).2.2.pos + (1, 0, st s 5 (its0 a ++ [it b] ++ [dash]) ((2 * i + 1 : Nat) : Int)).1) } : BSt) = st s 5 (its0 a ++ [it b] ++ [dash]) (wrap64 (((2 * i + 1 : Nat) : Int) + 1)) from rfl, w2]
  rw [its0_app, List.append_assoc]
  rfl
theorem of_all (k : Nat) (l : List Int) (s : Int) (hl : l.length < 1000) (hb : ∀ b ∈ l, isB b) : ∀ (r a : List Int) (f : Nat) (kd : Int), l = a ++ r → (kd = 0 ∨ kd = 5) →
    ofL (k + 1) (toks l) (2 * r.length + 1 + f) (st s kd (its0 a) ((2 * a.length : Nat) : Int)) = some (s, 0, 0, false, ⟨#[]⟩, ⟨#[]⟩, minL ⟨#[]⟩ (its0 l), ((toks l).length : Int), 0)
  | [], a, f, kd, e, hk => by
    rw [List.append_nil] at e
    subst e
    rw [show 2 * ([] : List Int).length + 1 + f = f + 1 by simp only [List.length_nil]; omega, ofL, if_pos (show 0 ≤ (st s kd (its0 l) ((2 * l.length : Nat) : Int)).pos by show (0 : Int) ≤ ((2 * l.length : Nat) : Int); omega), if_neg (show ¬ (st s kd (its0 l) ((2 * l.length : Nat) : Int)).pos < ((toks l).length : Int) by show ¬ ((2 * l.length : Nat) : Int) < ((toks l).length : Int); rw [toks_len]; omega)]
    rfl
  | b :: r, a, f, kd, e, hk => by
    have hal : a.length < 1000 := by rw [e] at hl; simp only [List.length_append, List.length_cons] at hl; omega
    rw [show 2 * (b :: r).length + 1 + f = (2 * r.length + 1 + f) + 2 by simp only [List.length_cons]; omega]
    rw [of_two k l a r b _ s kd a.length e rfl hal (hb b (by rw [e]; simp)) hk]
    have := of_all k l s hl hb r (a ++ [b]) f 5 (by rw [e]; simp) (Or.inr rfl)
    rw [show (a ++ [b]).length = a.length + 1 by simp] at this
    exact this
theorem next_its : ∀ l : List Int, nextF (its0 l) = nx l
  | [] => rfl
  | b :: l => rfl
theorem minL_its : ∀ (l : List Int) (ah : ByteArray), (∀ b ∈ l, isB b) → minL ah (its0 l) = its1 ah l
  | [], ah, _ => rfl
  | b :: l, ah, h => by
    have ih := minL_its l (T b) (fun x hx => h x (by simp [hx]))
    have hb := byteI b (h b (by simp))
    have e : (isMin ah (it b) (dash :: its0 l)) ↔ isM ah b l := by
      unfold isMin isM
      rw [show nextF (dash :: its0 l) = nextF (its0 l) from rfl, next_its]
      constructor
      · rintro ⟨_, h2, h3, h4⟩
        exact ⟨h2, by rw [← hb.2.1 h2]; exact h3, h4⟩
      · rintro ⟨h2, h3, h4⟩
        exact ⟨rfl, h2, by show Cn b ≤ 2; rw [hb.2.1 h2]; exact h3, h4⟩
    show (if unitB (it b) = true then (if isMin ah (it b) (dash :: its0 l) then ⟨(it b).f0, ⟨#[110]⟩, (it b).f2⟩ else it b) :: minL (it b).f1 (dash :: its0 l) else it b :: minL ah (dash :: its0 l)) = itM ah b l :: dash :: its1 (T b) l
    rw [if_pos (show unitB (it b) = true from rfl)]
    rw [show minL (it b).f1 (dash :: its0 l) = dash :: minL (T b) (its0 l) from rfl, ih]
    unfold itM
    by_cases c : isM ah b l
    · rw [if_pos c, if_pos (e.2 c)]
      rfl
    · rw [if_neg c, if_neg (fun d => c (e.1 d))]
theorem item_of (k : Nat) (l : List Int) (hl : l.length ≤ 12) (hb : ∀ b ∈ l, isB b) (hk : 30 ≤ k) : item_Of.f k (toks l) = some (srt l, 0, 0, false, ⟨#[]⟩, ⟨#[]⟩, its1 ⟨#[]⟩ l, ((toks l).length : Int), 0) := by
  obtain ⟨j, rfl⟩ : ∃ j, k = j + 1 := ⟨k - 1, by omega⟩
  have h := of_all j l (srt l) (by omega) hb l [] (j + 1 - (2 * l.length + 1)) 0 rfl (Or.inl rfl)
  rw [show 2 * l.length + 1 + (j + 1 - (2 * l.length + 1)) = j + 1 by omega] at h
  unfold item_Of.f
  rw [sortF_toks, Option.bind_some, minL_its l _ hb] at *
  exact h
/-- The items at a place. -/
def lastT (ah : ByteArray) : List Int → ByteArray
  | [] => ah
  | b :: l => lastT (T b) l
theorem its1_app : ∀ (a r : List Int) (b : Int) (ah : ByteArray), ∃ x y, its1 ah (a ++ b :: r) = x ++ itM (lastT ah a) b r :: y ∧ x.length = 2 * a.length
  | [], r, b, ah => ⟨[], dash :: its1 (T b) r, rfl, rfl⟩
  | c :: a, r, b, ah => by
    obtain ⟨x, y, e, hx⟩ := its1_app a r b (T c)
    exact ⟨itM ah c (a ++ b :: r) :: dash :: x, y, by simp only [List.cons_append, its1, e, lastT], by simp only [List.length_cons, hx]; omega⟩
theorem its1_even (a r : List Int) (b : Int) (ah : ByteArray) : rd_T55 (its1 ah (a ++ b :: r)) ((2 * a.length : Nat) : Int) = itM (lastT ah a) b r := by
  obtain ⟨x, y, e, hx⟩ := its1_app a r b ah
  unfold rd_T55
  rw [e, Int.toNat_natCast, List.getD_eq_getElem?_getD, List.getElem?_append_right (by omega), hx, Nat.sub_self]
  rfl
theorem lastT_app (ah : ByteArray) (c : Int) : ∀ a : List Int, lastT ah (a ++ [c]) = T c
  | [] => rfl
  | b :: a => by
    show lastT (T b) (a ++ [c]) = T c
    exact lastT_app (T b) c a
theorem l1_all (l : List Int) (hl : l.length ≤ 12) (hb : ∀ b ∈ l, isB b) (s c o : Int) (ng : Bool) (wh pt : ByteArray) : ∀ (r a : List Int) (k : Nat), l = a ++ r →
    numerarylaw14_ItemMinutes.l1 (2 * r.length + 1 + k) (toks l) ((2 * a.length : Nat) : Int) s c o ng wh pt (its1 ⟨#[]⟩ l) = some true
  | [], a, k, e => by
    rw [List.append_nil] at e
    subst e
    rw [show 2 * ([] : List Int).length + 1 + k = k + 1 by simp only [List.length_nil]; omega, numerarylaw14_ItemMinutes.l1, if_neg (by rw [toks_len]; omega)]
  | b :: r, a, k, e => by
    have hn : l.length = a.length + 1 + r.length := by rw [e]; simp only [List.length_append, List.length_cons]; omega
    have ih := l1_all l hl hb s c o ng wh pt r (a ++ [b]) k (by rw [e]; simp)
    rw [show (a ++ [b]).length = a.length + 1 by simp] at ih
    have w2 : wrap64 (((2 * a.length : Nat) : Int) + 2) = ((2 * (a.length + 1) : Nat) : Int) := by unfold wrap64; omega
    have et : rd_T53 (toks l) ((2 * a.length : Nat) : Int) = tk b := by rw [e]; exact toks_even a b r _ rfl
    have ei : rd_T55 (its1 ⟨#[]⟩ l) ((2 * a.length : Nat) : Int) = itM (lastT ⟨#[]⟩ a) b r := by rw [e]; exact its1_even a r b _
    have hT := byteI b (hb b (by rw [e]; simp))
    have hlen := toks_len l
    have hlen1 := its1_len l ⟨#[]⟩
    -- the check itself
    have chk : ∀ (t : ByteArray) (x : Bool), t = T b → (x = true ↔ isM (lastT ⟨#[]⟩ a) b r) → numerarylaw14_ItemMinutes.j3 (2 * r.length + 2 + k) (toks l) ((2 * a.length : Nat) : Int) t x s c o ng wh pt (its1 ⟨#[]⟩ l) = some true := by
      intro t x ht hx
      rw [show 2 * r.length + 2 + k = (2 * r.length + 1 + k) + 1 by omega, numerarylaw14_ItemMinutes.j3, ei, w2, ih, ht]
      have p1 : (0 : Int) ≤ ((2 * a.length : Nat) : Int) := by omega
      have p2 : ((2 * a.length : Nat) : Int) < ((its1 ⟨#[]⟩ l).length : Int) := by rw [hlen1]; omega
      unfold itM
      by_cases m : isM (lastT ⟨#[]⟩ a) b r
      · rw [if_pos (hx.2 m), if_pos p1, if_pos p2, if_pos m, if_pos (show (⟨#[110]⟩ : ByteArray).toList = [110] by decide +kernel)]
      · rw [if_neg (fun d => m (hx.1 d)), if_pos p1, if_pos p2, if_neg m, if_pos (by rfl)]
    rw [show 2 * (b :: r).length + 1 + k = (2 * r.length + 2 + k) + 1 by simp only [List.length_cons]; omega, numerarylaw14_ItemMinutes.l1, et, w2]
    have f1 : (tk b).f1 = T b := rfl
    have f2 : (tk b).f2 = Ct b := rfl
    rw [f1, f2, if_pos (by rw [hlen]; omega), if_pos (by omega)]
    -- what stands behind
    have nxt : (if ((2 * (a.length + 1) : Nat) : Int) < ((toks l).length : Int) then (if 0 ≤ ((2 * (a.length + 1) : Nat) : Int) then (numerarylaw14_ItemMinutes.j3 (2 * r.length + 2 + k) (toks l) ((2 * a.length : Nat) : Int) (T b) (((rd_T53 (toks l) ((2 * (a.length + 1) : Nat) : Int)).f1).toList == ([115] : List UInt8)) s c o ng wh pt (its1 ⟨#[]⟩ l)) else (none)) else (numerarylaw14_ItemMinutes.j3 (2 * r.length + 2 + k) (toks l) ((2 * a.length : Nat) : Int) (T b) false s c o ng wh pt (its1 ⟨#[]⟩ l))) = numerarylaw14_ItemMinutes.j3 (2 * r.length + 2 + k) (toks l) ((2 * a.length : Nat) : Int) (T b) ((nx r).toList == ([115] : List UInt8)) s c o ng wh pt (its1 ⟨#[]⟩ l) := by
      cases r with
      | nil =>
        rw [if_neg (by rw [hlen, hn]; simp only [List.length_nil]; omega), show ((nx []).toList == ([115] : List UInt8)) = false by decide +kernel]
      | cons d r =>
        rw [if_pos (by rw [hlen, hn]; simp only [List.length_cons]; omega), if_pos (by omega)]
        have : rd_T53 (toks l) ((2 * (a.length + 1) : Nat) : Int) = tk d := by
          rw [show l = (a ++ [b]) ++ d :: r by rw [e]; simp]
          exact toks_even (a ++ [b]) d r _ (by simp)
        rw [this]
        rfl
    by_cases m1 : (T b).toList = [109]
    · rw [if_pos m1]
      by_cases m2 : Ct b ≤ 2
      · rw [if_pos m2, nxt]
        have base : ∀ x : Bool, (lastT ⟨#[]⟩ a).toList ≠ [104] → numerarylaw14_ItemMinutes.j3 (2 * r.length + 2 + k) (toks l) ((2 * a.length : Nat) : Int) (T b) ((nx r).toList == ([115] : List UInt8)) s c o ng wh pt (its1 ⟨#[]⟩ l) = some true := by
          intro x hne
          refine chk _ _ rfl ?_
          rw [beq_iff_eq]
          exact ⟨fun h => ⟨m1, m2, Or.inr h⟩, fun h => h.2.2.resolve_left hne⟩
        rcases List.eq_nil_or_concat a with ha | ⟨a', c', ha⟩
        · subst ha
          rw [if_neg (by decide)]
          exact base true (by decide +kernel)
        · rw [List.concat_eq_append] at ha
          have el : lastT ⟨#[]⟩ a = T c' := by rw [ha]; exact lastT_app _ _ _
          have hal : a.length = a'.length + 1 := by rw [ha]; simp
          have wm : wrap64 (((2 * a.length : Nat) : Int) - 2) = ((2 * a'.length : Nat) : Int) := by
            rw [hal]; unfold wrap64; omega
          have ep : rd_T53 (toks l) ((2 * a'.length : Nat) : Int) = tk c' := by
            rw [show l = a' ++ c' :: (b :: r) by rw [e, ha]; simp]
            exact toks_even a' c' _ _ rfl
          rw [if_pos (by rw [hal]; omega), wm, if_pos (by omega), if_pos (by rw [hlen, hn, hal]; omega), ep]
          have f3 : (tk c').f1 = T c' := rfl
          rw [f3]
          by_cases m3 : (T c').toList = [104]
          · rw [if_pos m3]
            exact chk _ _ rfl ⟨fun _ => ⟨m1, m2, Or.inl (by rw [el]; exact m3)⟩, fun _ => rfl⟩
          · rw [if_neg m3]
            exact base true (by rw [el]; exact m3)
      · rw [if_neg m2]
        exact chk _ _ rfl ⟨fun h => absurd h (by decide), fun h => absurd h.2.1 m2⟩
    · rw [if_neg m1]
      exact chk _ _ rfl ⟨fun h => absurd h (by decide), fun h => absurd h.1 m1⟩
theorem l0_all (l : List Int) (hl : l.length ≤ 12) (hb : ∀ b ∈ l, isB b) : ∀ (r a : List Int) (k : Nat), l = a ++ r → 200 ≤ k → numerarylaw14_ItemMinutes.l0 (r.length + 1 + k) (toks a) l (l.length : Int) ((a.length : Nat) : Int) = some true
  | [], a, k, e, hk => by
    rw [List.append_nil] at e
    subst e
    rw [show ([] : List Int).length + 1 + k = k + 1 by simp only [List.length_nil]; omega, numerarylaw14_ItemMinutes.l0, if_neg (by omega), item_of k l hl hb (by omega), Option.bind_some, at_rounds numerarylaw14_wakes.mono (by omega) wakes14, Option.bind_some, if_pos rfl, if_pos rfl]
    obtain ⟨j, rfl⟩ : ∃ j, k = j + 1 := ⟨k - 1, by omega⟩
    rw [numerarylaw14_ItemMinutes.j1]
    rw [if_neg (by
      show ¬ ((((its1 ⟨#[]⟩ l).length : Int) != ((toks l).length : Int)) = true)
      rw [its1_len, toks_len]; simp)]
    have h := l1_all l hl hb (srt l) 0 0 false ⟨#[]⟩ ⟨#[]⟩ l [] (j - (2 * l.length + 1)) rfl
    rw [show 2 * l.length + 1 + (j - (2 * l.length + 1)) = j by omega] at h
    exact h
  | b :: r, a, k, e, hk => by
    have hn : l.length = a.length + 1 + r.length := by rw [e]; simp only [List.length_append, List.length_cons]; omega
    have ih := l0_all l hl hb r (a ++ [b]) k (by rw [e]; simp) hk
    have hT := byteI b (hb b (by rw [e]; simp))
    have er : rd l ((a.length : Nat) : Int) = b := by
      unfold rd
      rw [e]
      simp [List.getD_eq_getElem?_getD]
    rw [show (b :: r).length + 1 + k = (r.length + 1 + k) + 1 by simp only [List.length_cons]; omega, numerarylaw14_ItemMinutes.l0, er]
    rw [if_pos (by omega), if_pos (by omega), if_pos (by omega), if_pos hT.2.2.1, if_pos hT.2.2.2, Option.bind_some]
    rw [if_pos (by rw [toks_len]; simp only [List.length_cons, List.length_nil]; omega)]
    rw [show wrap64 (((a.length : Nat) : Int) + 1) = (((a ++ [b]).length : Nat) : Int) by simp only [List.length_append, List.length_cons, List.length_nil]; unfold wrap64; omega]
    rw [toks_app] at ih
    exact ih
theorem ItemMinutes : numerarylaw14_ItemMinutes.Pure := by
  intro l0 h1 h2 h3
  refine ⟨300, ?_⟩
  have hm : mn (l0.length : Int) 12 = ((min l0.length 12 : Nat) : Int) := by
    unfold mn
    split <;> omega
  unfold numerarylaw14_ItemMinutes.f
  rw [hm, if_pos (by omega), if_pos (by omega), Int.toNat_natCast]
  have hb : ∀ b ∈ l0.take (min l0.length 12), isB b := by
    intro b hb
    have := h3 b (List.mem_of_mem_take hb)
    unfold isB
    simp [Lit.wf] at this
    rw [show IntKind.u8.min = 0 from rfl, show IntKind.u8.max = 255 from rfl] at this
    omega
  have hl : (l0.take (min l0.length 12)).length ≤ 12 := by simp only [List.length_take]; omega
  have h := l0_all _ hl hb _ [] (299 - (l0.take (min l0.length 12)).length) rfl (by omega)
  rw [show (l0.take (min l0.length 12)).length + 1 + (299 - (l0.take (min l0.length 12)).length) = 300 by omega] at h
  exact h
end Go.Proofs.YtiidpicgdjjikaaGreatDoor.Pure

