/- What Ints, At and New tell, in plain words. -/
import Derived.Test.YtglicimbnfamdaaArenaD
namespace Go.Proofs.Ytglicimbnfamdaa.Arena
open Go.RowKit Go.Proofs.YtglicimbnfamdaaW.PrintWords Go.Proofs.YtglicimbnfamdaaW.PrintLast Go.Proofs.YtglicimbnfamdaaW.PrintMore
open Go.Proofs.Ytglicimbnfamdaa.PArenaTells
set_option linter.unusedVariables false
set_option linter.unusedSimpArgs false

theorem rd_nat (l : List Int) (i : Nat) (h : i < l.length) : rd l (i : Int) = l[i] := by
  simp [rd, List.getD_eq_getElem?_getD, List.getElem?_eq_getElem h]
theorem ints_loop (l l' : List Int) (hl : l.length = l'.length) (hm : l.length ≤ 140737488351232) : ∀ (d i k : Nat), i + d = l.length → d < k →
    ragpickerref01_Ints.l0 k l l' (i : Int) = some (decide (l.drop i = l'.drop i))
  | 0, i, k, hi, hk => by
    obtain ⟨k, rfl⟩ : ∃ m, k = m + 1 := ⟨k - 1, by omega⟩
    simp only [ragpickerref01_Ints.l0]
    rw [if_neg (by omega), List.drop_of_length_le (by omega), List.drop_of_length_le (by omega)]
    simp
  | d + 1, i, k, hi, hk => by
    obtain ⟨k, rfl⟩ : ∃ m, k = m + 1 := ⟨k - 1, by omega⟩
    simp only [ragpickerref01_Ints.l0]
    rw [if_pos (by omega), if_pos (by omega), if_pos (by omega), rd_nat l i (by omega), rd_nat l' i (by omega)]
    rw [List.drop_eq_getElem_cons (show i < l.length by omega), List.drop_eq_getElem_cons (show i < l'.length by omega)]
    by_cases h : l[i] = l'[i]
    · rw [if_pos h, show wrap64 ((i : Int) + 1) = ((i + 1 : Nat) : Int) by unfold wrap64; omega, ints_loop l l' hl hm d (i + 1) k (by omega) (by omega)]
      simp only [List.cons.injEq, h, true_and]
    · rw [if_neg h]
      simp only [List.cons.injEq, h, false_and, decide_false]
theorem Ints_some (l l' : List Int) (hm : l.length ≤ 140737488351232) : ragpickerref01_Ints.f (l.length + 1) l l' = some (decide (l = l')) := by
  unfold ragpickerref01_Ints.f
  by_cases h : l.length = l'.length
  · rw [if_pos (by omega)]
    have := ints_loop l l' h hm l.length 0 (l.length + 1) (by omega) (by omega)
    simpa using this
  · rw [if_neg (by omega)]
    have : ¬ l = l' := fun e => h (by rw [e])
    simp [this]
theorem Ints_any (A A' : Option Addr) (c c' : Nat) (l l' : List Int) (w : World) (hr : Rd w A l) (hc : l.length ≤ c) (hr' : Rd w A' l') (hc' : l'.length ≤ c') (hm : l.length ≤ 140737488351232) :
    Calls Try.prog 13 #[.slice A l.length c, .slice A' l'.length c'] w fun e w' => e = .returned (.bool (decide (l = l'))) ∧ Drawn0 w w' :=
  ragpickerref01_Ints.calls _ A c l A' c' l' _ w hr hc hr' hc' (Ints_some l l' hm)

/-- What At tells. -/
def atS (l : List Int) (p : Int) : Int × Int := if mayB l = false then (0, 1) else if p < 0 ∨ (l.length : Int) / 16 ≤ p then (0, 3) else ((p + 1) * 16, 0)
theorem At_some (l : List Int) (p : Int) (hl : l.length ≤ 9223372036854775807) : arena_At.f l p = some (atS l p) := by
  unfold arena_At.f atS
  rw [May_some l hl]
  simp only [Option.bind_some]
  cases hm : mayB l
  · simp
  · have := mayB_true hm
    have e : wrap64 ((l.length : Int) / 16) = (l.length : Int) / 16 := by unfold wrap64; omega
    simp only [if_true, e]
    rw [if_neg (show ¬ (true = false) by decide)]
    by_cases h1 : p < 0
    · rw [if_pos h1, if_pos (.inl h1)]
    · rw [if_neg h1]
      by_cases h2 : (l.length : Int) / 16 ≤ p
      · rw [if_pos (by omega), if_pos (.inr h2)]
      · rw [if_neg (by omega), if_neg (by omega)]
        have e2 : wrap64 (wrap64 (p + 1) * 16) = (p + 1) * 16 := by unfold wrap64; omega
        rw [e2]
theorem At_any (A : Option Addr) (c : Nat) (l : List Int) (p : Int) (w : World) (hr : Rd w A l) (hc : l.length ≤ c) :
    Calls Try.prog 15 #[.slice A l.length c, .int .i64 p] w fun e w' => e = .returned (.tuple #[.int .i64 (atS l p).1, .int .i64 (atS l p).2]) ∧ Drawn0 w w' :=
  arena_At.calls A c l p _ _ w hr hc (At_some l p (Kd.C_max hr))

/-- What New tells. -/
def newS (n : Int) : List Int × Int := if 1 ≤ n ∧ n ≤ 64 then (List.replicate (16 * n).toNat 0, 0) else ([], 1)
theorem New_some (n : Int) : arena_New.f n = some (newS n) := by
  unfold arena_New.f arena_pages.f newS
  by_cases h : 1 ≤ n ∧ n ≤ 64
  · have e : wrap64 (n * 16) = 16 * n := by unfold wrap64; omega
    rw [if_pos h, if_pos h.1, e]
    have d : decide (n ≤ 64) = true := by simpa using h.2
    simp only [Option.bind_some, d, if_true]
    rw [if_pos (by omega), if_pos (by omega)]
  · rw [if_neg h]
    by_cases h1 : n ≥ 1
    · have d : decide (n ≤ 64) = false := by simp; omega
      rw [if_pos h1]
      simp [d]
    · rw [if_neg h1]; simp
theorem New_any (n : Int) (w : World) : Calls Try.prog 11 #[.int .i64 n] w fun e w' => ∃ v : Value, e = .returned (.tuple #[v, .int .i64 (newS n).2]) ∧ Own w' w.heap.size v (newS n).1 ∧ Below w.heap.size w w' :=
  arena_New.calls n _ _ w (New_some n)

abbrev InI64 (a : Int) : Prop := -9223372036854775808 ≤ a ∧ a ≤ 9223372036854775807
theorem awake_true (w : World) : Calls Try.prog 10 #[] w fun e w' => e = .returned (.bool true) ∧ Below w.heap.size w w' := awake_any w

end Go.Proofs.Ytglicimbnfamdaa.Arena
