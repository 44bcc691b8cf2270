/- What the reference's functions on words tell. -/
import Derived.Test.YtglicimbnfamdaaZeros
namespace Go.Proofs.Ytglicimbnfamdaa.Arena
open Go.RowKit Go.Proofs.YtglicimbnfamdaaW.PrintWords Go.Proofs.YtglicimbnfamdaaW.PrintLast Go.Proofs.YtglicimbnfamdaaW.PrintMore
open Go.Proofs.Ytglicimbnfamdaa.PArenaTells
set_option linter.unusedVariables false
set_option linter.unusedSimpArgs false

theorem RefMay_some (l : List Int) : ragpickerref02_May.f l = some (mayB l) := by
  unfold ragpickerref02_May.f mayB
  by_cases h1 : (l.length : Int) ≥ 16
  · rw [if_pos h1]
    by_cases h2 : (l.length : Int) ≤ 1024
    · rw [if_pos h2]
      congr 1
      rw [Bool.eq_iff_iff]; simp only [beq_iff_eq, decide_eq_true_eq]; omega
    · rw [if_neg h2]
      congr 1
      rw [eq_comm, decide_eq_false_iff_not]; omega
  · rw [if_neg h1]
    congr 1
    rw [eq_comm, decide_eq_false_iff_not]; omega
theorem RefMay_any (A : Option Addr) (c : Nat) (l : List Int) (w : World) (hr : Rd w A l) (hc : l.length ≤ c) :
    Calls Try.prog 25 #[.slice A l.length c] w fun e w' => e = .returned (.bool (mayB l)) ∧ Drawn0 w w' :=
  ragpickerref02_May.calls A c l _ w hr hc (RefMay_some l)

def isB (l : List Int) (a : Int) : Bool := decide (16 ≤ a ∧ a < 16 + (l.length : Int))
theorem Is_some (l : List Int) (a : Int) (hl : l.length ≤ 2000) : ragpickerref02_Is.f l a = some (isB l a) := by
  unfold ragpickerref02_Is.f isB
  have e : wrap64 (16 + (l.length : Int)) = 16 + (l.length : Int) := by unfold wrap64; omega
  rw [e]
  by_cases h : a ≥ 16
  · rw [if_pos h]; simp [h]
  · rw [if_neg h]
    congr 1
    rw [eq_comm, decide_eq_false_iff_not]; omega
theorem Is_any (A : Option Addr) (c : Nat) (l : List Int) (a : Int) (w : World) (hr : Rd w A l) (hc : l.length ≤ c) (hl : l.length ≤ 2000) :
    Calls Try.prog 29 #[.slice A l.length c, .int .i64 a] w fun e w' => e = .returned (.bool (isB l a)) ∧ Drawn0 w w' :=
  ragpickerref02_Is.calls A c l a _ w hr hc (Is_some l a hl)

theorem RefGet_some (l : List Int) (a : Int) (hl : l.length ≤ 2000) : ragpickerref02_Get.f l a = some (getS l a) := by
  unfold ragpickerref02_Get.f getS
  rw [RefMay_some, Is_some l a hl]
  simp only [Option.bind_some]
  cases hm : mayB l
  · simp
  · simp only [if_true, Bool.true_eq_false, if_false]
    by_cases h : a < 16 ∨ (l.length : Int) ≤ a - 16
    · rw [if_pos h, if_neg (by unfold isB; simp; omega)]
    · have e : wrap64 (a - 16) = a - 16 := by unfold wrap64; omega
      rw [if_neg h, if_pos (by unfold isB; simp; omega), e, if_pos (by omega), if_pos (by omega)]
theorem RefGet_any (A : Option Addr) (c : Nat) (l : List Int) (a : Int) (w : World) (hr : Rd w A l) (hc : l.length ≤ c) (hl : l.length ≤ 2000) :
    Calls Try.prog 20 #[.slice A l.length c, .int .i64 a] w fun e w' => e = .returned (.tuple #[.int .i64 (getS l a).1, .int .i64 (getS l a).2]) ∧ Drawn0 w w' :=
  ragpickerref02_Get.calls A c l a _ _ w hr hc (RefGet_some l a hl)

theorem page_loop (a : Int) (ha : 16 ≤ a) (hb : a ≤ 3000) : ∀ (d k : Nat) (n : Int), 0 ≤ n → n ≤ a / 16 - 1 → a / 16 - 1 - n = d → d < k → ragpickerref02_Page.l0 k a n = some (a / 16 - 1, 0)
  | 0, k, n, h0, h1, hd, hk => by
    obtain ⟨k, rfl⟩ : ∃ m, k = m + 1 := ⟨k - 1, by omega⟩
    simp only [ragpickerref02_Page.l0]
    have e : wrap64 (16 * wrap64 (n + 2)) = 16 * (n + 2) := by unfold wrap64; omega
    rw [e, if_neg (by omega)]
    rw [show n = a / 16 - 1 from by omega]
  | d + 1, k, n, h0, h1, hd, hk => by
    obtain ⟨k, rfl⟩ : ∃ m, k = m + 1 := ⟨k - 1, by omega⟩
    simp only [ragpickerref02_Page.l0]
    have e : wrap64 (16 * wrap64 (n + 2)) = 16 * (n + 2) := by unfold wrap64; omega
    have e2 : wrap64 (n + 1) = n + 1 := by unfold wrap64; omega
    rw [e, if_pos (by omega), e2]
    exact page_loop a ha hb d k (n + 1) (by omega) (by omega) (by omega) (by omega)
theorem RefPage_some (l : List Int) (a : Int) (hl : l.length ≤ 2000) : ragpickerref02_Page.f 300 l a = some (pageS l a) := by
  unfold ragpickerref02_Page.f
  rw [RefGet_some l a hl]
  simp only [Option.bind_some]
  unfold getS pageS
  cases hm : mayB l
  · rfl
  · simp only [Bool.true_eq_false, if_false]
    by_cases h : a < 16 ∨ (l.length : Int) ≤ a - 16
    · simp only [if_pos h]; rfl
    · simp only [if_neg h, if_true]
      exact page_loop a (by omega) (by omega) (a / 16 - 1).toNat 300 0 (by omega) (by omega) (by omega) (by omega)
theorem RefPage_any (A : Option Addr) (c : Nat) (l : List Int) (a : Int) (w : World) (hr : Rd w A l) (hc : l.length ≤ c) (hl : l.length ≤ 2000) :
    Calls Try.prog 23 #[.slice A l.length c, .int .i64 a] w fun e w' => e = .returned (.tuple #[.int .i64 (pageS l a).1, .int .i64 (pageS l a).2]) ∧ Drawn0 w w' :=
  ragpickerref02_Page.calls 300 A c l a _ _ w hr hc (RefPage_some l a hl)

theorem RefAt_some (l : List Int) (p : Int) (hl : l.length ≤ 2000) : ragpickerref02_At.f l p = some (atS l p) := by
  unfold ragpickerref02_At.f atS
  rw [RefMay_some]
  simp only [Option.bind_some]
  cases hm : mayB l
  · simp
  · have := mayB_true hm
    simp only [if_true, Bool.true_eq_false, if_false]
    by_cases h1 : p < 0
    · rw [if_pos h1, if_pos (.inl h1)]
    · rw [if_neg h1]
      by_cases h2 : p > 64
      · rw [if_pos h2, if_pos (by omega)]
      · have e : wrap64 (16 * p) = 16 * p := by unfold wrap64; omega
        have e2 : wrap64 (16 + 16 * p) = 16 + 16 * p := by unfold wrap64; omega
        rw [if_neg h2, e, e2]
        by_cases h3 : 16 * p ≥ (l.length : Int)
        · rw [if_pos h3, if_pos (by omega)]
        · rw [if_neg h3, if_neg (by omega), show 16 + 16 * p = (p + 1) * 16 from by omega]
theorem RefAt_any (A : Option Addr) (c : Nat) (l : List Int) (p : Int) (w : World) (hr : Rd w A l) (hc : l.length ≤ c) (hl : l.length ≤ 2000) :
    Calls Try.prog 24 #[.slice A l.length c, .int .i64 p] w fun e w' => e = .returned (.tuple #[.int .i64 (atS l p).1, .int .i64 (atS l p).2]) ∧ Drawn0 w w' :=
  ragpickerref02_At.calls A c l p _ _ w hr hc (RefAt_some l p hl)

/-- What Put tells, and Zero. -/
def putS (l : List Int) (a v : Int) : List Int × Int := match partErr l a 1 with | some x => ([], x) | none => (l.set (a - 16).toNat v, 0)
def zeroAns (l : List Int) (a n : Int) : List Int × Int := match partErr l a n with | some x => ([], x) | none => (zeroS l (a - 16).toNat n.toNat, 0)
def AnsPost (r : List Int × Int) (w : World) (e : Ending) (w' : World) : Prop := ∃ v : Value, e = .returned (.tuple #[v, .int .i64 r.2]) ∧ Own w' w.heap.size v r.1 ∧ Below w.heap.size w w'
theorem ans_err {x : Int} {w w' : World} {e : Ending} (h : ErrPost x w e w') : AnsPost ([], x) w e w' := ⟨_, h.1, Kd.R_nil _ _ _ _ _, h.2⟩
theorem ans_list {l : List Int} {w w' : World} {e : Ending} (h : ListPost l w e w') : AnsPost (l, 0) w e w' := h

theorem Put_any (A : Option Addr) (c : Nat) (l : List Int) (a v : Int) (w : World) (hr : Rd w A l) (hl : l.length ≤ 2000) (ha : a ≤ 9223372036854775807) :
    Calls Try.prog 17 #[.slice A l.length c, .int .i64 a, .int .i64 v] w (AnsPost (putS l a v) w) := by
  unfold putS
  cases hx : partErr l a 1 with
  | some x => exact (Put_err A c l a v x w hr (by omega) ha hx (puts_pos hx)).mono fun _ _ h => ans_err h
  | none =>
    have h := puts_none hx
    exact (Put_ok A c l a v w hr (by omega) h.1 h.2.1 h.2.2).mono fun _ _ h => ans_list h
theorem Zero_any (A : Option Addr) (c : Nat) (l : List Int) (a n : Int) (w : World) (hr : Rd w A l) (hl : l.length ≤ 2000) (ha : a ≤ 9223372036854775807) :
    Calls Try.prog 19 #[.slice A l.length c, .int .i64 a, .int .i64 n] w (AnsPost (zeroAns l a n) w) := by
  unfold zeroAns
  cases hx : partErr l a n with
  | some x => exact (Zero_err A c l a n x w hr (by omega) ha hx (puts_pos hx)).mono fun _ _ h => ans_err h
  | none =>
    obtain ⟨hm, rfl | ⟨h1, h2, h3⟩⟩ := zero_none hx
    · exact (Zero_nought A c l a w hr (by omega) hm).mono fun _ _ h => ans_list h
    · exact (Zero_ok A c l a n w hr (by omega) hm h1 h2 h3).mono fun _ _ h => ans_list h

end Go.Proofs.Ytglicimbnfamdaa.Arena
