/- The walk of ArenaPages. -/
import Derived.Test.YtglicimbnfamdaaArenaE
namespace Go.Proofs.Ytglicimbnfamdaa.Arena
open Go.RowKit Go.Proofs.YtglicimbnfamdaaW.PrintWords Go.Proofs.YtglicimbnfamdaaW.PrintLast Go.Proofs.YtglicimbnfamdaaW.PrintMore
open Go.Proofs.Ytglicimbnfamdaa.PArenaTells
set_option linter.unusedVariables false
set_option linter.unusedSimpArgs false

set_option maxHeartbeats 400000 in
theorem pages_long (A : Option Addr) (c : Nat) (l : List Int) (p : Int) (w : World) (hlong : 1100 < l.length) (hm : l.length ≤ 140737488351232) :
    Calls Try.prog 4 #[.slice A l.length c, .int .i64 p] w (TruePost w) := by
  have h1 : (1100 : Int) < (l.length : Int) := by omega
  go_enter Try.func4, Try.ntmps4
  go_wp2_with fail
  refine (awake_true _).mono ?_
  rintro e w1 ⟨rfl, hb⟩
  have HB := Aside0.mk hb
  clear hb
  go_wp2
  go_ret
  exact ⟨rfl, HB.out⟩

set_option maxHeartbeats 400000 in
theorem pages_err (A : Option Addr) (c : Nat) (l : List Int) (p x : Int) (w : World) (hr : Rd w A l) (hc : l.length ≤ c) (hs : l.length ≤ 1100) (hx : atS l p = (0, x)) (hx0 : x ≠ 0) :
    Calls Try.prog 4 #[.slice A l.length c, .int .i64 p] w (TruePost w) := by
  have h1 : ¬ (1100 : Int) < (l.length : Int) := by omega
  have t1 : (x != 0) = true := by simpa using hx0
  have HR := Aside0.mk hr
  have K := fun w (h : Rd w A l) => At_any A c l p w h hc
  rw [hx] at K
  have HK := Lib.hid K
  clear hr hx hx0 K
  go_enter Try.func4, Try.ntmps4
  go_wp2_with fail
  refine (awake_true _).mono ?_
  rintro e w1 ⟨rfl, hb⟩
  have HB := Aside0.mk hb
  have HR1 := Aside0.mk (Kd.C_below HR.out hb)
  clear hb
  go_wp2_with fail
  refine (HK.out _ HR1.out).mono ?_
  rintro e w2 ⟨rfl, hd⟩
  have HB2 := Aside0.mk (drawn_below HB.out hd)
  clear hd
  go_wp2
  go_ret
  exact ⟨rfl, HB2.out⟩

set_option maxHeartbeats 1000000 in
theorem pages_ok (A : Option Addr) (c : Nat) (l : List Int) (p a : Int) (w : World) (hr : Rd w A l) (hc : l.length ≤ c) (hcm : c ≤ 9223372036854775807) (hs : l.length ≤ 1100) (hm : mayB l = true) (hp0 : 0 ≤ p) (hp : p < (l.length : Int) / 16) (ha : a = (p + 1) * 16) (hx : atS l p = (a, 0)) :
    Calls Try.prog 4 #[.slice A l.length c, .int .i64 p] w (TruePost w) := by
  have h1 : ¬ (1100 : Int) < (l.length : Int) := by omega
  have hl := mayB_true hm
  have HL := Lib.hid hl
  have HM := Lib.hid hm
  have HR := Aside0.mk hr
  have K := fun w (h : Rd w A l) => At_any A c l p w h hc
  rw [hx] at K
  have HK := Lib.hid K
  have HA := Lib.hid ha
  have ha0 : 0 ≤ a := by omega
  have ha1 : a ≤ 2000 := by omega
  have hp1 : p ≤ 2000 := by omega
  clear hr hx K ha hm hl
  go_enter Try.func4, Try.ntmps4
  go_wp2_with fail
  refine (awake_true _).mono ?_
  rintro e w1 ⟨rfl, hb⟩
  have HB := Aside0.mk hb
  have HR1 := Aside0.mk (Kd.C_below HR.out hb)
  clear hb
  go_wp2_with fail
  refine (HK.out _ HR1.out).mono ?_
  rintro e w2 ⟨rfl, hd⟩
  have HB2 := Aside0.mk (drawn_below HB.out hd)
  have HR2 := Aside0.mk (rd_drawn HR1.out hd)
  clear hd
  go_wp2
  go_loopw [8] (fun i wr => ∃ k : Nat, k ≤ 16 ∧ i = .int .i64 k ∧ Aside0 (Rd wr A l) ∧ Aside0 (Below w.heap.size w wr)) (fun i _ => 16 - (intOf i).toNat)
  case atStart => exact ⟨0, by omega, rfl, HR2, HB2⟩
  case round =>
    obtain ⟨k, hk, rfl, HRr, HBr⟩ := hrel
    by_cases hlt : k < 16
    · have P := Page_ok A c l (a + (k : Int)) wr HRr.out hc hcm HM.out (by have := HA.out; omega) (by have := HA.out; have := HL.out; omega)
      rw [show (a + (k : Int)) / 16 - 1 = p from by have := HA.out; omega] at P
      have HP := Lib.hid P
      have t1 : (p != p) = false := by simp
      clear P
      go_wp2_with fail
      refine (HP.out).mono ?_
      rintro e w3 ⟨rfl, hd⟩
      have HB3 := Aside0.mk (drawn_below HBr.out hd)
      have HR3 := Aside0.mk (rd_drawn HRr.out hd)
      clear hd
      go_wp2
      go_roundw
      case rel => exact ⟨k + 1, by omega, by go_num, HR3, HB3⟩
      case measure => simp [intOf]; omega
    · by_cases hq : p + 1 < (l.length : Int) / 16
      · have P := Page_ok A c l (a + 16) wr HRr.out hc hcm HM.out (by omega) (by have := HA.out; have := HL.out; omega)
        rw [show (a + 16) / 16 - 1 = p + 1 from by have := HA.out; omega] at P
        have HP := Lib.hid P
        have t1 : (p + 1 == p + 1) = true := by simp
        clear P
        go_wp2_with fail
        refine (HP.out).mono ?_
        rintro e w3 ⟨rfl, hd⟩
        have HB3 := Aside0.mk (drawn_below HBr.out hd)
        clear hd
        go_wp2
        go_ret
        exact ⟨rfl, HB3.out⟩
      · have HP := Lib.hid (Page_none A c l (a + 16) wr HRr.out hc HM.out (by omega) (by have := HA.out; have := HL.out; omega))
        have t1 : (p == (l.length : Int) / 16 - 1) = true := by simp; omega
        go_wp2_with fail
        refine (HP.out).mono ?_
        rintro e w3 ⟨rfl, hd⟩
        have HB3 := Aside0.mk (drawn_below HBr.out hd)
        clear hd
        go_wp2
        go_ret
        exact ⟨rfl, HB3.out⟩

theorem sureArenaPages (A : Option Addr) (c : Nat) (l : List Int) (p : Int) (w : World) (hr : Rd w A l) (hc : l.length ≤ c) (hcm : c ≤ 9223372036854775807) (hm : l.length * 8 ≤ 140737488351232) (hf : InI64 p) :
    Calls Try.prog 4 #[.slice A l.length c, .int .i64 p] w (TruePost w) := by
  by_cases h : l.length ≤ 1100
  · cases hb : mayB l
    · exact pages_err A c l p 1 w hr hc h (by unfold atS; rw [if_pos hb]) (by decide)
    · by_cases hq : p < 0 ∨ (l.length : Int) / 16 ≤ p
      · exact pages_err A c l p 3 w hr hc h (by unfold atS; rw [if_neg (by rw [hb]; decide), if_pos hq]) (by decide)
      · exact pages_ok A c l p ((p + 1) * 16) w hr hc hcm h hb (by omega) (by omega) rfl (by unfold atS; rw [if_neg (by rw [hb]; decide), if_neg hq])
  · exact pages_long A c l p w (by omega) (by omega)

end Go.Proofs.Ytglicimbnfamdaa.Arena
