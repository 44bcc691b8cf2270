/- The walk of ArenaEdges. -/
import Derived.Test.YtglicimbnfamdaaArenaE
namespace Go.Proofs.Ytglicimbnfamdaa.Arena
open Go.RowKit Go.Proofs.YtglicimbnfamdaaW.PrintWords Go.Proofs.YtglicimbnfamdaaW.PrintLast Go.Proofs.YtglicimbnfamdaaW.PrintMore
open Go.Proofs.Ytglicimbnfamdaa.PArenaTells
set_option linter.unusedVariables false
set_option linter.unusedSimpArgs false

theorem edge_err {l : List Int} {a n : Int} (hm : mayB l = true) (hn : 0 < n) (h : a < 16 ∨ (l.length : Int) ≤ a - 16) : partErr l a n = some 3 := by
  unfold partErr
  rw [if_neg (by rw [hm]; simp; omega), if_neg (by omega), if_pos (by rcases h with h | h <;> simp [h])]

set_option maxHeartbeats 400000 in
theorem edges_out (A : Option Addr) (c : Nat) (l : List Int) (far : Int) (w : World) (hm : l.length ≤ 140737488351232) (h : 1100 < l.length ∨ (l.length ≤ 1100 ∧ far < 0) ∨ (l.length ≤ 1100 ∧ 0 ≤ far ∧ 1000000 < far)) :
    Calls Try.prog 8 #[.slice A l.length c, .int .i64 far] w (TruePost w) := by
  rcases h with h | ⟨h1, h2⟩ | ⟨h1, h2, h3⟩
  · have t1 : (1100 : Int) < (l.length : Int) := by omega
    go_enter Try.func8, Try.ntmps8
    go_wp2_with fail
    refine (awake_true _).mono ?_
    rintro e w1 ⟨rfl, hb⟩
    have HB := Aside0.mk hb
    clear hb
    go_wp2
    go_ret
    exact ⟨rfl, HB.out⟩
  · have t1 : ¬ (1100 : Int) < (l.length : Int) := by omega
    go_enter Try.func8, Try.ntmps8
    go_wp2_with fail
    refine (awake_true _).mono ?_
    rintro e w1 ⟨rfl, hb⟩
    have HB := Aside0.mk hb
    clear hb
    go_wp2
    go_ret
    exact ⟨rfl, HB.out⟩
  · have t1 : ¬ (1100 : Int) < (l.length : Int) := by omega
    have t2 : ¬ far < 0 := by omega
    go_enter Try.func8, Try.ntmps8
    go_wp2_with fail
    refine (awake_true _).mono ?_
    rintro e w1 ⟨rfl, hb⟩
    have HB := Aside0.mk hb
    clear hb
    go_wp2
    go_ret
    exact ⟨rfl, HB.out⟩

set_option maxHeartbeats 400000 in
theorem edges_bad (A : Option Addr) (c : Nat) (l : List Int) (far : Int) (w : World) (hr : Rd w A l) (hc : l.length ≤ c) (h1 : l.length ≤ 1100) (h2 : 0 ≤ far) (h3 : far ≤ 1000000) (hm : mayB l = false) :
    Calls Try.prog 8 #[.slice A l.length c, .int .i64 far] w (TruePost w) := by
  have t1 : ¬ (1100 : Int) < (l.length : Int) := by omega
  have t2 : ¬ far < 0 := by omega
  have t3 : ¬ 1000000 < far := by omega
  have HM := Lib.hid hm
  have HR := Aside0.mk hr
  clear hm hr
  go_enter Try.func8, Try.ntmps8
  go_wp2_with fail
  refine (awake_true _).mono ?_
  rintro e w1 ⟨rfl, hb⟩
  have HB := Aside0.mk hb
  have HR1 := Aside0.mk (Kd.C_below HR.out hb)
  have K := May_any A c l w1 HR1.out hc
  rw [HM.out] at K
  have HK := Lib.hid K
  clear hb K
  go_wp2_with fail
  refine (HK.out).mono ?_
  rintro e w2 ⟨rfl, hd⟩
  have HB2 := Aside0.mk (drawn_below HB.out hd)
  clear hd
  go_wp2
  go_ret
  exact ⟨rfl, HB2.out⟩

set_option maxHeartbeats 1000000 in
theorem edges_ok (A : Option Addr) (c : Nat) (l : List Int) (far : Int) (w : World) (hr : Rd w A l) (hc : l.length ≤ c) (hcm : c ≤ 9223372036854775807) (h1 : l.length ≤ 1100) (h2 : 0 ≤ far) (h3 : far ≤ 1000000) (hm : mayB l = true) :
    Calls Try.prog 8 #[.slice A l.length c, .int .i64 far] w (TruePost w) := by
  have t1 : ¬ (1100 : Int) < (l.length : Int) := by omega
  have t2 : ¬ far < 0 := by omega
  have t3 : ¬ 1000000 < far := by omega
  have hl := mayB_true hm
  have hl1 := hl.2.1
  have HM := Lib.hid hm
  have HR := Aside0.mk hr
  clear hm hr hl
  go_enter Try.func8, Try.ntmps8
  go_wp2_with fail
  refine (awake_true _).mono ?_
  rintro e w1 ⟨rfl, hb⟩
  have HB := Aside0.mk hb
  have HR1 := Aside0.mk (Kd.C_below HR.out hb)
  have K := May_any A c l w1 HR1.out hc
  rw [HM.out] at K
  have HK := Lib.hid K
  clear hb K
  go_wp2_with fail
  refine (HK.out).mono ?_
  rintro e w2 ⟨rfl, hd⟩
  have HB2 := Aside0.mk (drawn_below HB.out hd)
  have HR2 := Aside0.mk (rd_drawn HR1.out hd)
  clear hd
  go_wp2_with fail
  refine (Get_none A c l (15 - far) w2 HR2.out hc HM.out (by omega) (by omega)).mono ?_
  rintro e w3 ⟨rfl, hd⟩
  have HB3 := Aside0.mk (drawn_below HB2.out hd)
  have HR3 := Aside0.mk (rd_drawn HR2.out hd)
  clear hd
  go_wp2_with fail
  refine (Get_none A c l (16 + (l.length : Int) + far) w3 HR3.out hc HM.out (by omega) (by omega)).mono ?_
  rintro e w4 ⟨rfl, hd⟩
  have HB4 := Aside0.mk (drawn_below HB3.out hd)
  have HR4 := Aside0.mk (rd_drawn HR3.out hd)
  clear hd
  go_wp2_with fail
  refine (Put_err A c l (15 - far) 1 3 w4 HR4.out (by omega) (by omega) (edge_err HM.out (by decide) (by omega)) (by decide)).mono ?_
  rintro e w5 ⟨rfl, hb⟩
  have HB5 := Aside0.mk (below_then HB4.out HB4.out.size hb)
  have HR5 := Aside0.mk (Kd.C_below HR4.out hb)
  clear hb
  go_wp2_with fail
  refine (Page_none A c l (16 + (l.length : Int) + far) w5 HR5.out hc HM.out (by omega) (by omega)).mono ?_
  rintro e w6 ⟨rfl, hd⟩
  have HB6 := Aside0.mk (drawn_below HB5.out hd)
  have HR6 := Aside0.mk (rd_drawn HR5.out hd)
  clear hd
  go_wp2_with fail
  refine (Zero_err A c l (15 - far) 1 3 w6 HR6.out (by omega) (by omega) (edge_err HM.out (by decide) (by omega)) (by decide)).mono ?_
  rintro e w7 ⟨rfl, hb⟩
  have HB7 := Aside0.mk (below_then HB6.out HB6.out.size hb)
  have HR7 := Aside0.mk (Kd.C_below HR6.out hb)
  clear hb
  go_wp2_with fail
  refine (Get_ok A c l 16 w7 HR7.out hc hcm HM.out (by decide) (by omega)).mono ?_
  rintro e w8 ⟨rfl, hd⟩
  have HB8 := Aside0.mk (drawn_below HB7.out hd)
  have HR8 := Aside0.mk (rd_drawn HR7.out hd)
  clear hd
  go_wp2_with fail
  refine (Get_ok A c l (15 + (l.length : Int)) w8 HR8.out hc hcm HM.out (by omega) (by omega)).mono ?_
  rintro e w9 ⟨rfl, hd⟩
  have HB9 := Aside0.mk (drawn_below HB8.out hd)
  clear hd
  go_wp2
  go_ret
  exact ⟨rfl, HB9.out⟩

theorem sureArenaEdges (A : Option Addr) (c : Nat) (l : List Int) (far : Int) (w : World) (hr : Rd w A l) (hc : l.length ≤ c) (hcm : c ≤ 9223372036854775807) (hm : l.length * 8 ≤ 140737488351232) (hf : InI64 far) :
    Calls Try.prog 8 #[.slice A l.length c, .int .i64 far] w (TruePost w) := by
  by_cases h : 1100 < l.length ∨ (l.length ≤ 1100 ∧ far < 0) ∨ (l.length ≤ 1100 ∧ 0 ≤ far ∧ 1000000 < far)
  · exact edges_out A c l far w (by omega) h
  · cases hb : mayB l
    · exact edges_bad A c l far w hr hc (by omega) (by omega) (by omega) hb
    · exact edges_ok A c l far w hr hc hcm (by omega) (by omega) (by omega) hb

end Go.Proofs.Ytglicimbnfamdaa.Arena
