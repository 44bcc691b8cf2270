/- The laws' awake. -/
import Derived.Test.YtglicimbnfamdaaArenaC
namespace Go.Proofs.Ytglicimbnfamdaa.Arena
open Go.RowKit Go.Proofs.YtglicimbnfamdaaW.PrintWords Go.Proofs.YtglicimbnfamdaaW.PrintLast Go.Proofs.YtglicimbnfamdaaW.PrintMore
open Go.Proofs.Ytglicimbnfamdaa.PArenaTells
set_option linter.unusedVariables false
set_option linter.unusedSimpArgs false

theorem rd_drawn {w w1 : World} {A : Option Addr} {l : List Int} (h : Rd w A l) (hd : Drawn0 w w1) : Rd w1 A l := Kd.C_below h hd.below

theorem New_two (w : World) : Calls Try.prog 11 #[.int .i64 2] w fun e w' => ∃ (v : Value) (l : List Int), e = .returned (.tuple #[v, .int .i64 0]) ∧ l.length = 32 ∧ Own w' w.heap.size v l ∧ Below w.heap.size w w' := by
  refine (arena_New.calls 2 (List.replicate 32 0) 0 w (by simp [arena_New.f, arena_pages.f, wrap64])).mono ?_
  rintro e w' ⟨v, rfl, h, hb⟩
  exact ⟨v, _, rfl, List.length_replicate, h, hb⟩

/-- The post of what answers true. -/
def TruePost (w : World) (e : Ending) (w' : World) : Prop := e = .returned (.bool true) ∧ Below w.heap.size w w'

set_option maxHeartbeats 1000000 in
set_option maxRecDepth 100000 in
theorem awake_any (w : World) : Calls Try.prog 10 #[] w (TruePost w) := by
  go_enter Try.func10, Try.ntmps10
  go_wp2_with fail
  refine (New_two _).mono ?_
  rintro e w1 ⟨v, l, rfl, hl, hown, hb⟩
  obtain ⟨A, c, rfl, hc, hr⟩ := Kd.R_reads hown
  have hcm := own_cap hown
  have hm : mayB l = true := by simp [mayB, hl]
  have HB := Aside0.mk hb
  have HR := Aside0.mk hr
  have HM := Lib.hid hm
  have HL := Lib.hid hl
  have t1 : ((l.length : Int) == 32) = true := by simp [hl]
  have P := Page_ok A c l 32 w1 HR.out hc hcm HM.out (by decide) (by rw [HL.out]; decide)
  rw [show (32 : Int) / 16 - 1 = 1 from by decide] at P
  have HP := Lib.hid P
  clear hown hb hr hm hl P
  go_wp2_with fail
  refine (HP.out).mono ?_
  rintro e w2 ⟨rfl, hd2⟩
  have HR2 := Aside0.mk (rd_drawn HR.out hd2)
  have HB2 := Aside0.mk (drawn_below HB.out hd2)
  clear hd2
  go_wp2_with fail
  refine (Get_ok A c l 47 w2 HR2.out hc hcm HM.out (by decide) (by rw [HL.out]; decide)).mono ?_
  rintro e w3 ⟨rfl, hd3⟩
  have HR3 := Aside0.mk (rd_drawn HR2.out hd3)
  have HB3 := Aside0.mk (drawn_below HB2.out hd3)
  clear hd3
  go_wp2_with fail
  refine (Get_none A c l 48 w3 HR3.out hc HM.out (by decide) (by rw [HL.out]; decide)).mono ?_
  rintro e w4 ⟨rfl, hd4⟩
  have HR4 := Aside0.mk (rd_drawn HR3.out hd4)
  have HB4 := Aside0.mk (drawn_below HB3.out hd4)
  clear hd4
  have K := May_any A c l w4 HR4.out hc
  rw [HM.out] at K
  have HK := Lib.hid K
  clear K
  go_wp2_with fail
  refine (HK.out).mono ?_
  rintro e w5 ⟨rfl, hd5⟩
  have HB5 := Aside0.mk (drawn_below HB4.out hd5)
  clear hd5
  go_wp2
  go_ret
  exact ⟨rfl, HB5.out⟩

end Go.Proofs.Ytglicimbnfamdaa.Arena
