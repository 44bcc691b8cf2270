/- The walk of ArenaTwice. -/
import Derived.Test.YtglicimbnfamdaaArenaE
namespace Go.Proofs.Ytglicimbnfamdaa.Arena
open Go.RowKit Go.Proofs.YtglicimbnfamdaaW.PrintWords Go.Proofs.YtglicimbnfamdaaW.PrintLast Go.Proofs.YtglicimbnfamdaaW.PrintMore
open Go.Proofs.Ytglicimbnfamdaa.PArenaTells
set_option linter.unusedVariables false
set_option linter.unusedSimpArgs false

theorem mayB_set {l : List Int} (h : mayB l = true) (k : Nat) (v : Int) : mayB (l.set k v) = true := by
  simpa [mayB] using h
theorem partErr_none {l : List Int} {a : Int} (h : partErr l a 1 = none) : mayB l = true ∧ 16 ≤ a ∧ a - 16 < (l.length : Int) := by
  unfold partErr at h
  by_cases h1 : mayB l = false ∨ (1 : Int) < 0
  · rw [if_pos h1] at h; cases h
  · rw [if_neg h1, if_neg (by decide)] at h
    by_cases h2 : a < 16 ∨ (l.length : Int) ≤ a - 16 ∨ (l.length : Int) - (a - 16) < 1
    · rw [if_pos h2] at h; cases h
    · refine ⟨by simpa using h1, by omega, by omega⟩
theorem partErr_pos {l : List Int} {a n x : Int} (h : partErr l a n = some x) : 0 < x := by
  unfold partErr at h
  split at h
  · cases h; decide
  · split at h
    · cases h
    · split at h
      · cases h; decide
      · cases h

set_option maxHeartbeats 400000 in
theorem twice_long (A : Option Addr) (c : Nat) (l : List Int) (a b v u : Int) (w : World) (hlong : 1100 < l.length) (hm : l.length ≤ 140737488351232) :
    Calls Try.prog 7 #[.slice A l.length c, .int .i64 a, .int .i64 b, .int .i64 v, .int .i64 u] w (TruePost w) := by
  have h1 : (1100 : Int) < (l.length : Int) := by omega
  go_enter Try.func7, Try.ntmps7
  go_wp2_with fail
  refine (awake_true _).mono ?_
  rintro e w1 ⟨rfl, hb⟩
  have HB := Aside0.mk hb
  clear hb
  go_wp2
  go_ret
  exact ⟨rfl, HB.out⟩

set_option maxHeartbeats 1000000 in
theorem twice_err (A : Option Addr) (c : Nat) (l : List Int) (a b v u x : Int) (w : World) (hr : Rd w A l) (hc : l.length ≤ c) (hs : l.length ≤ 1100) (ha : a ≤ 9223372036854775807) (hb0 : b ≤ 9223372036854775807) (hx : partErr l a 1 = some x) :
    Calls Try.prog 7 #[.slice A l.length c, .int .i64 a, .int .i64 b, .int .i64 v, .int .i64 u] w (TruePost w) := by
  have h1 : ¬ (1100 : Int) < (l.length : Int) := by omega
  have hx0 := partErr_pos hx
  have t1 : (x != 0) = true := by simp; omega
  have HR := Aside0.mk hr
  have HX := Lib.hid hx
  clear hr hx
  go_enter Try.func7, Try.ntmps7
  go_wp2_with fail
  refine (awake_true _).mono ?_
  rintro e w1 ⟨rfl, hb⟩
  have HB := Aside0.mk hb
  have HR1 := Aside0.mk (Kd.C_below HR.out hb)
  clear hb
  go_wp2_with fail
  refine (Put_err A c l a v x w1 HR1.out (by omega) ha HX.out hx0).mono ?_
  rintro e w2 ⟨rfl, hb⟩
  have HB2 := Aside0.mk (below_then HB.out HB.out.size hb)
  have HR2 := Aside0.mk (Kd.C_below HR1.out hb)
  clear hb
  cases hy : partErr l b 1 with
  | some y =>
    have hy0 := partErr_pos hy
    have HY := Lib.hid hy
    clear hy
    go_wp2_with fail
    refine (Put_err A c l b u y w2 HR2.out (by omega) hb0 HY.out hy0).mono ?_
    rintro e w3 ⟨rfl, hb⟩
    have HB3 := Aside0.mk (below_then HB2.out HB2.out.size hb)
    clear hb
    go_wp2
    go_ret
    exact ⟨rfl, HB3.out⟩
  | none =>
    have HY := Lib.hid (partErr_none hy)
    clear hy
    go_wp2_with fail
    refine (Put_ok A c l b u w2 HR2.out (by omega) HY.out.1 HY.out.2.1 HY.out.2.2).mono ?_
    rintro e w3 ⟨v3, rfl, -, hb⟩
    have HB3 := Aside0.mk (below_then HB2.out HB2.out.size hb)
    clear hb
    go_wp2
    go_ret
    exact ⟨rfl, HB3.out⟩

set_option maxHeartbeats 1000000 in
theorem twice_errb (A : Option Addr) (c : Nat) (l : List Int) (a b v u y : Int) (w : World) (hr : Rd w A l) (hc : l.length ≤ c) (hs : l.length ≤ 1100) (ha : a ≤ 9223372036854775807) (hb0 : b ≤ 9223372036854775807) (hx : partErr l a 1 = none) (hy : partErr l b 1 = some y) :
    Calls Try.prog 7 #[.slice A l.length c, .int .i64 a, .int .i64 b, .int .i64 v, .int .i64 u] w (TruePost w) := by
  have h1 : ¬ (1100 : Int) < (l.length : Int) := by omega
  have hy0 := partErr_pos hy
  have t1 : (y != 0) = true := by simp; omega
  have HR := Aside0.mk hr
  have HX := Lib.hid (partErr_none hx)
  have HY := Lib.hid hy
  clear hr hx hy
  go_enter Try.func7, Try.ntmps7
  go_wp2_with fail
  refine (awake_true _).mono ?_
  rintro e w1 ⟨rfl, hb⟩
  have HB := Aside0.mk hb
  have HR1 := Aside0.mk (Kd.C_below HR.out hb)
  clear hb
  go_wp2_with fail
  refine (Put_ok A c l a v w1 HR1.out (by omega) HX.out.1 HX.out.2.1 HX.out.2.2).mono ?_
  rintro e w2 ⟨v2, rfl, hown2, hb⟩
  have HB2 := Aside0.mk (below_then HB.out HB.out.size hb)
  have HR2 := Aside0.mk (Kd.C_below HR1.out hb)
  clear hb hown2
  go_wp2_with fail
  refine (Put_err A c l b u y w2 HR2.out (by omega) hb0 HY.out hy0).mono ?_
  rintro e w3 ⟨rfl, hb⟩
  have HB3 := Aside0.mk (below_then HB2.out HB2.out.size hb)
  clear hb
  go_wp2
  go_ret
  exact ⟨rfl, HB3.out⟩

set_option maxHeartbeats 1000000 in
theorem twice_ok (A : Option Addr) (c : Nat) (l : List Int) (a b v u : Int) (w : World) (hr : Rd w A l) (hc : l.length ≤ c) (hs : l.length ≤ 1100) (ha : a ≤ 9223372036854775807) (hb0 : b ≤ 9223372036854775807) (hx : partErr l a 1 = none) (hy : partErr l b 1 = none) :
    Calls Try.prog 7 #[.slice A l.length c, .int .i64 a, .int .i64 b, .int .i64 v, .int .i64 u] w (TruePost w) := by
  have h1 : ¬ (1100 : Int) < (l.length : Int) := by omega
  have HR := Aside0.mk hr
  have HX := Lib.hid (partErr_none hx)
  have HY := Lib.hid (partErr_none hy)
  clear hr hx hy
  go_enter Try.func7, Try.ntmps7
  go_wp2_with fail
  refine (awake_true _).mono ?_
  rintro e w1 ⟨rfl, hb⟩
  have HB := Aside0.mk hb
  have HR1 := Aside0.mk (Kd.C_below HR.out hb)
  clear hb
  go_wp2_with fail
  refine (Put_ok A c l a v w1 HR1.out (by omega) HX.out.1 HX.out.2.1 HX.out.2.2).mono ?_
  rintro e w2 ⟨v2, rfl, hown2, hb⟩
  obtain ⟨l2, hl2⟩ : ∃ l2, l2 = l.set (a - 16).toNat v := ⟨_, rfl⟩
  rw [← hl2] at hown2
  have HB2 := Aside0.mk (below_then HB.out HB.out.size hb)
  have HR2 := Aside0.mk (Kd.C_below HR1.out hb)
  have HO2 := Aside0.mk hown2
  have HL2 := Lib.hid hl2
  have HM2 := Lib.hid (show mayB l2 = true ∧ l2.length = l.length from ⟨by rw [hl2]; exact mayB_set HX.out.1 _ _, by rw [hl2]; simp⟩)
  clear hb hown2 hl2
  go_wp2_with fail
  refine (Put_ok A c l b u w2 HR2.out (by omega) HY.out.1 HY.out.2.1 HY.out.2.2).mono ?_
  rintro e w3 ⟨v3, rfl, hown3, hb⟩
  obtain ⟨l3, hl3⟩ : ∃ l3, l3 = l.set (b - 16).toNat u := ⟨_, rfl⟩
  rw [← hl3] at hown3
  have HB3 := Aside0.mk (below_then HB2.out HB2.out.size hb)
  have HO3 := Aside0.mk hown3
  have HL3 := Lib.hid hl3
  have HM3 := Lib.hid (show mayB l3 = true ∧ l3.length = l.length from ⟨by rw [hl3]; exact mayB_set HY.out.1 _ _, by rw [hl3]; simp⟩)
  obtain ⟨A2, c2, rfl, hc2, hr2⟩ := Kd.R_reads (Kd.R_below HO2.out hb)
  obtain ⟨A3, c3, rfl, hc3, hr3⟩ := Kd.R_reads hown3
  have HR22 := Aside0.mk hr2
  have HR33 := Aside0.mk hr3
  have hq2 := own_cap HO2.out
  have hq3 := own_cap HO3.out
  clear hb hown3 hr2 hr3 hl3
  go_wp2_with fail
  refine (Put_ok A2 c2 l2 b u w3 HR22.out (by have := HM2.out.2; omega) HM2.out.1 HY.out.2.1 (by have := HM2.out.2; have := HY.out.2.2; omega)).mono ?_
  rintro e w4 ⟨v4, rfl, hown4, hb⟩
  obtain ⟨l4, hl4⟩ : ∃ l4, l4 = l2.set (b - 16).toNat u := ⟨_, rfl⟩
  rw [← hl4] at hown4
  have HB4 := Aside0.mk (below_then HB3.out HB3.out.size hb)
  have HO4 := Aside0.mk hown4
  have HL4 := Lib.hid hl4
  have HM4 := Lib.hid (show mayB l4 = true ∧ l4.length = l.length from ⟨by rw [hl4]; exact mayB_set HM2.out.1 _ _, by rw [hl4]; simpa using HM2.out.2⟩)
  have HR44 := Aside0.mk (Kd.C_below HR33.out hb)
  clear hb hown4 hl4
  go_wp2_with fail
  refine (Put_ok A3 c3 l3 a v w4 HR44.out (by have := HM3.out.2; omega) HM3.out.1 HX.out.2.1 (by have := HM3.out.2; have := HX.out.2.2; omega)).mono ?_
  rintro e w5 ⟨v5, rfl, hown5, hb⟩
  obtain ⟨l5, hl5⟩ : ∃ l5, l5 = l3.set (a - 16).toNat v := ⟨_, rfl⟩
  rw [← hl5] at hown5
  have HB5 := Aside0.mk (below_then HB4.out HB4.out.size hb)
  have HL5 := Lib.hid hl5
  obtain ⟨A4, c4, rfl, hc4, hr4⟩ := Kd.R_reads (Kd.R_below HO4.out hb)
  obtain ⟨A5, c5, rfl, hc5, hr5⟩ := Kd.R_reads hown5
  have HR4 := Aside0.mk hr4
  have HR5 := Aside0.mk hr5
  have hq4 := own_cap HO4.out
  clear hb hown5 hr4 hr5 hl5
  have G := Get_ok A4 c4 l4 b w5 HR4.out hc4 hq4 HM4.out.1 HY.out.2.1 (by have := HM4.out.2; have := HY.out.2.2; omega)
  have hg : rd l4 (b - 16) = u := by
    have h2 := HY.out.2.1
    have h3 := HY.out.2.2
    have h4 := rd_nat (l2.set (b - 16).toNat u) (b - 16).toNat (by rw [List.length_set]; have := HM2.out.2; omega)
    rw [List.getElem_set_self] at h4
    rw [Int.toNat_of_nonneg (by omega)] at h4
    rw [HL4.out]
    exact h4
  rw [hg] at G
  have HG := Lib.hid G
  clear G hg
  go_wp2_with fail
  refine (HG.out).mono ?_
  rintro e w6 ⟨rfl, hd⟩
  have HB6 := Aside0.mk (drawn_below HB5.out hd)
  have HR46 := Aside0.mk (rd_drawn HR4.out hd)
  have HR56 := Aside0.mk (rd_drawn HR5.out hd)
  clear hd
  by_cases hab : a = b
  · have t1 : (a == b) = true := by simpa using hab
    clear hab
    go_wp2
    go_ret
    exact ⟨rfl, HB6.out⟩
  · have t1 : (a == b) = false := by simpa using hab
    have hpq : l4 = l5 := by
      rw [HL4.out, HL5.out, HL2.out, HL3.out]
      refine List.set_comm _ _ ?_
      have := HX.out.2.1
      have := HY.out.2.1
      omega
    have I := Ints_any A4 A5 c4 c5 l4 l5 w6 HR46.out hc4 HR56.out hc5 (by have := HM4.out.2; omega)
    rw [decide_eq_true hpq] at I
    have HI := Lib.hid I
    clear hab I hpq
    go_wp2_with fail
    refine (HI.out).mono ?_
    rintro e w7 ⟨rfl, hd⟩
    have HB7 := Aside0.mk (drawn_below HB6.out hd)
    clear hd
    go_wp2
    go_ret
    exact ⟨rfl, HB7.out⟩

theorem sureArenaTwice (A : Option Addr) (c : Nat) (l : List Int) (a b v u : Int) (w : World) (hr : Rd w A l) (hc : l.length ≤ c) (hcm : c ≤ 9223372036854775807) (hm : l.length * 8 ≤ 140737488351232) (ha' : InI64 a) (hb' : InI64 b) (hv' : InI64 v) (hu' : InI64 u) :
    Calls Try.prog 7 #[.slice A l.length c, .int .i64 a, .int .i64 b, .int .i64 v, .int .i64 u] w (TruePost w) := by
  have ha := ha'.2
  have hb0 := hb'.2
  by_cases hs : l.length ≤ 1100
  · cases hx : partErr l a 1 with
    | some x => exact twice_err A c l a b v u x w hr hc hs ha hb0 hx
    | none =>
      cases hy : partErr l b 1 with
      | some y => exact twice_errb A c l a b v u y w hr hc hs ha hb0 hx hy
      | none => exact twice_ok A c l a b v u w hr hc hs ha hb0 hx hy
  · exact twice_long A c l a b v u w (by omega) (by omega)

end Go.Proofs.Ytglicimbnfamdaa.Arena
