/- The walk of ArenaZeros. -/
import Derived.Test.YtglicimbnfamdaaPuts
namespace Go.Proofs.Ytglicimbnfamdaa.Arena
open Go.RowKit Go.Proofs.YtglicimbnfamdaaW.PrintWords Go.Proofs.YtglicimbnfamdaaW.PrintLast Go.Proofs.YtglicimbnfamdaaW.PrintMore
open Go.Proofs.Ytglicimbnfamdaa.PArenaTells
set_option linter.unusedVariables false
set_option linter.unusedSimpArgs false

theorem zero_none {l : List Int} {a n : Int} (h : partErr l a n = none) : mayB l = true ∧ (n = 0 ∨ (0 < n ∧ 16 ≤ a ∧ a - 16 + n ≤ (l.length : Int))) := by
  unfold partErr at h
  by_cases h1 : mayB l = false ∨ n < 0
  · rw [if_pos h1] at h; cases h
  · rw [if_neg h1] at h
    have hm : mayB l = true := by
      cases hb : mayB l
      · exact absurd (.inl hb) h1
      · rfl
    by_cases h0 : n = 0
    · exact ⟨hm, .inl h0⟩
    · rw [if_neg h0] at h
      by_cases h2 : a < 16 ∨ (l.length : Int) ≤ a - 16 ∨ (l.length : Int) - (a - 16) < n
      · rw [if_pos h2] at h; cases h
      · exact ⟨hm, .inr ⟨by omega, by omega, by omega⟩⟩
theorem rd_zero {l : List Int} {i j k : Nat} (hk : k < l.length) : rd (zeroS l i j) (k : Int) = if i ≤ k ∧ k < i + j then 0 else rd l (k : Int) := by
  have hz : k < (zeroS l i j).length := by rw [zeroS_length]; exact hk
  rw [rd_nat _ k hz, rd_nat _ k hk]
  have h := zeroS_get j l i k hk
  rw [List.getElem?_eq_getElem hz, List.getElem?_eq_getElem hk] at h
  by_cases hq : i ≤ k ∧ k < i + j
  · rw [if_pos hq] at h ⊢; exact Option.some.inj h
  · rw [if_neg hq] at h ⊢; exact Option.some.inj h

set_option maxHeartbeats 400000 in
theorem zeros_long (A : Option Addr) (c : Nat) (l : List Int) (a n : Int) (w : World) (hlong : 1100 < l.length) (hm : l.length ≤ 140737488351232) :
    Calls Try.prog 6 #[.slice A l.length c, .int .i64 a, .int .i64 n] w (TruePost w) := by
  have h1 : (1100 : Int) < (l.length : Int) := by omega
  go_enter Try.func6, Try.ntmps6
  go_wp2_with fail
  refine (awake_true _).mono ?_
  rintro e w1 ⟨rfl, hb⟩
  have HB := Aside0.mk hb
  clear hb
  go_wp2
  go_ret
  exact ⟨rfl, HB.out⟩

set_option maxHeartbeats 400000 in
theorem zeros_err (A : Option Addr) (c : Nat) (l : List Int) (a n x : Int) (w : World) (hr : Rd w A l) (hc : l.length ≤ c) (hs : l.length ≤ 1100) (ha : a ≤ 9223372036854775807) (hx : partErr l a n = some x) :
    Calls Try.prog 6 #[.slice A l.length c, .int .i64 a, .int .i64 n] w (TruePost w) := by
  have h1 : ¬ (1100 : Int) < (l.length : Int) := by omega
  have hx0 := puts_pos hx
  have t1 : (x != 0) = true := by simp; omega
  have HX := Lib.hid hx
  have HR := Aside0.mk hr
  clear hr hx
  go_enter Try.func6, Try.ntmps6
  go_wp2_with fail
  refine (awake_true _).mono ?_
  rintro e w1 ⟨rfl, hb⟩
  have HB := Aside0.mk hb
  have HR1 := Aside0.mk (Kd.C_below HR.out hb)
  clear hb
  go_wp2_with fail
  refine (Zero_err A c l a n x w1 HR1.out (by omega) ha HX.out hx0).mono ?_
  rintro e w2 ⟨rfl, hb⟩
  have HB2 := Aside0.mk (below_then HB.out HB.out.size hb)
  clear hb
  go_wp2
  go_ret
  exact ⟨rfl, HB2.out⟩

set_option maxHeartbeats 1000000 in
theorem zeros_none (ad : Addr) (c : Nat) (l : List Int) (a : Int) (w : World) (hr : Rd w (some ad) l) (hc : l.length ≤ c) (hs : l.length ≤ 1100) (hm : mayB l = true) :
    Calls Try.prog 6 #[.slice (some ad) l.length c, .int .i64 a, .int .i64 0] w (TruePost w) := by
  have h1 : ¬ (1100 : Int) < (l.length : Int) := by omega
  have HM := Lib.hid hm
  have HR := Aside0.mk hr
  clear hr hm
  go_enter Try.func6, Try.ntmps6
  go_wp2_with fail
  refine (awake_true _).mono ?_
  rintro e w1 ⟨rfl, hb⟩
  have HB := Aside0.mk hb
  have HR1 := Aside0.mk (Kd.C_below HR.out hb)
  clear hb
  go_wp2_with fail
  refine (Zero_nought (some ad) c l a w1 HR1.out (by omega) HM.out).mono ?_
  rintro e w2 ⟨v2, rfl, hown, hb⟩
  have HB2 := Aside0.mk (below_then HB.out HB.out.size hb)
  have HR2 := Aside0.mk (Kd.C_below HR1.out hb)
  have hpos : 0 < l.length := by have := (mayB_true HM.out).2.1; omega
  obtain ⟨g, cap, rfl, hg, hgl, -⟩ := Kd.R_form hown hpos
  obtain ⟨_, hc2, hr2⟩ := Kd.R_reads' hown
  have HRz := Aside0.mk hr2
  have t1 : ((l.length : Int) != (l.length : Int)) = false := by simp
  clear hb hown hr2
  go_wp2
  go_loopw [10] (fun i wr => ∃ k : Nat, k ≤ l.length ∧ i = .int .i64 k ∧ Aside0 (Rd wr (some ad) l) ∧ Aside0 (Rd wr (some ⟨g, 0, none⟩) l) ∧ Aside0 (Below w.heap.size w wr)) (fun i _ => l.length - (intOf i).toNat)
  case atStart => exact ⟨0, by omega, rfl, HR2, HRz, HB2⟩
  case round =>
    obtain ⟨k, hk, rfl, HRr, HRzr, HBr⟩ := hrel
    by_cases hlt : k < l.length
    · have hcell := rd_cell HRr.out k hlt
      have hcell2 := rd_cell HRzr.out k hlt
      rw [add_plain] at hcell2
      have t2 : (rd l (k : Int) != rd l (k : Int)) = false := by simp
      have t3 : (k : Int) < (l.length : Int) := by omega
      have t4 : (0 : Int) ≤ (k : Int) := by omega
      generalize rd l (k : Int) = y at *
      go_wp2
      go_quiet (fail)
      have HB3 := Aside0.mk (pw_below_drewN HBr.out nq)
      have HR3 := Aside0.mk (Kd.C_drewN HRr.out nq)
      have HRz3 := Aside0.mk (Kd.C_drewN HRzr.out nq)
      go_wp2
      go_roundw
      case rel => exact ⟨k + 1, by omega, by go_num, HR3, HRz3, HB3⟩
      case measure => simp [intOf]; omega
    · go_wp2
      go_ret
      exact ⟨rfl, HBr.out⟩

set_option maxHeartbeats 2000000 in
theorem zeros_ok (ad : Addr) (c : Nat) (l : List Int) (a n : Int) (w : World) (hr : Rd w (some ad) l) (hc : l.length ≤ c) (hs : l.length ≤ 1100) (hm : mayB l = true) (hn : 0 < n) (ha : 16 ≤ a) (hq : a - 16 + n ≤ (l.length : Int)) :
    Calls Try.prog 6 #[.slice (some ad) l.length c, .int .i64 a, .int .i64 n] w (TruePost w) := by
  have h1 : ¬ (1100 : Int) < (l.length : Int) := by omega
  have HM := Lib.hid hm
  have HR := Aside0.mk hr
  have ha1 : a ≤ 2000 := by omega
  have hn1 : n ≤ 2000 := by omega
  clear hr hm
  go_enter Try.func6, Try.ntmps6
  go_wp2_with fail
  refine (awake_true _).mono ?_
  rintro e w1 ⟨rfl, hb⟩
  have HB := Aside0.mk hb
  have HR1 := Aside0.mk (Kd.C_below HR.out hb)
  clear hb
  go_wp2_with fail
  refine (Zero_ok (some ad) c l a n w1 HR1.out (by omega) HM.out hn ha hq).mono ?_
  rintro e w2 ⟨v2, rfl, hown, hb⟩
  obtain ⟨z, hz⟩ : ∃ z, z = zeroS l (a - 16).toNat n.toNat := ⟨_, rfl⟩
  rw [← hz] at hown
  have HZ := Lib.hid hz
  have hzl : z.length = l.length := by rw [hz, zeroS_length]
  have HZL := Lib.hid hzl
  have HB2 := Aside0.mk (below_then HB.out HB.out.size hb)
  have HR2 := Aside0.mk (Kd.C_below HR1.out hb)
  have hpos : 0 < z.length := by have := (mayB_true HM.out).2.1; omega
  obtain ⟨g, cap, rfl, hg, hgl, -⟩ := Kd.R_form hown hpos
  obtain ⟨_, hc2, hr2⟩ := Kd.R_reads' hown
  have HRz := Aside0.mk hr2
  have t1 : ((z.length : Int) != (l.length : Int)) = false := by simp [hzl]
  clear hb hown hr2 hz hzl
  go_wp2
  go_loopw [10] (fun i wr => ∃ k : Nat, k ≤ z.length ∧ i = .int .i64 k ∧ Aside0 (Rd wr (some ad) l) ∧ Aside0 (Rd wr (some ⟨g, 0, none⟩) z) ∧ Aside0 (Below w.heap.size w wr)) (fun i _ => z.length - (intOf i).toNat)
  case atStart => exact ⟨0, by omega, rfl, HR2, HRz, HB2⟩
  case round =>
    obtain ⟨k, hk, rfl, HRr, HRzr, HBr⟩ := hrel
    by_cases hlt : k < z.length
    · have hll : k < l.length := by have := HZL.out; omega
      have hcell := rd_cell HRr.out k hll
      have hcell2 := rd_cell HRzr.out k hlt
      rw [add_plain] at hcell2
      have hrz : rd z (k : Int) = if (a - 16).toNat ≤ k ∧ k < (a - 16).toNat + n.toNat then 0 else rd l (k : Int) := by rw [HZ.out]; exact rd_zero hll
      have t3 : (k : Int) < (l.length : Int) := by omega
      have t4 : (0 : Int) ≤ (k : Int) := by omega
      have t5 : (k : Int) < (z.length : Int) := by omega
      by_cases hin : (a - 16).toNat ≤ k ∧ k < (a - 16).toNat + n.toNat
      · rw [hrz, if_pos hin] at hcell2
        have d1 : decide (a ≤ 16 + (k : Int)) = true := by simp; omega
        have d2 : decide (16 + (k : Int) - a < n) = true := by simp; omega
        clear hrz hin
        generalize rd l (k : Int) = y at *
        go_wp2
        go_quiet (fail)
        have HB3 := Aside0.mk (pw_below_drewN HBr.out nq)
        have HR3 := Aside0.mk (Kd.C_drewN HRr.out nq)
        have HRz3 := Aside0.mk (Kd.C_drewN HRzr.out nq)
        go_wp2
        go_roundw
        case rel => exact ⟨k + 1, by omega, by go_num, HR3, HRz3, HB3⟩
        case measure => simp [intOf]; omega
      · rw [hrz, if_neg hin] at hcell2
        have t2 : (rd l (k : Int) != rd l (k : Int)) = false := by simp
        by_cases hlo : k < (a - 16).toNat
        · have d1 : decide (a ≤ 16 + (k : Int)) = false := by simp; omega
          clear hrz hin
          generalize rd l (k : Int) = y at *
          go_wp2
          go_quiet (fail)
          have HB3 := Aside0.mk (pw_below_drewN HBr.out nq)
          have HR3 := Aside0.mk (Kd.C_drewN HRr.out nq)
          have HRz3 := Aside0.mk (Kd.C_drewN HRzr.out nq)
          go_wp2
          go_roundw
          case rel => exact ⟨k + 1, by omega, by go_num, HR3, HRz3, HB3⟩
          case measure => simp [intOf]; omega
        · have d1 : decide (a ≤ 16 + (k : Int)) = true := by simp; omega
          have d2 : decide (16 + (k : Int) - a < n) = false := by simp; omega
          clear hrz hin
          generalize rd l (k : Int) = y at *
          go_wp2
          go_quiet (fail)
          have HB3 := Aside0.mk (pw_below_drewN HBr.out nq)
          have HR3 := Aside0.mk (Kd.C_drewN HRr.out nq)
          have HRz3 := Aside0.mk (Kd.C_drewN HRzr.out nq)
          go_wp2
          go_roundw
          case rel => exact ⟨k + 1, by omega, by go_num, HR3, HRz3, HB3⟩
          case measure => simp [intOf]; omega
    · have d9 : decide (0 ≤ n) = true := by simp; omega
      go_wp2
      go_ret
      exact ⟨rfl, HBr.out⟩

theorem sureArenaZeros (A : Option Addr) (c : Nat) (l : List Int) (a n : Int) (w : World) (hr : Rd w A l) (hc : l.length ≤ c) (hcm : c ≤ 9223372036854775807) (hm : l.length * 8 ≤ 140737488351232) (ha : InI64 a) (hn : InI64 n) :
    Calls Try.prog 6 #[.slice A l.length c, .int .i64 a, .int .i64 n] w (TruePost w) := by
  by_cases h : l.length ≤ 1100
  · cases hx : partErr l a n with
    | some x => exact zeros_err A c l a n x w hr hc h ha.2 hx
    | none =>
      obtain ⟨hb, hz⟩ := zero_none hx
      obtain ⟨ad, rfl, _⟩ := Kd.at_int hr 0 (by decide) (by have := mayB_true hb; omega)
      rcases hz with rfl | ⟨h1, h2, h3⟩
      · exact zeros_none ad c l a w hr hc h hb
      · exact zeros_ok ad c l a n w hr hc h hb h1 h2 h3
  · exact zeros_long A c l a n w (by omega) (by omega)

end Go.Proofs.Ytglicimbnfamdaa.Arena
