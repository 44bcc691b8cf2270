/- The walk of ArenaPuts. -/
import Derived.Test.YtglicimbnfamdaaArenaE
namespace Go.Proofs.Ytglicimbnfamdaa.Arena
open Go.RowKit Go.Proofs.YtglicimbnfamdaaW.PrintWords Go.Proofs.YtglicimbnfamdaaW.PrintLast Go.Proofs.YtglicimbnfamdaaW.PrintMore
open Go.Proofs.Ytglicimbnfamdaa.PArenaTells
set_option linter.unusedVariables false
set_option linter.unusedSimpArgs false

theorem puts_mayset {l : List Int} (h : mayB l = true) (k : Nat) (v : Int) : mayB (l.set k v) = true := by
  simpa [mayB] using h
theorem puts_none {l : List Int} {a : Int} (h : partErr l a 1 = none) : mayB l = true ∧ 16 ≤ a ∧ a - 16 < (l.length : Int) := by
  unfold partErr at h
  by_cases h1 : mayB l = false ∨ (1 : Int) < 0
  · rw [if_pos h1] at h; cases h
  · rw [if_neg h1, if_neg (by decide)] at h
    by_cases h2 : a < 16 ∨ (l.length : Int) ≤ a - 16 ∨ (l.length : Int) - (a - 16) < 1
    · rw [if_pos h2] at h; cases h
    · refine ⟨by simpa using h1, by omega, by omega⟩
theorem puts_pos {l : List Int} {a n x : Int} (h : partErr l a n = some x) : 0 < x := by
  unfold partErr at h
  split at h
  · cases h; decide
  · split at h
    · cases h
    · split at h
      · cases h; decide
      · cases h
theorem rd_cell {w : World} {ad : Addr} {l : List Int} (h : Rd w (some ad) l) (k : Nat) (hk : k < l.length) : w.cell? (ad.add k) = some (.int .i64 (rd l (k : Int))) := by
  obtain ⟨ad', e, hc⟩ := Kd.at_int h (k : Int) (by omega) (by omega)
  cases e
  rw [Int.toNat_natCast] at hc
  exact hc
/-- append([]int(nil), w...): the walk's arm. -/
theorem own_none (w : World) (base : Nat) : w.ownsRow base 3 1 (.slice none 0 0) ([] : List Int).length (encs (Value.int .i64) []) := own_nil w base 3 1

set_option maxHeartbeats 400000 in
theorem puts_long (A : Option Addr) (c : Nat) (l : List Int) (a v : Int) (w : World) (hlong : 1100 < l.length) (hm : l.length ≤ 140737488351232) :
    Calls Try.prog 5 #[.slice A l.length c, .int .i64 a, .int .i64 v] w (TruePost w) := by
  have h1 : (1100 : Int) < (l.length : Int) := by omega
  go_enter Try.func5, Try.ntmps5
  go_wp2_with fail
  refine (awake_true _).mono ?_
  rintro e w1 ⟨rfl, hb⟩
  have HB := Aside0.mk hb
  clear hb
  go_wp2
  go_ret
  exact ⟨rfl, HB.out⟩

set_option maxHeartbeats 1000000 in
theorem puts_err (A : Option Addr) (c : Nat) (l : List Int) (a v x : Int) (w : World) (hr : Rd w A l) (hc : l.length ≤ c) (hs : l.length ≤ 1100) (ha : a ≤ 9223372036854775807) (hx : partErr l a 1 = some x) :
    Calls Try.prog 5 #[.slice A l.length c, .int .i64 a, .int .i64 v] w (TruePost w) := by
  have h1 : ¬ (1100 : Int) < (l.length : Int) := by omega
  have hx0 := puts_pos hx
  have t1 : (x != 0) = true := by simp; omega
  have HX := Lib.hid hx
  have HR := Aside0.mk hr
  clear hr hx
  go_enter Try.func5, Try.ntmps5
  go_wp2_with fail
  refine (awake_true _).mono ?_
  rintro e w1 ⟨rfl, hb⟩
  have HB := Aside0.mk hb
  have HR1 := Aside0.mk (Kd.C_below HR.out hb)
  have HS := Aside0.mk (Kd.reads_of_C (enc := Value.int .i64) (d := (0 : Int)) (h1 := fun _ => rfl) HR1.out)
  clear hb
  go_wp2_with (at_builtin; refine print_append_row_of (w0 := w1) (Value.int .i64) (0 : Int) w1.heap.size rfl (.const (.slice none 0 0)) (.tmp 24) 23 3 (.int .i64 0) 8 rfl Try.underlying23 info3 rfl (by decide) (fun _ => rfl) _ [] l _ _ _ rfl rfl (own_none _ _) HS.out (Below.refl _ _) (Nat.le_refl _) (by simp; omega) ?_; intro v1 w2 hown hbel hg hat; have HO2 := Aside0.mk hown; have HC2 := Aside0.mk hbel; clear hown hbel hg hat)
  have HB2 := Aside0.mk (below_then HB.out HB.out.size HC2.out)
  have HR2 := Aside0.mk (Kd.C_below HR1.out HC2.out)
  have HN2 := Aside0.mk (Kd.R_of_own (h1 := fun _ => rfl) (ok := fun _ => True) HO2.out (fun _ _ => trivial))
  obtain ⟨A2, c2, rfl, hc2, hr2⟩ := Kd.R_reads HN2.out
  rw [List.nil_append] at hc2 hr2
  simp only [List.nil_append]
  have HR22 := Aside0.mk hr2
  clear hr2
  refine (Put_err A c l a v x w2 HR2.out (by omega) ha HX.out hx0).mono ?_
  rintro e w3 ⟨rfl, hb⟩
  have HB3 := Aside0.mk (below_then HB2.out HB2.out.size hb)
  have I := Ints_any A A2 c c2 l l w3 (Kd.C_below HR2.out hb) hc (Kd.C_below HR22.out hb) hc2 (by omega)
  rw [decide_eq_true rfl] at I
  have HI := Lib.hid I
  clear hb I
  go_wp2_with fail
  refine (HI.out).mono ?_
  rintro e w4 ⟨rfl, hd⟩
  have HB4 := Aside0.mk (drawn_below HB3.out hd)
  clear hd
  go_wp2
  go_ret
  exact ⟨rfl, HB4.out⟩

set_option maxHeartbeats 1000000 in
theorem puts_ok (ad : Addr) (c : Nat) (l : List Int) (a v : Int) (w : World) (hr : Rd w (some ad) l) (hc : l.length ≤ c) (hs : l.length ≤ 1100) (hx : partErr l a 1 = none) :
    Calls Try.prog 5 #[.slice (some ad) l.length c, .int .i64 a, .int .i64 v] w (TruePost w) := by
  have h1 : ¬ (1100 : Int) < (l.length : Int) := by omega
  have HX := Lib.hid (puts_none hx)
  have HR := Aside0.mk hr
  have ha0 : 16 ≤ a := HX.out.2.1
  have ha1 : a ≤ 2000 := by have := HX.out.2.2; omega
  clear hr hx
  go_enter Try.func5, Try.ntmps5
  go_wp2_with fail
  refine (awake_true _).mono ?_
  rintro e w1 ⟨rfl, hb⟩
  have HB := Aside0.mk hb
  have HR1 := Aside0.mk (Kd.C_below HR.out hb)
  have HS := Aside0.mk (Kd.reads_of_C (enc := Value.int .i64) (d := (0 : Int)) (h1 := fun _ => rfl) HR1.out)
  clear hb
  go_wp2_with (at_builtin; refine print_append_row_of (w0 := w1) (Value.int .i64) (0 : Int) w1.heap.size rfl (.const (.slice none 0 0)) (.tmp 24) 23 3 (.int .i64 0) 8 rfl Try.underlying23 info3 rfl (by decide) (fun _ => rfl) _ [] l _ _ _ rfl rfl (own_none _ _) HS.out (Below.refl _ _) (Nat.le_refl _) (by simp; omega) ?_; intro v1 w2 hown hbel hg hat; have HO2 := Aside0.mk hown; have HC2 := Aside0.mk hbel; clear hown hbel hg hat)
  have HB2 := Aside0.mk (below_then HB.out HB.out.size HC2.out)
  have HR2 := Aside0.mk (Kd.C_below HR1.out HC2.out)
  have HN2 := Aside0.mk (Kd.R_of_own (h1 := fun _ => rfl) (ok := fun _ => True) HO2.out (fun _ _ => trivial))
  obtain ⟨A2, c2, rfl, hc2, hr2⟩ := Kd.R_reads HN2.out
  rw [List.nil_append] at hc2 hr2
  simp only [List.nil_append]
  have HR22 := Aside0.mk hr2
  clear hr2
  refine (Put_ok (some ad) c l a v w2 HR2.out (by omega) HX.out.1 HX.out.2.1 HX.out.2.2).mono ?_
  rintro e w3 ⟨v3, rfl, hown3, hb⟩
  obtain ⟨l3, hl3⟩ : ∃ l3, l3 = l.set (a - 16).toNat v := ⟨_, rfl⟩
  rw [← hl3] at hown3
  have HB3 := Aside0.mk (below_then HB2.out HB2.out.size hb)
  have HO3 := Aside0.mk hown3
  have HL3 := Lib.hid hl3
  have HM3 := Lib.hid (show mayB l3 = true ∧ l3.length = l.length from ⟨by rw [hl3]; exact puts_mayset HX.out.1 _ _, by rw [hl3]; simp⟩)
  obtain ⟨A3, c3, rfl, hc3, hr3⟩ := Kd.R_reads hown3
  have HR3 := Aside0.mk hr3
  have HRl := Aside0.mk (Kd.C_below HR2.out hb)
  have hq3 := own_cap HO3.out
  have I := Ints_any (some ad) A2 c c2 l l w3 HRl.out hc (Kd.C_below HR22.out hb) hc2 (by omega)
  rw [decide_eq_true rfl] at I
  have HI := Lib.hid I
  clear hb I hown3 hr3 hl3
  go_wp2_with fail
  refine (HI.out).mono ?_
  rintro e w4 ⟨rfl, hd⟩
  have HB4 := Aside0.mk (drawn_below HB3.out hd)
  have HR34 := Aside0.mk (rd_drawn HR3.out hd)
  have HRl4 := Aside0.mk (rd_drawn HRl.out hd)
  clear hd
  go_wp2
  go_loopw [12] (fun i wr => ∃ k : Nat, k ≤ l.length ∧ i = .int .i64 k ∧ Aside0 (Rd wr (some ad) l) ∧ Aside0 (Rd wr A3 l3) ∧ Aside0 (Below w.heap.size w wr)) (fun i _ => l.length - (intOf i).toNat)
  case atStart => exact ⟨0, by omega, rfl, HRl4, HR34, HB4⟩
  case round =>
    obtain ⟨k, hk, rfl, HRr, HR3r, HBr⟩ := hrel
    by_cases hlt : k < l.length
    · have P := Get_ok A3 c3 l3 (16 + (k : Int)) wr HR3r.out hc3 hq3 HM3.out.1 (by omega) (by have := HM3.out.2; omega)
      rw [show 16 + (k : Int) - 16 = (k : Int) from by omega] at P
      by_cases hki : 16 + (k : Int) = a
      · have hv : rd l3 (k : Int) = v := by
          rw [HL3.out, rd_nat _ k (by simpa using hlt)]
          have : (a - 16).toNat = k := by omega
          simp [this]
        rw [hv] at P
        have HP := Lib.hid P
        have t1 : (16 + (k : Int) == a) = true := by simpa using hki
        have t2 : (16 + (k : Int) != a) = false := by simpa using hki
        have t3 : (v != v) = false := by simp
        clear P hv hki
        go_wp2_with fail
        refine (HP.out).mono ?_
        rintro e w5 ⟨rfl, hd⟩
        have HB5 := Aside0.mk (drawn_below HBr.out hd)
        have HR35 := Aside0.mk (rd_drawn HR3r.out hd)
        have HRl5 := Aside0.mk (rd_drawn HRr.out hd)
        clear hd
        go_wp2
        go_roundw
        case rel => exact ⟨k + 1, by omega, by go_num, HRl5, HR35, HB5⟩
        case measure => simp [intOf]; omega
      · have hv : rd l3 (k : Int) = rd l (k : Int) := by
          rw [HL3.out, rd_nat _ k (by simpa using hlt), rd_nat _ k hlt]
          have : (a - 16).toNat ≠ k := by omega
          simp [this]
        rw [hv] at P
        have HP := Lib.hid P
        have t1 : (16 + (k : Int) == a) = false := by simpa using hki
        have t2 : (16 + (k : Int) != a) = true := by simpa using hki
        have t3 : (rd l (k : Int) != rd l (k : Int)) = false := by simp
        clear P hv hki
        go_wp2_with fail
        refine (HP.out).mono ?_
        rintro e w5 ⟨rfl, hd⟩
        have HB5 := Aside0.mk (drawn_below HBr.out hd)
        have HR35 := Aside0.mk (rd_drawn HR3r.out hd)
        have HRl5 := Aside0.mk (rd_drawn HRr.out hd)
        have hcell := rd_cell HRl5.out k hlt
        clear hd
        generalize rd l (k : Int) = y at *
        go_wp2
        go_roundw
        case rel => exact ⟨k + 1, by omega, by go_num, HRl5, HR35, HB5⟩
        case measure => simp [intOf]; omega
    · have t1 : ((l3.length : Int) == (l.length : Int)) = true := by have := HM3.out.2; simp [this]
      go_wp2
      go_ret
      exact ⟨rfl, HBr.out⟩

theorem sureArenaPuts (A : Option Addr) (c : Nat) (l : List Int) (a v : Int) (w : World) (hr : Rd w A l) (hc : l.length ≤ c) (hcm : c ≤ 9223372036854775807) (hm : l.length * 8 ≤ 140737488351232) (ha : InI64 a) (hv : InI64 v) :
    Calls Try.prog 5 #[.slice A l.length c, .int .i64 a, .int .i64 v] w (TruePost w) := by
  by_cases h : l.length ≤ 1100
  · cases hx : partErr l a 1 with
    | some x => exact puts_err A c l a v x w hr hc h ha.2 hx
    | none =>
      have hn := puts_none hx
      obtain ⟨ad, rfl, _⟩ := Kd.at_int hr 0 (by decide) (by have := mayB_true hn.1; omega)
      exact puts_ok ad c l a v w hr hc h hx
  · exact puts_long A c l a v w (by omega) (by omega)

end Go.Proofs.Ytglicimbnfamdaa.Arena
