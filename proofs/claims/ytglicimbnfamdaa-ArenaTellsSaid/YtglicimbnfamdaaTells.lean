/- The walk of ArenaTells. -/
import Derived.Test.YtglicimbnfamdaaArenaRefB
namespace Go.Proofs.Ytglicimbnfamdaa.Arena
open Go.RowKit Go.Proofs.YtglicimbnfamdaaW.PrintWords Go.Proofs.YtglicimbnfamdaaW.PrintLast Go.Proofs.YtglicimbnfamdaaW.PrintMore
open Go.Proofs.Ytglicimbnfamdaa.PArenaTells
set_option linter.unusedVariables false
set_option linter.unusedSimpArgs false

theorem putS_len (l : List Int) (a v : Int) : (putS l a v).1.length ≤ l.length := by
  unfold putS; split <;> simp
theorem zeroAns_len (l : List Int) (a n : Int) : (zeroAns l a n).1.length ≤ l.length := by
  unfold zeroAns; split <;> simp [zeroS_length]

set_option maxHeartbeats 400000 in
set_option maxRecDepth 100000 in
theorem tells_long (A : Option Addr) (c : Nat) (l : List Int) (a v n : Int) (w : World) (hlong : 2000 < l.length) (hm : l.length ≤ 140737488351232) :
    Calls Try.prog 9 #[.slice A l.length c, .int .i64 a, .int .i64 v, .int .i64 n] w (TruePost w) := by
  have h1 : (2000 : Int) < (l.length : Int) := by omega
  go_enter Try.func9, Try.ntmps9
  go_wp2_with fail
  refine (awake_true _).mono ?_
  rintro e w1 ⟨rfl, hb⟩
  have HB := Aside0.mk hb
  clear hb
  go_wp2
  go_ret
  exact ⟨rfl, HB.out⟩

set_option maxHeartbeats 4000000 in
set_option maxRecDepth 100000 in
theorem tells_ok (A : Option Addr) (c : Nat) (l : List Int) (a v n : Int) (w : World) (hr : Rd w A l) (hc : l.length ≤ c) (hcm : c ≤ 9223372036854775807) (hl : l.length ≤ 2000) (ha : InI64 a) :
    Calls Try.prog 9 #[.slice A l.length c, .int .i64 a, .int .i64 v, .int .i64 n] w (TruePost w) := by
  have h1 : ¬ (2000 : Int) < (l.length : Int) := by omega
  have HR := Aside0.mk hr
  have G1 := fun (w : World) (h : Rd w A l) => Get_any A c l a w h hc hcm ha.2
  have G2 := fun (w : World) (h : Rd w A l) => RefGet_any A c l a w h hc hl
  have P1 := fun (w : World) (h : Rd w A l) => Put_any A c l a v w h hl ha.2
  have P2 := fun (w : World) (h : Rd w A l) => RefPut_any A c l a v w h hc hl
  have Z1 := fun (w : World) (h : Rd w A l) => Zero_any A c l a n w h hl ha.2
  have Z2 := fun (w : World) (h : Rd w A l) => RefZero_any A c l a n w h hc hl ha
  have Q1 := fun (w : World) (h : Rd w A l) => Page_any A c l a w h hc hcm ha.2
  have Q2 := fun (w : World) (h : Rd w A l) => RefPage_any A c l a w h hc hl
  have T1 := fun (w : World) (h : Rd w A l) => At_any A c l n w h hc
  have T2 := fun (w : World) (h : Rd w A l) => RefAt_any A c l n w h hc hl
  have M1 := fun (w : World) (h : Rd w A l) => May_any A c l w h hc
  have M2 := fun (w : World) (h : Rd w A l) => RefMay_any A c l w h hc
  have lp := Nat.le_trans (putS_len l a v) hl
  have lz := Nat.le_trans (zeroAns_len l a n) hl
  clear hr ha
  unfold AnsPost at P1 P2 Z1 Z2
  generalize (putS l a v).1 = pl at *
  generalize (putS l a v).2 = pe at *
  generalize (zeroAns l a n).1 = zl at *
  generalize (zeroAns l a n).2 = ze at *
  generalize (getS l a).1 = gv at *
  generalize (getS l a).2 = ge at *
  generalize (pageS l a).1 = qv at *
  generalize (pageS l a).2 = qe at *
  generalize (atS l n).1 = tv at *
  generalize (atS l n).2 = te at *
  generalize mayB l = mb at *
  have G1 := Lib.hid G1
  have G2 := Lib.hid G2
  have P1 := Lib.hid P1
  have P2 := Lib.hid P2
  have Z1 := Lib.hid Z1
  have Z2 := Lib.hid Z2
  have Q1 := Lib.hid Q1
  have Q2 := Lib.hid Q2
  have T1 := Lib.hid T1
  have T2 := Lib.hid T2
  have M1 := Lib.hid M1
  have M2 := Lib.hid M2
  rename_i G1o G2o P1o P2o Z1o Z2o Q1o Q2o T1o T2o M1o M2o
  clear G1o G2o P1o P2o Z1o Z2o Q1o Q2o T1o T2o M1o M2o
  have tgv : (gv == gv) = true := by simp
  have tge : (ge == ge) = true := by simp
  have tpe : (pe == pe) = true := by simp
  have tze : (ze == ze) = true := by simp
  have tqv : (qv == qv) = true := by simp
  have tqe : (qe == qe) = true := by simp
  have ttv : (tv == tv) = true := by simp
  have tte : (te == te) = true := by simp
  go_enter Try.func9, Try.ntmps9
  go_wp2_with fail
  refine (awake_true _).mono ?_
  rintro e w1 ⟨rfl, hb⟩
  have HB1 := Aside0.mk hb
  clear hb
  go_wp2_with fail
  refine (G1.out _ (Kd.C_below HR.out HB1.out)).mono ?_
  rintro e w2 ⟨rfl, hd⟩
  have HB2 := Aside0.mk (drawn_below HB1.out hd)
  clear hd
  go_wp2_with fail
  refine (G2.out _ (Kd.C_below HR.out HB2.out)).mono ?_
  rintro e w3 ⟨rfl, hd⟩
  have HB3 := Aside0.mk (drawn_below HB2.out hd)
  clear hd
  go_wp2_with fail
  refine (P1.out _ (Kd.C_below HR.out HB3.out)).mono ?_
  rintro e w4 ⟨v4, rfl, hown, hb⟩
  have HB4 := Aside0.mk (below_then HB3.out HB3.out.size hb)
  have HO4 := Aside0.mk hown
  clear hb hown
  go_wp2_with fail
  refine (P2.out _ (Kd.C_below HR.out HB4.out)).mono ?_
  rintro e w5 ⟨v5, rfl, hown, hb⟩
  have HB5 := Aside0.mk (below_then HB4.out HB4.out.size hb)
  obtain ⟨A4, c4, rfl, hc4, hr4⟩ := Kd.R_reads (Kd.R_below HO4.out hb)
  obtain ⟨A5, c5, rfl, hc5, hr5⟩ := Kd.R_reads hown
  have I := Ints_any A4 A5 c4 c5 pl pl w5 hr4 hc4 hr5 hc5 (by omega)
  rw [decide_eq_true rfl] at I
  have HI := Lib.hid I
  clear hb hown hr4 hr5 I
  go_wp2_with fail
  refine (HI.out).mono ?_
  rintro e w6 ⟨rfl, hd⟩
  have HB6 := Aside0.mk (drawn_below HB5.out hd)
  clear hd HI
  go_wp2_with fail
  refine (Z1.out _ (Kd.C_below HR.out HB6.out)).mono ?_
  rintro e w7 ⟨v7, rfl, hown, hb⟩
  have HB7 := Aside0.mk (below_then HB6.out HB6.out.size hb)
  have HO7 := Aside0.mk hown
  clear hb hown
  go_wp2_with fail
  refine (Z2.out _ (Kd.C_below HR.out HB7.out)).mono ?_
  rintro e w8 ⟨v8, rfl, hown, hb⟩
  have HB8 := Aside0.mk (below_then HB7.out HB7.out.size hb)
  obtain ⟨A7, c7, rfl, hc7, hr7⟩ := Kd.R_reads (Kd.R_below HO7.out hb)
  obtain ⟨A8, c8, rfl, hc8, hr8⟩ := Kd.R_reads hown
  have I := Ints_any A7 A8 c7 c8 zl zl w8 hr7 hc7 hr8 hc8 (by omega)
  rw [decide_eq_true rfl] at I
  have HI := Lib.hid I
  clear hb hown hr7 hr8 I
  go_wp2_with fail
  refine (HI.out).mono ?_
  rintro e w9 ⟨rfl, hd⟩
  have HB9 := Aside0.mk (drawn_below HB8.out hd)
  clear hd HI
  go_wp2_with fail
  refine (Q1.out _ (Kd.C_below HR.out HB9.out)).mono ?_
  rintro e w10 ⟨rfl, hd⟩
  have HB10 := Aside0.mk (drawn_below HB9.out hd)
  clear hd
  go_wp2_with fail
  refine (Q2.out _ (Kd.C_below HR.out HB10.out)).mono ?_
  rintro e w11 ⟨rfl, hd⟩
  have HB11 := Aside0.mk (drawn_below HB10.out hd)
  clear hd
  go_wp2_with fail
  refine (T1.out _ (Kd.C_below HR.out HB11.out)).mono ?_
  rintro e w12 ⟨rfl, hd⟩
  have HB12 := Aside0.mk (drawn_below HB11.out hd)
  clear hd
  go_wp2_with fail
  refine (T2.out _ (Kd.C_below HR.out HB12.out)).mono ?_
  rintro e w13 ⟨rfl, hd⟩
  have HB13 := Aside0.mk (drawn_below HB12.out hd)
  clear hd
  go_wp2_with fail
  refine (M1.out _ (Kd.C_below HR.out HB13.out)).mono ?_
  rintro e w14 ⟨rfl, hd⟩
  have HB14 := Aside0.mk (drawn_below HB13.out hd)
  clear hd
  go_wp2_with fail
  refine (M2.out _ (Kd.C_below HR.out HB14.out)).mono ?_
  rintro e w15 ⟨rfl, hd⟩
  have HB15 := Aside0.mk (drawn_below HB14.out hd)
  clear hd
  have tmb : (mb == mb) = true := by simp
  go_wp2
  go_ret
  exact ⟨rfl, HB15.out⟩

theorem sureArenaTells (A : Option Addr) (c : Nat) (l : List Int) (a v n : Int) (w : World) (hr : Rd w A l) (hc : l.length ≤ c) (hcm : c ≤ 9223372036854775807) (hm : l.length * 8 ≤ 140737488351232) (ha : InI64 a) (hv : InI64 v) (hn : InI64 n) :
    Calls Try.prog 9 #[.slice A l.length c, .int .i64 a, .int .i64 v, .int .i64 n] w (TruePost w) := by
  by_cases h : l.length ≤ 2000
  · exact tells_ok A c l a v n w hr hc hcm h ha
  · exact tells_long A c l a v n w (by omega) (by omega)

end Go.Proofs.Ytglicimbnfamdaa.Arena
