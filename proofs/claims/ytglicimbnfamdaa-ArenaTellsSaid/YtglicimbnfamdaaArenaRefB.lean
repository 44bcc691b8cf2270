/- The walks of the reference's Put and Zero. -/
import Derived.Test.YtglicimbnfamdaaArenaRef
namespace Go.Proofs.Ytglicimbnfamdaa.Arena
open Go.RowKit Go.Proofs.YtglicimbnfamdaaW.PrintWords Go.Proofs.YtglicimbnfamdaaW.PrintLast Go.Proofs.YtglicimbnfamdaaW.PrintMore
open Go.Proofs.Ytglicimbnfamdaa.PArenaTells
set_option linter.unusedVariables false
set_option linter.unusedSimpArgs false

theorem getS_err {l : List Int} {a x : Int} (hx : partErr l a 1 = some x) : getS l a = (0, x) := by
  unfold partErr at hx
  unfold getS
  cases hm : mayB l
  · rw [if_pos (.inl hm)] at hx
    cases hx; rfl
  · rw [if_neg (by rw [hm]; simp), if_neg (by decide)] at hx
    by_cases h : a < 16 ∨ (l.length : Int) ≤ a - 16 ∨ (l.length : Int) - (a - 16) < 1
    · rw [if_pos h] at hx
      cases hx
      rw [if_neg (by decide), if_pos (by omega)]
    · rw [if_neg h] at hx; cases hx
theorem getS_ok {l : List Int} {a : Int} (hm : mayB l = true) (h1 : 16 ≤ a) (h2 : a - 16 < (l.length : Int)) : getS l a = (rd l (a - 16), 0) := by
  unfold getS
  rw [if_neg (by rw [hm]; decide), if_neg (by omega)]

set_option maxHeartbeats 400000 in
theorem RefPut_err (A : Option Addr) (c : Nat) (l : List Int) (a v x : Int) (w : World) (hr : Rd w A l) (hc : l.length ≤ c) (hl : l.length ≤ 2000) (hx : partErr l a 1 = some x) :
    Calls Try.prog 21 #[.slice A l.length c, .int .i64 a, .int .i64 v] w (ErrPost x w) := by
  have K := RefGet_any A c l a w hr hc hl
  have hx0 := puts_pos hx
  have t1 : (x != 0) = true := by simp; omega
  rw [getS_err hx] at K
  have HK := Lib.hid K
  clear K hx hr
  go_enter Try.func21, Try.ntmps21
  go_wp2_with fail
  refine (HK.out).mono ?_
  rintro e w1 ⟨rfl, hd⟩
  have HB := Aside0.mk hd.below
  clear hd
  go_wp2
  go_ret2
  exact ⟨rfl, HB.out⟩

set_option maxHeartbeats 400000 in
theorem RefPut_ok (A : Option Addr) (c : Nat) (l : List Int) (a v : Int) (w : World) (hr : Rd w A l) (hc : l.length ≤ c) (hl : l.length ≤ 2000) (hm : mayB l = true) (ha : 16 ≤ a) (hq : a - 16 < (l.length : Int)) :
    Calls Try.prog 21 #[.slice A l.length c, .int .i64 a, .int .i64 v] w (ListPost (l.set (a - 16).toNat v) w) := by
  have K := RefGet_any A c l a w hr hc hl
  rw [getS_ok hm ha hq] at K
  have HK := Lib.hid K
  have HR := Aside0.mk hr
  have ha1 : a ≤ 3000 := by omega
  generalize rd l (a - 16) = y at *
  clear K hr hm
  go_enter Try.func21, Try.ntmps21
  go_wp2_with fail
  refine (HK.out).mono ?_
  rintro e w1 ⟨rfl, hd⟩
  have HB := Aside0.mk hd.below
  have HR1 := Aside0.mk (rd_drawn HR.out hd)
  have HS := Aside0.mk (Kd.reads_of_C (enc := Value.int .i64) (d := (0 : Int)) (h1 := fun _ => rfl) HR1.out)
  clear hd
  have hpos : 0 < l.length := by omega
  go_wp2_with (at_builtin; refine print_append_row_of (w0 := w1) (Value.int .i64) (0 : Int) w1.heap.size rfl (.const (.slice none 0 0)) (.tmp 20) 23 3 (.int .i64 0) 8 rfl Try.underlying23 info3 rfl (by decide) (fun _ => rfl) _ [] l _ _ _ rfl rfl (own_none _ _) HS.out (Below.refl _ _) (Nat.le_refl _) (by simp; omega) ?_; intro v1 w2 hown hbel hg hat; have HO2 := Aside0.mk hown; have HC2 := Aside0.mk hbel; clear hown hbel hg hat; have HB2 := Aside0.mk (below_then HB.out HB.out.size HC2.out); have HN2 : Own w2 w1.heap.size v1 l := (by have := Kd.R_of_own (h1 := fun _ => rfl) (ok := fun _ => True) HO2.out (fun _ _ => trivial); rw [List.nil_append] at this; exact this); have HN3 := Aside0.mk (Kd.R_lower HN2 (base' := w.heap.size) HB.out.size); clear HN2; obtain ⟨g, cap, rfl, hg, hgl, -⟩ := Kd.R_form HN3.out hpos; obtain ⟨hcell, hfro⟩ := Kd.R_cell (0 : Int) HN3.out (a - 16) (by omega) hq)
  have HB3 := Aside0.mk (below_set HB2.out (j := (a - 16).toNat) (v := .int .i64 v) hg)
  have HO3 := Aside0.mk (Kd.R_put HN3.out (a - 16) v).1
  go_ret2
  exact ⟨_, rfl, HO3.out, HB3.out⟩

theorem RefPut_any (A : Option Addr) (c : Nat) (l : List Int) (a v : Int) (w : World) (hr : Rd w A l) (hc : l.length ≤ c) (hl : l.length ≤ 2000) :
    Calls Try.prog 21 #[.slice A l.length c, .int .i64 a, .int .i64 v] w (AnsPost (putS l a v) w) := by
  unfold putS
  cases hx : partErr l a 1 with
  | some x => exact (RefPut_err A c l a v x w hr hc hl hx).mono fun _ _ h => ans_err h
  | none =>
    have h := puts_none hx
    exact (RefPut_ok A c l a v w hr hc hl h.1 h.2.1 h.2.2).mono fun _ _ h => ans_list h

theorem zeroS_snoc : ∀ (n : Nat) (l : List Int) (k : Nat), zeroS l k (n + 1) = (zeroS l k n).set (k + n) 0
  | 0, l, k => by simp [zeroS]
  | n + 1, l, k => by
    rw [zeroS, zeroS_snoc n (l.set k 0) (k + 1), zeroS, show k + 1 + n = k + (n + 1) from by omega]

set_option maxHeartbeats 400000 in
theorem RefZero_bad (A : Option Addr) (c : Nat) (l : List Int) (a n : Int) (w : World) (hr : Rd w A l) (hc : l.length ≤ c) (hm : mayB l = false) :
    Calls Try.prog 22 #[.slice A l.length c, .int .i64 a, .int .i64 n] w (ErrPost 1 w) := by
  have K := RefMay_any A c l w hr hc
  rw [hm] at K
  have HK := Lib.hid K
  clear K hr hm
  go_enter Try.func22, Try.ntmps22
  go_wp2_with fail
  refine (HK.out).mono ?_
  rintro e w1 ⟨rfl, hd⟩
  have HB := Aside0.mk hd.below
  clear hd
  go_wp2
  go_ret2
  exact ⟨rfl, HB.out⟩
set_option maxHeartbeats 400000 in
theorem RefZero_neg (A : Option Addr) (c : Nat) (l : List Int) (a n : Int) (w : World) (hr : Rd w A l) (hc : l.length ≤ c) (hm : mayB l = true) (hn : n < 0) :
    Calls Try.prog 22 #[.slice A l.length c, .int .i64 a, .int .i64 n] w (ErrPost 1 w) := by
  have K := RefMay_any A c l w hr hc
  rw [hm] at K
  have HK := Lib.hid K
  clear K hr hm
  go_enter Try.func22, Try.ntmps22
  go_wp2_with fail
  refine (HK.out).mono ?_
  rintro e w1 ⟨rfl, hd⟩
  have HB := Aside0.mk hd.below
  clear hd
  go_wp2
  go_ret2
  exact ⟨rfl, HB.out⟩

set_option maxHeartbeats 1000000 in
theorem RefZero_out (A : Option Addr) (c : Nat) (l : List Int) (a n : Int) (w : World) (hr : Rd w A l) (hc : l.length ≤ c) (hl : l.length ≤ 2000) (hm : mayB l = true) (hn : 0 < n) (ha9 : InI64 a) (hq : a < 16 ∨ (l.length : Int) ≤ a - 16) :
    Calls Try.prog 22 #[.slice A l.length c, .int .i64 a, .int .i64 n] w (ErrPost 3 w) := by
  have K := RefMay_any A c l w hr hc
  rw [hm] at K
  have HK := Lib.hid K
  have HR := Aside0.mk hr
  have hi : isB l a = false := by unfold isB; simp; omega
  have KI := fun (w : World) (h : Rd w A l) => Is_any A c l a w h hc hl
  rw [hi] at KI
  have HI := Lib.hid KI
  have ha0 := ha9.1
  have ha1 := ha9.2
  clear K hr hm hi KI ha9
  go_enter Try.func22, Try.ntmps22
  go_wp2_with fail
  refine (HK.out).mono ?_
  rintro e w1 ⟨rfl, hd⟩
  have HB := Aside0.mk hd.below
  have HR1 := Aside0.mk (rd_drawn HR.out hd)
  have HS := Aside0.mk (Kd.reads_of_C (enc := Value.int .i64) (d := (0 : Int)) (h1 := fun _ => rfl) HR1.out)
  have hn' : ¬ n < 0 := by omega
  clear hd
  go_wp2_with (at_builtin; refine print_append_row_of (w0 := w1) (Value.int .i64) (0 : Int) w1.heap.size rfl (.const (.slice none 0 0)) (.tmp 19) 23 3 (.int .i64 0) 8 rfl Try.underlying23 info3 rfl (by decide) (fun _ => rfl) _ [] l _ _ _ rfl rfl (own_none _ _) HS.out (Below.refl _ _) (Nat.le_refl _) (by simp; omega) ?_; intro v1 w2 hown hbel hg hat; have HC2 := Aside0.mk hbel; clear hown hbel hg hat; have HB2 := Aside0.mk (below_then HB.out HB.out.size HC2.out); have HR2 := Aside0.mk (Kd.C_below HR1.out HC2.out))
  go_loopw [10] (fun i wr => i = .int .i64 0 ∧ Aside0 (Rd wr A l) ∧ Aside0 (Below w.heap.size w wr)) (fun i _ => 0)
  case atStart => exact ⟨rfl, HR2, HB2⟩
  case round =>
    obtain ⟨rfl, HRr, HBr⟩ := hrel
    go_wp2_with fail
    refine (HI.out _ HRr.out).mono ?_
    rintro e w3 ⟨rfl, hd⟩
    have HB3 := Aside0.mk (drawn_below HBr.out hd)
    clear hd
    go_wp2
    go_ret2
    exact ⟨rfl, HB3.out⟩

set_option maxHeartbeats 1000000 in
theorem RefZero_zero (A : Option Addr) (c : Nat) (l : List Int) (a : Int) (w : World) (hr : Rd w A l) (hc : l.length ≤ c) (hl : l.length ≤ 2000) (hm : mayB l = true) :
    Calls Try.prog 22 #[.slice A l.length c, .int .i64 a, .int .i64 0] w (ListPost l w) := by
  have K := RefMay_any A c l w hr hc
  rw [hm] at K
  have HK := Lib.hid K
  have HR := Aside0.mk hr
  clear K hr hm
  go_enter Try.func22, Try.ntmps22
  go_wp2_with fail
  refine (HK.out).mono ?_
  rintro e w1 ⟨rfl, hd⟩
  have HB := Aside0.mk hd.below
  have HR1 := Aside0.mk (rd_drawn HR.out hd)
  have HS := Aside0.mk (Kd.reads_of_C (enc := Value.int .i64) (d := (0 : Int)) (h1 := fun _ => rfl) HR1.out)
  clear hd
  go_wp2_with (at_builtin; refine print_append_row_of (w0 := w1) (Value.int .i64) (0 : Int) w1.heap.size rfl (.const (.slice none 0 0)) (.tmp 19) 23 3 (.int .i64 0) 8 rfl Try.underlying23 info3 rfl (by decide) (fun _ => rfl) _ [] l _ _ _ rfl rfl (own_none _ _) HS.out (Below.refl _ _) (Nat.le_refl _) (by simp; omega) ?_; intro v1 w2 hown hbel hg hat; have HO2 := Aside0.mk hown; have HC2 := Aside0.mk hbel; clear hown hbel hg hat; have HB2 := Aside0.mk (below_then HB.out HB.out.size HC2.out); have HN2 : Own w2 w1.heap.size v1 l := (by have := Kd.R_of_own (h1 := fun _ => rfl) (ok := fun _ => True) HO2.out (fun _ _ => trivial); rw [List.nil_append] at this; exact this); have HN3 := Aside0.mk (Kd.R_lower HN2 (base' := w.heap.size) HB.out.size); clear HN2)
  go_loopw [10] (fun i wr => i = .int .i64 0 ∧ Aside0 (Own wr w.heap.size v1 l) ∧ Aside0 (Below w.heap.size w wr)) (fun i _ => 0)
  case atStart => exact ⟨rfl, HN3, HB2⟩
  case round =>
    obtain ⟨rfl, HNr, HBr⟩ := hrel
    go_wp2
    go_ret2
    exact ⟨_, rfl, HNr.out, HBr.out⟩

set_option maxHeartbeats 2000000 in
theorem RefZero_in (A : Option Addr) (c : Nat) (l : List Int) (a n : Int) (w : World) (hr : Rd w A l) (hc : l.length ≤ c) (hl : l.length ≤ 2000) (hm : mayB l = true) (hn : 0 < n) (ha : 16 ≤ a) (hq : a - 16 < (l.length : Int)) :
    Calls Try.prog 22 #[.slice A l.length c, .int .i64 a, .int .i64 n] w (AnsPost (zeroAns l a n) w) := by
  have K := RefMay_any A c l w hr hc
  rw [hm] at K
  have HK := Lib.hid K
  have HR := Aside0.mk hr
  have HM := Lib.hid hm
  have ha1 : a ≤ 3000 := by omega
  clear K hr hm
  obtain ⟨b, hb⟩ : ∃ b : Nat, b = (a - 16).toNat := ⟨_, rfl⟩
  have hab : a = 16 + (b : Int) := by omega
  clear hb
  subst hab
  have hbl : b < l.length := by omega
  clear hq
  go_enter Try.func22, Try.ntmps22
  go_wp2_with fail
  refine (HK.out).mono ?_
  rintro e w1 ⟨rfl, hd⟩
  have HB := Aside0.mk hd.below
  have HR1 := Aside0.mk (rd_drawn HR.out hd)
  have HS := Aside0.mk (Kd.reads_of_C (enc := Value.int .i64) (d := (0 : Int)) (h1 := fun _ => rfl) HR1.out)
  have hn' : ¬ n < 0 := by omega
  have hpos : 0 < l.length := by omega
  clear hd
  go_wp2_with (at_builtin; refine print_append_row_of (w0 := w1) (Value.int .i64) (0 : Int) w1.heap.size rfl (.const (.slice none 0 0)) (.tmp 19) 23 3 (.int .i64 0) 8 rfl Try.underlying23 info3 rfl (by decide) (fun _ => rfl) _ [] l _ _ _ rfl rfl (own_none _ _) HS.out (Below.refl _ _) (Nat.le_refl _) (by simp; omega) ?_; intro v1 w2 hown hbel hg hat; have HO2 := Aside0.mk hown; have HC2 := Aside0.mk hbel; clear hown hbel hg hat; have HB2 := Aside0.mk (below_then HB.out HB.out.size HC2.out); have HN2 : Own w2 w1.heap.size v1 l := (by have := Kd.R_of_own (h1 := fun _ => rfl) (ok := fun _ => True) HO2.out (fun _ _ => trivial); rw [List.nil_append] at this; exact this); have HN3 := Aside0.mk (Kd.R_lower HN2 (base' := w.heap.size) HB.out.size); clear HN2; obtain ⟨g, cap, rfl, hg, hgl, -⟩ := Kd.R_form HN3.out hpos; have HR2 := Aside0.mk (Kd.C_below HR1.out HC2.out))
  go_loopw [10] (fun i wr => ∃ k : Nat, (k : Int) ≤ n ∧ b + k ≤ l.length ∧ i = .int .i64 k ∧ Aside0 (Own wr w.heap.size (.slice (some ⟨g, 0, none⟩) l.length cap) (zeroS l b k)) ∧ Aside0 (Below w.heap.size w wr)) (fun i _ => l.length - (intOf i).toNat)
  case atStart => exact ⟨0, by omega, by omega, rfl, HN3, HB2⟩
  case round =>
    obtain ⟨k, hk, hbk, rfl, HNr, HBr⟩ := hrel
    have HRr := Aside0.mk (Kd.C_below HR.out HBr.out)
    by_cases hlt : (k : Int) < n
    · by_cases hin : b + k < l.length
      · have I := Is_any A c l (16 + (b : Int) + (k : Int)) wr HRr.out hc hl
        rw [show isB l (16 + (b : Int) + (k : Int)) = true from by unfold isB; simp; omega] at I
        have HI := Lib.hid I
        have hzl : (zeroS l b k).length = l.length := zeroS_length _ _ _
        have HNr' : Own wr w.heap.size (.slice (some ⟨g, 0, none⟩) (zeroS l b k).length cap) (zeroS l b k) := by rw [hzl]; exact HNr.out
        have h4 : 0 ≤ 16 + (b : Int) + (k : Int) - 16 := by omega
        have h5 : 16 + (b : Int) + (k : Int) - 16 < (l.length : Int) := by omega
        have HN5 := Aside0.mk HNr'
        have HZL := Lib.hid hzl
        clear I hzl HNr'
        go_wp2_with fail
        refine (HI.out).mono ?_
        rintro e w3 ⟨rfl, hd⟩
        obtain ⟨m, rfl⟩ := hd.out
        have HB3 := Aside0.mk (drawn_below HBr.out hd)
        have HN6 := Aside0.mk (Kd.R_drewN HN5.out m)
        obtain ⟨hcell, hfro⟩ := Kd.R_cell (0 : Int) HN5.out (16 + (b : Int) + (k : Int) - 16) h4 (by rw [HZL.out]; exact h5)
        have hix : (16 + (b : Int) + (k : Int) - 16).toNat = 16 + b + k - 16 := by omega
        have HN7 := (Kd.R_put HN6.out (16 + (b : Int) + (k : Int) - 16) 0).1
        rw [hix] at hcell hfro HN7
        have HN8 := Aside0.mk HN7
        have HB7 := Aside0.mk (below_set HB3.out (j := 16 + b + k - 16) (v := .int .i64 0) hg)
        clear hd hix HN7
        generalize rdOf 0 (zeroS l b k) (16 + (b : Int) + (k : Int) - 16) = y at *
        go_wp2
        go_roundw
        case rel =>
          refine ⟨k + 1, by omega, by omega, by go_num, ⟨?_⟩, HB7⟩
          have h7 := HN8.out
          rw [HZL.out, show 16 + b + k - 16 = b + k from by omega, ← zeroS_snoc] at h7
          rw [show 16 + b + k - 16 = b + k from by omega]
          exact h7
        case measure => simp [intOf]; omega
      · have I := Is_any A c l (16 + (b : Int) + (k : Int)) wr HRr.out hc hl
        rw [show isB l (16 + (b : Int) + (k : Int)) = false from by unfold isB; simp; omega] at I
        have HI := Lib.hid I
        have E := Lib.hid (show zeroAns l (16 + (b : Int)) n = ([], 3) from by
          have : partErr l (16 + (b : Int)) n = some 3 := by
            unfold partErr
            rw [if_neg (by rw [HM.out]; simp; omega), if_neg (by omega), if_pos (by omega)]
          unfold zeroAns; rw [this])
        clear I
        go_wp2_with fail
        refine (HI.out).mono ?_
        rintro e w3 ⟨rfl, hd⟩
        have HB3 := Aside0.mk (drawn_below HBr.out hd)
        clear hd
        go_wp2
        go_ret2
        rw [E.out]
        exact ⟨_, rfl, Kd.R_nil _ _ _ _ _, HB3.out⟩
    · have E := Lib.hid (show zeroAns l (16 + (b : Int)) n = (zeroS l b k, 0) from by
        have : partErr l (16 + (b : Int)) n = none := by
          unfold partErr
          rw [if_neg (by rw [HM.out]; simp; omega), if_neg (by omega), if_neg (by omega)]
        unfold zeroAns
        rw [this, show (16 + (b : Int) - 16).toNat = b from by omega, show n.toNat = k from by omega])
      go_wp2
      go_ret2
      rw [E.out]
      exact ⟨_, rfl, HNr.out, HBr.out⟩

theorem RefZero_any (A : Option Addr) (c : Nat) (l : List Int) (a n : Int) (w : World) (hr : Rd w A l) (hc : l.length ≤ c) (hl : l.length ≤ 2000) (ha : InI64 a) :
    Calls Try.prog 22 #[.slice A l.length c, .int .i64 a, .int .i64 n] w (AnsPost (zeroAns l a n) w) := by
  cases hm : mayB l
  · have E : zeroAns l a n = ([], 1) := by
      have : partErr l a n = some 1 := by unfold partErr; rw [if_pos (.inl hm)]
      unfold zeroAns; rw [this]
    rw [E]
    exact (RefZero_bad A c l a n w hr hc hm).mono fun _ _ h => ans_err h
  · by_cases hn : n < 0
    · have E : zeroAns l a n = ([], 1) := by
        have : partErr l a n = some 1 := by unfold partErr; rw [if_pos (.inr hn)]
        unfold zeroAns; rw [this]
      rw [E]
      exact (RefZero_neg A c l a n w hr hc hm hn).mono fun _ _ h => ans_err h
    · by_cases h0 : n = 0
      · subst h0
        have E : zeroAns l a 0 = (l, 0) := by
          have : partErr l a 0 = none := by unfold partErr; rw [if_neg (by rw [hm]; simp), if_pos rfl]
          unfold zeroAns; rw [this]; rfl
        rw [E]
        exact (RefZero_zero A c l a w hr hc hl hm).mono fun _ _ h => ans_list h
      · by_cases hq : a < 16 ∨ (l.length : Int) ≤ a - 16
        · have E : zeroAns l a n = ([], 3) := by
            have : partErr l a n = some 3 := by unfold partErr; rw [if_neg (by rw [hm]; simp; omega), if_neg h0, if_pos (by omega)]
            unfold zeroAns; rw [this]
          rw [E]
          exact (RefZero_out A c l a n w hr hc hl hm (by omega) ha hq).mono fun _ _ h => ans_err h
        · exact RefZero_in A c l a n w hr hc hl hm (by omega) (by omega) (by omega)

end Go.Proofs.Ytglicimbnfamdaa.Arena
