/- The walk of arena.Zero. -/
import Derived.Test.YtglicimbnfamdaaArenaB
namespace Go.Proofs.Ytglicimbnfamdaa.Arena
open Go.RowKit Go.Proofs.YtglicimbnfamdaaW.PrintWords Go.Proofs.YtglicimbnfamdaaW.PrintLast Go.Proofs.YtglicimbnfamdaaW.PrintMore
open Go.Proofs.Ytglicimbnfamdaa.PArenaTells
set_option linter.unusedVariables false
set_option linter.unusedSimpArgs false

/-- A list with n noughts from place k on. -/
def zeroS : List Int → Nat → Nat → List Int
  | l, _, 0 => l
  | l, k, n + 1 => zeroS (l.set k 0) (k + 1) n
theorem zeroS_length : ∀ (n : Nat) (l : List Int) (k : Nat), (zeroS l k n).length = l.length
  | 0, _, _ => rfl
  | n + 1, l, k => by rw [zeroS, zeroS_length n]; simp
theorem zeroS_get : ∀ (n : Nat) (l : List Int) (k i : Nat), i < l.length → (zeroS l k n)[i]? = if k ≤ i ∧ i < k + n then some 0 else l[i]?
  | 0, l, k, i, _ => by rw [zeroS, if_neg (by omega)]
  | n + 1, l, k, i, hi => by
    rw [zeroS, zeroS_get n _ _ _ (by simpa using hi)]
    by_cases h : k + 1 ≤ i ∧ i < k + 1 + n
    · rw [if_pos h, if_pos (by omega)]
    · rw [if_neg h]
      by_cases hk : k = i
      · subst hk
        rw [if_pos (by omega)]
        simp [hi]
      · rw [if_neg (by omega), List.getElem?_set_ne hk]
theorem own_zeros {g cap base : Nat} : ∀ (n : Nat) (l : List Int) (k : Nat) (w : World), Own w base (.slice (some ⟨g, 0, none⟩) l.length cap) l → k + n ≤ l.length →
    Own (w.setCells g k (List.replicate n (.int .i64 0))) base (.slice (some ⟨g, 0, none⟩) l.length cap) (zeroS l k n)
  | 0, l, k, w, h, _ => h
  | n + 1, l, k, w, h, hk => by
    have h1 := (Kd.R_put h (k : Int) (0 : Int)).1
    rw [Int.toNat_natCast] at h1
    rw [List.replicate_succ, World.setCells, zeroS]
    have h2 := own_zeros n (l.set k 0) (k + 1) (w.setCell ⟨g, k, none⟩ (.int .i64 0)) (by rw [List.length_set]; exact h1) (by simp; omega)
    rw [List.length_set] at h2; exact h2
theorem below_cells {w : World} {g : Nat} (hg : w.heap.size ≤ g) : ∀ (vs : List Value) (o : Nat) (W : World), Below w.heap.size w W → Below w.heap.size w (W.setCells g o vs)
  | [], _, _, h => h
  | v :: r, o, W, h => below_cells hg r (o + 1) _ (below_set h hg)
theorem zero3 (w : World) : (zeroValue 3).run Try.prog w = .ok (.int .i64 0) w := by kernel_rfl
theorem clear_nil (w : World) (ty : TypeId) : (Builtin.clear_ #[23] ty #[.slice none 0 0]).run Try.prog w = .ok (.tuple #[]) w := by
  simp [Builtin.clear_, run_underlying Try.underlying23]

set_option maxHeartbeats 400000 in
theorem Zero_err (A : Option Addr) (c : Nat) (l : List Int) (a n x : Int) (w : World) (hr : Rd w A l) (hl : l.length * 8 ≤ 140737488355328) (ha : a ≤ 9223372036854775807) (hx : partErr l a n = some x) (hx0 : 0 < x) :
    Calls Try.prog 19 #[.slice A l.length c, .int .i64 a, .int .i64 n] w (ErrPost x w) := by
  have K := Lib.hid (Clone_any A c l w hr hl)
  have X := Lib.hid hx
  clear hr hx
  have h1 : (x != 0) = true := by simp; omega
  go_enter Try.func19, Try.ntmps19
  go_wp2_with fail
  refine (K.out).mono ?_
  rintro e w1 ⟨u, rfl, hown, hb⟩
  obtain ⟨A1, c1, rfl, hc1, hr1⟩ := Kd.R_reads hown
  have K2 := Lib.hid (part_err A1 c1 l a n x w1 hr1 hc1 ha X.out)
  have HB := Aside0.mk hb
  clear hown hr1 hb
  go_wp2_with fail
  refine (K2.out).mono ?_
  rintro e w2 ⟨rfl, hd⟩
  have HB2 := Aside0.mk (drawn_below HB.out hd)
  clear hd
  go_wp2
  go_ret2
  exact ⟨rfl, HB2.out⟩

set_option maxHeartbeats 400000 in
theorem Zero_nought (A : Option Addr) (c : Nat) (l : List Int) (a : Int) (w : World) (hr : Rd w A l) (hl : l.length * 8 ≤ 140737488355328) (hm : mayB l = true) :
    Calls Try.prog 19 #[.slice A l.length c, .int .i64 a, .int .i64 0] w (ListPost l w) := by
  have K := Lib.hid (Clone_any A c l w hr hl)
  have M := Lib.hid hm
  clear hr hm
  have hclr := clear_nil
  go_enter Try.func19, Try.ntmps19
  go_wp2_with fail
  refine (K.out).mono ?_
  rintro e w1 ⟨u, rfl, hown, hb⟩
  obtain ⟨A1, c1, rfl, hc1, hr1⟩ := Kd.R_reads hown
  have K2 := Lib.hid (part_zero A1 c1 l a w1 hr1 hc1 M.out)
  have HO := Aside0.mk hown
  have HB := Aside0.mk hb
  clear hown hr1 hb
  go_wp2_with fail
  refine (K2.out).mono ?_
  rintro e w2 ⟨rfl, hd⟩
  obtain ⟨m, rfl⟩ := hd.out
  have HB2 := Aside0.mk (drawn_below HB.out hd)
  have HO2 := Aside0.mk (Kd.R_drewN HO.out m)
  clear hd
  go_wp2
  go_ret2
  exact ⟨_, rfl, HO2.out, HB2.out⟩

set_option maxHeartbeats 400000 in
theorem Zero_ok (A : Option Addr) (c : Nat) (l : List Int) (a n : Int) (w : World) (hr : Rd w A l) (hl : l.length * 8 ≤ 140737488355328) (hm : mayB l = true) (hn : 0 < n) (ha : 16 ≤ a) (hq : a - 16 + n ≤ (l.length : Int)) :
    Calls Try.prog 19 #[.slice A l.length c, .int .i64 a, .int .i64 n] w (ListPost (zeroS l (a - 16).toNat n.toNat) w) := by
  have K := Lib.hid (Clone_any A c l w hr hl)
  have M := Lib.hid hm
  clear hr hm
  obtain ⟨i, hi⟩ : ∃ i : Nat, i = (a - 16).toNat := ⟨_, rfl⟩
  obtain ⟨j, hj⟩ : ∃ j : Nat, j = n.toNat := ⟨_, rfl⟩
  have hij : i + j ≤ l.length := by omega
  have hj0 : 0 < j := by omega
  have HI := Lib.hid hi
  have HJ := Lib.hid hj
  rw [← hi, ← hj]
  clear hi hj
  go_enter Try.func19, Try.ntmps19
  go_wp2_with fail
  refine (K.out).mono ?_
  rintro e w1 ⟨u, rfl, hown, hb⟩
  obtain ⟨g, cap, rfl, hg, hgl, -⟩ := Kd.R_form hown (by omega)
  obtain ⟨_, hc1, hr1⟩ := Kd.R_reads' hown
  have hcm := own_cap hown
  have K2 := part_ok ⟨g, 0, none⟩ cap l a n w1 hr1 hc1 hcm M.out hn ha hq
  rw [add_plain, ← HI.out, ← HJ.out] at K2
  have HK2 := Lib.hid K2
  have HO := Aside0.mk hown
  have HB := Aside0.mk hb
  clear hown hr1 hb K2
  go_wp2_with fail
  refine (HK2.out).mono ?_
  rintro e w2 ⟨rfl, hd⟩
  obtain ⟨m, rfl⟩ := hd.out
  have HB2 := Aside0.mk (below_cells hg (List.replicate j (.int .i64 0)) i _ (drawn_below HB.out hd))
  have HO2 := Aside0.mk (own_zeros j l i _ (Kd.R_drewN HO.out m) hij)
  have hclr : ∀ ty, (Builtin.clear_ #[23] ty #[.slice (some ⟨g, i, none⟩) j j]).run Try.prog (w1.drewN m) = .ok (.tuple #[]) ((w1.drewN m).setCells g i (List.replicate j (.int .i64 0))) :=
    fun ty => Lib.run_clear_slice (w1.drewN m) 23 3 ty (.int .i64 0) Try.underlying23 zero3 rfl rfl g i j j hj0
      (fun t ht => by have := (Kd.R_cell (0 : Int) (Kd.R_drewN HO.out m) ((i + t : Nat) : Int) (by omega) (by omega)).1; rw [Int.toNat_natCast] at this; rw [this]; rfl)
      (fun t ht => by have := (Kd.R_cell (0 : Int) (Kd.R_drewN HO.out m) ((i + t : Nat) : Int) (by omega) (by omega)).2; rw [Int.toNat_natCast] at this; exact this)
  clear hd HI HJ hq ha hn
  go_wp2
  go_ret2
  exact ⟨_, rfl, HO2.out, HB2.out⟩

end Go.Proofs.Ytglicimbnfamdaa.Arena
