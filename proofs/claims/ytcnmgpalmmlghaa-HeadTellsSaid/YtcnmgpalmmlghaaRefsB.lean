/- The walk of the reference's Unpack, by hand: it answers what head's Unpack does. -/
import Derived.Test.YtcnmgpalmmlghaaRefs
namespace Go.Proofs.Ytcnmgpalmmlghaa.Heads
open Go.RowKit Go.Proofs.YtcnmgpalmmlghaaW.PrintWords Go.Proofs.YtcnmgpalmmlghaaW.PrintLast Go.Proofs.YtcnmgpalmmlghaaW.PrintMore
open Go.Proofs.Ytcnmgpalmmlghaa.Plain
set_option linter.unusedVariables false

abbrev zeroCells : Obj := .cells #[.bool false, .bool false, .bool false, .int .i64 0, .int .i64 0, .int .i64 0] 23 (0, 0)

set_option maxHeartbeats 1000000 in
set_option maxRecDepth 100000 in
theorem RefUnpack_zero (w : World) :
    Calls Try.prog 13 #[.int .i64 0] w (UnpackPost 0 w) := by
  have hu23 := Try.underlying23
  have E1 := Lib.hid (show unpack 0 = (false, false, false, 0, 0, 0, true) from rfl)
  have hB := Aside0.mk (below_alloc (below_alloc (Below.refl w.heap.size w) zeroCells) zeroCells)
  have hK := Aside0.mk (blk_alloc (blk_new w zeroCells) zeroCells)
  go_enter Try.func13, Try.ntmps13
  go_wp2
  exact bodyPost_ret (results_ct rfl _ _ w.heap.size 23 #[.bool false, .bool false, .bool false, .int .i64 0, .int .i64 0, .int .i64 0] (0, 0) _ rfl hK.out Try.underlying23 rfl (by kernel_rfl)) rfl ⟨by rw [E1.out]; rfl, hB.out⟩

set_option maxHeartbeats 1000000 in
set_option maxRecDepth 100000 in
theorem RefUnpack_less (a : Int) (ha : a < 0) (w : World) :
    Calls Try.prog 13 #[.int .i64 a] w (UnpackPost a w) := by
  have hu23 := Try.underlying23
  have E1 := Lib.hid (show unpack a = (false, false, false, 0, 0, 0, false) from by
    unfold unpack odd; rw [if_neg (by omega), if_neg (by simp; omega)])
  have h0 : (a == 0) = false := by simp; omega
  have h1 : decide (a < 0) = true := by simpa using ha
  have hB := Aside0.mk (below_alloc (below_alloc (Below.refl w.heap.size w) zeroCells) zeroCells)
  have hK := Aside0.mk (blk_alloc (blk_new w zeroCells) zeroCells)
  go_enter Try.func13, Try.ntmps13
  go_wp2
  exact bodyPost_ret (results_ct rfl _ _ w.heap.size 23 #[.bool false, .bool false, .bool false, .int .i64 0, .int .i64 0, .int .i64 0] (0, 0) _ rfl hK.out Try.underlying23 rfl (by kernel_rfl)) rfl ⟨by rw [E1.out]; rfl, hB.out⟩

set_option maxHeartbeats 1000000 in
set_option maxRecDepth 100000 in
theorem RefUnpack_even (a : Int) (ha : 0 < a) (hm : a % 2 = 0) (w : World) :
    Calls Try.prog 13 #[.int .i64 a] w (UnpackPost a w) := by
  have hu23 := Try.underlying23
  have E1 := Lib.hid (show unpack a = (false, false, false, 0, 0, 0, false) from by
    unfold unpack odd; rw [if_neg (by omega), if_neg (by simp; omega)])
  have h0 : (a == 0) = false := by simp; omega
  have h1 : decide (a < 0) = false := by simp; omega
  have h2 : (a % 2 == 0) = true := by simp [hm]
  have h3 : 0 ≤ a := by omega
  have hB := Aside0.mk (below_alloc (below_alloc (Below.refl w.heap.size w) zeroCells) zeroCells)
  have hK := Aside0.mk (blk_alloc (blk_new w zeroCells) zeroCells)
  clear hm
  go_enter Try.func13, Try.ntmps13
  go_wp2
  exact bodyPost_ret (results_ct rfl _ _ w.heap.size 23 #[.bool false, .bool false, .bool false, .int .i64 0, .int .i64 0, .int .i64 0] (0, 0) _ rfl hK.out Try.underlying23 rfl (by kernel_rfl)) rfl ⟨by rw [E1.out]; rfl, hB.out⟩

set_option maxHeartbeats 1000000 in
set_option maxRecDepth 100000 in
theorem RefUnpack_odd (a : Int) (ha : 0 < a) (hb : a ≤ 9223372036854775807) (hm : a % 2 = 1) (w : World) :
    Calls Try.prog 13 #[.int .i64 a] w (UnpackPost a w) := by
  have hu23 := Try.underlying23
  have h0 : (a == 0) = false := by simp; omega
  have h1 : decide (a < 0) = false := by simp; omega
  have h2 : (a % 2 == 0) = false := by simp [hm]
  have h3 : 0 ≤ a := by omega
  have Hm := Lib.hid hm
  clear hm
  go_enter Try.func13, Try.ntmps13
  go_wp2_with fail
  have hu : unpack a = if odd a = true then (true, (a / 2 % 2 == 1), (a / 4 % 2 == 1), a / 8 % 128, a / 1024 % 4194304, a / 4294967296, true) else (false, false, false, 0, 0, 0, false) := by
    unfold unpack; rw [if_neg (by omega)]
  have ho : odd a = may true (a / 2 % 2 == 1) (a / 4 % 2 == 1) (a / 8 % 128) (a / 1024 % 4194304) (a / 4294967296) := by
    unfold odd; simp [h3, Hm.out]
  generalize (a / 2 % 2 == 1) = o at *
  generalize (a / 4 % 2 == 1) = d at *
  generalize a / 8 % 128 = n at *
  generalize a / 1024 % 4194304 = b at *
  generalize a / 4294967296 = m at *
  refine (ragpickerref01_May.calls true o d n b m _ _ (May_ref true o d n b m)).mono ?_
  rintro e w1 ⟨rfl, hb1⟩
  have hB1 := Aside0.mk (below_then (below_alloc (below_alloc (below_alloc (Below.refl w.heap.size w) _) _) _) (by simp; omega) hb1)
  have hK1 := Aside0.mk (blk_below (blk_alloc (blk_alloc (blk_new w zeroCells) _) _) hb1)
  obtain ⟨hc, hf⟩ := bcell hb1
  have hz2 : w.heap.size + 1 + 1 < w1.heap.size := by have := hb1.size; simp at this; omega
  have hz1 : w.heap.size + 1 < w1.heap.size := by omega
  have hz0 : w.heap.size < w1.heap.size := by omega
  by_cases hm : may true o d n b m = true
  · have E1 := Lib.hid (show unpack a = (true, o, d, n, b, m, true) by rw [hu, ho, if_pos hm])
    rw [hm]
    clear hm hu ho
    go_wp2
    exact bodyPost_ret (results_ct rfl _ _ w.heap.size 23 #[.bool true, .bool o, .bool d, .int .i64 n, .int .i64 b, .int .i64 m] (0, 0) _ rfl (blk_six hK1.out _ _ _ _ _ _) Try.underlying23 rfl (by kernel_rfl)) rfl ⟨by rw [E1.out]; rfl, below_six hB1.out (Nat.le_refl _) _ _ _ _ _ _⟩
  · have hm' : may true o d n b m = false := by simpa using hm
    have E1 := Lib.hid (show unpack a = (false, false, false, 0, 0, 0, false) by rw [hu, ho, if_neg hm])
    rw [hm']
    clear hm hm' hu ho
    go_wp2
    exact bodyPost_ret (results_ct rfl _ _ w.heap.size 23 #[.bool false, .bool false, .bool false, .int .i64 0, .int .i64 0, .int .i64 0] (0, 0) _ rfl (blk_six hK1.out _ _ _ _ _ _) Try.underlying23 rfl (by kernel_rfl)) rfl ⟨by rw [E1.out]; rfl, below_six hB1.out (Nat.le_refl _) _ _ _ _ _ _⟩

theorem RefUnpack_way (a : Int) (hw : -9223372036854775808 ≤ a ∧ a ≤ 9223372036854775807) (w : World) :
    Calls Try.prog 13 #[.int .i64 a] w (UnpackPost a w) := by
  by_cases h0 : a = 0
  · subst h0; exact RefUnpack_zero w
  by_cases h1 : a < 0
  · exact RefUnpack_less a h1 w
  rcases Int.emod_two_eq a with h | h
  · exact RefUnpack_even a (by omega) h w
  · exact RefUnpack_odd a (by omega) hw.2 h w

/-- The reference's Unpack, in the print's form (k: no rounds here). -/
def ragpickerref01_Unpack.f (_ : Nat) (a0 : Int) : Option Parts := if -9223372036854775808 ≤ a0 ∧ a0 ≤ 9223372036854775807 then some (unpack a0) else none
theorem ragpickerref01_Unpack.mono : ∀ a0 k, LeO (ragpickerref01_Unpack.f k a0) (ragpickerref01_Unpack.f (k + 1) a0) := fun _ _ _ h => h
theorem ragpickerref01_Unpack.calls (k : Nat) (a0 : Int) (r1 : Bool) (r2 : Bool) (r3 : Bool) (r4 : Int) (r5 : Int) (r6 : Int) (r7 : Bool) (w : World) (h : ragpickerref01_Unpack.f k a0 = some (r1, r2, r3, r4, r5, r6, r7)) :
    Calls Try.prog 13 #[.int .i64 a0] w fun e w' => e = .returned (.tuple #[.agg #[.bool r1, .bool r2, .bool r3, .int .i64 r4, .int .i64 r5, .int .i64 r6], .bool r7]) ∧ Below w.heap.size w w' := by
  unfold ragpickerref01_Unpack.f at h
  by_cases hw : -9223372036854775808 ≤ a0 ∧ a0 ≤ 9223372036854775807
  · rw [if_pos hw] at h
    have h := Option.some.inj h
    refine (RefUnpack_way a0 hw w).mono ?_
    intro e w' hq
    unfold UnpackPost at hq
    rw [h] at hq
    exact hq
  · rw [if_neg hw] at h
    cases h

end Go.Proofs.Ytcnmgpalmmlghaa.Heads
