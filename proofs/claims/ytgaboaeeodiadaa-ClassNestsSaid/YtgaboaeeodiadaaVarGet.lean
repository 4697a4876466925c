/- varint.Get, Zig, Zag: what they tell; no condition. -/
import Derived.Test.YtgaboaeeodiadaaVar
namespace Go.Proofs.Ytgaboaeeodiadaa
open Go.RowKit Go.Proofs.YtgaboaeeodiadaaW.PrintWords Go.Proofs.YtgaboaeeodiadaaW.PrintLast Go.Proofs.YtgaboaeeodiadaaW.PrintMore
set_option linter.unusedVariables false

theorem getD_rd (l : List Int) (i : Nat) : l.getD i 0 = rd l (i : Int) := by unfold rd; rw [Int.toNat_natCast]

set_option maxHeartbeats 1000000 in
set_option maxRecDepth 100000 in
theorem get1_yes (gA gB : Nat) (A : Option Addr) (c : Nat) (l : List Int) (i : Nat) (W : World) (hA : W.heap[gA]? = some (.cells #[.int .i64 i] 3 (0, 0))) (hB : W.heap[gB]? = some (.cells #[.slice A l.length c] 22 (0, 0)))
    (hne : gA ≠ gB) (hC : (Kd.int .u8).C W A l.length l) (hCA : ∀ ad, A = some ad → ad.block ≠ gA) (hi : i < l.length) :
    Calls Try.prog 43 #[.pointer (some ⟨gA, 0, none⟩), .pointer (some ⟨gB, 0, none⟩)] W fun e W' => e = .returned (.tuple #[.int .u8 (l.getD i 0), .bool true]) ∧ Drawn0 (W.setCell ⟨gA, 0, none⟩ (.int .i64 ((i : Int) + 1))) W' := by
  have cA := cell_of_one hA
  have fA := free_of_one hA
  have cB := cell_of_one hB
  have hm0 : l.length ≤ 9223372036854775807 := hC.2.1
  rw [getD_rd]
  obtain ⟨ad, e, hx⟩ := Kd.at_int hC (i : Int) (by omega) (by omega)
  cases e
  have hne2 := hCA ad rfl
  have HX := Aside0.mk hx
  have c2 : (W.setCell ⟨gA, 0, none⟩ (.int .i64 ((i : Int) + 1))).cell? (ad.add i) = some (.int .u8 (rd l i)) := by
    have h := hx
    rw [Int.toNat_natCast] at h
    rw [← h]
    exact World.cell?_setCell_other _ _ _ _ (fun e => hne2 ((add_block ad i).symm.trans (congrArg Addr.block e).symm))
  go_enter Try.func43, Try.ntmps43
  go_wp2
  repeat (go_quiet (fail); try go_wp2)
  go_ret2
  exact ⟨rfl, by repeat (first | exact Drawn0.refl _ | apply Drawn0.step)⟩

set_option maxHeartbeats 1000000 in
set_option maxRecDepth 100000 in
theorem get1_no (gA gB : Nat) (A : Option Addr) (c : Nat) (n i : Nat) (W : World) (hA : W.heap[gA]? = some (.cells #[.int .i64 i] 3 (0, 0))) (hB : W.heap[gB]? = some (.cells #[.slice A n c] 22 (0, 0)))
    (hi : n ≤ i) :
    Calls Try.prog 43 #[.pointer (some ⟨gA, 0, none⟩), .pointer (some ⟨gB, 0, none⟩)] W fun e W' => e = .returned (.tuple #[.int .u8 0, .bool false]) ∧ Drawn0 W W' := by
  have cA := cell_of_one hA
  have fA := free_of_one hA
  have cB := cell_of_one hB
  go_enter Try.func43, Try.ntmps43
  go_wp2
  repeat (go_quiet (fail); try go_wp2)
  go_ret2
  exact ⟨rfl, by repeat (first | exact Drawn0.refl _ | apply Drawn0.step)⟩

set_option maxHeartbeats 1000000 in
set_option maxRecDepth 100000 in
theorem get_calls (A : Option Addr) (c : Nat) (l : List Int) (w : World) (hC : (Kd.int .u8).C w A l.length l)  (hl : ∀ x ∈ l, 0 ≤ x ∧ x < 256) :
    Calls Try.prog 16 #[.slice A l.length c] w fun e w' => e = .returned (.tuple #[.int .u64 ((vget l).1 : Nat), .int .i64 ((vget l).2.1 : Nat), .int .i64 (vget l).2.2]) ∧ Below w.heap.size w w' := by
  have HI : ∀ i W, W.heap[w.heap.size + 1]? = some (.cells #[.int .i64 (i : Nat)] 3 (0, 0)) ∧ W.heap[w.heap.size]? = some (.cells #[.slice A l.length c] 22 (0, 0)) ∧ Below w.heap.size w W → i < l.length →
      Calls Try.prog 43 #[.pointer (some ⟨w.heap.size + 1, 0, none⟩), .pointer (some ⟨w.heap.size, 0, none⟩)] W fun e W' => e = .returned (.tuple #[.int .u8 (l.getD i 0), .bool true]) ∧ (W'.heap[w.heap.size + 1]? = some (.cells #[.int .i64 ((i + 1 : Nat) : Int)] 3 (0, 0)) ∧ W'.heap[w.heap.size]? = some (.cells #[.slice A l.length c] 22 (0, 0)) ∧ Below w.heap.size w W') := by
    rintro i W ⟨h1, h2, h3⟩ hi
    refine (get1_yes (w.heap.size + 1) w.heap.size A c l i W h1 h2 (by omega) (Kd.C_below hC h3) (fun ad e => by have := C_blk hC (by omega) ad e; omega) hi).mono ?_
    rintro e W' ⟨he, ⟨nd, rfl⟩⟩
    refine ⟨he, ?_, ?_, ?_⟩
    · exact one_setCell h1
    · exact blk_far h2 (by simp) _
    · exact pw_below_drewN (h3.setCell (by simp) _) nd
  have HJ : ∀ W, W.heap[w.heap.size + 1]? = some (.cells #[.int .i64 (l.length : Nat)] 3 (0, 0)) ∧ W.heap[w.heap.size]? = some (.cells #[.slice A l.length c] 22 (0, 0)) ∧ Below w.heap.size w W →
      Calls Try.prog 43 #[.pointer (some ⟨w.heap.size + 1, 0, none⟩), .pointer (some ⟨w.heap.size, 0, none⟩)] W fun e W' => e = .returned (.tuple #[.int .u8 0, .bool false]) ∧ Below w.heap.size w W' := by
    rintro W ⟨h1, h2, h3⟩
    refine (get1_no (w.heap.size + 1) w.heap.size A c l.length l.length W h1 h2 (Nat.le_refl _)).mono ?_
    rintro e W' ⟨he, ⟨nd, rfl⟩⟩
    exact ⟨he, pw_below_drewN h3 nd⟩
  have HS : (((w.alloc (.cells #[.slice A l.length c] 22)).alloc (.cells #[.int .i64 0] 3)).heap[w.heap.size + 1]? = some (.cells #[.int .i64 ((0 : Nat) : Int)] 3 (0, 0)) ∧ ((w.alloc (.cells #[.slice A l.length c] 22)).alloc (.cells #[.int .i64 0] 3)).heap[w.heap.size]? = some (.cells #[.slice A l.length c] 22 (0, 0)) ∧ Below w.heap.size w ((w.alloc (.cells #[.slice A l.length c] 22)).alloc (.cells #[.int .i64 0] 3))) :=
    ⟨by have := blk_new (w.alloc (.cells #[.slice A l.length c] 22)) (.cells #[.int .i64 0] 3); simpa using this, blk_alloc (blk_new _ _) _, below_alloc (below_alloc (Below.refl _ _) _) _⟩
  have HR := Aside0.mk (read_calls 43 _ Try.func43 rfl rfl #[.pointer (some ⟨w.heap.size + 1, 0, none⟩), .pointer (some ⟨w.heap.size, 0, none⟩)] l _ _ HI HJ hl _ HS)
  clear HI HJ HS hC hl
  have hb : ReadEnd l (fun i W => W.heap[w.heap.size + 1]? = some (.cells #[.int .i64 (i : Nat)] 3 (0, 0)) ∧ W.heap[w.heap.size]? = some (.cells #[.slice A l.length c] 22 (0, 0)) ∧ Below w.heap.size w W) (fun W => Below w.heap.size w W) w → True := fun _ => trivial
  clear hb
  obtain ⟨n, k, er, hv⟩ : ∃ n k er, vrd l 0 0 = (n, k, er) := ⟨_, _, _, rfl⟩
  have HV := Aside0.mk hv
  clear hv
  by_cases h0 : er = 0
  · have hz1 : (er == 0) = true := beq_iff_eq.mpr h0
    have hz2 : (er != 0) = false := bne_eq_false_iff_eq.mpr h0
    have H0 := Aside0.mk h0
    clear h0
    go_enter Try.func16, Try.ntmps16
    go_wp2_with (first | (go_at_call 42; go_must (refine HR.out.mono ?_); rintro e w1 ⟨rfl, hend⟩; have HE := Aside0.mk hend; clear hend; simp only [HV.out]))
    go_ret3
    refine ⟨?_, ?_⟩
    · unfold vget; rw [HV.out, if_pos H0.out, H0.out]; rfl
    · have h := HE.out
      unfold ReadEnd at h
      split at h
      · exact h
      · exact h.2.2
  · have hz1 : (er == 0) = false := beq_eq_false_iff_ne.mpr h0
    have hz2 : (er != 0) = true := bne_iff_ne.mpr h0
    have H0 := Aside0.mk h0
    clear h0
    go_enter Try.func16, Try.ntmps16
    go_wp2_with (first | (go_at_call 42; go_must (refine HR.out.mono ?_); rintro e w1 ⟨rfl, hend⟩; have HE := Aside0.mk hend; clear hend; simp only [HV.out]))
    go_ret3
    refine ⟨?_, ?_⟩
    · unfold vget; rw [HV.out, if_neg H0.out]; rfl
    · have h := HE.out
      unfold ReadEnd at h
      split at h
      · exact h
      · exact h.2.2
theorem get_n (A : Option Addr) (n c : Nat) (l : List Int) (w : World) (hC : (Kd.int .u8).C w A n l) (hl : ∀ x ∈ l, 0 ≤ x ∧ x < 256) :
    Calls Try.prog 16 #[.slice A n c] w fun e w' => e = .returned (.tuple #[.int .u64 ((vget l).1 : Nat), .int .i64 ((vget l).2.1 : Nat), .int .i64 (vget l).2.2]) ∧ Below w.heap.size w w' := by
  obtain rfl := hC.1
  exact get_calls A c l w hC hl
end Go.Proofs.Ytgaboaeeodiadaa
