/- Package metric: the parts of Check; no condition. -/
import Derived.Test.YtclbmdblalgdjaaZMMet
import Derived.Laws.EntriesVeiled
namespace Go.Proofs.Ytclbmdblalgdjaa
open Go.RowKit Go.Proofs.YtclbmdblalgdjaaW.PrintWords Go.Proofs.YtclbmdblalgdjaaW.PrintLast Go.Proofs.YtclbmdblalgdjaaW.PrintMore Go.Proofs.Ytclbmdblalgdjaa.PE
set_option linter.unusedVariables false
set_option linter.unusedSimpArgs false
theorem MetC.alloc {m : MetS} {Av At : Option Addr} {cv ct : Nat} {w : World} (h : MetC m Av cv At ct w) (o : Obj) : MetC m Av cv At ct (w.alloc o) := h.below (below_alloc (Below.refl _ _) _)
section
attribute [local go_sem high] eqFault
set_option maxHeartbeats 4000000 in
set_option maxRecDepth 100000 in
theorem lookname_calls (m : MetS) (Av : Option Addr) (cv : Nat) (At : Option Addr) (ct : Nat) (w : World) (hm : MetC m Av cv At ct w) : Calls Try.prog 81 #[.agg #[.string m.f0, .int .i64 m.f1, .slice Av m.f2.length cv, .int .i64 m.f3, .slice At m.f4.length ct, .int .i64 m.f5]] w fun e w' => e = .returned (.bool (metPart m 0)) ∧ Below w.heap.size w w' := by
 have HB := Aside0.mk (below_alloc (Below.refl w.heap.size w) (.cells #[.string m.f0, .int .i64 m.f1, .slice Av m.f2.length cv, .int .i64 m.f3, .slice At m.f4.length ct, .int .i64 m.f5] 131 (0, 0)))
 have HN := Aside0.mk (fun w : World => text_calls 1 m.f0 1 200 w hm.wn)
 have HE := Aside0.mk (show metPart m 0 = ((textW 1 m.f0 1 200).1 == 0 && ((textW 1 m.f0 1 200).2 == 0)) from rfl)
 clear hm
 generalize (textW 1 m.f0 1 200).1 = a at HN HE
 generalize (textW 1 m.f0 1 200).2 = b at HN HE
 go_enter Try.func81, Try.ntmps81
 go_wp2_with fail
 refine (HN.out _).mono ?_
 rintro e w1 ⟨rfl, hb⟩
 go_wp2
 go_ret
 exact ⟨by rw [HE.out]; rfl, below_step HB.out hb⟩
end
set_option maxHeartbeats 4000000 in
set_option maxRecDepth 100000 in
theorem lookkind_calls (m : MetS) (Av : Option Addr) (cv : Nat) (At : Option Addr) (ct : Nat) (w : World) (hm : MetC m Av cv At ct w) : Calls Try.prog 82 #[.agg #[.string m.f0, .int .i64 m.f1, .slice Av m.f2.length cv, .int .i64 m.f3, .slice At m.f4.length ct, .int .i64 m.f5]] w fun e w' => e = .returned (.bool (metPart m 1)) ∧ Below w.heap.size w w' := by
 have HB := Aside0.mk (below_alloc (Below.refl w.heap.size w) (.cells #[.string m.f0, .int .i64 m.f1, .slice Av m.f2.length cv, .int .i64 m.f3, .slice At m.f4.length ct, .int .i64 m.f5] 131 (0, 0)))
 have HE := Aside0.mk (show metPart m 1 = betB m.f1 1 5 from rfl)
 clear hm
 go_enter Try.func82, Try.ntmps82
 go_wp2_with fail
 with_reducible refine Calls.stepEq (mbet_calls m.f1 1 5 _) ?_
 go_wp2
 go_ret
 exact ⟨by rw [HE.out]; rfl, HB.out⟩
set_option maxHeartbeats 4000000 in
set_option maxRecDepth 100000 in
theorem looktime_calls (m : MetS) (Av : Option Addr) (cv : Nat) (At : Option Addr) (ct : Nat) (w : World) (hm : MetC m Av cv At ct w) : Calls Try.prog 86 #[.agg #[.string m.f0, .int .i64 m.f1, .slice Av m.f2.length cv, .int .i64 m.f3, .slice At m.f4.length ct, .int .i64 m.f5]] w fun e w' => e = .returned (.bool (metPart m 5)) ∧ Below w.heap.size w w' := by
 have HB := Aside0.mk (below_alloc (Below.refl w.heap.size w) (.cells #[.string m.f0, .int .i64 m.f1, .slice Av m.f2.length cv, .int .i64 m.f3, .slice At m.f4.length ct, .int .i64 m.f5] 131 (0, 0)))
 have HE := Aside0.mk (show metPart m 5 = betB m.f5 0 1099511627776 from rfl)
 clear hm
 go_enter Try.func86, Try.ntmps86
 go_wp2_with fail
 with_reducible refine Calls.stepEq (mbet_calls m.f5 0 1099511627776 _) ?_
 go_wp2
 go_ret
 exact ⟨by rw [HE.out]; rfl, HB.out⟩
set_option maxHeartbeats 4000000 in
set_option maxRecDepth 100000 in
theorem lookvalues_calls (m : MetS) (Av : Option Addr) (cv : Nat) (At : Option Addr) (ct : Nat) (w : World) (hm : MetC m Av cv At ct w) : Calls Try.prog 83 #[.agg #[.string m.f0, .int .i64 m.f1, .slice Av m.f2.length cv, .int .i64 m.f3, .slice At m.f4.length ct, .int .i64 m.f5]] w fun e w' => e = .returned (.bool (metPart m 2)) ∧ Below w.heap.size w w' := by
 have HB := Aside0.mk (below_alloc (Below.refl w.heap.size w) (.cells #[.string m.f0, .int .i64 m.f1, .slice Av m.f2.length cv, .int .i64 m.f3, .slice At m.f4.length ct, .int .i64 m.f5] 131 (0, 0)))
 have HE := Aside0.mk (show metPart m 2 = (betB m.f2.length 1 64 && !(m.f2.any decW)) from rfl)
 have HC := Aside0.mk (MetC.alloc hm (.cells #[.string m.f0, .int .i64 m.f1, .slice Av m.f2.length cv, .int .i64 m.f3, .slice At m.f4.length ct, .int .i64 m.f5] 131 (0, 0))).v
 have HW := Aside0.mk hm.wv
 clear hm
 cases hb : betB m.f2.length 1 64 with
 | false =>
  have HK := Aside0.mk hb
  clear hb
  go_enter Try.func83, Try.ntmps83
  go_wp2_with fail
  with_reducible refine Calls.stepEq (mbet_calls m.f2.length 1 64 _) ?_
  rw [HK.out]
  go_wp2
  go_ret
  exact ⟨by rw [HE.out, HK.out]; rfl, HB.out⟩
 | true =>
  have HK := Aside0.mk hb
  clear hb
  go_enter Try.func83, Try.ntmps83
  go_wp2_with fail
  with_reducible refine Calls.stepEq (mbet_calls m.f2.length 1 64 _) ?_
  rw [HK.out]
  go_wp2_with fail
  refine (vhas_calls m.f2 Av cv _ HC.out HW.out).mono ?_
  rintro e w1 ⟨rfl, hb⟩
  go_wp2
  go_ret
  exact ⟨by rw [HE.out, HK.out]; rfl, below_step HB.out hb⟩
set_option maxHeartbeats 4000000 in
set_option maxRecDepth 100000 in
theorem looktags_calls (m : MetS) (Av : Option Addr) (cv : Nat) (At : Option Addr) (ct : Nat) (w : World) (hm : MetC m Av cv At ct w) : Calls Try.prog 85 #[.agg #[.string m.f0, .int .i64 m.f1, .slice Av m.f2.length cv, .int .i64 m.f3, .slice At m.f4.length ct, .int .i64 m.f5]] w fun e w' => e = .returned (.bool (metPart m 4)) ∧ Below w.heap.size w w' := by
 have HB := Aside0.mk (below_alloc (Below.refl w.heap.size w) (.cells #[.string m.f0, .int .i64 m.f1, .slice Av m.f2.length cv, .int .i64 m.f3, .slice At m.f4.length ct, .int .i64 m.f5] 131 (0, 0)))
 have HE := Aside0.mk (show metPart m 4 = (decide ((m.f4.length : Int) ≤ 32) && !(m.f4.any tagW)) from rfl)
 have HC := Aside0.mk (MetC.alloc hm (.cells #[.string m.f0, .int .i64 m.f1, .slice Av m.f2.length cv, .int .i64 m.f3, .slice At m.f4.length ct, .int .i64 m.f5] 131 (0, 0))).t
 have HW := Aside0.mk hm.wt
 clear hm
 by_cases hl : (m.f4.length : Int) ≤ 32
 ·have hd : decide ((m.f4.length : Int) ≤ 32) = true := decide_eq_true hl
  have hd2 : decide (m.f4.length ≤ 32) = true := decide_eq_true (by omega)
  have HK := Aside0.mk hd
  clear hl
  go_enter Try.func85, Try.ntmps85
  go_wp2_with fail
  refine (thas_calls m.f4 At ct _ HC.out HW.out).mono ?_
  rintro e w1 ⟨rfl, hb⟩
  go_wp2
  go_ret
  exact ⟨by rw [HE.out, HK.out]; rfl, below_step HB.out hb⟩
 ·have hd : decide ((m.f4.length : Int) ≤ 32) = false := decide_eq_false hl
  have hd2 : decide (m.f4.length ≤ 32) = false := decide_eq_false (by omega)
  have HK := Aside0.mk hd
  clear hl
  go_enter Try.func85, Try.ntmps85
  go_wp2
  go_ret
  exact ⟨by rw [HE.out, HK.out]; rfl, HB.out⟩
set_option maxHeartbeats 4000000 in
set_option maxRecDepth 100000 in
theorem lookrate_calls (m : MetS) (Av : Option Addr) (cv : Nat) (At : Option Addr) (ct : Nat) (w : World) (hm : MetC m Av cv At ct w) : Calls Try.prog 84 #[.agg #[.string m.f0, .int .i64 m.f1, .slice Av m.f2.length cv, .int .i64 m.f3, .slice At m.f4.length ct, .int .i64 m.f5]] w fun e w' => e = .returned (.bool (metPart m 3)) ∧ Below w.heap.size w w' := by
 have HB := Aside0.mk (below_alloc (Below.refl w.heap.size w) (.cells #[.string m.f0, .int .i64 m.f1, .slice Av m.f2.length cv, .int .i64 m.f3, .slice At m.f4.length ct, .int .i64 m.f5] 131 (0, 0)))
 have HE := Aside0.mk (show metPart m 3 = (betB m.f3 1 1000000 && (m.f1 != 2 || m.f3 == 1000000)) from rfl)
 clear hm
 cases hb : betB m.f3 1 1000000 with
 | false =>
  have HK := Aside0.mk hb
  clear hb
  go_enter Try.func84, Try.ntmps84
  go_wp2_with fail
  with_reducible refine Calls.stepEq (mbet_calls m.f3 1 1000000 _) ?_
  rw [HK.out]
  go_wp2
  go_ret
  exact ⟨by rw [HE.out, HK.out]; rfl, HB.out⟩
 | true =>
  have HK := Aside0.mk hb
  clear hb
  cases hk : (m.f1 != 2) with
  | true =>
   have HQ := Aside0.mk hk
   go_enter Try.func84, Try.ntmps84
   go_wp2_with fail
   with_reducible refine Calls.stepEq (mbet_calls m.f3 1 1000000 _) ?_
   rw [HK.out]
   go_wp2
   go_ret
   exact ⟨by rw [HE.out, HK.out, HQ.out]; rfl, HB.out⟩
  | false =>
   have HQ := Aside0.mk hk
   go_enter Try.func84, Try.ntmps84
   go_wp2_with fail
   with_reducible refine Calls.stepEq (mbet_calls m.f3 1 1000000 _) ?_
   rw [HK.out]
   go_wp2
   go_ret
   exact ⟨by rw [HE.out, HK.out, HQ.out]; rfl, HB.out⟩
theorem chk0 (m : MetS) (Av : Option Addr) (cv : Nat) (At : Option Addr) (ct : Nat) (W : World) : (Instr.index 133 (.agg #[.func (.func 81) #[.agg #[.string m.f0, .int .i64 m.f1, .slice Av m.f2.length cv, .int .i64 m.f3, .slice At m.f4.length ct, .int .i64 m.f5]] #[], .int .i64 15, .func (.func 82) #[.agg #[.string m.f0, .int .i64 m.f1, .slice Av m.f2.length cv, .int .i64 m.f3, .slice At m.f4.length ct, .int .i64 m.f5]] #[], .int .i64 16, .func (.func 83) #[.agg #[.string m.f0, .int .i64 m.f1, .slice Av m.f2.length cv, .int .i64 m.f3, .slice At m.f4.length ct, .int .i64 m.f5]] #[], .int .i64 17, .func (.func 84) #[.agg #[.string m.f0, .int .i64 m.f1, .slice Av m.f2.length cv, .int .i64 m.f3, .slice At m.f4.length ct, .int .i64 m.f5]] #[], .int .i64 18, .func (.func 85) #[.agg #[.string m.f0, .int .i64 m.f1, .slice Av m.f2.length cv, .int .i64 m.f3, .slice At m.f4.length ct, .int .i64 m.f5]] #[], .int .i64 19, .func (.func 86) #[.agg #[.string m.f0, .int .i64 m.f1, .slice Av m.f2.length cv, .int .i64 m.f3, .slice At m.f4.length ct, .int .i64 m.f5]] #[], .int .i64 20]) (.int .i64 0)).run Try.prog W = .ok (.agg #[.func (.func 81) #[.agg #[.string m.f0, .int .i64 m.f1, .slice Av m.f2.length cv, .int .i64 m.f3, .slice At m.f4.length ct, .int .i64 m.f5]] #[], .int .i64 15]) W := by kernel_rfl
theorem chk1 (m : MetS) (Av : Option Addr) (cv : Nat) (At : Option Addr) (ct : Nat) (W : World) : (Instr.index 133 (.agg #[.func (.func 81) #[.agg #[.string m.f0, .int .i64 m.f1, .slice Av m.f2.length cv, .int .i64 m.f3, .slice At m.f4.length ct, .int .i64 m.f5]] #[], .int .i64 15, .func (.func 82) #[.agg #[.string m.f0, .int .i64 m.f1, .slice Av m.f2.length cv, .int .i64 m.f3, .slice At m.f4.length ct, .int .i64 m.f5]] #[], .int .i64 16, .func (.func 83) #[.agg #[.string m.f0, .int .i64 m.f1, .slice Av m.f2.length cv, .int .i64 m.f3, .slice At m.f4.length ct, .int .i64 m.f5]] #[], .int .i64 17, .func (.func 84) #[.agg #[.string m.f0, .int .i64 m.f1, .slice Av m.f2.length cv, .int .i64 m.f3, .slice At m.f4.length ct, .int .i64 m.f5]] #[], .int .i64 18, .func (.func 85) #[.agg #[.string m.f0, .int .i64 m.f1, .slice Av m.f2.length cv, .int .i64 m.f3, .slice At m.f4.length ct, .int .i64 m.f5]] #[], .int .i64 19, .func (.func 86) #[.agg #[.string m.f0, .int .i64 m.f1, .slice Av m.f2.length cv, .int .i64 m.f3, .slice At m.f4.length ct, .int .i64 m.f5]] #[], .int .i64 20]) (.int .i64 1)).run Try.prog W = .ok (.agg #[.func (.func 82) #[.agg #[.string m.f0, .int .i64 m.f1, .slice Av m.f2.length cv, .int .i64 m.f3, .slice At m.f4.length ct, .int .i64 m.f5]] #[], .int .i64 16]) W := by kernel_rfl
theorem chk2 (m : MetS) (Av : Option Addr) (cv : Nat) (At : Option Addr) (ct : Nat) (W : World) : (Instr.index 133 (.agg #[.func (.func 81) #[.agg #[.string m.f0, .int .i64 m.f1, .slice Av m.f2.length cv, .int .i64 m.f3, .slice At m.f4.length ct, .int .i64 m.f5]] #[], .int .i64 15, .func (.func 82) #[.agg #[.string m.f0, .int .i64 m.f1, .slice Av m.f2.length cv, .int .i64 m.f3, .slice At m.f4.length ct, .int .i64 m.f5]] #[], .int .i64 16, .func (.func 83) #[.agg #[.string m.f0, .int .i64 m.f1, .slice Av m.f2.length cv, .int .i64 m.f3, .slice At m.f4.length ct, .int .i64 m.f5]] #[], .int .i64 17, .func (.func 84) #[.agg #[.string m.f0, .int .i64 m.f1, .slice Av m.f2.length cv, .int .i64 m.f3, .slice At m.f4.length ct, .int .i64 m.f5]] #[], .int .i64 18, .func (.func 85) #[.agg #[.string m.f0, .int .i64 m.f1, .slice Av m.f2.length cv, .int .i64 m.f3, .slice At m.f4.length ct, .int .i64 m.f5]] #[], .int .i64 19, .func (.func 86) #[.agg #[.string m.f0, .int .i64 m.f1, .slice Av m.f2.length cv, .int .i64 m.f3, .slice At m.f4.length ct, .int .i64 m.f5]] #[], .int .i64 20]) (.int .i64 2)).run Try.prog W = .ok (.agg #[.func (.func 83) #[.agg #[.string m.f0, .int .i64 m.f1, .slice Av m.f2.length cv, .int .i64 m.f3, .slice At m.f4.length ct, .int .i64 m.f5]] #[], .int .i64 17]) W := by kernel_rfl
theorem chk3 (m : MetS) (Av : Option Addr) (cv : Nat) (At : Option Addr) (ct : Nat) (W : World) : (Instr.index 133 (.agg #[.func (.func 81) #[.agg #[.string m.f0, .int .i64 m.f1, .slice Av m.f2.length cv, .int .i64 m.f3, .slice At m.f4.length ct, .int .i64 m.f5]] #[], .int .i64 15, .func (.func 82) #[.agg #[.string m.f0, .int .i64 m.f1, .slice Av m.f2.length cv, .int .i64 m.f3, .slice At m.f4.length ct, .int .i64 m.f5]] #[], .int .i64 16, .func (.func 83) #[.agg #[.string m.f0, .int .i64 m.f1, .slice Av m.f2.length cv, .int .i64 m.f3, .slice At m.f4.length ct, .int .i64 m.f5]] #[], .int .i64 17, .func (.func 84) #[.agg #[.string m.f0, .int .i64 m.f1, .slice Av m.f2.length cv, .int .i64 m.f3, .slice At m.f4.length ct, .int .i64 m.f5]] #[], .int .i64 18, .func (.func 85) #[.agg #[.string m.f0, .int .i64 m.f1, .slice Av m.f2.length cv, .int .i64 m.f3, .slice At m.f4.length ct, .int .i64 m.f5]] #[], .int .i64 19, .func (.func 86) #[.agg #[.string m.f0, .int .i64 m.f1, .slice Av m.f2.length cv, .int .i64 m.f3, .slice At m.f4.length ct, .int .i64 m.f5]] #[], .int .i64 20]) (.int .i64 3)).run Try.prog W = .ok (.agg #[.func (.func 84) #[.agg #[.string m.f0, .int .i64 m.f1, .slice Av m.f2.length cv, .int .i64 m.f3, .slice At m.f4.length ct, .int .i64 m.f5]] #[], .int .i64 18]) W := by kernel_rfl
theorem chk4 (m : MetS) (Av : Option Addr) (cv : Nat) (At : Option Addr) (ct : Nat) (W : World) : (Instr.index 133 (.agg #[.func (.func 81) #[.agg #[.string m.f0, .int .i64 m.f1, .slice Av m.f2.length cv, .int .i64 m.f3, .slice At m.f4.length ct, .int .i64 m.f5]] #[], .int .i64 15, .func (.func 82) #[.agg #[.string m.f0, .int .i64 m.f1, .slice Av m.f2.length cv, .int .i64 m.f3, .slice At m.f4.length ct, .int .i64 m.f5]] #[], .int .i64 16, .func (.func 83) #[.agg #[.string m.f0, .int .i64 m.f1, .slice Av m.f2.length cv, .int .i64 m.f3, .slice At m.f4.length ct, .int .i64 m.f5]] #[], .int .i64 17, .func (.func 84) #[.agg #[.string m.f0, .int .i64 m.f1, .slice Av m.f2.length cv, .int .i64 m.f3, .slice At m.f4.length ct, .int .i64 m.f5]] #[], .int .i64 18, .func (.func 85) #[.agg #[.string m.f0, .int .i64 m.f1, .slice Av m.f2.length cv, .int .i64 m.f3, .slice At m.f4.length ct, .int .i64 m.f5]] #[], .int .i64 19, .func (.func 86) #[.agg #[.string m.f0, .int .i64 m.f1, .slice Av m.f2.length cv, .int .i64 m.f3, .slice At m.f4.length ct, .int .i64 m.f5]] #[], .int .i64 20]) (.int .i64 4)).run Try.prog W = .ok (.agg #[.func (.func 85) #[.agg #[.string m.f0, .int .i64 m.f1, .slice Av m.f2.length cv, .int .i64 m.f3, .slice At m.f4.length ct, .int .i64 m.f5]] #[], .int .i64 19]) W := by kernel_rfl
theorem chk5 (m : MetS) (Av : Option Addr) (cv : Nat) (At : Option Addr) (ct : Nat) (W : World) : (Instr.index 133 (.agg #[.func (.func 81) #[.agg #[.string m.f0, .int .i64 m.f1, .slice Av m.f2.length cv, .int .i64 m.f3, .slice At m.f4.length ct, .int .i64 m.f5]] #[], .int .i64 15, .func (.func 82) #[.agg #[.string m.f0, .int .i64 m.f1, .slice Av m.f2.length cv, .int .i64 m.f3, .slice At m.f4.length ct, .int .i64 m.f5]] #[], .int .i64 16, .func (.func 83) #[.agg #[.string m.f0, .int .i64 m.f1, .slice Av m.f2.length cv, .int .i64 m.f3, .slice At m.f4.length ct, .int .i64 m.f5]] #[], .int .i64 17, .func (.func 84) #[.agg #[.string m.f0, .int .i64 m.f1, .slice Av m.f2.length cv, .int .i64 m.f3, .slice At m.f4.length ct, .int .i64 m.f5]] #[], .int .i64 18, .func (.func 85) #[.agg #[.string m.f0, .int .i64 m.f1, .slice Av m.f2.length cv, .int .i64 m.f3, .slice At m.f4.length ct, .int .i64 m.f5]] #[], .int .i64 19, .func (.func 86) #[.agg #[.string m.f0, .int .i64 m.f1, .slice Av m.f2.length cv, .int .i64 m.f3, .slice At m.f4.length ct, .int .i64 m.f5]] #[], .int .i64 20]) (.int .i64 5)).run Try.prog W = .ok (.agg #[.func (.func 86) #[.agg #[.string m.f0, .int .i64 m.f1, .slice Av m.f2.length cv, .int .i64 m.f3, .slice At m.f4.length ct, .int .i64 m.f5]] #[], .int .i64 20]) W := by kernel_rfl
set_option maxHeartbeats 8000000 in
set_option maxRecDepth 100000 in
theorem mcheck_calls (m : MetS) (Av : Option Addr) (cv : Nat) (At : Option Addr) (ct : Nat) (w : World) (hm : MetC m Av cv At ct w) : Calls Try.prog 37 #[.agg #[.string m.f0, .int .i64 m.f1, .slice Av m.f2.length cv, .int .i64 m.f3, .slice At m.f4.length ct, .int .i64 m.f5]] w fun e w' => e = .returned (.int .i64 (metBad m)) ∧ Below w.heap.size w w' := by
 have HM := Aside0.mk hm
 clear hm
 go_enter Try.func37, Try.ntmps37
 go_wp2
 go_loopw [27] (fun v27 w' => ∃ x : Nat, v27 = .int .i64 (x : Int) ∧ x ≤ 6 ∧ Aside0 (∀ j, j < x → metPart m j = true) ∧ Aside0 (Below w.heap.size w w')) (fun v27 _ => 6 - (intOf v27).toNat)
 case atStart => exact ⟨0, rfl, by omega, ⟨fun j hj => absurd hj (by omega)⟩, ⟨by with_reducible repeat (first | exact Below.refl _ _ | apply below_alloc | apply pw_below_drewN | apply below_drew1 | refine Below.setCell ?_ (by simp) _)⟩⟩
 case round =>
  obtain ⟨x, rfl, hx, HP, HB⟩ := hrel
  rcases (show x = 0 ∨ x = 1 ∨ x = 2 ∨ x = 3 ∨ x = 4 ∨ x = 5 ∨ x = 6 by omega) with rfl | rfl | rfl | rfl | rfl | rfl | rfl
  ·clear hx
   have hi := chk0 m Av cv At ct
   have HM2 := Aside0.mk (MetC.alloc (MetC.below HM.out HB.out) (.cells #[.func (.func 81) #[.agg #[.string m.f0, .int .i64 m.f1, .slice Av m.f2.length cv, .int .i64 m.f3, .slice At m.f4.length ct, .int .i64 m.f5]] #[], .int .i64 15] 132 (0, 0)))
   have HB2 := Aside0.mk (below_alloc HB.out (.cells #[.func (.func 81) #[.agg #[.string m.f0, .int .i64 m.f1, .slice Av m.f2.length cv, .int .i64 m.f3, .slice At m.f4.length ct, .int .i64 m.f5]] #[], .int .i64 15] 132 (0, 0)))
   have HX := Aside0.mk (blk_new wr (.cells #[.func (.func 81) #[.agg #[.string m.f0, .int .i64 m.f1, .slice Av m.f2.length cv, .int .i64 m.f3, .slice At m.f4.length ct, .int .i64 m.f5]] #[], .int .i64 15] 132 (0, 0)))
   go_wp2_with fail
   with_reducible refine (lookname_calls m Av cv At ct _ HM2.out).mono ?_
   rintro e w1 ⟨rfl, hb⟩
   have HB3 := Aside0.mk (below_step HB2.out hb)
   have hc1 : w1.cell? ⟨wr.heap.size, 1, none⟩ = some (.int .i64 15) := (blk_cell (blk_below HX.out hb) 1).trans rfl
   clear hb HM2 HB2 HX hi
   cases hp : metPart m 0 with
   | false =>
    have HE := Aside0.mk (metBad_at m 0 (by omega) HP.out hp)
    clear hp
    go_wp2
    go_ret
    exact ⟨by rw [HE.out]; rfl, HB3.out⟩
   | true =>
    have HP2 := Aside0.mk (show ∀ j, j < 1 → metPart m j = true from fun j hj => by
     rcases Nat.lt_or_eq_of_le (Nat.le_of_lt_succ hj) with h | h
     ·exact HP.out j h
     ·rw [h]; exact hp)
    clear hp
    go_wp2
    go_roundw
    case rel => exact ⟨1, by go_num, by omega, HP2, HB3⟩
    case measure => simp [intOf]
  ·clear hx
   have hi := chk1 m Av cv At ct
   have HM2 := Aside0.mk (MetC.alloc (MetC.below HM.out HB.out) (.cells #[.func (.func 82) #[.agg #[.string m.f0, .int .i64 m.f1, .slice Av m.f2.length cv, .int .i64 m.f3, .slice At m.f4.length ct, .int .i64 m.f5]] #[], .int .i64 16] 132 (0, 0)))
   have HB2 := Aside0.mk (below_alloc HB.out (.cells #[.func (.func 82) #[.agg #[.string m.f0, .int .i64 m.f1, .slice Av m.f2.length cv, .int .i64 m.f3, .slice At m.f4.length ct, .int .i64 m.f5]] #[], .int .i64 16] 132 (0, 0)))
   have HX := Aside0.mk (blk_new wr (.cells #[.func (.func 82) #[.agg #[.string m.f0, .int .i64 m.f1, .slice Av m.f2.length cv, .int .i64 m.f3, .slice At m.f4.length ct, .int .i64 m.f5]] #[], .int .i64 16] 132 (0, 0)))
   go_wp2_with fail
   with_reducible refine (lookkind_calls m Av cv At ct _ HM2.out).mono ?_
   rintro e w1 ⟨rfl, hb⟩
   have HB3 := Aside0.mk (below_step HB2.out hb)
   have hc1 : w1.cell? ⟨wr.heap.size, 1, none⟩ = some (.int .i64 16) := (blk_cell (blk_below HX.out hb) 1).trans rfl
   clear hb HM2 HB2 HX hi
   cases hp : metPart m 1 with
   | false =>
    have HE := Aside0.mk (metBad_at m 1 (by omega) HP.out hp)
    clear hp
    go_wp2
    go_ret
    exact ⟨by rw [HE.out]; rfl, HB3.out⟩
   | true =>
    have HP2 := Aside0.mk (show ∀ j, j < 2 → metPart m j = true from fun j hj => by
     rcases Nat.lt_or_eq_of_le (Nat.le_of_lt_succ hj) with h | h
     ·exact HP.out j h
     ·rw [h]; exact hp)
    clear hp
    go_wp2
    go_roundw
    case rel => exact ⟨2, by go_num, by omega, HP2, HB3⟩
    case measure => simp [intOf]
  ·clear hx
   have hi := chk2 m Av cv At ct
   have HM2 := Aside0.mk (MetC.alloc (MetC.below HM.out HB.out) (.cells #[.func (.func 83) #[.agg #[.string m.f0, .int .i64 m.f1, .slice Av m.f2.length cv, .int .i64 m.f3, .slice At m.f4.length ct, .int .i64 m.f5]] #[], .int .i64 17] 132 (0, 0)))
   have HB2 := Aside0.mk (below_alloc HB.out (.cells #[.func (.func 83) #[.agg #[.string m.f0, .int .i64 m.f1, .slice Av m.f2.length cv, .int .i64 m.f3, .slice At m.f4.length ct, .int .i64 m.f5]] #[], .int .i64 17] 132 (0, 0)))
   have HX := Aside0.mk (blk_new wr (.cells #[.func (.func 83) #[.agg #[.string m.f0, .int .i64 m.f1, .slice Av m.f2.length cv, .int .i64 m.f3, .slice At m.f4.length ct, .int .i64 m.f5]] #[], .int .i64 17] 132 (0, 0)))
   go_wp2_with fail
   with_reducible refine (lookvalues_calls m Av cv At ct _ HM2.out).mono ?_
   rintro e w1 ⟨rfl, hb⟩
   have HB3 := Aside0.mk (below_step HB2.out hb)
   have hc1 : w1.cell? ⟨wr.heap.size, 1, none⟩ = some (.int .i64 17) := (blk_cell (blk_below HX.out hb) 1).trans rfl
   clear hb HM2 HB2 HX hi
   cases hp : metPart m 2 with
   | false =>
    have HE := Aside0.mk (metBad_at m 2 (by omega) HP.out hp)
    clear hp
    go_wp2
    go_ret
    exact ⟨by rw [HE.out]; rfl, HB3.out⟩
   | true =>
    have HP2 := Aside0.mk (show ∀ j, j < 3 → metPart m j = true from fun j hj => by
     rcases Nat.lt_or_eq_of_le (Nat.le_of_lt_succ hj) with h | h
     ·exact HP.out j h
     ·rw [h]; exact hp)
    clear hp
    go_wp2
    go_roundw
    case rel => exact ⟨3, by go_num, by omega, HP2, HB3⟩
    case measure => simp [intOf]
  ·clear hx
   have hi := chk3 m Av cv At ct
   have HM2 := Aside0.mk (MetC.alloc (MetC.below HM.out HB.out) (.cells #[.func (.func 84) #[.agg #[.string m.f0, .int .i64 m.f1, .slice Av m.f2.length cv, .int .i64 m.f3, .slice At m.f4.length ct, .int .i64 m.f5]] #[], .int .i64 18] 132 (0, 0)))
   have HB2 := Aside0.mk (below_alloc HB.out (.cells #[.func (.func 84) #[.agg #[.string m.f0, .int .i64 m.f1, .slice Av m.f2.length cv, .int .i64 m.f3, .slice At m.f4.length ct, .int .i64 m.f5]] #[], .int .i64 18] 132 (0, 0)))
   have HX := Aside0.mk (blk_new wr (.cells #[.func (.func 84) #[.agg #[.string m.f0, .int .i64 m.f1, .slice Av m.f2.length cv, .int .i64 m.f3, .slice At m.f4.length ct, .int .i64 m.f5]] #[], .int .i64 18] 132 (0, 0)))
   go_wp2_with fail
   with_reducible refine (lookrate_calls m Av cv At ct _ HM2.out).mono ?_
   rintro e w1 ⟨rfl, hb⟩
   have HB3 := Aside0.mk (below_step HB2.out hb)
   have hc1 : w1.cell? ⟨wr.heap.size, 1, none⟩ = some (.int .i64 18) := (blk_cell (blk_below HX.out hb) 1).trans rfl
   clear hb HM2 HB2 HX hi
   cases hp : metPart m 3 with
   | false =>
    have HE := Aside0.mk (metBad_at m 3 (by omega) HP.out hp)
    clear hp
    go_wp2
    go_ret
    exact ⟨by rw [HE.out]; rfl, HB3.out⟩
   | true =>
    have HP2 := Aside0.mk (show ∀ j, j < 4 → metPart m j = true from fun j hj => by
     rcases Nat.lt_or_eq_of_le (Nat.le_of_lt_succ hj) with h | h
     ·exact HP.out j h
     ·rw [h]; exact hp)
    clear hp
    go_wp2
    go_roundw
    case rel => exact ⟨4, by go_num, by omega, HP2, HB3⟩
    case measure => simp [intOf]
  ·clear hx
   have hi := chk4 m Av cv At ct
   have HM2 := Aside0.mk (MetC.alloc (MetC.below HM.out HB.out) (.cells #[.func (.func 85) #[.agg #[.string m.f0, .int .i64 m.f1, .slice Av m.f2.length cv, .int .i64 m.f3, .slice At m.f4.length ct, .int .i64 m.f5]] #[], .int .i64 19] 132 (0, 0)))
   have HB2 := Aside0.mk (below_alloc HB.out (.cells #[.func (.func 85) #[.agg #[.string m.f0, .int .i64 m.f1, .slice Av m.f2.length cv, .int .i64 m.f3, .slice At m.f4.length ct, .int .i64 m.f5]] #[], .int .i64 19] 132 (0, 0)))
   have HX := Aside0.mk (blk_new wr (.cells #[.func (.func 85) #[.agg #[.string m.f0, .int .i64 m.f1, .slice Av m.f2.length cv, .int .i64 m.f3, .slice At m.f4.length ct, .int .i64 m.f5]] #[], .int .i64 19] 132 (0, 0)))
   go_wp2_with fail
   with_reducible refine (looktags_calls m Av cv At ct _ HM2.out).mono ?_
   rintro e w1 ⟨rfl, hb⟩
   have HB3 := Aside0.mk (below_step HB2.out hb)
   have hc1 : w1.cell? ⟨wr.heap.size, 1, none⟩ = some (.int .i64 19) := (blk_cell (blk_below HX.out hb) 1).trans rfl
   clear hb HM2 HB2 HX hi
   cases hp : metPart m 4 with
   | false =>
    have HE := Aside0.mk (metBad_at m 4 (by omega) HP.out hp)
    clear hp
    go_wp2
    go_ret
    exact ⟨by rw [HE.out]; rfl, HB3.out⟩
   | true =>
    have HP2 := Aside0.mk (show ∀ j, j < 5 → metPart m j = true from fun j hj => by
     rcases Nat.lt_or_eq_of_le (Nat.le_of_lt_succ hj) with h | h
     ·exact HP.out j h
     ·rw [h]; exact hp)
    clear hp
    go_wp2
    go_roundw
    case rel => exact ⟨5, by go_num, by omega, HP2, HB3⟩
    case measure => simp [intOf]
  ·clear hx
   have hi := chk5 m Av cv At ct
   have HM2 := Aside0.mk (MetC.alloc (MetC.below HM.out HB.out) (.cells #[.func (.func 86) #[.agg #[.string m.f0, .int .i64 m.f1, .slice Av m.f2.length cv, .int .i64 m.f3, .slice At m.f4.length ct, .int .i64 m.f5]] #[], .int .i64 20] 132 (0, 0)))
   have HB2 := Aside0.mk (below_alloc HB.out (.cells #[.func (.func 86) #[.agg #[.string m.f0, .int .i64 m.f1, .slice Av m.f2.length cv, .int .i64 m.f3, .slice At m.f4.length ct, .int .i64 m.f5]] #[], .int .i64 20] 132 (0, 0)))
   have HX := Aside0.mk (blk_new wr (.cells #[.func (.func 86) #[.agg #[.string m.f0, .int .i64 m.f1, .slice Av m.f2.length cv, .int .i64 m.f3, .slice At m.f4.length ct, .int .i64 m.f5]] #[], .int .i64 20] 132 (0, 0)))
   go_wp2_with fail
   with_reducible refine (looktime_calls m Av cv At ct _ HM2.out).mono ?_
   rintro e w1 ⟨rfl, hb⟩
   have HB3 := Aside0.mk (below_step HB2.out hb)
   have hc1 : w1.cell? ⟨wr.heap.size, 1, none⟩ = some (.int .i64 20) := (blk_cell (blk_below HX.out hb) 1).trans rfl
   clear hb HM2 HB2 HX hi
   cases hp : metPart m 5 with
   | false =>
    have HE := Aside0.mk (metBad_at m 5 (by omega) HP.out hp)
    clear hp
    go_wp2
    go_ret
    exact ⟨by rw [HE.out]; rfl, HB3.out⟩
   | true =>
    have HP2 := Aside0.mk (show ∀ j, j < 6 → metPart m j = true from fun j hj => by
     rcases Nat.lt_or_eq_of_le (Nat.le_of_lt_succ hj) with h | h
     ·exact HP.out j h
     ·rw [h]; exact hp)
    clear hp
    go_wp2
    go_roundw
    case rel => exact ⟨6, by go_num, by omega, HP2, HB3⟩
    case measure => simp [intOf]
  ·have HE := Aside0.mk (metBad_ok m HP.out)
   clear hx
   go_wp2
   go_ret
   exact ⟨by rw [HE.out]; rfl, HB.out⟩
end Go.Proofs.Ytclbmdblalgdjaa
