/- Package cur: what a nil Cur tells; and varint.Read; no condition. -/
import Derived.Test.YtclbmdblalgdjaaZNCur
import Derived.Test.YtclbmdblalgdjaaZNInjV
namespace Go.Proofs.Ytclbmdblalgdjaa
open Go.RowKit Go.Proofs.YtclbmdblalgdjaaW.PrintWords Go.Proofs.YtclbmdblalgdjaaW.PrintLast Go.Proofs.YtclbmdblalgdjaaW.PrintMore
set_option linter.unusedVariables false
set_option linter.unusedSimpArgs false
/-! varint.Read -/
theorem fine_cases (s : Cu) : (s.code = 0 ∧ s.fat = 0 ∧ s.fine = true) ∨ (s.code = 0 ∧ ¬ s.fat = 0 ∧ s.fine = false) ∨ (¬ s.code = 0 ∧ s.fine = false) := by
  unfold Cu.fine
  by_cases h1 : s.code = 0
  · by_cases h2 : s.fat = 0
    · exact .inl ⟨h1, h2, by simp [h1, h2]⟩
    · exact .inr (.inl ⟨h1, h2, by simp [h2]⟩)
  · exact .inr (.inr ⟨h1, by simp [h1]⟩)
set_option maxHeartbeats 2000000 in
set_option maxRecDepth 100000 in
theorem read1_calls {ok : Nat → Prop} (g gB : Nat) (s : Cu) (w : World) (h : CurAt ok g s w) (hB : w.heap[gB]? = some (.cells #[.pointer (some ⟨g, 0, none⟩)] 52 (0, 0))) (hne : gB ≠ g) :
    Calls Try.prog 93 #[.pointer (some ⟨gB, 0, none⟩)] w fun e w' => e = .returned (.tuple #[.int .u8 s.byteV, .bool (s.take 1).fine]) ∧ CurAt ok g (s.take 1) w' ∧ Chg (fun k => k = g) w w' := by
  have H := Aside0.mk h
  have cB := cell_of_one hB
  have HB := Aside0.mk hB
  clear h hB
  go_enter Try.func93, Try.ntmps93
  go_wp2_with fail
  with_reducible refine (curbyte_calls g s _ H.out).mono ?_
  rintro e w_ ⟨rfl, ⟨hc,hg⟩⟩
  have HB1 := Aside0.mk ((hg.block gB (blk_lt HB.out) hne).trans HB.out)
  go_wp2_with fail
  have HC := Aside0.mk hc
  have HG := Aside0.mk hg
  clear hc hg
  rcases fine_cases (s.take 1) with ⟨h1, h2, h3⟩ | ⟨h1, h2, h3⟩ | ⟨h1, h3⟩
  all_goals
    have H3 := Aside0.mk h3
    clear h3
    refine start_ (n := 7) (S := fun w' => w'.cell? ⟨gB, 0, none⟩ = some (.pointer (some ⟨g, 0, none⟩))) (ds := []) #[false, false, false, false, false, false, false] (by kernel_rfl) rfl rfl (cell_of_one HB1.out) (fun hHeld => ?_)
    refine pure_ (i := 0) (N := some 6) (v := ?_) (a' := ?_) #[true, false, false, false, false, false, false] rfl rfl (by kernel_rfl) (fun _ _ _ h => h) (Or.inl ⟨by rfl, ?_⟩) ?_ ?_
    rotate_left
    · intro w'
      go_simp
      with_reducible rfl
    rotate_left
    · simp only [Act.put, List.setIfInBounds_toArray, List.set_cons_zero, List.set_cons_succ, i64_w, i32_w]
      rfl
    refine pure_ (i := 3) (N := some 9) (v := ?_) (a' := ?_) #[true, false, false, true, false, false, false] rfl rfl (by kernel_rfl) (fun _ _ _ h => h) (Or.inl ⟨by rfl, ?_⟩) ?_ ?_
    rotate_left
    · intro w'
      go_simp
      with_reducible rfl
    rotate_left
    · simp only [Act.put, List.setIfInBounds_toArray, List.set_cons_zero, List.set_cons_succ, i64_w, i32_w]
      rfl
    refine take_ (i := 1) (N := some 7) (v := ?_) (a' := ?_) #[true, true, false, true, false, false, false] rfl rfl (by kernel_rfl) (fun _ _ _ h => h) (Or.inl ⟨by rfl, ?_⟩) hHeld ?_ ?_
    rotate_left
    · intro w' s0
      go_simp
      with_reducible rfl
    rotate_left
    · simp only [Act.put, List.setIfInBounds_toArray, List.set_cons_zero, List.set_cons_succ, i64_w, i32_w]
      rfl
    refine one_ (i := 2) (N := some 8) #[true, true, true, true, false, false, false] rfl rfl (by kernel_rfl) (by decide) (fun K hK => ?_)
    refine goes_ Try.func24 (by kernel_rfl) rfl #[.pointer (some ⟨g, 0, none⟩)] (by rfl) rfl rfl (by first | (simp only [List.map_toArray, List.map_cons, List.map_nil]; done) | (simp only [List.map_toArray, List.map_cons, List.map_nil]; rfl) | simp) ?_
    with_reducible refine (curfault_calls g (s.take 1) _ (HC.out.below (below_drew1 (Below.refl _ _)))).mono ?_
    rintro e w3 ⟨rfl, hb⟩
    refine ⟨_, rfl, ?_⟩
    refine hK.out _ _ (cell_of_one (blk_below (blk_drew HB1.out) hb)) (fun hHeld => ?_)
    clear hK K
    refine norm_ (a' := ?_) ?_ ?_
    rotate_left
    · show Act.put _ (some 8) _ = _
      simp only [Act.put, List.setIfInBounds_toArray, List.set_cons_zero, List.set_cons_succ, i64_w, i32_w]
      rfl
    refine pure_ (i := 4) (N := some 10) (v := ?_) (a' := ?_) #[true, true, true, true, true, false, false] rfl rfl (by kernel_rfl) (fun _ _ _ h => h) (Or.inl ⟨by rfl, ?_⟩) ?_ ?_
    rotate_left
    · intro w'
      go_simp
      with_reducible rfl
    rotate_left
    · simp only [Act.put, List.setIfInBounds_toArray, List.set_cons_zero, List.set_cons_succ, i64_w, i32_w]
      rfl
    refine pure_ (i := 5) (N := some 1) (v := ?_) (a' := ?_) #[true, true, true, true, true, true, false] rfl rfl (by kernel_rfl) (fun _ _ _ h => h) (Or.inl ⟨by rfl, ?_⟩) ?_ ?_
    rotate_left
    · intro w'
      go_simp
      with_reducible rfl
    rotate_left
    · simp only [Act.put, List.setIfInBounds_toArray, List.set_cons_zero, List.set_cons_succ, i64_w, i32_w]
      rfl
    refine pure_ (i := 6) (N := some 2) (v := ?_) (a' := ?_) #[true, true, true, true, true, true, true] rfl rfl (by kernel_rfl) (fun _ _ _ h => h) (Or.inl ⟨by rfl, ?_⟩) ?_ ?_
    rotate_left
    · intro w'
      go_simp
      with_reducible rfl
    rotate_left
    · simp only [Act.put, List.setIfInBounds_toArray, List.set_cons_zero, List.set_cons_succ, i64_w, i32_w]
      rfl
    refine done_ (by kernel_rfl) ?_
    have hcf := (HC.out.below (below_drew1 (Below.refl _ _))).below hb
    have hgf := HG.out.drew.below hb
    go_wp2
    go_ret2
    exact ⟨by rw [H3.out]; rfl, hcf, hgf⟩
theorem adv_byteV {s : Cu} (hf : s.fine = true) {i : Nat} (hi : i < (s.b.drop s.pos).length) : (s.adv i).byteV = (s.b.drop s.pos).getD i 0 := by
  rw [List.length_drop] at hi
  unfold Cu.byteV Cu.adv
  simp only
  rw [if_pos ⟨hf, by omega⟩, List.getD_eq_getElem?_getD, List.getD_eq_getElem?_getD, List.getElem?_drop]
theorem adv_take {s : Cu} (hf : s.fine = true) {i : Nat} (hi : i < (s.b.drop s.pos).length) : (s.adv i).take 1 = s.adv (i + 1) := by
  rw [List.length_drop] at hi
  have hf2 : (s.adv i).fine = true := hf
  unfold Cu.take
  rw [if_neg (by rw [hf2]; simp), if_neg (by omega), if_neg (by unfold Cu.adv; simp only; omega)]
  unfold Cu.adv
  simp [Nat.add_assoc]
theorem end_byteV {s : Cu} {i : Nat} (hi : s.b.length - s.pos ≤ i) : (s.adv i).byteV = 0 := by
  unfold Cu.byteV Cu.adv
  simp only
  rw [if_neg (by omega)]
theorem end_take {s : Cu} (hf : s.fine = true) (hle : s.pos ≤ s.b.length) : (s.adv (s.b.length - s.pos)).take 1 = (s.adv (s.b.length - s.pos)).fail 13 s.b.length := by
  have hf2 : (s.adv (s.b.length - s.pos)).fine = true := hf
  unfold Cu.take
  rw [if_neg (by rw [hf2]; simp), if_neg (by omega), if_pos (by unfold Cu.adv; simp only; omega)]
  rfl
theorem fail_fine {s : Cu} (hf : s.fine = true) {c a : Int} (hc : c ≠ 0) : (s.fail c a).fine = false := by
  unfold Cu.fail
  rw [if_pos ⟨hf, hc⟩]
  unfold Cu.fine
  simp [hc]
theorem fail_off {s : Cu} (hf : s.fine = false) (c a : Int) : s.fail c a = s := by
  unfold Cu.fail
  rw [if_neg (by rw [hf]; simp)]
theorem nf_byteV {s : Cu} (hf : s.fine = false) : s.byteV = 0 := by unfold Cu.byteV; rw [if_neg (by rw [hf]; simp)]
theorem nf_take {s : Cu} (hf : s.fine = false) (n : Int) : s.take n = s := by unfold Cu.take; rw [if_pos hf]
def Cu.vread (s : Cu) : Nat × Cu :=
  if s.fine = false then (0, s)
  else if (vrd (s.b.drop s.pos) 0 0).2.2 = 0 then ((vrd (s.b.drop s.pos) 0 0).1, s.adv (vrd (s.b.drop s.pos) 0 0).2.1)
  else if (vrd (s.b.drop s.pos) 0 0).2.2 = 13 then (0, (s.adv (s.b.length - s.pos)).fail 13 s.b.length)
  else (0, (s.adv (vrd (s.b.drop s.pos) 0 0).2.1).fail (vrd (s.b.drop s.pos) 0 0).2.2 ((s.pos : Int) + ((vrd (s.b.drop s.pos) 0 0).2.1 : Nat) - 1))
def RI (T : TypeId) (ok : Nat → Prop) (g gB : Nat) (s : Cu) (w W : World) : Prop := CurAt ok g s W ∧ W.heap[gB]? = some (.cells #[.pointer (some ⟨g, 0, none⟩)] T (0, 0)) ∧ Chg (fun k => k = g) w W
theorem RI.next {ok : Nat → Prop} {g gB : Nat} {s s' : Cu} {w W W' : World} {T : TypeId} (h : RI T ok g gB s w W) (hc : CurAt ok g s' W') (hg : Chg (fun k => k = g) W W') (hne : gB ≠ g) : RI T ok g gB s' w W' :=
  ⟨hc, (hg.block gB (blk_lt h.2.1) hne).trans h.2.1, h.2.2.trans hg (fun _ h => .inl h)⟩
theorem read_cur {ok : Nat → Prop} (g gB : Nat) (s : Cu) (w W : World) (h : RI 52 ok g gB s w W) (hne : gB ≠ g) :
    Calls Try.prog 92 #[.func (.func 93) #[] #[.pointer (some ⟨gB, 0, none⟩)]] W fun e W' => ∃ n k er s1, e = .returned (.tuple #[.int .u64 ((n : Nat) : Int), .int .i64 k, .int .i64 er]) ∧ RI 52 ok g gB s1 w W' ∧
      ((er = 0 ∧ s.vread = (n, s1)) ∨ (er ≠ 0 ∧ s.vread = (0, s1.fail er ((s1.pos : Int) - 1)))) := by
  cases hf : s.fine with
  | false =>
    have hv : s.vread = (0, s) := by unfold Cu.vread; rw [if_pos hf]
    refine (read_calls 93 _ Try.func93 rfl rfl #[.pointer (some ⟨gB, 0, none⟩)] [] (fun _ W => RI 52 ok g gB s w W) (fun W => RI 52 ok g gB s w W) ?_ ?_ (by simp) W h).mono ?_
    · intro i W _ hi
      simp at hi
    · intro W hI
      refine (read1_calls g gB s W hI.1 hI.2.1 hne).mono ?_
      rintro e W' ⟨he, hc, hg⟩
      rw [nf_byteV hf, nf_take hf, hf] at he
      rw [nf_take hf] at hc
      exact ⟨he, hI.next hc hg hne⟩
    · rintro e W' ⟨he, hend⟩
      have e1 : vrd [] 0 0 = (0, 0, 13) := by rw [vrd]
      unfold ReadEnd at hend
      rw [e1] at he hend
      rw [if_pos rfl] at hend
      exact ⟨0, 0, 13, s, he, hend, .inr ⟨by decide, by rw [hv, fail_off hf]⟩⟩
  | true =>
    obtain ⟨n, k, er, hv⟩ : ∃ n k er, vrd (s.b.drop s.pos) 0 0 = (n, k, er) := ⟨_, _, _, rfl⟩
    have hle := h.1.le
    refine (read_calls 93 _ Try.func93 rfl rfl #[.pointer (some ⟨gB, 0, none⟩)] (s.b.drop s.pos) (fun i W => RI 52 ok g gB (s.adv i) w W) (fun W => RI 52 ok g gB ((s.adv (s.b.length - s.pos)).fail 13 s.b.length) w W) ?_ ?_ (fun x hx => h.1.bytes x (List.mem_of_mem_drop hx)) W h).mono ?_
    · intro i W hI hi
      refine (read1_calls g gB (s.adv i) W hI.1 hI.2.1 hne).mono ?_
      rintro e W' ⟨he, hc, hg⟩
      rw [adv_byteV hf hi, adv_take hf hi, show (s.adv (i + 1)).fine = true from hf] at he
      rw [adv_take hf hi] at hc
      exact ⟨he, hI.next hc hg hne⟩
    · intro W hI
      rw [List.length_drop] at hI
      refine (read1_calls g gB (s.adv (s.b.length - s.pos)) W hI.1 hI.2.1 hne).mono ?_
      rintro e W' ⟨he, hc, hg⟩
      rw [end_byteV (Nat.le_refl _), end_take hf hle, fail_fine (show (s.adv (s.b.length - s.pos)).fine = true from hf) (by decide)] at he
      rw [end_take hf hle] at hc
      exact ⟨he, hI.next hc hg hne⟩
    · rintro e W' ⟨he, hend⟩
      unfold ReadEnd at hend
      rw [hv] at he hend
      simp only at he hend
      have hvr : s.vread = if er = 0 then (n, s.adv k) else if er = 13 then (0, (s.adv (s.b.length - s.pos)).fail 13 s.b.length) else (0, (s.adv k).fail er ((s.pos : Int) + (k : Nat) - 1)) := by
        unfold Cu.vread
        rw [if_neg (by rw [hf]; simp), hv]
      by_cases h0 : er = 0
      · subst h0
        rw [if_neg (by decide)] at hend
        exact ⟨n, k, 0, s.adv k, he, hend, .inl ⟨rfl, by rw [hvr, if_pos rfl]⟩⟩
      · by_cases h13 : er = 13
        · subst h13
          rw [if_pos rfl] at hend
          refine ⟨n, k, 13, _, he, hend, .inr ⟨by decide, ?_⟩⟩
          rw [hvr, if_neg (by decide), if_pos rfl, fail_off (fail_fine (show (s.adv (s.b.length - s.pos)).fine = true from hf) (by decide))]
        · rw [if_neg h13] at hend
          refine ⟨n, k, er, s.adv k, he, hend, .inr ⟨h0, ?_⟩⟩
          rw [hvr, if_neg h0, if_neg h13]
          rfl
set_option maxHeartbeats 2000000 in
set_option maxRecDepth 100000 in
theorem vread_calls {ok : Nat → Prop} (g : Nat) (s : Cu) (w : World) (h : CurAt ok g s w) : Calls Try.prog 51 #[.pointer (some ⟨g, 0, none⟩)] w fun e w' => e = .returned (.int .u64 (s.vread.1 : Nat)) ∧ CurAt ok g s.vread.2 w' ∧ Chg (fun k => k = g) w w' := by
  have hlt := h.lt
  have hne : w.heap.size ≠ g := by omega
  have HR := Aside0.mk (read_cur (ok := ok) g w.heap.size s w (w.alloc (.cells #[.pointer (some ⟨g, 0, none⟩)] 52)) ⟨h.below (below_alloc (Below.refl _ _) _), blk_new _ _, (Chg.refl _ _).alloc _⟩ hne)
  clear h
  go_enter Try.func51, Try.ntmps51
  go_wp2_with fail
  refine HR.out.mono ?_
  rintro e w1 ⟨n, k, er, s1, rfl, hI, hcase⟩
  obtain ⟨hI1, hI2, hI3⟩ := hI
  have HC1 := Aside0.mk hI1
  have HB1 := Aside0.mk hI2
  have HG1 := Aside0.mk hI3
  have c1 := cell_of_one hI2
  clear hI1 hI2 hI3
  rcases hcase with ⟨rfl, hv⟩ | ⟨he, hv⟩
  · have HV := Aside0.mk hv
    clear hv
    go_wp2
    repeat (go_quiet (fail); try go_wp2)
    go_ret
    exact ⟨by rw [HV.out]; rfl, by rw [HV.out]; exact HC1.out, HG1.out⟩
  · have HV := Aside0.mk hv
    have hb1 : (er != 0) = true := bne_iff_ne.mpr he
    have hb2 : (er == 0) = false := beq_eq_false_iff_ne.mpr he
    clear hv he
    have hpos : s1.pos ≤ 140737488355328 := Nat.le_trans HC1.out.le HC1.out.big
    have HQ5 := Aside0.mk (show wrap64 ((s1.pos : Int) - 1) = (s1.pos : Int) - 1 from IntWalk.wrap64_in _ (by omega))
    go_wp2_with fail
    refine start_ (n := 6) (S := fun w' => w'.cell? ⟨w.heap.size, 0, none⟩ = some (.pointer (some ⟨g, 0, none⟩))) (ds := []) #[false, false, false, false, false, false] (by kernel_rfl) rfl rfl (cell_of_one HB1.out) (fun hHeld => ?_)
    refine pure_ (i := 1) (N := some 15) (v := ?_) (a' := ?_) #[false, true, false, false, false, false] rfl rfl (by kernel_rfl) (fun _ _ _ h => h) (Or.inl ⟨by rfl, ?_⟩) ?_ ?_
    rotate_left
    · intro w'
      go_simp
      with_reducible rfl
    rotate_left
    · simp only [Act.put, List.setIfInBounds_toArray, List.set_cons_zero, List.set_cons_succ, i64_w, i32_w]
      rfl
    refine take_ (i := 0) (N := some 14) (v := ?_) (a' := ?_) #[true, true, false, false, false, false] rfl rfl (by kernel_rfl) (fun _ _ _ h => h) (Or.inl ⟨by rfl, ?_⟩) hHeld ?_ ?_
    rotate_left
    · intro w' s0
      go_simp
      with_reducible rfl
    rotate_left
    · simp only [Act.put, List.setIfInBounds_toArray, List.set_cons_zero, List.set_cons_succ, i64_w, i32_w]
      rfl
    refine take_ (i := 2) (N := some 16) (v := ?_) (a' := ?_) #[true, true, true, false, false, false] rfl rfl (by kernel_rfl) (fun _ _ _ h => h) (Or.inl ⟨by rfl, ?_⟩) hHeld ?_ ?_
    rotate_left
    · intro w' s0
      go_simp
      with_reducible rfl
    rotate_left
    · simp only [Act.put, List.setIfInBounds_toArray, List.set_cons_zero, List.set_cons_succ, i64_w, i32_w]
      rfl
    refine one_ (i := 3) (N := some 17) #[true, true, true, true, false, false] rfl rfl (by kernel_rfl) (by decide) (fun K hK => ?_)
    refine goes_ Try.func25 (by kernel_rfl) rfl #[.pointer (some ⟨g, 0, none⟩)] (by rfl) rfl rfl (by first | (simp only [List.map_toArray, List.map_cons, List.map_nil]; done) | (simp only [List.map_toArray, List.map_cons, List.map_nil]; rfl) | simp) ?_
    with_reducible refine (curat_calls g s1 _ (HC1.out.below (below_drew1 (Below.refl _ _)))).mono ?_
    rintro e w3 ⟨rfl, ⟨nd3, rfl⟩⟩
    refine ⟨_, rfl, ?_⟩
    refine hK.out _ _ (cell_of_one HB1.out) (fun hHeld => ?_)
    clear hK K
    refine norm_ (a' := ?_) ?_ ?_
    rotate_left
    · show Act.put _ (some 17) _ = _
      simp only [Act.put, List.setIfInBounds_toArray, List.set_cons_zero, List.set_cons_succ, i64_w, i32_w]
      rfl
    refine pure_ (i := 4) (N := some 18) (v := ?_) (a' := ?_) #[true, true, true, true, true, false] rfl rfl (by kernel_rfl) (fun _ _ _ h => h) (Or.inl ⟨by rfl, ?_⟩) ?_ ?_
    rotate_left
    · intro w'
      go_simp
      with_reducible rfl
    rotate_left
    · simp only [Act.put, List.setIfInBounds_toArray, List.set_cons_zero, List.set_cons_succ, i64_w, i32_w]
      rfl
    refine one_ (i := 5) (N := some 19) #[true, true, true, true, true, true] rfl rfl (by kernel_rfl) (by decide) (fun K hK => ?_)
    refine goes_ Try.func54 (by kernel_rfl) rfl #[.pointer (some ⟨g, 0, none⟩), .int .i64 er, .int .i64 (wrap64 ((s1.pos : Int) - 1))] (by rfl) rfl rfl (by first | (simp only [List.map_toArray, List.map_cons, List.map_nil]; done) | (simp only [List.map_toArray, List.map_cons, List.map_nil]; rfl) | simp) ?_
    with_reducible refine (curfail_calls g s1 er (wrap64 ((s1.pos : Int) - 1)) _ ((HC1.out.below (below_drew1 (Below.refl _ _))).drewN nd3)).mono ?_
    rintro e w4 ⟨rfl, hc, hg⟩
    refine ⟨_, rfl, ?_⟩
    refine hK.out _ _ (cell_of_one ((hg.block _ (blk_lt (blk_drewN (blk_drew HB1.out) nd3)) hne).trans HB1.out)) (fun hHeld => ?_)
    clear hK K
    refine norm_ (a' := ?_) ?_ ?_
    rotate_left
    · show Act.put _ (some 19) _ = _
      simp only [Act.put, List.setIfInBounds_toArray, List.set_cons_zero, List.set_cons_succ, i64_w, i32_w]
      rfl
    refine done_ (by kernel_rfl) ?_
    go_wp2
    go_ret
    rw [HQ5.out] at hc
    exact ⟨by rw [HV.out]; rfl, by rw [HV.out]; exact hc, (HG1.out.drew.drewN nd3).trans hg (fun _ h => .inl h)⟩
end Go.Proofs.Ytclbmdblalgdjaa
