/- ChunkCovers: each byte that was asked is in just one frame, or left, in order: its walk; no condition. -/
import Derived.Test.YtmbfjaogimkncaaCov19
import Derived.Test.YtmbfjaogimkncaaLawKit
import Derived.Test.YtmbfjaogimkncaaRows
namespace Go.Proofs.Ytmbfjaogimkncaa
open Go.RowKit Go.Proofs.YtmbfjaogimkncaaW.PrintWords Go.Proofs.YtmbfjaogimkncaaW.PrintLast Go.Proofs.YtmbfjaogimkncaaW.PrintMore
open PChunkFeeds (S40 S42 S45 k40 k42 k45 rd_T42 rd_T45)
set_option linter.unusedVariables false
set_option linter.unusedSimpArgs false
theorem whole_few' (most : Int) (b : List Int) : (wholeM most b).length ≤ b.length + 1 := by
  unfold wholeM
  rw [List.length_append]
  have h1 := frun_few most b ⟨0, [], 0, false⟩
  have h2 : (clos (frun most ⟨0, [], 0, false⟩ b).1).length ≤ 1 := by
    unfold clos
    split
    · exact Nat.zero_le _
    · exact Nat.le_refl _
  omega
attribute [local go_sem high] eq19
set_option maxHeartbeats 4000000 in
set_option maxRecDepth 100000 in
theorem chunkCovers_walk (A0 : Option Addr) (c0 : Nat) (b : List Int) (A1 : Option Addr) (c1 : Nat) (cuts : List Int) (most : Int) (w : World)
    (hC0 : (Kd.int .u8).C w A0 b.length b) (hwf0 : ∀ x ∈ b, (Lit.int .u8 x).wf = true) (hsz0 : b.length * 1 ≤ 140737488351232) (hcap0 : b.length ≤ c0)
    (hC1 : (Kd.int .i64).C w A1 cuts.length cuts) (hwf1 : ∀ x ∈ cuts, (Lit.int .i64 x).wf = true) (hsz1 : cuts.length * 8 ≤ 140737488351232) (hcap1 : cuts.length ≤ c1)
    (hmb : -9223372036854775808 ≤ most ∧ most ≤ 9223372036854775807) :
    Calls Try.prog 5 #[.slice A0 b.length c0, .slice A1 cuts.length c1, .int .i64 most] w fun e w' => e = .returned (.bool true) ∧ Below w.heap.size w w' := by
  have HBY := Aside0.mk (bytes_of_wf hwf0)
  obtain ⟨n, hn⟩ : ∃ n, b.length = n := ⟨_, rfl⟩
  obtain ⟨m, hm⟩ : ∃ m, cuts.length = m := ⟨_, rfl⟩
  rw [hn] at hC0 hcap0
  rw [hm] at hC1 hcap1
  rw [hn, hm]
  have HC0 := Aside0.mk hC0
  have HC1 := Aside0.mk hC1
  have HN := Aside0.mk hn
  have HM := Aside0.mk hm
  clear hwf0 hwf1 hsz0 hsz1 hC0 hC1 hn hm
  rcases (show 800 < n ∨ (¬ 800 < n ∧ 100 < m) ∨ (¬ 800 < n ∧ ¬ 100 < m ∧ most < 1) ∨ (¬ 800 < n ∧ ¬ 100 < m ∧ ¬ most < 1 ∧ 1048576 < most) ∨ (¬ 800 < n ∧ ¬ 100 < m ∧ ¬ most < 1 ∧ ¬ 1048576 < most) by omega) with h8 | ⟨h8, h1⟩ | ⟨h8, h1, hq1⟩ | ⟨h8, h1, hq1, hq2⟩ | ⟨h8, h1, hq1, hq2⟩
  · go_enter Try.func5, Try.ntmps5
    go_wp2_with fail
    with_reducible refine (awake19_calls _).mono ?_
    rintro e w1 ⟨rfl, hb⟩
    go_wp2
    go_ret
    exact ⟨rfl, hb⟩
  · go_enter Try.func5, Try.ntmps5
    go_wp2_with fail
    with_reducible refine (awake19_calls _).mono ?_
    rintro e w1 ⟨rfl, hb⟩
    go_wp2
    go_ret
    exact ⟨rfl, hb⟩
  · go_enter Try.func5, Try.ntmps5
    go_wp2_with fail
    with_reducible refine (awake19_calls _).mono ?_
    rintro e w1 ⟨rfl, hb⟩
    go_wp2
    go_ret
    exact ⟨rfl, hb⟩
  · go_enter Try.func5, Try.ntmps5
    go_wp2_with fail
    with_reducible refine (awake19_calls _).mono ?_
    rintro e w1 ⟨rfl, hb⟩
    go_wp2
    go_ret
    exact ⟨rfl, hb⟩
  · have HW := Aside0.mk (whole_calls A0 n c0 b A1 m c1 cuts most w HN.out HM.out HC0.out hcap0 HC1.out hcap1 HBY.out (by omega) h1 hq1 hq2)
    have hch := whole_chain most (by omega) (by omega) b (fun y hy => (HBY.out y hy).1)
    have hwf := whole_few' most b
    have hps := frun_pos' most b ⟨0, [], 0, false⟩
    rw [HN.out] at hps hwf
    obtain ⟨ps, hpq⟩ : ∃ ps, (frun most ⟨0, [], 0, false⟩ b).1.pos = ps := ⟨_, rfl⟩
    rw [hpq] at hps HW hch
    have hpn : ps ≤ n := by have h3 : ps ≤ 0 + n := hps; omega
    obtain ⟨ws, hws⟩ : ∃ ws, wholeM most b = ws := ⟨_, rfl⟩
    rw [hws] at HW hch hwf
    obtain ⟨Wl, hWl⟩ : ∃ k, ws.length = k := ⟨_, rfl⟩
    rw [hWl] at HW hwf
    have HCH := Aside0.mk hch.1
    have HLA := Aside0.mk hch.2
    have HWL := Aside0.mk hWl
    have hwm := w64 (most + 10) (by omega)
    have HWM := Aside0.mk hwm
    clear hps hpq hws hWl hch hwm
    go_enter Try.func5, Try.ntmps5
    go_wp2_with fail
    with_reducible refine HW.out.mono ?_
    clear HW
    rintro e w4 ⟨Ax, cx, Fx, rfl, hcx, hrx, hfx, hb4⟩
    have HB4 := Aside0.mk hb4
    have HCX := Aside0.mk (R_reads19 hrx).2.2
    clear hrx hb4 hfx
    go_wp2
    go_loopw [10, 11] (fun v10 v11 w' => ∃ p i : Nat, v10 = .int .i64 (p : Int) ∧ v11 = .int .i64 (i : Int) ∧ i ≤ Wl ∧ Aside0 (Chain most b p (ws.drop i) ps) ∧ Aside0 (Below w4.heap.size w4 w')) (fun v10 v11 _ => Wl - (intOf v11).toNat)
    case atStart => exact ⟨0, 0, rfl, rfl, Nat.zero_le _, ⟨HCH.out⟩, ⟨Below.refl _ _⟩⟩
    case round =>
      clear HCH
      obtain ⟨p, i, rfl, rfl, hi, HC, HB⟩ := hrel
      by_cases hin : i < Wl
      · have hix : i < ws.length := by rw [HWL.out]; exact hin
        have hdr : ws.drop i = ws[i] :: ws.drop (i + 1) := List.drop_eq_getElem_cons hix
        have hcc := HC.out
        rw [hdr] at hcc
        obtain ⟨q, hcov, hnext⟩ := hcc
        obtain ⟨x, hx⟩ : ∃ x, ws[i]? = some x := ⟨_, List.getElem?_eq_getElem hix⟩
        have hxe : ws[i] = x := by rw [List.getElem?_eq_getElem hix] at hx; injection hx
        rw [hxe] at hcov
        have hlast : (ws.drop (i + 1)).isEmpty = true → i + 1 = Wl := by
          intro h
          have h2 := List.isEmpty_iff.1 h
          have h3 := congrArg List.length h2
          rw [List.length_drop, HWL.out, List.length_nil] at h3
          omega
        obtain ⟨ad, A2, k2, e0, p0, p1, p2, p3, p4, pl, pC⟩ := at19 (Kd.C_below HCX.out (HB.out)) i x hx
        obtain ⟨lo, hi', by', code, at'⟩ := x
        obtain ⟨rfl, rfl, hpq, hqb, hrest⟩ := hcov
        rw [HN.out] at hqb
        obtain ⟨Lb, hLb⟩ : ∃ L, by'.length = L := ⟨_, rfl⟩
        have p0' : wr.cell? (ad.add (i * 5)) = some (.int .i64 (p : Int)) := p0
        have p1' : wr.cell? ⟨(ad.add (i * 5)).block, (ad.add (i * 5)).off + 1, none⟩ = some (.int .i64 (q : Int)) := p1
        have p2' : wr.cell? ⟨(ad.add (i * 5)).block, (ad.add (i * 5)).off + 2, none⟩ = some (.slice A2 Lb k2) := by rw [← hLb]; exact p2
        have p3' : wr.cell? ⟨(ad.add (i * 5)).block, (ad.add (i * 5)).off + 3, none⟩ = some (.int .i64 code) := p3
        have p4' : wr.cell? ⟨(ad.add (i * 5)).block, (ad.add (i * 5)).off + 4, none⟩ = some (.int .i64 at') := p4
        have PC : Aside0 ((Kd.int .u8).C wr A2 Lb by' ∧ Lb ≤ k2) := ⟨by rw [← hLb]; exact ⟨pC, pl⟩⟩
        obtain ⟨l, hl⟩ : ∃ l, (b.take q).drop p = l := ⟨_, rfl⟩
        have hll : l.length = q - p := by rw [← hl, List.length_drop, List.length_take, HN.out]; omega
        have hlb : ∀ y ∈ l, 0 ≤ y ∧ y < 256 := fun y hy => HBY.out y (by rw [← hl] at hy; exact List.mem_of_mem_take (List.mem_of_mem_drop hy))
        have hcw : Below w.heap.size w wr := below_step HB4.out HB.out
        have hcl : ∀ W, Below w.heap.size w W → (Kd.int .u8).C W (Option.map (fun x => x.add p) A0) (q - p) l := by
          intro W hW
          have h2 := C_cut (Kd.C_below HC0.out hW) p (q - p) c0 (by omega) hcap0
          rw [if_neg (by omega)] at h2
          have e1 : (b.drop p).take (q - p) = l := by rw [← hl, show q = p + (q - p) by omega, cut_eq]; congr 1; omega
          rw [e1] at h2
          exact h2
        rw [hl] at hrest
        have HBW := Aside0.mk hcw
        have HCL := Aside0.mk hcl
        have HLL := Aside0.mk hll
        have HLB := Aside0.mk hlb
        have HNX := Aside0.mk hnext
        have HRE := Aside0.mk hrest
        have HLS := Aside0.mk hlast
        have HLBL := Aside0.mk hLb
        have hin1 : (i : Int) < (Wl : Int) := by omega
        have hd1 : decide ((q : Int) ≤ (p : Int)) = false := decide_eq_false (by omega)
        have hd2 : decide ((n : Int) < (q : Int)) = false := decide_eq_false (by omega)
        have hb1 : (p : Int) ≤ (q : Int) := by omega
        have hb2 : (q : Int) ≤ (c0 : Int) := by omega
        have hb3 : ¬ c0 = p := by omega
        have hw1b : -1000000000000000 ≤ (q : Int) - (p : Int) ∧ (q : Int) - (p : Int) ≤ 1000000000000000 := by omega
        have HW1 := Aside0.mk (w64 _ hw1b)
        obtain ⟨hdm, hhd⟩ : ∃ r, hdH l = r := ⟨_, rfl⟩
        have HHD := Aside0.mk hhd
        obtain ⟨hm, hc, hf⟩ := hdm
        have hHC : ∀ W, Below w.heap.size w W → Calls Try.prog 26 #[.slice (Option.map (fun x => x.add p) A0) (q - p) (c0 - p)] W fun e w' => e = .returned (.tuple #[.int .i64 hm, .agg #[.int .i64 hc, .int .i64 hf]]) ∧ Below W.heap.size W w' := by
          intro W hW
          have h2 := fHead_calls (Option.map (fun x => x.add p) A0) (c0 - p) l (q - p) hll W (hcl W hW) hlb
          rw [hhd] at h2
          exact h2
        have HHC := Aside0.mk (hHC (wr.alloc (.cells #[.int .i64 (p : Int), .int .i64 (q : Int), .slice A2 Lb k2, .int .i64 code, .int .i64 at'] 42)) (below_alloc hcw _))
        have HX := Aside0.mk (blk_new wr (.cells #[.int .i64 (p : Int), .int .i64 (q : Int), .slice A2 Lb k2, .int .i64 code, .int .i64 at'] 42))
        have hxx := HX.out
        have m0 := (blk_cell hxx 0).trans rfl
        have m1 := (blk_cell hxx 1).trans rfl
        have m2 := (blk_cell hxx 2).trans rfl
        have m3 := (blk_cell hxx 3).trans rfl
        have m4 := (blk_cell hxx 4).trans rfl
        subst e0
        clear p0 p1 p2 p3 p4 pl pC hl hll hlb hcw hcl hnext hrest hlast hLb hhd hHC hix hdr hx hxe hxx hw1b
        go_wp2_with fail
        with_reducible refine HHC.out.mono ?_
        clear HHC
        rintro e w5 ⟨rfl, hb5⟩
        have hx5 := blk_alloc (blk_below HX.out hb5) (.cells #[.int .i64 hc, .int .i64 hf] 40)
        have HX5 := Aside0.mk hx5
        have y1 := (blk_cell hx5 1).trans rfl
        have y2 := (blk_cell hx5 2).trans rfl
        have y3 := (blk_cell hx5 3).trans rfl
        have y4 := (blk_cell hx5 4).trans rfl
        have hy5 := blk_new w5 (.cells #[.int .i64 hc, .int .i64 hf] 40)
        have u0 := (blk_cell hy5 0).trans rfl
        have u1 := (blk_cell hy5 1).trans rfl
        have HB5 := Aside0.mk (below_step (below_alloc HB.out (.cells #[.int .i64 (p : Int), .int .i64 (q : Int), .slice A2 Lb k2, .int .i64 code, .int .i64 at'] 42)) hb5)
        have HB6 := Aside0.mk (below_alloc (below_step (below_alloc HB.out (.cells #[.int .i64 (p : Int), .int .i64 (q : Int), .slice A2 Lb k2, .int .i64 code, .int .i64 at'] 42)) hb5) (.cells #[.int .i64 hc, .int .i64 hf] 40))
        have HBW6 := Aside0.mk (below_alloc (below_step (below_alloc HBW.out (.cells #[.int .i64 (p : Int), .int .i64 (q : Int), .slice A2 Lb k2, .int .i64 code, .int .i64 at'] 42)) hb5) (.cells #[.int .i64 hc, .int .i64 hf] 40))
        have PC6 : Aside0 ((Kd.int .u8).C (w5.alloc (.cells #[.int .i64 hc, .int .i64 hf] 40)) A2 Lb by') := ⟨Kd.C_alloc (Kd.C_below (Kd.C_alloc PC.out.1 (.cells #[.int .i64 (p : Int), .int .i64 (q : Int), .slice A2 Lb k2, .int .i64 code, .int .i64 at'] 42)) hb5) _⟩
        have PK := Aside0.mk PC.out.2
        have hlt5 : wr.heap.size < w5.heap.size := blk_lt (blk_below HX.out hb5)
        have hne5 : w5.heap.size ≠ wr.heap.size := by omega
        have hne6 : wr.heap.size ≠ w5.heap.size := by omega
        clear hb5 m0 m1 m2 m3 m4 p0' p1' p2' p3' p4' hx5 hy5 HX PC HBW
        have hw1 := HW1.out
        have hw2 : IntKind.i64.wrap ((q : Int) - (p : Int)) = (q : Int) - p := (i64_w _).trans hw1
        have hwm := HWM.out
        have hwm2 : IntKind.i64.wrap (most + 10) = most + 10 := (i64_w _).trans hwm
        rcases HRE.out with ⟨rfl, rfl, hby, hhh, hmo⟩ | ⟨hc0, hlst, hby, hat, h13, hel⟩
        · have hhd2 := HHD.out
          rw [hhh] at hhd2
          injection hhd2 with hm1 hhd2
          injection hhd2 with hm2 hm3
          subst hm1 hm2 hm3
          have hLq : Lb = q - p := by rw [← HLBL.out, hby]; exact HLL.out
          have hd3 : decide (most + 10 < (q : Int) - (p : Int)) = false := decide_eq_false (by clear hw1 hw2 hwm hwm2; omega)
          have HSM := Aside0.mk (show Lb ≤ 1000000000000 by clear hw1 hw2 hwm hwm2; omega)
          have HBYE := Aside0.mk hby
          have HLQ := Aside0.mk hLq
          clear hhh hmo hby hLq
          have PC7 : Aside0 ((Kd.int .u8).C (w5.alloc (.cells #[.int .i64 0, .int .i64 0] 40)) A2 Lb l) := ⟨by rw [← HBYE.out]; exact PC6.out⟩
          have HLL2 : Aside0 (l.length = Lb) := ⟨HLL.out.trans HLQ.out.symm⟩
          have HLS2 : Aside0 (l.length ≤ 1000000000000) := ⟨by rw [HLL2.out]; exact HSM.out⟩
          have HCA : Aside0 (q - p ≤ c0 - p) := ⟨by clear hw1 hw2 hwm hwm2; omega⟩
          go_wp2
          refine start_ (n := 28) (S := fun w' => w'.cell? ⟨w5.heap.size, 0, none⟩ = some (.int .i64 0) ∧ w'.cell? ⟨w5.heap.size, 1, none⟩ = some (.int .i64 0) ∧ w'.cell? ⟨wr.heap.size, 1, none⟩ = some (.int .i64 (q : Int)) ∧ w'.cell? ⟨wr.heap.size, 2, none⟩ = some (.slice A2 Lb k2)) (ds := []) #[false, false, false, false, false, false, false, false, false, false, false, false, false, false, false, false, false, false, false, false, false, false, false, false, false, false, false, false] (by kernel_rfl) rfl rfl ⟨u0, u1, y1, y2⟩ (fun hHeld => ?_)
          refine pure_ (i := 1) (N := some 81) (v := ?_) (a' := ?_) #[false, true, false, false, false, false, false, false, false, false, false, false, false, false, false, false, false, false, false, false, false, false, false, false, false, false, false, false] rfl rfl (by kernel_rfl) (fun _ _ _ h => h) (Or.inl ⟨by rfl, ?_⟩) ?_ ?_
          rotate_left
          · intro w'
            go_simp
            with_reducible rfl
          rotate_left
          · simp only [Act.put, List.setIfInBounds_toArray, List.set_cons_zero, List.set_cons_succ, i64_w, i32_w]
            rfl
          refine take_ (i := 0) (N := some 80) (v := ?_) (a' := ?_) #[true, true, false, false, false, false, false, false, false, false, false, false, false, false, false, false, false, false, false, false, false, false, false, false, false, false, false, false] rfl rfl (by kernel_rfl) (fun _ _ _ h => h) (Or.inl ⟨by rfl, ?_⟩) hHeld ?_ ?_
          rotate_left
          · rintro w' ⟨s0, s1, s2, s3⟩
            go_simp
            with_reducible rfl
          rotate_left
          · simp only [Act.put, List.setIfInBounds_toArray, List.set_cons_zero, List.set_cons_succ, i64_w, i32_w]
            rfl
          refine pure_ (i := 2) (N := some 82) (v := ?_) (a' := ?_) #[true, true, true, false, false, false, false, false, false, false, false, false, false, false, false, false, false, false, false, false, false, false, false, false, false, false, false, false] rfl rfl (by kernel_rfl) (fun _ _ _ h => h) (Or.inl ⟨by rfl, ?_⟩) ?_ ?_
          rotate_left
          · intro w'
            go_simp
            with_reducible rfl
          rotate_left
          · simp only [Act.put, List.setIfInBounds_toArray, List.set_cons_zero, List.set_cons_succ, i64_w, i32_w]
            rfl
          refine pure_ (i := 3) (N := some 83) (v := ?_) (a' := ?_) #[true, true, true, true, false, false, false, false, false, false, false, false, false, false, false, false, false, false, false, false, false, false, false, false, false, false, false, false] rfl rfl (by kernel_rfl) (fun _ _ _ h => h) (Or.inl ⟨by rfl, ?_⟩) ?_ ?_
          rotate_left
          · intro w'
            go_simp
            with_reducible rfl
          rotate_left
          · simp only [Act.put, List.setIfInBounds_toArray, List.set_cons_zero, List.set_cons_succ, i64_w, i32_w]
            rfl
          refine pure_ (i := 4) (N := some 84) (v := ?_) (a' := ?_) #[true, true, true, true, true, false, false, false, false, false, false, false, false, false, false, false, false, false, false, false, false, false, false, false, false, false, false, false] rfl rfl (by kernel_rfl) (fun _ _ _ h => h) (Or.inl ⟨by rfl, ?_⟩) ?_ ?_
          rotate_left
          · intro w'
            go_simp
            with_reducible rfl
          rotate_left
          · simp only [Act.put, List.setIfInBounds_toArray, List.set_cons_zero, List.set_cons_succ, i64_w, i32_w]
            rfl
          refine pure_ (i := 5) (N := some 85) (v := ?_) (a' := ?_) #[true, true, true, true, true, true, false, false, false, false, false, false, false, false, false, false, false, false, false, false, false, false, false, false, false, false, false, false] rfl rfl (by kernel_rfl) (fun _ _ _ h => h) (Or.inl ⟨by rfl, ?_⟩) ?_ ?_
          rotate_left
          · intro w'
            go_simp
            with_reducible rfl
          rotate_left
          · simp only [Act.put, List.setIfInBounds_toArray, List.set_cons_zero, List.set_cons_succ, i64_w, i32_w]
            rfl
          refine pure_ (i := 7) (N := some 87) (v := ?_) (a' := ?_) #[true, true, true, true, true, true, false, true, false, false, false, false, false, false, false, false, false, false, false, false, false, false, false, false, false, false, false, false] rfl rfl (by kernel_rfl) (fun _ _ _ h => h) (Or.inl ⟨by rfl, ?_⟩) ?_ ?_
          rotate_left
          · intro w'
            go_simp
            with_reducible rfl
          rotate_left
          · simp only [Act.put, List.setIfInBounds_toArray, List.set_cons_zero, List.set_cons_succ, i64_w, i32_w]
            rfl
          refine take_ (i := 6) (N := some 86) (v := ?_) (a' := ?_) #[true, true, true, true, true, true, true, true, false, false, false, false, false, false, false, false, false, false, false, false, false, false, false, false, false, false, false, false] rfl rfl (by kernel_rfl) (fun _ _ _ h => h) (Or.inl ⟨by rfl, ?_⟩) hHeld ?_ ?_
          rotate_left
          · rintro w' ⟨s0, s1, s2, s3⟩
            go_simp
            with_reducible rfl
          rotate_left
          · simp only [Act.put, List.setIfInBounds_toArray, List.set_cons_zero, List.set_cons_succ, i64_w, i32_w]
            rfl
          refine pure_ (i := 8) (N := some 88) (v := ?_) (a' := ?_) #[true, true, true, true, true, true, true, true, true, false, false, false, false, false, false, false, false, false, false, false, false, false, false, false, false, false, false, false] rfl rfl (by kernel_rfl) (fun _ _ _ h => h) (Or.inl ⟨by rfl, ?_⟩) ?_ ?_
          rotate_left
          · intro w'
            go_simp
            with_reducible rfl
          rotate_left
          · simp only [Act.put, List.setIfInBounds_toArray, List.set_cons_zero, List.set_cons_succ, i64_w, i32_w]
            rfl
          refine pure_ (i := 9) (N := some 89) (v := ?_) (a' := ?_) #[true, true, true, true, true, true, true, true, true, true, false, false, false, false, false, false, false, false, false, false, false, false, false, false, false, false, false, false] rfl rfl (by kernel_rfl) (fun _ _ _ h => h) (Or.inl ⟨by rfl, ?_⟩) ?_ ?_
          rotate_left
          · intro w'
            go_simp
            with_reducible rfl
          rotate_left
          · simp only [Act.put, List.setIfInBounds_toArray, List.set_cons_zero, List.set_cons_succ, i64_w, i32_w]
            rfl
          refine pure_ (i := 10) (N := some 90) (v := ?_) (a' := ?_) #[true, true, true, true, true, true, true, true, true, true, true, false, false, false, false, false, false, false, false, false, false, false, false, false, false, false, false, false] rfl rfl (by kernel_rfl) (fun _ _ _ h => h) (Or.inl ⟨by rfl, ?_⟩) ?_ ?_
          rotate_left
          · intro w'
            go_simp
            with_reducible rfl
          rotate_left
          · simp only [Act.put, List.setIfInBounds_toArray, List.set_cons_zero, List.set_cons_succ, i64_w, i32_w]
            rfl
          refine pure_ (i := 11) (N := some 91) (v := ?_) (a' := ?_) #[true, true, true, true, true, true, true, true, true, true, true, true, false, false, false, false, false, false, false, false, false, false, false, false, false, false, false, false] rfl rfl (by kernel_rfl) (fun _ _ _ h => h) (Or.inl ⟨by rfl, ?_⟩) ?_ ?_
          rotate_left
          · intro w'
            go_simp
            with_reducible rfl
          rotate_left
          · simp only [Act.put, List.setIfInBounds_toArray, List.set_cons_zero, List.set_cons_succ, i64_w, i32_w]
            rfl
          refine pure_ (i := 12) (N := some 92) (v := ?_) (a' := ?_) #[true, true, true, true, true, true, true, true, true, true, true, true, true, false, false, false, false, false, false, false, false, false, false, false, false, false, false, false] rfl rfl (by kernel_rfl) (fun _ _ _ h => h) (Or.inl ⟨by rfl, ?_⟩) ?_ ?_
          rotate_left
          · intro w'
            go_simp
            with_reducible rfl
          rotate_left
          · simp only [Act.put, List.setIfInBounds_toArray, List.set_cons_zero, List.set_cons_succ, i64_w, i32_w]
            rfl
          refine pure_ (i := 13) (N := some 93) (v := ?_) (a' := ?_) #[true, true, true, true, true, true, true, true, true, true, true, true, true, true, false, false, false, false, false, false, false, false, false, false, false, false, false, false] rfl rfl (by kernel_rfl) (fun _ _ _ h => h) (Or.inl ⟨by rfl, ?_⟩) ?_ ?_
          rotate_left
          · intro w'
            go_simp
            with_reducible rfl
          rotate_left
          · simp only [Act.put, List.setIfInBounds_toArray, List.set_cons_zero, List.set_cons_succ, i64_w, i32_w]
            rfl
          refine pure_ (i := 14) (N := some 94) (v := ?_) (a' := ?_) #[true, true, true, true, true, true, true, true, true, true, true, true, true, true, true, false, false, false, false, false, false, false, false, false, false, false, false, false] rfl rfl (by kernel_rfl) (fun _ _ _ h => h) (Or.inl ⟨by rfl, ?_⟩) ?_ ?_
          rotate_left
          · intro w'
            go_simp
            with_reducible rfl
          rotate_left
          · simp only [Act.put, List.setIfInBounds_toArray, List.set_cons_zero, List.set_cons_succ, i64_w, i32_w]
            rfl
          refine pure_ (i := 15) (N := some 95) (v := ?_) (a' := ?_) #[true, true, true, true, true, true, true, true, true, true, true, true, true, true, true, true, false, false, false, false, false, false, false, false, false, false, false, false] rfl rfl (by kernel_rfl) (fun _ _ _ h => h) (Or.inl ⟨by rfl, ?_⟩) ?_ ?_
          rotate_left
          · intro w'
            go_simp
            with_reducible rfl
          rotate_left
          · simp only [Act.put, List.setIfInBounds_toArray, List.set_cons_zero, List.set_cons_succ, i64_w, i32_w]
            rfl
          refine pure_ (i := 16) (N := some 96) (v := ?_) (a' := ?_) #[true, true, true, true, true, true, true, true, true, true, true, true, true, true, true, true, true, false, false, false, false, false, false, false, false, false, false, false] rfl rfl (by kernel_rfl) (fun _ _ _ h => h) (Or.inl ⟨by rfl, ?_⟩) ?_ ?_
          rotate_left
          · intro w'
            go_simp
            with_reducible rfl
          rotate_left
          · simp only [Act.put, List.setIfInBounds_toArray, List.set_cons_zero, List.set_cons_succ, i64_w, i32_w]
            rfl
          refine pure_ (i := 17) (N := some 97) (v := ?_) (a' := ?_) #[true, true, true, true, true, true, true, true, true, true, true, true, true, true, true, true, true, true, false, false, false, false, false, false, false, false, false, false] rfl rfl (by kernel_rfl) (fun _ _ _ h => h) (Or.inl ⟨by rfl, ?_⟩) ?_ ?_
          rotate_left
          · intro w'
            go_simp
            with_reducible rfl
          rotate_left
          · simp only [Act.put, List.setIfInBounds_toArray, List.set_cons_zero, List.set_cons_succ, i64_w, i32_w]
            rfl
          refine pure_ (i := 18) (N := some 98) (v := ?_) (a' := ?_) #[true, true, true, true, true, true, true, true, true, true, true, true, true, true, true, true, true, true, true, false, false, false, false, false, false, false, false, false] rfl rfl (by kernel_rfl) (fun _ _ _ h => h) (Or.inl ⟨by rfl, ?_⟩) ?_ ?_
          rotate_left
          · intro w'
            go_simp
            with_reducible rfl
          rotate_left
          · simp only [Act.put, List.setIfInBounds_toArray, List.set_cons_zero, List.set_cons_succ, i64_w, i32_w]
            rfl
          refine pure_ (i := 20) (N := some 100) (v := ?_) (a' := ?_) #[true, true, true, true, true, true, true, true, true, true, true, true, true, true, true, true, true, true, true, false, true, false, false, false, false, false, false, false] rfl rfl (by kernel_rfl) (fun _ _ _ h => h) (Or.inl ⟨by rfl, ?_⟩) ?_ ?_
          rotate_left
          · intro w'
            go_simp
            with_reducible rfl
          rotate_left
          · simp only [Act.put, List.setIfInBounds_toArray, List.set_cons_zero, List.set_cons_succ, i64_w, i32_w]
            rfl
          refine pure_ (i := 21) (N := some 101) (v := ?_) (a' := ?_) #[true, true, true, true, true, true, true, true, true, true, true, true, true, true, true, true, true, true, true, false, true, true, false, false, false, false, false, false] rfl rfl (by kernel_rfl) (fun _ _ _ h => h) (Or.inl ⟨by rfl, ?_⟩) ?_ ?_
          rotate_left
          · intro w'
            go_simp
            with_reducible rfl
          rotate_left
          · simp only [Act.put, List.setIfInBounds_toArray, List.set_cons_zero, List.set_cons_succ, i64_w, i32_w]
            rfl
          refine pure_ (i := 22) (N := some 102) (v := ?_) (a' := ?_) #[true, true, true, true, true, true, true, true, true, true, true, true, true, true, true, true, true, true, true, false, true, true, true, false, false, false, false, false] rfl rfl (by kernel_rfl) (fun _ _ _ h => h) (Or.inl ⟨by rfl, ?_⟩) ?_ ?_
          rotate_left
          · intro w'
            go_simp
            with_reducible rfl
          rotate_left
          · simp only [Act.put, List.setIfInBounds_toArray, List.set_cons_zero, List.set_cons_succ, i64_w, i32_w]
            rfl
          refine take_ (i := 19) (N := some 99) (v := ?_) (a' := ?_) #[true, true, true, true, true, true, true, true, true, true, true, true, true, true, true, true, true, true, true, true, true, true, true, false, false, false, false, false] rfl rfl (by kernel_rfl) (fun _ _ _ h => h) (Or.inl ⟨by rfl, ?_⟩) hHeld ?_ ?_
          rotate_left
          · rintro w' ⟨s0, s1, s2, s3⟩
            go_simp
            with_reducible rfl
          rotate_left
          · simp only [Act.put, List.setIfInBounds_toArray, List.set_cons_zero, List.set_cons_succ, i64_w, i32_w]
            rfl
          refine take_ (i := 23) (N := some 103) (v := ?_) (a' := ?_) #[true, true, true, true, true, true, true, true, true, true, true, true, true, true, true, true, true, true, true, true, true, true, true, true, false, false, false, false] rfl rfl (by kernel_rfl) (fun _ _ _ h => h) (Or.inl ⟨by rfl, ?_⟩) hHeld ?_ ?_
          rotate_left
          · rintro w' ⟨s0, s1, s2, s3⟩
            go_simp
            with_reducible rfl
          rotate_left
          · simp only [Act.put, List.setIfInBounds_toArray, List.set_cons_zero, List.set_cons_succ, i64_w, i32_w]
            rfl
          refine pure_ (i := 24) (N := some 104) (v := ?_) (a' := ?_) #[true, true, true, true, true, true, true, true, true, true, true, true, true, true, true, true, true, true, true, true, true, true, true, true, true, false, false, false] rfl rfl (by kernel_rfl) (fun _ _ _ h => h) (Or.inl ⟨by rfl, ?_⟩) ?_ ?_
          rotate_left
          · intro w'
            go_simp
            with_reducible rfl
          rotate_left
          · simp only [Act.put, List.setIfInBounds_toArray, List.set_cons_zero, List.set_cons_succ, i64_w, i32_w]
            rfl
          refine one_ (i := 25) (N := some 105) #[true, true, true, true, true, true, true, true, true, true, true, true, true, true, true, true, true, true, true, true, true, true, true, true, true, true, false, false] rfl rfl (by kernel_rfl) (by decide) (fun K hK => ?_)
          refine goes_ Try.func25 (by kernel_rfl) rfl #[.slice A2 Lb k2, .slice (Option.map (fun x => x.add p) A0) (q - p) (c0 - p)] (by rfl) rfl rfl (by first | (simp only [List.map_toArray, List.map_cons, List.map_nil]; done) | (simp only [List.map_toArray, List.map_cons, List.map_nil]; rfl) | simp) ?_
          with_reducible refine (same19_calls A2 Lb k2 (Option.map (fun x => x.add p) A0) (q - p) (c0 - p) l HLL2.out HLL.out _ (Kd.C_drew PC7.out) PK.out (HCL.out _ (below_drew1 HBW6.out)) HCA.out HLS2.out).mono ?_
          rintro e w7 ⟨rfl, ⟨nd5, rfl⟩⟩
          refine ⟨_, rfl, ?_⟩
          refine hK.out _ _ ⟨u0, u1, y1, y2⟩ (fun hHeld => ?_)
          clear hK K
          refine norm_ (a' := ?_) ?_ ?_
          rotate_left
          · show Act.put _ (some 105) _ = _
            simp only [Act.put, List.setIfInBounds_toArray, List.set_cons_zero, List.set_cons_succ, i64_w, i32_w]
            rfl
          refine pure_ (i := 26) (N := some 106) (v := ?_) (a' := ?_) #[true, true, true, true, true, true, true, true, true, true, true, true, true, true, true, true, true, true, true, true, true, true, true, true, true, true, true, false] rfl rfl (by kernel_rfl) (fun _ _ _ h => h) (Or.inl ⟨by rfl, ?_⟩) ?_ ?_
          rotate_left
          · intro w'
            go_simp
            with_reducible rfl
          rotate_left
          · simp only [Act.put, List.setIfInBounds_toArray, List.set_cons_zero, List.set_cons_succ, i64_w, i32_w]
            rfl
          refine pure_ (i := 27) (N := some 107) (v := ?_) (a' := ?_) #[true, true, true, true, true, true, true, true, true, true, true, true, true, true, true, true, true, true, true, true, true, true, true, true, true, true, true, true] rfl rfl (by kernel_rfl) (fun _ _ _ h => h) (Or.inl ⟨by rfl, ?_⟩) ?_ ?_
          rotate_left
          · intro w'
            go_simp
            with_reducible rfl
          rotate_left
          · simp only [Act.put, List.setIfInBounds_toArray, List.set_cons_zero, List.set_cons_succ, i64_w, i32_w]
            rfl
          refine done_ (by kernel_rfl) ?_
          go_wp2
          go_roundw
          clear hw1 hw2 hwm hwm2
          case rel => exact ⟨q, i + 1, by first | rfl | simp, by go_num, by omega, ⟨HNX.out⟩, ⟨pw_below_drewN HB6.out _⟩⟩
          case measure => simp [intOf]; omega
        · have hi1 : i + 1 = Wl := HLS.out hlst
          have hL0 : Lb = 0 := by rw [← HLBL.out, hby]; rfl
          have hcb : (code == 0 && (at' == 0)) = false := by
            have : (code == 0) = false := beq_eq_false_iff_ne.mpr hc0
            rw [this]
            rfl
          have hwib : -1000000000000000 ≤ (Wl : Int) - 1 ∧ (Wl : Int) - 1 ≤ 1000000000000000 := by clear hw1 hw2 hwm hwm2; omega
          have hwic : (Wl : Int) - 1 = (i : Int) := by clear hw1 hw2 hwm hwm2; omega
          have hwi := (w64 _ hwib).trans hwic
          have hwi2 : IntKind.i64.wrap ((Wl : Int) - 1) = (i : Int) := (i64_w _).trans hwi
          have hqb1 : -1000000000000000 ≤ (q : Int) - 1 ∧ (q : Int) - 1 ≤ 1000000000000000 := by clear hw1 hw2 hwm hwm2 hwi hwi2; omega
          have hqb2 : -1000000000000000 ≤ (q : Int) - 1 - (p : Int) ∧ (q : Int) - 1 - (p : Int) ≤ 1000000000000000 := by clear hw1 hw2 hwm hwm2 hwi hwi2; omega
          have hwq := w64 _ hqb1
          have hwq2 : IntKind.i64.wrap ((q : Int) - 1) = (q : Int) - 1 := (i64_w _).trans hwq
          have hwq3 := w64 _ hqb2
          have hwq4 : IntKind.i64.wrap ((q : Int) - 1 - (p : Int)) = (q : Int) - 1 - p := (i64_w _).trans hwq3
          have hnq : ((q : Int) - 1 != (q : Int)) = true := bne_iff_ne.mpr (by clear hw1 hw2 hwm hwm2 hwi hwi2 hwq hwq2 hwq3 hwq4; omega)
          subst hL0
          have HI1 := Aside0.mk hi1
          clear hby hlst hi1 hwib hwic hqb1 hqb2
          rcases hat with rfl | rfl
          · by_cases hk13 : code = 13
            · subst hk13
              have hhq := h13 rfl
              by_cases hmz : hm = 0
              · have hhd2 := HHD.out
                obtain ⟨hqn, mm, hhh, hmm⟩ := hhq
                rw [hhh] at hhd2
                injection hhd2 with hm1 hhd2
                injection hhd2 with hm2 hm3
                subst hm1 hm2 hm3
                rw [HN.out] at hqn
                have hqn2 : ((q : Int) != (n : Int)) = false := by rw [hqn]; simp
                have hqn3 : (q != n) = false := by rw [hqn]; simp
                have hm0 : (mm != 0) = false := by rw [hmz]; rfl
                clear hqn hmm hmz hc0 h13 hel hhh
                go_wp2
                go_roundw
                clear hw1 hw2 hwm hwm2 hwi hwi2 hwq hwq2 hwq3 hwq4
                case rel => exact ⟨q, i + 1, by first | rfl | simp, by go_num, by omega, ⟨HNX.out⟩, HB6⟩
                case measure => simp [intOf]; omega
              · have hhd2 := HHD.out
                obtain ⟨hqn, mm, hhh, hmm⟩ := hhq
                rw [hhh] at hhd2
                injection hhd2 with hm1 hhd2
                injection hhd2 with hm2 hm3
                subst hm1 hm2 hm3
                rw [HN.out] at hqn
                have hqn2 : ((q : Int) != (n : Int)) = false := by rw [hqn]; simp
                have hqn3 : (q != n) = false := by rw [hqn]; simp
                have hm0 : (mm != 0) = true := bne_iff_ne.mpr hmz
                have hml : decide (mm ≤ (q : Int) - (p : Int)) = false := decide_eq_false (by
                  clear hw1 hw2 hwm hwm2 hwi hwi2 hwq hwq2 hwq3 hwq4
                  rcases hmm with h | h
                  · exact absurd h hmz
                  · omega)
                clear hqn hmm hmz hc0 h13 hel hhh
                go_wp2
                go_roundw
                clear hw1 hw2 hwm hwm2 hwi hwi2 hwq hwq2 hwq3 hwq4
                case rel => exact ⟨q, i + 1, by first | rfl | simp, by go_num, by omega, ⟨HNX.out⟩, HB6⟩
                case measure => simp [intOf]; omega
            · by_cases hk12 : code = 12
              · subst hk12
                clear hc0 h13 hel
                go_wp2
                go_roundw
                clear hw1 hw2 hwm hwm2 hwi hwi2 hwq hwq2 hwq3 hwq4
                case rel => exact ⟨q, i + 1, by first | rfl | simp, by go_num, by omega, ⟨HNX.out⟩, HB6⟩
                case measure => simp [intOf]; omega
              · obtain ⟨mm, hhh⟩ := hel hk13 hk12
                have hhd2 := HHD.out
                rw [hhh] at hhd2
                injection hhd2 with hm1 hhd2
                injection hhd2 with hm2 hm3
                subst hm1 hm2 hm3
                have hk1 : (code == 13) = false := beq_eq_false_iff_ne.mpr hk13
                have hk2 : (code != 13) = true := bne_iff_ne.mpr hk13
                have hk3 : (code != 12) = true := bne_iff_ne.mpr hk12
                clear hc0 h13 hel hhh hk13 hk12
                go_wp2
                go_roundw
                clear hw1 hw2 hwm hwm2 hwi hwi2 hwq hwq2 hwq3 hwq4
                case rel => exact ⟨q, i + 1, by first | rfl | simp, by go_num, by omega, ⟨HNX.out⟩, HB6⟩
                case measure => simp [intOf]; omega
          · by_cases hk13 : code = 13
            · subst hk13
              have hhq := h13 rfl
              by_cases hmz : hm = 0
              · have hhd2 := HHD.out
                obtain ⟨hqn, mm, hhh, hmm⟩ := hhq
                rw [hhh] at hhd2
                injection hhd2 with hm1 hhd2
                injection hhd2 with hm2 hm3
                subst hm1 hm2 hm3
                rw [HN.out] at hqn
                have hqn2 : ((q : Int) != (n : Int)) = false := by rw [hqn]; simp
                have hqn3 : (q != n) = false := by rw [hqn]; simp
                have hm0 : (mm != 0) = false := by rw [hmz]; rfl
                clear hqn hmm hmz hc0 h13 hel hhh
                go_wp2
                go_roundw
                clear hw1 hw2 hwm hwm2 hwi hwi2 hwq hwq2 hwq3 hwq4
                case rel => exact ⟨q, i + 1, by first | rfl | simp, by go_num, by omega, ⟨HNX.out⟩, HB6⟩
                case measure => simp [intOf]; omega
              · have hhd2 := HHD.out
                obtain ⟨hqn, mm, hhh, hmm⟩ := hhq
                rw [hhh] at hhd2
                injection hhd2 with hm1 hhd2
                injection hhd2 with hm2 hm3
                subst hm1 hm2 hm3
                rw [HN.out] at hqn
                have hqn2 : ((q : Int) != (n : Int)) = false := by rw [hqn]; simp
                have hqn3 : (q != n) = false := by rw [hqn]; simp
                have hm0 : (mm != 0) = true := bne_iff_ne.mpr hmz
                have hml : decide (mm ≤ (q : Int) - (p : Int)) = false := decide_eq_false (by
                  clear hw1 hw2 hwm hwm2 hwi hwi2 hwq hwq2 hwq3 hwq4
                  rcases hmm with h | h
                  · exact absurd h hmz
                  · omega)
                clear hqn hmm hmz hc0 h13 hel hhh
                go_wp2
                go_roundw
                clear hw1 hw2 hwm hwm2 hwi hwi2 hwq hwq2 hwq3 hwq4
                case rel => exact ⟨q, i + 1, by first | rfl | simp, by go_num, by omega, ⟨HNX.out⟩, HB6⟩
                case measure => simp [intOf]; omega
            · by_cases hk12 : code = 12
              · subst hk12
                clear hc0 h13 hel
                go_wp2
                go_roundw
                clear hw1 hw2 hwm hwm2 hwi hwi2 hwq hwq2 hwq3 hwq4
                case rel => exact ⟨q, i + 1, by first | rfl | simp, by go_num, by omega, ⟨HNX.out⟩, HB6⟩
                case measure => simp [intOf]; omega
              · obtain ⟨mm, hhh⟩ := hel hk13 hk12
                have hhd2 := HHD.out
                rw [hhh] at hhd2
                injection hhd2 with hm1 hhd2
                injection hhd2 with hm2 hm3
                subst hm1 hm2 hm3
                have hk1 : (code == 13) = false := beq_eq_false_iff_ne.mpr hk13
                have hk2 : (code != 13) = true := bne_iff_ne.mpr hk13
                have hk3 : (code != 12) = true := bne_iff_ne.mpr hk12
                clear hc0 h13 hel hhh hk13 hk12
                go_wp2
                go_roundw
                clear hw1 hw2 hwm hwm2 hwi hwi2 hwq hwq2 hwq3 hwq4
                case rel => exact ⟨q, i + 1, by first | rfl | simp, by go_num, by omega, ⟨HNX.out⟩, HB6⟩
                case measure => simp [intOf]; omega
      · obtain rfl : i = Wl := by omega
        have hd0 : ws.drop i = [] := List.drop_eq_nil_of_le (by rw [HWL.out]; exact Nat.le_refl _)
        have hce := HC.out
        rw [hd0] at hce
        have hpe : ps = p := hce
        subst hpe
        have HBW := Aside0.mk (below_step HB4.out HB.out)
        clear hin hd0 hce
        by_cases hpn2 : ps = n
        · subst hpn2
          go_wp2_with fail
          with_reducible refine (awake19_calls _).mono ?_
          rintro e w7 ⟨rfl, hb7⟩
          go_wp2
          go_ret
          exact ⟨rfl, below_step HBW.out hb7⟩
        · obtain ⟨y, hy, hyc⟩ : ∃ y, ws.getLast? = some y ∧ y.code ≠ 0 := by
            rcases HLA.out with h | h
            · exact absurd (h.trans HN.out) hpn2
            · exact h
          rw [List.getLast?_eq_getElem?] at hy
          obtain ⟨W1, hW1⟩ : ∃ W1, i = W1 + 1 := by
            cases i with
            | zero =>
              have h2 := HWL.out
              rw [List.length_eq_zero_iff.1 h2] at hy
              cases hy
            | succ W1 => exact ⟨W1, rfl⟩
          rw [HWL.out, hW1, Nat.add_sub_cancel] at hy
          obtain ⟨ad, A2, k2, e0, _, _, _, p3, _, _, _⟩ := at19 (Kd.C_below HCX.out (HB.out)) W1 y hy
          have hwib : -1000000000000000 ≤ (i : Int) - 1 ∧ (i : Int) - 1 ≤ 1000000000000000 := by omega
          have hwic : (i : Int) - 1 = (W1 : Int) := by omega
          have hwi := (w64 _ hwib).trans hwic
          have hwi2 : IntKind.i64.wrap ((i : Int) - 1) = (W1 : Int) := (i64_w _).trans hwi
          have hyb : (y.code != 0) = true := bne_iff_ne.mpr hyc
          have hpb : ((ps : Int) == (n : Int)) = false := beq_eq_false_iff_ne.mpr (by clear hwi hwi2; omega)
          have hpb2 : (ps == n) = false := beq_eq_false_iff_ne.mpr hpn2
          have hib : decide (0 < (i : Int)) = true := decide_eq_true (by clear hwi hwi2; omega)
          have hib2 : decide (0 < i) = true := decide_eq_true (by clear hwi hwi2; omega)
          have hW2 : (W1 : Int) < (i : Int) := by clear hwi hwi2; omega
          subst e0
          clear hy hyc hwib hwic hpn2 hW1
          go_wp2_with fail
          with_reducible refine (awake19_calls _).mono ?_
          rintro e w7 ⟨rfl, hb7⟩
          go_wp2
          go_ret
          exact ⟨rfl, below_step HBW.out hb7⟩
namespace chunkCovers
open Go.ChangeShapes Go.WideShapes Go.ChangeAt Go.RowKit
open Go.ChangeMaps (open_string shut_string)
theorem own : ownKnob Try.prog.godebug = none := by kernel_rfl
theorem laidOut : laidOutB Try.prog = true := by kernel_rfl
set_option maxRecDepth 100000 in
theorem lifted (os : Os) (started : os.Started) (H : Type) (enc : TypeId × Value → H) :
    ReturnsInHanded {} Try.checked os 5 .any (Rows.chunkCoversSpec.pre6 enc Try.prog Try.f5 Rows.chunkCoversRow.domain false) (Rows.chunkCoversSpec.post enc Try.prog Try.f5 false true false false) := by
  refine returnsInHanded_of_change_sized (C := Try.checked) own started (by kernel_rfl) Try.func5
    (ChangeSpec.witness6 (enc := enc) (C := Try.checked) false ⟨#[], #[.slice none 0 0, .slice none 0 0, .int .i64 0], []⟩ 8 (by kernel_rfl) (by kernel_rfl) (by kernel_rfl) (by kernel_rfl)) ?_
  intro W base args ds gs before hval0 hW hcnd hsz0 _
  have hsz : (DataW.weightsEach Try.prog (Try.f5.params.toList ++ Rows.chunkCoversSpec.plain.varTypes Try.prog) (ds ++ gs)).all (· ≤ reachBytes) = true := hsz0
  have hval : ∀ (j : Nat) t v, Try.f5.params[j]? = some t → args[j]? = some v → Value.okWide Try.prog W .any base t v := hval0
  have hW' := hW
  obtain ⟨p, q, hA0, hV, rfl, hfz, hnd⟩ := hW
  have hA : DataW.TrodAll enc Try.prog W 0 (fun _ => true) true Try.f5.params.toList args.toList ds p := hA0
  rw [Try.params5] at hA hval hsz
  obtain ⟨v0, vs0, d0, ds0, p0, q0, hargs, rfl, rfl, h0, r0⟩ := trodAll_cons hA
  obtain ⟨v1, vs1, d1, ds1, p1, q1, rfl, rfl, rfl, h1, r1⟩ := trodAll_cons r0
  obtain ⟨v2, vs2, d2, ds2, p2, q2, rfl, rfl, rfl, h2, r2⟩ := trodAll_cons r1
  obtain ⟨rfl, rfl, rfl⟩ := trodAll_nil r2
  obtain rfl : args = #[v0, v1, v2] := by cases args; simp_all
  obtain ⟨rfl, rfl⟩ := trodVars_none hV
  obtain ⟨a0, len0, cap0, rfl⟩ := okWide_slice Try.underlying22 (hval 0 22 v0 rfl rfl)
  have k0 := h0
  have lt0 : ∀ x ∈ p0, x.block < W.heap.size := by obtain ⟨m, hm⟩ := k0; exact DataW.trod_lt m _ _ _ hm
  have y0 : len0 * 1 ≤ 140737488351232 := sized_ints hsz (j := 0) (t := 22) rfl rfl Try.underlying22 Try.underlying5 (by kernel_rfl) (by kernel_rfl) h0
  obtain ⟨l0, c0, b0, e0⟩ := open_row Try.underlying22 Try.underlying5 (by kernel_rfl) (by omega) h0
  obtain rfl := c0.1.symm
  obtain ⟨a1, len1, cap1, rfl⟩ := okWide_slice Try.underlying23 (hval 1 23 v1 rfl rfl)
  have k1 := h1
  have lt1 : ∀ x ∈ p1, x.block < W.heap.size := by obtain ⟨m, hm⟩ := k1; exact DataW.trod_lt m _ _ _ hm
  have y1 : len1 * 8 ≤ 140737488351232 := sized_ints hsz (j := 1) (t := 23) rfl rfl Try.underlying23 Try.underlying3 (by kernel_rfl) (by kernel_rfl) h1
  obtain ⟨l1, c1, b1, e1⟩ := open_row Try.underlying23 Try.underlying3 (by kernel_rfl) (by omega) h1
  obtain rfl := c1.1.symm
  obtain ⟨a2, rfl, rfl, rfl, w2⟩ := open_int Try.underlying3 (hval 2 3 v2 rfl rfl) h2
  clear hA0 hval0 hsz0 hsz
  refine (chunkCovers_walk a0 cap0 l0 a1 cap1 l1 a2 W c0 b0 y0 e0 c1 b1 y1 e1 (bounds_i64 w2)).mono fun e W' ⟨he, bel⟩ => ?_
  subst he
  exact ⟨_, rfl, _, _, _, [], _, [], hW', trodAll_mk1 (shut_bool Try.underlying4 _), (trodAll_cons_mk (Below.trod laidOut (by kernel_rfl) (of_decide_eq_true (by kernel_rfl)) k0 bel lt0) (trodAll_cons_mk (Below.trod laidOut (by kernel_rfl) (of_decide_eq_true (by kernel_rfl)) k1 bel lt1) (trodAll_cons_mk (shut_int Try.underlying3 w2) trodAll_mk0))), rfl, bel.frame _, fun h => by cases h⟩
theorem over : Rows.chunkCoversRow.holds Try.pinned (OpenSpec.ofChange Rows.chunkCoversSpec) :=
  OpenClaim.holds_of_wide 5 Try.f5 rfl rfl rfl rfl rfl rfl rfl ⟨rfl, rfl, rfl, rfl, rfl⟩ rfl rfl rfl rfl rfl (by kernel_rfl) Try.func5 (by kernel_rfl)
    (of_decide_eq_true (by kernel_rfl)) (by unfold Func.isWrapper; first | (rw [if_pos (by decide +kernel)]; kernel_rfl) | (rw [if_neg (by decide +kernel)]; exact ⟨rfl, rfl⟩))
    (fun os started H enc _ => lifted os started H enc)
theorem proved : Rows.ChunkCoversSaid := over
end chunkCovers
/-- The row, under a short name, for the claim. -/
theorem chunkCovers_holds : Rows.ChunkCoversSaid := chunkCovers.proved
#print axioms chunkCovers_holds
end Go.Proofs.Ytmbfjaogimkncaa
