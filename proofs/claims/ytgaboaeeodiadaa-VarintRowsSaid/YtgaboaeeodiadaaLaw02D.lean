/- VarintRows: numbers that are put one behind the other are read one by one: its walk; no condition. -/
import Derived.Test.YtgaboaeeodiadaaPlRows
import Derived.Test.YtgaboaeeodiadaaLaw02C
namespace Go.Proofs.Ytgaboaeeodiadaa
open Go.RowKit Go.Proofs.YtgaboaeeodiadaaW.PrintWords Go.Proofs.YtgaboaeeodiadaaW.PrintLast Go.Proofs.YtgaboaeeodiadaaW.PrintMore
set_option linter.unusedVariables false
set_option linter.unusedSimpArgs false

theorem vread2 {ok : Nat → Prop} {s s' : Cu} {x : Nat} (g : Nat) {w : World} (h : CurAt ok g s w) (hv : s.vread = (x, s')) : Calls Try.prog 35 #[.pointer (some ⟨g, 0, none⟩)] w fun e w' => e = .returned (.int .u64 (x : Int)) ∧ CurAt ok g s' w' ∧ Chg (fun k => k = g) w w' := by
  have h2 := vread_calls g s w h
  rw [hv] at h2
  exact h2
theorem curleft2 {ok : Nat → Prop} {s : Cu} {a : Int} (g : Nat) {w : World} (h : CurAt ok g s w) (hp : (s.b.length : Int) - s.pos = a) : Calls Try.prog 41 #[.pointer (some ⟨g, 0, none⟩)] w fun e w' => e = .returned (.int .i64 a) ∧ Drawn0 w w' := by
  have h2 := curleft_calls g s w h
  rw [hp] at h2
  exact h2
theorem take_s (i : Int) (h : 0 ≤ i) : (i + 1).toNat = i.toNat + 1 := by omega
set_option maxHeartbeats 8000000 in
set_option maxRecDepth 100000 in
theorem varintRows_walk (A : Option Addr) (c : Nat) (l : List Int) (away : Int) (w : World) (hC : (Kd.int .u64).C w A l.length l) (hwf : ∀ x ∈ l, (Lit.int .u64 x).wf = true) (hsz : l.length * 8 ≤ 140737488351232) (hcap : l.length ≤ c) (hah : -9223372036854775808 ≤ away ∧ away ≤ 9223372036854775807) :
    Calls Try.prog 14 #[.slice A l.length c, .int .i64 away] w fun e w' => e = .returned (.bool true) ∧ Below w.heap.size w w' := by
  have HC0 := Aside0.mk hC
  have HL := Aside0.mk (fun x hx => bounds_u64 (hwf x hx))
  have hm0 : l.length ≤ 140737488351232 := by omega
  have HAH := Aside0.mk hah
  clear hC hwf hsz hah
  have HB := Aside0.mk (Below.refl w.heap.size w)
  by_cases h60 : 60 < l.length
  · go_enter Try.func14, Try.ntmps14
    go_wp2_with fail
    with_reducible refine Calls.stepB (awake02_calls _) ⟨(by repeat (first | (with_reducible first | exact HB.out | apply below_alloc | apply pw_below_drewN | apply below_drew1) | exact HB.out))⟩ ?_
    clear HB
    intro w_ HK HB
    clear HK
    go_wp2
    go_ret
    exact ⟨rfl, (by repeat (first | (with_reducible first | exact HB.out | apply below_alloc | apply pw_below_drewN | apply below_drew1) | exact HB.out))⟩
  have HTL := Aside0.mk (rowB_len l (fun x hx => (HL.out x hx).2))
  go_enter Try.func14, Try.ntmps14
  go_wp2
  go_loopw [5, 6] (fun v5 v6 w' => ∃ i : Int, v6 = .int .i64 i ∧ 0 ≤ i ∧ i ≤ (l.length : Int) ∧ Aside0 ((Kd.int .u8).R 5 w' w.heap.size (fun _ => True) v5 (rowB (l.take i.toNat))) ∧ Aside0 (Below w.heap.size w w')) (fun _ v6 _ => l.length - (intOf v6).toNat)
  case atStart => exact ⟨0, rfl, by omega, by omega, ⟨R_lit_u8 5 (Nat.le_refl _) [] (by simp)⟩, ⟨below_alloc HB.out _⟩⟩
  case round =>
    clear HB
    obtain ⟨i, rfl, hi0, hi, HV, HB⟩ := hrel
    by_cases hlt : i < (l.length : Int)
    · obtain ⟨ad, e, hx⟩ := Kd.at_int (Kd.C_below HC0.out HB.out) i hi0 hlt
      cases e
      obtain ⟨x, hxe⟩ := Int.eq_ofNat_of_zero_le (rd_bd HL.out i hi0 hlt).1
      have hx2 := (rd_bd HL.out i hi0 hlt).2
      have HX := Aside0.mk (show x < 18446744073709551616 by omega)
      have HS := rowB_snoc (l := l) (i := i.toNat) (by omega)
      rw [Int.toNat_of_nonneg hi0, hxe, Int.toNat_natCast, ← take_s i hi0] at HS
      have HS := Aside0.mk HS
      have HLEN := Aside0.mk (Nat.le_trans (rowB_len (l.take i.toNat) (fun y hy => (HL.out y (List.mem_of_mem_take hy)).2)) (Nat.mul_le_mul (Nat.le_refl 10) (List.length_take_le i.toNat l)))
      rw [hxe] at hx
      clear hxe hx2
      have HP := Aside0.mk (vput_len10 x HX.out)
      go_wp2_with fail
      with_reducible refine Calls.stepR (put_calls x HX.out _) ⟨(by repeat (first | (with_reducible first | exact HB.out | apply below_alloc | apply pw_below_drewN | apply below_drew1) | exact HB.out))⟩ ?_
      clear HB
      intro A1 c1 w_ HK HR1 HC1 HB
      have n0 := Aside0.mk (Kd.R_below (by (with_reducible repeat (first | apply Kd.R_alloc | apply Kd.R_drewN | apply Kd.R_drew)); exact HV.out) HK.out)
      clear HV
      have HV := n0
      clear n0
      clear HK
      have HLL := Aside0.mk (show (rowB (l.take i.toNat)).length + (vput x).length ≤ 140737488355328 by have := HLEN.out; have := HP.out; have : i.toNat ≤ 60 := (by omega); omega)
      go_wp2_with (first | ((with_reducible refine gate_dst (N := 28) rfl ?_); at_builtin; go_must (refine R_apps_u8 rfl rfl rfl rfl uB iB HV (by (with_reducible repeat (first | apply Kd.C_alloc | apply Kd.C_drewN | apply Kd.C_drew)); exact HC1.out) ⟨(by repeat (first | (with_reducible first | exact HB.out | apply below_alloc | apply pw_below_drewN | apply below_drew1) | exact HB.out))⟩ HLL ?_); intro v1 w1 hv hb; clear HB HV; have HB := hb; clear hb; have HV := hv; clear hv))
      rw [← HS.out] at HV
      go_roundw
      case rel => exact ⟨i + 1, by go_num, by omega, by omega, HV, HB⟩
      case measure => simp [intOf]; omega
    · have hie : i.toNat = l.length := by omega
      rw [hie, List.take_length] at HV
      obtain ⟨Ab, cb, rfl, _, hCb⟩ := Kd.R_reads HV.out
      have HCB := Aside0.mk hCb
      clear hCb hie
      obtain ⟨wo, rfl⟩ : ∃ wo : World, wo = wr := ⟨_, rfl⟩
      have HBO := HB
      clear HB HV
      have HB := Aside0.mk (Below.refl wo.heap.size wo)
      go_wp2_with fail
      refine (curnew_calls Ab _ _ (rowB l) _ HCB.out (rowB_bytes l) (by have := HTL.out; omega)).mono ?_
      rintro e w1 ⟨g, A', c', rfl, hc, hb⟩
      have hgg := Aside0.mk hc.okg.1
      obtain ⟨OK, hOK⟩ : ∃ OK : Nat → Prop, OK = fun k => wo.heap.size ≤ k ∧ k < w1.heap.size := ⟨_, rfl⟩
      rw [← hOK] at hc
      have HOK := Aside0.mk hOK
      have HC := Aside0.mk hc
      clear HB hc hOK
      have HB := Aside0.mk hb
      clear hb
      go_wp2_with fail
      go_loopw [8] (fun v8 w' => ∃ i : Int, v8 = .int .i64 i ∧ 0 ≤ i ∧ i ≤ (l.length : Int) ∧ Aside0 (CurAt OK g ⟨A', c', rowB l, (rowB (l.take i.toNat)).length, 0, 0, false⟩ w') ∧ Aside0 (Below wo.heap.size wo w')) (fun v8 _ => l.length - (intOf v8).toNat)
      case atStart => exact ⟨0, rfl, by omega, by omega, HC, HB⟩
      case round =>
        clear HB HC
        obtain ⟨i, rfl, hi0, hi, HC, HB⟩ := hrel
        by_cases hlt : i < (l.length : Int)
        · have hll : i < (l.length : Int) := by omega
          obtain ⟨ad, e, hx⟩ := Kd.at_int HC0.out i hi0 hll
          cases e
          obtain ⟨x, hxe⟩ := Int.eq_ofNat_of_zero_le (rd_bd HL.out i hi0 hll).1
          have hx2 := (rd_bd HL.out i hi0 hll).2
          have HX := Aside0.mk (show x < 18446744073709551616 by omega)
          have HS := rowB_snoc (l := l) (i := i.toNat) (by omega)
          have HD := rowB_drop (l := l) (i := i.toNat) (by omega)
          rw [Int.toNat_of_nonneg hi0, hxe, Int.toNat_natCast] at HS HD
          rw [← take_s i hi0] at HS
          have HVP := Aside0.mk (vread_put (A := A') (c := c') HD HX.out)
          have e9 := congrArg List.length HS
          rw [List.length_append] at e9
          rw [← e9] at HVP
          rw [hxe] at hx
          have HCX := Aside0.mk hx
          have hxl : ad.block < w.heap.size := by have := World.block_lt_of_cell? w _ hx; rwa [add_block] at this
          clear hxe hx2 HS e9 HD hx
          have HKX := Aside0.mk (fun W (hb : Below w.heap.size w W) => (Below.cell (p := ad.add i.toNat) hb (by rw [add_block]; exact hxl)).trans HCX.out)
          go_wp2_with fail
          refine start_ (n := 7) (S := fun w' => w'.cell? (ad.add i.toNat) = some (.int .u64 (x : Int))) (ds := []) #[false, false, false, false, false, false, false] (by kernel_rfl) rfl rfl (HKX.out _ (below_drew1 (below_step HBO.out HB.out))) (fun hHeld => ?_)
          refine pure_ (i := 0) (N := some 37) (v := ?_) (a' := ?_) #[true, false, false, false, false, false, false] rfl rfl (by kernel_rfl) (fun _ _ _ h => h) (Or.inl ⟨by rfl, ?_⟩) ?_ ?_
          rotate_left
          · intro w'
            go_simp
            with_reducible rfl
          rotate_left
          · simp only [Act.put, List.setIfInBounds_toArray, List.set_cons_zero, List.set_cons_succ, i64_w, i32_w]
            rfl
          refine pure_ (i := 2) (N := some 39) (v := ?_) (a' := ?_) #[true, false, true, false, false, false, false] rfl rfl (by kernel_rfl) (fun _ _ _ h => h) (Or.inl ⟨by rfl, ?_⟩) ?_ ?_
          rotate_left
          · intro w'
            go_simp
            with_reducible rfl
          rotate_left
          · simp only [Act.put, List.setIfInBounds_toArray, List.set_cons_zero, List.set_cons_succ, i64_w, i32_w]
            rfl
          refine pure_ (i := 3) (N := some 40) (v := ?_) (a' := ?_) #[true, false, true, true, false, false, false] rfl rfl (by kernel_rfl) (fun _ _ _ h => h) (Or.inl ⟨by rfl, ?_⟩) ?_ ?_
          rotate_left
          · intro w'
            go_simp
            with_reducible rfl
          rotate_left
          · simp only [Act.put, List.setIfInBounds_toArray, List.set_cons_zero, List.set_cons_succ, i64_w, i32_w]
            rfl
          refine pure_ (i := 4) (N := some 41) (v := ?_) (a' := ?_) #[true, false, true, true, true, false, false] rfl rfl (by kernel_rfl) (fun _ _ _ h => h) (Or.inl ⟨by rfl, ?_⟩) ?_ ?_
          rotate_left
          · intro w'
            go_simp
            with_reducible rfl
          rotate_left
          · simp only [Act.put, List.setIfInBounds_toArray, List.set_cons_zero, List.set_cons_succ, i64_w, i32_w]
            rfl
          refine take_ (i := 5) (N := some 42) (v := ?_) (a' := ?_) #[true, false, true, true, true, true, false] rfl rfl (by kernel_rfl) (fun _ _ _ h => h) (Or.inl ⟨by rfl, ?_⟩) hHeld ?_ ?_
          rotate_left
          · intro w' s0
            go_simp
            with_reducible rfl
          rotate_left
          · simp only [Act.put, List.setIfInBounds_toArray, List.set_cons_zero, List.set_cons_succ, i64_w, i32_w]
            rfl
          refine one_ (i := 1) (N := some 38) #[true, true, true, true, true, true, false] rfl rfl (by kernel_rfl) (by decide) (fun K hK => ?_)
          refine goes_ Try.func35 (by kernel_rfl) rfl #[.pointer (some ⟨g, 0, none⟩)] (by rfl) rfl rfl (by first | (simp only [List.map_toArray, List.map_cons, List.map_nil]; done) | (simp only [List.map_toArray, List.map_cons, List.map_nil]; rfl) | simp) ?_
          with_reducible refine (vread2 g HC.out.drew HVP.out).mono ?_
          rintro e w3 ⟨rfl, hc3, hg3⟩
          have HB3 := Aside0.mk ((below_drew1 HB.out).trans (hg3.to_below (fun k hk => by rw [hk]; exact hgg.out) (below_size (below_drew1 HB.out))))
          refine ⟨_, rfl, ?_⟩
          refine hK.out _ _ (HKX.out _ (below_step HBO.out HB3.out)) (fun hHeld => ?_)
          clear hK K
          refine norm_ (a' := ?_) ?_ ?_
          rotate_left
          · show Act.put _ (some 38) _ = _
            simp only [Act.put, List.setIfInBounds_toArray, List.set_cons_zero, List.set_cons_succ, i64_w, i32_w]
            rfl
          refine pure_ (i := 6) (N := some 43) (v := ?_) (a' := ?_) #[true, true, true, true, true, true, true] rfl rfl (by kernel_rfl) (fun _ _ _ h => h) (Or.inl ⟨by rfl, ?_⟩) ?_ ?_
          rotate_left
          · intro w'
            go_simp
            with_reducible rfl
          rotate_left
          · simp only [Act.put, List.setIfInBounds_toArray, List.set_cons_zero, List.set_cons_succ, i64_w, i32_w]
            rfl
          refine done_ (by kernel_rfl) ?_
          go_wp2
          go_roundw
          case rel => exact ⟨i + 1, by go_num, by omega, by omega, ⟨hc3⟩, HB3⟩
          case measure => simp [intOf]; omega
        · have hie : i.toNat = l.length := by omega
          rw [hie, List.take_length] at HC
          clear hie
          go_wp2_with fail
          with_reducible refine Calls.stepB (Calls.dB (curleft2 (a := 0) g (by (with_reducible repeat (first | apply CurAt.alloc | apply CurAt.drewN | apply CurAt.drew)); exact HC.out) (by simp))) ⟨(by repeat (first | (with_reducible first | exact HB.out | apply below_alloc | apply pw_below_drewN | apply below_drew1) | exact HB.out))⟩ ?_
          clear HB
          intro w_ HK HB
          have n0 := Aside0.mk (CurAt.below (by (with_reducible repeat (first | apply CurAt.alloc | apply CurAt.drewN | apply CurAt.drew)); exact HC.out) HK.out)
          clear HC
          have HC := n0
          clear n0
          clear HK
          go_wp2_with fail
          with_reducible refine Calls.stepB (curfault2 (a := 0) (b := 0) g (by (with_reducible repeat (first | apply CurAt.alloc | apply CurAt.drewN | apply CurAt.drew)); exact HC.out) rfl rfl) ⟨(by repeat (first | (with_reducible first | exact HB.out | apply below_alloc | apply pw_below_drewN | apply below_drew1) | exact HB.out))⟩ ?_
          clear HB
          intro w_ HK HB
          have n0 := Aside0.mk (CurAt.below (by (with_reducible repeat (first | apply CurAt.alloc | apply CurAt.drewN | apply CurAt.drew)); exact HC.out) HK.out)
          clear HC
          have HC := n0
          clear n0
          clear HK
          by_cases hl0 : l.length = 0
          · have hl1 : ((l.length : Int) == 0) = true := by simp [hl0]
            clear hl0
            go_wp2_with fail
            with_reducible refine Calls.stepB (awake02_calls _) ⟨(by repeat (first | (with_reducible first | exact HB.out | apply below_alloc | apply pw_below_drewN | apply below_drew1) | exact HB.out))⟩ ?_
            clear HB
            intro w_ HK HB
            clear HK
            go_wp2
            go_ret
            exact ⟨rfl, below_step HBO.out HB.out⟩
          have hl1 : ((l.length : Int) == 0) = false := by simp [hl0]
          by_cases haw : away < 1
          · go_wp2_with fail
            with_reducible refine Calls.stepB (awake02_calls _) ⟨(by repeat (first | (with_reducible first | exact HB.out | apply below_alloc | apply pw_below_drewN | apply below_drew1) | exact HB.out))⟩ ?_
            clear HB
            intro w_ HK HB
            clear HK
            go_wp2
            go_ret
            exact ⟨rfl, below_step HBO.out HB.out⟩
          have hlp : 0 < l.length := by omega
          obtain ⟨ad, e, hx⟩ := Kd.at_int (Kd.C_below HC0.out (below_step HBO.out HB.out)) ((l.length : Int) - 1) (by omega) (by omega)
          cases e
          obtain ⟨y, hye⟩ := Int.eq_ofNat_of_zero_le (rd_bd HL.out ((l.length : Int) - 1) (by omega) (by omega)).1
          have hy2 := (rd_bd HL.out ((l.length : Int) - 1) (by omega) (by omega)).2
          rw [hye, show ((l.length : Int) - 1).toNat = l.length - 1 from by omega] at hx
          have HY := Aside0.mk (show y < 18446744073709551616 by omega)
          have HYE := Aside0.mk (show rd l ((l.length - 1 : Nat) : Int) = (y : Int) by rw [← hye]; congr 1; omega)
          clear hye hy2
          have hvy := vput_len10 y HY.out
          go_wp2_with fail
          with_reducible refine Calls.stepEq (len_calls y HY.out _) ?_
          by_cases hal : ((vput y).length : Int) < away
          · go_wp2_with fail
            with_reducible refine Calls.stepB (awake02_calls _) ⟨(by repeat (first | (with_reducible first | exact HB.out | apply below_alloc | apply pw_below_drewN | apply below_drew1) | exact HB.out))⟩ ?_
            clear HB
            intro w_ HK HB
            clear HK
            go_wp2
            go_ret
            exact ⟨rfl, below_step HBO.out HB.out⟩
          obtain ⟨a, rfl⟩ := Int.eq_ofNat_of_zero_le (show 0 ≤ away by omega)
          have hsl := rowB_snoc (l := l) (i := l.length - 1) (by omega)
          rw [show l.length - 1 + 1 = l.length from by omega, List.take_length, HYE.out, Int.toNat_natCast] at hsl
          have hsl2 := congrArg List.length hsl
          rw [List.length_append] at hsl2
          have hty : (vput y).length ≤ (rowB l).length := by omega
          have hal2 : a ≤ (vput y).length := by omega
          have ha1 : 1 ≤ a := by omega
          have hT600 : (rowB l).length ≤ 600 := by have := HTL.out; omega
          have HSL2 := Aside0.mk hsl2
          clear hsl hsl2 hal haw hx
          go_wp2_with fail
          with_reducible refine (curnew_calls Ab ((rowB l).length - a) _ ((rowB l).take ((rowB l).length - a)) _ (C_take (Kd.C_below HCB.out HB.out) _ (by omega)) (fun z hz => rowB_bytes l z (List.mem_of_mem_take hz)) (by have := HTL.out; omega)).mono ?_
          rintro e w3 ⟨gd, Ad, cd, rfl, hc, hb⟩
          have hggd := Aside0.mk (Nat.le_trans (below_size HB.out) hc.okg.1)
          obtain ⟨OKd, hOK⟩ : ∃ OKd : Nat → Prop, OKd = fun k => w_.heap.size ≤ k ∧ k < w3.heap.size := ⟨_, rfl⟩
          rw [← hOK] at hc
          have HOKd := Aside0.mk hOK
          have n0 := Aside0.mk (below_step HB.out hb)
          clear HB HC
          have HC := Aside0.mk hc
          clear hc hOK hb
          have HB := n0
          clear n0
          go_wp2_with fail
          go_loopw [10] (fun v8 w' => ∃ i : Int, v8 = .int .i64 i ∧ 0 ≤ i ∧ i ≤ ((l.length : Int) - 1) ∧ Aside0 (CurAt OKd gd ⟨Ad, cd, ((rowB l).take ((rowB l).length - a)), (rowB (l.take i.toNat)).length, 0, 0, false⟩ w') ∧ Aside0 (Below wo.heap.size wo w')) (fun v8 _ => l.length - (intOf v8).toNat)
          case atStart => exact ⟨0, rfl, by omega, by omega, HC, HB⟩
          case round =>
            clear HB HC
            obtain ⟨i, rfl, hi0, hi, HC, HB⟩ := hrel
            by_cases hlt : i < ((l.length : Int) - 1)
            · have hll : i < (l.length : Int) := by omega
              obtain ⟨ad, e, hx⟩ := Kd.at_int HC0.out i hi0 hll
              cases e
              obtain ⟨x, hxe⟩ := Int.eq_ofNat_of_zero_le (rd_bd HL.out i hi0 hll).1
              have hx2 := (rd_bd HL.out i hi0 hll).2
              have HX := Aside0.mk (show x < 18446744073709551616 by omega)
              have HS := rowB_snoc (l := l) (i := i.toNat) (by omega)
              obtain ⟨rest, HD⟩ := rowB_cut (l := l) (i := i.toNat) (away := a) (by omega) (by rw [HYE.out, Int.toNat_natCast]; exact hal2)
              rw [Int.toNat_of_nonneg hi0, hxe, Int.toNat_natCast] at HS HD
              rw [← take_s i hi0] at HS
              have HVP := Aside0.mk (vread_put (A := Ad) (c := cd) HD HX.out)
              have e9 := congrArg List.length HS
              rw [List.length_append] at e9
              rw [← e9] at HVP
              rw [hxe] at hx
              have HCX := Aside0.mk hx
              have hxl : ad.block < w.heap.size := by have := World.block_lt_of_cell? w _ hx; rwa [add_block] at this
              clear hxe hx2 HS e9 HD hx
              have HKX := Aside0.mk (fun W (hb : Below w.heap.size w W) => (Below.cell (p := ad.add i.toNat) hb (by rw [add_block]; exact hxl)).trans HCX.out)
              go_wp2_with fail
              refine start_ (n := 7) (S := fun w' => w'.cell? (ad.add i.toNat) = some (.int .u64 (x : Int))) (ds := []) #[false, false, false, false, false, false, false] (by kernel_rfl) rfl rfl (HKX.out _ (below_drew1 (below_step HBO.out HB.out))) (fun hHeld => ?_)
              refine pure_ (i := 0) (N := some 90) (v := ?_) (a' := ?_) #[true, false, false, false, false, false, false] rfl rfl (by kernel_rfl) (fun _ _ _ h => h) (Or.inl ⟨by rfl, ?_⟩) ?_ ?_
              rotate_left
              · intro w'
                go_simp
                with_reducible rfl
              rotate_left
              · simp only [Act.put, List.setIfInBounds_toArray, List.set_cons_zero, List.set_cons_succ, i64_w, i32_w]
                rfl
              refine pure_ (i := 2) (N := some 92) (v := ?_) (a' := ?_) #[true, false, true, false, false, false, false] rfl rfl (by kernel_rfl) (fun _ _ _ h => h) (Or.inl ⟨by rfl, ?_⟩) ?_ ?_
              rotate_left
              · intro w'
                go_simp
                with_reducible rfl
              rotate_left
              · simp only [Act.put, List.setIfInBounds_toArray, List.set_cons_zero, List.set_cons_succ, i64_w, i32_w]
                rfl
              refine pure_ (i := 3) (N := some 93) (v := ?_) (a' := ?_) #[true, false, true, true, false, false, false] rfl rfl (by kernel_rfl) (fun _ _ _ h => h) (Or.inl ⟨by rfl, ?_⟩) ?_ ?_
              rotate_left
              · intro w'
                go_simp
                with_reducible rfl
              rotate_left
              · simp only [Act.put, List.setIfInBounds_toArray, List.set_cons_zero, List.set_cons_succ, i64_w, i32_w]
                rfl
              refine pure_ (i := 4) (N := some 94) (v := ?_) (a' := ?_) #[true, false, true, true, true, false, false] rfl rfl (by kernel_rfl) (fun _ _ _ h => h) (Or.inl ⟨by rfl, ?_⟩) ?_ ?_
              rotate_left
              · intro w'
                go_simp
                with_reducible rfl
              rotate_left
              · simp only [Act.put, List.setIfInBounds_toArray, List.set_cons_zero, List.set_cons_succ, i64_w, i32_w]
                rfl
              refine take_ (i := 5) (N := some 95) (v := ?_) (a' := ?_) #[true, false, true, true, true, true, false] rfl rfl (by kernel_rfl) (fun _ _ _ h => h) (Or.inl ⟨by rfl, ?_⟩) hHeld ?_ ?_
              rotate_left
              · intro w' s0
                go_simp
                with_reducible rfl
              rotate_left
              · simp only [Act.put, List.setIfInBounds_toArray, List.set_cons_zero, List.set_cons_succ, i64_w, i32_w]
                rfl
              refine one_ (i := 1) (N := some 91) #[true, true, true, true, true, true, false] rfl rfl (by kernel_rfl) (by decide) (fun K hK => ?_)
              refine goes_ Try.func35 (by kernel_rfl) rfl #[.pointer (some ⟨gd, 0, none⟩)] (by rfl) rfl rfl (by first | (simp only [List.map_toArray, List.map_cons, List.map_nil]; done) | (simp only [List.map_toArray, List.map_cons, List.map_nil]; rfl) | simp) ?_
              with_reducible refine (vread2 gd HC.out.drew HVP.out).mono ?_
              rintro e w3 ⟨rfl, hc3, hg3⟩
              have HB3 := Aside0.mk ((below_drew1 HB.out).trans (hg3.to_below (fun k hk => by rw [hk]; exact hggd.out) (below_size (below_drew1 HB.out))))
              refine ⟨_, rfl, ?_⟩
              refine hK.out _ _ (HKX.out _ (below_step HBO.out HB3.out)) (fun hHeld => ?_)
              clear hK K
              refine norm_ (a' := ?_) ?_ ?_
              rotate_left
              · show Act.put _ (some 91) _ = _
                simp only [Act.put, List.setIfInBounds_toArray, List.set_cons_zero, List.set_cons_succ, i64_w, i32_w]
                rfl
              refine pure_ (i := 6) (N := some 96) (v := ?_) (a' := ?_) #[true, true, true, true, true, true, true] rfl rfl (by kernel_rfl) (fun _ _ _ h => h) (Or.inl ⟨by rfl, ?_⟩) ?_ ?_
              rotate_left
              · intro w'
                go_simp
                with_reducible rfl
              rotate_left
              · simp only [Act.put, List.setIfInBounds_toArray, List.set_cons_zero, List.set_cons_succ, i64_w, i32_w]
                rfl
              refine done_ (by kernel_rfl) ?_
              go_wp2
              go_roundw
              case rel => exact ⟨i + 1, by go_num, by omega, by omega, ⟨hc3⟩, HB3⟩
              case measure => simp [intOf]; omega
            · have hie : i.toNat = l.length - 1 := by omega
              have HT := Aside0.mk (show ((rowB l).take ((rowB l).length - a)).length = (rowB l).length - a by rw [List.length_take]; omega)
              have HVS := Aside0.mk (vread_short (A := Ad) (c := cd) (b := (rowB l).take ((rowB l).length - a)) (p := (rowB (l.take (l.length - 1))).length) (x := y) (j := (vput y).length - a) (by rw [HT.out]; have := HSL2.out; omega) (by have h := rowB_last (l := l) (away := a) (by omega) (by rw [HYE.out, Int.toNat_natCast]; exact hal2); rw [HYE.out, Int.toNat_natCast] at h; exact h) (by omega) HY.out)
              rw [hie] at HC
              clear hie
              go_wp2_with fail
              with_reducible refine Calls.stepB (curfault2 (a := 0) (b := 0) gd (by (with_reducible repeat (first | apply CurAt.alloc | apply CurAt.drewN | apply CurAt.drew)); exact HC.out) rfl rfl) ⟨(by repeat (first | (with_reducible first | exact HB.out | apply below_alloc | apply pw_below_drewN | apply below_drew1) | exact HB.out))⟩ ?_
              clear HB
              intro w_ HK HB
              have n0 := Aside0.mk (CurAt.below (by (with_reducible repeat (first | apply CurAt.alloc | apply CurAt.drewN | apply CurAt.drew)); exact HC.out) HK.out)
              clear HC
              have HC := n0
              clear n0
              clear HK
              go_wp2_with fail
              with_reducible refine Calls.stepC (vread2 gd (by (with_reducible repeat (first | apply CurAt.alloc | apply CurAt.drewN | apply CurAt.drew)); exact HC.out) HVS.out) ⟨(by repeat (first | (with_reducible first | exact HB.out | apply below_alloc | apply pw_below_drewN | apply below_drew1) | exact HB.out))⟩ hggd ?_
              clear HB HC
              intro w_ HC HK HB
              clear HK
              rw [HT.out] at HC
              go_wp2_with fail
              with_reducible refine Calls.stepB (curfault2 (a := 13) (b := (((rowB l).length - a : Nat) : Int)) gd (by (with_reducible repeat (first | apply CurAt.alloc | apply CurAt.drewN | apply CurAt.drew)); exact HC.out) rfl rfl) ⟨(by repeat (first | (with_reducible first | exact HB.out | apply below_alloc | apply pw_below_drewN | apply below_drew1) | exact HB.out))⟩ ?_
              clear HB
              intro w_ HK HB
              have n0 := Aside0.mk (CurAt.below (by (with_reducible repeat (first | apply CurAt.alloc | apply CurAt.drewN | apply CurAt.drew)); exact HC.out) HK.out)
              clear HC
              have HC := n0
              clear n0
              clear HK
              go_wp2_with fail
              with_reducible refine Calls.stepB (awake02_calls _) ⟨(by repeat (first | (with_reducible first | exact HB.out | apply below_alloc | apply pw_below_drewN | apply below_drew1) | exact HB.out))⟩ ?_
              clear HB
              intro w_ HK HB
              clear HK
              go_wp2
              go_ret
              exact ⟨rfl, below_step HBO.out HB.out⟩
namespace varintRows
open Go.ChangeShapes Go.WideShapes Go.ChangeAt Go.RowKit
open Go.ChangeMaps (open_string shut_string)
theorem own : ownKnob Try.prog.godebug = none := by kernel_rfl
theorem laidOut : laidOutB Try.prog = true := by kernel_rfl
set_option maxRecDepth 100000 in
theorem lifted (os : Os) (started : os.Started) (H : Type) (enc : TypeId × Value → H) :
    ReturnsInHanded {} Try.checked os 14 .any (Rows.varintRowsSpec.pre6 enc Try.prog Try.f14 Rows.varintRowsRow.domain false) (Rows.varintRowsSpec.post enc Try.prog Try.f14 false true false false) := by
  refine returnsInHanded_of_change_sized (C := Try.checked) own started (by kernel_rfl) Try.func14
    (ChangeSpec.witness6 (enc := enc) (C := Try.checked) false ⟨#[], #[.slice none 0 0, .int .i64 0], []⟩ 8 (by kernel_rfl) (by kernel_rfl) (by kernel_rfl) (by kernel_rfl)) ?_
  intro W base args ds gs before hval0 hW hcnd hsz0 _
  have hsz : (DataW.weightsEach Try.prog (Try.f14.params.toList ++ Rows.varintRowsSpec.plain.varTypes Try.prog) (ds ++ gs)).all (· ≤ reachBytes) = true := hsz0
  have hval : ∀ (j : Nat) t v, Try.f14.params[j]? = some t → args[j]? = some v → Value.okWide Try.prog W .any base t v := hval0
  have hW' := hW
  obtain ⟨p, q, hA0, hV, rfl, hfz, hnd⟩ := hW
  have hA : DataW.TrodAll enc Try.prog W 0 (fun _ => true) true Try.f14.params.toList args.toList ds p := hA0
  rw [Try.params14] at hA hval hsz
  obtain ⟨v0, vs0, d0, ds0, p0, q0, hargs, rfl, rfl, h0, r0⟩ := trodAll_cons hA
  obtain ⟨v1, vs1, d1, ds1, p1, q1, rfl, rfl, rfl, h1, r1⟩ := trodAll_cons r0
  obtain ⟨rfl, rfl, rfl⟩ := trodAll_nil r1
  obtain rfl : args = #[v0, v1] := by cases args; simp_all
  obtain ⟨rfl, rfl⟩ := trodVars_none hV
  obtain ⟨a0, len0, cap0, rfl⟩ := okWide_slice Try.underlying60 (hval 0 60 v0 rfl rfl)
  have k0 := h0
  have lt0 : ∀ x ∈ p0, x.block < W.heap.size := by obtain ⟨m, hm⟩ := k0; exact DataW.trod_lt m _ _ _ hm
  have y0 : len0 * 8 ≤ 140737488351232 := sized_ints hsz (j := 0) (t := 60) rfl rfl Try.underlying60 Try.underlying24 (by kernel_rfl) (by kernel_rfl) h0
  obtain ⟨l0, c0, b0, e0⟩ := open_row Try.underlying60 Try.underlying24 (by kernel_rfl) (by omega) h0
  obtain rfl := c0.1.symm
  obtain ⟨a1, rfl, rfl, rfl, w1⟩ := open_int Try.underlying3 (hval 1 3 v1 rfl rfl) h1
  clear hA0 hval0 hsz0 hsz
  refine (varintRows_walk a0 cap0 l0 a1 W c0 b0 y0 e0 (bounds_i64 w1)).mono fun e W' ⟨he, bel⟩ => ?_
  subst he
  exact ⟨_, rfl, _, _, _, [], _, [], hW', trodAll_mk1 (shut_bool Try.underlying4 _), (trodAll_cons_mk (Below.trod laidOut (by kernel_rfl) (of_decide_eq_true (by kernel_rfl)) k0 bel lt0) (trodAll_cons_mk (shut_int Try.underlying3 w1) trodAll_mk0)), rfl, bel.frame _, fun h => by cases h⟩
theorem over : Rows.varintRowsRow.holds Try.pinned (OpenSpec.ofChange Rows.varintRowsSpec) :=
  OpenClaim.holds_of_wide 14 Try.f14 rfl rfl rfl rfl rfl rfl rfl ⟨rfl, rfl, rfl, rfl, rfl⟩ rfl rfl rfl rfl rfl (by kernel_rfl) Try.func14 (by kernel_rfl)
    (of_decide_eq_true (by kernel_rfl)) (by unfold Func.isWrapper; first | (rw [if_pos (by decide +kernel)]; kernel_rfl) | (rw [if_neg (by decide +kernel)]; exact ⟨rfl, rfl⟩))
    (fun os started H enc _ => lifted os started H enc)
theorem proved : Rows.VarintRowsSaid := over
end varintRows
/-- The row, under a short name, for the claim. -/
theorem varintRows_holds : Rows.VarintRowsSaid := varintRows.proved
#print axioms varintRows_holds
end Go.Proofs.Ytgaboaeeodiadaa
