/- DictOwn: words that are told are the caller's, and what a nil dictionary, and a nil Cur, tell: its walk; no condition. -/
import Derived.Test.YtmbfjaogimkncaaPutsW
import Derived.Test.YtmbfjaogimkncaaLawKit
import Derived.Test.YtmbfjaogimkncaaRows
namespace Go.Proofs.Ytmbfjaogimkncaa
open Go.RowKit Go.Proofs.YtmbfjaogimkncaaW.PrintWords Go.Proofs.YtmbfjaogimkncaaW.PrintLast Go.Proofs.YtmbfjaogimkncaaW.PrintMore
set_option linter.unusedVariables false
set_option linter.unusedSimpArgs false
theorem cu_byte (A : Option Addr) (c : Nat) : (⟨A, c, [0, 1, 97], 0, 0, 0, false⟩ : Cu).take 1 = ⟨A, c, [0, 1, 97], 1, 0, 0, false⟩ := by rfl
theorem cu_byteV (A : Option Addr) (c : Nat) : (⟨A, c, [0, 1, 97], 0, 0, 0, false⟩ : Cu).byteV = 0 := by rfl
theorem cu_fail (A : Option Addr) (c : Nat) : (⟨A, c, [0, 1, 97], 1, 0, 0, false⟩ : Cu).fail 2 1 = ⟨A, c, [0, 1, 97], 1, 2, 1, false⟩ := by rfl
attribute [local go_sem high] eqFault
set_option maxHeartbeats 8000000 in
set_option maxRecDepth 100000 in
theorem dictOwn_walk (A : Option Addr) (c : Nat) (l : List ByteArray) (kind : Int) (w : World) (hC : Kd.string.C w A l.length l) (hwf : ∀ x ∈ l, x.size ≤ 9223372036854775807) (hsz : l.length * 16 ≤ 140737488351232) (hcap : l.length ≤ c) (hkb : -9223372036854775808 ≤ kind ∧ kind ≤ 9223372036854775807) :
    Calls Try.prog 13 #[.slice A l.length c, .int .i64 kind] w fun e w' => e = .returned (.bool true) ∧ Below w.heap.size w w' := by
  have HCW := Aside0.mk hC
  have HFE := Aside0.mk (fun W (hb : Below w.heap.size w W) => few15_calls A c l W (Kd.C_below hC hb) hwf)
  clear hC hwf hsz hkb
  have HB := Aside0.mk (Below.refl w.heap.size w)
  go_enter Try.func13, Try.ntmps13
  go_wp2_with fail
  with_reducible refine Calls.stepEq (nildicput_calls _ _) ?_
  go_wp2_with fail
  refine Calls.stepCur (lit_C 5 [0, 1, 97] (by decide)) (by decide) (by decide) ⟨(by repeat (first | (with_reducible first | exact HB.out | apply below_alloc | apply pw_below_drewN | apply below_drew1) | exact HB.out))⟩ ?_
  clear HB
  intro ok1 g1 A1' c1' w1 HCu hlo HOK hb1 HB
  clear hlo hb1
  have hg1 := Aside0.mk (HOK.out g1 HCu.out.okg).1
  go_wp2_with fail
  with_reducible refine Calls.stepC (curbyte_calls g1 ⟨A1', c1', [0, 1, 97], 0, 0, 0, false⟩ _ HCu.out) HB hg1 ?_
  clear HCu HB
  intro w2 HCu hgc HB
  clear hgc
  rw [cu_byte] at HCu
  rw [cu_byteV]
  go_wp2_with fail
  with_reducible refine Calls.stepC (nildicget_calls g1 ⟨A1', c1', [0, 1, 97], 1, 0, 0, false⟩ kind _ HCu.out rfl rfl) HB hg1 ?_
  clear HCu HB
  intro w3 HCu hgc HB
  clear hgc
  rw [show ((⟨A1', c1', [0, 1, 97], 1, 0, 0, false⟩ : Cu).pos : Int) = 1 from rfl, cu_fail] at HCu
  go_wp2_with fail
  with_reducible refine Calls.stepEq (nildiclen_calls _) ?_
  go_wp2_with fail
  with_reducible refine Calls.stepEq (nildicwords_calls _) ?_
  go_wp2_with fail
  with_reducible refine Calls.stepB (curfault_at g1 ⟨A1', c1', [0, 1, 97], 1, 2, 1, false⟩ 2 1 _ (by first | (with_reducible exact HCu.out) | ((with_reducible repeat (first | apply CurAt.alloc | apply CurAt.drewN | apply CurAt.drew)); exact HCu.out)) rfl rfl) ⟨(by repeat (first | (with_reducible first | exact HB.out | apply below_alloc | apply pw_below_drewN | apply below_drew1) | exact HB.out))⟩ ?_
  clear HB
  intro w_ HK HB
  clear HK
  cases hfew : fewB l with
  | false =>
    rw [hfew] at HFE
    clear hfew
    go_wp2_with fail
    with_reducible refine Calls.stepB (Calls.dB (HFE.out _ (by repeat (first | (with_reducible first | exact HB.out | apply below_alloc | apply pw_below_drewN | apply below_drew1) | exact HB.out)))) ⟨(by repeat (first | (with_reducible first | exact HB.out | apply below_alloc | apply pw_below_drewN | apply below_drew1) | exact HB.out))⟩ ?_
    clear HB
    intro w_ HK HB
    clear HK
    go_wp2_with fail
    with_reducible refine Calls.stepB (awake15_calls _) ⟨(by repeat (first | (with_reducible first | exact HB.out | apply below_alloc | apply pw_below_drewN | apply below_drew1) | exact HB.out))⟩ ?_
    clear HB
    intro w_ HK HB
    clear HK
    go_wp2
    go_ret
    exact ⟨rfl, (by repeat (first | (with_reducible first | exact HB.out | apply below_alloc | apply pw_below_drewN | apply below_drew1) | exact HB.out))⟩
  | true =>
    rw [hfew] at HFE
    have hfew2 : l.length ≤ 80 ∧ ∀ s ∈ l, s.size ≤ 300 := of_decide_eq_true hfew
    have hl80 := hfew2.1
    have HSZ := Aside0.mk hfew2.2
    clear hfew hfew2
    go_wp2_with fail
    with_reducible refine Calls.stepB (Calls.dB (HFE.out _ (by repeat (first | (with_reducible first | exact HB.out | apply below_alloc | apply pw_below_drewN | apply below_drew1) | exact HB.out)))) ⟨(by repeat (first | (with_reducible first | exact HB.out | apply below_alloc | apply pw_below_drewN | apply below_drew1) | exact HB.out))⟩ ?_
    clear HB
    intro w_ HK HB
    clear HK
    go_wp2_with fail
    with_reducible refine Calls.stepNew HB ?_
    clear HB
    intro g gm w5 HD hnew HF hb1 HB
    clear hnew hb1
    go_wp2
    go_loopw [11] (fun v5 w' => ∃ (i : Int) (vd : Value), v5 = .int .i64 i ∧ 0 ≤ i ∧ i ≤ (l.length : Int) ∧ Aside0 (DicAt ⟨g, gm, vd, putsW [] (l.take i.toNat)⟩ w') ∧ Aside0 (∀ k, (⟨g, gm, vd, putsW [] (l.take i.toNat)⟩ : Dic).F k → w.heap.size ≤ k) ∧ Aside0 (Below w.heap.size w w')) (fun v5 _ => l.length - (intOf v5).toNat)
    case atStart => exact ⟨0, _, rfl, by omega, by omega, HD, HF, HB⟩
    case round =>
      clear HB HD HF
      obtain ⟨i, vd, rfl, hi0, hi, HD, HF, HB⟩ := hrel
      obtain ⟨ws, hws⟩ : ∃ ws, putsW [] (l.take i.toNat) = ws := ⟨_, rfl⟩
      rw [hws] at HD HF
      have HWS := Aside0.mk hws
      clear hws
      obtain ⟨wo, rfl⟩ : ∃ wo : World, wo = wr := ⟨_, rfl⟩
      by_cases hlt : i < (l.length : Int)
      · obtain ⟨ad, e, hx0⟩ := str_at HCW.out i hi0 hlt
        cases e
        obtain ⟨s0, hs0⟩ : ∃ s, l.getD i.toNat ByteArray.empty = s := ⟨_, rfl⟩
        rw [hs0] at hx0
        have hs300 := HSZ.out s0 (by rw [← hs0]; exact getD_mem (by omega))
        have HNX := Aside0.mk (show putsW [] (l.take (i + 1).toNat) = (dput ws s0).2.2 by rw [putsW_take hi0 hlt, HWS.out, hs0])
        obtain ⟨xs, code, ws', he⟩ : ∃ xs code ws', dput ws s0 = (xs, code, ws') := ⟨_, _, _, rfl⟩
        rw [he] at HNX
        have HE := Aside0.mk he
        have hx1 := pw_cell_below HB.out hx0
        clear hs0 he hx0
        go_wp2_with fail
        with_reducible refine Calls.stepPut (HE.out) (by omega) ⟨(by (with_reducible repeat (first | apply DicAt.alloc | apply DicAt.drewN | apply DicAt.drew)); exact HD.out)⟩ HF ⟨(by repeat (first | (with_reducible first | exact HB.out | apply below_alloc | apply pw_below_drewN | apply below_drew1) | exact HB.out))⟩ ?_
        clear HB
        intro A1 c1 vd1 w_ n1 n2 HG1 HN1 HR1 HB
        have HDO1 := HD
        clear HD HF
        have HD := n1
        have HF := n2
        clear n1 n2
        clear HR1 HG1 HN1 HDO1
        go_wp2
        go_roundw
        case rel => exact ⟨i + 1, vd1, by go_num, by omega, by omega, by rw [HNX.out]; exact HD, by rw [HNX.out]; exact HF, HB⟩
        case measure => simp [intOf]; omega
      · have hsh := HD.out.short
        have HSH := Aside0.mk (show ∀ s ∈ ws, s.size ≤ 200 from hsh)
        have hwf := HD.out.few
        have hw6 : ws.length ≤ 65536 := hwf
        clear hsh hwf
        go_wp2_with fail
        with_reducible refine (dicwords_calls ⟨g, gm, vd, ws⟩ _ HD.out).mono ?_
        rintro e w6 ⟨v6, rfl, hv6, hb6⟩
        obtain ⟨A6, c6, rfl, _, hC6⟩ := Kd.R_reads hv6
        have HC6 := Aside0.mk hC6
        have n0 := Aside0.mk (HD.out.below hb6)
        have n1 := Aside0.mk (below_step HB.out hb6)
        clear HD HB hv6 hC6 hb6
        have HD := n0
        have HB := n1
        clear n0 n1
        go_wp2_with fail
        with_reducible refine (dicwords_calls ⟨g, gm, vd, ws⟩ _ HD.out).mono ?_
        rintro e w7 ⟨v7, rfl, hv7, hb7⟩
        obtain ⟨A7, c7, rfl, _, _⟩ := Kd.R_reads hv7
        have HO := Aside0.mk (Kd.own_of_R (enc := Value.string) (h1 := fun _ => rfl) hv7)
        have HB7 := Aside0.mk hb7
        clear hv7 hb7
        go_wp2
        go_loopw [14] (fun v14 w' => ∃ (i : Int) (xs : List ByteArray), v14 = .int .i64 i ∧ 0 ≤ i ∧ i ≤ (ws.length : Int) ∧ Aside0 (xs.length = ws.length ∧ (∀ j : Nat, i ≤ (j : Int) → xs.getD j ByteArray.empty = ws.getD j ByteArray.empty) ∧ w'.ownsRow w6.heap.size 9 1 (.slice A7 ws.length c7) ws.length (encs Value.string xs)) ∧ Aside0 (Below w6.heap.size w6 w')) (fun v14 _ => ws.length - (intOf v14).toNat)
        case atStart => exact ⟨0, ws, rfl, by omega, by omega, ⟨rfl, fun _ _ => rfl, HO.out⟩, HB7⟩
        case round =>
          clear HO HB7
          obtain ⟨j, xs, rfl, hj0, hj, HX, HB7⟩ := hrel
          by_cases hjlt : j < (ws.length : Int)
          · obtain ⟨g7, c7', e7, hg7, _⟩ := HX.out.2.2.form (by omega)
            have e8 : A7 = some ⟨g7, 0, none⟩ := by injection e7
            subst e8
            have hat := own_at_of (d := ByteArray.empty) HX.out.2.2 j hj0 hjlt
            obtain ⟨hx1, hx2⟩ := hat
            have hst := own_store_of HX.out.2.2 j (rdOf ByteArray.empty xs j ++ (⟨#[120]⟩ : ByteArray))
            have HST := Aside0.mk hst
            have hjn : j.toNat < ws.length := by omega
            have HT := Aside0.mk (show rdOf ByteArray.empty xs j = ws.getD j.toNat ByteArray.empty from HX.out.2.1 j.toNat (by omega))
            obtain ⟨t, ht⟩ : ∃ t, rdOf ByteArray.empty xs j = t := ⟨_, rfl⟩
            rw [ht] at hx1 HST HT
            have htz : t.size ≤ 200 := by rw [HT.out]; exact HSH.out _ (getD_mem hjn)
            clear hst ht HT e7
            go_wp2
            have hgb := own_base HX.out.2.2 g7 (by simp [Value.ownBlock])
            have HNX := Aside0.mk (show (xs.set j.toNat (t ++ (⟨#[120]⟩ : ByteArray))).length = ws.length ∧ (∀ q : Nat, j + 1 ≤ (q : Int) → (xs.set j.toNat (t ++ (⟨#[120]⟩ : ByteArray))).getD q ByteArray.empty = ws.getD q ByteArray.empty) from by
              refine ⟨by rw [List.length_set]; exact HX.out.1, fun q hq => ?_⟩
              rw [List.getD_eq_getElem?_getD, List.getElem?_set_ne (by omega), ← List.getD_eq_getElem?_getD]
              exact HX.out.2.1 q (by omega))
            go_roundw
            case rel => exact ⟨j + 1, _, by go_num, by omega, by omega, ⟨HNX.out.1, HNX.out.2, HST.out.1⟩, ⟨HB7.out.setCell (p := ⟨g7, j.toNat, none⟩) hgb _⟩⟩
            case measure => simp [intOf]; omega
          · have n0 := Aside0.mk (HD.out.below HB7.out)
            have n1 := Aside0.mk (Kd.C_below HC6.out HB7.out)
            have n2 := Aside0.mk (below_step HB.out HB7.out)
            clear HD HC6 HB HB7 HX
            have HD := n0
            have HC6 := n1
            have HB := n2
            clear n0 n1 n2
            obtain ⟨w8, rfl⟩ : ∃ w8 : World, w8 = wr := ⟨_, rfl⟩
            go_wp2_with fail
            with_reducible refine Calls.stepB (dicgetnil_calls _ kind _) ⟨(by repeat (first | (with_reducible first | exact HB.out | apply below_alloc | apply pw_below_drewN | apply below_drew1) | exact HB.out))⟩ ?_
            clear HB
            intro w_ HK HB
            have n0 := Aside0.mk (HD.out.below HK.out)
            have n1 := Aside0.mk (Kd.C_below HC6.out HK.out)
            clear HD HC6 HK
            have HD := n0
            have HC6 := n1
            clear n0 n1
            go_wp2_with fail
            with_reducible refine (dicwords_calls ⟨g, gm, vd, ws⟩ _ HD.out).mono ?_
            rintro e w9 ⟨v9, rfl, hv9, hb9⟩
            obtain ⟨A9, c9, rfl, _, hC9⟩ := Kd.R_reads hv9
            have HC9 := Aside0.mk hC9
            have n1 := Aside0.mk (Kd.C_below HC6.out hb9)
            have n2 := Aside0.mk (below_step HB.out hb9)
            clear HC6 HB hv9 hC9 hb9
            have HC6 := n1
            have HB := n2
            clear n1 n2
            go_wp2_with fail
            with_reducible refine Calls.stepB (Calls.dB (words15_calls A9 _ c9 ws A6 _ c6 ws _ HC9.out HC6.out)) ⟨(by repeat (first | (with_reducible first | exact HB.out | apply below_alloc | apply pw_below_drewN | apply below_drew1) | exact HB.out))⟩ ?_
            clear HB
            intro w_ HK HB
            clear HK
            rw [decide_eq_true rfl]
            go_wp2_with fail
            with_reducible refine Calls.stepB (awake15_calls _) ⟨(by repeat (first | (with_reducible first | exact HB.out | apply below_alloc | apply pw_below_drewN | apply below_drew1) | exact HB.out))⟩ ?_
            clear HB
            intro w_ HK HB
            clear HK
            go_wp2
            go_ret
            exact ⟨rfl, (by repeat (first | (with_reducible first | exact HB.out | apply below_alloc | apply pw_below_drewN | apply below_drew1) | exact HB.out))⟩
namespace dictOwn
open Go.ChangeShapes Go.WideShapes Go.ChangeAt Go.RowKit
open Go.ChangeMaps (open_string shut_string)
theorem own : ownKnob Try.prog.godebug = none := by kernel_rfl
theorem laidOut : laidOutB Try.prog = true := by kernel_rfl
set_option maxRecDepth 100000 in
theorem lifted (os : Os) (started : os.Started) (H : Type) (enc : TypeId × Value → H) :
    ReturnsInHanded {} Try.checked os 13 .any (Rows.dictOwnSpec.pre6 enc Try.prog Try.f13 Rows.dictOwnRow.domain false) (Rows.dictOwnSpec.post enc Try.prog Try.f13 false true false false) := by
  refine returnsInHanded_of_change_sized (C := Try.checked) own started (by kernel_rfl) Try.func13
    (ChangeSpec.witness6 (enc := enc) (C := Try.checked) false ⟨#[], #[.slice none 0 0, .int .i64 0], []⟩ 8 (by kernel_rfl) (by kernel_rfl) (by kernel_rfl) (by kernel_rfl)) ?_
  intro W base args ds gs before hval0 hW hcnd hsz0 _
  have hsz : (DataW.weightsEach Try.prog (Try.f13.params.toList ++ Rows.dictOwnSpec.plain.varTypes Try.prog) (ds ++ gs)).all (· ≤ reachBytes) = true := hsz0
  have hval : ∀ (j : Nat) t v, Try.f13.params[j]? = some t → args[j]? = some v → Value.okWide Try.prog W .any base t v := hval0
  have hW' := hW
  obtain ⟨p, q, hA0, hV, rfl, hfz, hnd⟩ := hW
  have hA : DataW.TrodAll enc Try.prog W 0 (fun _ => true) true Try.f13.params.toList args.toList ds p := hA0
  rw [Try.params13] at hA hval hsz
  obtain ⟨v0, vs0, d0, ds0, p0, q0, hargs, rfl, rfl, h0, r0⟩ := trodAll_cons hA
  obtain ⟨v1, vs1, d1, ds1, p1, q1, rfl, rfl, rfl, h1, r1⟩ := trodAll_cons r0
  obtain ⟨rfl, rfl, rfl⟩ := trodAll_nil r1
  obtain rfl : args = #[v0, v1] := by cases args; simp_all
  obtain ⟨rfl, rfl⟩ := trodVars_none hV
  obtain ⟨a0, len0, cap0, rfl⟩ := okWide_slice Try.underlying64 (hval 0 64 v0 rfl rfl)
  have k0 := h0
  have lt0 : ∀ x ∈ p0, x.block < W.heap.size := by obtain ⟨m, hm⟩ := k0; exact DataW.trod_lt m _ _ _ hm
  have y0 : len0 * 16 ≤ 140737488351232 := sized_strs hsz (j := 0) (t := 64) rfl rfl Try.underlying64 Try.underlying9 (by kernel_rfl) (by kernel_rfl) h0
  obtain ⟨l0, c0, b0, e0⟩ := open_srow Try.underlying64 Try.underlying9 (by kernel_rfl) (by omega) h0
  obtain rfl := c0.1.symm
  obtain ⟨a1, rfl, rfl, rfl, w1⟩ := open_int Try.underlying3 (hval 1 3 v1 rfl rfl) h1
  clear hA0 hval0 hsz0 hsz
  refine (dictOwn_walk a0 cap0 l0 a1 W c0 b0 y0 e0 (bounds_i64 w1)).mono fun e W' ⟨he, bel⟩ => ?_
  subst he
  exact ⟨_, rfl, _, _, _, [], _, [], hW', trodAll_mk1 (shut_bool Try.underlying4 _), (trodAll_cons_mk (Below.trod laidOut (by kernel_rfl) (of_decide_eq_true (by kernel_rfl)) k0 bel lt0) (trodAll_cons_mk (shut_int Try.underlying3 w1) trodAll_mk0)), rfl, bel.frame _, fun h => by cases h⟩
theorem over : Rows.dictOwnRow.holds Try.pinned (OpenSpec.ofChange Rows.dictOwnSpec) :=
  OpenClaim.holds_of_wide 13 Try.f13 rfl rfl rfl rfl rfl rfl rfl ⟨rfl, rfl, rfl, rfl, rfl⟩ rfl rfl rfl rfl rfl (by kernel_rfl) Try.func13 (by kernel_rfl)
    (of_decide_eq_true (by kernel_rfl)) (by unfold Func.isWrapper; first | (rw [if_pos (by decide +kernel)]; kernel_rfl) | (rw [if_neg (by decide +kernel)]; exact ⟨rfl, rfl⟩))
    (fun os started H enc _ => lifted os started H enc)
theorem proved : Rows.DictOwnSaid := over
end dictOwn
/-- The row, under a short name, for the claim. -/
theorem dictOwn_holds : Rows.DictOwnSaid := dictOwn.proved
#print axioms dictOwn_holds
end Go.Proofs.Ytmbfjaogimkncaa
