/- BatchOnce: Normal of a Normal is the same, a batch has one form with its Normal, and this is, metric by metric, that of each metric: its walk; for every batch, no condition. -/
import Derived.Test.YteamldgngknmfaaZGRBat9
import Derived.Test.YteamldgngknmfaaZGLawMetC
import Derived.Test.YteamldgngknmfaaRows
import Derived.Test.YteamldgngknmfaaZGPEx15
namespace Go.Proofs.Yteamldgngknmfaa
open Go.RowKit Go.Proofs.YteamldgngknmfaaW.PrintWords Go.Proofs.YteamldgngknmfaaW.PrintLast Go.Proofs.YteamldgngknmfaaW.PrintMore Go.Proofs.Yteamldgngknmfaa.PE
set_option linter.unusedVariables false
set_option linter.unusedSimpArgs false
theorem batGo_bad (of : S25 → Int) : ∀ (l : List S25) (i : Int), (batGo of l i).2 ≠ 0 → ∃ (j : Nat) (m : S25), l[j]? = some m ∧ batGo of l i = (i + j, of m) ∧ of m ≠ 0 ∧ ∀ x ∈ l.take j, of x = 0
  | [], _, h => absurd rfl h
  | x :: l, i, h => by
    unfold batGo at h ⊢
    by_cases hx : of x = 0
    · rw [if_pos hx] at h ⊢
      obtain ⟨j, m, h1, h2, h3, h4⟩ := batGo_bad of l _ h
      refine ⟨j + 1, m, by simpa using h1, ?_, h3, ?_⟩
      · rw [h2]
        congr 1
        omega
      · intro y hy
        rw [List.take_succ_cons] at hy
        rcases List.mem_cons.1 hy with rfl | hy
        · exact hx
        · exact h4 y hy
    · rw [if_neg hx]
      exact ⟨0, x, rfl, by simp, hx, by simp⟩
theorem once8_l0 (l : List S25) (hi : ∀ m ∈ l, metIn m = true) (hs : ∀ m ∈ l, m.f2.length ≤ 80 ∧ m.f4.length ≤ 40) (hl : l.length ≤ 1000) (hz : ∀ m ∈ l, (metNorm m).2 = 0) : ∀ (d i : Nat), i + d = l.length → Ev (fun k => forebaylaw08_BatchOnce.l0 k l (l.map fun m => (metNorm m).1) (i : Int)) true := by
  have haw : Ev (fun k => (forebaylaw08_awake.f k).bind fun t => (some t)) true := Ev.bind awake08_ev (Ev.now _)
  intro d
  induction d with
  | zero =>
    intro i hd
    refine Ev.step (fun k => ?_) haw
    simp only [forebaylaw08_BatchOnce.l0]
    rw [if_neg (by omega)]
  | succ d ih =>
    intro i hd
    have hlt : i < l.length := by omega
    have hln : i < (l.map fun m => (metNorm m).1).length := by rw [List.length_map]; exact hlt
    have hw := w1 i (by omega)
    have hm := List.getElem_mem hlt
    have hsm := hs _ hm
    have hzm := hz _ hm
    have hg := metNorm_good _ (hi _ hm) hzm
    have hlen := metNorm_len (l[i]'hlt) (by omega) (by omega)
    have he : (l.map fun m => (metNorm m).1)[i]'hln = (metNorm (l[i]'hlt)).1 := List.getElem_map _
    have hr := rd_met (l.map fun m => (metNorm m).1) i hln
    rw [he] at hr
    obtain ⟨t, ht, hti⟩ := meq_ev (metNorm (l[i]'hlt)).1 (metNorm (l[i]'hlt)).1 (by omega) (by omega)
    obtain rfl : t = true := hti.2 rfl
    obtain ⟨u, hu, hui⟩ := msame_ev (l[i]'hlt) (metNorm (l[i]'hlt)).1 (hi _ hm) hg.1 (by omega) (by omega) (by omega) (by omega)
    obtain rfl : u = true := hui.2 ⟨hzm, by rw [hg.2.2.2], by rw [hg.2.2.2]⟩
    refine Ev.step (f := fun k => (metric_Equal.f k (metNorm (l[i]'hlt)).1.f0 (metNorm (l[i]'hlt)).1.f1 (metNorm (l[i]'hlt)).1.f2 (metNorm (l[i]'hlt)).1.f3 (metNorm (l[i]'hlt)).1.f4 (metNorm (l[i]'hlt)).1.f5 (metNorm (l[i]'hlt)).1.f0 (metNorm (l[i]'hlt)).1.f1 (metNorm (l[i]'hlt)).1.f2 (metNorm (l[i]'hlt)).1.f3 (metNorm (l[i]'hlt)).1.f4 (metNorm (l[i]'hlt)).1.f5).bind fun t633 => (if t633 = true then ((metric_Same.f k (l[i]'hlt).f0 (l[i]'hlt).f1 (l[i]'hlt).f2 (l[i]'hlt).f3 (l[i]'hlt).f4 (l[i]'hlt).f5 (metNorm (l[i]'hlt)).1.f0 (metNorm (l[i]'hlt)).1.f1 (metNorm (l[i]'hlt)).1.f2 (metNorm (l[i]'hlt)).1.f3 (metNorm (l[i]'hlt)).1.f4 (metNorm (l[i]'hlt)).1.f5).bind fun t636 => (if t636 = true then forebaylaw08_BatchOnce.l0 k l (l.map fun m => (metNorm m).1) ((i + 1 : Nat) : Int) else none)) else none)) (fun k => ?_) (Ev.bind ht (Ev.congr (fun k => if_pos rfl) (Ev.bind hu (Ev.congr (fun k => if_pos rfl) (ih (i + 1) (by omega))))))
    simp only [forebaylaw08_BatchOnce.l0]
    rw [if_pos (by omega), if_pos (by omega), rd_met l i hlt, mnorm_f _ (hi _ hm) (by omega) (by omega), Option.bind_some, if_pos (show (normT (l[i]'hlt)).2.2.2.2.2.2 = 0 from hzm), if_pos (by rw [List.length_map]; omega), hr, hw]
    rfl
theorem batchOnce_pure (l : List S25) (hi : ∀ m ∈ l, metIn m = true) : ∃ k, forebaylaw08_BatchOnce.f k l = some true := by
  refine Ev.rounds ?_
  obtain ⟨b, hb, hl⟩ := few8_ev l
  have haw : Ev (fun k => (forebaylaw08_awake.f k).bind fun t => (some t)) true := Ev.bind awake08_ev (Ev.now _)
  unfold forebaylaw08_BatchOnce.f
  refine Ev.bind hb ?_
  cases b with
  | false => exact Ev.congr (fun k => if_neg (by decide)) haw
  | true =>
    have h := hl rfl
    have il := small_of h.2 hi
    have nl := batNorm_in l hi h.2
    by_cases hz : (batNorm l).2.2 = 0
    · obtain ⟨h1, h2, h3⟩ := batNorm_ok l hz
      have hnn : batNorm (l.map fun m => (metNorm m).1) = (l.map fun m => (metNorm m).1, 0, 0) := by
        rw [batNorm_of _ (by rw [List.length_map]; omega) (fun m hm => by
          obtain ⟨x, hx, rfl⟩ := List.mem_map.1 hm
          rw [(metNorm_good x (hi x hx) (h2 x hx)).2.2.2])]
        congr 1
        rw [List.map_map]
        refine List.map_congr_left fun x hx => ?_
        show (metNorm (metNorm x).1).1 = (metNorm x).1
        rw [(metNorm_good x (hi x hx) (h2 x hx)).2.2.2]
      have nn : batIn (l.map fun m => (metNorm m).1) = true := by rw [h3] at nl; exact nl
      have hsm : batSame l (l.map fun m => (metNorm m).1) = true := by
        unfold batSame
        rw [h3, hnn]
        rw [show metsEq (l.map fun m => (metNorm m).1) (l.map fun m => (metNorm m).1) = true from (metsEq_iff _ _).2 rfl]
        rfl
      have hj1 : Ev (fun k => forebaylaw08_BatchOnce.j1 k l (l.map fun m => (metNorm m).1) false) true := by
        refine Ev.step (fun k => ?_) (once8_l0 l hi h.2 (by omega) h2 l.length 0 (by omega))
        simp only [forebaylaw08_BatchOnce.j1]
        rw [if_neg (by decide)]
        rfl
      refine Ev.congr (fun k => ?_) hj1
      rw [if_pos rfl, batnorm_f l il, Option.bind_some, h3, if_pos rfl, batnorm_f _ nn, Option.bind_some, hnn, if_pos rfl, batequal_f _ _ nn nn, Option.bind_some, if_pos ((metsEq_iff _ _).2 rfl), batsame_f l _ il nn nl (by rw [hnn]; exact nn), Option.bind_some, if_pos hsm, if_pos (by rw [List.length_map])]
      rfl
    · have hb0 : batNorm l = ([], batGo ngo l 0) := by
        unfold batNorm at hz ⊢
        rw [if_neg (by omega)] at hz ⊢
        by_cases h0 : (batGo ngo l 0).2 = 0
        · rw [if_pos h0] at hz
          exact absurd rfl hz
        · rw [if_neg h0]
      have hg : (batGo ngo l 0).2 ≠ 0 := by rw [hb0] at hz; exact hz
      obtain ⟨j, m, h1, h2, h3, h4⟩ := batGo_bad ngo l 0 hg
      obtain ⟨hlt, hm⟩ := List.getElem?_eq_some_iff.1 h1
      have hmem : m ∈ l := by rw [← hm]; exact List.getElem_mem hlt
      have h2' : batGo ngo l 0 = ((j : Int), ngo m) := by rw [h2]; congr 1; omega
      rw [h2'] at hb0
      have hsf : batSame l l = false := by
        unfold batSame
        rw [hb0]
        rw [decide_eq_false (show ¬ ngo m = 0 from h3)]
        rfl
      have htk : batNorm (l.take j) = ((l.take j).map fun m => (metNorm m).1, 0, 0) := batNorm_of _ (by rw [List.length_take]; omega) h4
      have hj0 : Ev (fun k => forebaylaw08_BatchOnce.j0 k l (j : Int) (ngo m) false) true := by
        refine Ev.step (fun k => ?_) haw
        simp only [forebaylaw08_BatchOnce.j0]
        have hsm := h.2 m hmem
        rw [if_neg (by decide), if_pos (by omega), if_pos (by omega), rd_met l j hlt, hm, mnorm_f m (hi m hmem) (by omega) (by omega), Option.bind_some, if_pos (by omega), Int.toNat_natCast, batnorm_f _ (small_of (fun x hx => h.2 x (List.mem_of_mem_take hx)) (fun x hx => hi x (List.mem_of_mem_take hx))), Option.bind_some, htk, if_pos (show (normT m).2.2.2.2.2.2 = ngo m from rfl), if_pos rfl]
      refine Ev.congr (fun k => ?_) hj0
      rw [if_pos rfl, batnorm_f l il, Option.bind_some, hb0, if_neg (show ¬ ngo m = 0 from h3)]
      rw [hb0] at nl
      rw [if_pos (by rfl), if_neg (show ¬ ((j : Int) < 0) by omega), if_neg (show ¬ ((j : Int) ≥ (l.length : Int)) by omega), batsame_f l l il il (by rw [hb0]; exact nl) (by rw [hb0]; exact nl), Option.bind_some, hsf]
theorem batchOnce_walk (l : List S25) (A : Option Addr) (c : Nat) (w : World) (hC : k25.C w A l.length l) (hc : l.length ≤ c) (hi : ∀ m ∈ l, metIn m = true) :
    Calls Try.prog 12 #[.slice A l.length c] w fun e w' => e = .returned (.bool true) ∧ Below w.heap.size w w' := by
  obtain ⟨k, hk⟩ := batchOnce_pure l hi
  exact forebaylaw08_BatchOnce.calls k A c l true w hC hc hk
namespace batchOnce
open Go.ChangeShapes Go.WideShapes Go.ChangeAt Go.RowKit
open Go.ChangeMaps (open_string shut_string)
theorem own : ownKnob Try.prog.godebug = none := by kernel_rfl
theorem laidOut : laidOutB Try.prog = true := by kernel_rfl
set_option maxRecDepth 100000 in
theorem lifted (os : Os) (started : os.Started) (H : Type) (enc : TypeId × Value → H) :
    ReturnsInHanded {} Try.checked os 12 .any (Rows.batchOnceSpec.pre6 enc Try.prog Try.f12 Rows.batchOnceRow.domain false) (Rows.batchOnceSpec.post enc Try.prog Try.f12 false true false false) := by
  refine returnsInHanded_of_change_sized (C := Try.checked) own started (by kernel_rfl) Try.func12
    (ChangeSpec.witness6 (enc := enc) (C := Try.checked) false ⟨#[], #[.slice none 0 0], []⟩ 8 (by kernel_rfl) (by kernel_rfl) (by kernel_rfl) (by kernel_rfl)) ?_
  intro W base args ds gs before hval0 hW hcnd hsz0 _
  have hsz : (DataW.weightsEach Try.prog (Try.f12.params.toList ++ Rows.batchOnceSpec.plain.varTypes Try.prog) (ds ++ gs)).all (· ≤ reachBytes) = true := hsz0
  have hval : ∀ (j : Nat) t v, Try.f12.params[j]? = some t → args[j]? = some v → Value.okWide Try.prog W .any base t v := hval0
  have hW' := hW
  obtain ⟨p, q, hA0, hV, rfl, hfz, hnd⟩ := hW
  have hA : DataW.TrodAll enc Try.prog W 0 (fun _ => true) true Try.f12.params.toList args.toList ds p := hA0
  rw [Try.params12] at hA hval hsz
  obtain ⟨v0, vs0, d0, ds0, p0, q0, hargs, rfl, rfl, h0, r0⟩ := trodAll_cons hA
  obtain ⟨rfl, rfl, rfl⟩ := trodAll_nil r0
  obtain rfl : args = #[v0] := by cases args; simp_all
  obtain ⟨rfl, rfl⟩ := trodVars_none hV
  have k0 := h0
  have lt0 : ∀ x ∈ p0, x.block < W.heap.size := by obtain ⟨m, hm⟩ := k0; exact DataW.trod_lt m _ _ _ hm
  obtain ⟨l0, A0, c0, rfl, g0, i0, j0⟩ := open_mets (hval 0 42 v0 rfl rfl) h0
  clear hA0 hval0 hsz0 hsz
  refine (batchOnce_walk l0 A0 c0 W g0 i0 j0).mono fun e W' ⟨he, bel⟩ => ?_
  subst he
  exact ⟨_, rfl, _, _, _, [], _, [], hW', trodAll_mk1 (shut_bool Try.underlying4 _), (trodAll_cons_mk (Below.trod laidOut (by kernel_rfl) (of_decide_eq_true (by kernel_rfl)) k0 bel lt0) trodAll_mk0), rfl, bel.frame _, fun h => by cases h⟩
theorem over : Rows.batchOnceRow.holds Try.pinned (OpenSpec.ofChange Rows.batchOnceSpec) :=
  OpenClaim.holds_of_wide 12 Try.f12 rfl rfl rfl rfl rfl rfl rfl ⟨rfl, rfl, rfl, rfl, rfl⟩ rfl rfl rfl rfl rfl (by kernel_rfl) Try.func12 (by kernel_rfl)
    (of_decide_eq_true (by kernel_rfl)) (by unfold Func.isWrapper; first | (rw [if_pos (by decide +kernel)]; kernel_rfl) | (rw [if_neg (by decide +kernel)]; exact ⟨rfl, rfl⟩))
    (fun os started H enc _ => lifted os started H enc)
theorem proved : Rows.BatchOnceSaid := over
end batchOnce
theorem batchOnce_holds : Rows.BatchOnceSaid := batchOnce.proved
#print axioms batchOnce_holds
end Go.Proofs.Yteamldgngknmfaa
