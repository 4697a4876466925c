/- Package tag: Normal; no condition. -/
import Derived.Test.YteamldgngknmfaaZJTagRow
import Derived.Test.YteamldgngknmfaaZJLawMetB
namespace Go.Proofs.Yteamldgngknmfaa
open Go.RowKit Go.Proofs.YteamldgngknmfaaW.PrintWords Go.Proofs.YteamldgngknmfaaW.PrintLast Go.Proofs.YteamldgngknmfaaW.PrintMore Go.Proofs.Yteamldgngknmfaa.PE
set_option linter.unusedVariables false
set_option linter.unusedSimpArgs false
theorem eqTag (d : Nat) (w : World) (x0 y0 x1 y1 : ByteArray) :
    (Op.equalIn (d + 2) 37 (.agg #[.string x0, .string x1]) (.agg #[.string y0, .string y1])).run Try.prog w = .ok (x0.toList == y0.toList && (x1.toList == y1.toList)) w := by
  refine eqA_of Try.underlying37 (by kernel_rfl) ?_
  refine eqf_cons (by rfl) (by go_simp; rfl) (by go_simp; rfl) (by go_simp) ?_
  exact eqf_last (by rfl) (by go_simp; rfl) (by go_simp; rfl) (by go_simp)
def tnLeft (n : Nat) : Value → Nat
  | .int _ k => n - k.toNat
  | _ => 0
theorem clip_calls (A : Option Addr) (n c : Nat) (w : World) (hc : n ≤ c) (hm : n ≤ 9223372036854775807) : Calls Try.prog 79 #[.slice A n c] w fun e w' => e = .returned (.slice A n n) ∧ ∃ nd, w' = w.drewN nd := by
  have h1 : decide ((n : Int) ≤ (c : Int)) = true := decide_eq_true (by omega)
  have h2 : decide (n ≤ c) = true := decide_eq_true hc
  go_enter Try.func79, Try.ntmps79
  go_wp2
  go_ret
  exact ⟨rfl, 0, rfl⟩
structure DdAt (S : List S37) (w : World) (g cap i n : Nat) (L : List S37) (wr : World) : Prop where
  row : TRow wr g cap L
  len : L.length = S.length
  ni : n ≤ i
  il : i ≤ S.length
  pos : 0 < i → 0 < n
  rest : L.drop i = S.drop i
  told : (i = 0 ∧ n = 0) ∨ 0 < n ∧ ∃ t, L[n - 1]? = some t ∧ dd S = L.take n ++ ddFrom t (S.drop i)
  bel : Below w.heap.size w wr
theorem DdAt.grow {S : List S37} {w : World} {g cap i n : Nat} {L : List S37} {wr W : World} (h : DdAt S w g cap i n L wr) (hb : Below wr.heap.size wr W) : DdAt S w g cap i n L W :=
  ⟨h.row.step (hb.block _ h.row.lt), h.len, h.ni, h.il, h.pos, h.rest, h.told, below_step h.bel hb⟩
theorem DdAt.skip {S : List S37} {w : World} {g cap i n : Nat} {L : List S37} {wr : World} (h : DdAt S w g cap i n L wr) (hi : i < S.length) (h0 : 0 < i) {t : S37} (ht : L[n - 1]? = some t) (he : S[i]? = some t) : DdAt S w g cap (i + 1) n L wr where
  row := h.row
  len := h.len
  ni := by have := h.ni; omega
  il := hi
  pos := fun _ => h.pos h0
  rest := by rw [← List.drop_drop, ← List.drop_drop, h.rest]
  told := by
    rcases h.told with ⟨h1, _⟩ | ⟨hp, t', h1, h2⟩
    · omega
    · have e : t' = t := by rw [ht] at h1; exact (Option.some.inj h1).symm
      subst e
      obtain ⟨hlt, hel⟩ := List.getElem?_eq_some_iff.mp he
      refine .inr ⟨hp, t', h1, ?_⟩
      rw [h2, List.drop_eq_getElem_cons hlt, hel]
      congr 1
      show (if tEq t' t' = true then ddFrom t' _ else _) = _
      rw [if_pos (tEq_refl t')]
  bel := h.bel
theorem DdAt.keep {S : List S37} {w : World} {g cap i n : Nat} {L : List S37} {wr : World} (h : DdAt S w g cap i n L wr) (hi : i < S.length) (hg : w.heap.size ≤ g) {t : S37} (he : S[i]? = some t) (hne : i = 0 ∨ ∃ u, L[n - 1]? = some u ∧ tEq t u = false) :
    DdAt S w g cap (i + 1) (n + 1) (L.set n t) ((wr.setCell ⟨g, n * 2, none⟩ (.string t.f0)).setCell ⟨g, n * 2 + 1, none⟩ (.string t.f1)) where
  row := h.row.set n (by have := h.ni; have := h.len; omega) t
  len := by rw [List.length_set]; exact h.len
  ni := by have := h.ni; omega
  il := hi
  pos := fun _ => by omega
  rest := by
    rw [List.drop_set_of_lt (by have := h.ni; omega), ← List.drop_drop, ← List.drop_drop, h.rest]
  told := by
    have hn : n < L.length := by have := h.ni; have := h.len; omega
    have hset : (L.set n t)[n + 1 - 1]? = some t := by
      rw [Nat.add_sub_cancel, List.getElem?_set_self hn]
    have htake : (L.set n t).take (n + 1) = L.take n ++ [t] := by
      rw [List.take_succ_eq_append_getElem (by rw [List.length_set]; exact hn), List.take_set_of_le (Nat.le_refl _), List.getElem_set_self]
    obtain ⟨hlt, hel⟩ := List.getElem?_eq_some_iff.mp he
    refine .inr ⟨by omega, t, hset, ?_⟩
    rw [htake]
    rcases h.told with ⟨h1, h2⟩ | ⟨hp, u, h1, h2⟩
    · subst h1 h2
      have e : S = t :: S.drop 1 := by
        have := List.drop_eq_getElem_cons hlt
        rw [List.drop_zero, hel] at this
        exact this
      rw [List.take_zero]
      show dd S = t :: ddFrom t (S.drop 1)
      conv => lhs; rw [e]
      rfl
    · rw [h2, List.drop_eq_getElem_cons hlt, hel]
      have hu : tEq t u = false := by
        rcases hne with hne | ⟨u', h3, h4⟩
        · have := h.ni
          omega
        · rw [h1] at h3
          cases h3
          exact h4
      rw [List.append_assoc]
      congr 1
      show (if tEq t u = true then _ else t :: ddFrom t _) = _
      rw [if_neg (by rw [hu]; decide)]
      rfl
  bel := by
    refine h.bel.trans ?_
    exact Below.setCell (Below.setCell (Below.refl _ _) (by exact hg) _) (by exact hg) _
section
attribute [local go_sem high] eqTag
set_option maxHeartbeats 8000000 in
set_option maxRecDepth 100000 in
theorem tagnorm_calls (l : List S37) (A : Option Addr) (c : Nat) (w : World) (hC : (k37).C w A l.length l) (hc : l.length ≤ c) (hlim : l.length < 4398046511104) :
    Calls Try.prog 51 #[.slice A l.length c] w fun e w' => ∃ v, e = .returned v ∧ Kd.V k37 37 w' w.heap.size (fun k => w.heap.size ≤ k) v (tNorm l) ∧ Below w.heap.size w w' := by
  have HK := Aside0.mk (slices_Clone_t.calls A c l l w hC hc (if_pos hlim))
  have HLIM := Aside0.mk hlim
  clear hC hc hlim
  cases hl : l with
  | nil =>
    subst hl
    go_enter Try.func51, Try.ntmps51
    go_wp2_with fail
    refine HK.out.mono ?_
    rintro e w1 ⟨v, rfl, hr, hb⟩
    obtain ⟨A1, c1, hv, hc1, _⟩ := Kd.R_reads hr
    simp only [List.length_nil] at hv
    subst hv
    have HB := Aside0.mk hb
    clear hb hr HK
    have hk : Calls Try.prog 75 #[.slice A1 0 c1, .func (.func 76) #[] #[]] w1 fun e w' => e = .returned (.tuple #[]) ∧ w' = w1 := AnyF.slices_SortFunc_none Try.sortTag A1 c1 _ w1
    have HKS := Aside0.mk hk
    clear hk
    go_wp2_with fail
    refine HKS.out.mono ?_
    rintro e w2 ⟨rfl, rfl⟩
    go_wp2
    go_loopw [4, 13] (fun vn vi wr => vn = .int .i64 0 ∧ vi = .int .i64 0 ∧ Aside0 (Below w.heap.size w wr)) (fun vn vi wr => 0)
    case atStart => exact ⟨rfl, rfl, HB⟩
    case round =>
      clear HB
      obtain ⟨rfl, rfl, HB⟩ := hrel
      have HCL := Aside0.mk (fun (A' : Option Addr) w => clip_calls A' 0 c1 w (Nat.zero_le _) (Nat.zero_le _))
      go_wp2_with fail
      refine (HCL.out _ _).mono ?_
      rintro e w3 ⟨rfl, ⟨nd, rfl⟩⟩
      go_wp2
      go_ret
      have he : tNorm ([] : List S37) = [] := by unfold tNorm tSort; simp [dd]
      rw [he]
      refine ⟨_, rfl, ⟨A1, 0, rfl, Nat.le_refl _, fun W _ => ⟨rfl, Nat.zero_le _, fun h => absurd h (Nat.lt_irrefl 0)⟩⟩, pw_below_drewN HB.out _⟩
  | cons x0 l0 =>
    have hpos : 0 < l.length := by rw [hl]; simp
    rw [← hl]
    clear hl x0 l0
    obtain ⟨N, hN⟩ : ∃ N, l.length = N := ⟨_, rfl⟩
    have HN := Aside0.mk hN
    have HPOS := Aside0.mk hpos
    rw [hN] at HK ⊢
    clear hN hpos
    go_enter Try.func51, Try.ntmps51
    go_wp2_with fail
    refine HK.out.mono ?_
    rintro e w1 ⟨v, rfl, hr, hb⟩
    obtain ⟨g, cap, hv, hg1, hg2, _⟩ := Kd.R_form hr HPOS.out
    have hrow := TRow.of_R (by rw [← hv]; exact hr)
    rw [HN.out] at hv
    subst hv
    have HB := Aside0.mk hb
    have HROW := Aside0.mk hrow
    have HGE := Aside0.mk hg1
    clear hb hr HK hrow hg1 hg2
    have hsort := sorttags_calls g cap l w1 HROW.out (by have := HLIM.out; omega)
    rw [HN.out] at hsort
    have HKS := Aside0.mk hsort
    clear hsort
    go_wp2_with fail
    refine HKS.out.mono ?_
    rintro e w2 ⟨rfl, hr2, hc2⟩
    have HD0 : Aside0 (DdAt (tSort l) w g cap 0 0 (tSort l) w2) := ⟨⟨hr2, rfl, Nat.le_refl _, Nat.zero_le _, fun h => absurd h (Nat.lt_irrefl _), rfl, .inl ⟨rfl, rfl⟩, HB.out.trans (hc2.to_below (fun k hk => by rw [hk]; exact HGE.out) HB.out.size)⟩⟩
    have HSL : Aside0 ((tSort l).length = N) := ⟨by rw [← HN.out]; exact List.length_mergeSort l⟩
    clear hr2 hc2 HKS HROW HB
    go_wp2
    go_loopw [4, 13] (fun vn vi wr => ∃ (q k : Int) (i n : Nat) (L : List S37), vn = .int .i64 q ∧ vi = .int .i64 k ∧ Aside0 (q = (n : Int) ∧ k = (i : Int)) ∧ Aside0 (DdAt (tSort l) w g cap i n L wr)) (fun vn vi wr => tnLeft N vi)
    case atStart => exact ⟨0, 0, 0, 0, tSort l, rfl, rfl, ⟨⟨rfl, rfl⟩⟩, HD0⟩
    case round =>
      clear HD0
      obtain ⟨q, k, i, n, L, rfl, rfl, HQ, HD⟩ := hrel
      have hq := HQ.out
      by_cases hlt : i < N
      · have hd : decide (k < (N : Int)) = true := decide_eq_true (by omega)
        have p0 := eq_true (show 0 ≤ k by omega)
        have p1 := eq_true (show k < (N : Int) by omega)
        have hiS : i < (tSort l).length := by rw [HSL.out]; exact hlt
        obtain ⟨t, ht⟩ : ∃ t, (tSort l)[i]? = some t := ⟨_, List.getElem?_eq_getElem hiS⟩
        have hLt : L[i]? = some t := by
          have := congrArg (fun z => z[0]?) HD.out.rest
          simp only [List.getElem?_drop, Nat.add_zero] at this
          rw [this]; exact ht
        obtain ⟨x0, x1⟩ := HD.out.row.cell hLt
        have hkn : k.toNat = i := by omega
        have hw : wrap64 (q + 1) = q + 1 := IntWalk.wrap64_in _ (by have := HD.out.ni; have := HLIM.out; have := HN.out; omega)
        have hq1 : 0 < n → wrap64 (q - 1) = q - 1 := fun _ => IntWalk.wrap64_in _ (by have := HD.out.ni; have := HLIM.out; have := HN.out; omega)
        have HQ1 := Aside0.mk hq1
        have hadd : wrap64 (k + 1) = k + 1 := IntWalk.wrap64_in _ (by clear hw hq1; have := HLIM.out; have := HN.out; omega)
        have HT := Aside0.mk ht
        have HLT := Aside0.mk hlt
        have HKN := Aside0.mk hkn
        clear hLt ht hlt hiS
        rw [← hkn] at x0 x1
        clear hkn hq hq1
        go_wp2
        obtain ⟨W, hW⟩ : ∃ W, wr.alloc (.cells #[.string t.f0, .string t.f1] 37) = W := ⟨_, rfl⟩
        have hb0 : W.heap[wr.heap.size]? = some (.cells #[.string t.f0, .string t.f1] 37 (0, 0)) := by rw [← hW]; exact blk_new _ _
        have HDW : Aside0 (DdAt (tSort l) w g cap i n L W) := ⟨HD.out.grow (by rw [← hW]; exact below_alloc (Below.refl _ _) _)⟩
        have hgx : g < wr.heap.size := HD.out.row.lt
        obtain ⟨bx, hbx⟩ : ∃ b, wr.heap.size = b := ⟨_, rfl⟩
        rw [hbx] at hb0 hgx
        rw [hW, hbx]
        have b0 : W.cell? ⟨bx, 0, none⟩ = some (.string t.f0) := (blk_cell hb0 0).trans rfl
        have b1 : W.cell? ⟨bx, 1, none⟩ = some (.string t.f1) := (blk_cell hb0 1).trans rfl
        clear hW hbx x0 x1 HD hb0
        have HGX := Aside0.mk hgx
        clear hgx
        have hq := HQ.out
        obtain ⟨o, ho⟩ : ∃ o, L[n]? = some o := ⟨_, List.getElem?_eq_getElem (by have := HDW.out.ni; have := HDW.out.len; have := HSL.out; have := HLT.out; omega)⟩
        obtain ⟨o0, o1⟩ := HDW.out.row.cell ho
        have hqn : q.toNat = n := by omega
        have HQN := Aside0.mk hqn
        rw [← hqn] at o0 o1
        have f0 := HDW.out.row.frozen (q.toNat * 2)
        have f1 := HDW.out.row.frozen (q.toNat * 2 + 1)
        have r0 := eq_true (show 0 ≤ q by omega)
        have r1 := eq_true (show q < (N : Int) by have := HDW.out.ni; have := HLT.out; omega)
        have HNX := Aside0.mk (show q = (n : Int) ∧ k = (i : Int) from hq)
        by_cases hi : i = 0
        · have hkb : (k == 0) = true := beq_iff_eq.mpr (by omega)
          have HI := Aside0.mk hi
          clear hq hi ho hqn HQ
          go_quiet (fail)
          go_wp2
          go_roundw
          case rel =>
            rw [hw, hadd]
            refine ⟨q + 1, k + 1, i + 1, n + 1, L.set n t, rfl, rfl, ⟨by have := HNX.out; omega⟩, ⟨?_⟩⟩
            rw [HQN.out]
            exact (HDW.out.grow (pw_below_drewN (Below.refl _ _) nq)).keep (by rw [HSL.out]; exact HLT.out) HGE.out HT.out (.inl HI.out)
          case measure => rw [hadd]; show N - (k + 1).toNat < N - k.toNat; have := HNX.out; have := HLT.out; omega
        · have hkb : (k == 0) = false := beq_eq_false_iff_ne.mpr (by omega)
          have HI := Aside0.mk hi
          obtain ⟨hn0, u, hu, _⟩ : 0 < n ∧ ∃ u, L[n - 1]? = some u ∧ True := by
            rcases HDW.out.told with ⟨h, _⟩ | ⟨h, u, hu, _⟩
            · exact absurd h hi
            · exact ⟨h, u, hu, trivial⟩
          obtain ⟨u0, u1⟩ := HDW.out.row.cell hu
          obtain ⟨z, hz⟩ : ∃ z, q - 1 = z := ⟨_, rfl⟩
          have hq1 : IntKind.i64.wrap (q - 1) = z := by
            have h := HQ1.out hn0
            rw [hz] at h ⊢
            first | exact h | (rw [i64_w]; exact h)
          have hqn1 : z.toNat = n - 1 := by omega
          rw [← hqn1] at u0 u1
          have s0 := eq_true (show 0 ≤ z by omega)
          have s1 := eq_true (show z < (N : Int) by have := HDW.out.ni; have := HLT.out; omega)
          clear hz
          have HU := Aside0.mk hu
          have hte : tEq t u = (t.f0.toList == u.f0.toList && (t.f1.toList == u.f1.toList)) := rfl
          cases htu : (t.f0.toList == u.f0.toList && (t.f1.toList == u.f1.toList)) with
          | true =>
            have HTE := Aside0.mk (hte.trans htu)
            clear hq hi ho hqn HQ hu hn0 hqn1 hte
            go_quiet (fail)
            go_wp2
            go_roundw
            case rel =>
              rw [hadd]
              refine ⟨q, k + 1, i + 1, n, L, rfl, rfl, ⟨by have := HNX.out; omega⟩, ⟨?_⟩⟩
              have e := tEq_iff.mp HTE.out
              subst e
              exact (HDW.out.grow (pw_below_drewN (Below.refl _ _) nq)).skip (by rw [HSL.out]; exact HLT.out) (by have := HI.out; omega) HU.out HT.out
            case measure => rw [hadd]; show N - (k + 1).toNat < N - k.toNat; have := HNX.out; have := HLT.out; omega
          | false =>
            have HTE := Aside0.mk (hte.trans htu)
            clear hq hi ho hqn HQ hu hn0 hqn1 hte
            go_quiet (fail)
            go_wp2
            go_roundw
            case rel =>
              rw [hw, hadd]
              refine ⟨q + 1, k + 1, i + 1, n + 1, L.set n t, rfl, rfl, ⟨by have := HNX.out; omega⟩, ⟨?_⟩⟩
              rw [HQN.out]
              exact (HDW.out.grow (pw_below_drewN (Below.refl _ _) nq)).keep (by rw [HSL.out]; exact HLT.out) HGE.out HT.out (.inr ⟨u, HU.out, HTE.out⟩)
            case measure => rw [hadd]; show N - (k + 1).toNat < N - k.toNat; have := HNX.out; have := HLT.out; omega
      · have hd : decide (k < (N : Int)) = false := decide_eq_false (by omega)
        have hiN : i = N := by have := HD.out.il; have := HSL.out; omega
        have hcap : N ≤ cap := by obtain ⟨_, _, _, h3, _⟩ := HD.out.row; have := HD.out.len; have := HSL.out; omega
        have hnN : n ≤ N := by have := HD.out.ni; omega
        have c0 : decide (0 ≤ q) = true := decide_eq_true (by omega)
        have c1' : decide (q ≤ (cap : Int)) = true := decide_eq_true (by omega)
        have c2 : decide (n ≤ cap) = true := decide_eq_true (by omega)
        have hqn : q.toNat = n := by omega
        have p0 := eq_true (show 0 ≤ q by omega)
        have p1 := eq_true (show q ≤ (cap : Int) by omega)
        have HCL := Aside0.mk (fun w => clip_calls (some ⟨g, 0, none⟩) n cap w (by omega) (by obtain ⟨_, _, _, h3, h4, _⟩ := HD.out.row; omega))
        have HNN := Aside0.mk hnN
        have HIN := Aside0.mk hiN
        clear hiN hcap hnN hq hlt
        go_wp2_with fail
        refine (HCL.out _).mono ?_
        rintro e w3 ⟨rfl, ⟨nd, rfl⟩⟩
        go_wp2
        go_ret
        have htold : tNorm l = L.take n := by
          rcases HD.out.told with ⟨h1, h2⟩ | ⟨hp, t, ht, h2⟩
          · have := HIN.out
            have := HPOS.out
            have := HN.out
            omega
          · unfold tNorm
            rw [h2, List.drop_of_length_le (by rw [HSL.out]; have := HIN.out; omega)]
            simp [ddFrom]
        rw [htold]
        exact ⟨_, rfl, (HD.out.row.step rfl).V (base := w.heap.size) (by have := HNN.out; have := HD.out.len; have := HSL.out; omega) (Nat.le_refl _) HGE.out, pw_below_drewN HD.out.bel _⟩
end
end Go.Proofs.Yteamldgngknmfaa
