/- What is got is put as just the bytes that it was got of: plain lists; no condition. -/
import Derived.Test.YtclbmdblalgdjaaZMPlBack
import Derived.Test.YtclbmdblalgdjaaZMDictGet
namespace Go.Proofs.Ytclbmdblalgdjaa
open Go.RowKit Go.Proofs.YtclbmdblalgdjaaW.PrintWords
set_option linter.unusedVariables false
theorem vread_fine {s : Cu} (hs : s.fine = true) (hb : ∀ x ∈ s.b, 0 ≤ x ∧ x < 256) (h : s.vread.2.fine = true) : ∃ k, s.vread = (s.vread.1, s.adv k) ∧ (vput s.vread.1).length = k ∧ (s.b.drop s.pos).take k = vput s.vread.1 ∧ s.pos + k ≤ s.b.length ∧ 1 ≤ k := by
  unfold Cu.vread at h ⊢
  rw [if_neg (by rw [hs]; decide)] at h ⊢
  obtain ⟨x, j, er, hv⟩ : ∃ x j er, vrd (s.b.drop s.pos) 0 0 = (x, j, er) := ⟨_, _, _, rfl⟩
  rw [hv] at h ⊢
  simp only at h ⊢
  by_cases h0 : er = 0
  · subst h0
    rw [if_pos rfl] at h ⊢
    obtain ⟨m, hx, hj1, hj2, hp, _, _⟩ := vrd_get (s.b.drop s.pos) 0 0 x j (fun y hy => hb y (List.mem_of_mem_drop hy)) (by omega) (by decide) hv
    have hxm : x = m := by rw [hx]; simp
    subst hxm
    have h2 : (s.b.drop s.pos).take j = vput x := hp.symm
    have h1 : (vput x).length = j := by rw [hp, List.length_take, Nat.sub_zero]; omega
    have h3 := congrArg List.length h2
    rw [List.length_take, List.length_drop] at h3
    have h4 := vput_len1 x
    exact ⟨j, rfl, h1, h2, by omega, by omega⟩
  · rw [if_neg h0] at h
    have hf : ∀ (u : Cu) (c a : Int), u.fine = true → c ≠ 0 → ¬ (u.fail c a).fine = true := fun u c a hu hc hh => by
      rw [fail_fine hu hc] at hh
      cases hh
    by_cases h13 : er = 13
    · rw [if_pos h13] at h
      exact absurd h (hf _ _ _ (show (s.adv _).fine = true from hs) (by decide))
    · rw [if_neg h13] at h
      exact absurd h (hf _ _ _ (show (s.adv _).fine = true from hs) h0)
theorem find_nodup {ws : List ByteArray} {t : ByteArray} {n : Nat} (hd : ws.Nodup) (h1 : 1 ≤ n) (h2 : n ≤ ws.length) (h : ws.getD (n - 1) ByteArray.empty = t) : findW ws t = n := by
  have hk : n - 1 < ws.length := by omega
  have hg : ws[n - 1] = t := by rw [List.getD_eq_getElem?_getD, List.getElem?_eq_getElem hk] at h; exact h
  have hm : t ∈ ws := by rw [← hg]; exact List.getElem_mem hk
  obtain ⟨h3, h4, h5⟩ := findFrom_in t ws 0 hm
  have h6 : ws[findW ws t - 1]? = some t := h5
  have h7 : ws[n - 1]? = some t := by rw [List.getElem?_eq_getElem hk, hg]
  have h9 : 0 < findW ws t := h3
  have h8 : findW ws t - 1 < ws.length := by have := find_le ws t; omega
  have := (List.getElem?_inj h8 hd).1 (h6.trans h7.symm)
  omega
theorem badI_neg (f : Int → Bool) (s : ByteArray) (h : badI f s < 0) : badI f s = -1 := by
  unfold badI at h ⊢
  have : ∀ k i, badF f s k i = -1 ∨ 0 ≤ badF f s k i := by
    intro k
    induction k with
    | zero => intro i; exact .inl rfl
    | succ k ih =>
      intro i
      unfold badF
      split
      · exact ih (i + 1)
      · exact .inr (by omega)
  rcases this s.size 0 with h1 | h1
  · exact h1
  · omega
theorem bytes_self {l : List Int} (h : ∀ x ∈ l, 0 ≤ x ∧ x < 256) : bytesOf (strOfNums l) = l := by
  unfold bytesOf
  rw [strOfNums_data, List.map_map]
  conv => rhs; rw [← List.map_id l]
  refine List.map_congr_left (fun x hx => ?_)
  obtain ⟨h0, h1⟩ := h x hx
  show ((UInt8.ofNat x.toNat).toNat : Int) = x
  rw [UInt8.toNat_ofNat']
  omega
def Exact (ws : List ByteArray) (s : Cu) (kind : Int) (r : ByteArray × Cu × List ByteArray) : Prop :=
  (r.2.1.fine = false ∧ r.1 = ByteArray.empty ∧ r.2.2 = ws) ∨
  (r.2.1.fine = true ∧ betB kind 1 4 = true ∧ badI (clsB kind) r.1 = -1 ∧ r.1.size ≤ 200 ∧ ∃ xs, dput ws r.1 = (xs, 0, r.2.2) ∧ 1 ≤ xs.length ∧ r.2.1 = s.adv xs.length ∧ s.pos + xs.length ≤ s.b.length ∧ (s.b.drop s.pos).take xs.length = xs)
theorem fail_any (s : Cu) (c a : Int) (hc : c ≠ 0) : (s.fail c a).fine = false := by
  cases h : s.fine with
  | true => exact fail_fine h hc
  | false => rw [fail_off h]; exact h
theorem get_exact {ws : List ByteArray} {s : Cu} {kind : Int} (hs : s.fine = true) (hb : ∀ x ∈ s.b, 0 ≤ x ∧ x < 256) (hd : ws.Nodup) (hsh : ∀ x ∈ ws, x.size ≤ 200) (hl : ws.length ≤ 65536) : Exact ws s kind (dget ws s kind) := by
  unfold dget
  rw [if_neg (by rw [hs]; decide)]
  by_cases hk : betB kind 1 4 = false
  · rw [if_pos hk]
    exact .inl ⟨fail_any _ _ _ (by decide), rfl, rfl⟩
  rw [if_neg hk]
  have hk2 : betB kind 1 4 = true := by cases h : betB kind 1 4 with | true => rfl | false => exact absurd h hk
  by_cases hf : s.vread.2.fine = false
  · rw [if_pos hf]
    exact .inl ⟨hf, rfl, rfl⟩
  rw [if_neg hf]
  have hf2 : s.vread.2.fine = true := by cases h : s.vread.2.fine with | true => rfl | false => exact absurd h hf
  obtain ⟨k, hv, hk1, hk3, hk4, hk5⟩ := vread_fine hs hb hf2
  obtain ⟨n, hn⟩ : ∃ n, s.vread.1 = n := ⟨_, rfl⟩
  rw [hn] at hv hk1 hk3
  rw [hv]
  simp only
  by_cases h0 : n = 0
  · rw [if_pos h0]
    subst h0
    have e1 : (s.adv k).fine = true := hs
    unfold dfresh
    by_cases hfull : 65536 ≤ ws.length
    · rw [if_pos hfull]
      exact .inl ⟨fail_any _ _ _ (by decide), rfl, rfl⟩
    rw [if_neg hfull]
    by_cases hf3 : (dfs3 (s.adv k)).fine = false
    · rw [if_pos hf3]
      exact .inl ⟨hf3, rfl, rfl⟩
    rw [if_neg hf3]
    have hf4 : (dfs3 (s.adv k)).fine = true := by cases h : (dfs3 (s.adv k)).fine with | true => rfl | false => exact absurd h hf3
    by_cases hbad : 0 ≤ badI (clsB kind) (dfT (s.adv k))
    · rw [if_pos hbad]
      exact .inl ⟨fail_any _ _ _ (by decide), rfl, rfl⟩
    rw [if_neg hbad]
    by_cases hfd : 0 < findW ws (dfT (s.adv k))
    · rw [if_pos hfd]
      exact .inl ⟨fail_any _ _ _ (by decide), rfl, rfl⟩
    rw [if_neg hfd]
    -- the second number was read, and no more than 200
    have hf5 : (dfs2 (s.adv k)).fine = true := by
      cases h : (dfs2 (s.adv k)).fine with
      | true => rfl
      | false =>
        unfold dfs3 at hf4
        rw [nf_take h] at hf4
        rw [h] at hf4
        exact hf4
    have h200 : ¬ 200 < (s.adv k).vread.1 := by
      intro h
      unfold dfs2 at hf5
      rw [if_pos h, fail_any _ _ _ (by decide)] at hf5
      cases hf5
    have e2 : dfs2 (s.adv k) = (s.adv k).vread.2 := by unfold dfs2; rw [if_neg h200]
    rw [e2] at hf5
    obtain ⟨k2, hv2, hk6, hk7, hk8, hk9⟩ := vread_fine e1 hb hf5
    have hk8b : s.pos + k + k2 ≤ s.b.length := hk8
    obtain ⟨m, hm⟩ : ∃ m, (s.adv k).vread.1 = m := ⟨_, rfl⟩
    rw [hm] at hv2 hk6 hk7 h200
    have e3 : dfs2 (s.adv k) = s.adv (k + k2) := by
      rw [e2, hv2]
      unfold Cu.adv
      simp only [Nat.add_assoc]
    have e4 : dfs3 (s.adv k) = (s.adv (k + k2)).take m := by
      unfold dfs3
      rw [e3, hm, Nat.min_eq_left (by omega)]
    have e5 : dfT (s.adv k) = strOfNums ((s.adv (k + k2)).takeL m) := by
      unfold dfT
      rw [e3, hm, Nat.min_eq_left (by omega)]
    have e6 : (s.adv (k + k2)).fine = true := hs
    have hroom : ¬ ((s.b.length : Int) - ((s.pos + (k + k2) : Nat) : Int) < m) := by
      intro h
      rw [e4] at hf4
      unfold Cu.take at hf4
      rw [if_neg (by rw [e6]; decide), if_neg (by omega), if_pos (show (((s.adv (k + k2)).b.length : Int) - (s.adv (k + k2)).pos < m) from h), fail_any _ _ _ (by decide)] at hf4
      cases hf4
    have e7 : (s.adv (k + k2)).take m = s.adv (k + k2 + m) := by
      unfold Cu.take
      rw [if_neg (by rw [e6]; decide), if_neg (by omega), if_neg (show ¬ (((s.adv (k + k2)).b.length : Int) - (s.adv (k + k2)).pos < m) from hroom)]
      unfold Cu.adv
      simp only [Int.toNat_natCast, Nat.add_assoc]
    have e8 : (s.adv (k + k2)).takeL m = (s.b.drop (s.pos + (k + k2))).take m := by
      unfold Cu.takeL
      rw [if_neg (by
        rintro (h | h | h)
        · rw [e6] at h; cases h
        · omega
        · exact hroom h), Int.toNat_natCast]
      rfl
    have hln : (s.b.drop (s.pos + (k + k2))).length = s.b.length - (s.pos + (k + k2)) := List.length_drop
    have hsz : (dfT (s.adv k)).size = m := by
      rw [e5, strOfNums_size, e8, List.length_take]
      omega
    have hbt : bytesOf (dfT (s.adv k)) = (s.b.drop (s.pos + (k + k2))).take m := by
      rw [e5, e8, bytes_self (fun x hx => hb x (List.mem_of_mem_drop (List.mem_of_mem_take hx)))]
    have hnot : dfT (s.adv k) ∉ ws := fun h => hfd ((find_pos _ _).2 h)
    have hbits : (vput 0 ++ vput (dfT (s.adv k)).size ++ bytesOf (dfT (s.adv k))) = (s.b.drop s.pos).take (k + k2 + m) := by
      rw [hsz, hbt]
      rw [← hk3, ← hk7, List.take_add (i := k + k2), List.take_add (i := k), show (s.adv k).b.drop (s.adv k).pos = s.b.drop (s.pos + k) from rfl]
      simp only [List.drop_drop]
    refine .inr ⟨hf4, hk2, badI_neg _ _ (show badI (clsB kind) (dfT (s.adv k)) < 0 by omega), by show (dfT (s.adv k)).size ≤ 200; rw [hsz]; exact Nat.le_of_not_lt h200, _, dput_fresh hnot (by rw [hsz]; exact Nat.le_of_not_lt h200) (by omega), ?_, ?_, ?_, ?_⟩
    · rw [hbits, List.length_take, List.length_drop]
      have : (s.adv k).pos = s.pos + k := rfl
      omega
    · have hl2 : ((s.b.drop s.pos).take (k + k2 + m)).length = k + k2 + m := by rw [List.length_take, List.length_drop]; omega
      rw [hbits, hl2]
      exact e4.trans e7
    · rw [hbits, List.length_take, List.length_drop]
      omega
    · have hl2 : ((s.b.drop s.pos).take (k + k2 + m)).length = k + k2 + m := by rw [List.length_take, List.length_drop]; omega
      rw [hbits, hl2]
  · rw [if_neg h0]
    by_cases hgt : ws.length < n
    · rw [if_pos hgt]
      exact .inl ⟨fail_any _ _ _ (by decide), rfl, rfl⟩
    rw [if_neg hgt]
    by_cases hbad : 0 ≤ badI (clsB kind) (ws.getD (n - 1) ByteArray.empty)
    · rw [if_pos hbad]
      exact .inl ⟨fail_any _ _ _ (by decide), rfl, rfl⟩
    rw [if_neg hbad]
    obtain ⟨t, ht⟩ : ∃ t, ws.getD (n - 1) ByteArray.empty = t := ⟨_, rfl⟩
    have hfi := find_nodup hd (by omega) (by omega) ht
    have hm : t ∈ ws := by rw [← ht, List.getD_eq_getElem?_getD, List.getElem?_eq_getElem (by omega)]; exact List.getElem_mem _
    rw [ht] at hbad ⊢
    refine .inr ⟨hs, hk2, badI_neg _ _ (show badI (clsB kind) t < 0 by omega), hsh t hm, vput n, by rw [dput_old hm, hfi], by omega, by rw [hk1], by omega, by rw [hk1]; exact hk3⟩
theorem dget_sane {ws : List ByteArray} {s : Cu} {kind : Int} (h : s.sane) : (dget ws s kind).2.1.sane := by
  unfold dget
  split
  · exact h
  · split
    · exact h.fail _ _
    · split
      · exact h.vread
      · split
        · have h2 := h.vread
          have h3 : (dfs2 s.vread.2).sane := by
            unfold dfs2
            split
            · exact h2.vread.fail _ _
            · exact h2.vread
          have h4 : (dfs3 s.vread.2).sane := h3.take _
          unfold dfresh
          split
          · exact h2.fail _ _
          · split
            · exact h4
            · split
              · exact h4.fail _ _
              · split
                · exact h4.fail _ _
                · exact h4
        · split
          · exact h.vread.fail _ _
          · split
            · exact h.vread.fail _ _
            · exact h.vread
end Go.Proofs.Ytclbmdblalgdjaa
