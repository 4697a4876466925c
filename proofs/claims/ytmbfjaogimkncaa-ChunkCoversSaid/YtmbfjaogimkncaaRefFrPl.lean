/- The reference's frames of a stream, in plain terms; no condition. -/
import Derived.Test.YtmbfjaogimkncaaRefFr
import Derived.Test.YtmbfjaogimkncaaFrPl
namespace Go.Proofs.Ytmbfjaogimkncaa
open Go.RowKit Go.Proofs.YtmbfjaogimkncaaW.PrintWords Go.Proofs.YtmbfjaogimkncaaW.PrintLast Go.Proofs.YtmbfjaogimkncaaW.PrintMore
open PChunkFeeds (S40 S45 k40 k45)
set_option linter.unusedVariables false
set_option linter.unusedSimpArgs false
def FX.r (x : FX) : S45 := ⟨x.lo, x.hi, x.by', ⟨x.code, x.at'⟩⟩
def outH (p : Nat) (r : Int × Int × Int × Int) : Int × Int × Int × Int := (r.1, r.2.1, r.2.2.1, if r.2.2.1 = 0 then 0 else (p : Int) + r.2.2.2)
theorem rd_drop (l : List Int) (p i : Nat) : rd (l.drop p) i = rd l ((p : Int) + i) := by
  unfold rd
  rw [List.getD_eq_getElem?_getD, List.getD_eq_getElem?_getD, List.getElem?_drop]
  rw [show ((p : Int) + (i : Int)).toNat = p + ((i : Int)).toNat by omega]
theorem rd_byte {l : List Int} (hx : ∀ x ∈ l, 0 ≤ x ∧ x < 256) (i : Int) : 0 ≤ rd l i ∧ rd l i < 256 := by
  unfold rd
  rw [List.getD_eq_getElem?_getD]
  by_cases h : i.toNat < l.length
  · rw [List.getElem?_eq_getElem h]
    exact hx _ (List.getElem_mem h)
  · rw [List.getElem?_eq_none (by omega)]
    exact ⟨by decide, by decide⟩
theorem w64 (x : Int) (h : -1000000000000000 ≤ x ∧ x ≤ 1000000000000000) : wrap64 x = x := IntWalk.wrap64_in _ (by omega)
def bnd (i : Nat) : Int := if i = 3 then 1 else if i = 4 then 128 else if i = 5 then 16384 else 2097152
theorem bnd_step (i : Nat) (h3 : 3 ≤ i) (h5 : i ≤ 5) : 128 * bnd i ≤ bnd (i + 1) ∧ bnd i ≤ 16384 := by
  rcases (show i = 3 ∨ i = 4 ∨ i = 5 by omega) with rfl | rfl | rfl <;> decide
theorem j2_eq (K : Nat) (x1 x2 x11 x13 : Int) (b : Bool) : PChunkFeeds.forebayref19_Head.j2 (K + 1) x1 x2 x11 x13 b = if b = true then (some (0, 0, 21, wrap64 (x1 + x13))) else (if x11 > x2 then (some (0, 0, 12, wrap64 (x1 + x13))) else (some (wrap64 (x13 + 1), x11, 0, 0))) := by
  unfold PChunkFeeds.forebayref19_Head.j2
  rfl
set_option maxHeartbeats 1000000 in
theorem refHead_l1 (l : List Int) (p : Nat) (most : Int) (hx : ∀ x ∈ l, 0 ≤ x ∧ x < 256) (hp : p ≤ l.length) (hl : l.length ≤ 1000000000) : ∀ (k i : Nat) (n one : Int) (K : Nat), i + k = 6 → 3 ≤ i → 0 ≤ n → 0 < one → n < one → one ≤ bnd i → k + 3 ≤ K →
    PChunkFeeds.forebayref19_Head.l1 K l p most n one i = some (outH p (hdx (l.drop p) most k i n one)) := by
  intro k
  induction k with
  | zero =>
    intro i n one K h6 h3 h0 h1 hn ho hK
    obtain ⟨K, rfl⟩ : ∃ K', K = K' + 1 := ⟨K - 1, by omega⟩
    unfold PChunkFeeds.forebayref19_Head.l1 hdx
    rw [if_neg (by omega), w64 ((p : Int) + 5) (by omega)]
    rfl
  | succ k ih =>
    intro i n one K h6 h3 h0 h1 hn ho hK
    obtain ⟨K, rfl⟩ : ∃ K', K = K' + 1 := ⟨K - 1, by omega⟩
    have e1 : wrap64 ((p : Int) + (i : Int)) = (p : Int) + i := w64 _ (by omega)
    have hb := rd_byte hx ((p : Int) + i)
    have e2 : wrap64 (rd l ((p : Int) + i)) = rd l ((p : Int) + i) := w64 _ (by omega)
    unfold PChunkFeeds.forebayref19_Head.l1 hdx
    rw [if_pos (by omega), e1, e2, rd_drop]
    by_cases h4 : (l.drop p).length ≤ i
    · have h5 := h4
      rw [List.length_drop] at h5
      rw [if_pos h4, if_pos (by omega)]
      rfl
    · have h5 := h4
      rw [List.length_drop] at h5
      rw [if_neg h4, if_neg (by omega), if_pos (by omega), if_pos (by omega)]
      obtain ⟨x, hxx⟩ : ∃ x, rd l ((p : Int) + i) = x := ⟨_, rfl⟩
      rw [hxx] at hb ⊢
      have e3 : Int.tmod x 128 = x % 128 := Int.tmod_eq_emod_of_nonneg hb.1
      obtain ⟨b1, b2⟩ := bnd_step i h3 (by omega)
      have ho2 : one ≤ 16384 := Int.le_trans ho b2
      have ho3 : one * 128 ≤ bnd (i + 1) := by omega
      obtain ⟨m, hm⟩ : ∃ m, x % 128 = m := ⟨_, rfl⟩
      have hm2 : 0 ≤ m ∧ m ≤ 127 := by omega
      rw [hm] at e3
      have hq : 0 ≤ one * m ∧ one * m ≤ one * 127 := ⟨Int.mul_nonneg (by omega) hm2.1, Int.mul_le_mul_of_nonneg_left hm2.2 (by omega)⟩
      obtain ⟨q, hqq⟩ : ∃ q, one * m = q := ⟨_, rfl⟩
      rw [hqq] at hq
      clear b1 b2 ho
      have e4 : wrap64 q = q := w64 _ (by omega)
      have e5 : wrap64 (n + q) = n + q := w64 _ (by omega)
      have e6 : wrap64 (one * 128) = one * 128 := w64 _ (by omega)
      have e7 : wrap64 ((i : Int) + 1) = ((i + 1 : Nat) : Int) := (w64 ((i : Int) + 1) (by omega)).trans (by omega)
      rw [e3, hm, hqq, e4, e5, e6, e7]
      have hnq : 0 ≤ n + q := by clear e1 e2 e3 e4 e5 e6 e7 hm hqq hxx; omega
      have hnq2 : n + q < one * 128 := by clear e1 e2 e3 e4 e5 e6 e7 hm hqq hxx; omega
      have ho5 : 0 < one * 128 := by clear e1 e2 e3 e4 e5 e6 e7 hm hqq hxx; omega
      clear e2 e3 e4 e5 e6 hm hqq hxx hq hm2 ho2 h0 h1 hn h5 h4
      by_cases h7 : 128 ≤ x
      · rw [if_pos h7, if_pos h7]
        exact ih (i + 1) (n + q) (one * 128) K (by clear e1 e7; omega) (by clear e1 e7; omega) hnq ho5 hnq2 ho3 (by clear e1 e7; omega)
      · rw [if_neg h7, if_neg h7]
        cases K with
        | zero => omega
        | succ K =>
          rw [j2_eq, j2_eq, e1, e7]
          by_cases h8 : x = 0
          · rw [if_pos h8]
            by_cases h9 : 3 < i
            · have h9b : ((i : Int) > 3) := by clear e1 e7; omega
              rw [if_pos (show x = 0 ∧ 3 < i from ⟨h8, h9⟩), if_pos (show decide ((i : Int) > 3) = true from decide_eq_true h9b)]
              rfl
            · have h9b : ¬ ((i : Int) > 3) := by clear e1 e7; omega
              rw [if_neg (show ¬ (x = 0 ∧ 3 < i) from fun h => h9 h.2), if_neg (show ¬ (decide ((i : Int) > 3) = true) by rw [decide_eq_true_eq]; exact h9b)]
              by_cases h10 : most < n + q
              · rw [if_pos h10, if_pos h10]
                rfl
              · rw [if_neg h10, if_neg h10]
                simp [outH]
          · rw [if_neg h8, if_neg (show ¬ (x = 0 ∧ 3 < i) from fun h => h8 h.1), if_neg (show ¬ (false = true) by decide)]
            by_cases h10 : most < n + q
            · rw [if_pos h10, if_pos h10]
              rfl
            · rw [if_neg h10, if_neg h10]
              simp [outH]
theorem rd_mark (i : Nat) (h : i < 3) : rd ([77, 71, 1] : List Int) (i : Int) = hdw i := by
  rcases (show i = 0 ∨ i = 1 ∨ i = 2 by omega) with rfl | rfl | rfl <;> decide
set_option maxHeartbeats 1000000 in
theorem refHead_l0 (l : List Int) (p : Nat) (most : Int) (hx : ∀ x ∈ l, 0 ≤ x ∧ x < 256) (hp : p ≤ l.length) (hl : l.length ≤ 1000000000) : ∀ (k i : Nat) (K : Nat), i + k = 3 → k + 8 ≤ K →
    PChunkFeeds.forebayref19_Head.l0 K l p most [77, 71, 1] i = some (outH p (hdm (l.drop p) most k i)) := by
  intro k
  induction k with
  | zero =>
    intro i K h6 hK
    obtain ⟨K, rfl⟩ : ∃ K', K = K' + 1 := ⟨K - 1, by omega⟩
    unfold PChunkFeeds.forebayref19_Head.l0 hdm
    rw [if_neg (show ¬ ((i : Int) < 3) by omega)]
    exact refHead_l1 l p most hx hp hl 3 3 0 1 K rfl (Nat.le_refl _) (by decide) (by decide) (by decide) (by decide) (by omega)
  | succ k ih =>
    intro i K h6 hK
    obtain ⟨K, rfl⟩ : ∃ K', K = K' + 1 := ⟨K - 1, by omega⟩
    have hi : i < 3 := by omega
    have e1 : wrap64 ((p : Int) + (i : Int)) = (p : Int) + i := w64 _ (by omega)
    have e7 : wrap64 ((i : Int) + 1) = ((i + 1 : Nat) : Int) := (w64 ((i : Int) + 1) (by omega)).trans (by omega)
    unfold PChunkFeeds.forebayref19_Head.l0 hdm
    rw [if_pos (show (i : Int) < 3 by omega), e1, rd_drop, e7, rd_mark i hi]
    by_cases h4 : (l.drop p).length ≤ i
    · have h5 := h4
      rw [List.length_drop] at h5
      rw [if_pos h4, if_pos (show (p : Int) + i ≥ l.length by clear e1 e7; omega)]
      rfl
    · have h5 := h4
      rw [List.length_drop] at h5
      rw [if_neg h4, if_neg (show ¬ ((p : Int) + i ≥ l.length) by clear e1 e7; omega), if_pos (show 0 ≤ (p : Int) + i by clear e1 e7; omega), if_pos (show (p : Int) + i < l.length by clear e1 e7; omega), if_pos (show (0 : Int) ≤ i by clear e1 e7; omega), if_pos (show (i : Int) < (([77, 71, 1] : List Int).length : Int) by show (i : Int) < 3; clear e1 e7; omega)]
      by_cases h8 : rd l ((p : Int) + i) = hdw i
      · rw [if_pos h8, if_pos h8]
        exact ih (i + 1) K (by clear e1 e7; omega) (by clear e1 e7; omega)
      · rw [if_neg h8, if_neg h8]
        by_cases h9 : i < 2
        · rw [if_pos (show (i : Int) < 2 by clear e1 e7; omega)]
          unfold hdc
          rw [if_pos h9]
          rfl
        · rw [if_neg (show ¬ ((i : Int) < 2) by clear e1 e7; omega)]
          unfold hdc
          rw [if_neg h9]
          rfl
theorem refHead (l : List Int) (p : Nat) (most : Int) (hx : ∀ x ∈ l, 0 ≤ x ∧ x < 256) (hp : p ≤ l.length) (hl : l.length ≤ 1000000000) (K : Nat) (hK : 11 ≤ K) : PChunkFeeds.forebayref19_Head.f K l p most = some (outH p (hd (l.drop p) most)) := refHead_l0 l p most hx hp hl 3 0 K rfl hK
/-- What a head may be. -/
theorem hd_form (l : List Int) (most : Int) (h0 : 0 ≤ most) (hx : ∀ x ∈ l, 0 ≤ x) : hd l most = HNone ∨ ∃ j : Nat, j ≤ 5 ∧ j < l.length ∧ ((hd l most = (0, 0, (hd l most).2.2.1, (j : Int)) ∧ 0 < (hd l most).2.2.1) ∨ (hd l most = ((j : Int) + 1, (hd l most).2.1, 0, 0) ∧ 0 ≤ (hd l most).2.1 ∧ (hd l most).2.1 ≤ most)) := by
  by_cases hn : hd l most = HNone
  · exact .inl hn
  · obtain ⟨l1, x, l2, e1, e2, e3⟩ := hd_first most _ l rfl hx hn
    have hE := hd_end l1 x most (hx x (by rw [e1]; simp)) e2
    rw [e3] at hE
    have hb : 0 ≤ (hd l most).1 ∧ (hd l most).1 ≤ 6 ∧ 0 ≤ (hd l most).2.1 ∧ (hd l most).2.1 ≤ most := hdm_bound l most h0 3 0
    refine .inr ⟨l1.length, hd_short e2, by rw [e1, List.length_append, List.length_cons]; omega, ?_⟩
    obtain ⟨r, hr⟩ : ∃ r, hd l most = r := ⟨_, rfl⟩
    rw [hr] at hE hn hb ⊢
    obtain ⟨a, n, c, t⟩ := r
    rcases hE with hE | ⟨h1, h2, h3, h4⟩ | ⟨h1, h2, h3, h4⟩
    · exact absurd hE hn
    · change a = 0 at h1
      change n = 0 at h2
      change 0 < c at h3
      change t = _ at h4
      subst h1 h2 h4
      exact .inl ⟨rfl, h3⟩
    · change a = _ at h1
      change 0 ≤ n at h2
      change c = 0 at h3
      change t = 0 at h4
      subst h1 h3 h4
      exact .inr ⟨rfl, h2, hb.2.2.2⟩
section
variable {K : Nat} {l : List Int} {most p a n c t e1 e2 e3 : Int} {out : List S45}
theorem fr_unknown (h : PChunkFeeds.forebayref19_Head.f K l p most = some (a, n, c, t)) (hp : p < (l.length : Int)) (hc : c = 0) (ha : a = 0) : PChunkFeeds.forebayref19_Frames.l0 (K + 1) l most out p = some (out, p, false) := by
  unfold PChunkFeeds.forebayref19_Frames.l0
  rw [if_pos hp, h]
  show (if c = 0 then (if a = 0 then some (out, p, false) else _) else _) = _
  rw [if_pos hc, if_pos ha]
theorem fr_short (h : PChunkFeeds.forebayref19_Head.f K l p most = some (a, n, c, t)) (hp : p < (l.length : Int)) (hc : c = 0) (ha : ¬ a = 0) (h1 : wrap64 (p + a) = e1) (h2 : wrap64 (e1 + n) = e2) (h3 : wrap64 (e2 + 4) = e3) (hs : e3 > (l.length : Int)) : PChunkFeeds.forebayref19_Frames.l0 (K + 1) l most out p = some (out, p, false) := by
  unfold PChunkFeeds.forebayref19_Frames.l0
  rw [if_pos hp, h]
  show (if c = 0 then (if a = 0 then some (out, p, false) else (if (wrap64 ((wrap64 ((wrap64 (p + a)) + n)) + 4)) > (l.length : Int) then (some (out, p, false)) else _)) else _) = _
  rw [if_pos hc, if_neg ha, h1, h2, h3, if_pos hs]
theorem fr_whole (h : PChunkFeeds.forebayref19_Head.f K l p most = some (a, n, c, t)) (hp : p < (l.length : Int)) (hp0 : 0 ≤ p) (hc : c = 0) (ha : ¬ a = 0) (h1 : wrap64 (p + a) = e1) (h2 : wrap64 (e1 + n) = e2) (h3 : wrap64 (e2 + 4) = e3) (hs : e3 ≤ (l.length : Int)) (hs2 : p ≤ e3) (ho : out.length < 2513169434916) :
    PChunkFeeds.forebayref19_Frames.l0 (K + 1) l most out p = PChunkFeeds.forebayref19_Frames.l0 K l most (out ++ [⟨p, e3, (l.take e3.toNat).drop p.toNat, ⟨0, 0⟩⟩]) e3 := by
  have hs3 : ¬ e3 > (l.length : Int) := by omega
  conv => lhs; unfold PChunkFeeds.forebayref19_Frames.l0
  rw [if_pos hp, h]
  show (if c = 0 then (if a = 0 then some (out, p, false) else (if (wrap64 ((wrap64 ((wrap64 (p + a)) + n)) + 4)) > (l.length : Int) then (some (out, p, false)) else (if 0 ≤ p then (if p ≤ (wrap64 ((wrap64 ((wrap64 (p + a)) + n)) + 4)) then (if (wrap64 ((wrap64 ((wrap64 (p + a)) + n)) + 4)) ≤ (l.length : Int) then (if out.length < 2513169434916 then (PChunkFeeds.forebayref19_Frames.l0 K l most (out ++ [(⟨p, wrap64 ((wrap64 ((wrap64 (p + a)) + n)) + 4), ((l.take ((wrap64 ((wrap64 ((wrap64 (p + a)) + n)) + 4)) : Int).toNat).drop (p : Int).toNat), (⟨0, 0⟩ : S40)⟩ : S45)]) (wrap64 ((wrap64 ((wrap64 (p + a)) + n)) + 4))) else none) else none) else none) else none))) else _) = _
  rw [if_pos hc, if_neg ha, h1, h2, h3, if_neg hs3, if_pos hp0, if_pos hs2, if_pos hs, if_pos ho]
theorem fr_fault (h : PChunkFeeds.forebayref19_Head.f K l p most = some (a, n, c, t)) (hp : p < (l.length : Int)) (hc : ¬ c = 0) (h1 : wrap64 (t + 1) = e1) (ho : out.length < 2513169434916) :
    PChunkFeeds.forebayref19_Frames.l0 (K + 1) l most out p = some (out ++ [⟨p, e1, [], ⟨c, t⟩⟩], e1, true) := by
  unfold PChunkFeeds.forebayref19_Frames.l0
  rw [if_pos hp, h]
  show (if c = 0 then _ else (if out.length < 2513169434916 then (some ((out ++ [(⟨p, wrap64 (t + 1), ([] : List Int), (⟨c, t⟩ : S40)⟩ : S45)]), wrap64 (t + 1), true)) else (none))) = _
  rw [if_neg hc, if_pos ho, h1]
end
theorem frl_unknown {k pos : Nat} {l : List Int} {most a n c t : Int} (h : hd l most = (a, n, c, t)) (hne : ¬ l = []) (hc : ¬ 0 < c) (ha : a = 0) : frl most (k + 1) pos l = ([], pos, false) := by
  unfold frl
  rw [if_neg hne, h]
  show (if 0 < c then _ else if a = 0 ∨ _ then _ else _) = _
  rw [if_neg hc, if_pos (.inl ha)]
theorem frl_short {k pos m : Nat} {l : List Int} {most a n c t : Int} (h : hd l most = (a, n, c, t)) (hne : ¬ l = []) (hc : ¬ 0 < c) (hm : a + n + 4 = m) (hs : (l.length : Int) < m) : frl most (k + 1) pos l = ([], pos, false) := by
  unfold frl
  rw [if_neg hne, h]
  show (if 0 < c then _ else if a = 0 ∨ (l.length : Int) < a + n + 4 then _ else _) = _
  rw [if_neg hc, hm, if_pos (.inr hs)]
theorem frl_whole {k pos m : Nat} {l : List Int} {most a n c t : Int} (h : hd l most = (a, n, c, t)) (hne : ¬ l = []) (hc : ¬ 0 < c) (ha : ¬ a = 0) (hm : a + n + 4 = m) (hs : ¬ (l.length : Int) < m) :
    frl most (k + 1) pos l = (⟨pos, (pos : Int) + m, l.take m, 0, 0⟩ :: (frl most k (pos + m) (l.drop m)).1, (frl most k (pos + m) (l.drop m)).2) := by
  have e : frl most (k + 1) pos l = (if l = [] then ([], pos, false)
    else if 0 < (hd l most).2.2.1 then ([⟨pos, (pos : Int) + (hd l most).2.2.2 + 1, [], (hd l most).2.2.1, (pos : Int) + (hd l most).2.2.2⟩], pos + (hd l most).2.2.2.toNat + 1, true)
    else if (hd l most).1 = 0 ∨ (l.length : Int) < (hd l most).1 + (hd l most).2.1 + 4 then ([], pos, false)
    else
      (⟨pos, (pos : Int) + ((hd l most).1 + (hd l most).2.1 + 4), l.take ((hd l most).1 + (hd l most).2.1 + 4).toNat, 0, 0⟩ ::
        (frl most k (pos + ((hd l most).1 + (hd l most).2.1 + 4).toNat) (l.drop ((hd l most).1 + (hd l most).2.1 + 4).toNat)).1,
       (frl most k (pos + ((hd l most).1 + (hd l most).2.1 + 4).toNat) (l.drop ((hd l most).1 + (hd l most).2.1 + 4).toNat)).2)) := rfl
  have h1 : (hd l most).1 = a := by rw [h]
  have h2 : (hd l most).2.1 = n := by rw [h]
  have h3 : (hd l most).2.2.1 = c := by rw [h]
  rw [e, h1, h2, h3, hm, Int.toNat_natCast, if_neg hne, if_neg hc, if_neg (fun h => h.elim ha hs)]
theorem frl_fault {k pos j : Nat} {l : List Int} {most a n c t : Int} (h : hd l most = (a, n, c, t)) (hne : ¬ l = []) (hc : 0 < c) (ht : t = j) : frl most (k + 1) pos l = ([⟨pos, (pos : Int) + j + 1, [], c, (pos : Int) + j⟩], pos + j + 1, true) := by
  unfold frl
  rw [if_neg hne, h]
  show (if 0 < c then ([(⟨pos, (pos : Int) + t + 1, [], c, (pos : Int) + t⟩ : FX)], pos + t.toNat + 1, true) else _) = _
  rw [if_pos hc, ht, Int.toNat_natCast]
set_option maxHeartbeats 1000000 in
theorem refFrames_l0 (l : List Int) (most : Int) (hm0 : 0 ≤ most) (hm : most ≤ 1048576) (hx : ∀ x ∈ l, 0 ≤ x ∧ x < 256) (hl : l.length ≤ 1000000) : ∀ (k p : Nat) (out : List S45) (K : Nat), p ≤ l.length → l.length - p ≤ k → out.length ≤ p → k + 13 ≤ K →
    PChunkFeeds.forebayref19_Frames.l0 K l most out p = some (out ++ (frl most (k + 1) p (l.drop p)).1.map FX.r, ((frl most (k + 1) p (l.drop p)).2.1 : Int), (frl most (k + 1) p (l.drop p)).2.2) := by
  intro k
  induction k with
  | zero =>
    intro p out K hp hk ho hK
    obtain ⟨K, rfl⟩ : ∃ K', K = K' + 1 := ⟨K - 1, by omega⟩
    have hd0 : l.drop p = [] := List.drop_eq_nil_of_le (by omega)
    unfold PChunkFeeds.forebayref19_Frames.l0 frl
    rw [if_neg (show ¬ ((p : Int) < (l.length : Int)) by omega), if_pos hd0]
    simp
  | succ k ih =>
    intro p out K hp hk ho hK
    obtain ⟨K, rfl⟩ : ∃ K', K = K' + 1 := ⟨K - 1, by omega⟩
    have ho2 : out.length < 2513169434916 := by omega
    by_cases hpl : p = l.length
    · have hd0 : l.drop p = [] := List.drop_eq_nil_of_le (by omega)
      unfold PChunkFeeds.forebayref19_Frames.l0 frl
      rw [if_neg (show ¬ ((p : Int) < (l.length : Int)) by omega), if_pos hd0]
      simp
    · have hne : ¬ l.drop p = [] := by
        intro e
        have := congrArg List.length e
        rw [List.length_drop, List.length_nil] at this
        omega
      have hdl : (l.drop p).length = l.length - p := List.length_drop
      have hH := refHead l p most hx hp (by omega) K (by omega)
      have hF := hd_form (l.drop p) most hm0 (fun x h => (hx x (List.mem_of_mem_drop h)).1)
      have hpi : (p : Int) < (l.length : Int) := by omega
      obtain ⟨r, hr⟩ : ∃ r, hd (l.drop p) most = r := ⟨_, rfl⟩
      rw [hr] at hF hH
      obtain ⟨a, n, c, t⟩ := r
      have hH2 : PChunkFeeds.forebayref19_Head.f K l p most = some (a, n, c, if c = 0 then 0 else (p : Int) + t) := hH
      clear hH
      rcases hF with hF | ⟨j, hj5, hjl, ⟨hF, h0⟩ | ⟨hF, h0, h1⟩⟩
      · injection hF with h1 hF
        injection hF with h2 hF
        injection hF with h3 h4
        rw [fr_unknown hH2 hpi h3 h1, frl_unknown hr hne (by omega) h1]
        simp
      · injection hF with h1 hF
        injection hF with h2 hF
        injection hF with h3 h4
        change 0 < c at h0
        have hc : ¬ c = 0 := by omega
        rw [if_neg hc] at hH2
        have b1 : -1000000000000000 ≤ (p : Int) + t + 1 ∧ (p : Int) + t + 1 ≤ 1000000000000000 := by omega
        rw [fr_fault hH2 hpi hc (w64 _ b1) ho2, frl_fault hr hne h0 h4]
        subst h4
        simp [FX.r]
      · injection hF with h2 hF
        injection hF with _ hF
        injection hF with h3 h4
        change 0 ≤ n at h0
        change n ≤ most at h1
        obtain ⟨m, hm2⟩ : ∃ m : Nat, a + n + 4 = m := ⟨(a + n + 4).toNat, by omega⟩
        have ha : ¬ a = 0 := by omega
        have hc0 : ¬ 0 < c := by omega
        have b1 : -1000000000000000 ≤ (p : Int) + a ∧ (p : Int) + a ≤ 1000000000000000 := by omega
        have b2 : -1000000000000000 ≤ (p : Int) + a + n ∧ (p : Int) + a + n ≤ 1000000000000000 := by omega
        have b3 : -1000000000000000 ≤ (p : Int) + a + n + 4 ∧ (p : Int) + a + n + 4 ≤ 1000000000000000 := by omega
        have b4 : (p : Int) + a + n + 4 = ((p + m : Nat) : Int) := by omega
        by_cases hw : l.length < p + m
        · rw [fr_short hH2 hpi h3 ha (w64 _ b1) (w64 _ b2) ((w64 _ b3).trans b4) (by omega), frl_short hr hne hc0 hm2 (by omega)]
          simp
        · rw [fr_whole hH2 hpi (by omega) h3 ha (w64 _ b1) (w64 _ b2) ((w64 _ b3).trans b4) (by omega) (by omega) ho2, frl_whole hr hne hc0 ha hm2 (by omega)]
          rw [ih (p + m) _ K (by omega) (by omega) (by rw [List.length_append, List.length_singleton]; omega) (by omega)]
          have e4 : (l.drop p).drop m = l.drop (p + m) := by rw [List.drop_drop]
          have e5 : (l.take (p + m)).drop p = (l.drop p).take m := by rw [List.drop_take]; congr 1; omega
          rw [e4, Int.toNat_natCast, Int.toNat_natCast, e5]
          simp [FX.r, List.append_assoc]
theorem refFrames (l : List Int) (most : Int) (hm0 : 0 ≤ most) (hm : most ≤ 1048576) (hx : ∀ x ∈ l, 0 ≤ x ∧ x < 256) (hl : l.length ≤ 1000000) :
    PChunkFeeds.forebayref19_Frames.f (l.length + 13) l most = some ((frl most (l.length + 1) 0 l).1.map FX.r, ((frl most (l.length + 1) 0 l).2.1 : Int), (frl most (l.length + 1) 0 l).2.2) := by
  have h := refFrames_l0 l most hm0 hm hx hl l.length 0 [] (l.length + 13) (Nat.zero_le _) (by omega) (Nat.le_refl _) (Nat.le_refl _)
  rw [List.drop_zero, List.nil_append] at h
  exact h
end Go.Proofs.Ytmbfjaogimkncaa
