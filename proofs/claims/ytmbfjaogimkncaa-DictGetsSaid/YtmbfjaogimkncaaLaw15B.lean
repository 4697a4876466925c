/- The laws of dictionaries: the chapter's examples; no condition. -/
import Derived.Test.YtmbfjaogimkncaaLaw15A
namespace Go.Proofs.Ytmbfjaogimkncaa
open Go.RowKit Go.Proofs.YtmbfjaogimkncaaW.PrintWords Go.Proofs.YtmbfjaogimkncaaW.PrintLast Go.Proofs.YtmbfjaogimkncaaW.PrintMore
set_option linter.unusedVariables false
set_option linter.unusedSimpArgs false
theorem eqFault (d : Nat) (w : World) (x0 y0 : Int) (x1 y1 : Int) :
    (Op.equalIn (d + 2) 40 (.agg #[.int .i64 x0, .int .i64 x1]) (.agg #[.int .i64 y0, .int .i64 y1])).run Try.prog w = .ok (x0 == y0 && (x1 == y1)) w := by
  refine eqA_of Try.underlying40 (by kernel_rfl) ?_
  refine eqf_cons (by rfl) (by go_simp; rfl) (by go_simp; rfl) (by go_simp) ?_
  exact eqf_last (by rfl) (by go_simp; rfl) (by go_simp; rfl) (by go_simp)
theorem DicAt.apart {d : Dic} {w : World} (h : DicAt d w) {base : Nat} {ok : Nat → Prop} {v : Value} {xs : List Int} (hR : (Kd.int .u8).R 5 w base ok v xs) : ∀ k, some k = v.ownBlock → ¬ d.F k := by
  intro k hk hF
  obtain ⟨cells, hc⟩ := Kd.R_typed hR k hk.symm
  rcases hF with rfl | rfl | hF
  · rw [h.blk] at hc
    injection hc with hc
    injection hc with _ hc
    exact absurd hc (by decide)
  · obtain ⟨es, c, h2⟩ := h.map.blk
    rw [h2] at hc
    cases hc
  · obtain ⟨cells2, hc2⟩ := Kd.R_typed h.row k hF.symm
    rw [hc2] at hc
    injection hc with hc
    injection hc with _ hc
    exact absurd hc (by decide)
theorem row_turn {d : Dic} {w w' : World} (h : DicAt d w) {base : Nat} {ok : Nat → Prop} {v : Value} {xs : List Int} (hR : (Kd.int .u8).R 5 w base ok v xs) (hc : Chg d.F w w') : (Kd.int .u8).R 5 w' base (fun _ => True) v xs :=
  Kd.R_mono (Kd.R_step (Kd.R_tight rfl hR) (fun k hk hl => hc.block k hl (h.apart hR k hk))) (fun _ _ => trivial)
theorem DTurn.fresh {d : Dic} {v' : Value} {ws' : List ByteArray} {B : Nat} {w : World} (hB : B ≤ w.heap.size) (hF : ∀ k, d.F k → B ≤ k) (ho : v'.ownBlock = d.v.ownBlock ∨ ∃ k, v'.ownBlock = some k ∧ w.heap.size ≤ k) : ∀ k, (⟨d.g, d.gm, v', ws'⟩ : Dic).F k → B ≤ k := by
  rintro k (hk | hk | hk)
  · exact hF k (.inl hk)
  · exact hF k (.inr (.inl hk))
  · have hk2 : some k = v'.ownBlock := hk
    rcases ho with ho | ⟨j, hj, hl⟩
    · exact hF k (.inr (.inr (hk2.trans ho)))
    · rw [hj] at hk2
      injection hk2 with e
      omega
theorem DTurn.next {d : Dic} {v' : Value} {ws' : List ByteArray} {w : World} (ho : v'.ownBlock = d.v.ownBlock ∨ ∃ k, v'.ownBlock = some k ∧ w.heap.size ≤ k) : ∀ k, (⟨d.g, d.gm, v', ws'⟩ : Dic).F k → d.F k ∨ w.heap.size ≤ k := by
  rintro k (hk | hk | hk)
  · exact .inl (.inl hk)
  · exact .inl (.inr (.inl hk))
  · have hk2 : some k = v'.ownBlock := hk
    rcases ho with ho | ⟨j, hj, hl⟩
    · exact .inl (.inr (.inr (hk2.trans ho)))
    · rw [hj] at hk2
      injection hk2 with e
      exact .inr (by omega)
/-- A word is put, in a law. -/
theorem Calls.stepPut {d : Dic} {s : ByteArray} {w W : World} {Q : Ending → World → Prop} {l : List Int} {code : Int} {ws' : List ByteArray} (he : dput d.ws s = (l, code, ws')) (hs : s.size ≤ 140737488350000) (HD : Aside0 (DicAt d W)) (HF : Aside0 (∀ k, d.F k → w.heap.size ≤ k)) (HB : Aside0 (Below w.heap.size w W))
    (k : ∀ A c vd w', Aside0 (DicAt ⟨d.g, d.gm, vd, ws'⟩ w') → Aside0 (∀ k, (⟨d.g, d.gm, vd, ws'⟩ : Dic).F k → w.heap.size ≤ k) → Aside0 (Chg d.F W w') → Aside0 (∀ k, (⟨d.g, d.gm, vd, ws'⟩ : Dic).F k → d.F k ∨ W.heap.size ≤ k) → Aside0 ((Kd.int .u8).R 5 w' w.heap.size (fun _ => True) (.slice A l.length c) l) → Aside0 (Below w.heap.size w w') → Q (.returned (.tuple #[.slice A l.length c, .int .i64 code])) w') :
    Calls Try.prog 30 #[.pointer (some ⟨d.g, 0, none⟩), .string s] W Q := by
  refine (dicput_calls d s W HD.out hs).mono ?_
  rintro e w' ⟨v, rfl, hR, vd, hd, hc, ho⟩
  rw [he] at hR hd ⊢
  obtain ⟨A, c, rfl, _⟩ := Kd.R_reads hR
  have hsz := below_size HB.out
  exact k A c vd w' ⟨hd⟩ ⟨DTurn.fresh hsz HF.out ho⟩ ⟨hc⟩ ⟨DTurn.next ho⟩ ⟨Kd.R_lower hR hsz⟩ ⟨HB.out.trans (hc.to_below HF.out hsz)⟩
/-- A word is got, in a law. -/
theorem Calls.stepGet {ok : Nat → Prop} {d : Dic} {g : Nat} {s s' : Cu} {t : ByteArray} {ws' : List ByteArray} {kind : Int} {w W : World} {Q : Ending → World → Prop} (he : dget d.ws s kind = (t, s', ws')) (hs : s.sane) (HC : Aside0 (CurAt ok g s W)) (HD : Aside0 (DicAt d W)) (hap : Aside0 (∀ k, ok k → ¬ d.F k)) (hok : Aside0 (∀ k, ok k → w.heap.size ≤ k ∧ k < W.heap.size))
    (HF : Aside0 (∀ k, d.F k → w.heap.size ≤ k)) (HB : Aside0 (Below w.heap.size w W))
    (k : ∀ vd w', Aside0 (CurAt ok g s' w') → Aside0 (DicAt ⟨d.g, d.gm, vd, ws'⟩ w') → Aside0 (∀ k, ok k → ¬ (⟨d.g, d.gm, vd, ws'⟩ : Dic).F k) → Aside0 (∀ k, ok k → w.heap.size ≤ k ∧ k < w'.heap.size) → Aside0 (∀ k, (⟨d.g, d.gm, vd, ws'⟩ : Dic).F k → w.heap.size ≤ k) → Aside0 (Chg (fun k => k = g ∨ d.F k) W w') → Aside0 (Below w.heap.size w w') → Q (.returned (.string t)) w') :
    Calls Try.prog 33 #[.pointer (some ⟨d.g, 0, none⟩), .pointer (some ⟨g, 0, none⟩), .int .i64 kind] W Q := by
  refine (dicget_calls d g s kind W ⟨HC.out, HD.out, Chg.refl _ _, hap.out⟩ hs).mono ?_
  rintro e w' ⟨h1, h2, vd, h3, h4, h5⟩
  rw [he] at h1 h2 h3
  subst h1
  have hsz := below_size HB.out
  refine k vd w' ⟨h2⟩ ⟨h3⟩ ⟨?_⟩ ⟨fun k hk => ⟨(hok.out k hk).1, Nat.lt_of_lt_of_le (hok.out k hk).2 h4.size⟩⟩ ⟨DTurn.fresh hsz HF.out h5⟩ ⟨h4⟩ ⟨HB.out.trans (h4.to_below (fun k hk => hk.elim (fun e => e ▸ (hok.out g HC.out.okg).1) (HF.out k)) hsz)⟩
  rintro k hk (h | h | h)
  · exact hap.out k hk (.inl h)
  · exact hap.out k hk (.inr (.inl h))
  · have hk2 : some k = vd.ownBlock := h
    rcases h5 with ho | ⟨j, hj, hl⟩
    · exact hap.out k hk (.inr (.inr (hk2.trans ho)))
    · rw [hj] at hk2
      injection hk2 with e
      have := (hok.out k hk).2
      omega
/-- A new dictionary, in a law. -/
theorem Calls.stepNew {w W : World} {Q : Ending → World → Prop} (HB : Aside0 (Below w.heap.size w W))
    (k : ∀ g gm w', Aside0 (DicAt ⟨g, gm, .slice none 0 0, []⟩ w') → Aside0 (∀ k, (⟨g, gm, .slice none 0 0, []⟩ : Dic).F k → W.heap.size ≤ k) → Aside0 (∀ k, (⟨g, gm, .slice none 0 0, []⟩ : Dic).F k → w.heap.size ≤ k) → Aside0 (Below W.heap.size W w') → Aside0 (Below w.heap.size w w') → Q (.returned (.pointer (some ⟨g, 0, none⟩))) w') :
    Calls Try.prog 29 #[] W Q := by
  refine (dicnew_calls W).mono ?_
  rintro e w' ⟨rfl, hd, hb⟩
  have hF : ∀ k, (⟨W.heap.size + 1, W.heap.size, .slice none 0 0, []⟩ : Dic).F k → W.heap.size ≤ k := by
    rintro k (h | h | h)
    · have : k = W.heap.size + 1 := h
      omega
    · have : k = W.heap.size := h
      omega
    · cases h
  have hsz := below_size HB.out
  exact k _ _ w' ⟨hd⟩ ⟨hF⟩ ⟨fun k hk => Nat.le_trans hsz (hF k hk)⟩ ⟨hb⟩ ⟨below_step HB.out hb⟩
/-- A new Cur, in a law. -/
theorem Calls.stepCur {w W : World} {Q : Ending → World → Prop} {A : Option Addr} {n c : Nat} {l : List Int} (hC : (Kd.int .u8).C W A n l) (hl : ∀ x ∈ l, 0 ≤ x ∧ x < 256) (hbig : n ≤ 140737488355328) (HB : Aside0 (Below w.heap.size w W))
    (k : ∀ (ok : Nat → Prop) g A' c' w', Aside0 (CurAt ok g ⟨A', c', l, 0, 0, 0, false⟩ w') → Aside0 (∀ k, ok k → W.heap.size ≤ k) → Aside0 (∀ k, ok k → w.heap.size ≤ k ∧ k < w'.heap.size) → Aside0 (Below W.heap.size W w') → Aside0 (Below w.heap.size w w') → Q (.returned (.pointer (some ⟨g, 0, none⟩))) w') :
    Calls Try.prog 32 #[.slice A n c] W Q := by
  refine (curnew_calls A n c l W hC hl hbig).mono ?_
  rintro e w' ⟨g, A', c', rfl, hc, hb⟩
  have hsz := below_size HB.out
  exact k _ g A' c' w' ⟨hc⟩ ⟨fun k hk => hk.1⟩ ⟨fun k hk => ⟨Nat.le_trans hsz hk.1, hk.2⟩⟩ ⟨hb⟩ ⟨below_step HB.out hb⟩
theorem same_l1 {A : Option Addr} {c : Nat} {w0 : World} (a : Int) (hC : (Kd.int .u8).C w0 A ([a] : List Int).length [a]) : Calls Try.prog 42 #[.slice A 1 c, .slice (some ⟨w0.heap.size, 0, none⟩) 1 1] (w0.alloc (.cells #[.int .u8 a] 5)) fun e w' => e = .returned (.bool true) ∧ Drawn0 (w0.alloc (.cells #[.int .u8 a] 5)) w' := by
  have h := same15_calls A c [a] (some ⟨w0.heap.size, 0, none⟩) 1 [a] (w0.alloc (.cells #[.int .u8 a] 5)) (Kd.C_alloc hC _) (lit_C 5 [a] (by simp))
  rw [decide_eq_true rfl] at h
  exact h
theorem same_l3 {A : Option Addr} {c : Nat} {w0 : World} (a b d : Int) (hC : (Kd.int .u8).C w0 A ([a, b, d] : List Int).length [a, b, d]) : Calls Try.prog 42 #[.slice A 3 c, .slice (some ⟨w0.heap.size, 0, none⟩) 3 3] (w0.alloc (.cells #[.int .u8 a, .int .u8 b, .int .u8 d] 5)) fun e w' => e = .returned (.bool true) ∧ Drawn0 (w0.alloc (.cells #[.int .u8 a, .int .u8 b, .int .u8 d] 5)) w' := by
  have h := same15_calls A c [a, b, d] (some ⟨w0.heap.size, 0, none⟩) 3 [a, b, d] (w0.alloc (.cells #[.int .u8 a, .int .u8 b, .int .u8 d] 5)) (Kd.C_alloc hC _) (lit_C 5 [a, b, d] (by simp))
  rw [decide_eq_true rfl] at h
  exact h
theorem same_l4 {A : Option Addr} {c : Nat} {w0 : World} (a b d f : Int) (hC : (Kd.int .u8).C w0 A ([a, b, d, f] : List Int).length [a, b, d, f]) : Calls Try.prog 42 #[.slice A 4 c, .slice (some ⟨w0.heap.size, 0, none⟩) 4 4] (w0.alloc (.cells #[.int .u8 a, .int .u8 b, .int .u8 d, .int .u8 f] 5)) fun e w' => e = .returned (.bool true) ∧ Drawn0 (w0.alloc (.cells #[.int .u8 a, .int .u8 b, .int .u8 d, .int .u8 f] 5)) w' := by
  have h := same15_calls A c [a, b, d, f] (some ⟨w0.heap.size, 0, none⟩) 4 [a, b, d, f] (w0.alloc (.cells #[.int .u8 a, .int .u8 b, .int .u8 d, .int .u8 f] 5)) (Kd.C_alloc hC _) (lit_C 5 [a, b, d, f] (by simp))
  rw [decide_eq_true rfl] at h
  exact h
theorem sane0 (A : Option Addr) (c : Nat) (b : List Int) (pos : Nat) (t : Bool) : Cu.sane ⟨A, c, b, pos, 0, 0, t⟩ := Or.inl rfl
theorem dput_a : dput [] ⟨#[97]⟩ = ([0, 1, 97], 0, [⟨#[97]⟩]) := by decide +kernel
theorem dput_b : dput [⟨#[97]⟩] ⟨#[98, 99]⟩ = ([0, 2, 98, 99], 0, [⟨#[97]⟩, ⟨#[98, 99]⟩]) := by decide +kernel
theorem dput_c : dput [⟨#[97]⟩, ⟨#[98, 99]⟩] ⟨#[97]⟩ = ([1], 0, [⟨#[97]⟩, ⟨#[98, 99]⟩]) := by decide +kernel
theorem dget_a (A : Option Addr) (c : Nat) : dget [] ⟨A, c, [1], 0, 0, 0, false⟩ 1 = (ByteArray.empty, ⟨A, c, [1], 1, 25, 0, false⟩, []) := by kernel_rfl
theorem dget_b (A : Option Addr) (c : Nat) : dget [] ⟨A, c, [0, 1, 97, 0, 1, 97], 0, 0, 0, false⟩ 1 = (⟨#[97]⟩, ⟨A, c, [0, 1, 97, 0, 1, 97], 3, 0, 0, false⟩, [⟨#[97]⟩]) := by kernel_rfl
theorem dget_c (A : Option Addr) (c : Nat) : dget [⟨#[97]⟩] ⟨A, c, [0, 1, 97, 0, 1, 97], 3, 0, 0, false⟩ 1 = (ByteArray.empty, ⟨A, c, [0, 1, 97, 0, 1, 97], 6, 21, 3, false⟩, [⟨#[97]⟩]) := by kernel_rfl
theorem C_chg {k : IntKind} {w w' : World} {S : Nat → Prop} {A : Option Addr} {n : Nat} {xs : List Int} (h : (Kd.int k).C w A n xs) (hb : Below w.heap.size w w') : (Kd.int k).C w' A n xs := Kd.C_below h hb
attribute [local go_sem high] eqFault
set_option maxHeartbeats 4000000 in
set_option maxRecDepth 100000 in
theorem awake15_calls (w : World) : Calls Try.prog 28 #[] w fun e w' => e = .returned (.bool true) ∧ Below w.heap.size w w' := by
  have HB := Aside0.mk (Below.refl w.heap.size w)
  go_enter Try.func28, Try.ntmps28
  go_wp2_with fail
  with_reducible refine (dicnew_calls _).mono ?_
  rintro e w1 ⟨rfl, hd, hb⟩
  have HD := Aside0.mk hd
  have HF := Aside0.mk (show ∀ k, (⟨w.heap.size + 1, w.heap.size, .slice none 0 0, []⟩ : Dic).F k → w.heap.size ≤ k by
    rintro k (h | h | h)
    · have : k = w.heap.size + 1 := h
      omega
    · have : k = w.heap.size := h
      omega
    · cases h)
  have n0 := Aside0.mk (below_step HB.out hb)
  clear HB hd hb
  have HB := n0
  clear n0
  go_wp2_with fail
  with_reducible refine Calls.stepPut (dput_a) (by decide) ⟨(by (with_reducible repeat (first | apply DicAt.alloc | apply DicAt.drewN | apply DicAt.drew)); exact HD.out)⟩ HF ⟨(by repeat (first | (with_reducible first | exact HB.out | apply below_alloc | apply pw_below_drewN | apply below_drew1) | exact HB.out))⟩ ?_
  clear HB
  intro A1 c1 vd1 w_ n1 n2 HG1 HN1 HR1 HB
  have HDO1 := HD
  clear HD HF
  have HD := n1
  have HF := n2
  clear n1 n2
  go_wp2_with fail
  with_reducible refine Calls.stepPut (dput_b) (by decide) ⟨(by (with_reducible repeat (first | apply DicAt.alloc | apply DicAt.drewN | apply DicAt.drew)); exact HD.out)⟩ HF ⟨(by repeat (first | (with_reducible first | exact HB.out | apply below_alloc | apply pw_below_drewN | apply below_drew1) | exact HB.out))⟩ ?_
  clear HB
  intro A2 c2 vd2 w_ n1 n2 HG2 HN2 HR2 HB
  have HDO2 := HD
  clear HD HF
  have HD := n1
  have HF := n2
  clear n1 n2
  have n0 := Aside0.mk (row_turn HDO2.out HR1.out HG2.out)
  clear HR1 HDO2 HDO1 HG1 HG2
  have HR1 := n0
  clear n0
  go_wp2_with fail
  with_reducible refine Calls.stepPut (dput_c) (by decide) ⟨(by (with_reducible repeat (first | apply DicAt.alloc | apply DicAt.drewN | apply DicAt.drew)); exact HD.out)⟩ HF ⟨(by repeat (first | (with_reducible first | exact HB.out | apply below_alloc | apply pw_below_drewN | apply below_drew1) | exact HB.out))⟩ ?_
  clear HB
  intro A3 c3 vd3 w_ n1 n2 HG3 HN3 HR3 HB
  have HDO3 := HD
  clear HD HF
  have HD := n1
  have HF := n2
  clear n1 n2
  have n1 := Aside0.mk (row_turn HDO3.out HR1.out HG3.out)
  have n2 := Aside0.mk (row_turn HDO3.out HR2.out HG3.out)
  clear HR1 HR2 HDO3 HG3 HD HF
  have HR1 := n1
  have HR2 := n2
  clear n1 n2
  have HC1 := Aside0.mk (Kd.R_reads' HR1.out).2.2
  have HC2 := Aside0.mk (Kd.R_reads' HR2.out).2.2
  have HC3 := Aside0.mk (Kd.R_reads' HR3.out).2.2
  clear HR1 HR2 HR3
  obtain ⟨wp, rfl⟩ : ∃ wp : World, wp = w_ := ⟨_, rfl⟩
  have HBO := HB
  clear HB
  have HB := Aside0.mk (Below.refl wp.heap.size wp)
  go_wp2_with fail
  refine Calls.stepCur (lit_C 5 [1] (by decide)) (by decide) (by decide) ⟨(by repeat (first | (with_reducible first | exact HB.out | apply below_alloc | apply pw_below_drewN | apply below_drew1) | exact HB.out))⟩ ?_
  clear HB
  intro ok1 g1 A1' c1' w_ HCu1 hlo HOK1 hb1 HB
  clear hlo hb1
  go_wp2_with fail
  refine Calls.stepNew HB ?_
  clear HB
  intro gd gmd w2 HD hnew HF hb1 HB
  have n0 := Aside0.mk (CurAt.below HCu1.out hb1.out)
  have HAP := Aside0.mk (show ∀ k, ok1 k → ¬ (⟨gd, gmd, .slice none 0 0, []⟩ : Dic).F k from fun k hk hF => by have := (HOK1.out k hk).2; have := hnew.out k hF; omega)
  have n1 := Aside0.mk (show ∀ k, ok1 k → wp.heap.size ≤ k ∧ k < w2.heap.size from fun k hk => ⟨(HOK1.out k hk).1, Nat.lt_of_lt_of_le (HOK1.out k hk).2 hb1.out.size⟩)
  clear HCu1 HOK1 hnew hb1
  have HCu1 := n0
  have HOK1 := n1
  clear n0 n1
  go_wp2_with fail
  with_reducible refine Calls.stepGet (dget_a A1' c1') (sane0 ..) HCu1 HD HAP HOK1 HF HB ?_
  clear HCu1 HD HAP HOK1 HF HB
  intro vd w3 HCu1 hd hap HOK1 hf hg HB
  clear hd hap hf hg HOK1
  have n1 := Aside0.mk (Kd.C_below HC1.out HB.out)
  have n2 := Aside0.mk (Kd.C_below HC2.out HB.out)
  have n3 := Aside0.mk (Kd.C_below HC3.out HB.out)
  have n4 := Aside0.mk (below_step HBO.out HB.out)
  clear HC1 HC2 HC3 HBO HB
  have HC1 := n1
  have HC2 := n2
  have HC3 := n3
  have HBO := n4
  clear n1 n2 n3 n4
  have HB := Aside0.mk (Below.refl w3.heap.size w3)
  go_wp2_with fail
  refine Calls.stepNew HB ?_
  clear HB
  intro go gmo w_ HD hnew HF hb1 HB
  clear hnew hb1
  go_wp2_with fail
  refine Calls.stepCur (lit_C 5 [0, 1, 97, 0, 1, 97] (by decide)) (by decide) (by decide) ⟨(by repeat (first | (with_reducible first | exact HB.out | apply below_alloc | apply pw_below_drewN | apply below_drew1) | exact HB.out))⟩ ?_
  intro ok2 g2 A2' c2' w4 HCu2 hlo HOK2 hb1 HB'
  have n0 := Aside0.mk ((DicAt.alloc HD.out _).below hb1.out)
  have HAP := Aside0.mk (show ∀ k, ok2 k → ¬ (⟨go, gmo, .slice none 0 0, []⟩ : Dic).F k from fun k hk hF => by have h1 := hlo.out k hk; have h2 := HD.out.lt k hF; rw [World.size_alloc] at h1; omega)
  clear HD hlo hb1 HB
  have HB := HB'
  have HD := n0
  clear n0 HB'
  go_wp2_with fail
  with_reducible refine Calls.stepGet (dget_b A2' c2') (sane0 ..) HCu2 HD HAP HOK2 HF HB ?_
  clear HCu2 HD HAP HOK2 HF HB
  intro vd2 w5 HCu2 HD HAP HOK2 HF hg HB
  clear hg
  go_wp2_with fail
  with_reducible refine Calls.stepGet (dget_c A2' c2') (sane0 ..) HCu2 HD HAP HOK2 HF HB ?_
  clear HCu2 HD HAP HOK2 HF HB
  intro vd3 w6 HCu2 HD HAP HOK2 HF hg HB
  clear hg HD HAP HOK2 HF
  have n1 := Aside0.mk (Kd.C_below HC1.out HB.out)
  have n2 := Aside0.mk (Kd.C_below HC2.out HB.out)
  have n3 := Aside0.mk (Kd.C_below HC3.out HB.out)
  have n4 := Aside0.mk (below_step HBO.out HB.out)
  have n5 := Aside0.mk (CurAt.below HCu1.out HB.out)
  clear HC1 HC2 HC3 HBO HB HCu1
  have HC1 := n1
  have HC2 := n2
  have HC3 := n3
  have HB := n4
  have HCu1 := n5
  clear n1 n2 n3 n4 n5
  go_wp2_with fail
  with_reducible refine Calls.stepB (Calls.dB (same_l3 0 1 97 HC1.out)) ⟨(by repeat (first | (with_reducible first | exact HB.out | apply below_alloc | apply pw_below_drewN | apply below_drew1) | exact HB.out))⟩ ?_
  clear HB
  intro w_ HK HB
  have n0 := Aside0.mk (Kd.C_below (by first | (with_reducible exact HC2.out) | ((with_reducible repeat (first | apply Kd.C_alloc | apply Kd.C_drewN | apply Kd.C_drew)); exact HC2.out)) HK.out)
  clear HC2
  have HC2 := n0
  clear n0
  have n0 := Aside0.mk (Kd.C_below (by first | (with_reducible exact HC3.out) | ((with_reducible repeat (first | apply Kd.C_alloc | apply Kd.C_drewN | apply Kd.C_drew)); exact HC3.out)) HK.out)
  clear HC3
  have HC3 := n0
  clear n0
  have n0 := Aside0.mk (CurAt.below (by first | (with_reducible exact HCu1.out) | ((with_reducible repeat (first | apply CurAt.alloc | apply CurAt.drewN | apply CurAt.drew)); exact HCu1.out)) HK.out)
  clear HCu1
  have HCu1 := n0
  clear n0
  have n0 := Aside0.mk (CurAt.below (by first | (with_reducible exact HCu2.out) | ((with_reducible repeat (first | apply CurAt.alloc | apply CurAt.drewN | apply CurAt.drew)); exact HCu2.out)) HK.out)
  clear HCu2
  have HCu2 := n0
  clear n0
  clear HK
  go_wp2_with fail
  with_reducible refine Calls.stepB (Calls.dB (same_l4 0 2 98 99 HC2.out)) ⟨(by repeat (first | (with_reducible first | exact HB.out | apply below_alloc | apply pw_below_drewN | apply below_drew1) | exact HB.out))⟩ ?_
  clear HB
  intro w_ HK HB
  have n0 := Aside0.mk (Kd.C_below (by first | (with_reducible exact HC3.out) | ((with_reducible repeat (first | apply Kd.C_alloc | apply Kd.C_drewN | apply Kd.C_drew)); exact HC3.out)) HK.out)
  clear HC3
  have HC3 := n0
  clear n0
  have n0 := Aside0.mk (CurAt.below (by first | (with_reducible exact HCu1.out) | ((with_reducible repeat (first | apply CurAt.alloc | apply CurAt.drewN | apply CurAt.drew)); exact HCu1.out)) HK.out)
  clear HCu1
  have HCu1 := n0
  clear n0
  have n0 := Aside0.mk (CurAt.below (by first | (with_reducible exact HCu2.out) | ((with_reducible repeat (first | apply CurAt.alloc | apply CurAt.drewN | apply CurAt.drew)); exact HCu2.out)) HK.out)
  clear HCu2
  have HCu2 := n0
  clear n0
  clear HK
  go_wp2_with fail
  with_reducible refine Calls.stepB (Calls.dB (same_l1 1 HC3.out)) ⟨(by repeat (first | (with_reducible first | exact HB.out | apply below_alloc | apply pw_below_drewN | apply below_drew1) | exact HB.out))⟩ ?_
  clear HB
  intro w_ HK HB
  have n0 := Aside0.mk (CurAt.below (by first | (with_reducible exact HCu1.out) | ((with_reducible repeat (first | apply CurAt.alloc | apply CurAt.drewN | apply CurAt.drew)); exact HCu1.out)) HK.out)
  clear HCu1
  have HCu1 := n0
  clear n0
  have n0 := Aside0.mk (CurAt.below (by first | (with_reducible exact HCu2.out) | ((with_reducible repeat (first | apply CurAt.alloc | apply CurAt.drewN | apply CurAt.drew)); exact HCu2.out)) HK.out)
  clear HCu2
  have HCu2 := n0
  clear n0
  clear HK
  go_wp2_with fail
  with_reducible refine Calls.stepB (curfault_at g1 ⟨A1', c1', [1], 1, 25, 0, false⟩ 25 0 _ (by first | (with_reducible exact HCu1.out) | ((with_reducible repeat (first | apply CurAt.alloc | apply CurAt.drewN | apply CurAt.drew)); exact HCu1.out)) rfl rfl) ⟨(by repeat (first | (with_reducible first | exact HB.out | apply below_alloc | apply pw_below_drewN | apply below_drew1) | exact HB.out))⟩ ?_
  clear HB
  intro w_ HK HB
  have n0 := Aside0.mk (CurAt.below (by first | (with_reducible exact HCu2.out) | ((with_reducible repeat (first | apply CurAt.alloc | apply CurAt.drewN | apply CurAt.drew)); exact HCu2.out)) HK.out)
  clear HCu2
  have HCu2 := n0
  clear n0
  clear HK
  go_wp2_with fail
  with_reducible refine Calls.stepB (curfault_at g2 ⟨A2', c2', [0, 1, 97, 0, 1, 97], 6, 21, 3, false⟩ 21 3 _ (by first | (with_reducible exact HCu2.out) | ((with_reducible repeat (first | apply CurAt.alloc | apply CurAt.drewN | apply CurAt.drew)); exact HCu2.out)) rfl rfl) ⟨(by repeat (first | (with_reducible first | exact HB.out | apply below_alloc | apply pw_below_drewN | apply below_drew1) | exact HB.out))⟩ ?_
  clear HB
  intro w_ HK HB
  clear HK
  go_wp2
  go_ret
  exact ⟨rfl, (by repeat (first | (with_reducible first | exact HB.out | apply below_alloc | apply pw_below_drewN | apply below_drew1) | exact HB.out))⟩
end Go.Proofs.Ytmbfjaogimkncaa
