/- The laws of dictionaries: the chapter's examples; no condition. -/
import Derived.Test.YtclbmdblalgdjaaZNLaw15A
namespace Go.Proofs.Ytclbmdblalgdjaa
open Go.RowKit Go.Proofs.YtclbmdblalgdjaaW.PrintWords Go.Proofs.YtclbmdblalgdjaaW.PrintLast Go.Proofs.YtclbmdblalgdjaaW.PrintMore
set_option linter.unusedVariables false
set_option linter.unusedSimpArgs false
theorem eqFault15 (d : Nat) (w : World) (x0 y0 : Int) (x1 y1 : Int) :
    (Op.equalIn (d + 2) 56 (.agg #[.int .i64 x0, .int .i64 x1]) (.agg #[.int .i64 y0, .int .i64 y1])).run Try.prog w = .ok (x0 == y0 && (x1 == y1)) w := by
  refine eqA_of Try.underlying56 (by kernel_rfl) ?_
  refine eqf_cons (by rfl) (by go_simp; rfl) (by go_simp; rfl) (by go_simp) ?_
  exact eqf_last (by rfl) (by go_simp; rfl) (by go_simp; rfl) (by go_simp)
theorem DicAt.apart {d : Dic} {w : World} (h : DicAt d w) {base : Nat} {ok : Nat → Prop} {v : Value} {xs : List Int} (hR : (Kd.int .u8).R 5 w base ok v xs) : ∀ k, some k = v.ownBlock → ¬ d.F k := by
  intro k hk hF
  obtain ⟨cells, hc⟩ := Kd.R_typed hR k hk.symm
  rcases hF with rfl | rfl | hF
  · rw [h.blk] at hc
    injection hc with hc
    injection hc with _ hc
    exact absurd hc (by decide)
  · obtain ⟨es, c, h2⟩ := h.map.blk
    rw [h2] at hc
    cases hc
  · obtain ⟨cells2, hc2⟩ := Kd.R_typed h.row k hF.symm
    rw [hc2] at hc
    injection hc with hc
    injection hc with _ hc
    exact absurd hc (by decide)
theorem row_turn {d : Dic} {w w' : World} (h : DicAt d w) {base : Nat} {ok : Nat → Prop} {v : Value} {xs : List Int} (hR : (Kd.int .u8).R 5 w base ok v xs) (hc : Chg d.F w w') : (Kd.int .u8).R 5 w' base (fun _ => True) v xs :=
  Kd.R_mono (Kd.R_step (Kd.R_tight rfl hR) (fun k hk hl => hc.block k hl (h.apart hR k hk))) (fun _ _ => trivial)
theorem DTurn.fresh {d : Dic} {v' : Value} {ws' : List ByteArray} {B : Nat} {w : World} (hB : B ≤ w.heap.size) (hF : ∀ k, d.F k → B ≤ k) (ho : v'.ownBlock = d.v.ownBlock ∨ ∃ k, v'.ownBlock = some k ∧ w.heap.size ≤ k) : ∀ k, (⟨d.g, d.gm, v', ws'⟩ : Dic).F k → B ≤ k := by
  rintro k (hk | hk | hk)
  · exact hF k (.inl hk)
  · exact hF k (.inr (.inl hk))
  · have hk2 : some k = v'.ownBlock := hk
    rcases ho with ho | ⟨j, hj, hl⟩
    · exact hF k (.inr (.inr (hk2.trans ho)))
    · rw [hj] at hk2
      injection hk2 with e
      omega
theorem DTurn.next {d : Dic} {v' : Value} {ws' : List ByteArray} {w : World} (ho : v'.ownBlock = d.v.ownBlock ∨ ∃ k, v'.ownBlock = some k ∧ w.heap.size ≤ k) : ∀ k, (⟨d.g, d.gm, v', ws'⟩ : Dic).F k → d.F k ∨ w.heap.size ≤ k := by
  rintro k (hk | hk | hk)
  · exact .inl (.inl hk)
  · exact .inl (.inr (.inl hk))
  · have hk2 : some k = v'.ownBlock := hk
    rcases ho with ho | ⟨j, hj, hl⟩
    · exact .inl (.inr (.inr (hk2.trans ho)))
    · rw [hj] at hk2
      injection hk2 with e
      exact .inr (by omega)
theorem Calls.stepPut {d : Dic} {s : ByteArray} {w W : World} {Q : Ending → World → Prop} {l : List Int} {code : Int} {ws' : List ByteArray} (he : dput d.ws s = (l, code, ws')) (hs : s.size ≤ 140737488350000) (HD : Aside0 (DicAt d W)) (HF : Aside0 (∀ k, d.F k → w.heap.size ≤ k)) (HB : Aside0 (Below w.heap.size w W))
    (k : ∀ A c vd w', Aside0 (DicAt ⟨d.g, d.gm, vd, ws'⟩ w') → Aside0 (∀ k, (⟨d.g, d.gm, vd, ws'⟩ : Dic).F k → w.heap.size ≤ k) → Aside0 (Chg d.F W w') → Aside0 (∀ k, (⟨d.g, d.gm, vd, ws'⟩ : Dic).F k → d.F k ∨ W.heap.size ≤ k) → Aside0 ((Kd.int .u8).R 5 w' w.heap.size (fun _ => True) (.slice A l.length c) l) → Aside0 (Below w.heap.size w w') → Q (.returned (.tuple #[.slice A l.length c, .int .i64 code])) w') :
    Calls Try.prog 35 #[.pointer (some ⟨d.g, 0, none⟩), .string s] W Q := by
  refine (dicput_calls d s W HD.out hs).mono ?_
  rintro e w' ⟨v, rfl, hR, vd, hd, hc, ho⟩
  rw [he] at hR hd ⊢
  obtain ⟨A, c, rfl, _⟩ := Kd.R_reads hR
  have hsz := below_size HB.out
  exact k A c vd w' ⟨hd⟩ ⟨DTurn.fresh hsz HF.out ho⟩ ⟨hc⟩ ⟨DTurn.next ho⟩ ⟨Kd.R_lower hR hsz⟩ ⟨HB.out.trans (hc.to_below HF.out hsz)⟩
theorem Calls.stepNew {w W : World} {Q : Ending → World → Prop} (HB : Aside0 (Below w.heap.size w W))
    (k : ∀ g gm w', Aside0 (DicAt ⟨g, gm, .slice none 0 0, []⟩ w') → Aside0 (∀ k, (⟨g, gm, .slice none 0 0, []⟩ : Dic).F k → W.heap.size ≤ k) → Aside0 (∀ k, (⟨g, gm, .slice none 0 0, []⟩ : Dic).F k → w.heap.size ≤ k) → Aside0 (Below W.heap.size W w') → Aside0 (Below w.heap.size w w') → Q (.returned (.pointer (some ⟨g, 0, none⟩))) w') :
    Calls Try.prog 34 #[] W Q := by
  refine (dicnew_calls W).mono ?_
  rintro e w' ⟨rfl, hd, hb⟩
  have hF : ∀ k, (⟨W.heap.size + 1, W.heap.size, .slice none 0 0, []⟩ : Dic).F k → W.heap.size ≤ k := by
    rintro k (h | h | h)
    · have : k = W.heap.size + 1 := h
      omega
    · have : k = W.heap.size := h
      omega
    · cases h
  have hsz := below_size HB.out
  exact k _ _ w' ⟨hd⟩ ⟨hF⟩ ⟨fun k hk => Nat.le_trans hsz (hF k hk)⟩ ⟨hb⟩ ⟨below_step HB.out hb⟩
theorem Calls.stepCur {w W : World} {Q : Ending → World → Prop} {A : Option Addr} {n c : Nat} {l : List Int} (hC : (Kd.int .u8).C W A n l) (hl : ∀ x ∈ l, 0 ≤ x ∧ x < 256) (hbig : n ≤ 140737488355328) (HB : Aside0 (Below w.heap.size w W))
    (k : ∀ (ok : Nat → Prop) g A' c' w', Aside0 (CurAt ok g ⟨A', c', l, 0, 0, 0, false⟩ w') → Aside0 (∀ k, ok k → W.heap.size ≤ k) → Aside0 (∀ k, ok k → w.heap.size ≤ k ∧ k < w'.heap.size) → Aside0 (Below W.heap.size W w') → Aside0 (Below w.heap.size w w') → Q (.returned (.pointer (some ⟨g, 0, none⟩))) w') :
    Calls Try.prog 21 #[.slice A n c] W Q := by
  refine (curnew_calls A n c l W hC hl hbig).mono ?_
  rintro e w' ⟨g, A', c', rfl, hc, hb⟩
  have hsz := below_size HB.out
  exact k _ g A' c' w' ⟨hc⟩ ⟨fun k hk => hk.1⟩ ⟨fun k hk => ⟨Nat.le_trans hsz hk.1, hk.2⟩⟩ ⟨hb⟩ ⟨below_step HB.out hb⟩
theorem sane0 (A : Option Addr) (c : Nat) (b : List Int) (pos : Nat) (t : Bool) : Cu.sane ⟨A, c, b, pos, 0, 0, t⟩ := Or.inl rfl
attribute [local go_sem high] eqFault15
end Go.Proofs.Ytclbmdblalgdjaa
