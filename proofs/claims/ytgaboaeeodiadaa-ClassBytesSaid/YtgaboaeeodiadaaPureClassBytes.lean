/- ClassBytes: for every number and every byte the law forebaylaw04.ClassBytes answers true. No condition. -/
import Derived.Test.YtgaboaeeodiadaaPClassBytesx3
import Derived.OpenShut
namespace Go.Proofs.Ytgaboaeeodiadaa.Pure
open Go.RowKit Go.Proofs.Ytgaboaeeodiadaa.PClassBytes Go.Proofs.YtgaboaeeodiadaaW.PrintWords Go.Proofs.YtgaboaeeodiadaaW.PrintLast

namespace ClassBytesP
theorem awake : forebaylaw04_awake.f 400 = some true := by decide +kernel

theorem count1 : class_Count.f 400 1 = some (65, 0) := by decide +kernel
theorem count2 : class_Count.f 400 2 = some (66, 0) := by decide +kernel
theorem count3 : class_Count.f 400 3 = some (92, 0) := by decide +kernel
theorem count4 : class_Count.f 400 4 = some (10, 0) := by decide +kernel

theorem same_of (c : Int) (h : ∀ n : Fin 256, ∃ v, class_Is.f 400 c (n.val : Int) = some v ∧ forebayref04_Is.f 400 c (n.val : Int) = some v) (b : Int) (h0 : 0 ≤ b) (h1 : b ≤ 255) :
    ∃ v, class_Is.f 400 c b = some v ∧ forebayref04_Is.f 400 c b = some v := by
  obtain ⟨n, rfl⟩ := Int.eq_ofNat_of_zero_le h0
  exact h ⟨n, by omega⟩
def sameB (c : Int) (n : Nat) : Bool := match class_Is.f 400 c (n : Int), forebayref04_Is.f 400 c (n : Int) with
  | some a, some b => a == b
  | _, _ => false
theorem sameB_tells (c : Int) (n : Nat) (h : sameB c n = true) : ∃ v, class_Is.f 400 c (n : Int) = some v ∧ forebayref04_Is.f 400 c (n : Int) = some v := by
  unfold sameB at h
  split at h
  · rename_i a b e1 e2
    have e3 : a = b := by simpa using h
    exact ⟨a, e1, by rw [e2, e3]⟩
  · cases h
theorem all1 : ∀ n : Fin 256, sameB 1 n.val = true := by decide +kernel
theorem all2 : ∀ n : Fin 256, sameB 2 n.val = true := by decide +kernel
theorem all3 : ∀ n : Fin 256, sameB 3 n.val = true := by decide +kernel
theorem all4 : ∀ n : Fin 256, sameB 4 n.val = true := by decide +kernel
theorem ref0 (b : Int) : forebayref04_Is.f 400 0 b = some false := rfl
theorem size1 : (forebayref04_Bytes.f 1).map (fun x => (x.size : Int)) = some 65 := by decide +kernel
theorem size2 : (forebayref04_Bytes.f 2).map (fun x => (x.size : Int)) = some 66 := by decide +kernel
theorem size3 : (forebayref04_Bytes.f 3).map (fun x => (x.size : Int)) = some 92 := by decide +kernel
theorem size4 : (forebayref04_Bytes.f 4).map (fun x => (x.size : Int)) = some 10 := by decide +kernel
theorem size_of (k n : Int) (h : (forebayref04_Bytes.f k).map (fun x => (x.size : Int)) = some n) : ∃ s, forebayref04_Bytes.f k = some s ∧ (s.size : Int) = n := by
  cases e : forebayref04_Bytes.f k with
  | none => rw [e] at h; cases h
  | some s => rw [e] at h; exact ⟨s, rfl, by simpa using h⟩

theorem one (c : Int) (b : Int) (n : Int) (hc : class_Count.f 400 c = some (n, 0)) (hk : forebaylaw04_number.f c = some c) (hk0 : ¬ c = 0)
    (ha : ∀ n : Fin 256, sameB c n.val = true) (hs : (forebayref04_Bytes.f c).map (fun x => (x.size : Int)) = some n) (h0 : 0 ≤ b) (h1 : b ≤ 255) :
    forebaylaw04_ClassBytes.f 400 c b = some true := by
  obtain ⟨v, e1, e2⟩ := same_of c (fun n => sameB_tells c n.val (ha n)) b h0 h1
  obtain ⟨s, e3, e4⟩ := size_of c n hs
  unfold forebaylaw04_ClassBytes.f
  rw [hc, hk, e1]
  simp only [Option.bind_some]
  rw [e2]
  simp only [Option.bind_some]
  rw [if_neg (by simp), if_neg hk0, e3]
  simp only [Option.bind_some]
  rw [if_pos e4.symm, awake]
  rfl
end ClassBytesP

theorem ClassBytes : forebaylaw04_ClassBytes.Pure := by
  intro c b _ hb
  have hb0 : 0 ≤ b ∧ b ≤ 255 := bounds_u8 hb
  refine ⟨400, ?_⟩
  by_cases h1 : c = 1
  · subst h1; exact ClassBytesP.one 1 b 65 ClassBytesP.count1 rfl (by decide) ClassBytesP.all1 ClassBytesP.size1 hb0.1 hb0.2
  by_cases h2 : c = 2
  · subst h2; exact ClassBytesP.one 2 b 66 ClassBytesP.count2 rfl (by decide) ClassBytesP.all2 ClassBytesP.size2 hb0.1 hb0.2
  by_cases h3 : c = 3
  · subst h3; exact ClassBytesP.one 3 b 92 ClassBytesP.count3 rfl (by decide) ClassBytesP.all3 ClassBytesP.size3 hb0.1 hb0.2
  by_cases h4 : c = 4
  · subst h4; exact ClassBytesP.one 4 b 10 ClassBytesP.count4 rfl (by decide) ClassBytesP.all4 ClassBytesP.size4 hb0.1 hb0.2
  have hm : class_may.f c = some false := by
    unfold class_may.f
    by_cases h : c ≥ 1
    · rw [if_pos h]; congr 1; simp; omega
    · rw [if_neg h]
  have hcount : class_Count.f 400 c = some (0, 1) := by unfold class_Count.f; rw [hm]; rfl
  have hnum : forebaylaw04_number.f c = some 0 := by unfold forebaylaw04_number.f; rw [if_neg h1, if_neg h2, if_neg h3, if_neg h4]
  have his : class_Is.f 400 c b = some false := by unfold class_Is.f; rw [if_neg h3, if_neg h2, if_neg h1, if_neg h4]
  unfold forebaylaw04_ClassBytes.f
  rw [hcount, hnum, his]
  simp only [Option.bind_some]
  rw [ClassBytesP.ref0]
  simp only [Option.bind_some]
  simp only [bne_self_eq_false, Bool.false_eq_true, if_false, if_true, ClassBytesP.awake, Option.bind_some]

end Go.Proofs.Ytgaboaeeodiadaa.Pure
