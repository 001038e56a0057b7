/- limb.Partial answers, for every text and all numbers, what the document's own Partial answers; no condition. -/
import Derived.Test.YtemoiapijldgdaaPLimbPartialsx1
namespace Go.Proofs.Ytemoiapijldgdaa.Pure
open Go.RowKit Go.Proofs.Ytemoiapijldgdaa.PLimbPartials Go.Proofs.YtemoiapijldgdaaW.PrintWords Go.Proofs.YtemoiapijldgdaaW.PrintLast

theorem wrap_in {x : Int} (h0 : -9223372036854775808 ≤ x) (h1 : x ≤ 9223372036854775807) : wrap64 x = x := by
  unfold wrap64; omega

theorem wf_in {n : Int} (h : (Lit.int .i64 n).wf = true) : -9223372036854775808 ≤ n ∧ n ≤ 9223372036854775807 := by
  simp only [Lit.wf, IntKind.min, IntKind.max, IntKind.signed, IntKind.bits, Bool.and_eq_true, decide_eq_true_eq, if_true] at h
  omega

theorem hello : (limb_Partial.f (⟨#[104, 101, 108, 108, 111]⟩ : ByteArray) 1 3) = some ⟨#[101, 108, 108]⟩ := by
  decide +kernel

theorem no_bytes (s : ByteArray) : s.extract s.size s.size = ⟨#[]⟩ := by
  apply ByteArray.ext
  simp

theorem same (s : ByteArray) (a n : Int) (hs : s.size ≤ 140737488351232) (ha : -9223372036854775808 ≤ a ∧ a ≤ 9223372036854775807) (hn : -9223372036854775808 ≤ n ∧ n ≤ 9223372036854775807) :
    ∃ r, limb_Partial.f s a n = some r ∧ postbagref6_Partial.f 1 s a n = some r := by
  unfold limb_Partial.f postbagref6_Partial.f
  by_cases h1 : a < 0
  · exact ⟨_, by rw [if_pos h1], by rw [if_pos h1]; rfl⟩
  by_cases h2 : n < 0
  · exact ⟨_, by rw [if_neg h1, if_pos h2], by rw [if_neg h1, if_pos h2]; rfl⟩
  by_cases h3 : a > (s.size : Int)
  · refine ⟨_, by rw [if_neg h1, if_neg h2, if_pos h3], ?_⟩
    rw [if_neg h1, if_neg h2, decide_eq_true (by omega : a ≥ (s.size : Int))]; rfl
  have e1 : wrap64 ((s.size : Int) - a) = (s.size : Int) - a := wrap_in (by omega) (by omega)
  have em : 0 ≤ mn n ((s.size : Int) - a) ∧ mn n ((s.size : Int) - a) ≤ (s.size : Int) - a := by unfold mn; split <;> omega
  have e2 : wrap64 (a + mn n ((s.size : Int) - a)) = a + mn n ((s.size : Int) - a) := wrap_in (by omega) (by omega)
  rw [if_neg h1, if_neg h2, if_neg h3, if_neg h1, if_neg h2, e1, e2, if_pos (by omega), if_pos (by omega), if_pos (by omega)]
  by_cases h4 : a ≥ (s.size : Int)
  · refine ⟨_, rfl, ?_⟩
    rw [decide_eq_true h4]
    have : a = (s.size : Int) := by omega
    subst this
    have : mn n ((s.size : Int) - (s.size : Int)) = 0 := by omega
    rw [this]
    simp only [postbagref6_Partial.j0, if_true, Int.add_zero, Int.toNat_natCast, no_bytes]
  · refine ⟨_, rfl, ?_⟩
    rw [decide_eq_false h4]
    simp only [postbagref6_Partial.j0, Bool.false_eq_true, if_false, e1]
    by_cases h5 : n > (s.size : Int) - a
    · rw [if_pos h5, if_pos (by omega), if_pos (by omega)]
      have : (a + mn n ((s.size : Int) - a)).toNat = s.size := by
        have : mn n ((s.size : Int) - a) = (s.size : Int) - a := by unfold mn; split <;> omega
        omega
      rw [this]
    · have e3 : mn n ((s.size : Int) - a) = n := by unfold mn; split <;> omega
      have e4 : wrap64 (a + n) = a + n := wrap_in (by omega) (by omega)
      rw [if_neg h5, e3, e4, if_pos (by omega), if_pos (by omega), if_pos (by omega)]

theorem LimbPartials : postbaglaw6_LimbPartials.Pure := by
  intro s a n hs ha hn
  obtain ⟨r, h1, h2⟩ := same s a n hs (wf_in ha) (wf_in hn)
  refine ⟨1, ?_⟩
  unfold postbaglaw6_LimbPartials.f
  rw [h1, h2, hello]
  simp

end Go.Proofs.Ytemoiapijldgdaa.Pure
