/- rat.Key: when two are equal -/
import Derived.Test.YtjnbhinjpinkaaaConv
import Derived.Test.YtjnbhinjpinkaaaRatPlain
import Derived.Laws.StructEq
namespace Go.Proofs.Ytjnbhinjpinkaaa
open Go.RowKit Go.Att

theorem eq_key (a a' : Bool) (s1 s2 s1' s2' : ByteArray) (w : World) : (Op.equalIn 10000 65 (.agg #[.bool a, .string s1, .string s2]) (.agg #[.bool a', .string s1', .string s2'])).run Try.prog w = .ok (a == a' && (s1.toList == s1'.toList && s2.toList == s2'.toList)) w := by
  have u3 := Try.underlying4
  have a3 := Try.isAgg4
  have z3 := Try.sizeOf4
  have u4 := Try.underlying9
  have a4 := Try.isAgg9
  have z4 := Try.sizeOf9
  have hS : Try.prog.underlying 65 = some (.struct (Try.prog.fieldsOf 65)) := by kernel_rfl
  have hp : Try.prog.stoodInHeld 65 = false := by kernel_rfl
  rw [show (10000 : Nat) = 9999 + 1 from rfl, run_equalIn_agg w 9999 65 _ _ hS hp]
  simp only [Program.fieldsOf, Try.underlying65]
  go_simp
  by_cases h1 : a = a' <;> by_cases h2 : s1.toList = s1'.toList <;> by_cases h3 : s2.toList = s2'.toList <;> simp [h1, h2, h3]

theorem toList_inj {s t : ByteArray} (h : s.toList = t.toList) : s = t := by
  rw [ByteArray.toList_eq, ByteArray.toList_eq] at h
  obtain ⟨⟨x⟩⟩ := s
  obtain ⟨⟨y⟩⟩ := t
  simpa using h

/-- Equal keys: equal numbers. -/
theorem key_eq (p q : Rat) : (decide (p.num < 0) == decide (q.num < 0) && ((strOf (digs 256 p.num.natAbs)).toList == (strOf (digs 256 q.num.natAbs)).toList && (strOf (digs 256 p.den)).toList == (strOf (digs 256 q.den)).toList)) = ((p - q).num.sign == 0) := by
  by_cases h : p = q
  · subst h
    rw [Rat.sub_self]
    simp
  · have h1 : ((p - q).num.sign == 0) = false := by
      apply beqF
      intro h0
      have h2 : p - q = 0 := Rat.num_eq_zero.1 (Int.sign_eq_zero_iff_zero.1 h0)
      have e : p - q + q = p := by rw [Rat.sub_eq_add_neg, Rat.add_assoc, Rat.neg_add_cancel, Rat.add_zero]
      rw [h2, Rat.zero_add] at e
      exact h e.symm
    rw [h1]
    apply Bool.eq_false_iff.2
    intro hb
    simp only [Bool.and_eq_true, beq_iff_eq] at hb
    obtain ⟨h2, h3, h4⟩ := hb
    have h3' := digs_inj 256 (by decide) (strOf_inj (fit_digs 256 (by decide) _) (fit_digs 256 (by decide) _) (toList_inj h3))
    have h4' := digs_inj 256 (by decide) (strOf_inj (fit_digs 256 (by decide) _) (fit_digs 256 (by decide) _) (toList_inj h4))
    apply h
    apply Rat.ext
    · have h5 : (p.num < 0) ↔ (q.num < 0) := by simpa using h2
      omega
    · exact h4'
end Go.Proofs.Ytjnbhinjpinkaaa
