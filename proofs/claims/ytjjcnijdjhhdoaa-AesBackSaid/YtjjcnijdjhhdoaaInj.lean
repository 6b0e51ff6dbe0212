/- The block's cipher: unlike blocks become unlike ones. -/
import Derived.Test.YtjjcnijdjhhdoaaAesE
namespace Go.Proofs.Ytjjcnijdjhhdoaa
def fdbl (n : Nat) : Nat := (2 * n) % 256 ^^^ (n / 128 % 2 * 27)
set_option maxRecDepth 100000 in
theorem fdbl_all : ((List.range 256).all fun x => (List.range 256).all fun y => Nat.beq (fdbl (x ^^^ y)) (fdbl x ^^^ fdbl y)) = true := by decide +kernel
theorem dbl_f (x : UInt8) : nb (dbl x) = fdbl (nb x) := by
  have := all8 (fun x => decide (nb (dbl x) = fdbl (nb x))) (by decide +kernel) x
  simpa using this
theorem nb_xor (a b : UInt8) : nb (a ^^^ b) = nb a ^^^ nb b := by unfold nb; exact UInt8.toNat_xor _ _
theorem dbl_xor (x y : UInt8) : dbl (x ^^^ y) = dbl x ^^^ dbl y := by
  have h := List.all_eq_true.1 fdbl_all (nb x) (List.mem_range.2 (nb_lt x))
  have h2 := List.all_eq_true.1 h (nb y) (List.mem_range.2 (nb_lt y))
  have h3 := Nat.eq_of_beq_eq_true h2
  rw [← nb_xor, ← dbl_f, ← dbl_f, ← dbl_f, ← nb_xor] at h3
  rw [← nb_back (dbl (x ^^^ y)), h3, nb_back]
theorem prod2 (x : UInt8) : prod x 2 = dbl x := by
  have := all8 (fun x => decide (prod x 2 = dbl x)) (by decide +kernel) x
  simpa using this
theorem prod3 (x : UInt8) : prod x 3 = dbl x ^^^ x := by
  have := all8 (fun x => decide (prod x 3 = dbl x ^^^ x)) (by decide +kernel) x
  simpa using this
theorem xor_cancel {a b c : UInt8} (h : a ^^^ b = a ^^^ c) : b = c := by
  have := congrArg (a ^^^ ·) h
  simpa [← UInt8.xor_assoc] using this
theorem xor_cancel' {a b c : UInt8} (h : b ^^^ a = c ^^^ a) : b = c := by
  rw [UInt8.xor_comm b, UInt8.xor_comm c] at h; exact xor_cancel h
/-- A column's mixing forgets nothing. -/
theorem col_inj (a b c d a' b' c' d' : UInt8)
    (h0 : dbl a ^^^ (dbl b ^^^ b) ^^^ c ^^^ d = dbl a' ^^^ (dbl b' ^^^ b') ^^^ c' ^^^ d')
    (h1 : a ^^^ dbl b ^^^ (dbl c ^^^ c) ^^^ d = a' ^^^ dbl b' ^^^ (dbl c' ^^^ c') ^^^ d')
    (h2 : a ^^^ b ^^^ dbl c ^^^ (dbl d ^^^ d) = a' ^^^ b' ^^^ dbl c' ^^^ (dbl d' ^^^ d'))
    (h3 : dbl a ^^^ a ^^^ b ^^^ c ^^^ dbl d = dbl a' ^^^ a' ^^^ b' ^^^ c' ^^^ dbl d') : a = a' ∧ b = b' ∧ c = c' ∧ d = d' := by
  -- the sum of the column
  have hT : a ^^^ b ^^^ c ^^^ d = a' ^^^ b' ^^^ c' ^^^ d' := by
    have e : ∀ a b c d A B C D : UInt8, a ^^^ b ^^^ c ^^^ d = (A ^^^ (B ^^^ b) ^^^ c ^^^ d) ^^^ (a ^^^ B ^^^ (C ^^^ c) ^^^ d) ^^^ (a ^^^ b ^^^ C ^^^ (D ^^^ d)) ^^^ (A ^^^ a ^^^ b ^^^ c ^^^ D) := by
      intro a b c d A B C D
      apply UInt8.toBitVec_inj.1
      simp only [UInt8.toBitVec_xor]
      ext i hi
      simp only [BitVec.getElem_xor]
      cases a.toBitVec[i] <;> cases b.toBitVec[i] <;> cases c.toBitVec[i] <;> cases d.toBitVec[i] <;> cases A.toBitVec[i] <;> cases B.toBitVec[i] <;> cases C.toBitVec[i] <;> cases D.toBitVec[i] <;> rfl
    rw [e a b c d (dbl a) (dbl b) (dbl c) (dbl d), e a' b' c' d' (dbl a') (dbl b') (dbl c') (dbl d'), h0, h1, h2, h3]
  have p : ∀ a b c d A B : UInt8, (A ^^^ (B ^^^ b) ^^^ c ^^^ d) ^^^ (a ^^^ b ^^^ c ^^^ d) = (A ^^^ B) ^^^ a := by
    intro a b c d A B
    apply UInt8.toBitVec_inj.1
    simp only [UInt8.toBitVec_xor]
    ext i hi
    simp only [BitVec.getElem_xor]
    cases a.toBitVec[i] <;> cases b.toBitVec[i] <;> cases c.toBitVec[i] <;> cases d.toBitVec[i] <;> cases A.toBitVec[i] <;> cases B.toBitVec[i] <;> rfl
  have h1' : dbl b ^^^ (dbl c ^^^ c) ^^^ d ^^^ a = dbl b' ^^^ (dbl c' ^^^ c') ^^^ d' ^^^ a' := by
    have e1 : dbl b ^^^ (dbl c ^^^ c) ^^^ d ^^^ a = a ^^^ dbl b ^^^ (dbl c ^^^ c) ^^^ d := by ac_rfl
    have e2 : dbl b' ^^^ (dbl c' ^^^ c') ^^^ d' ^^^ a' = a' ^^^ dbl b' ^^^ (dbl c' ^^^ c') ^^^ d' := by ac_rfl
    rw [e1, e2, h1]
  have h2' : dbl c ^^^ (dbl d ^^^ d) ^^^ a ^^^ b = dbl c' ^^^ (dbl d' ^^^ d') ^^^ a' ^^^ b' := by
    have e1 : dbl c ^^^ (dbl d ^^^ d) ^^^ a ^^^ b = a ^^^ b ^^^ dbl c ^^^ (dbl d ^^^ d) := by ac_rfl
    have e2 : dbl c' ^^^ (dbl d' ^^^ d') ^^^ a' ^^^ b' = a' ^^^ b' ^^^ dbl c' ^^^ (dbl d' ^^^ d') := by ac_rfl
    rw [e1, e2, h2]
  have hTb : b ^^^ c ^^^ d ^^^ a = b' ^^^ c' ^^^ d' ^^^ a' := by
    have e1 : b ^^^ c ^^^ d ^^^ a = a ^^^ b ^^^ c ^^^ d := by ac_rfl
    have e2 : b' ^^^ c' ^^^ d' ^^^ a' = a' ^^^ b' ^^^ c' ^^^ d' := by ac_rfl
    rw [e1, e2, hT]
  have hTc : c ^^^ d ^^^ a ^^^ b = c' ^^^ d' ^^^ a' ^^^ b' := by
    have e1 : c ^^^ d ^^^ a ^^^ b = a ^^^ b ^^^ c ^^^ d := by ac_rfl
    have e2 : c' ^^^ d' ^^^ a' ^^^ b' = a' ^^^ b' ^^^ c' ^^^ d' := by ac_rfl
    rw [e1, e2, hT]
  have q0 : dbl (a ^^^ b) ^^^ a = dbl (a' ^^^ b') ^^^ a' := by
    rw [dbl_xor, dbl_xor, ← p a b c d, ← p a' b' c' d', h0, hT]
  have q1 : dbl (b ^^^ c) ^^^ b = dbl (b' ^^^ c') ^^^ b' := by
    rw [dbl_xor, dbl_xor, ← p b c d a, ← p b' c' d' a', h1', hTb]
  have q2 : dbl (c ^^^ d) ^^^ c = dbl (c' ^^^ d') ^^^ c' := by
    rw [dbl_xor, dbl_xor, ← p c d a b, ← p c' d' a' b', h2', hTc]
  have r02 : a ^^^ c = a' ^^^ c' := by
    have h : ∀ a b c d : UInt8, (dbl (a ^^^ b) ^^^ a) ^^^ (dbl (c ^^^ d) ^^^ c) = dbl (a ^^^ b ^^^ c ^^^ d) ^^^ (a ^^^ c) := by
      intro a b c d
      simp only [dbl_xor]; ac_rfl
    have h4 : dbl (a ^^^ b ^^^ c ^^^ d) ^^^ (a ^^^ c) = dbl (a' ^^^ b' ^^^ c' ^^^ d') ^^^ (a' ^^^ c') := by rw [← h, ← h, q0, q2]
    rw [hT] at h4
    exact xor_cancel h4
  have r01 : a ^^^ b = a' ^^^ b' := by
    have h : ∀ a b c : UInt8, (dbl (a ^^^ b) ^^^ a) ^^^ (dbl (b ^^^ c) ^^^ b) = dbl (a ^^^ c) ^^^ (a ^^^ b) := by
      intro a b c
      simp only [dbl_xor]
      generalize dbl a = A; generalize dbl b = B; generalize dbl c = C
      apply UInt8.toBitVec_inj.1
      simp only [UInt8.toBitVec_xor]
      ext i hi
      simp only [BitVec.getElem_xor]
      cases a.toBitVec[i] <;> cases b.toBitVec[i] <;> cases A.toBitVec[i] <;> cases B.toBitVec[i] <;> cases C.toBitVec[i] <;> rfl
    have h4 : dbl (a ^^^ c) ^^^ (a ^^^ b) = dbl (a' ^^^ c') ^^^ (a' ^^^ b') := by rw [← h a b c, ← h a' b' c', q0, q1]
    rw [r02] at h4
    exact xor_cancel h4
  have ha : a = a' := by rw [r01] at q0; exact xor_cancel q0
  subst ha
  have hb : b = b' := xor_cancel r01
  have hc : c = c' := xor_cancel r02
  subst hb; subst hc
  exact ⟨rfl, rfl, rfl, xor_cancel hT⟩
end Go.Proofs.Ytjjcnijdjhhdoaa
