/- Walks through the given program's functions, printed op by op by this session's own program; what each computes is told by the plain functions of the texts S... -/
import Derived.Test.YtndaogkpgoimlaaB7
import Derived.Test.YtndaogkpgoimlaaS12
import Derived.KernelRfl
namespace Go.Proofs.Ytndaogkpgoimlaa
open Go Go.RowKit K
set_option linter.unusedVariables false
theorem cb_35 : callable Try.prog 35 = true := by kernel_rfl
theorem cb_36 : callable Try.prog 36 = true := by kernel_rfl
theorem cb_47 : callable Try.prog 47 = true := by kernel_rfl
theorem cb_48 : callable Try.prog 48 = true := by kernel_rfl
theorem cb_49 : callable Try.prog 49 = true := by kernel_rfl
theorem cb_50 : callable Try.prog 50 = true := by kernel_rfl
theorem cb_56 : callable Try.prog 56 = true := by kernel_rfl
theorem cb_57 : callable Try.prog 57 = true := by kernel_rfl
theorem ref05_Letter (I : Snap) (L : List Ch) (W : World) (c : Int) (hh : Hp I L W)  :
    Calls Try.prog 57 #[.int .i32 c] W (Ret fun v W => v = .bool (refLetter c) ∧ Hp I (L) W) := by
  refine enter Try.func57 rfl Try.ntmps57 rfl fun a he => ?_
  refine sq ?_
  refine rg ?_
  refine asg rfl rfl he fun a he => ?_
  refine en ?_
  refine sq ?_
  refine cutr (fun a w => Env 59 [(0, .int .i32 c), (2, .bool false), (3, .bool (decide (refPlain c)))] a ∧ Hp I (L) w) ?_ fun a W hM => ?_
  · refine rg ?_
    refine mv rfl rfl he fun a he => ?_
    refine ge rfl rfl rfl he fun a he => ?_
    refine mv rfl rfl he fun a he => ?_
    refine sd he (t := 8) rfl (fun h1 he => ?_) (fun h1 he => ?_)
    · refine gy rfl he rfl ?_
      refine mv rfl rfl he fun a he => ?_
      refine gy rfl he rfl ?_
      refine le rfl rfl rfl he fun a he => ?_
      refine pkt rfl rfl rfl he fun a he => ?_
      refine mv rfl rfl he fun a he => ?_
      refine sd he (t := 12) rfl (fun h2 he => ?_) (fun h2 he => ?_)
      · refine gn rfl rfl he rfl rfl fun a he => ?_
        refine gn rfl rfl he rfl rfl fun a he => ?_
        refine gn rfl rfl he rfl rfl fun a he => ?_
        refine gnu rfl rfl he rfl fun a he => ?_
        refine gnu rfl rfl he rfl fun a he => ?_
        refine gn rfl rfl he rfl rfl fun a he => ?_
        refine pkt rfl rfl rfl he fun a he => ?_
        refine asg rfl rfl he fun a he => ?_
        refine en ?_
        replace he := he.be (t := 3) (v' := .bool (decide (refPlain c))) rfl (by congr 1; symm; first | (apply decide_eq_true; unfold refPlain; omega) | (apply decide_eq_false; unfold refPlain; omega) | (apply decide_eq_decide.2; unfold refPlain; omega))
        exact ⟨he.keep [0, 2, 3] rfl, hh⟩
      · refine gy rfl he rfl ?_
        refine mv rfl rfl he fun a he => ?_
        refine gy rfl he rfl ?_
        refine ge rfl rfl rfl he fun a he => ?_
        refine gy rfl he rfl ?_
        refine mv rfl rfl he fun a he => ?_
        refine sd he (t := 15) rfl (fun h3 he => ?_) (fun h3 he => ?_)
        · refine gy rfl he rfl ?_
          refine mv rfl rfl he fun a he => ?_
          refine gy rfl he rfl ?_
          refine le rfl rfl rfl he fun a he => ?_
          refine gy rfl he rfl ?_
          refine pkt rfl rfl rfl he fun a he => ?_
          refine pkf rfl rfl rfl he fun a he => ?_
          refine asg rfl rfl he fun a he => ?_
          refine en ?_
          replace he := he.be (t := 3) (v' := .bool (decide (refPlain c))) rfl (by congr 1; symm; first | (apply decide_eq_true; unfold refPlain; omega) | (apply decide_eq_false; unfold refPlain; omega) | (apply decide_eq_decide.2; unfold refPlain; omega))
          exact ⟨he.keep [0, 2, 3] rfl, hh⟩
        · refine gn rfl rfl he rfl rfl fun a he => ?_
          refine gn rfl rfl he rfl rfl fun a he => ?_
          refine gy rfl he rfl ?_
          refine pkf rfl rfl rfl he fun a he => ?_
          refine pkf rfl rfl rfl he fun a he => ?_
          refine asg rfl rfl he fun a he => ?_
          refine en ?_
          replace he := he.be (t := 3) (v' := .bool (decide (refPlain c))) rfl (by congr 1; symm; first | (apply decide_eq_true; unfold refPlain; omega) | (apply decide_eq_false; unfold refPlain; omega) | (apply decide_eq_decide.2; unfold refPlain; omega))
          exact ⟨he.keep [0, 2, 3] rfl, hh⟩
    · refine gn rfl rfl he rfl rfl fun a he => ?_
      refine gn rfl rfl he rfl rfl fun a he => ?_
      refine pkf rfl rfl rfl he fun a he => ?_
      refine mv rfl rfl he fun a he => ?_
      refine gy rfl he rfl ?_
      refine mv rfl rfl he fun a he => ?_
      refine gy rfl he rfl ?_
      refine ge rfl rfl rfl he fun a he => ?_
      refine gy rfl he rfl ?_
      refine mv rfl rfl he fun a he => ?_
      refine sd he (t := 15) rfl (fun h4 he => ?_) (fun h4 he => ?_)
      · refine gy rfl he rfl ?_
        refine mv rfl rfl he fun a he => ?_
        refine gy rfl he rfl ?_
        refine le rfl rfl rfl he fun a he => ?_
        refine gy rfl he rfl ?_
        refine pkt rfl rfl rfl he fun a he => ?_
        refine pkf rfl rfl rfl he fun a he => ?_
        refine asg rfl rfl he fun a he => ?_
        refine en ?_
        replace he := he.be (t := 3) (v' := .bool (decide (refPlain c))) rfl (by congr 1; symm; first | (apply decide_eq_true; unfold refPlain; omega) | (apply decide_eq_false; unfold refPlain; omega) | (apply decide_eq_decide.2; unfold refPlain; omega))
        exact ⟨he.keep [0, 2, 3] rfl, hh⟩
      · refine gn rfl rfl he rfl rfl fun a he => ?_
        refine gn rfl rfl he rfl rfl fun a he => ?_
        refine gy rfl he rfl ?_
        refine pkf rfl rfl rfl he fun a he => ?_
        refine pkf rfl rfl rfl he fun a he => ?_
        refine asg rfl rfl he fun a he => ?_
        refine en ?_
        replace he := he.be (t := 3) (v' := .bool (decide (refPlain c))) rfl (by congr 1; symm; first | (apply decide_eq_true; unfold refPlain; omega) | (apply decide_eq_false; unfold refPlain; omega) | (apply decide_eq_decide.2; unfold refPlain; omega))
        exact ⟨he.keep [0, 2, 3] rfl, hh⟩
  obtain ⟨he, hh⟩ := hM
  refine nm_then ?_
  refine sq ?_
  refine cutr (fun a w => Env 59 [(0, .int .i32 c), (2, .bool false), (3, .bool (decide (refPlain c))), (4, .bool (decide (refLatin c)))] a ∧ Hp I (L) w) ?_ fun a W hM => ?_
  · refine rg ?_
    refine mv rfl rfl he fun a he => ?_
    refine ge rfl rfl rfl he fun a he => ?_
    refine mv rfl rfl he fun a he => ?_
    refine sd he (t := 22) rfl (fun h5 he => ?_) (fun h5 he => ?_)
    · refine gy rfl he rfl ?_
      refine mv rfl rfl he fun a he => ?_
      refine gy rfl he rfl ?_
      refine le rfl rfl rfl he fun a he => ?_
      refine pkt rfl rfl rfl he fun a he => ?_
      refine mv rfl rfl he fun a he => ?_
      refine sd he (t := 26) rfl (fun h6 he => ?_) (fun h6 he => ?_)
      · refine gy rfl he rfl ?_
        refine mv rfl rfl he fun a he => ?_
        refine gy rfl he rfl ?_
        refine ne rfl rfl rfl he fun a he => ?_
        refine pkt rfl rfl rfl he fun a he => ?_
        refine mv rfl rfl he fun a he => ?_
        refine sd he (t := 30) rfl (fun h7 he => ?_) (fun h7 he => ?_)
        · refine gy rfl he rfl ?_
          refine mv rfl rfl he fun a he => ?_
          refine gy rfl he rfl ?_
          refine ne rfl rfl rfl he fun a he => ?_
          refine pkt rfl rfl rfl he fun a he => ?_
          refine asg rfl rfl he fun a he => ?_
          refine en ?_
          replace he := he.be (t := 4) (v' := .bool (decide (refLatin c))) rfl (by congr 1; symm; first | (apply decide_eq_true; unfold refLatin; omega) | (apply decide_eq_false; unfold refLatin; omega) | (apply decide_eq_decide.2; unfold refLatin; omega))
          exact ⟨he.keep [0, 2, 3, 4] rfl, hh⟩
        · refine gn rfl rfl he rfl rfl fun a he => ?_
          refine gn rfl rfl he rfl rfl fun a he => ?_
          refine pkf rfl rfl rfl he fun a he => ?_
          refine asg rfl rfl he fun a he => ?_
          refine en ?_
          replace he := he.be (t := 4) (v' := .bool (decide (refLatin c))) rfl (by congr 1; symm; first | (apply decide_eq_true; unfold refLatin; omega) | (apply decide_eq_false; unfold refLatin; omega) | (apply decide_eq_decide.2; unfold refLatin; omega))
          exact ⟨he.keep [0, 2, 3, 4] rfl, hh⟩
      · refine gn rfl rfl he rfl rfl fun a he => ?_
        refine gn rfl rfl he rfl rfl fun a he => ?_
        refine pkf rfl rfl rfl he fun a he => ?_
        refine mv rfl rfl he fun a he => ?_
        refine gn rfl rfl he rfl rfl fun a he => ?_
        refine gn rfl rfl he rfl rfl fun a he => ?_
        refine pkf rfl rfl rfl he fun a he => ?_
        refine asg rfl rfl he fun a he => ?_
        refine en ?_
        replace he := he.be (t := 4) (v' := .bool (decide (refLatin c))) rfl (by congr 1; symm; first | (apply decide_eq_true; unfold refLatin; omega) | (apply decide_eq_false; unfold refLatin; omega) | (apply decide_eq_decide.2; unfold refLatin; omega))
        exact ⟨he.keep [0, 2, 3, 4] rfl, hh⟩
    · refine gn rfl rfl he rfl rfl fun a he => ?_
      refine gn rfl rfl he rfl rfl fun a he => ?_
      refine pkf rfl rfl rfl he fun a he => ?_
      refine mv rfl rfl he fun a he => ?_
      refine gn rfl rfl he rfl rfl fun a he => ?_
      refine gn rfl rfl he rfl rfl fun a he => ?_
      refine pkf rfl rfl rfl he fun a he => ?_
      refine mv rfl rfl he fun a he => ?_
      refine gn rfl rfl he rfl rfl fun a he => ?_
      refine gn rfl rfl he rfl rfl fun a he => ?_
      refine pkf rfl rfl rfl he fun a he => ?_
      refine asg rfl rfl he fun a he => ?_
      refine en ?_
      replace he := he.be (t := 4) (v' := .bool (decide (refLatin c))) rfl (by congr 1; symm; first | (apply decide_eq_true; unfold refLatin; omega) | (apply decide_eq_false; unfold refLatin; omega) | (apply decide_eq_decide.2; unfold refLatin; omega))
      exact ⟨he.keep [0, 2, 3, 4] rfl, hh⟩
  obtain ⟨he, hh⟩ := hM
  refine nm_then ?_
  refine sq ?_
  refine cutr (fun a w => Env 59 [(0, .int .i32 c), (2, .bool false), (3, .bool (decide (refPlain c))), (4, .bool (decide (refLatin c))), (5, .bool (decide (refGreek c)))] a ∧ Hp I (L) w) ?_ fun a W hM => ?_
  · refine rg ?_
    refine mv rfl rfl he fun a he => ?_
    refine ge rfl rfl rfl he fun a he => ?_
    refine mv rfl rfl he fun a he => ?_
    refine sd he (t := 36) rfl (fun h8 he => ?_) (fun h8 he => ?_)
    · refine gy rfl he rfl ?_
      refine mv rfl rfl he fun a he => ?_
      refine gy rfl he rfl ?_
      refine le rfl rfl rfl he fun a he => ?_
      refine pkt rfl rfl rfl he fun a he => ?_
      refine mv rfl rfl he fun a he => ?_
      refine sd he (t := 40) rfl (fun h9 he => ?_) (fun h9 he => ?_)
      · refine gy rfl he rfl ?_
        refine mv rfl rfl he fun a he => ?_
        refine gy rfl he rfl ?_
        refine ne rfl rfl rfl he fun a he => ?_
        refine pkt rfl rfl rfl he fun a he => ?_
        refine asg rfl rfl he fun a he => ?_
        refine en ?_
        replace he := he.be (t := 5) (v' := .bool (decide (refGreek c))) rfl (by congr 1; symm; first | (apply decide_eq_true; unfold refGreek; omega) | (apply decide_eq_false; unfold refGreek; omega) | (apply decide_eq_decide.2; unfold refGreek; omega))
        exact ⟨he.keep [0, 2, 3, 4, 5] rfl, hh⟩
      · refine gn rfl rfl he rfl rfl fun a he => ?_
        refine gn rfl rfl he rfl rfl fun a he => ?_
        refine pkf rfl rfl rfl he fun a he => ?_
        refine asg rfl rfl he fun a he => ?_
        refine en ?_
        replace he := he.be (t := 5) (v' := .bool (decide (refGreek c))) rfl (by congr 1; symm; first | (apply decide_eq_true; unfold refGreek; omega) | (apply decide_eq_false; unfold refGreek; omega) | (apply decide_eq_decide.2; unfold refGreek; omega))
        exact ⟨he.keep [0, 2, 3, 4, 5] rfl, hh⟩
    · refine gn rfl rfl he rfl rfl fun a he => ?_
      refine gn rfl rfl he rfl rfl fun a he => ?_
      refine pkf rfl rfl rfl he fun a he => ?_
      refine mv rfl rfl he fun a he => ?_
      refine gn rfl rfl he rfl rfl fun a he => ?_
      refine gn rfl rfl he rfl rfl fun a he => ?_
      refine pkf rfl rfl rfl he fun a he => ?_
      refine asg rfl rfl he fun a he => ?_
      refine en ?_
      replace he := he.be (t := 5) (v' := .bool (decide (refGreek c))) rfl (by congr 1; symm; first | (apply decide_eq_true; unfold refGreek; omega) | (apply decide_eq_false; unfold refGreek; omega) | (apply decide_eq_decide.2; unfold refGreek; omega))
      exact ⟨he.keep [0, 2, 3, 4, 5] rfl, hh⟩
  obtain ⟨he, hh⟩ := hM
  refine nm_then ?_
  refine sq ?_
  refine cutr (fun a w => Env 59 [(0, .int .i32 c), (2, .bool (decide (refPlain c ∨ refLatin c ∨ refGreek c ∨ 1024 ≤ c ∧ c ≤ 1119))), (3, .bool (decide (refPlain c))), (4, .bool (decide (refLatin c))), (5, .bool (decide (refGreek c)))] a ∧ Hp I (L) w) ?_ fun a W hM => ?_
  · refine rg ?_
    refine mv rfl rfl he fun a he => ?_
    refine mv rfl rfl he fun a he => ?_
    refine sd he (t := 45) rfl (fun h10 he => ?_) (fun h10 he => ?_)
    · refine gn rfl rfl he rfl rfl fun a he => ?_
      refine pkt rfl rfl rfl he fun a he => ?_
      refine mv rfl rfl he fun a he => ?_
      refine gn rfl rfl he rfl rfl fun a he => ?_
      refine pkt rfl rfl rfl he fun a he => ?_
      refine mv rfl rfl he fun a he => ?_
      refine gn rfl rfl he rfl rfl fun a he => ?_
      refine gn rfl rfl he rfl rfl fun a he => ?_
      refine gn rfl rfl he rfl rfl fun a he => ?_
      refine gnu rfl rfl he rfl fun a he => ?_
      refine gnu rfl rfl he rfl fun a he => ?_
      refine gn rfl rfl he rfl rfl fun a he => ?_
      refine pkt rfl rfl rfl he fun a he => ?_
      refine asg rfl rfl he fun a he => ?_
      refine en ?_
      replace he := he.be (t := 2) (v' := .bool (decide (refPlain c ∨ refLatin c ∨ refGreek c ∨ 1024 ≤ c ∧ c ≤ 1119))) rfl (by congr 1; symm; first | (apply decide_eq_true; unfold refPlain refLatin refGreek at *; omega) | (apply decide_eq_false; unfold refPlain refLatin refGreek at *; omega) | (apply decide_eq_decide.2; unfold refPlain refLatin refGreek at *; omega))
      exact ⟨he.keep [0, 2, 3, 4, 5] rfl, hh⟩
    · refine gy rfl he rfl ?_
      refine mv rfl rfl he fun a he => ?_
      refine pkf rfl rfl rfl he fun a he => ?_
      refine mv rfl rfl he fun a he => ?_
      refine sd he (t := 48) rfl (fun h11 he => ?_) (fun h11 he => ?_)
      · refine gn rfl rfl he rfl rfl fun a he => ?_
        refine pkt rfl rfl rfl he fun a he => ?_
        refine mv rfl rfl he fun a he => ?_
        refine gn rfl rfl he rfl rfl fun a he => ?_
        refine gn rfl rfl he rfl rfl fun a he => ?_
        refine gn rfl rfl he rfl rfl fun a he => ?_
        refine gnu rfl rfl he rfl fun a he => ?_
        refine gnu rfl rfl he rfl fun a he => ?_
        refine gn rfl rfl he rfl rfl fun a he => ?_
        refine pkt rfl rfl rfl he fun a he => ?_
        refine asg rfl rfl he fun a he => ?_
        refine en ?_
        replace he := he.be (t := 2) (v' := .bool (decide (refPlain c ∨ refLatin c ∨ refGreek c ∨ 1024 ≤ c ∧ c ≤ 1119))) rfl (by congr 1; symm; first | (apply decide_eq_true; unfold refPlain refLatin refGreek at *; omega) | (apply decide_eq_false; unfold refPlain refLatin refGreek at *; omega) | (apply decide_eq_decide.2; unfold refPlain refLatin refGreek at *; omega))
        exact ⟨he.keep [0, 2, 3, 4, 5] rfl, hh⟩
      · refine gy rfl he rfl ?_
        refine mv rfl rfl he fun a he => ?_
        refine pkf rfl rfl rfl he fun a he => ?_
        refine mv rfl rfl he fun a he => ?_
        refine sd he (t := 51) rfl (fun h12 he => ?_) (fun h12 he => ?_)
        · refine gn rfl rfl he rfl rfl fun a he => ?_
          refine gn rfl rfl he rfl rfl fun a he => ?_
          refine gn rfl rfl he rfl rfl fun a he => ?_
          refine gnu rfl rfl he rfl fun a he => ?_
          refine gnu rfl rfl he rfl fun a he => ?_
          refine gn rfl rfl he rfl rfl fun a he => ?_
          refine pkt rfl rfl rfl he fun a he => ?_
          refine asg rfl rfl he fun a he => ?_
          refine en ?_
          replace he := he.be (t := 2) (v' := .bool (decide (refPlain c ∨ refLatin c ∨ refGreek c ∨ 1024 ≤ c ∧ c ≤ 1119))) rfl (by congr 1; symm; first | (apply decide_eq_true; unfold refPlain refLatin refGreek at *; omega) | (apply decide_eq_false; unfold refPlain refLatin refGreek at *; omega) | (apply decide_eq_decide.2; unfold refPlain refLatin refGreek at *; omega))
          exact ⟨he.keep [0, 2, 3, 4, 5] rfl, hh⟩
        · refine gy rfl he rfl ?_
          refine mv rfl rfl he fun a he => ?_
          refine gy rfl he rfl ?_
          refine ge rfl rfl rfl he fun a he => ?_
          refine gy rfl he rfl ?_
          refine mv rfl rfl he fun a he => ?_
          refine sd he (t := 54) rfl (fun h13 he => ?_) (fun h13 he => ?_)
          · refine gy rfl he rfl ?_
            refine mv rfl rfl he fun a he => ?_
            refine gy rfl he rfl ?_
            refine le rfl rfl rfl he fun a he => ?_
            refine gy rfl he rfl ?_
            refine pkt rfl rfl rfl he fun a he => ?_
            refine pkf rfl rfl rfl he fun a he => ?_
            refine asg rfl rfl he fun a he => ?_
            refine en ?_
            replace he := he.be (t := 2) (v' := .bool (decide (refPlain c ∨ refLatin c ∨ refGreek c ∨ 1024 ≤ c ∧ c ≤ 1119))) rfl (by congr 1; symm; first | (apply decide_eq_true; unfold refPlain refLatin refGreek at *; omega) | (apply decide_eq_false; unfold refPlain refLatin refGreek at *; omega) | (apply decide_eq_decide.2; unfold refPlain refLatin refGreek at *; omega))
            exact ⟨he.keep [0, 2, 3, 4, 5] rfl, hh⟩
          · refine gn rfl rfl he rfl rfl fun a he => ?_
            refine gn rfl rfl he rfl rfl fun a he => ?_
            refine gy rfl he rfl ?_
            refine pkf rfl rfl rfl he fun a he => ?_
            refine pkf rfl rfl rfl he fun a he => ?_
            refine asg rfl rfl he fun a he => ?_
            refine en ?_
            replace he := he.be (t := 2) (v' := .bool (decide (refPlain c ∨ refLatin c ∨ refGreek c ∨ 1024 ≤ c ∧ c ≤ 1119))) rfl (by congr 1; symm; first | (apply decide_eq_true; unfold refPlain refLatin refGreek at *; omega) | (apply decide_eq_false; unfold refPlain refLatin refGreek at *; omega) | (apply decide_eq_decide.2; unfold refPlain refLatin refGreek at *; omega))
            exact ⟨he.keep [0, 2, 3, 4, 5] rfl, hh⟩
  obtain ⟨he, hh⟩ := hM
  refine nm_then ?_
  refine rt ?_
  refine rets1 Try.results57 he rfl (Ret.mk ?_)
  exact ⟨rfl, hh⟩

theorem ref05_Fold (I : Snap) (L : List Ch) (W : World) (c : Int) (hh : Hp I L W)  :
    Calls Try.prog 49 #[.int .i32 c] W (Ret fun v W => v = .int .i32 (refFold c) ∧ Hp I (L) W) := by
  refine enter Try.func49 rfl Try.ntmps49 rfl fun a he => ?_
  refine sq ?_
  refine rg ?_
  refine asg rfl rfl he fun a he => ?_
  refine en ?_
  refine sq ?_
  refine cutr (fun a w => Env 118 [(0, .int .i32 c), (2, .int .i32 0), (3, .bool (decide (refEven c)))] a ∧ Hp I (L) w) ?_ fun a W hM => ?_
  · refine rg ?_
    refine mv rfl rfl he fun a he => ?_
    refine rm (c.tmod 2) rfl rfl (by omega) (rfl) rfl he fun a he => ?_
    refine eq rfl rfl rfl he fun a he => ?_
    refine mv rfl rfl he fun a he => ?_
    refine sd he (t := 9) rfl (fun h1 he => ?_) (fun h1 he => ?_)
    · refine gy rfl he rfl ?_
      refine mv rfl rfl he fun a he => ?_
      refine gy rfl he rfl ?_
      refine ge rfl rfl rfl he fun a he => ?_
      refine gy rfl he rfl ?_
      refine mv rfl rfl he fun a he => ?_
      refine sd he (t := 12) rfl (fun h2 he => ?_) (fun h2 he => ?_)
      · refine gy rfl he rfl ?_
        refine mv rfl rfl he fun a he => ?_
        refine gy rfl he rfl ?_
        refine le rfl rfl rfl he fun a he => ?_
        refine gy rfl he rfl ?_
        refine pkt rfl rfl rfl he fun a he => ?_
        refine gy rfl he rfl ?_
        refine mv rfl rfl he fun a he => ?_
        refine sd he (t := 16) rfl (fun h3 he => ?_) (fun h3 he => ?_)
        · refine gn rfl rfl he rfl rfl fun a he => ?_
          refine gn rfl rfl he rfl rfl fun a he => ?_
          refine gn rfl rfl he rfl rfl fun a he => ?_
          refine gnu rfl rfl he rfl fun a he => ?_
          refine gnu rfl rfl he rfl fun a he => ?_
          refine gn rfl rfl he rfl rfl fun a he => ?_
          refine gy rfl he rfl ?_
          refine pkt rfl rfl rfl he fun a he => ?_
          refine gy rfl he rfl ?_
          refine mv rfl rfl he fun a he => ?_
          refine gn rfl rfl he rfl rfl fun a he => ?_
          refine gn rfl rfl he rfl rfl fun a he => ?_
          refine gn rfl rfl he rfl rfl fun a he => ?_
          refine gnu rfl rfl he rfl fun a he => ?_
          refine gnu rfl rfl he rfl fun a he => ?_
          refine gn rfl rfl he rfl rfl fun a he => ?_
          refine gy rfl he rfl ?_
          refine pkt rfl rfl rfl he fun a he => ?_
          refine pkt rfl rfl rfl he fun a he => ?_
          refine asg rfl rfl he fun a he => ?_
          refine en ?_
          replace he := he.be (t := 3) (v' := .bool (decide (refEven c))) rfl (by congr 1; symm; first | (apply decide_eq_true; unfold refEven; omega) | (apply decide_eq_false; unfold refEven; omega) | (apply decide_eq_decide.2; unfold refEven; omega))
          exact ⟨he.keep [0, 2, 3] rfl, hh⟩
        · refine gy rfl he rfl ?_
          refine mv rfl rfl he fun a he => ?_
          refine gy rfl he rfl ?_
          refine ge rfl rfl rfl he fun a he => ?_
          refine gy rfl he rfl ?_
          refine mv rfl rfl he fun a he => ?_
          refine sd he (t := 19) rfl (fun h4 he => ?_) (fun h4 he => ?_)
          · refine gy rfl he rfl ?_
            refine mv rfl rfl he fun a he => ?_
            refine gy rfl he rfl ?_
            refine le rfl rfl rfl he fun a he => ?_
            refine gy rfl he rfl ?_
            refine pkt rfl rfl rfl he fun a he => ?_
            refine gy rfl he rfl ?_
            refine pkf rfl rfl rfl he fun a he => ?_
            refine gy rfl he rfl ?_
            refine mv rfl rfl he fun a he => ?_
            refine sd he (t := 24) rfl (fun h5 he => ?_) (fun h5 he => ?_)
            · refine gn rfl rfl he rfl rfl fun a he => ?_
              refine gn rfl rfl he rfl rfl fun a he => ?_
              refine gn rfl rfl he rfl rfl fun a he => ?_
              refine gnu rfl rfl he rfl fun a he => ?_
              refine gnu rfl rfl he rfl fun a he => ?_
              refine gn rfl rfl he rfl rfl fun a he => ?_
              refine gy rfl he rfl ?_
              refine pkt rfl rfl rfl he fun a he => ?_
              refine pkt rfl rfl rfl he fun a he => ?_
              refine asg rfl rfl he fun a he => ?_
              refine en ?_
              replace he := he.be (t := 3) (v' := .bool (decide (refEven c))) rfl (by congr 1; symm; first | (apply decide_eq_true; unfold refEven; omega) | (apply decide_eq_false; unfold refEven; omega) | (apply decide_eq_decide.2; unfold refEven; omega))
              exact ⟨he.keep [0, 2, 3] rfl, hh⟩
            · refine gy rfl he rfl ?_
              refine mv rfl rfl he fun a he => ?_
              refine gy rfl he rfl ?_
              refine ge rfl rfl rfl he fun a he => ?_
              refine gy rfl he rfl ?_
              refine mv rfl rfl he fun a he => ?_
              refine sd he (t := 27) rfl (fun h6 he => ?_) (fun h6 he => ?_)
              · refine gy rfl he rfl ?_
                refine mv rfl rfl he fun a he => ?_
                refine gy rfl he rfl ?_
                refine le rfl rfl rfl he fun a he => ?_
                refine gy rfl he rfl ?_
                refine pkt rfl rfl rfl he fun a he => ?_
                refine gy rfl he rfl ?_
                refine pkf rfl rfl rfl he fun a he => ?_
                refine pkt rfl rfl rfl he fun a he => ?_
                refine asg rfl rfl he fun a he => ?_
                refine en ?_
                replace he := he.be (t := 3) (v' := .bool (decide (refEven c))) rfl (by congr 1; symm; first | (apply decide_eq_true; unfold refEven; omega) | (apply decide_eq_false; unfold refEven; omega) | (apply decide_eq_decide.2; unfold refEven; omega))
                exact ⟨he.keep [0, 2, 3] rfl, hh⟩
              · refine gn rfl rfl he rfl rfl fun a he => ?_
                refine gn rfl rfl he rfl rfl fun a he => ?_
                refine gy rfl he rfl ?_
                refine pkf rfl rfl rfl he fun a he => ?_
                refine gy rfl he rfl ?_
                refine pkf rfl rfl rfl he fun a he => ?_
                refine pkt rfl rfl rfl he fun a he => ?_
                refine asg rfl rfl he fun a he => ?_
                refine en ?_
                replace he := he.be (t := 3) (v' := .bool (decide (refEven c))) rfl (by congr 1; symm; first | (apply decide_eq_true; unfold refEven; omega) | (apply decide_eq_false; unfold refEven; omega) | (apply decide_eq_decide.2; unfold refEven; omega))
                exact ⟨he.keep [0, 2, 3] rfl, hh⟩
          · refine gn rfl rfl he rfl rfl fun a he => ?_
            refine gn rfl rfl he rfl rfl fun a he => ?_
            refine gy rfl he rfl ?_
            refine pkf rfl rfl rfl he fun a he => ?_
            refine gy rfl he rfl ?_
            refine pkf rfl rfl rfl he fun a he => ?_
            refine gy rfl he rfl ?_
            refine mv rfl rfl he fun a he => ?_
            refine gy rfl he rfl ?_
            refine mv rfl rfl he fun a he => ?_
            refine gy rfl he rfl ?_
            refine ge rfl rfl rfl he fun a he => ?_
            refine gy rfl he rfl ?_
            refine mv rfl rfl he fun a he => ?_
            refine sd he (t := 27) rfl (fun h7 he => ?_) (fun h7 he => ?_)
            · refine gy rfl he rfl ?_
              refine mv rfl rfl he fun a he => ?_
              refine gy rfl he rfl ?_
              refine le rfl rfl rfl he fun a he => ?_
              refine gy rfl he rfl ?_
              refine pkt rfl rfl rfl he fun a he => ?_
              refine gy rfl he rfl ?_
              refine pkf rfl rfl rfl he fun a he => ?_
              refine pkt rfl rfl rfl he fun a he => ?_
              refine asg rfl rfl he fun a he => ?_
              refine en ?_
              replace he := he.be (t := 3) (v' := .bool (decide (refEven c))) rfl (by congr 1; symm; first | (apply decide_eq_true; unfold refEven; omega) | (apply decide_eq_false; unfold refEven; omega) | (apply decide_eq_decide.2; unfold refEven; omega))
              exact ⟨he.keep [0, 2, 3] rfl, hh⟩
            · refine gn rfl rfl he rfl rfl fun a he => ?_
              refine gn rfl rfl he rfl rfl fun a he => ?_
              refine gy rfl he rfl ?_
              refine pkf rfl rfl rfl he fun a he => ?_
              refine gy rfl he rfl ?_
              refine pkf rfl rfl rfl he fun a he => ?_
              refine pkt rfl rfl rfl he fun a he => ?_
              refine asg rfl rfl he fun a he => ?_
              refine en ?_
              replace he := he.be (t := 3) (v' := .bool (decide (refEven c))) rfl (by congr 1; symm; first | (apply decide_eq_true; unfold refEven; omega) | (apply decide_eq_false; unfold refEven; omega) | (apply decide_eq_decide.2; unfold refEven; omega))
              exact ⟨he.keep [0, 2, 3] rfl, hh⟩
      · refine gn rfl rfl he rfl rfl fun a he => ?_
        refine gn rfl rfl he rfl rfl fun a he => ?_
        refine gy rfl he rfl ?_
        refine pkf rfl rfl rfl he fun a he => ?_
        refine gy rfl he rfl ?_
        refine mv rfl rfl he fun a he => ?_
        refine gy rfl he rfl ?_
        refine mv rfl rfl he fun a he => ?_
        refine gy rfl he rfl ?_
        refine ge rfl rfl rfl he fun a he => ?_
        refine gy rfl he rfl ?_
        refine mv rfl rfl he fun a he => ?_
        refine sd he (t := 19) rfl (fun h8 he => ?_) (fun h8 he => ?_)
        · refine gy rfl he rfl ?_
          refine mv rfl rfl he fun a he => ?_
          refine gy rfl he rfl ?_
          refine le rfl rfl rfl he fun a he => ?_
          refine gy rfl he rfl ?_
          refine pkt rfl rfl rfl he fun a he => ?_
          refine gy rfl he rfl ?_
          refine pkf rfl rfl rfl he fun a he => ?_
          refine gy rfl he rfl ?_
          refine mv rfl rfl he fun a he => ?_
          refine sd he (t := 24) rfl (fun h9 he => ?_) (fun h9 he => ?_)
          · refine gn rfl rfl he rfl rfl fun a he => ?_
            refine gn rfl rfl he rfl rfl fun a he => ?_
            refine gn rfl rfl he rfl rfl fun a he => ?_
            refine gnu rfl rfl he rfl fun a he => ?_
            refine gnu rfl rfl he rfl fun a he => ?_
            refine gn rfl rfl he rfl rfl fun a he => ?_
            refine gy rfl he rfl ?_
            refine pkt rfl rfl rfl he fun a he => ?_
            refine pkt rfl rfl rfl he fun a he => ?_
            refine asg rfl rfl he fun a he => ?_
            refine en ?_
            replace he := he.be (t := 3) (v' := .bool (decide (refEven c))) rfl (by congr 1; symm; first | (apply decide_eq_true; unfold refEven; omega) | (apply decide_eq_false; unfold refEven; omega) | (apply decide_eq_decide.2; unfold refEven; omega))
            exact ⟨he.keep [0, 2, 3] rfl, hh⟩
          · refine gy rfl he rfl ?_
            refine mv rfl rfl he fun a he => ?_
            refine gy rfl he rfl ?_
            refine ge rfl rfl rfl he fun a he => ?_
            refine gy rfl he rfl ?_
            refine mv rfl rfl he fun a he => ?_
            refine sd he (t := 27) rfl (fun h10 he => ?_) (fun h10 he => ?_)
            · refine gy rfl he rfl ?_
              refine mv rfl rfl he fun a he => ?_
              refine gy rfl he rfl ?_
              refine le rfl rfl rfl he fun a he => ?_
              refine gy rfl he rfl ?_
              refine pkt rfl rfl rfl he fun a he => ?_
              refine gy rfl he rfl ?_
              refine pkf rfl rfl rfl he fun a he => ?_
              refine pkt rfl rfl rfl he fun a he => ?_
              refine asg rfl rfl he fun a he => ?_
              refine en ?_
              replace he := he.be (t := 3) (v' := .bool (decide (refEven c))) rfl (by congr 1; symm; first | (apply decide_eq_true; unfold refEven; omega) | (apply decide_eq_false; unfold refEven; omega) | (apply decide_eq_decide.2; unfold refEven; omega))
              exact ⟨he.keep [0, 2, 3] rfl, hh⟩
            · refine gn rfl rfl he rfl rfl fun a he => ?_
              refine gn rfl rfl he rfl rfl fun a he => ?_
              refine gy rfl he rfl ?_
              refine pkf rfl rfl rfl he fun a he => ?_
              refine gy rfl he rfl ?_
              refine pkf rfl rfl rfl he fun a he => ?_
              refine pkt rfl rfl rfl he fun a he => ?_
              refine asg rfl rfl he fun a he => ?_
              refine en ?_
              replace he := he.be (t := 3) (v' := .bool (decide (refEven c))) rfl (by congr 1; symm; first | (apply decide_eq_true; unfold refEven; omega) | (apply decide_eq_false; unfold refEven; omega) | (apply decide_eq_decide.2; unfold refEven; omega))
              exact ⟨he.keep [0, 2, 3] rfl, hh⟩
        · refine gn rfl rfl he rfl rfl fun a he => ?_
          refine gn rfl rfl he rfl rfl fun a he => ?_
          refine gy rfl he rfl ?_
          refine pkf rfl rfl rfl he fun a he => ?_
          refine gy rfl he rfl ?_
          refine pkf rfl rfl rfl he fun a he => ?_
          refine gy rfl he rfl ?_
          refine mv rfl rfl he fun a he => ?_
          refine gy rfl he rfl ?_
          refine mv rfl rfl he fun a he => ?_
          refine gy rfl he rfl ?_
          refine ge rfl rfl rfl he fun a he => ?_
          refine gy rfl he rfl ?_
          refine mv rfl rfl he fun a he => ?_
          refine sd he (t := 27) rfl (fun h11 he => ?_) (fun h11 he => ?_)
          · refine gy rfl he rfl ?_
            refine mv rfl rfl he fun a he => ?_
            refine gy rfl he rfl ?_
            refine le rfl rfl rfl he fun a he => ?_
            refine gy rfl he rfl ?_
            refine pkt rfl rfl rfl he fun a he => ?_
            refine gy rfl he rfl ?_
            refine pkf rfl rfl rfl he fun a he => ?_
            refine pkt rfl rfl rfl he fun a he => ?_
            refine asg rfl rfl he fun a he => ?_
            refine en ?_
            replace he := he.be (t := 3) (v' := .bool (decide (refEven c))) rfl (by congr 1; symm; first | (apply decide_eq_true; unfold refEven; omega) | (apply decide_eq_false; unfold refEven; omega) | (apply decide_eq_decide.2; unfold refEven; omega))
            exact ⟨he.keep [0, 2, 3] rfl, hh⟩
          · refine gn rfl rfl he rfl rfl fun a he => ?_
            refine gn rfl rfl he rfl rfl fun a he => ?_
            refine gy rfl he rfl ?_
            refine pkf rfl rfl rfl he fun a he => ?_
            refine gy rfl he rfl ?_
            refine pkf rfl rfl rfl he fun a he => ?_
            refine pkt rfl rfl rfl he fun a he => ?_
            refine asg rfl rfl he fun a he => ?_
            refine en ?_
            replace he := he.be (t := 3) (v' := .bool (decide (refEven c))) rfl (by congr 1; symm; first | (apply decide_eq_true; unfold refEven; omega) | (apply decide_eq_false; unfold refEven; omega) | (apply decide_eq_decide.2; unfold refEven; omega))
            exact ⟨he.keep [0, 2, 3] rfl, hh⟩
    · refine gn rfl rfl he rfl rfl fun a he => ?_
      refine gn rfl rfl he rfl rfl fun a he => ?_
      refine gn rfl rfl he rfl rfl fun a he => ?_
      refine gnu rfl rfl he rfl fun a he => ?_
      refine gnu rfl rfl he rfl fun a he => ?_
      refine gn rfl rfl he rfl rfl fun a he => ?_
      refine gn rfl rfl he rfl rfl fun a he => ?_
      refine gnu rfl rfl he rfl fun a he => ?_
      refine gnu rfl rfl he rfl fun a he => ?_
      refine gnu rfl rfl he rfl fun a he => ?_
      refine gnu rfl rfl he rfl fun a he => ?_
      refine gnu rfl rfl he rfl fun a he => ?_
      refine gnu rfl rfl he rfl fun a he => ?_
      refine gn rfl rfl he rfl rfl fun a he => ?_
      refine gn rfl rfl he rfl rfl fun a he => ?_
      refine gnu rfl rfl he rfl fun a he => ?_
      refine gnu rfl rfl he rfl fun a he => ?_
      refine gnu rfl rfl he rfl fun a he => ?_
      refine gnu rfl rfl he rfl fun a he => ?_
      refine gnu rfl rfl he rfl fun a he => ?_
      refine gnu rfl rfl he rfl fun a he => ?_
      refine gn rfl rfl he rfl rfl fun a he => ?_
      refine pkf rfl rfl rfl he fun a he => ?_
      refine asg rfl rfl he fun a he => ?_
      refine en ?_
      replace he := he.be (t := 3) (v' := .bool (decide (refEven c))) rfl (by congr 1; symm; first | (apply decide_eq_true; unfold refEven; omega) | (apply decide_eq_false; unfold refEven; omega) | (apply decide_eq_decide.2; unfold refEven; omega))
      exact ⟨he.keep [0, 2, 3] rfl, hh⟩
  obtain ⟨he, hh⟩ := hM
  refine nm_then ?_
  refine sq ?_
  refine cutr (fun a w => Env 118 [(0, .int .i32 c), (2, .int .i32 0), (3, .bool (decide (refEven c))), (4, .bool (decide (refOdd c)))] a ∧ Hp I (L) w) ?_ fun a W hM => ?_
  · refine rg ?_
    refine mv rfl rfl he fun a he => ?_
    refine rm (c.tmod 2) rfl rfl (by omega) (rfl) rfl he fun a he => ?_
    refine eq rfl rfl rfl he fun a he => ?_
    refine mv rfl rfl he fun a he => ?_
    refine sd he (t := 36) rfl (fun h12 he => ?_) (fun h12 he => ?_)
    · refine gy rfl he rfl ?_
      refine mv rfl rfl he fun a he => ?_
      refine gy rfl he rfl ?_
      refine ge rfl rfl rfl he fun a he => ?_
      refine gy rfl he rfl ?_
      refine mv rfl rfl he fun a he => ?_
      refine sd he (t := 39) rfl (fun h13 he => ?_) (fun h13 he => ?_)
      · refine gy rfl he rfl ?_
        refine mv rfl rfl he fun a he => ?_
        refine gy rfl he rfl ?_
        refine le rfl rfl rfl he fun a he => ?_
        refine gy rfl he rfl ?_
        refine pkt rfl rfl rfl he fun a he => ?_
        refine gy rfl he rfl ?_
        refine mv rfl rfl he fun a he => ?_
        refine sd he (t := 43) rfl (fun h14 he => ?_) (fun h14 he => ?_)
        · refine gn rfl rfl he rfl rfl fun a he => ?_
          refine gn rfl rfl he rfl rfl fun a he => ?_
          refine gn rfl rfl he rfl rfl fun a he => ?_
          refine gnu rfl rfl he rfl fun a he => ?_
          refine gnu rfl rfl he rfl fun a he => ?_
          refine gn rfl rfl he rfl rfl fun a he => ?_
          refine gy rfl he rfl ?_
          refine pkt rfl rfl rfl he fun a he => ?_
          refine pkt rfl rfl rfl he fun a he => ?_
          refine asg rfl rfl he fun a he => ?_
          refine en ?_
          replace he := he.be (t := 4) (v' := .bool (decide (refOdd c))) rfl (by congr 1; symm; first | (apply decide_eq_true; unfold refOdd; omega) | (apply decide_eq_false; unfold refOdd; omega) | (apply decide_eq_decide.2; unfold refOdd; omega))
          exact ⟨he.keep [0, 2, 3, 4] rfl, hh⟩
        · refine gy rfl he rfl ?_
          refine mv rfl rfl he fun a he => ?_
          refine gy rfl he rfl ?_
          refine ge rfl rfl rfl he fun a he => ?_
          refine gy rfl he rfl ?_
          refine mv rfl rfl he fun a he => ?_
          refine sd he (t := 46) rfl (fun h15 he => ?_) (fun h15 he => ?_)
          · refine gy rfl he rfl ?_
            refine mv rfl rfl he fun a he => ?_
            refine gy rfl he rfl ?_
            refine le rfl rfl rfl he fun a he => ?_
            refine gy rfl he rfl ?_
            refine pkt rfl rfl rfl he fun a he => ?_
            refine gy rfl he rfl ?_
            refine pkf rfl rfl rfl he fun a he => ?_
            refine pkt rfl rfl rfl he fun a he => ?_
            refine asg rfl rfl he fun a he => ?_
            refine en ?_
            replace he := he.be (t := 4) (v' := .bool (decide (refOdd c))) rfl (by congr 1; symm; first | (apply decide_eq_true; unfold refOdd; omega) | (apply decide_eq_false; unfold refOdd; omega) | (apply decide_eq_decide.2; unfold refOdd; omega))
            exact ⟨he.keep [0, 2, 3, 4] rfl, hh⟩
          · refine gn rfl rfl he rfl rfl fun a he => ?_
            refine gn rfl rfl he rfl rfl fun a he => ?_
            refine gy rfl he rfl ?_
            refine pkf rfl rfl rfl he fun a he => ?_
            refine gy rfl he rfl ?_
            refine pkf rfl rfl rfl he fun a he => ?_
            refine pkt rfl rfl rfl he fun a he => ?_
            refine asg rfl rfl he fun a he => ?_
            refine en ?_
            replace he := he.be (t := 4) (v' := .bool (decide (refOdd c))) rfl (by congr 1; symm; first | (apply decide_eq_true; unfold refOdd; omega) | (apply decide_eq_false; unfold refOdd; omega) | (apply decide_eq_decide.2; unfold refOdd; omega))
            exact ⟨he.keep [0, 2, 3, 4] rfl, hh⟩
      · refine gn rfl rfl he rfl rfl fun a he => ?_
        refine gn rfl rfl he rfl rfl fun a he => ?_
        refine gy rfl he rfl ?_
        refine pkf rfl rfl rfl he fun a he => ?_
        refine gy rfl he rfl ?_
        refine mv rfl rfl he fun a he => ?_
        refine gy rfl he rfl ?_
        refine mv rfl rfl he fun a he => ?_
        refine gy rfl he rfl ?_
        refine ge rfl rfl rfl he fun a he => ?_
        refine gy rfl he rfl ?_
        refine mv rfl rfl he fun a he => ?_
        refine sd he (t := 46) rfl (fun h16 he => ?_) (fun h16 he => ?_)
        · refine gy rfl he rfl ?_
          refine mv rfl rfl he fun a he => ?_
          refine gy rfl he rfl ?_
          refine le rfl rfl rfl he fun a he => ?_
          refine gy rfl he rfl ?_
          refine pkt rfl rfl rfl he fun a he => ?_
          refine gy rfl he rfl ?_
          refine pkf rfl rfl rfl he fun a he => ?_
          refine pkt rfl rfl rfl he fun a he => ?_
          refine asg rfl rfl he fun a he => ?_
          refine en ?_
          replace he := he.be (t := 4) (v' := .bool (decide (refOdd c))) rfl (by congr 1; symm; first | (apply decide_eq_true; unfold refOdd; omega) | (apply decide_eq_false; unfold refOdd; omega) | (apply decide_eq_decide.2; unfold refOdd; omega))
          exact ⟨he.keep [0, 2, 3, 4] rfl, hh⟩
        · refine gn rfl rfl he rfl rfl fun a he => ?_
          refine gn rfl rfl he rfl rfl fun a he => ?_
          refine gy rfl he rfl ?_
          refine pkf rfl rfl rfl he fun a he => ?_
          refine gy rfl he rfl ?_
          refine pkf rfl rfl rfl he fun a he => ?_
          refine pkt rfl rfl rfl he fun a he => ?_
          refine asg rfl rfl he fun a he => ?_
          refine en ?_
          replace he := he.be (t := 4) (v' := .bool (decide (refOdd c))) rfl (by congr 1; symm; first | (apply decide_eq_true; unfold refOdd; omega) | (apply decide_eq_false; unfold refOdd; omega) | (apply decide_eq_decide.2; unfold refOdd; omega))
          exact ⟨he.keep [0, 2, 3, 4] rfl, hh⟩
    · refine gn rfl rfl he rfl rfl fun a he => ?_
      refine gn rfl rfl he rfl rfl fun a he => ?_
      refine gn rfl rfl he rfl rfl fun a he => ?_
      refine gnu rfl rfl he rfl fun a he => ?_
      refine gnu rfl rfl he rfl fun a he => ?_
      refine gn rfl rfl he rfl rfl fun a he => ?_
      refine gn rfl rfl he rfl rfl fun a he => ?_
      refine gnu rfl rfl he rfl fun a he => ?_
      refine gnu rfl rfl he rfl fun a he => ?_
      refine gnu rfl rfl he rfl fun a he => ?_
      refine gnu rfl rfl he rfl fun a he => ?_
      refine gnu rfl rfl he rfl fun a he => ?_
      refine gnu rfl rfl he rfl fun a he => ?_
      refine gn rfl rfl he rfl rfl fun a he => ?_
      refine pkf rfl rfl rfl he fun a he => ?_
      refine asg rfl rfl he fun a he => ?_
      refine en ?_
      replace he := he.be (t := 4) (v' := .bool (decide (refOdd c))) rfl (by congr 1; symm; first | (apply decide_eq_true; unfold refOdd; omega) | (apply decide_eq_false; unfold refOdd; omega) | (apply decide_eq_decide.2; unfold refOdd; omega))
      exact ⟨he.keep [0, 2, 3, 4] rfl, hh⟩
  obtain ⟨he, hh⟩ := hM
  refine nm_then ?_
  refine sq ?_
  refine cutr (fun a w => Env 118 [(0, .int .i32 c), (2, .int .i32 0), (3, .bool (decide (refEven c))), (4, .bool (decide (refOdd c))), (5, .bool (decide (refTwenty c)))] a ∧ Hp I (L) w) ?_ fun a W hM => ?_
  · refine rg ?_
    refine mv rfl rfl he fun a he => ?_
    refine ge rfl rfl rfl he fun a he => ?_
    refine mv rfl rfl he fun a he => ?_
    refine sd he (t := 54) rfl (fun h17 he => ?_) (fun h17 he => ?_)
    · refine gy rfl he rfl ?_
      refine mv rfl rfl he fun a he => ?_
      refine gy rfl he rfl ?_
      refine le rfl rfl rfl he fun a he => ?_
      refine pkt rfl rfl rfl he fun a he => ?_
      refine mv rfl rfl he fun a he => ?_
      refine sd he (t := 58) rfl (fun h18 he => ?_) (fun h18 he => ?_)
      · refine gn rfl rfl he rfl rfl fun a he => ?_
        refine gn rfl rfl he rfl rfl fun a he => ?_
        refine gn rfl rfl he rfl rfl fun a he => ?_
        refine gnu rfl rfl he rfl fun a he => ?_
        refine gnu rfl rfl he rfl fun a he => ?_
        refine gn rfl rfl he rfl rfl fun a he => ?_
        refine gn rfl rfl he rfl rfl fun a he => ?_
        refine gnu rfl rfl he rfl fun a he => ?_
        refine gnu rfl rfl he rfl fun a he => ?_
        refine gn rfl rfl he rfl rfl fun a he => ?_
        refine pkt rfl rfl rfl he fun a he => ?_
        refine mv rfl rfl he fun a he => ?_
        refine gn rfl rfl he rfl rfl fun a he => ?_
        refine gn rfl rfl he rfl rfl fun a he => ?_
        refine gn rfl rfl he rfl rfl fun a he => ?_
        refine gnu rfl rfl he rfl fun a he => ?_
        refine gnu rfl rfl he rfl fun a he => ?_
        refine gn rfl rfl he rfl rfl fun a he => ?_
        refine gn rfl rfl he rfl rfl fun a he => ?_
        refine gnu rfl rfl he rfl fun a he => ?_
        refine gnu rfl rfl he rfl fun a he => ?_
        refine gn rfl rfl he rfl rfl fun a he => ?_
        refine pkt rfl rfl rfl he fun a he => ?_
        refine mv rfl rfl he fun a he => ?_
        refine gn rfl rfl he rfl rfl fun a he => ?_
        refine gn rfl rfl he rfl rfl fun a he => ?_
        refine gn rfl rfl he rfl rfl fun a he => ?_
        refine gnu rfl rfl he rfl fun a he => ?_
        refine gnu rfl rfl he rfl fun a he => ?_
        refine gn rfl rfl he rfl rfl fun a he => ?_
        refine pkt rfl rfl rfl he fun a he => ?_
        refine asg rfl rfl he fun a he => ?_
        refine en ?_
        replace he := he.be (t := 5) (v' := .bool (decide (refTwenty c))) rfl (by congr 1; symm; first | (apply decide_eq_true; unfold refTwenty; omega) | (apply decide_eq_false; unfold refTwenty; omega) | (apply decide_eq_decide.2; unfold refTwenty; omega))
        exact ⟨he.keep [0, 2, 3, 4, 5] rfl, hh⟩
      · refine gy rfl he rfl ?_
        refine mv rfl rfl he fun a he => ?_
        refine gy rfl he rfl ?_
        refine ge rfl rfl rfl he fun a he => ?_
        refine gy rfl he rfl ?_
        refine mv rfl rfl he fun a he => ?_
        refine sd he (t := 61) rfl (fun h19 he => ?_) (fun h19 he => ?_)
        · refine gy rfl he rfl ?_
          refine mv rfl rfl he fun a he => ?_
          refine gy rfl he rfl ?_
          refine le rfl rfl rfl he fun a he => ?_
          refine gy rfl he rfl ?_
          refine pkt rfl rfl rfl he fun a he => ?_
          refine gy rfl he rfl ?_
          refine mv rfl rfl he fun a he => ?_
          refine sd he (t := 65) rfl (fun h20 he => ?_) (fun h20 he => ?_)
          · refine gy rfl he rfl ?_
            refine mv rfl rfl he fun a he => ?_
            refine gy rfl he rfl ?_
            refine ne rfl rfl rfl he fun a he => ?_
            refine gy rfl he rfl ?_
            refine pkt rfl rfl rfl he fun a he => ?_
            refine pkf rfl rfl rfl he fun a he => ?_
            refine mv rfl rfl he fun a he => ?_
            refine sd he (t := 70) rfl (fun h21 he => ?_) (fun h21 he => ?_)
            · refine gn rfl rfl he rfl rfl fun a he => ?_
              refine gn rfl rfl he rfl rfl fun a he => ?_
              refine gn rfl rfl he rfl rfl fun a he => ?_
              refine gnu rfl rfl he rfl fun a he => ?_
              refine gnu rfl rfl he rfl fun a he => ?_
              refine gn rfl rfl he rfl rfl fun a he => ?_
              refine gn rfl rfl he rfl rfl fun a he => ?_
              refine gnu rfl rfl he rfl fun a he => ?_
              refine gnu rfl rfl he rfl fun a he => ?_
              refine gn rfl rfl he rfl rfl fun a he => ?_
              refine pkt rfl rfl rfl he fun a he => ?_
              refine mv rfl rfl he fun a he => ?_
              refine gn rfl rfl he rfl rfl fun a he => ?_
              refine gn rfl rfl he rfl rfl fun a he => ?_
              refine gn rfl rfl he rfl rfl fun a he => ?_
              refine gnu rfl rfl he rfl fun a he => ?_
              refine gnu rfl rfl he rfl fun a he => ?_
              refine gn rfl rfl he rfl rfl fun a he => ?_
              refine pkt rfl rfl rfl he fun a he => ?_
              refine asg rfl rfl he fun a he => ?_
              refine en ?_
              replace he := he.be (t := 5) (v' := .bool (decide (refTwenty c))) rfl (by congr 1; symm; first | (apply decide_eq_true; unfold refTwenty; omega) | (apply decide_eq_false; unfold refTwenty; omega) | (apply decide_eq_decide.2; unfold refTwenty; omega))
              exact ⟨he.keep [0, 2, 3, 4, 5] rfl, hh⟩
            · refine gy rfl he rfl ?_
              refine mv rfl rfl he fun a he => ?_
              refine gy rfl he rfl ?_
              refine ge rfl rfl rfl he fun a he => ?_
              refine gy rfl he rfl ?_
              refine mv rfl rfl he fun a he => ?_
              refine sd he (t := 73) rfl (fun h22 he => ?_) (fun h22 he => ?_)
              · refine gy rfl he rfl ?_
                refine mv rfl rfl he fun a he => ?_
                refine gy rfl he rfl ?_
                refine le rfl rfl rfl he fun a he => ?_
                refine gy rfl he rfl ?_
                refine pkt rfl rfl rfl he fun a he => ?_
                refine gy rfl he rfl ?_
                refine mv rfl rfl he fun a he => ?_
                refine sd he (t := 77) rfl (fun h23 he => ?_) (fun h23 he => ?_)
                · refine gy rfl he rfl ?_
                  refine mv rfl rfl he fun a he => ?_
                  refine gy rfl he rfl ?_
                  refine ne rfl rfl rfl he fun a he => ?_
                  refine gy rfl he rfl ?_
                  refine pkt rfl rfl rfl he fun a he => ?_
                  refine pkf rfl rfl rfl he fun a he => ?_
                  refine mv rfl rfl he fun a he => ?_
                  refine sd he (t := 82) rfl (fun h24 he => ?_) (fun h24 he => ?_)
                  · refine gn rfl rfl he rfl rfl fun a he => ?_
                    refine gn rfl rfl he rfl rfl fun a he => ?_
                    refine gn rfl rfl he rfl rfl fun a he => ?_
                    refine gnu rfl rfl he rfl fun a he => ?_
                    refine gnu rfl rfl he rfl fun a he => ?_
                    refine gn rfl rfl he rfl rfl fun a he => ?_
                    refine pkt rfl rfl rfl he fun a he => ?_
                    refine asg rfl rfl he fun a he => ?_
                    refine en ?_
                    replace he := he.be (t := 5) (v' := .bool (decide (refTwenty c))) rfl (by congr 1; symm; first | (apply decide_eq_true; unfold refTwenty; omega) | (apply decide_eq_false; unfold refTwenty; omega) | (apply decide_eq_decide.2; unfold refTwenty; omega))
                    exact ⟨he.keep [0, 2, 3, 4, 5] rfl, hh⟩
                  · refine gy rfl he rfl ?_
                    refine mv rfl rfl he fun a he => ?_
                    refine gy rfl he rfl ?_
                    refine ge rfl rfl rfl he fun a he => ?_
                    refine gy rfl he rfl ?_
                    refine mv rfl rfl he fun a he => ?_
                    refine sd he (t := 85) rfl (fun h25 he => ?_) (fun h25 he => ?_)
                    · refine gy rfl he rfl ?_
                      refine mv rfl rfl he fun a he => ?_
                      refine gy rfl he rfl ?_
                      refine le rfl rfl rfl he fun a he => ?_
                      refine gy rfl he rfl ?_
                      refine pkt rfl rfl rfl he fun a he => ?_
                      refine pkf rfl rfl rfl he fun a he => ?_
                      refine asg rfl rfl he fun a he => ?_
                      refine en ?_
                      replace he := he.be (t := 5) (v' := .bool (decide (refTwenty c))) rfl (by congr 1; symm; first | (apply decide_eq_true; unfold refTwenty; omega) | (apply decide_eq_false; unfold refTwenty; omega) | (apply decide_eq_decide.2; unfold refTwenty; omega))
                      exact ⟨he.keep [0, 2, 3, 4, 5] rfl, hh⟩
                    · refine gn rfl rfl he rfl rfl fun a he => ?_
                      refine gn rfl rfl he rfl rfl fun a he => ?_
                      refine gy rfl he rfl ?_
                      refine pkf rfl rfl rfl he fun a he => ?_
                      refine pkf rfl rfl rfl he fun a he => ?_
                      refine asg rfl rfl he fun a he => ?_
                      refine en ?_
                      replace he := he.be (t := 5) (v' := .bool (decide (refTwenty c))) rfl (by congr 1; symm; first | (apply decide_eq_true; unfold refTwenty; omega) | (apply decide_eq_false; unfold refTwenty; omega) | (apply decide_eq_decide.2; unfold refTwenty; omega))
                      exact ⟨he.keep [0, 2, 3, 4, 5] rfl, hh⟩
                · refine gn rfl rfl he rfl rfl fun a he => ?_
                  refine gn rfl rfl he rfl rfl fun a he => ?_
                  refine gy rfl he rfl ?_
                  refine pkf rfl rfl rfl he fun a he => ?_
                  refine pkf rfl rfl rfl he fun a he => ?_
                  refine mv rfl rfl he fun a he => ?_
                  refine gy rfl he rfl ?_
                  refine mv rfl rfl he fun a he => ?_
                  refine gy rfl he rfl ?_
                  refine ge rfl rfl rfl he fun a he => ?_
                  refine gy rfl he rfl ?_
                  refine mv rfl rfl he fun a he => ?_
                  refine sd he (t := 85) rfl (fun h26 he => ?_) (fun h26 he => ?_)
                  · refine gy rfl he rfl ?_
                    refine mv rfl rfl he fun a he => ?_
                    refine gy rfl he rfl ?_
                    refine le rfl rfl rfl he fun a he => ?_
                    refine gy rfl he rfl ?_
                    refine pkt rfl rfl rfl he fun a he => ?_
                    refine pkf rfl rfl rfl he fun a he => ?_
                    refine asg rfl rfl he fun a he => ?_
                    refine en ?_
                    replace he := he.be (t := 5) (v' := .bool (decide (refTwenty c))) rfl (by congr 1; symm; first | (apply decide_eq_true; unfold refTwenty; omega) | (apply decide_eq_false; unfold refTwenty; omega) | (apply decide_eq_decide.2; unfold refTwenty; omega))
                    exact ⟨he.keep [0, 2, 3, 4, 5] rfl, hh⟩
                  · refine gn rfl rfl he rfl rfl fun a he => ?_
                    refine gn rfl rfl he rfl rfl fun a he => ?_
                    refine gy rfl he rfl ?_
                    refine pkf rfl rfl rfl he fun a he => ?_
                    refine pkf rfl rfl rfl he fun a he => ?_
                    refine asg rfl rfl he fun a he => ?_
                    refine en ?_
                    replace he := he.be (t := 5) (v' := .bool (decide (refTwenty c))) rfl (by congr 1; symm; first | (apply decide_eq_true; unfold refTwenty; omega) | (apply decide_eq_false; unfold refTwenty; omega) | (apply decide_eq_decide.2; unfold refTwenty; omega))
                    exact ⟨he.keep [0, 2, 3, 4, 5] rfl, hh⟩
              · refine gn rfl rfl he rfl rfl fun a he => ?_
                refine gn rfl rfl he rfl rfl fun a he => ?_
                refine gy rfl he rfl ?_
                refine pkf rfl rfl rfl he fun a he => ?_
                refine gy rfl he rfl ?_
                refine mv rfl rfl he fun a he => ?_
                refine gn rfl rfl he rfl rfl fun a he => ?_
                refine gn rfl rfl he rfl rfl fun a he => ?_
                refine gy rfl he rfl ?_
                refine pkf rfl rfl rfl he fun a he => ?_
                refine pkf rfl rfl rfl he fun a he => ?_
                refine mv rfl rfl he fun a he => ?_
                refine gy rfl he rfl ?_
                refine mv rfl rfl he fun a he => ?_
                refine gy rfl he rfl ?_
                refine ge rfl rfl rfl he fun a he => ?_
                refine gy rfl he rfl ?_
                refine mv rfl rfl he fun a he => ?_
                refine sd he (t := 85) rfl (fun h27 he => ?_) (fun h27 he => ?_)
                · refine gy rfl he rfl ?_
                  refine mv rfl rfl he fun a he => ?_
                  refine gy rfl he rfl ?_
                  refine le rfl rfl rfl he fun a he => ?_
                  refine gy rfl he rfl ?_
                  refine pkt rfl rfl rfl he fun a he => ?_
                  refine pkf rfl rfl rfl he fun a he => ?_
                  refine asg rfl rfl he fun a he => ?_
                  refine en ?_
                  replace he := he.be (t := 5) (v' := .bool (decide (refTwenty c))) rfl (by congr 1; symm; first | (apply decide_eq_true; unfold refTwenty; omega) | (apply decide_eq_false; unfold refTwenty; omega) | (apply decide_eq_decide.2; unfold refTwenty; omega))
                  exact ⟨he.keep [0, 2, 3, 4, 5] rfl, hh⟩
                · refine gn rfl rfl he rfl rfl fun a he => ?_
                  refine gn rfl rfl he rfl rfl fun a he => ?_
                  refine gy rfl he rfl ?_
                  refine pkf rfl rfl rfl he fun a he => ?_
                  refine pkf rfl rfl rfl he fun a he => ?_
                  refine asg rfl rfl he fun a he => ?_
                  refine en ?_
                  replace he := he.be (t := 5) (v' := .bool (decide (refTwenty c))) rfl (by congr 1; symm; first | (apply decide_eq_true; unfold refTwenty; omega) | (apply decide_eq_false; unfold refTwenty; omega) | (apply decide_eq_decide.2; unfold refTwenty; omega))
                  exact ⟨he.keep [0, 2, 3, 4, 5] rfl, hh⟩
          · refine gn rfl rfl he rfl rfl fun a he => ?_
            refine gn rfl rfl he rfl rfl fun a he => ?_
            refine gy rfl he rfl ?_
            refine pkf rfl rfl rfl he fun a he => ?_
            refine pkf rfl rfl rfl he fun a he => ?_
            refine mv rfl rfl he fun a he => ?_
            refine gy rfl he rfl ?_
            refine mv rfl rfl he fun a he => ?_
            refine gy rfl he rfl ?_
            refine ge rfl rfl rfl he fun a he => ?_
            refine gy rfl he rfl ?_
            refine mv rfl rfl he fun a he => ?_
            refine sd he (t := 73) rfl (fun h28 he => ?_) (fun h28 he => ?_)
            · refine gy rfl he rfl ?_
              refine mv rfl rfl he fun a he => ?_
              refine gy rfl he rfl ?_
              refine le rfl rfl rfl he fun a he => ?_
              refine gy rfl he rfl ?_
              refine pkt rfl rfl rfl he fun a he => ?_
              refine gy rfl he rfl ?_
              refine mv rfl rfl he fun a he => ?_
              refine sd he (t := 77) rfl (fun h29 he => ?_) (fun h29 he => ?_)
              · refine gy rfl he rfl ?_
                refine mv rfl rfl he fun a he => ?_
                refine gy rfl he rfl ?_
                refine ne rfl rfl rfl he fun a he => ?_
                refine gy rfl he rfl ?_
                refine pkt rfl rfl rfl he fun a he => ?_
                refine pkf rfl rfl rfl he fun a he => ?_
                refine mv rfl rfl he fun a he => ?_
                refine sd he (t := 82) rfl (fun h30 he => ?_) (fun h30 he => ?_)
                · refine gn rfl rfl he rfl rfl fun a he => ?_
                  refine gn rfl rfl he rfl rfl fun a he => ?_
                  refine gn rfl rfl he rfl rfl fun a he => ?_
                  refine gnu rfl rfl he rfl fun a he => ?_
                  refine gnu rfl rfl he rfl fun a he => ?_
                  refine gn rfl rfl he rfl rfl fun a he => ?_
                  refine pkt rfl rfl rfl he fun a he => ?_
                  refine asg rfl rfl he fun a he => ?_
                  refine en ?_
                  replace he := he.be (t := 5) (v' := .bool (decide (refTwenty c))) rfl (by congr 1; symm; first | (apply decide_eq_true; unfold refTwenty; omega) | (apply decide_eq_false; unfold refTwenty; omega) | (apply decide_eq_decide.2; unfold refTwenty; omega))
                  exact ⟨he.keep [0, 2, 3, 4, 5] rfl, hh⟩
                · refine gy rfl he rfl ?_
                  refine mv rfl rfl he fun a he => ?_
                  refine gy rfl he rfl ?_
                  refine ge rfl rfl rfl he fun a he => ?_
                  refine gy rfl he rfl ?_
                  refine mv rfl rfl he fun a he => ?_
                  refine sd he (t := 85) rfl (fun h31 he => ?_) (fun h31 he => ?_)
                  · refine gy rfl he rfl ?_
                    refine mv rfl rfl he fun a he => ?_
                    refine gy rfl he rfl ?_
                    refine le rfl rfl rfl he fun a he => ?_
                    refine gy rfl he rfl ?_
                    refine pkt rfl rfl rfl he fun a he => ?_
                    refine pkf rfl rfl rfl he fun a he => ?_
                    refine asg rfl rfl he fun a he => ?_
                    refine en ?_
                    replace he := he.be (t := 5) (v' := .bool (decide (refTwenty c))) rfl (by congr 1; symm; first | (apply decide_eq_true; unfold refTwenty; omega) | (apply decide_eq_false; unfold refTwenty; omega) | (apply decide_eq_decide.2; unfold refTwenty; omega))
                    exact ⟨he.keep [0, 2, 3, 4, 5] rfl, hh⟩
                  · refine gn rfl rfl he rfl rfl fun a he => ?_
                    refine gn rfl rfl he rfl rfl fun a he => ?_
                    refine gy rfl he rfl ?_
                    refine pkf rfl rfl rfl he fun a he => ?_
                    refine pkf rfl rfl rfl he fun a he => ?_
                    refine asg rfl rfl he fun a he => ?_
                    refine en ?_
                    replace he := he.be (t := 5) (v' := .bool (decide (refTwenty c))) rfl (by congr 1; symm; first | (apply decide_eq_true; unfold refTwenty; omega) | (apply decide_eq_false; unfold refTwenty; omega) | (apply decide_eq_decide.2; unfold refTwenty; omega))
                    exact ⟨he.keep [0, 2, 3, 4, 5] rfl, hh⟩
              · refine gn rfl rfl he rfl rfl fun a he => ?_
                refine gn rfl rfl he rfl rfl fun a he => ?_
                refine gy rfl he rfl ?_
                refine pkf rfl rfl rfl he fun a he => ?_
                refine pkf rfl rfl rfl he fun a he => ?_
                refine mv rfl rfl he fun a he => ?_
                refine gy rfl he rfl ?_
                refine mv rfl rfl he fun a he => ?_
                refine gy rfl he rfl ?_
                refine ge rfl rfl rfl he fun a he => ?_
                refine gy rfl he rfl ?_
                refine mv rfl rfl he fun a he => ?_
                refine sd he (t := 85) rfl (fun h32 he => ?_) (fun h32 he => ?_)
                · refine gy rfl he rfl ?_
                  refine mv rfl rfl he fun a he => ?_
                  refine gy rfl he rfl ?_
                  refine le rfl rfl rfl he fun a he => ?_
                  refine gy rfl he rfl ?_
                  refine pkt rfl rfl rfl he fun a he => ?_
                  refine pkf rfl rfl rfl he fun a he => ?_
                  refine asg rfl rfl he fun a he => ?_
                  refine en ?_
                  replace he := he.be (t := 5) (v' := .bool (decide (refTwenty c))) rfl (by congr 1; symm; first | (apply decide_eq_true; unfold refTwenty; omega) | (apply decide_eq_false; unfold refTwenty; omega) | (apply decide_eq_decide.2; unfold refTwenty; omega))
                  exact ⟨he.keep [0, 2, 3, 4, 5] rfl, hh⟩
                · refine gn rfl rfl he rfl rfl fun a he => ?_
                  refine gn rfl rfl he rfl rfl fun a he => ?_
                  refine gy rfl he rfl ?_
                  refine pkf rfl rfl rfl he fun a he => ?_
                  refine pkf rfl rfl rfl he fun a he => ?_
                  refine asg rfl rfl he fun a he => ?_
                  refine en ?_
                  replace he := he.be (t := 5) (v' := .bool (decide (refTwenty c))) rfl (by congr 1; symm; first | (apply decide_eq_true; unfold refTwenty; omega) | (apply decide_eq_false; unfold refTwenty; omega) | (apply decide_eq_decide.2; unfold refTwenty; omega))
                  exact ⟨he.keep [0, 2, 3, 4, 5] rfl, hh⟩
            · refine gn rfl rfl he rfl rfl fun a he => ?_
              refine gn rfl rfl he rfl rfl fun a he => ?_
              refine gy rfl he rfl ?_
              refine pkf rfl rfl rfl he fun a he => ?_
              refine gy rfl he rfl ?_
              refine mv rfl rfl he fun a he => ?_
              refine gn rfl rfl he rfl rfl fun a he => ?_
              refine gn rfl rfl he rfl rfl fun a he => ?_
              refine gy rfl he rfl ?_
              refine pkf rfl rfl rfl he fun a he => ?_
              refine pkf rfl rfl rfl he fun a he => ?_
              refine mv rfl rfl he fun a he => ?_
              refine gy rfl he rfl ?_
              refine mv rfl rfl he fun a he => ?_
              refine gy rfl he rfl ?_
              refine ge rfl rfl rfl he fun a he => ?_
              refine gy rfl he rfl ?_
              refine mv rfl rfl he fun a he => ?_
              refine sd he (t := 85) rfl (fun h33 he => ?_) (fun h33 he => ?_)
              · refine gy rfl he rfl ?_
                refine mv rfl rfl he fun a he => ?_
                refine gy rfl he rfl ?_
                refine le rfl rfl rfl he fun a he => ?_
                refine gy rfl he rfl ?_
                refine pkt rfl rfl rfl he fun a he => ?_
                refine pkf rfl rfl rfl he fun a he => ?_
                refine asg rfl rfl he fun a he => ?_
                refine en ?_
                replace he := he.be (t := 5) (v' := .bool (decide (refTwenty c))) rfl (by congr 1; symm; first | (apply decide_eq_true; unfold refTwenty; omega) | (apply decide_eq_false; unfold refTwenty; omega) | (apply decide_eq_decide.2; unfold refTwenty; omega))
                exact ⟨he.keep [0, 2, 3, 4, 5] rfl, hh⟩
              · refine gn rfl rfl he rfl rfl fun a he => ?_
                refine gn rfl rfl he rfl rfl fun a he => ?_
                refine gy rfl he rfl ?_
                refine pkf rfl rfl rfl he fun a he => ?_
                refine pkf rfl rfl rfl he fun a he => ?_
                refine asg rfl rfl he fun a he => ?_
                refine en ?_
                replace he := he.be (t := 5) (v' := .bool (decide (refTwenty c))) rfl (by congr 1; symm; first | (apply decide_eq_true; unfold refTwenty; omega) | (apply decide_eq_false; unfold refTwenty; omega) | (apply decide_eq_decide.2; unfold refTwenty; omega))
                exact ⟨he.keep [0, 2, 3, 4, 5] rfl, hh⟩
        · refine gn rfl rfl he rfl rfl fun a he => ?_
          refine gn rfl rfl he rfl rfl fun a he => ?_
          refine gy rfl he rfl ?_
          refine pkf rfl rfl rfl he fun a he => ?_
          refine gy rfl he rfl ?_
          refine mv rfl rfl he fun a he => ?_
          refine gn rfl rfl he rfl rfl fun a he => ?_
          refine gn rfl rfl he rfl rfl fun a he => ?_
          refine gy rfl he rfl ?_
          refine pkf rfl rfl rfl he fun a he => ?_
          refine pkf rfl rfl rfl he fun a he => ?_
          refine mv rfl rfl he fun a he => ?_
          refine gy rfl he rfl ?_
          refine mv rfl rfl he fun a he => ?_
          refine gy rfl he rfl ?_
          refine ge rfl rfl rfl he fun a he => ?_
          refine gy rfl he rfl ?_
          refine mv rfl rfl he fun a he => ?_
          refine sd he (t := 73) rfl (fun h34 he => ?_) (fun h34 he => ?_)
          · refine gy rfl he rfl ?_
            refine mv rfl rfl he fun a he => ?_
            refine gy rfl he rfl ?_
            refine le rfl rfl rfl he fun a he => ?_
            refine gy rfl he rfl ?_
            refine pkt rfl rfl rfl he fun a he => ?_
            refine gy rfl he rfl ?_
            refine mv rfl rfl he fun a he => ?_
            refine sd he (t := 77) rfl (fun h35 he => ?_) (fun h35 he => ?_)
            · refine gy rfl he rfl ?_
              refine mv rfl rfl he fun a he => ?_
              refine gy rfl he rfl ?_
              refine ne rfl rfl rfl he fun a he => ?_
              refine gy rfl he rfl ?_
              refine pkt rfl rfl rfl he fun a he => ?_
              refine pkf rfl rfl rfl he fun a he => ?_
              refine mv rfl rfl he fun a he => ?_
              refine sd he (t := 82) rfl (fun h36 he => ?_) (fun h36 he => ?_)
              · refine gn rfl rfl he rfl rfl fun a he => ?_
                refine gn rfl rfl he rfl rfl fun a he => ?_
                refine gn rfl rfl he rfl rfl fun a he => ?_
                refine gnu rfl rfl he rfl fun a he => ?_
                refine gnu rfl rfl he rfl fun a he => ?_
                refine gn rfl rfl he rfl rfl fun a he => ?_
                refine pkt rfl rfl rfl he fun a he => ?_
                refine asg rfl rfl he fun a he => ?_
                refine en ?_
                replace he := he.be (t := 5) (v' := .bool (decide (refTwenty c))) rfl (by congr 1; symm; first | (apply decide_eq_true; unfold refTwenty; omega) | (apply decide_eq_false; unfold refTwenty; omega) | (apply decide_eq_decide.2; unfold refTwenty; omega))
                exact ⟨he.keep [0, 2, 3, 4, 5] rfl, hh⟩
              · refine gy rfl he rfl ?_
                refine mv rfl rfl he fun a he => ?_
                refine gy rfl he rfl ?_
                refine ge rfl rfl rfl he fun a he => ?_
                refine gy rfl he rfl ?_
                refine mv rfl rfl he fun a he => ?_
                refine sd he (t := 85) rfl (fun h37 he => ?_) (fun h37 he => ?_)
                · refine gy rfl he rfl ?_
                  refine mv rfl rfl he fun a he => ?_
                  refine gy rfl he rfl ?_
                  refine le rfl rfl rfl he fun a he => ?_
                  refine gy rfl he rfl ?_
                  refine pkt rfl rfl rfl he fun a he => ?_
                  refine pkf rfl rfl rfl he fun a he => ?_
                  refine asg rfl rfl he fun a he => ?_
                  refine en ?_
                  replace he := he.be (t := 5) (v' := .bool (decide (refTwenty c))) rfl (by congr 1; symm; first | (apply decide_eq_true; unfold refTwenty; omega) | (apply decide_eq_false; unfold refTwenty; omega) | (apply decide_eq_decide.2; unfold refTwenty; omega))
                  exact ⟨he.keep [0, 2, 3, 4, 5] rfl, hh⟩
                · refine gn rfl rfl he rfl rfl fun a he => ?_
                  refine gn rfl rfl he rfl rfl fun a he => ?_
                  refine gy rfl he rfl ?_
                  refine pkf rfl rfl rfl he fun a he => ?_
                  refine pkf rfl rfl rfl he fun a he => ?_
                  refine asg rfl rfl he fun a he => ?_
                  refine en ?_
                  replace he := he.be (t := 5) (v' := .bool (decide (refTwenty c))) rfl (by congr 1; symm; first | (apply decide_eq_true; unfold refTwenty; omega) | (apply decide_eq_false; unfold refTwenty; omega) | (apply decide_eq_decide.2; unfold refTwenty; omega))
                  exact ⟨he.keep [0, 2, 3, 4, 5] rfl, hh⟩
            · refine gn rfl rfl he rfl rfl fun a he => ?_
              refine gn rfl rfl he rfl rfl fun a he => ?_
              refine gy rfl he rfl ?_
              refine pkf rfl rfl rfl he fun a he => ?_
              refine pkf rfl rfl rfl he fun a he => ?_
              refine mv rfl rfl he fun a he => ?_
              refine gy rfl he rfl ?_
              refine mv rfl rfl he fun a he => ?_
              refine gy rfl he rfl ?_
              refine ge rfl rfl rfl he fun a he => ?_
              refine gy rfl he rfl ?_
              refine mv rfl rfl he fun a he => ?_
              refine sd he (t := 85) rfl (fun h38 he => ?_) (fun h38 he => ?_)
              · refine gy rfl he rfl ?_
                refine mv rfl rfl he fun a he => ?_
                refine gy rfl he rfl ?_
                refine le rfl rfl rfl he fun a he => ?_
                refine gy rfl he rfl ?_
                refine pkt rfl rfl rfl he fun a he => ?_
                refine pkf rfl rfl rfl he fun a he => ?_
                refine asg rfl rfl he fun a he => ?_
                refine en ?_
                replace he := he.be (t := 5) (v' := .bool (decide (refTwenty c))) rfl (by congr 1; symm; first | (apply decide_eq_true; unfold refTwenty; omega) | (apply decide_eq_false; unfold refTwenty; omega) | (apply decide_eq_decide.2; unfold refTwenty; omega))
                exact ⟨he.keep [0, 2, 3, 4, 5] rfl, hh⟩
              · refine gn rfl rfl he rfl rfl fun a he => ?_
                refine gn rfl rfl he rfl rfl fun a he => ?_
                refine gy rfl he rfl ?_
                refine pkf rfl rfl rfl he fun a he => ?_
                refine pkf rfl rfl rfl he fun a he => ?_
                refine asg rfl rfl he fun a he => ?_
                refine en ?_
                replace he := he.be (t := 5) (v' := .bool (decide (refTwenty c))) rfl (by congr 1; symm; first | (apply decide_eq_true; unfold refTwenty; omega) | (apply decide_eq_false; unfold refTwenty; omega) | (apply decide_eq_decide.2; unfold refTwenty; omega))
                exact ⟨he.keep [0, 2, 3, 4, 5] rfl, hh⟩
          · refine gn rfl rfl he rfl rfl fun a he => ?_
            refine gn rfl rfl he rfl rfl fun a he => ?_
            refine gy rfl he rfl ?_
            refine pkf rfl rfl rfl he fun a he => ?_
            refine gy rfl he rfl ?_
            refine mv rfl rfl he fun a he => ?_
            refine gn rfl rfl he rfl rfl fun a he => ?_
            refine gn rfl rfl he rfl rfl fun a he => ?_
            refine gy rfl he rfl ?_
            refine pkf rfl rfl rfl he fun a he => ?_
            refine pkf rfl rfl rfl he fun a he => ?_
            refine mv rfl rfl he fun a he => ?_
            refine gy rfl he rfl ?_
            refine mv rfl rfl he fun a he => ?_
            refine gy rfl he rfl ?_
            refine ge rfl rfl rfl he fun a he => ?_
            refine gy rfl he rfl ?_
            refine mv rfl rfl he fun a he => ?_
            refine sd he (t := 85) rfl (fun h39 he => ?_) (fun h39 he => ?_)
            · refine gy rfl he rfl ?_
              refine mv rfl rfl he fun a he => ?_
              refine gy rfl he rfl ?_
              refine le rfl rfl rfl he fun a he => ?_
              refine gy rfl he rfl ?_
              refine pkt rfl rfl rfl he fun a he => ?_
              refine pkf rfl rfl rfl he fun a he => ?_
              refine asg rfl rfl he fun a he => ?_
              refine en ?_
              replace he := he.be (t := 5) (v' := .bool (decide (refTwenty c))) rfl (by congr 1; symm; first | (apply decide_eq_true; unfold refTwenty; omega) | (apply decide_eq_false; unfold refTwenty; omega) | (apply decide_eq_decide.2; unfold refTwenty; omega))
              exact ⟨he.keep [0, 2, 3, 4, 5] rfl, hh⟩
            · refine gn rfl rfl he rfl rfl fun a he => ?_
              refine gn rfl rfl he rfl rfl fun a he => ?_
              refine gy rfl he rfl ?_
              refine pkf rfl rfl rfl he fun a he => ?_
              refine pkf rfl rfl rfl he fun a he => ?_
              refine asg rfl rfl he fun a he => ?_
              refine en ?_
              replace he := he.be (t := 5) (v' := .bool (decide (refTwenty c))) rfl (by congr 1; symm; first | (apply decide_eq_true; unfold refTwenty; omega) | (apply decide_eq_false; unfold refTwenty; omega) | (apply decide_eq_decide.2; unfold refTwenty; omega))
              exact ⟨he.keep [0, 2, 3, 4, 5] rfl, hh⟩
    · refine gn rfl rfl he rfl rfl fun a he => ?_
      refine gn rfl rfl he rfl rfl fun a he => ?_
      refine pkf rfl rfl rfl he fun a he => ?_
      refine mv rfl rfl he fun a he => ?_
      refine gy rfl he rfl ?_
      refine mv rfl rfl he fun a he => ?_
      refine gy rfl he rfl ?_
      refine ge rfl rfl rfl he fun a he => ?_
      refine gy rfl he rfl ?_
      refine mv rfl rfl he fun a he => ?_
      refine sd he (t := 61) rfl (fun h40 he => ?_) (fun h40 he => ?_)
      · refine gy rfl he rfl ?_
        refine mv rfl rfl he fun a he => ?_
        refine gy rfl he rfl ?_
        refine le rfl rfl rfl he fun a he => ?_
        refine gy rfl he rfl ?_
        refine pkt rfl rfl rfl he fun a he => ?_
        refine gy rfl he rfl ?_
        refine mv rfl rfl he fun a he => ?_
        refine sd he (t := 65) rfl (fun h41 he => ?_) (fun h41 he => ?_)
        · refine gy rfl he rfl ?_
          refine mv rfl rfl he fun a he => ?_
          refine gy rfl he rfl ?_
          refine ne rfl rfl rfl he fun a he => ?_
          refine gy rfl he rfl ?_
          refine pkt rfl rfl rfl he fun a he => ?_
          refine pkf rfl rfl rfl he fun a he => ?_
          refine mv rfl rfl he fun a he => ?_
          refine sd he (t := 70) rfl (fun h42 he => ?_) (fun h42 he => ?_)
          · refine gn rfl rfl he rfl rfl fun a he => ?_
            refine gn rfl rfl he rfl rfl fun a he => ?_
            refine gn rfl rfl he rfl rfl fun a he => ?_
            refine gnu rfl rfl he rfl fun a he => ?_
            refine gnu rfl rfl he rfl fun a he => ?_
            refine gn rfl rfl he rfl rfl fun a he => ?_
            refine gn rfl rfl he rfl rfl fun a he => ?_
            refine gnu rfl rfl he rfl fun a he => ?_
            refine gnu rfl rfl he rfl fun a he => ?_
            refine gn rfl rfl he rfl rfl fun a he => ?_
            refine pkt rfl rfl rfl he fun a he => ?_
            refine mv rfl rfl he fun a he => ?_
            refine gn rfl rfl he rfl rfl fun a he => ?_
            refine gn rfl rfl he rfl rfl fun a he => ?_
            refine gn rfl rfl he rfl rfl fun a he => ?_
            refine gnu rfl rfl he rfl fun a he => ?_
            refine gnu rfl rfl he rfl fun a he => ?_
            refine gn rfl rfl he rfl rfl fun a he => ?_
            refine pkt rfl rfl rfl he fun a he => ?_
            refine asg rfl rfl he fun a he => ?_
            refine en ?_
            replace he := he.be (t := 5) (v' := .bool (decide (refTwenty c))) rfl (by congr 1; symm; first | (apply decide_eq_true; unfold refTwenty; omega) | (apply decide_eq_false; unfold refTwenty; omega) | (apply decide_eq_decide.2; unfold refTwenty; omega))
            exact ⟨he.keep [0, 2, 3, 4, 5] rfl, hh⟩
          · refine gy rfl he rfl ?_
            refine mv rfl rfl he fun a he => ?_
            refine gy rfl he rfl ?_
            refine ge rfl rfl rfl he fun a he => ?_
            refine gy rfl he rfl ?_
            refine mv rfl rfl he fun a he => ?_
            refine sd he (t := 73) rfl (fun h43 he => ?_) (fun h43 he => ?_)
            · refine gy rfl he rfl ?_
              refine mv rfl rfl he fun a he => ?_
              refine gy rfl he rfl ?_
              refine le rfl rfl rfl he fun a he => ?_
              refine gy rfl he rfl ?_
              refine pkt rfl rfl rfl he fun a he => ?_
              refine gy rfl he rfl ?_
              refine mv rfl rfl he fun a he => ?_
              refine sd he (t := 77) rfl (fun h44 he => ?_) (fun h44 he => ?_)
              · refine gy rfl he rfl ?_
                refine mv rfl rfl he fun a he => ?_
                refine gy rfl he rfl ?_
                refine ne rfl rfl rfl he fun a he => ?_
                refine gy rfl he rfl ?_
                refine pkt rfl rfl rfl he fun a he => ?_
                refine pkf rfl rfl rfl he fun a he => ?_
                refine mv rfl rfl he fun a he => ?_
                refine sd he (t := 82) rfl (fun h45 he => ?_) (fun h45 he => ?_)
                · refine gn rfl rfl he rfl rfl fun a he => ?_
                  refine gn rfl rfl he rfl rfl fun a he => ?_
                  refine gn rfl rfl he rfl rfl fun a he => ?_
                  refine gnu rfl rfl he rfl fun a he => ?_
                  refine gnu rfl rfl he rfl fun a he => ?_
                  refine gn rfl rfl he rfl rfl fun a he => ?_
                  refine pkt rfl rfl rfl he fun a he => ?_
                  refine asg rfl rfl he fun a he => ?_
                  refine en ?_
                  replace he := he.be (t := 5) (v' := .bool (decide (refTwenty c))) rfl (by congr 1; symm; first | (apply decide_eq_true; unfold refTwenty; omega) | (apply decide_eq_false; unfold refTwenty; omega) | (apply decide_eq_decide.2; unfold refTwenty; omega))
                  exact ⟨he.keep [0, 2, 3, 4, 5] rfl, hh⟩
                · refine gy rfl he rfl ?_
                  refine mv rfl rfl he fun a he => ?_
                  refine gy rfl he rfl ?_
                  refine ge rfl rfl rfl he fun a he => ?_
                  refine gy rfl he rfl ?_
                  refine mv rfl rfl he fun a he => ?_
                  refine sd he (t := 85) rfl (fun h46 he => ?_) (fun h46 he => ?_)
                  · refine gy rfl he rfl ?_
                    refine mv rfl rfl he fun a he => ?_
                    refine gy rfl he rfl ?_
                    refine le rfl rfl rfl he fun a he => ?_
                    refine gy rfl he rfl ?_
                    refine pkt rfl rfl rfl he fun a he => ?_
                    refine pkf rfl rfl rfl he fun a he => ?_
                    refine asg rfl rfl he fun a he => ?_
                    refine en ?_
                    replace he := he.be (t := 5) (v' := .bool (decide (refTwenty c))) rfl (by congr 1; symm; first | (apply decide_eq_true; unfold refTwenty; omega) | (apply decide_eq_false; unfold refTwenty; omega) | (apply decide_eq_decide.2; unfold refTwenty; omega))
                    exact ⟨he.keep [0, 2, 3, 4, 5] rfl, hh⟩
                  · refine gn rfl rfl he rfl rfl fun a he => ?_
                    refine gn rfl rfl he rfl rfl fun a he => ?_
                    refine gy rfl he rfl ?_
                    refine pkf rfl rfl rfl he fun a he => ?_
                    refine pkf rfl rfl rfl he fun a he => ?_
                    refine asg rfl rfl he fun a he => ?_
                    refine en ?_
                    replace he := he.be (t := 5) (v' := .bool (decide (refTwenty c))) rfl (by congr 1; symm; first | (apply decide_eq_true; unfold refTwenty; omega) | (apply decide_eq_false; unfold refTwenty; omega) | (apply decide_eq_decide.2; unfold refTwenty; omega))
                    exact ⟨he.keep [0, 2, 3, 4, 5] rfl, hh⟩
              · refine gn rfl rfl he rfl rfl fun a he => ?_
                refine gn rfl rfl he rfl rfl fun a he => ?_
                refine gy rfl he rfl ?_
                refine pkf rfl rfl rfl he fun a he => ?_
                refine pkf rfl rfl rfl he fun a he => ?_
                refine mv rfl rfl he fun a he => ?_
                refine gy rfl he rfl ?_
                refine mv rfl rfl he fun a he => ?_
                refine gy rfl he rfl ?_
                refine ge rfl rfl rfl he fun a he => ?_
                refine gy rfl he rfl ?_
                refine mv rfl rfl he fun a he => ?_
                refine sd he (t := 85) rfl (fun h47 he => ?_) (fun h47 he => ?_)
                · refine gy rfl he rfl ?_
                  refine mv rfl rfl he fun a he => ?_
                  refine gy rfl he rfl ?_
                  refine le rfl rfl rfl he fun a he => ?_
                  refine gy rfl he rfl ?_
                  refine pkt rfl rfl rfl he fun a he => ?_
                  refine pkf rfl rfl rfl he fun a he => ?_
                  refine asg rfl rfl he fun a he => ?_
                  refine en ?_
                  replace he := he.be (t := 5) (v' := .bool (decide (refTwenty c))) rfl (by congr 1; symm; first | (apply decide_eq_true; unfold refTwenty; omega) | (apply decide_eq_false; unfold refTwenty; omega) | (apply decide_eq_decide.2; unfold refTwenty; omega))
                  exact ⟨he.keep [0, 2, 3, 4, 5] rfl, hh⟩
                · refine gn rfl rfl he rfl rfl fun a he => ?_
                  refine gn rfl rfl he rfl rfl fun a he => ?_
                  refine gy rfl he rfl ?_
                  refine pkf rfl rfl rfl he fun a he => ?_
                  refine pkf rfl rfl rfl he fun a he => ?_
                  refine asg rfl rfl he fun a he => ?_
                  refine en ?_
                  replace he := he.be (t := 5) (v' := .bool (decide (refTwenty c))) rfl (by congr 1; symm; first | (apply decide_eq_true; unfold refTwenty; omega) | (apply decide_eq_false; unfold refTwenty; omega) | (apply decide_eq_decide.2; unfold refTwenty; omega))
                  exact ⟨he.keep [0, 2, 3, 4, 5] rfl, hh⟩
            · refine gn rfl rfl he rfl rfl fun a he => ?_
              refine gn rfl rfl he rfl rfl fun a he => ?_
              refine gy rfl he rfl ?_
              refine pkf rfl rfl rfl he fun a he => ?_
              refine gy rfl he rfl ?_
              refine mv rfl rfl he fun a he => ?_
              refine gn rfl rfl he rfl rfl fun a he => ?_
              refine gn rfl rfl he rfl rfl fun a he => ?_
              refine gy rfl he rfl ?_
              refine pkf rfl rfl rfl he fun a he => ?_
              refine pkf rfl rfl rfl he fun a he => ?_
              refine mv rfl rfl he fun a he => ?_
              refine gy rfl he rfl ?_
              refine mv rfl rfl he fun a he => ?_
              refine gy rfl he rfl ?_
              refine ge rfl rfl rfl he fun a he => ?_
              refine gy rfl he rfl ?_
              refine mv rfl rfl he fun a he => ?_
              refine sd he (t := 85) rfl (fun h48 he => ?_) (fun h48 he => ?_)
              · refine gy rfl he rfl ?_
                refine mv rfl rfl he fun a he => ?_
                refine gy rfl he rfl ?_
                refine le rfl rfl rfl he fun a he => ?_
                refine gy rfl he rfl ?_
                refine pkt rfl rfl rfl he fun a he => ?_
                refine pkf rfl rfl rfl he fun a he => ?_
                refine asg rfl rfl he fun a he => ?_
                refine en ?_
                replace he := he.be (t := 5) (v' := .bool (decide (refTwenty c))) rfl (by congr 1; symm; first | (apply decide_eq_true; unfold refTwenty; omega) | (apply decide_eq_false; unfold refTwenty; omega) | (apply decide_eq_decide.2; unfold refTwenty; omega))
                exact ⟨he.keep [0, 2, 3, 4, 5] rfl, hh⟩
              · refine gn rfl rfl he rfl rfl fun a he => ?_
                refine gn rfl rfl he rfl rfl fun a he => ?_
                refine gy rfl he rfl ?_
                refine pkf rfl rfl rfl he fun a he => ?_
                refine pkf rfl rfl rfl he fun a he => ?_
                refine asg rfl rfl he fun a he => ?_
                refine en ?_
                replace he := he.be (t := 5) (v' := .bool (decide (refTwenty c))) rfl (by congr 1; symm; first | (apply decide_eq_true; unfold refTwenty; omega) | (apply decide_eq_false; unfold refTwenty; omega) | (apply decide_eq_decide.2; unfold refTwenty; omega))
                exact ⟨he.keep [0, 2, 3, 4, 5] rfl, hh⟩
        · refine gn rfl rfl he rfl rfl fun a he => ?_
          refine gn rfl rfl he rfl rfl fun a he => ?_
          refine gy rfl he rfl ?_
          refine pkf rfl rfl rfl he fun a he => ?_
          refine pkf rfl rfl rfl he fun a he => ?_
          refine mv rfl rfl he fun a he => ?_
          refine gy rfl he rfl ?_
          refine mv rfl rfl he fun a he => ?_
          refine gy rfl he rfl ?_
          refine ge rfl rfl rfl he fun a he => ?_
          refine gy rfl he rfl ?_
          refine mv rfl rfl he fun a he => ?_
          refine sd he (t := 73) rfl (fun h49 he => ?_) (fun h49 he => ?_)
          · refine gy rfl he rfl ?_
            refine mv rfl rfl he fun a he => ?_
            refine gy rfl he rfl ?_
            refine le rfl rfl rfl he fun a he => ?_
            refine gy rfl he rfl ?_
            refine pkt rfl rfl rfl he fun a he => ?_
            refine gy rfl he rfl ?_
            refine mv rfl rfl he fun a he => ?_
            refine sd he (t := 77) rfl (fun h50 he => ?_) (fun h50 he => ?_)
            · refine gy rfl he rfl ?_
              refine mv rfl rfl he fun a he => ?_
              refine gy rfl he rfl ?_
              refine ne rfl rfl rfl he fun a he => ?_
              refine gy rfl he rfl ?_
              refine pkt rfl rfl rfl he fun a he => ?_
              refine pkf rfl rfl rfl he fun a he => ?_
              refine mv rfl rfl he fun a he => ?_
              refine sd he (t := 82) rfl (fun h51 he => ?_) (fun h51 he => ?_)
              · refine gn rfl rfl he rfl rfl fun a he => ?_
                refine gn rfl rfl he rfl rfl fun a he => ?_
                refine gn rfl rfl he rfl rfl fun a he => ?_
                refine gnu rfl rfl he rfl fun a he => ?_
                refine gnu rfl rfl he rfl fun a he => ?_
                refine gn rfl rfl he rfl rfl fun a he => ?_
                refine pkt rfl rfl rfl he fun a he => ?_
                refine asg rfl rfl he fun a he => ?_
                refine en ?_
                replace he := he.be (t := 5) (v' := .bool (decide (refTwenty c))) rfl (by congr 1; symm; first | (apply decide_eq_true; unfold refTwenty; omega) | (apply decide_eq_false; unfold refTwenty; omega) | (apply decide_eq_decide.2; unfold refTwenty; omega))
                exact ⟨he.keep [0, 2, 3, 4, 5] rfl, hh⟩
              · refine gy rfl he rfl ?_
                refine mv rfl rfl he fun a he => ?_
                refine gy rfl he rfl ?_
                refine ge rfl rfl rfl he fun a he => ?_
                refine gy rfl he rfl ?_
                refine mv rfl rfl he fun a he => ?_
                refine sd he (t := 85) rfl (fun h52 he => ?_) (fun h52 he => ?_)
                · refine gy rfl he rfl ?_
                  refine mv rfl rfl he fun a he => ?_
                  refine gy rfl he rfl ?_
                  refine le rfl rfl rfl he fun a he => ?_
                  refine gy rfl he rfl ?_
                  refine pkt rfl rfl rfl he fun a he => ?_
                  refine pkf rfl rfl rfl he fun a he => ?_
                  refine asg rfl rfl he fun a he => ?_
                  refine en ?_
                  replace he := he.be (t := 5) (v' := .bool (decide (refTwenty c))) rfl (by congr 1; symm; first | (apply decide_eq_true; unfold refTwenty; omega) | (apply decide_eq_false; unfold refTwenty; omega) | (apply decide_eq_decide.2; unfold refTwenty; omega))
                  exact ⟨he.keep [0, 2, 3, 4, 5] rfl, hh⟩
                · refine gn rfl rfl he rfl rfl fun a he => ?_
                  refine gn rfl rfl he rfl rfl fun a he => ?_
                  refine gy rfl he rfl ?_
                  refine pkf rfl rfl rfl he fun a he => ?_
                  refine pkf rfl rfl rfl he fun a he => ?_
                  refine asg rfl rfl he fun a he => ?_
                  refine en ?_
                  replace he := he.be (t := 5) (v' := .bool (decide (refTwenty c))) rfl (by congr 1; symm; first | (apply decide_eq_true; unfold refTwenty; omega) | (apply decide_eq_false; unfold refTwenty; omega) | (apply decide_eq_decide.2; unfold refTwenty; omega))
                  exact ⟨he.keep [0, 2, 3, 4, 5] rfl, hh⟩
            · refine gn rfl rfl he rfl rfl fun a he => ?_
              refine gn rfl rfl he rfl rfl fun a he => ?_
              refine gy rfl he rfl ?_
              refine pkf rfl rfl rfl he fun a he => ?_
              refine pkf rfl rfl rfl he fun a he => ?_
              refine mv rfl rfl he fun a he => ?_
              refine gy rfl he rfl ?_
              refine mv rfl rfl he fun a he => ?_
              refine gy rfl he rfl ?_
              refine ge rfl rfl rfl he fun a he => ?_
              refine gy rfl he rfl ?_
              refine mv rfl rfl he fun a he => ?_
              refine sd he (t := 85) rfl (fun h53 he => ?_) (fun h53 he => ?_)
              · refine gy rfl he rfl ?_
                refine mv rfl rfl he fun a he => ?_
                refine gy rfl he rfl ?_
                refine le rfl rfl rfl he fun a he => ?_
                refine gy rfl he rfl ?_
                refine pkt rfl rfl rfl he fun a he => ?_
                refine pkf rfl rfl rfl he fun a he => ?_
                refine asg rfl rfl he fun a he => ?_
                refine en ?_
                replace he := he.be (t := 5) (v' := .bool (decide (refTwenty c))) rfl (by congr 1; symm; first | (apply decide_eq_true; unfold refTwenty; omega) | (apply decide_eq_false; unfold refTwenty; omega) | (apply decide_eq_decide.2; unfold refTwenty; omega))
                exact ⟨he.keep [0, 2, 3, 4, 5] rfl, hh⟩
              · refine gn rfl rfl he rfl rfl fun a he => ?_
                refine gn rfl rfl he rfl rfl fun a he => ?_
                refine gy rfl he rfl ?_
                refine pkf rfl rfl rfl he fun a he => ?_
                refine pkf rfl rfl rfl he fun a he => ?_
                refine asg rfl rfl he fun a he => ?_
                refine en ?_
                replace he := he.be (t := 5) (v' := .bool (decide (refTwenty c))) rfl (by congr 1; symm; first | (apply decide_eq_true; unfold refTwenty; omega) | (apply decide_eq_false; unfold refTwenty; omega) | (apply decide_eq_decide.2; unfold refTwenty; omega))
                exact ⟨he.keep [0, 2, 3, 4, 5] rfl, hh⟩
          · refine gn rfl rfl he rfl rfl fun a he => ?_
            refine gn rfl rfl he rfl rfl fun a he => ?_
            refine gy rfl he rfl ?_
            refine pkf rfl rfl rfl he fun a he => ?_
            refine gy rfl he rfl ?_
            refine mv rfl rfl he fun a he => ?_
            refine gn rfl rfl he rfl rfl fun a he => ?_
            refine gn rfl rfl he rfl rfl fun a he => ?_
            refine gy rfl he rfl ?_
            refine pkf rfl rfl rfl he fun a he => ?_
            refine pkf rfl rfl rfl he fun a he => ?_
            refine mv rfl rfl he fun a he => ?_
            refine gy rfl he rfl ?_
            refine mv rfl rfl he fun a he => ?_
            refine gy rfl he rfl ?_
            refine ge rfl rfl rfl he fun a he => ?_
            refine gy rfl he rfl ?_
            refine mv rfl rfl he fun a he => ?_
            refine sd he (t := 85) rfl (fun h54 he => ?_) (fun h54 he => ?_)
            · refine gy rfl he rfl ?_
              refine mv rfl rfl he fun a he => ?_
              refine gy rfl he rfl ?_
              refine le rfl rfl rfl he fun a he => ?_
              refine gy rfl he rfl ?_
              refine pkt rfl rfl rfl he fun a he => ?_
              refine pkf rfl rfl rfl he fun a he => ?_
              refine asg rfl rfl he fun a he => ?_
              refine en ?_
              replace he := he.be (t := 5) (v' := .bool (decide (refTwenty c))) rfl (by congr 1; symm; first | (apply decide_eq_true; unfold refTwenty; omega) | (apply decide_eq_false; unfold refTwenty; omega) | (apply decide_eq_decide.2; unfold refTwenty; omega))
              exact ⟨he.keep [0, 2, 3, 4, 5] rfl, hh⟩
            · refine gn rfl rfl he rfl rfl fun a he => ?_
              refine gn rfl rfl he rfl rfl fun a he => ?_
              refine gy rfl he rfl ?_
              refine pkf rfl rfl rfl he fun a he => ?_
              refine pkf rfl rfl rfl he fun a he => ?_
              refine asg rfl rfl he fun a he => ?_
              refine en ?_
              replace he := he.be (t := 5) (v' := .bool (decide (refTwenty c))) rfl (by congr 1; symm; first | (apply decide_eq_true; unfold refTwenty; omega) | (apply decide_eq_false; unfold refTwenty; omega) | (apply decide_eq_decide.2; unfold refTwenty; omega))
              exact ⟨he.keep [0, 2, 3, 4, 5] rfl, hh⟩
      · refine gn rfl rfl he rfl rfl fun a he => ?_
        refine gn rfl rfl he rfl rfl fun a he => ?_
        refine gy rfl he rfl ?_
        refine pkf rfl rfl rfl he fun a he => ?_
        refine gy rfl he rfl ?_
        refine mv rfl rfl he fun a he => ?_
        refine gn rfl rfl he rfl rfl fun a he => ?_
        refine gn rfl rfl he rfl rfl fun a he => ?_
        refine gy rfl he rfl ?_
        refine pkf rfl rfl rfl he fun a he => ?_
        refine pkf rfl rfl rfl he fun a he => ?_
        refine mv rfl rfl he fun a he => ?_
        refine gy rfl he rfl ?_
        refine mv rfl rfl he fun a he => ?_
        refine gy rfl he rfl ?_
        refine ge rfl rfl rfl he fun a he => ?_
        refine gy rfl he rfl ?_
        refine mv rfl rfl he fun a he => ?_
        refine sd he (t := 73) rfl (fun h55 he => ?_) (fun h55 he => ?_)
        · refine gy rfl he rfl ?_
          refine mv rfl rfl he fun a he => ?_
          refine gy rfl he rfl ?_
          refine le rfl rfl rfl he fun a he => ?_
          refine gy rfl he rfl ?_
          refine pkt rfl rfl rfl he fun a he => ?_
          refine gy rfl he rfl ?_
          refine mv rfl rfl he fun a he => ?_
          refine sd he (t := 77) rfl (fun h56 he => ?_) (fun h56 he => ?_)
          · refine gy rfl he rfl ?_
            refine mv rfl rfl he fun a he => ?_
            refine gy rfl he rfl ?_
            refine ne rfl rfl rfl he fun a he => ?_
            refine gy rfl he rfl ?_
            refine pkt rfl rfl rfl he fun a he => ?_
            refine pkf rfl rfl rfl he fun a he => ?_
            refine mv rfl rfl he fun a he => ?_
            refine sd he (t := 82) rfl (fun h57 he => ?_) (fun h57 he => ?_)
            · refine gn rfl rfl he rfl rfl fun a he => ?_
              refine gn rfl rfl he rfl rfl fun a he => ?_
              refine gn rfl rfl he rfl rfl fun a he => ?_
              refine gnu rfl rfl he rfl fun a he => ?_
              refine gnu rfl rfl he rfl fun a he => ?_
              refine gn rfl rfl he rfl rfl fun a he => ?_
              refine pkt rfl rfl rfl he fun a he => ?_
              refine asg rfl rfl he fun a he => ?_
              refine en ?_
              replace he := he.be (t := 5) (v' := .bool (decide (refTwenty c))) rfl (by congr 1; symm; first | (apply decide_eq_true; unfold refTwenty; omega) | (apply decide_eq_false; unfold refTwenty; omega) | (apply decide_eq_decide.2; unfold refTwenty; omega))
              exact ⟨he.keep [0, 2, 3, 4, 5] rfl, hh⟩
            · refine gy rfl he rfl ?_
              refine mv rfl rfl he fun a he => ?_
              refine gy rfl he rfl ?_
              refine ge rfl rfl rfl he fun a he => ?_
              refine gy rfl he rfl ?_
              refine mv rfl rfl he fun a he => ?_
              refine sd he (t := 85) rfl (fun h58 he => ?_) (fun h58 he => ?_)
              · refine gy rfl he rfl ?_
                refine mv rfl rfl he fun a he => ?_
                refine gy rfl he rfl ?_
                refine le rfl rfl rfl he fun a he => ?_
                refine gy rfl he rfl ?_
                refine pkt rfl rfl rfl he fun a he => ?_
                refine pkf rfl rfl rfl he fun a he => ?_
                refine asg rfl rfl he fun a he => ?_
                refine en ?_
                replace he := he.be (t := 5) (v' := .bool (decide (refTwenty c))) rfl (by congr 1; symm; first | (apply decide_eq_true; unfold refTwenty; omega) | (apply decide_eq_false; unfold refTwenty; omega) | (apply decide_eq_decide.2; unfold refTwenty; omega))
                exact ⟨he.keep [0, 2, 3, 4, 5] rfl, hh⟩
              · refine gn rfl rfl he rfl rfl fun a he => ?_
                refine gn rfl rfl he rfl rfl fun a he => ?_
                refine gy rfl he rfl ?_
                refine pkf rfl rfl rfl he fun a he => ?_
                refine pkf rfl rfl rfl he fun a he => ?_
                refine asg rfl rfl he fun a he => ?_
                refine en ?_
                replace he := he.be (t := 5) (v' := .bool (decide (refTwenty c))) rfl (by congr 1; symm; first | (apply decide_eq_true; unfold refTwenty; omega) | (apply decide_eq_false; unfold refTwenty; omega) | (apply decide_eq_decide.2; unfold refTwenty; omega))
                exact ⟨he.keep [0, 2, 3, 4, 5] rfl, hh⟩
          · refine gn rfl rfl he rfl rfl fun a he => ?_
            refine gn rfl rfl he rfl rfl fun a he => ?_
            refine gy rfl he rfl ?_
            refine pkf rfl rfl rfl he fun a he => ?_
            refine pkf rfl rfl rfl he fun a he => ?_
            refine mv rfl rfl he fun a he => ?_
            refine gy rfl he rfl ?_
            refine mv rfl rfl he fun a he => ?_
            refine gy rfl he rfl ?_
            refine ge rfl rfl rfl he fun a he => ?_
            refine gy rfl he rfl ?_
            refine mv rfl rfl he fun a he => ?_
            refine sd he (t := 85) rfl (fun h59 he => ?_) (fun h59 he => ?_)
            · refine gy rfl he rfl ?_
              refine mv rfl rfl he fun a he => ?_
              refine gy rfl he rfl ?_
              refine le rfl rfl rfl he fun a he => ?_
              refine gy rfl he rfl ?_
              refine pkt rfl rfl rfl he fun a he => ?_
              refine pkf rfl rfl rfl he fun a he => ?_
              refine asg rfl rfl he fun a he => ?_
              refine en ?_
              replace he := he.be (t := 5) (v' := .bool (decide (refTwenty c))) rfl (by congr 1; symm; first | (apply decide_eq_true; unfold refTwenty; omega) | (apply decide_eq_false; unfold refTwenty; omega) | (apply decide_eq_decide.2; unfold refTwenty; omega))
              exact ⟨he.keep [0, 2, 3, 4, 5] rfl, hh⟩
            · refine gn rfl rfl he rfl rfl fun a he => ?_
              refine gn rfl rfl he rfl rfl fun a he => ?_
              refine gy rfl he rfl ?_
              refine pkf rfl rfl rfl he fun a he => ?_
              refine pkf rfl rfl rfl he fun a he => ?_
              refine asg rfl rfl he fun a he => ?_
              refine en ?_
              replace he := he.be (t := 5) (v' := .bool (decide (refTwenty c))) rfl (by congr 1; symm; first | (apply decide_eq_true; unfold refTwenty; omega) | (apply decide_eq_false; unfold refTwenty; omega) | (apply decide_eq_decide.2; unfold refTwenty; omega))
              exact ⟨he.keep [0, 2, 3, 4, 5] rfl, hh⟩
        · refine gn rfl rfl he rfl rfl fun a he => ?_
          refine gn rfl rfl he rfl rfl fun a he => ?_
          refine gy rfl he rfl ?_
          refine pkf rfl rfl rfl he fun a he => ?_
          refine gy rfl he rfl ?_
          refine mv rfl rfl he fun a he => ?_
          refine gn rfl rfl he rfl rfl fun a he => ?_
          refine gn rfl rfl he rfl rfl fun a he => ?_
          refine gy rfl he rfl ?_
          refine pkf rfl rfl rfl he fun a he => ?_
          refine pkf rfl rfl rfl he fun a he => ?_
          refine mv rfl rfl he fun a he => ?_
          refine gy rfl he rfl ?_
          refine mv rfl rfl he fun a he => ?_
          refine gy rfl he rfl ?_
          refine ge rfl rfl rfl he fun a he => ?_
          refine gy rfl he rfl ?_
          refine mv rfl rfl he fun a he => ?_
          refine sd he (t := 85) rfl (fun h60 he => ?_) (fun h60 he => ?_)
          · refine gy rfl he rfl ?_
            refine mv rfl rfl he fun a he => ?_
            refine gy rfl he rfl ?_
            refine le rfl rfl rfl he fun a he => ?_
            refine gy rfl he rfl ?_
            refine pkt rfl rfl rfl he fun a he => ?_
            refine pkf rfl rfl rfl he fun a he => ?_
            refine asg rfl rfl he fun a he => ?_
            refine en ?_
            replace he := he.be (t := 5) (v' := .bool (decide (refTwenty c))) rfl (by congr 1; symm; first | (apply decide_eq_true; unfold refTwenty; omega) | (apply decide_eq_false; unfold refTwenty; omega) | (apply decide_eq_decide.2; unfold refTwenty; omega))
            exact ⟨he.keep [0, 2, 3, 4, 5] rfl, hh⟩
          · refine gn rfl rfl he rfl rfl fun a he => ?_
            refine gn rfl rfl he rfl rfl fun a he => ?_
            refine gy rfl he rfl ?_
            refine pkf rfl rfl rfl he fun a he => ?_
            refine pkf rfl rfl rfl he fun a he => ?_
            refine asg rfl rfl he fun a he => ?_
            refine en ?_
            replace he := he.be (t := 5) (v' := .bool (decide (refTwenty c))) rfl (by congr 1; symm; first | (apply decide_eq_true; unfold refTwenty; omega) | (apply decide_eq_false; unfold refTwenty; omega) | (apply decide_eq_decide.2; unfold refTwenty; omega))
            exact ⟨he.keep [0, 2, 3, 4, 5] rfl, hh⟩
  obtain ⟨he, hh⟩ := hM
  refine nm_then ?_
  refine sq ?_
  refine bk ?_
  refine sq ?_
  refine rg ?_
  refine mv rfl rfl he fun a he => ?_
  refine asg rfl rfl he fun a he => ?_
  refine en ?_
  refine cnd he rfl (fun h90 => ?_) (fun h90 => ?_)
  · refine sq ?_
    refine rg ?_
    refine mv rfl rfl he fun a he => ?_
    refine ad (c + 32) rfl rfl (w32 (by unfold refTwenty refEven refOdd at *; omega) rfl) rfl he fun a he => ?_
    refine asg rfl rfl he fun a he => ?_
    refine en ?_
    refine rt ?_
    refine rets1 Try.results49 he rfl (Ret.mk ?_)
    rw [refFold, if_pos h90]
    exact ⟨rfl, hh⟩
  · refine sq ?_
    refine cutr (fun a w => Env 118 [(0, .int .i32 c), (2, .int .i32 0), (3, .bool (decide (refEven c))), (4, .bool (decide (refOdd c))), (5, .bool (decide (refTwenty c))), (90, .bool (decide (refTwenty c))), (91, .bool (decide (refTwenty c))), (94, .bool (decide (refEven c ∨ refOdd c ∨ c = 962)))] a ∧ Hp I (L) w) ?_ fun a W hM => ?_
    · refine rg ?_
      refine mv rfl rfl he fun a he => ?_
      refine mv rfl rfl he fun a he => ?_
      refine sd he (t := 96) rfl (fun h61 he => ?_) (fun h61 he => ?_)
      · refine gn rfl rfl he rfl rfl fun a he => ?_
        refine pkt rfl rfl rfl he fun a he => ?_
        refine mv rfl rfl he fun a he => ?_
        refine gn rfl rfl he rfl rfl fun a he => ?_
        refine gn rfl rfl he rfl rfl fun a he => ?_
        refine pkt rfl rfl rfl he fun a he => ?_
        refine asg rfl rfl he fun a he => ?_
        refine en ?_
        replace he := he.be (t := 94) (v' := .bool (decide (refEven c ∨ refOdd c ∨ c = 962))) rfl (by congr 1; symm; first | (apply decide_eq_true; unfold refTwenty refEven refOdd at *; omega) | (apply decide_eq_false; unfold refTwenty refEven refOdd at *; omega) | (apply decide_eq_decide.2; unfold refTwenty refEven refOdd at *; omega))
        exact ⟨he.keep [0, 2, 3, 4, 5, 90, 91, 94] rfl, hh⟩
      · refine gy rfl he rfl ?_
        refine mv rfl rfl he fun a he => ?_
        refine pkf rfl rfl rfl he fun a he => ?_
        refine mv rfl rfl he fun a he => ?_
        refine sd he (t := 99) rfl (fun h62 he => ?_) (fun h62 he => ?_)
        · refine gn rfl rfl he rfl rfl fun a he => ?_
          refine gn rfl rfl he rfl rfl fun a he => ?_
          refine pkt rfl rfl rfl he fun a he => ?_
          refine asg rfl rfl he fun a he => ?_
          refine en ?_
          replace he := he.be (t := 94) (v' := .bool (decide (refEven c ∨ refOdd c ∨ c = 962))) rfl (by congr 1; symm; first | (apply decide_eq_true; unfold refTwenty refEven refOdd at *; omega) | (apply decide_eq_false; unfold refTwenty refEven refOdd at *; omega) | (apply decide_eq_decide.2; unfold refTwenty refEven refOdd at *; omega))
          exact ⟨he.keep [0, 2, 3, 4, 5, 90, 91, 94] rfl, hh⟩
        · refine gy rfl he rfl ?_
          refine mv rfl rfl he fun a he => ?_
          refine gy rfl he rfl ?_
          refine eq rfl rfl rfl he fun a he => ?_
          refine pkf rfl rfl rfl he fun a he => ?_
          refine asg rfl rfl he fun a he => ?_
          refine en ?_
          replace he := he.be (t := 94) (v' := .bool (decide (refEven c ∨ refOdd c ∨ c = 962))) rfl (by congr 1; symm; first | (apply decide_eq_true; unfold refTwenty refEven refOdd at *; omega) | (apply decide_eq_false; unfold refTwenty refEven refOdd at *; omega) | (apply decide_eq_decide.2; unfold refTwenty refEven refOdd at *; omega))
          exact ⟨he.keep [0, 2, 3, 4, 5, 90, 91, 94] rfl, hh⟩
    obtain ⟨he, hh⟩ := hM
    refine nm_then ?_
    refine cnd he rfl (fun h94 => ?_) (fun h94 => ?_)
    · refine sq ?_
      refine rg ?_
      refine mv rfl rfl he fun a he => ?_
      refine ad (c + 1) rfl rfl (w32 (by unfold refTwenty refEven refOdd at *; omega) rfl) rfl he fun a he => ?_
      refine asg rfl rfl he fun a he => ?_
      refine en ?_
      refine rt ?_
      refine rets1 Try.results49 he rfl (Ret.mk ?_)
      rw [refFold, if_neg h90, if_pos h94]
      exact ⟨rfl, hh⟩
    · refine sq ?_
      refine rg ?_
      refine mv rfl rfl he fun a he => ?_
      refine eq rfl rfl rfl he fun a he => ?_
      refine asg rfl rfl he fun a he => ?_
      refine en ?_
      refine cnd he rfl (fun h105 => ?_) (fun h105 => ?_)
      · refine sq ?_
        refine rg ?_
        refine asg rfl rfl he fun a he => ?_
        refine en ?_
        refine rt ?_
        refine rets1 Try.results49 he rfl (Ret.mk ?_)
        rw [refFold, if_neg h90, if_neg h94, if_pos h105]
        exact ⟨rfl, hh⟩
      · refine sq ?_
        refine cutr (fun a w => Env 118 [(0, .int .i32 c), (2, .int .i32 0), (3, .bool (decide (refEven c))), (4, .bool (decide (refOdd c))), (5, .bool (decide (refTwenty c))), (90, .bool (decide (refTwenty c))), (91, .bool (decide (refTwenty c))), (94, .bool (decide (refEven c ∨ refOdd c ∨ c = 962))), (105, .bool (decide (c = 376))), (106, .int .i32 c), (107, .bool (decide (c = 376))), (108, .bool (decide (1024 ≤ c ∧ c ≤ 1039)))] a ∧ Hp I (L) w) ?_ fun a W hM => ?_
        · refine rg ?_
          refine mv rfl rfl he fun a he => ?_
          refine ge rfl rfl rfl he fun a he => ?_
          refine mv rfl rfl he fun a he => ?_
          refine sd he (t := 111) rfl (fun h63 he => ?_) (fun h63 he => ?_)
          · refine gy rfl he rfl ?_
            refine mv rfl rfl he fun a he => ?_
            refine gy rfl he rfl ?_
            refine le rfl rfl rfl he fun a he => ?_
            refine pkt rfl rfl rfl he fun a he => ?_
            refine asg rfl rfl he fun a he => ?_
            refine en ?_
            replace he := he.be (t := 108) (v' := .bool (decide (1024 ≤ c ∧ c ≤ 1039))) rfl (by congr 1; symm; first | (apply decide_eq_true; omega) | (apply decide_eq_false; omega) | (apply decide_eq_decide.2; omega))
            exact ⟨he.keep [0, 2, 3, 4, 5, 90, 91, 94, 105, 106, 107, 108] rfl, hh⟩
          · refine gn rfl rfl he rfl rfl fun a he => ?_
            refine gn rfl rfl he rfl rfl fun a he => ?_
            refine pkf rfl rfl rfl he fun a he => ?_
            refine asg rfl rfl he fun a he => ?_
            refine en ?_
            replace he := he.be (t := 108) (v' := .bool (decide (1024 ≤ c ∧ c ≤ 1039))) rfl (by congr 1; symm; first | (apply decide_eq_true; omega) | (apply decide_eq_false; omega) | (apply decide_eq_decide.2; omega))
            exact ⟨he.keep [0, 2, 3, 4, 5, 90, 91, 94, 105, 106, 107, 108] rfl, hh⟩
        obtain ⟨he, hh⟩ := hM
        refine nm_then ?_
        refine cnd he rfl (fun h108 => ?_) (fun h108 => ?_)
        · refine sq ?_
          refine rg ?_
          refine mv rfl rfl he fun a he => ?_
          refine ad (c + 80) rfl rfl (w32 (by omega) (by omega)) rfl he fun a he => ?_
          refine asg rfl rfl he fun a he => ?_
          refine en ?_
          refine rt ?_
          refine rets1 Try.results49 he rfl (Ret.mk ?_)
          rw [refFold, if_neg h90, if_neg h94, if_neg h105, if_pos h108]
          exact ⟨rfl, hh⟩
        · refine sk ?_
          refine nm_blk ?_
          refine nm_then ?_
          refine sq ?_
          refine rg ?_
          refine mv rfl rfl he fun a he => ?_
          refine asg rfl rfl he fun a he => ?_
          refine en ?_
          refine rt ?_
          refine rets1 Try.results49 he rfl (Ret.mk ?_)
          rw [refFold, if_neg h90, if_neg h94, if_neg h105, if_neg h108]
          exact ⟨rfl, hh⟩

theorem ref05_Mark (I : Snap) (L : List Ch) (W : World) (c : Int) (hh : Hp I L W)  :
    Calls Try.prog 56 #[.int .i32 c] W (Ret fun v W => v = .bool (markN c) ∧ Hp I (L) W) := by
  refine enter Try.func56 rfl Try.ntmps56 rfl fun a he => ?_
  refine sq ?_
  refine rg ?_
  refine asg rfl rfl he fun a he => ?_
  refine en ?_
  refine sq ?_
  refine rg ?_
  refine mv rfl rfl he fun a he => ?_
  refine eq rfl rfl rfl he fun a he => ?_
  refine mv rfl rfl he fun a he => ?_
  refine sd he (t := 5) rfl (fun h1 he => ?_) (fun h1 he => ?_)
  · refine gn rfl rfl he rfl rfl fun a he => ?_
    refine gn rfl rfl he rfl rfl fun a he => ?_
    refine pkt rfl rfl rfl he fun a he => ?_
    refine asg rfl rfl he fun a he => ?_
    refine en ?_
    refine rt ?_
    refine rets1 Try.results56 he rfl (Ret.mk ?_)
    exact ⟨by simp only [markN]; simp [*], hh⟩
  · refine gy rfl he rfl ?_
    refine mv rfl rfl he fun a he => ?_
    refine gy rfl he rfl ?_
    refine eq rfl rfl rfl he fun a he => ?_
    refine pkf rfl rfl rfl he fun a he => ?_
    refine asg rfl rfl he fun a he => ?_
    refine en ?_
    refine rt ?_
    refine rets1 Try.results56 he rfl (Ret.mk ?_)
    exact ⟨by simp only [markN]; simp [*], hh⟩

theorem ref06_letter (I : Snap) (L : List Ch) (W : World) (A_l : Option Addr) (c_l : Nat) (l : List Int) (i : Int) (hh : Hp I L W) (h_l : Fz I A_l (l.map r32)) (k_l : l.length ≤ c_l) :
    Calls Try.prog 48 #[.slice A_l l.length c_l, .int .i64 i] W (Ret fun v W => v = .bool (letR l i) ∧ Hp I (L) W) := by
  refine enter Try.func48 rfl Try.ntmps48 rfl fun a he => ?_
  refine sq ?_
  refine rg ?_
  refine asg rfl rfl he fun a he => ?_
  refine en ?_
  refine sq ?_
  refine rg ?_
  refine mv rfl rfl he fun a he => ?_
  refine ge rfl rfl rfl he fun a he => ?_
  refine mv rfl rfl he fun a he => ?_
  refine sd he (t := 7) rfl (fun h1 he => ?_) (fun h1 he => ?_)
  · refine gy rfl he rfl ?_
    refine mv rfl rfl he fun a he => ?_
    refine gy rfl he rfl ?_
    refine mv rfl rfl he fun a he => ?_
    refine gy rfl he rfl ?_
    refine ln Try.underlying23 rfl rfl he fun a he => ?_
    refine gy rfl he rfl ?_
    refine lt rfl rfl rfl he fun a he => ?_
    refine pkt rfl rfl rfl he fun a he => ?_
    refine mv rfl rfl he fun a he => ?_
    refine sd he (t := 13) rfl (fun h2 he => ?_) (fun h2 he => ?_)
    · refine gy rfl he rfl ?_
      refine mv rfl rfl he fun a he => ?_
      refine gy rfl he rfl ?_
      refine mv rfl rfl he fun a he => ?_
      replace he := he.be (t := 15) (v' := .int .i64 ((i.toNat : Nat) : Int)) rfl (by congr 1; omega)
      refine gy rfl he rfl ?_
      obtain ⟨x, hx⟩ := idx_some (xs := l) (i := i.toNat) (by omega)
      refine ia1 (xs := l) (i.toNat) ts_23 rfl rfl (h_l.rd hh) hx rfl he fun bb3 oo4 a hc5 he => ?_
      refine gy rfl he rfl ?_
      refine ld rb_21 rfl hc5 rfl he fun a he => ?_
      refine gy rfl he rfl ?_
      refine cal cb_57 rfl (ref05_Letter _ _ _ x hh ) rfl he fun v a W hp he => ?_
      obtain ⟨rfl, hh⟩ := hp
      refine pkt rfl rfl rfl he fun a he => ?_
      refine asg rfl rfl he fun a he => ?_
      refine en ?_
      refine rt ?_
      refine rets1 Try.results48 he rfl (Ret.mk ?_)
      rw [letR_some (getI_at (by omega) hx), ← letter_eq]
      exact ⟨rfl, hh⟩
    · refine gn rfl rfl he rfl rfl fun a he => ?_
      refine gn rfl rfl he rfl rfl fun a he => ?_
      refine gn rfl rfl he rfl rfl fun a he => ?_
      refine gn rfl rfl he rfl rfl fun a he => ?_
      refine gn rfl rfl he rfl rfl fun a he => ?_
      refine pkf rfl rfl rfl he fun a he => ?_
      refine asg rfl rfl he fun a he => ?_
      refine en ?_
      refine rt ?_
      refine rets1 Try.results48 he rfl (Ret.mk ?_)
      rw [letR_none (by first | exact getI_neg (by omega) | exact getI_out (by omega))]
      exact ⟨rfl, hh⟩
  · refine gn rfl rfl he rfl rfl fun a he => ?_
    refine gn rfl rfl he rfl rfl fun a he => ?_
    refine gn rfl rfl he rfl rfl fun a he => ?_
    refine gn rfl rfl he rfl rfl fun a he => ?_
    refine pkf rfl rfl rfl he fun a he => ?_
    refine mv rfl rfl he fun a he => ?_
    refine gn rfl rfl he rfl rfl fun a he => ?_
    refine gn rfl rfl he rfl rfl fun a he => ?_
    refine gn rfl rfl he rfl rfl fun a he => ?_
    refine gn rfl rfl he rfl rfl fun a he => ?_
    refine gn rfl rfl he rfl rfl fun a he => ?_
    refine pkf rfl rfl rfl he fun a he => ?_
    refine asg rfl rfl he fun a he => ?_
    refine en ?_
    refine rt ?_
    refine rets1 Try.results48 he rfl (Ret.mk ?_)
    rw [letR_none (by first | exact getI_neg (by omega) | exact getI_out (by omega))]
    exact ⟨rfl, hh⟩

theorem ref06_within (I : Snap) (L : List Ch) (W : World) (A_l : Option Addr) (c_l : Nat) (l : List Int) (i : Int) (hh : Hp I L W) (h_l : Fz I A_l (l.map r32)) (k_l : l.length ≤ c_l) (hi : -2 ≤ i ∧ i ≤ 10000000000000) :
    Calls Try.prog 47 #[.slice A_l l.length c_l, .int .i64 i] W (Ret fun v W => v = .bool (wthn l i) ∧ Hp I (L) W) := by
  refine enter Try.func47 rfl Try.ntmps47 rfl fun a he => ?_
  refine sq ?_
  refine rg ?_
  refine asg rfl rfl he fun a he => ?_
  refine en ?_
  refine sq ?_
  refine sq ?_
  refine rg ?_
  refine mv rfl rfl he fun a he => ?_
  refine mv rfl rfl he fun a he => ?_
  refine cal cb_48 rfl (ref06_letter _ _ _ A_l c_l l i hh h_l k_l) rfl he fun v a W hp he => ?_
  obtain ⟨rfl, hh⟩ := hp
  refine en ?_
  refine cnb he rfl (fun h7 => ?_) (fun h7 => ?_)
  · refine sq ?_
    refine rg ?_
    refine asg rfl rfl he fun a he => ?_
    refine en ?_
    refine rt ?_
    refine rets1 Try.results47 he rfl (Ret.mk ?_)
    exact ⟨by rw [wthn, h7]; rfl, hh⟩
  · refine sk ?_
    refine nm_then ?_
    refine sq ?_
    refine rg ?_
    refine mv rfl rfl he fun a he => ?_
    refine ge rfl rfl rfl he fun a he => ?_
    refine mv rfl rfl he fun a he => ?_
    refine sd he (t := 10) rfl (fun h1 he => ?_) (fun h1 he => ?_)
    · refine gy rfl he rfl ?_
      refine mv rfl rfl he fun a he => ?_
      refine gy rfl he rfl ?_
      refine mv rfl rfl he fun a he => ?_
      refine gy rfl he rfl ?_
      refine ln Try.underlying23 rfl rfl he fun a he => ?_
      refine gy rfl he rfl ?_
      refine lt rfl rfl rfl he fun a he => ?_
      refine pkt rfl rfl rfl he fun a he => ?_
      refine mv rfl rfl he fun a he => ?_
      refine sd he (t := 16) rfl (fun h2 he => ?_) (fun h2 he => ?_)
      · refine gy rfl he rfl ?_
        refine mv rfl rfl he fun a he => ?_
        refine gy rfl he rfl ?_
        refine mv rfl rfl he fun a he => ?_
        replace he := he.be (t := 18) (v' := .int .i64 ((i.toNat : Nat) : Int)) rfl (by congr 1; omega)
        refine gy rfl he rfl ?_
        obtain ⟨x, hx⟩ := idx_some (xs := l) (i := i.toNat) (by omega)
        refine ia1 (xs := l) (i.toNat) ts_23 rfl rfl (h_l.rd hh) hx rfl he fun bb3 oo4 a hc5 he => ?_
        refine gy rfl he rfl ?_
        refine ld rb_21 rfl hc5 rfl he fun a he => ?_
        refine gy rfl he rfl ?_
        refine cal cb_56 rfl (ref05_Mark _ _ _ x hh ) rfl he fun v a W hp he => ?_
        obtain ⟨rfl, hh⟩ := hp
        refine pkt rfl rfl rfl he fun a he => ?_
        refine mv rfl rfl he fun a he => ?_
        refine sb he (t := 23) rfl (fun h6 he => ?_) (fun h6 he => ?_)
        · refine gy rfl he rfl ?_
          refine mv rfl rfl he fun a he => ?_
          refine gy rfl he rfl ?_
          refine mv rfl rfl he fun a he => ?_
          refine gy rfl he rfl ?_
          refine su (i - 1) rfl rfl (w64 (by omega) (by omega)) rfl he fun a he => ?_
          refine gy rfl he rfl ?_
          refine cal cb_48 rfl (ref06_letter _ _ _ A_l c_l l (i - 1) hh h_l k_l) rfl he fun v a W hp he => ?_
          obtain ⟨rfl, hh⟩ := hp
          refine pkt rfl rfl rfl he fun a he => ?_
          refine mv rfl rfl he fun a he => ?_
          refine sb he (t := 29) rfl (fun h7 he => ?_) (fun h7 he => ?_)
          · refine gy rfl he rfl ?_
            refine mv rfl rfl he fun a he => ?_
            refine gy rfl he rfl ?_
            refine mv rfl rfl he fun a he => ?_
            refine gy rfl he rfl ?_
            refine ad (i + 1) rfl rfl (w64 (by omega) (by omega)) rfl he fun a he => ?_
            refine gy rfl he rfl ?_
            refine cal cb_48 rfl (ref06_letter _ _ _ A_l c_l l (i + 1) hh h_l k_l) rfl he fun v a W hp he => ?_
            obtain ⟨rfl, hh⟩ := hp
            refine pkt rfl rfl rfl he fun a he => ?_
            refine asg rfl rfl he fun a he => ?_
            refine en ?_
            refine rt ?_
            refine rets1 Try.results47 he rfl (Ret.mk ?_)
            have hm : marR l i = markN x := marR_some (getI_at (by omega) hx)
            exact ⟨by rw [wthn, h7, hm]; simp [*], hh⟩
          · refine gn rfl rfl he rfl rfl fun a he => ?_
            refine gn rfl rfl he rfl rfl fun a he => ?_
            refine gn rfl rfl he rfl rfl fun a he => ?_
            refine gn rfl rfl he rfl rfl fun a he => ?_
            refine pkf rfl rfl rfl he fun a he => ?_
            refine asg rfl rfl he fun a he => ?_
            refine en ?_
            refine rt ?_
            refine rets1 Try.results47 he rfl (Ret.mk ?_)
            have hm : marR l i = markN x := marR_some (getI_at (by omega) hx)
            exact ⟨by rw [wthn, h7, hm]; simp [*], hh⟩
        · refine gn rfl rfl he rfl rfl fun a he => ?_
          refine gn rfl rfl he rfl rfl fun a he => ?_
          refine gn rfl rfl he rfl rfl fun a he => ?_
          refine gn rfl rfl he rfl rfl fun a he => ?_
          refine pkf rfl rfl rfl he fun a he => ?_
          refine mv rfl rfl he fun a he => ?_
          refine gn rfl rfl he rfl rfl fun a he => ?_
          refine gn rfl rfl he rfl rfl fun a he => ?_
          refine gn rfl rfl he rfl rfl fun a he => ?_
          refine gn rfl rfl he rfl rfl fun a he => ?_
          refine pkf rfl rfl rfl he fun a he => ?_
          refine asg rfl rfl he fun a he => ?_
          refine en ?_
          refine rt ?_
          refine rets1 Try.results47 he rfl (Ret.mk ?_)
          have hm : marR l i = markN x := marR_some (getI_at (by omega) hx)
          exact ⟨by rw [wthn, h7, hm]; simp [*], hh⟩
      · refine gn rfl rfl he rfl rfl fun a he => ?_
        refine gn rfl rfl he rfl rfl fun a he => ?_
        refine gn rfl rfl he rfl rfl fun a he => ?_
        refine gn rfl rfl he rfl rfl fun a he => ?_
        refine gn rfl rfl he rfl rfl fun a he => ?_
        refine pkf rfl rfl rfl he fun a he => ?_
        refine mv rfl rfl he fun a he => ?_
        refine gn rfl rfl he rfl rfl fun a he => ?_
        refine gn rfl rfl he rfl rfl fun a he => ?_
        refine gn rfl rfl he rfl rfl fun a he => ?_
        refine gn rfl rfl he rfl rfl fun a he => ?_
        refine pkf rfl rfl rfl he fun a he => ?_
        refine mv rfl rfl he fun a he => ?_
        refine gn rfl rfl he rfl rfl fun a he => ?_
        refine gn rfl rfl he rfl rfl fun a he => ?_
        refine gn rfl rfl he rfl rfl fun a he => ?_
        refine gn rfl rfl he rfl rfl fun a he => ?_
        refine pkf rfl rfl rfl he fun a he => ?_
        refine asg rfl rfl he fun a he => ?_
        refine en ?_
        refine rt ?_
        refine rets1 Try.results47 he rfl (Ret.mk ?_)
        have hm : marR l i = false := marR_none (by first | exact getI_neg (by omega) | exact getI_out (by omega))
        exact ⟨by rw [wthn, h7, hm]; rfl, hh⟩
    · refine gn rfl rfl he rfl rfl fun a he => ?_
      refine gn rfl rfl he rfl rfl fun a he => ?_
      refine gn rfl rfl he rfl rfl fun a he => ?_
      refine gn rfl rfl he rfl rfl fun a he => ?_
      refine pkf rfl rfl rfl he fun a he => ?_
      refine mv rfl rfl he fun a he => ?_
      refine gn rfl rfl he rfl rfl fun a he => ?_
      refine gn rfl rfl he rfl rfl fun a he => ?_
      refine gn rfl rfl he rfl rfl fun a he => ?_
      refine gn rfl rfl he rfl rfl fun a he => ?_
      refine gn rfl rfl he rfl rfl fun a he => ?_
      refine pkf rfl rfl rfl he fun a he => ?_
      refine mv rfl rfl he fun a he => ?_
      refine gn rfl rfl he rfl rfl fun a he => ?_
      refine gn rfl rfl he rfl rfl fun a he => ?_
      refine gn rfl rfl he rfl rfl fun a he => ?_
      refine gn rfl rfl he rfl rfl fun a he => ?_
      refine pkf rfl rfl rfl he fun a he => ?_
      refine mv rfl rfl he fun a he => ?_
      refine gn rfl rfl he rfl rfl fun a he => ?_
      refine gn rfl rfl he rfl rfl fun a he => ?_
      refine gn rfl rfl he rfl rfl fun a he => ?_
      refine gn rfl rfl he rfl rfl fun a he => ?_
      refine pkf rfl rfl rfl he fun a he => ?_
      refine asg rfl rfl he fun a he => ?_
      refine en ?_
      refine rt ?_
      refine rets1 Try.results47 he rfl (Ret.mk ?_)
      have hm : marR l i = false := marR_none (by first | exact getI_neg (by omega) | exact getI_out (by omega))
      exact ⟨by rw [wthn, h7, hm]; rfl, hh⟩

theorem ref06_All (I : Snap) (L : List Ch) (W : World) (A_l : Option Addr) (c_l : Nat) (l : List Int) (hh : Hp I L W) (h_l : Fz I A_l (l.map r32)) (k_l : l.length ≤ c_l) (hb : l.length ≤ 1000000000000) :
    Calls Try.prog 35 #[.slice A_l l.length c_l] W (Ret fun v W => ∃ (A1 : Option Addr) (c1 : Nat), v = .slice A1 (allS l.length l).length c1 ∧ Hp I (.row A1 (allS l.length l).length c1 9 1 ((allS l.length l).map str1) :: L) W) := by
  refine enter Try.func35 rfl Try.ntmps35 rfl fun a he => ?_
  refine sq ?_
  refine rg ?_
  refine asg rfl rfl he fun a he => ?_
  refine en ?_
  refine sq ?_
  refine rg ?_
  refine asg rfl rfl he fun a he => ?_
  refine en ?_
  refine sq ?_
  refine rg ?_
  refine asg rfl rfl he fun a he => ?_
  refine en ?_
  refine sq ?_
  refine bk ?_
  replace hh := hh.nilrow 9 1
  refine lp (fun (s : Nat × Nat × List ByteArray) a w => match s with | (p, f, pre) => ∃ (A_3 : Option Addr) (c_3 : Nat), Env 54 [(0, .slice A_l l.length c_l), (2, .slice none 0 0), (3, .slice A_3 pre.length c_3), (4, .int .i64 ((p : Nat) : Int))] a ∧ Hp I (.row A_3 pre.length c_3 9 1 (pre.map str1) :: L) w ∧ p ≤ l.length + 1 ∧ pre.length ≤ p ∧ l.length ≤ p + f ∧ pre ++ allS f (l.drop p) = allS l.length l ∧ letR l ((p : Int) - 1) = false)
      (fun s => l.length + 1 - s.1) (0, l.length, []) ⟨none, 0, he.keep [0, 2, 3, 4] rfl, hh, Nat.zero_le _, Nat.le_refl _, by omega, by simp, letR_none (getI_neg (by omega))⟩ fun s a W hinv => ?_
  obtain ⟨p, f, pre⟩ := s
  obtain ⟨A_3, c_3, he, hh, hpl, hpp, hf, hinv, hprev⟩ := hinv
  refine sq ?_
  refine sq ?_
  refine rg ?_
  refine mv rfl rfl he fun a he => ?_
  refine mv rfl rfl he fun a he => ?_
  refine ln Try.underlying23 rfl rfl he fun a he => ?_
  refine lt rfl rfl rfl he fun a he => ?_
  refine en ?_
  refine cnd he rfl (fun h2 => ?_) (fun h2 => ?_)
  · replace h2 : p < l.length := by omega
    refine sk ?_
    refine nm_then ?_
    refine bk ?_
    refine sq ?_
    refine rg ?_
    refine mv rfl rfl he fun a he => ?_
    refine asg rfl rfl he fun a he => ?_
    refine en ?_
    refine sq ?_
    refine rg ?_
    refine asg rfl rfl he fun a he => ?_
    refine en ?_
    refine sq ?_
    refine cutr (fun a w => ∃ (q : Nat) (wd : List Int) (A6 : Option Addr) (c6 : Nat), Env 54 [(0, .slice A_l l.length c_l), (2, .slice none 0 0), (3, .slice A_3 pre.length c_3), (4, .int .i64 ((p : Nat) : Int)), (5, .int .i64 ((q : Nat) : Int)), (6, .slice A6 wd.length c6)] a ∧ Hp I (.row A6 wd.length c6 21 1 (wd.map r32) :: .row A_3 pre.length c_3 9 1 (pre.map str1) :: L) w ∧ p ≤ q ∧ q ≤ l.length ∧ wd.length = q - p ∧ (wd, q - p) = runS false (l.drop p) ∧ letR l (q : Int) = false) ?_ fun a W hM => ?_
    · refine bk ?_
      replace hh := hh.nilrow 21 1
      replace hh := hh.up1
      replace hh := hh.up1
      refine lp (fun (s : Nat × List Int) a w => match s with | (q, wd) => ∃ (A_6 : Option Addr) (c_6 : Nat), Env 54 [(0, .slice A_l l.length c_l), (2, .slice none 0 0), (3, .slice A_3 pre.length c_3), (4, .int .i64 ((p : Nat) : Int)), (5, .int .i64 ((q : Nat) : Int)), (6, .slice A_6 wd.length c_6)] a ∧ Hp I (.row A_6 wd.length c_6 21 1 (wd.map r32) :: .row A_3 pre.length c_3 9 1 (pre.map str1) :: L) w ∧ p ≤ q ∧ q ≤ l.length ∧ wd.length = q - p ∧ (wd ++ (runS (letR l ((q : Int) - 1)) (l.drop q)).1, (q - p) + (runS (letR l ((q : Int) - 1)) (l.drop q)).2) = runS false (l.drop p))
          (fun s => l.length - s.1) (p, []) ⟨none, 0, he.keep [0, 2, 3, 4, 5, 6] rfl, hh, Nat.le_refl _, by omega, by simp, by simp [hprev]⟩ fun s a W hinv => ?_
      obtain ⟨q, wd⟩ := s
      obtain ⟨A_6, c_6, he, hh, hpq, hql, hwl, hr⟩ := hinv
      refine sq ?_
      refine sq ?_
      refine rg ?_
      refine mv rfl rfl he fun a he => ?_
      refine mv rfl rfl he fun a he => ?_
      refine ln Try.underlying23 rfl rfl he fun a he => ?_
      refine lt rfl rfl rfl he fun a he => ?_
      refine mv rfl rfl he fun a he => ?_
      refine sd he (t := 16) rfl (fun h4 he => ?_) (fun h4 he => ?_)
      · replace h4 : q < l.length := by omega
        refine gy rfl he rfl ?_
        refine mv rfl rfl he fun a he => ?_
        refine gy rfl he rfl ?_
        refine mv rfl rfl he fun a he => ?_
        refine gy rfl he rfl ?_
        refine cal cb_47 rfl (ref06_within _ _ _ A_l c_l l ((q : Nat) : Int) hh h_l k_l (by omega)) rfl he fun v a W hp he => ?_
        obtain ⟨rfl, hh⟩ := hp
        refine pkt rfl rfl rfl he fun a he => ?_
        refine en ?_
        refine cnb he rfl (fun hw1 => ?_) (fun hw1 => ?_)
        · refine sk ?_
          refine nm_then ?_
          refine bk ?_
          refine sq ?_
          refine sq ?_
          refine rg ?_
          refine mv rfl rfl he fun a he => ?_
          refine mv rfl rfl he fun a he => ?_
          refine cal cb_48 rfl (ref06_letter _ _ _ A_l c_l l ((q : Nat) : Int) hh h_l k_l) rfl he fun v a W hp he => ?_
          obtain ⟨rfl, hh⟩ := hp
          refine en ?_
          refine cnb he rfl (fun h23 => ?_) (fun h23 => ?_)
          · refine rg ?_
            refine mv rfl rfl he fun a he => ?_
            refine mv rfl rfl he fun a he => ?_
            refine mv rfl rfl he fun a he => ?_
            obtain ⟨x, hx⟩ := idx_some (xs := l) (i := q) (by omega)
            refine ia1 (xs := l) (q) ts_23 rfl rfl (h_l.rd hh) hx rfl he fun bb5 oo6 a hc7 he => ?_
            refine ld rb_21 rfl hc7 rfl he fun a he => ?_
            have hlx : letR l (q : Int) = letterN x := letR_some (by rw [getI_nat]; exact hx)
            refine cal cb_49 rfl (ref05_Fold _ _ _ x hh ) rfl he fun v a W hp he => ?_
            obtain ⟨rfl, hh⟩ := hp
            rw [fold_eq] at he
            refine bsl [(0, .int .i32 (foldN x))] [.int .i32 (foldN x)] ts_23 rfl rfl rfl rfl rfl rfl rfl he hh fun bb8 a W he hh => ?_
            replace hh := hh.up1
            refine ap ts_23 rfl rfl (Ch.rd hh.at1) (by simp) (by simp [Value.oneCell']) (by first | omega | (simp; omega)) rfl he hh fun A9 cc10 a W he hh => ?_
            replace hh := hh.re (n' := ((wd ++ [(foldN x)])).length) (cs' := ((wd ++ [(foldN x)])).map r32) (by simp) (by simp [r32])
            replace he := he.be (t := 31) (v' := .slice A9 ((wd ++ [(foldN x)])).length cc10) rfl (by congr 1; simp)
            replace hh := hh.up1
            replace hh := hh.drop
            refine asg rfl rfl he fun a he => ?_
            refine en ?_
            refine rg ?_
            refine mv rfl rfl he fun a he => ?_
            refine ad (((q + 1) : Nat) : Int) rfl rfl (w64 (by omega) (by omega)) rfl he fun a he => ?_
            refine asg rfl rfl he fun a he => ?_
            refine en_blk ?_
            refine nm_then ?_
            replace hh := hh.up1
            replace hh := hh.up1
            exact ⟨(q + 1, (wd ++ [(foldN x)])), ⟨A9, cc10, he.keep [0, 2, 3, 4, 5, 6] rfl, hh, by omega, by omega, by simp; omega, run_next hr hpq (run_letter hx (by rw [← hlx]; exact h23))⟩, by show l.length - (q + 1) < l.length - q; omega⟩
          · refine rg ?_
            refine mv rfl rfl he fun a he => ?_
            refine bsl [(0, .int .i32 39)] [.int .i32 39] ts_23 rfl rfl rfl rfl rfl rfl rfl he hh fun bb12 a W he hh => ?_
            replace hh := hh.up1
            refine ap ts_23 rfl rfl (Ch.rd hh.at1) (by simp) (by simp [Value.oneCell']) (by first | omega | (simp; omega)) rfl he hh fun A13 cc14 a W he hh => ?_
            replace hh := hh.re (n' := ((wd ++ [39])).length) (cs' := ((wd ++ [39])).map r32) (by simp) (by simp [r32])
            replace he := he.be (t := 34) (v' := .slice A13 ((wd ++ [39])).length cc14) rfl (by congr 1; simp)
            replace hh := hh.up1
            replace hh := hh.drop
            refine asg rfl rfl he fun a he => ?_
            refine en ?_
            refine rg ?_
            refine mv rfl rfl he fun a he => ?_
            refine ad (((q + 1) : Nat) : Int) rfl rfl (w64 (by omega) (by omega)) rfl he fun a he => ?_
            refine asg rfl rfl he fun a he => ?_
            refine en_blk ?_
            refine nm_then ?_
            replace hh := hh.up1
            replace hh := hh.up1
            exact ⟨(q + 1, (wd ++ [39])), ⟨A13, cc14, he.keep [0, 2, 3, 4, 5, 6] rfl, hh, by omega, by omega, by simp; omega, run_next hr hpq (run_mark (by omega) hw1 h23)⟩, by show l.length - (q + 1) < l.length - q; omega⟩
        · have hw0 := hw1
          refine ext ?_
          refine ex_then ?_
          refine ex_then ?_
          refine ex_in ?_
          refine nm_then ?_
          replace hh := hh.up1
          replace hh := hh.up1
          have hst := run_end (l := l) (q := q) (Or.inr hw0)
          have hlq : letR l (q : Int) = false := by have := hw0; unfold wthn at this; simp only [Bool.or_eq_false_iff] at this; exact this.1
          exact ⟨q, wd, A_6, c_6, he.keep [0, 2, 3, 4, 5, 6] rfl, hh, hpq, hql, hwl, run_stop hr hst, hlq⟩
      · replace h4 : ¬ (q < l.length) := by omega
        refine gn rfl rfl he rfl rfl fun a he => ?_
        refine gn rfl rfl he rfl rfl fun a he => ?_
        refine gn rfl rfl he rfl rfl fun a he => ?_
        refine pkf rfl rfl rfl he fun a he => ?_
        refine en ?_
        refine cnf he rfl ?_
        refine ext ?_
        refine ex_then ?_
        refine ex_then ?_
        refine ex_in ?_
        refine nm_then ?_
        replace hh := hh.up1
        replace hh := hh.up1
        have hst := run_end (l := l) (q := q) (Or.inl (by omega))
        have hlq : letR l (q : Int) = false := by exact letR_none (getI_out (by omega))
        exact ⟨q, wd, A_6, c_6, he.keep [0, 2, 3, 4, 5, 6] rfl, hh, hpq, hql, hwl, run_stop hr hst, hlq⟩
    obtain ⟨q, wd, A6, c6, he, hh, hpq, hql, hwl, hrun, hlq⟩ := hM
    refine nm_then ?_
    refine sq ?_
    refine sq ?_
    refine cutr (fun a w => Env 54 [(0, .slice A_l l.length c_l), (2, .slice none 0 0), (3, .slice A_3 pre.length c_3), (4, .int .i64 ((p : Nat) : Int)), (5, .int .i64 ((q : Nat) : Int)), (6, .slice A6 wd.length c6), (45, .bool (decide (p < q ∧ q - p ≤ 32)))] a ∧ Hp I (.row A6 wd.length c6 21 1 (wd.map r32) :: .row A_3 pre.length c_3 9 1 (pre.map str1) :: L) w) ?_ fun a W hM => ?_
    · refine rg ?_
      refine mv rfl rfl he fun a he => ?_
      refine mv rfl rfl he fun a he => ?_
      refine gt rfl rfl rfl he fun a he => ?_
      refine mv rfl rfl he fun a he => ?_
      refine sd he (t := 40) rfl (fun h16 he => ?_) (fun h16 he => ?_)
      · replace h16 : p < q := by omega
        refine gy rfl he rfl ?_
        refine mv rfl rfl he fun a he => ?_
        refine gy rfl he rfl ?_
        refine mv rfl rfl he fun a he => ?_
        refine gy rfl he rfl ?_
        refine su (((q - p) : Nat) : Int) rfl rfl (w64 (by omega) (by omega)) rfl he fun a he => ?_
        refine gy rfl he rfl ?_
        refine le rfl rfl rfl he fun a he => ?_
        refine pkt rfl rfl rfl he fun a he => ?_
        refine en ?_
        replace hh := hh.up1
        replace hh := hh.up1
        replace he := he.be (t := 45) (v' := .bool (decide (p < q ∧ q - p ≤ 32))) rfl (by congr 1; symm; first | (apply decide_eq_true; omega) | (apply decide_eq_false; omega) | (apply decide_eq_decide.2; omega))
        exact ⟨he.keep [0, 2, 3, 4, 5, 6, 45] rfl, hh⟩
      · replace h16 : ¬ (p < q) := by omega
        refine gn rfl rfl he rfl rfl fun a he => ?_
        refine gn rfl rfl he rfl rfl fun a he => ?_
        refine gn rfl rfl he rfl rfl fun a he => ?_
        refine gn rfl rfl he rfl rfl fun a he => ?_
        refine pkf rfl rfl rfl he fun a he => ?_
        refine en ?_
        replace hh := hh.up1
        replace hh := hh.up1
        replace he := he.be (t := 45) (v' := .bool (decide (p < q ∧ q - p ≤ 32))) rfl (by congr 1; symm; first | (apply decide_eq_true; omega) | (apply decide_eq_false; omega) | (apply decide_eq_decide.2; omega))
        exact ⟨he.keep [0, 2, 3, 4, 5, 6, 45] rfl, hh⟩
    obtain ⟨he, hh⟩ := hM
    refine nm_then ?_
    refine cnd he rfl (fun h45 => ?_) (fun h45 => ?_)
    · refine rg ?_
      refine mv rfl rfl he fun a he => ?_
      refine mv rfl rfl he fun a he => ?_
      refine cvrs wd Try.underlying23 Try.underlying21 Try.underlying9 rfl (Ch.rd hh.at0) (by simp) rfl he fun a he => ?_
      refine bsl [(0, .string (runesBytes wd))] [.string (runesBytes wd)] ts_44 rfl rfl rfl rfl rfl rfl rfl he hh fun bb17 a W he hh => ?_
      replace hh := hh.up2
      refine ap ts_44 rfl rfl (Ch.rd hh.at1) (by simp) (by simp [Value.oneCell']) (by first | omega | (simp; omega)) rfl he hh fun A18 cc19 a W he hh => ?_
      replace hh := hh.re (n' := ((pre ++ [(runesBytes wd)])).length) (cs' := ((pre ++ [(runesBytes wd)])).map str1) (by simp) (by simp [str1])
      replace he := he.be (t := 50) (v' := .slice A18 ((pre ++ [(runesBytes wd)])).length cc19) rfl (by congr 1; simp)
      replace hh := hh.up1
      replace hh := hh.drop
      refine asg rfl rfl he fun a he => ?_
      refine en ?_
      refine rg ?_
      refine mv rfl rfl he fun a he => ?_
      refine ad (((q + 1) : Nat) : Int) rfl rfl (w64 (by omega) (by omega)) rfl he fun a he => ?_
      refine asg rfl rfl he fun a he => ?_
      refine en_blk ?_
      refine nm_then ?_
      replace hh := hh.up1
      replace hh := hh.drop
      have ho : outS (wd, q - p) = [runesBytes wd] := by rw [outS, if_pos (by simp only; omega)]
      obtain ⟨hn1, hn2⟩ := allS_next hinv hf (by omega) hpq hrun
      rw [ho] at hn1
      exact ⟨(q + 1, f - 1, (pre ++ [(runesBytes wd)])), ⟨A18, cc19, he.keep [0, 2, 3, 4] rfl, hh, by omega, by simp; omega, hn2, hn1, by rw [show ((q + 1 : Nat) : Int) - 1 = (q : Int) by omega]; exact hlq⟩, by show l.length + 1 - (q + 1) < l.length + 1 - p; omega⟩
    · refine sk ?_
      refine nm_then ?_
      refine rg ?_
      refine mv rfl rfl he fun a he => ?_
      refine ad (((q + 1) : Nat) : Int) rfl rfl (w64 (by omega) (by omega)) rfl he fun a he => ?_
      refine asg rfl rfl he fun a he => ?_
      refine en_blk ?_
      refine nm_then ?_
      replace hh := hh.drop
      have ho : outS (wd, q - p) = [] := by rw [outS, if_neg (by simp only; omega)]
      obtain ⟨hn1, hn2⟩ := allS_next hinv hf (by omega) hpq hrun
      rw [ho] at hn1
      exact ⟨(q + 1, f - 1, pre), ⟨A_3, c_3, he.keep [0, 2, 3, 4] rfl, hh, by omega, by omega, hn2, by simpa using hn1, by rw [show ((q + 1 : Nat) : Int) - 1 = (q : Int) by omega]; exact hlq⟩, by show l.length + 1 - (q + 1) < l.length + 1 - p; omega⟩
  · replace h2 : ¬ (p < l.length) := by omega
    refine ext ?_
    refine ex_then ?_
    refine ex_then ?_
    refine ex_in ?_
    refine nm_then ?_
    refine sq ?_
    refine rg ?_
    refine mv rfl rfl he fun a he => ?_
    refine asg rfl rfl he fun a he => ?_
    refine en ?_
    refine rt ?_
    refine rets1 Try.results35 he rfl (Ret.mk ?_)
    rw [← allS_end hinv (by omega)]
    exact ⟨A_3, c_3, rfl, hh⟩

theorem ref04_one (I : Snap) (L : List Ch) (W : World) (A_l : Option Addr) (c_l : Nat) (l : List UInt8) (hh : Hp I L W) (h_l : Fz I A_l (l.map b8)) (k_l : l.length ≤ c_l) (hne : l ≠ []) :
    Calls Try.prog 50 #[.slice A_l l.length c_l] W (Ret fun v W => v = .tuple #[.int .i32 (((Utf8.decode ⟨l.toArray⟩ 0).1 : Nat) : Int), .int .i64 (((Utf8.decode ⟨l.toArray⟩ 0).2 : Nat) : Int)] ∧ Hp I (L) W) := by
  refine enter Try.func50 rfl Try.ntmps50 rfl fun a he => ?_
  refine sq ?_
  refine rg ?_
  refine asg rfl rfl he fun a he => ?_
  refine asg rfl rfl he fun a he => ?_
  refine en ?_
  refine sq ?_
  refine rg ?_
  refine mv rfl rfl he fun a he => ?_
  obtain ⟨x, hx⟩ := idx_some (xs := l) (i := 0) (List.length_pos_iff.2 hne)
  refine ia1 (xs := l) (0) ts_22 rfl rfl (h_l.rd hh) hx rfl he fun bb1 oo2 a hc3 he => ?_
  refine ld rb_5 rfl hc3 rfl he fun a he => ?_
  have e0 : at0 l 0 = x.toNat := at0_some hx
  have hlt := x.toNat_lt
  refine cal cb_39 rfl (ref04_Size _ _ _ x.toNat hh ) rfl he fun v a W hp he => ?_
  obtain ⟨rfl, hh⟩ := hp
  rw [← e0] at he
  have hsz := sizeN_le (at0 l 0)
  refine asg rfl rfl he fun a he => ?_
  refine en ?_
  refine sq ?_
  refine sq ?_
  refine cutr (fun a w => Env 51 [(0, .slice A_l l.length c_l), (2, .int .i32 0), (3, .int .i64 0), (4, .int .i64 ((sizeN (at0 l 0) : Nat) : Int)), (7, .slice A_l l.length c_l), (8, .pointer (some ⟨bb1, oo2, none⟩)), (9, .int .u8 ((x.toNat : Nat) : Int)), (10, .int .i64 ((sizeN (at0 l 0) : Nat) : Int)), (18, .bool (decide (sizeN (at0 l 0) = 0 ∨ goodN l < sizeN (at0 l 0))))] a ∧ Hp I (L) w) ?_ fun a W hM => ?_
  · refine rg ?_
    refine mv rfl rfl he fun a he => ?_
    refine eq rfl rfl rfl he fun a he => ?_
    refine mv rfl rfl he fun a he => ?_
    refine sd he (t := 13) rfl (fun h4 he => ?_) (fun h4 he => ?_)
    · replace h4 : (sizeN (at0 l 0)) = 0 := by omega
      refine gn rfl rfl he rfl rfl fun a he => ?_
      refine gn rfl rfl he rfl rfl fun a he => ?_
      refine gn rfl rfl he rfl rfl fun a he => ?_
      refine gn rfl rfl he rfl rfl fun a he => ?_
      refine pkt rfl rfl rfl he fun a he => ?_
      refine en ?_
      replace he := he.be (t := 18) (v' := .bool (decide (sizeN (at0 l 0) = 0 ∨ goodN l < sizeN (at0 l 0)))) rfl (by congr 1; symm; first | (apply decide_eq_true; omega) | (apply decide_eq_false; omega) | (apply decide_eq_decide.2; omega))
      exact ⟨he.keep [0, 2, 3, 4, 7, 8, 9, 10, 18] rfl, hh⟩
    · replace h4 : ¬ ((sizeN (at0 l 0)) = 0) := by omega
      refine gy rfl he rfl ?_
      refine mv rfl rfl he fun a he => ?_
      refine gy rfl he rfl ?_
      refine cal cb_38 rfl (ref04_good _ _ _ A_l c_l l hh h_l k_l) rfl he fun v a W hp he => ?_
      obtain ⟨rfl, hh⟩ := hp
      refine gy rfl he rfl ?_
      refine mv rfl rfl he fun a he => ?_
      refine gy rfl he rfl ?_
      refine lt rfl rfl rfl he fun a he => ?_
      refine pkf rfl rfl rfl he fun a he => ?_
      refine en ?_
      replace he := he.be (t := 18) (v' := .bool (decide (sizeN (at0 l 0) = 0 ∨ goodN l < sizeN (at0 l 0)))) rfl (by congr 1; symm; first | (apply decide_eq_true; omega) | (apply decide_eq_false; omega) | (apply decide_eq_decide.2; omega))
      exact ⟨he.keep [0, 2, 3, 4, 7, 8, 9, 10, 18] rfl, hh⟩
  obtain ⟨he, hh⟩ := hM
  refine nm_then ?_
  refine cnd he rfl (fun h18 => ?_) (fun h18 => ?_)
  · refine sq ?_
    refine rg ?_
    refine asg rfl rfl he fun a he => ?_
    refine asg rfl rfl he fun a he => ?_
    refine en ?_
    refine rt ?_
    refine rets2 Try.results50 he rfl rfl (Ret.mk ?_)
    rw [one_bad hne h18]
    exact ⟨rfl, hh⟩
  · refine sk ?_
    refine nm_then ?_
    refine sq ?_
    refine rg ?_
    refine mv rfl rfl he fun a he => ?_
    obtain ⟨x2, hx2⟩ := idx_some (xs := l) (i := 0) (List.length_pos_iff.2 hne)
    refine ia1 (xs := l) (0) ts_22 rfl rfl (h_l.rd hh) hx2 rfl he fun bb5 oo6 a hc7 he => ?_
    refine ld rb_5 rfl hc7 rfl he fun a he => ?_
    have e0'' : at0 l 0 = x2.toNat := at0_some hx2
    have hlt2 := x2.toNat_lt
    refine ci ((x2.toNat : Nat) : Int) .i32 ud_5 Try.underlying21 rfl (w32 (by omega) (by omega)) rfl he fun a he => ?_
    refine asg rfl rfl he fun a he => ?_
    refine en ?_
    refine sq ?_
    refine sq ?_
    refine rg ?_
    refine mv rfl rfl he fun a he => ?_
    refine eq rfl rfl rfl he fun a he => ?_
    refine en ?_
    refine cnd he rfl (fun h8 => ?_) (fun h8 => ?_)
    · replace h8 : (sizeN (at0 l 0)) = 2 := by omega
      refine rg ?_
      refine mv rfl rfl he fun a he => ?_
      refine su (((x2.toNat : Nat) : Int) - 192) rfl rfl (w32 (by omega) (by omega)) rfl he fun a he => ?_
      refine asg rfl rfl he fun a he => ?_
      refine en ?_
      refine sq ?_
      refine sq ?_
      refine rg ?_
      refine mv rfl rfl he fun a he => ?_
      refine eq rfl rfl rfl he fun a he => ?_
      refine en ?_
      refine cnd he rfl (fun h9 => ?_) (fun h9 => ?_)
      · replace h9 : (sizeN (at0 l 0)) = 3 := by omega
        refine rg ?_
        refine mv rfl rfl he fun a he => ?_
        refine su ((((x2.toNat : Nat) : Int) - 192) - 224) rfl rfl (w32 (by omega) (by omega)) rfl he fun a he => ?_
        refine asg rfl rfl he fun a he => ?_
        refine en ?_
        refine sq ?_
        refine sq ?_
        refine rg ?_
        refine mv rfl rfl he fun a he => ?_
        refine eq rfl rfl rfl he fun a he => ?_
        refine en ?_
        refine cnd he rfl (fun h10 => ?_) (fun h10 => ?_)
        · replace h10 : (sizeN (at0 l 0)) = 4 := by omega
          refine rg ?_
          refine mv rfl rfl he fun a he => ?_
          refine su (((((x2.toNat : Nat) : Int) - 192) - 224) - 240) rfl rfl (w32 (by omega) (by omega)) rfl he fun a he => ?_
          refine asg rfl rfl he fun a he => ?_
          refine en ?_
          refine sq ?_
          refine sq ?_
          refine rg ?_
          refine asg rfl rfl he fun a he => ?_
          refine en ?_
          refine bk ?_
          have hoff : ((((((x2.toNat : Nat) : Int) - 192) - 224) - 240) : Int) = (at0 l 0 : Int) - oneOff (sizeN (at0 l 0)) := by unfold oneOff; first | (rw [if_pos (by omega)]; omega) | (rw [if_neg (by omega), if_pos (by omega)]; omega) | (rw [if_neg (by omega), if_neg (by omega), if_pos (by omega)]; omega) | (rw [if_neg (by omega), if_neg (by omega), if_neg (by omega)]; omega)
          refine lp (fun (s : Nat × Int) a w => match s with | (i, c) => Env 51 [(0, .slice A_l l.length c_l), (2, .int .i32 0), (3, .int .i64 0), (4, .int .i64 ((sizeN (at0 l 0) : Nat) : Int)), (5, .int .i32 c), (6, .int .i64 ((i : Nat) : Int))] a ∧ Hp I (L) w ∧ (1 ≤ i ∧ i ≤ 4) ∧ i ≤ sizeN (at0 l 0) ∧ ((i = 1 → -255 ≤ c ∧ c ≤ 255) ∧ (i = 2 → -17000 ≤ c ∧ c ≤ 17000) ∧ (i = 3 → -1100000 ≤ c ∧ c ≤ 1100000) ∧ (i = 4 → -71000000 ≤ c ∧ c ≤ 71000000)) ∧ (((Utf8.decode ⟨l.toArray⟩ 0).1 : Nat) : Int) = oneC l (sizeN (at0 l 0) - i) i c)
              (fun s => 4 - s.1) (1, (((((x2.toNat : Nat) : Int) - 192) - 224) - 240)) ⟨he.keep [0, 2, 3, 4, 5, 6] rfl, hh, by omega, by omega, by omega, by rw [hoff]; exact (one_good hne h18).2⟩ fun s a W hinv => ?_
          obtain ⟨i, c⟩ := s
          obtain ⟨he, hh, hi, hin, hB, hr⟩ := hinv
          refine sq ?_
          refine sq ?_
          refine rg ?_
          refine mv rfl rfl he fun a he => ?_
          refine mv rfl rfl he fun a he => ?_
          refine lt rfl rfl rfl he fun a he => ?_
          refine en ?_
          refine cnd he rfl (fun h11 => ?_) (fun h11 => ?_)
          · replace h11 : i < (sizeN (at0 l 0)) := by omega
            refine sk ?_
            refine nm_then ?_
            refine sq ?_
            refine bk ?_
            have hcs0 : i = 1 ∨ i = 2 ∨ i = 3 := by omega
            refine rg ?_
            refine mv rfl rfl he fun a he => ?_
            refine mu (c * 64) rfl rfl (w32 (by rcases hcs0 with q | q | q <;> omega) rfl) rfl he fun a he => ?_
            refine mv rfl rfl he fun a he => ?_
            refine mv rfl rfl he fun a he => ?_
            obtain ⟨y, hy⟩ := idx_some (xs := l) (i := i) (by have := goodN_le l; omega)
            refine ia1 (xs := l) (i) ts_22 rfl rfl (h_l.rd hh) hy rfl he fun bb12 oo13 a hc14 he => ?_
            refine ld rb_5 rfl hc14 rfl he fun a he => ?_
            have e1 : at0 l i = y.toNat := at0_some hy
            have hlt3 := y.toNat_lt
            refine ci ((y.toNat : Nat) : Int) .i32 ud_5 Try.underlying21 rfl (w32 (by omega) (by omega)) rfl he fun a he => ?_
            refine ad ((c * 64) + ((y.toNat : Nat) : Int)) rfl rfl (w32 (by rcases hcs0 with q | q | q <;> omega) rfl) rfl he fun a he => ?_
            refine su (((c * 64) + ((y.toNat : Nat) : Int)) - 128) rfl rfl (w32 (by rcases hcs0 with q | q | q <;> omega) rfl) rfl he fun a he => ?_
            refine asg rfl rfl he fun a he => ?_
            refine en_blk ?_
            refine nm_then ?_
            refine rg ?_
            refine mv rfl rfl he fun a he => ?_
            refine ad (((i + 1) : Nat) : Int) rfl rfl (w64 (by omega) (by omega)) rfl he fun a he => ?_
            refine asg rfl rfl he fun a he => ?_
            refine en ?_
            have hcs : i = 1 ∨ i = 2 ∨ i = 3 := by omega
            exact ⟨(i + 1, c * 64 + (y.toNat : Int) - 128), ⟨he.keep [0, 2, 3, 4, 5, 6] rfl, hh, by omega, by omega, by rcases hcs with q | q | q <;> omega, by rw [← e1]; exact oneC_step hr (by omega)⟩, by show 4 - (i + 1) < 4 - i; omega⟩
          · replace h11 : ¬ (i < (sizeN (at0 l 0))) := by omega
            refine ext ?_
            refine ex_then ?_
            refine ex_then ?_
            refine ex_in ?_
            refine nm_then ?_
            refine sq ?_
            refine rg ?_
            refine mv rfl rfl he fun a he => ?_
            refine mv rfl rfl he fun a he => ?_
            refine asg rfl rfl he fun a he => ?_
            refine asg rfl rfl he fun a he => ?_
            refine en ?_
            refine rt ?_
            refine rets2 Try.results50 he rfl rfl (Ret.mk ?_)
            have hend := oneC_end hr (by omega)
            have hg2 := (one_good hne h18).1
            exact ⟨by rw [hend, hg2], hh⟩
        · replace h10 : ¬ ((sizeN (at0 l 0)) = 4) := by omega
          refine sk ?_
          refine nm_then ?_
          refine sq ?_
          refine sq ?_
          refine rg ?_
          refine asg rfl rfl he fun a he => ?_
          refine en ?_
          refine bk ?_
          have hoff : (((((x2.toNat : Nat) : Int) - 192) - 224) : Int) = (at0 l 0 : Int) - oneOff (sizeN (at0 l 0)) := by unfold oneOff; first | (rw [if_pos (by omega)]; omega) | (rw [if_neg (by omega), if_pos (by omega)]; omega) | (rw [if_neg (by omega), if_neg (by omega), if_pos (by omega)]; omega) | (rw [if_neg (by omega), if_neg (by omega), if_neg (by omega)]; omega)
          refine lp (fun (s : Nat × Int) a w => match s with | (i, c) => Env 51 [(0, .slice A_l l.length c_l), (2, .int .i32 0), (3, .int .i64 0), (4, .int .i64 ((sizeN (at0 l 0) : Nat) : Int)), (5, .int .i32 c), (6, .int .i64 ((i : Nat) : Int))] a ∧ Hp I (L) w ∧ (1 ≤ i ∧ i ≤ 4) ∧ i ≤ sizeN (at0 l 0) ∧ ((i = 1 → -255 ≤ c ∧ c ≤ 255) ∧ (i = 2 → -17000 ≤ c ∧ c ≤ 17000) ∧ (i = 3 → -1100000 ≤ c ∧ c ≤ 1100000) ∧ (i = 4 → -71000000 ≤ c ∧ c ≤ 71000000)) ∧ (((Utf8.decode ⟨l.toArray⟩ 0).1 : Nat) : Int) = oneC l (sizeN (at0 l 0) - i) i c)
              (fun s => 4 - s.1) (1, ((((x2.toNat : Nat) : Int) - 192) - 224)) ⟨he.keep [0, 2, 3, 4, 5, 6] rfl, hh, by omega, by omega, by omega, by rw [hoff]; exact (one_good hne h18).2⟩ fun s a W hinv => ?_
          obtain ⟨i, c⟩ := s
          obtain ⟨he, hh, hi, hin, hB, hr⟩ := hinv
          refine sq ?_
          refine sq ?_
          refine rg ?_
          refine mv rfl rfl he fun a he => ?_
          refine mv rfl rfl he fun a he => ?_
          refine lt rfl rfl rfl he fun a he => ?_
          refine en ?_
          refine cnd he rfl (fun h15 => ?_) (fun h15 => ?_)
          · replace h15 : i < (sizeN (at0 l 0)) := by omega
            refine sk ?_
            refine nm_then ?_
            refine sq ?_
            refine bk ?_
            have hcs0 : i = 1 ∨ i = 2 ∨ i = 3 := by omega
            refine rg ?_
            refine mv rfl rfl he fun a he => ?_
            refine mu (c * 64) rfl rfl (w32 (by rcases hcs0 with q | q | q <;> omega) rfl) rfl he fun a he => ?_
            refine mv rfl rfl he fun a he => ?_
            refine mv rfl rfl he fun a he => ?_
            obtain ⟨y, hy⟩ := idx_some (xs := l) (i := i) (by have := goodN_le l; omega)
            refine ia1 (xs := l) (i) ts_22 rfl rfl (h_l.rd hh) hy rfl he fun bb16 oo17 a hc18 he => ?_
            refine ld rb_5 rfl hc18 rfl he fun a he => ?_
            have e1 : at0 l i = y.toNat := at0_some hy
            have hlt3 := y.toNat_lt
            refine ci ((y.toNat : Nat) : Int) .i32 ud_5 Try.underlying21 rfl (w32 (by omega) (by omega)) rfl he fun a he => ?_
            refine ad ((c * 64) + ((y.toNat : Nat) : Int)) rfl rfl (w32 (by rcases hcs0 with q | q | q <;> omega) rfl) rfl he fun a he => ?_
            refine su (((c * 64) + ((y.toNat : Nat) : Int)) - 128) rfl rfl (w32 (by rcases hcs0 with q | q | q <;> omega) rfl) rfl he fun a he => ?_
            refine asg rfl rfl he fun a he => ?_
            refine en_blk ?_
            refine nm_then ?_
            refine rg ?_
            refine mv rfl rfl he fun a he => ?_
            refine ad (((i + 1) : Nat) : Int) rfl rfl (w64 (by omega) (by omega)) rfl he fun a he => ?_
            refine asg rfl rfl he fun a he => ?_
            refine en ?_
            have hcs : i = 1 ∨ i = 2 ∨ i = 3 := by omega
            exact ⟨(i + 1, c * 64 + (y.toNat : Int) - 128), ⟨he.keep [0, 2, 3, 4, 5, 6] rfl, hh, by omega, by omega, by rcases hcs with q | q | q <;> omega, by rw [← e1]; exact oneC_step hr (by omega)⟩, by show 4 - (i + 1) < 4 - i; omega⟩
          · replace h15 : ¬ (i < (sizeN (at0 l 0))) := by omega
            refine ext ?_
            refine ex_then ?_
            refine ex_then ?_
            refine ex_in ?_
            refine nm_then ?_
            refine sq ?_
            refine rg ?_
            refine mv rfl rfl he fun a he => ?_
            refine mv rfl rfl he fun a he => ?_
            refine asg rfl rfl he fun a he => ?_
            refine asg rfl rfl he fun a he => ?_
            refine en ?_
            refine rt ?_
            refine rets2 Try.results50 he rfl rfl (Ret.mk ?_)
            have hend := oneC_end hr (by omega)
            have hg2 := (one_good hne h18).1
            exact ⟨by rw [hend, hg2], hh⟩
      · replace h9 : ¬ ((sizeN (at0 l 0)) = 3) := by omega
        refine sk ?_
        refine nm_then ?_
        refine sq ?_
        refine sq ?_
        refine rg ?_
        refine mv rfl rfl he fun a he => ?_
        refine eq rfl rfl rfl he fun a he => ?_
        refine en ?_
        refine cnd he rfl (fun h19 => ?_) (fun h19 => ?_)
        · replace h19 : (sizeN (at0 l 0)) = 4 := by omega
          refine rg ?_
          refine mv rfl rfl he fun a he => ?_
          refine su ((((x2.toNat : Nat) : Int) - 192) - 240) rfl rfl (w32 (by omega) (by omega)) rfl he fun a he => ?_
          refine asg rfl rfl he fun a he => ?_
          refine en ?_
          refine sq ?_
          refine sq ?_
          refine rg ?_
          refine asg rfl rfl he fun a he => ?_
          refine en ?_
          refine bk ?_
          have hoff : (((((x2.toNat : Nat) : Int) - 192) - 240) : Int) = (at0 l 0 : Int) - oneOff (sizeN (at0 l 0)) := by unfold oneOff; first | (rw [if_pos (by omega)]; omega) | (rw [if_neg (by omega), if_pos (by omega)]; omega) | (rw [if_neg (by omega), if_neg (by omega), if_pos (by omega)]; omega) | (rw [if_neg (by omega), if_neg (by omega), if_neg (by omega)]; omega)
          refine lp (fun (s : Nat × Int) a w => match s with | (i, c) => Env 51 [(0, .slice A_l l.length c_l), (2, .int .i32 0), (3, .int .i64 0), (4, .int .i64 ((sizeN (at0 l 0) : Nat) : Int)), (5, .int .i32 c), (6, .int .i64 ((i : Nat) : Int))] a ∧ Hp I (L) w ∧ (1 ≤ i ∧ i ≤ 4) ∧ i ≤ sizeN (at0 l 0) ∧ ((i = 1 → -255 ≤ c ∧ c ≤ 255) ∧ (i = 2 → -17000 ≤ c ∧ c ≤ 17000) ∧ (i = 3 → -1100000 ≤ c ∧ c ≤ 1100000) ∧ (i = 4 → -71000000 ≤ c ∧ c ≤ 71000000)) ∧ (((Utf8.decode ⟨l.toArray⟩ 0).1 : Nat) : Int) = oneC l (sizeN (at0 l 0) - i) i c)
              (fun s => 4 - s.1) (1, ((((x2.toNat : Nat) : Int) - 192) - 240)) ⟨he.keep [0, 2, 3, 4, 5, 6] rfl, hh, by omega, by omega, by omega, by rw [hoff]; exact (one_good hne h18).2⟩ fun s a W hinv => ?_
          obtain ⟨i, c⟩ := s
          obtain ⟨he, hh, hi, hin, hB, hr⟩ := hinv
          refine sq ?_
          refine sq ?_
          refine rg ?_
          refine mv rfl rfl he fun a he => ?_
          refine mv rfl rfl he fun a he => ?_
          refine lt rfl rfl rfl he fun a he => ?_
          refine en ?_
          refine cnd he rfl (fun h20 => ?_) (fun h20 => ?_)
          · replace h20 : i < (sizeN (at0 l 0)) := by omega
            refine sk ?_
            refine nm_then ?_
            refine sq ?_
            refine bk ?_
            have hcs0 : i = 1 ∨ i = 2 ∨ i = 3 := by omega
            refine rg ?_
            refine mv rfl rfl he fun a he => ?_
            refine mu (c * 64) rfl rfl (w32 (by rcases hcs0 with q | q | q <;> omega) rfl) rfl he fun a he => ?_
            refine mv rfl rfl he fun a he => ?_
            refine mv rfl rfl he fun a he => ?_
            obtain ⟨y, hy⟩ := idx_some (xs := l) (i := i) (by have := goodN_le l; omega)
            refine ia1 (xs := l) (i) ts_22 rfl rfl (h_l.rd hh) hy rfl he fun bb21 oo22 a hc23 he => ?_
            refine ld rb_5 rfl hc23 rfl he fun a he => ?_
            have e1 : at0 l i = y.toNat := at0_some hy
            have hlt3 := y.toNat_lt
            refine ci ((y.toNat : Nat) : Int) .i32 ud_5 Try.underlying21 rfl (w32 (by omega) (by omega)) rfl he fun a he => ?_
            refine ad ((c * 64) + ((y.toNat : Nat) : Int)) rfl rfl (w32 (by rcases hcs0 with q | q | q <;> omega) rfl) rfl he fun a he => ?_
            refine su (((c * 64) + ((y.toNat : Nat) : Int)) - 128) rfl rfl (w32 (by rcases hcs0 with q | q | q <;> omega) rfl) rfl he fun a he => ?_
            refine asg rfl rfl he fun a he => ?_
            refine en_blk ?_
            refine nm_then ?_
            refine rg ?_
            refine mv rfl rfl he fun a he => ?_
            refine ad (((i + 1) : Nat) : Int) rfl rfl (w64 (by omega) (by omega)) rfl he fun a he => ?_
            refine asg rfl rfl he fun a he => ?_
            refine en ?_
            have hcs : i = 1 ∨ i = 2 ∨ i = 3 := by omega
            exact ⟨(i + 1, c * 64 + (y.toNat : Int) - 128), ⟨he.keep [0, 2, 3, 4, 5, 6] rfl, hh, by omega, by omega, by rcases hcs with q | q | q <;> omega, by rw [← e1]; exact oneC_step hr (by omega)⟩, by show 4 - (i + 1) < 4 - i; omega⟩
          · replace h20 : ¬ (i < (sizeN (at0 l 0))) := by omega
            refine ext ?_
            refine ex_then ?_
            refine ex_then ?_
            refine ex_in ?_
            refine nm_then ?_
            refine sq ?_
            refine rg ?_
            refine mv rfl rfl he fun a he => ?_
            refine mv rfl rfl he fun a he => ?_
            refine asg rfl rfl he fun a he => ?_
            refine asg rfl rfl he fun a he => ?_
            refine en ?_
            refine rt ?_
            refine rets2 Try.results50 he rfl rfl (Ret.mk ?_)
            have hend := oneC_end hr (by omega)
            have hg2 := (one_good hne h18).1
            exact ⟨by rw [hend, hg2], hh⟩
        · replace h19 : ¬ ((sizeN (at0 l 0)) = 4) := by omega
          refine sk ?_
          refine nm_then ?_
          refine sq ?_
          refine sq ?_
          refine rg ?_
          refine asg rfl rfl he fun a he => ?_
          refine en ?_
          refine bk ?_
          have hoff : ((((x2.toNat : Nat) : Int) - 192) : Int) = (at0 l 0 : Int) - oneOff (sizeN (at0 l 0)) := by unfold oneOff; first | (rw [if_pos (by omega)]; omega) | (rw [if_neg (by omega), if_pos (by omega)]; omega) | (rw [if_neg (by omega), if_neg (by omega), if_pos (by omega)]; omega) | (rw [if_neg (by omega), if_neg (by omega), if_neg (by omega)]; omega)
          refine lp (fun (s : Nat × Int) a w => match s with | (i, c) => Env 51 [(0, .slice A_l l.length c_l), (2, .int .i32 0), (3, .int .i64 0), (4, .int .i64 ((sizeN (at0 l 0) : Nat) : Int)), (5, .int .i32 c), (6, .int .i64 ((i : Nat) : Int))] a ∧ Hp I (L) w ∧ (1 ≤ i ∧ i ≤ 4) ∧ i ≤ sizeN (at0 l 0) ∧ ((i = 1 → -255 ≤ c ∧ c ≤ 255) ∧ (i = 2 → -17000 ≤ c ∧ c ≤ 17000) ∧ (i = 3 → -1100000 ≤ c ∧ c ≤ 1100000) ∧ (i = 4 → -71000000 ≤ c ∧ c ≤ 71000000)) ∧ (((Utf8.decode ⟨l.toArray⟩ 0).1 : Nat) : Int) = oneC l (sizeN (at0 l 0) - i) i c)
              (fun s => 4 - s.1) (1, (((x2.toNat : Nat) : Int) - 192)) ⟨he.keep [0, 2, 3, 4, 5, 6] rfl, hh, by omega, by omega, by omega, by rw [hoff]; exact (one_good hne h18).2⟩ fun s a W hinv => ?_
          obtain ⟨i, c⟩ := s
          obtain ⟨he, hh, hi, hin, hB, hr⟩ := hinv
          refine sq ?_
          refine sq ?_
          refine rg ?_
          refine mv rfl rfl he fun a he => ?_
          refine mv rfl rfl he fun a he => ?_
          refine lt rfl rfl rfl he fun a he => ?_
          refine en ?_
          refine cnd he rfl (fun h24 => ?_) (fun h24 => ?_)
          · replace h24 : i < (sizeN (at0 l 0)) := by omega
            refine sk ?_
            refine nm_then ?_
            refine sq ?_
            refine bk ?_
            have hcs0 : i = 1 ∨ i = 2 ∨ i = 3 := by omega
            refine rg ?_
            refine mv rfl rfl he fun a he => ?_
            refine mu (c * 64) rfl rfl (w32 (by rcases hcs0 with q | q | q <;> omega) rfl) rfl he fun a he => ?_
            refine mv rfl rfl he fun a he => ?_
            refine mv rfl rfl he fun a he => ?_
            obtain ⟨y, hy⟩ := idx_some (xs := l) (i := i) (by have := goodN_le l; omega)
            refine ia1 (xs := l) (i) ts_22 rfl rfl (h_l.rd hh) hy rfl he fun bb25 oo26 a hc27 he => ?_
            refine ld rb_5 rfl hc27 rfl he fun a he => ?_
            have e1 : at0 l i = y.toNat := at0_some hy
            have hlt3 := y.toNat_lt
            refine ci ((y.toNat : Nat) : Int) .i32 ud_5 Try.underlying21 rfl (w32 (by omega) (by omega)) rfl he fun a he => ?_
            refine ad ((c * 64) + ((y.toNat : Nat) : Int)) rfl rfl (w32 (by rcases hcs0 with q | q | q <;> omega) rfl) rfl he fun a he => ?_
            refine su (((c * 64) + ((y.toNat : Nat) : Int)) - 128) rfl rfl (w32 (by rcases hcs0 with q | q | q <;> omega) rfl) rfl he fun a he => ?_
            refine asg rfl rfl he fun a he => ?_
            refine en_blk ?_
            refine nm_then ?_
            refine rg ?_
            refine mv rfl rfl he fun a he => ?_
            refine ad (((i + 1) : Nat) : Int) rfl rfl (w64 (by omega) (by omega)) rfl he fun a he => ?_
            refine asg rfl rfl he fun a he => ?_
            refine en ?_
            have hcs : i = 1 ∨ i = 2 ∨ i = 3 := by omega
            exact ⟨(i + 1, c * 64 + (y.toNat : Int) - 128), ⟨he.keep [0, 2, 3, 4, 5, 6] rfl, hh, by omega, by omega, by rcases hcs with q | q | q <;> omega, by rw [← e1]; exact oneC_step hr (by omega)⟩, by show 4 - (i + 1) < 4 - i; omega⟩
          · replace h24 : ¬ (i < (sizeN (at0 l 0))) := by omega
            refine ext ?_
            refine ex_then ?_
            refine ex_then ?_
            refine ex_in ?_
            refine nm_then ?_
            refine sq ?_
            refine rg ?_
            refine mv rfl rfl he fun a he => ?_
            refine mv rfl rfl he fun a he => ?_
            refine asg rfl rfl he fun a he => ?_
            refine asg rfl rfl he fun a he => ?_
            refine en ?_
            refine rt ?_
            refine rets2 Try.results50 he rfl rfl (Ret.mk ?_)
            have hend := oneC_end hr (by omega)
            have hg2 := (one_good hne h18).1
            exact ⟨by rw [hend, hg2], hh⟩
    · replace h8 : ¬ ((sizeN (at0 l 0)) = 2) := by omega
      refine sk ?_
      refine nm_then ?_
      refine sq ?_
      refine sq ?_
      refine rg ?_
      refine mv rfl rfl he fun a he => ?_
      refine eq rfl rfl rfl he fun a he => ?_
      refine en ?_
      refine cnd he rfl (fun h28 => ?_) (fun h28 => ?_)
      · replace h28 : (sizeN (at0 l 0)) = 3 := by omega
        refine rg ?_
        refine mv rfl rfl he fun a he => ?_
        refine su (((x2.toNat : Nat) : Int) - 224) rfl rfl (w32 (by omega) (by omega)) rfl he fun a he => ?_
        refine asg rfl rfl he fun a he => ?_
        refine en ?_
        refine sq ?_
        refine sq ?_
        refine rg ?_
        refine mv rfl rfl he fun a he => ?_
        refine eq rfl rfl rfl he fun a he => ?_
        refine en ?_
        refine cnd he rfl (fun h29 => ?_) (fun h29 => ?_)
        · replace h29 : (sizeN (at0 l 0)) = 4 := by omega
          refine rg ?_
          refine mv rfl rfl he fun a he => ?_
          refine su ((((x2.toNat : Nat) : Int) - 224) - 240) rfl rfl (w32 (by omega) (by omega)) rfl he fun a he => ?_
          refine asg rfl rfl he fun a he => ?_
          refine en ?_
          refine sq ?_
          refine sq ?_
          refine rg ?_
          refine asg rfl rfl he fun a he => ?_
          refine en ?_
          refine bk ?_
          have hoff : (((((x2.toNat : Nat) : Int) - 224) - 240) : Int) = (at0 l 0 : Int) - oneOff (sizeN (at0 l 0)) := by unfold oneOff; first | (rw [if_pos (by omega)]; omega) | (rw [if_neg (by omega), if_pos (by omega)]; omega) | (rw [if_neg (by omega), if_neg (by omega), if_pos (by omega)]; omega) | (rw [if_neg (by omega), if_neg (by omega), if_neg (by omega)]; omega)
          refine lp (fun (s : Nat × Int) a w => match s with | (i, c) => Env 51 [(0, .slice A_l l.length c_l), (2, .int .i32 0), (3, .int .i64 0), (4, .int .i64 ((sizeN (at0 l 0) : Nat) : Int)), (5, .int .i32 c), (6, .int .i64 ((i : Nat) : Int))] a ∧ Hp I (L) w ∧ (1 ≤ i ∧ i ≤ 4) ∧ i ≤ sizeN (at0 l 0) ∧ ((i = 1 → -255 ≤ c ∧ c ≤ 255) ∧ (i = 2 → -17000 ≤ c ∧ c ≤ 17000) ∧ (i = 3 → -1100000 ≤ c ∧ c ≤ 1100000) ∧ (i = 4 → -71000000 ≤ c ∧ c ≤ 71000000)) ∧ (((Utf8.decode ⟨l.toArray⟩ 0).1 : Nat) : Int) = oneC l (sizeN (at0 l 0) - i) i c)
              (fun s => 4 - s.1) (1, ((((x2.toNat : Nat) : Int) - 224) - 240)) ⟨he.keep [0, 2, 3, 4, 5, 6] rfl, hh, by omega, by omega, by omega, by rw [hoff]; exact (one_good hne h18).2⟩ fun s a W hinv => ?_
          obtain ⟨i, c⟩ := s
          obtain ⟨he, hh, hi, hin, hB, hr⟩ := hinv
          refine sq ?_
          refine sq ?_
          refine rg ?_
          refine mv rfl rfl he fun a he => ?_
          refine mv rfl rfl he fun a he => ?_
          refine lt rfl rfl rfl he fun a he => ?_
          refine en ?_
          refine cnd he rfl (fun h30 => ?_) (fun h30 => ?_)
          · replace h30 : i < (sizeN (at0 l 0)) := by omega
            refine sk ?_
            refine nm_then ?_
            refine sq ?_
            refine bk ?_
            have hcs0 : i = 1 ∨ i = 2 ∨ i = 3 := by omega
            refine rg ?_
            refine mv rfl rfl he fun a he => ?_
            refine mu (c * 64) rfl rfl (w32 (by rcases hcs0 with q | q | q <;> omega) rfl) rfl he fun a he => ?_
            refine mv rfl rfl he fun a he => ?_
            refine mv rfl rfl he fun a he => ?_
            obtain ⟨y, hy⟩ := idx_some (xs := l) (i := i) (by have := goodN_le l; omega)
            refine ia1 (xs := l) (i) ts_22 rfl rfl (h_l.rd hh) hy rfl he fun bb31 oo32 a hc33 he => ?_
            refine ld rb_5 rfl hc33 rfl he fun a he => ?_
            have e1 : at0 l i = y.toNat := at0_some hy
            have hlt3 := y.toNat_lt
            refine ci ((y.toNat : Nat) : Int) .i32 ud_5 Try.underlying21 rfl (w32 (by omega) (by omega)) rfl he fun a he => ?_
            refine ad ((c * 64) + ((y.toNat : Nat) : Int)) rfl rfl (w32 (by rcases hcs0 with q | q | q <;> omega) rfl) rfl he fun a he => ?_
            refine su (((c * 64) + ((y.toNat : Nat) : Int)) - 128) rfl rfl (w32 (by rcases hcs0 with q | q | q <;> omega) rfl) rfl he fun a he => ?_
            refine asg rfl rfl he fun a he => ?_
            refine en_blk ?_
            refine nm_then ?_
            refine rg ?_
            refine mv rfl rfl he fun a he => ?_
            refine ad (((i + 1) : Nat) : Int) rfl rfl (w64 (by omega) (by omega)) rfl he fun a he => ?_
            refine asg rfl rfl he fun a he => ?_
            refine en ?_
            have hcs : i = 1 ∨ i = 2 ∨ i = 3 := by omega
            exact ⟨(i + 1, c * 64 + (y.toNat : Int) - 128), ⟨he.keep [0, 2, 3, 4, 5, 6] rfl, hh, by omega, by omega, by rcases hcs with q | q | q <;> omega, by rw [← e1]; exact oneC_step hr (by omega)⟩, by show 4 - (i + 1) < 4 - i; omega⟩
          · replace h30 : ¬ (i < (sizeN (at0 l 0))) := by omega
            refine ext ?_
            refine ex_then ?_
            refine ex_then ?_
            refine ex_in ?_
            refine nm_then ?_
            refine sq ?_
            refine rg ?_
            refine mv rfl rfl he fun a he => ?_
            refine mv rfl rfl he fun a he => ?_
            refine asg rfl rfl he fun a he => ?_
            refine asg rfl rfl he fun a he => ?_
            refine en ?_
            refine rt ?_
            refine rets2 Try.results50 he rfl rfl (Ret.mk ?_)
            have hend := oneC_end hr (by omega)
            have hg2 := (one_good hne h18).1
            exact ⟨by rw [hend, hg2], hh⟩
        · replace h29 : ¬ ((sizeN (at0 l 0)) = 4) := by omega
          refine sk ?_
          refine nm_then ?_
          refine sq ?_
          refine sq ?_
          refine rg ?_
          refine asg rfl rfl he fun a he => ?_
          refine en ?_
          refine bk ?_
          have hoff : ((((x2.toNat : Nat) : Int) - 224) : Int) = (at0 l 0 : Int) - oneOff (sizeN (at0 l 0)) := by unfold oneOff; first | (rw [if_pos (by omega)]; omega) | (rw [if_neg (by omega), if_pos (by omega)]; omega) | (rw [if_neg (by omega), if_neg (by omega), if_pos (by omega)]; omega) | (rw [if_neg (by omega), if_neg (by omega), if_neg (by omega)]; omega)
          refine lp (fun (s : Nat × Int) a w => match s with | (i, c) => Env 51 [(0, .slice A_l l.length c_l), (2, .int .i32 0), (3, .int .i64 0), (4, .int .i64 ((sizeN (at0 l 0) : Nat) : Int)), (5, .int .i32 c), (6, .int .i64 ((i : Nat) : Int))] a ∧ Hp I (L) w ∧ (1 ≤ i ∧ i ≤ 4) ∧ i ≤ sizeN (at0 l 0) ∧ ((i = 1 → -255 ≤ c ∧ c ≤ 255) ∧ (i = 2 → -17000 ≤ c ∧ c ≤ 17000) ∧ (i = 3 → -1100000 ≤ c ∧ c ≤ 1100000) ∧ (i = 4 → -71000000 ≤ c ∧ c ≤ 71000000)) ∧ (((Utf8.decode ⟨l.toArray⟩ 0).1 : Nat) : Int) = oneC l (sizeN (at0 l 0) - i) i c)
              (fun s => 4 - s.1) (1, (((x2.toNat : Nat) : Int) - 224)) ⟨he.keep [0, 2, 3, 4, 5, 6] rfl, hh, by omega, by omega, by omega, by rw [hoff]; exact (one_good hne h18).2⟩ fun s a W hinv => ?_
          obtain ⟨i, c⟩ := s
          obtain ⟨he, hh, hi, hin, hB, hr⟩ := hinv
          refine sq ?_
          refine sq ?_
          refine rg ?_
          refine mv rfl rfl he fun a he => ?_
          refine mv rfl rfl he fun a he => ?_
          refine lt rfl rfl rfl he fun a he => ?_
          refine en ?_
          refine cnd he rfl (fun h34 => ?_) (fun h34 => ?_)
          · replace h34 : i < (sizeN (at0 l 0)) := by omega
            refine sk ?_
            refine nm_then ?_
            refine sq ?_
            refine bk ?_
            have hcs0 : i = 1 ∨ i = 2 ∨ i = 3 := by omega
            refine rg ?_
            refine mv rfl rfl he fun a he => ?_
            refine mu (c * 64) rfl rfl (w32 (by rcases hcs0 with q | q | q <;> omega) rfl) rfl he fun a he => ?_
            refine mv rfl rfl he fun a he => ?_
            refine mv rfl rfl he fun a he => ?_
            obtain ⟨y, hy⟩ := idx_some (xs := l) (i := i) (by have := goodN_le l; omega)
            refine ia1 (xs := l) (i) ts_22 rfl rfl (h_l.rd hh) hy rfl he fun bb35 oo36 a hc37 he => ?_
            refine ld rb_5 rfl hc37 rfl he fun a he => ?_
            have e1 : at0 l i = y.toNat := at0_some hy
            have hlt3 := y.toNat_lt
            refine ci ((y.toNat : Nat) : Int) .i32 ud_5 Try.underlying21 rfl (w32 (by omega) (by omega)) rfl he fun a he => ?_
            refine ad ((c * 64) + ((y.toNat : Nat) : Int)) rfl rfl (w32 (by rcases hcs0 with q | q | q <;> omega) rfl) rfl he fun a he => ?_
            refine su (((c * 64) + ((y.toNat : Nat) : Int)) - 128) rfl rfl (w32 (by rcases hcs0 with q | q | q <;> omega) rfl) rfl he fun a he => ?_
            refine asg rfl rfl he fun a he => ?_
            refine en_blk ?_
            refine nm_then ?_
            refine rg ?_
            refine mv rfl rfl he fun a he => ?_
            refine ad (((i + 1) : Nat) : Int) rfl rfl (w64 (by omega) (by omega)) rfl he fun a he => ?_
            refine asg rfl rfl he fun a he => ?_
            refine en ?_
            have hcs : i = 1 ∨ i = 2 ∨ i = 3 := by omega
            exact ⟨(i + 1, c * 64 + (y.toNat : Int) - 128), ⟨he.keep [0, 2, 3, 4, 5, 6] rfl, hh, by omega, by omega, by rcases hcs with q | q | q <;> omega, by rw [← e1]; exact oneC_step hr (by omega)⟩, by show 4 - (i + 1) < 4 - i; omega⟩
          · replace h34 : ¬ (i < (sizeN (at0 l 0))) := by omega
            refine ext ?_
            refine ex_then ?_
            refine ex_then ?_
            refine ex_in ?_
            refine nm_then ?_
            refine sq ?_
            refine rg ?_
            refine mv rfl rfl he fun a he => ?_
            refine mv rfl rfl he fun a he => ?_
            refine asg rfl rfl he fun a he => ?_
            refine asg rfl rfl he fun a he => ?_
            refine en ?_
            refine rt ?_
            refine rets2 Try.results50 he rfl rfl (Ret.mk ?_)
            have hend := oneC_end hr (by omega)
            have hg2 := (one_good hne h18).1
            exact ⟨by rw [hend, hg2], hh⟩
      · replace h28 : ¬ ((sizeN (at0 l 0)) = 3) := by omega
        refine sk ?_
        refine nm_then ?_
        refine sq ?_
        refine sq ?_
        refine rg ?_
        refine mv rfl rfl he fun a he => ?_
        refine eq rfl rfl rfl he fun a he => ?_
        refine en ?_
        refine cnd he rfl (fun h38 => ?_) (fun h38 => ?_)
        · replace h38 : (sizeN (at0 l 0)) = 4 := by omega
          refine rg ?_
          refine mv rfl rfl he fun a he => ?_
          refine su (((x2.toNat : Nat) : Int) - 240) rfl rfl (w32 (by omega) (by omega)) rfl he fun a he => ?_
          refine asg rfl rfl he fun a he => ?_
          refine en ?_
          refine sq ?_
          refine sq ?_
          refine rg ?_
          refine asg rfl rfl he fun a he => ?_
          refine en ?_
          refine bk ?_
          have hoff : ((((x2.toNat : Nat) : Int) - 240) : Int) = (at0 l 0 : Int) - oneOff (sizeN (at0 l 0)) := by unfold oneOff; first | (rw [if_pos (by omega)]; omega) | (rw [if_neg (by omega), if_pos (by omega)]; omega) | (rw [if_neg (by omega), if_neg (by omega), if_pos (by omega)]; omega) | (rw [if_neg (by omega), if_neg (by omega), if_neg (by omega)]; omega)
          refine lp (fun (s : Nat × Int) a w => match s with | (i, c) => Env 51 [(0, .slice A_l l.length c_l), (2, .int .i32 0), (3, .int .i64 0), (4, .int .i64 ((sizeN (at0 l 0) : Nat) : Int)), (5, .int .i32 c), (6, .int .i64 ((i : Nat) : Int))] a ∧ Hp I (L) w ∧ (1 ≤ i ∧ i ≤ 4) ∧ i ≤ sizeN (at0 l 0) ∧ ((i = 1 → -255 ≤ c ∧ c ≤ 255) ∧ (i = 2 → -17000 ≤ c ∧ c ≤ 17000) ∧ (i = 3 → -1100000 ≤ c ∧ c ≤ 1100000) ∧ (i = 4 → -71000000 ≤ c ∧ c ≤ 71000000)) ∧ (((Utf8.decode ⟨l.toArray⟩ 0).1 : Nat) : Int) = oneC l (sizeN (at0 l 0) - i) i c)
              (fun s => 4 - s.1) (1, (((x2.toNat : Nat) : Int) - 240)) ⟨he.keep [0, 2, 3, 4, 5, 6] rfl, hh, by omega, by omega, by omega, by rw [hoff]; exact (one_good hne h18).2⟩ fun s a W hinv => ?_
          obtain ⟨i, c⟩ := s
          obtain ⟨he, hh, hi, hin, hB, hr⟩ := hinv
          refine sq ?_
          refine sq ?_
          refine rg ?_
          refine mv rfl rfl he fun a he => ?_
          refine mv rfl rfl he fun a he => ?_
          refine lt rfl rfl rfl he fun a he => ?_
          refine en ?_
          refine cnd he rfl (fun h39 => ?_) (fun h39 => ?_)
          · replace h39 : i < (sizeN (at0 l 0)) := by omega
            refine sk ?_
            refine nm_then ?_
            refine sq ?_
            refine bk ?_
            have hcs0 : i = 1 ∨ i = 2 ∨ i = 3 := by omega
            refine rg ?_
            refine mv rfl rfl he fun a he => ?_
            refine mu (c * 64) rfl rfl (w32 (by rcases hcs0 with q | q | q <;> omega) rfl) rfl he fun a he => ?_
            refine mv rfl rfl he fun a he => ?_
            refine mv rfl rfl he fun a he => ?_
            obtain ⟨y, hy⟩ := idx_some (xs := l) (i := i) (by have := goodN_le l; omega)
            refine ia1 (xs := l) (i) ts_22 rfl rfl (h_l.rd hh) hy rfl he fun bb40 oo41 a hc42 he => ?_
            refine ld rb_5 rfl hc42 rfl he fun a he => ?_
            have e1 : at0 l i = y.toNat := at0_some hy
            have hlt3 := y.toNat_lt
            refine ci ((y.toNat : Nat) : Int) .i32 ud_5 Try.underlying21 rfl (w32 (by omega) (by omega)) rfl he fun a he => ?_
            refine ad ((c * 64) + ((y.toNat : Nat) : Int)) rfl rfl (w32 (by rcases hcs0 with q | q | q <;> omega) rfl) rfl he fun a he => ?_
            refine su (((c * 64) + ((y.toNat : Nat) : Int)) - 128) rfl rfl (w32 (by rcases hcs0 with q | q | q <;> omega) rfl) rfl he fun a he => ?_
            refine asg rfl rfl he fun a he => ?_
            refine en_blk ?_
            refine nm_then ?_
            refine rg ?_
            refine mv rfl rfl he fun a he => ?_
            refine ad (((i + 1) : Nat) : Int) rfl rfl (w64 (by omega) (by omega)) rfl he fun a he => ?_
            refine asg rfl rfl he fun a he => ?_
            refine en ?_
            have hcs : i = 1 ∨ i = 2 ∨ i = 3 := by omega
            exact ⟨(i + 1, c * 64 + (y.toNat : Int) - 128), ⟨he.keep [0, 2, 3, 4, 5, 6] rfl, hh, by omega, by omega, by rcases hcs with q | q | q <;> omega, by rw [← e1]; exact oneC_step hr (by omega)⟩, by show 4 - (i + 1) < 4 - i; omega⟩
          · replace h39 : ¬ (i < (sizeN (at0 l 0))) := by omega
            refine ext ?_
            refine ex_then ?_
            refine ex_then ?_
            refine ex_in ?_
            refine nm_then ?_
            refine sq ?_
            refine rg ?_
            refine mv rfl rfl he fun a he => ?_
            refine mv rfl rfl he fun a he => ?_
            refine asg rfl rfl he fun a he => ?_
            refine asg rfl rfl he fun a he => ?_
            refine en ?_
            refine rt ?_
            refine rets2 Try.results50 he rfl rfl (Ret.mk ?_)
            have hend := oneC_end hr (by omega)
            have hg2 := (one_good hne h18).1
            exact ⟨by rw [hend, hg2], hh⟩
        · replace h38 : ¬ ((sizeN (at0 l 0)) = 4) := by omega
          refine sk ?_
          refine nm_then ?_
          refine sq ?_
          refine sq ?_
          refine rg ?_
          refine asg rfl rfl he fun a he => ?_
          refine en ?_
          refine bk ?_
          have hoff : (((x2.toNat : Nat) : Int) : Int) = (at0 l 0 : Int) - oneOff (sizeN (at0 l 0)) := by unfold oneOff; first | (rw [if_pos (by omega)]; omega) | (rw [if_neg (by omega), if_pos (by omega)]; omega) | (rw [if_neg (by omega), if_neg (by omega), if_pos (by omega)]; omega) | (rw [if_neg (by omega), if_neg (by omega), if_neg (by omega)]; omega)
          refine lp (fun (s : Nat × Int) a w => match s with | (i, c) => Env 51 [(0, .slice A_l l.length c_l), (2, .int .i32 0), (3, .int .i64 0), (4, .int .i64 ((sizeN (at0 l 0) : Nat) : Int)), (5, .int .i32 c), (6, .int .i64 ((i : Nat) : Int))] a ∧ Hp I (L) w ∧ (1 ≤ i ∧ i ≤ 4) ∧ i ≤ sizeN (at0 l 0) ∧ ((i = 1 → -255 ≤ c ∧ c ≤ 255) ∧ (i = 2 → -17000 ≤ c ∧ c ≤ 17000) ∧ (i = 3 → -1100000 ≤ c ∧ c ≤ 1100000) ∧ (i = 4 → -71000000 ≤ c ∧ c ≤ 71000000)) ∧ (((Utf8.decode ⟨l.toArray⟩ 0).1 : Nat) : Int) = oneC l (sizeN (at0 l 0) - i) i c)
              (fun s => 4 - s.1) (1, ((x2.toNat : Nat) : Int)) ⟨he.keep [0, 2, 3, 4, 5, 6] rfl, hh, by omega, by omega, by omega, by rw [hoff]; exact (one_good hne h18).2⟩ fun s a W hinv => ?_
          obtain ⟨i, c⟩ := s
          obtain ⟨he, hh, hi, hin, hB, hr⟩ := hinv
          refine sq ?_
          refine sq ?_
          refine rg ?_
          refine mv rfl rfl he fun a he => ?_
          refine mv rfl rfl he fun a he => ?_
          refine lt rfl rfl rfl he fun a he => ?_
          refine en ?_
          refine cnd he rfl (fun h43 => ?_) (fun h43 => ?_)
          · replace h43 : i < (sizeN (at0 l 0)) := by omega
            refine sk ?_
            refine nm_then ?_
            refine sq ?_
            refine bk ?_
            have hcs0 : i = 1 ∨ i = 2 ∨ i = 3 := by omega
            refine rg ?_
            refine mv rfl rfl he fun a he => ?_
            refine mu (c * 64) rfl rfl (w32 (by rcases hcs0 with q | q | q <;> omega) rfl) rfl he fun a he => ?_
            refine mv rfl rfl he fun a he => ?_
            refine mv rfl rfl he fun a he => ?_
            obtain ⟨y, hy⟩ := idx_some (xs := l) (i := i) (by have := goodN_le l; omega)
            refine ia1 (xs := l) (i) ts_22 rfl rfl (h_l.rd hh) hy rfl he fun bb44 oo45 a hc46 he => ?_
            refine ld rb_5 rfl hc46 rfl he fun a he => ?_
            have e1 : at0 l i = y.toNat := at0_some hy
            have hlt3 := y.toNat_lt
            refine ci ((y.toNat : Nat) : Int) .i32 ud_5 Try.underlying21 rfl (w32 (by omega) (by omega)) rfl he fun a he => ?_
            refine ad ((c * 64) + ((y.toNat : Nat) : Int)) rfl rfl (w32 (by rcases hcs0 with q | q | q <;> omega) rfl) rfl he fun a he => ?_
            refine su (((c * 64) + ((y.toNat : Nat) : Int)) - 128) rfl rfl (w32 (by rcases hcs0 with q | q | q <;> omega) rfl) rfl he fun a he => ?_
            refine asg rfl rfl he fun a he => ?_
            refine en_blk ?_
            refine nm_then ?_
            refine rg ?_
            refine mv rfl rfl he fun a he => ?_
            refine ad (((i + 1) : Nat) : Int) rfl rfl (w64 (by omega) (by omega)) rfl he fun a he => ?_
            refine asg rfl rfl he fun a he => ?_
            refine en ?_
            have hcs : i = 1 ∨ i = 2 ∨ i = 3 := by omega
            exact ⟨(i + 1, c * 64 + (y.toNat : Int) - 128), ⟨he.keep [0, 2, 3, 4, 5, 6] rfl, hh, by omega, by omega, by rcases hcs with q | q | q <;> omega, by rw [← e1]; exact oneC_step hr (by omega)⟩, by show 4 - (i + 1) < 4 - i; omega⟩
          · replace h43 : ¬ (i < (sizeN (at0 l 0))) := by omega
            refine ext ?_
            refine ex_then ?_
            refine ex_then ?_
            refine ex_in ?_
            refine nm_then ?_
            refine sq ?_
            refine rg ?_
            refine mv rfl rfl he fun a he => ?_
            refine mv rfl rfl he fun a he => ?_
            refine asg rfl rfl he fun a he => ?_
            refine asg rfl rfl he fun a he => ?_
            refine en ?_
            refine rt ?_
            refine rets2 Try.results50 he rfl rfl (Ret.mk ?_)
            have hend := oneC_end hr (by omega)
            have hg2 := (one_good hne h18).1
            exact ⟨by rw [hend, hg2], hh⟩

theorem ref04_All (I : Snap) (L : List Ch) (W : World) (A_l : Option Addr) (c_l : Nat) (l : List UInt8) (hh : Hp I L W) (h_l : Fz I A_l (l.map b8)) (k_l : l.length ≤ c_l) (hb : l.length ≤ 1000000000000) :
    Calls Try.prog 36 #[.slice A_l l.length c_l] W (Ret fun v W => ∃ (A1 : Option Addr) (c1 : Nat), v = .slice A1 (utfAll l).length c1 ∧ Hp I (.row A1 (utfAll l).length c1 21 1 ((utfAll l).map r32) :: L) W) := by
  refine enter Try.func36 rfl Try.ntmps36 rfl fun a he => ?_
  refine sq ?_
  refine rg ?_
  refine asg rfl rfl he fun a he => ?_
  refine en ?_
  refine sq ?_
  refine rg ?_
  refine asg rfl rfl he fun a he => ?_
  refine en ?_
  refine sq ?_
  refine rg ?_
  refine asg rfl rfl he fun a he => ?_
  refine en ?_
  refine sq ?_
  refine bk ?_
  replace hh := hh.nilrow 21 1
  refine lp (fun (s : Nat × List Int × Nat) a w => match s with | (p, pre, f) => ∃ (A_3 : Option Addr) (c_3 : Nat), Env 26 [(0, .slice A_l l.length c_l), (2, .slice none 0 0), (3, .slice A_3 pre.length c_3), (4, .int .i64 ((p : Nat) : Int))] a ∧ Hp I (.row A_3 pre.length c_3 21 1 (pre.map r32) :: L) w ∧ pre ++ runesAt ⟨l.toArray⟩ f p = utfAll l ∧ (⟨l.toArray⟩ : ByteArray).size ≤ p + f ∧ pre.length ≤ p ∧ p ≤ l.length)
      (fun s => l.length - s.1) (0, [], l.length) ⟨none, 0, he.keep [0, 2, 3, 4] rfl, hh, rfl, by rw [sz_mk]; omega, Nat.le_refl _, Nat.zero_le _⟩ fun s a W hinv => ?_
  obtain ⟨p, pre, f⟩ := s
  obtain ⟨A_3, c_3, he, hh, hpre, hf, hpp, hpl⟩ := hinv
  refine sq ?_
  refine sq ?_
  refine rg ?_
  refine mv rfl rfl he fun a he => ?_
  refine mv rfl rfl he fun a he => ?_
  refine ln Try.underlying22 rfl rfl he fun a he => ?_
  refine lt rfl rfl rfl he fun a he => ?_
  refine en ?_
  refine cnd he rfl (fun h2 => ?_) (fun h2 => ?_)
  · replace h2 : p < l.length := by omega
    refine sk ?_
    refine nm_then ?_
    refine bk ?_
    refine sq ?_
    refine rg ?_
    refine mv rfl rfl he fun a he => ?_
    refine mv rfl rfl he fun a he => ?_
    refine slo1 (xs := l) (p) ts_22 rfl rfl h_l k_l (by omega) rfl he fun A3 cc4 a hf5 hc6 he => ?_
    refine cal cb_50 rfl (ref04_one _ _ _ A3 cc4 (l.drop p) hh hf5 hc6 (by intro h; have := congrArg List.length h; simp at this; omega)) rfl he fun v a W hp he => ?_
    obtain ⟨rfl, hh⟩ := hp
    rw [dec_drop] at he
    have hwd := dec_wd l p (by omega)
    have hsz : p < (⟨l.toArray⟩ : ByteArray).size := by rw [sz_mk]; omega
    refine mv rfl rfl he fun a he => ?_
    refine xt rfl rfl rfl he fun a he => ?_
    refine xt rfl rfl rfl he fun a he => ?_
    refine asg rfl rfl he fun a he => ?_
    refine asg rfl rfl he fun a he => ?_
    refine en ?_
    refine sq ?_
    refine rg ?_
    refine mv rfl rfl he fun a he => ?_
    refine mv rfl rfl he fun a he => ?_
    refine bsl [(0, .int .i32 (((Utf8.decode ⟨l.toArray⟩ p).1 : Nat) : Int))] [.int .i32 (((Utf8.decode ⟨l.toArray⟩ p).1 : Nat) : Int)] ts_23 rfl rfl rfl rfl rfl rfl rfl he hh fun bb7 a W he hh => ?_
    replace hh := hh.up1
    refine ap ts_23 rfl rfl (Ch.rd hh.at1) (by simp) (by simp [Value.oneCell']) (by first | omega | (simp; omega)) rfl he hh fun A8 cc9 a W he hh => ?_
    replace hh := hh.re (n' := ((pre ++ [(((Utf8.decode ⟨l.toArray⟩ p).1 : Nat) : Int)])).length) (cs' := ((pre ++ [(((Utf8.decode ⟨l.toArray⟩ p).1 : Nat) : Int)])).map r32) (by simp) (by simp [r32])
    replace he := he.be (t := 21) (v' := .slice A8 ((pre ++ [(((Utf8.decode ⟨l.toArray⟩ p).1 : Nat) : Int)])).length cc9) rfl (by congr 1; simp)
    replace hh := hh.up1
    replace hh := hh.drop
    refine asg rfl rfl he fun a he => ?_
    refine en ?_
    refine rg ?_
    refine mv rfl rfl he fun a he => ?_
    refine mv rfl rfl he fun a he => ?_
    refine ad (((p + (Utf8.decode ⟨l.toArray⟩ p).2) : Nat) : Int) rfl rfl (w64 (by omega) (by omega)) rfl he fun a he => ?_
    refine asg rfl rfl he fun a he => ?_
    refine en_blk ?_
    refine nm_then ?_
    exact ⟨(p + (Utf8.decode ⟨l.toArray⟩ p).2, pre ++ [(((Utf8.decode ⟨l.toArray⟩ p).1 : Nat) : Int)], f - 1), ⟨A8, cc9, he.keep [0, 2, 3, 4] rfl, hh, (all_step hpre hf hsz).1, (all_step hpre hf hsz).2, by simp; omega, by omega⟩, by show l.length - (p + _) < l.length - p; omega⟩
  · replace h2 : ¬ (p < l.length) := by omega
    refine ext ?_
    refine ex_then ?_
    refine ex_then ?_
    refine ex_in ?_
    refine nm_then ?_
    refine sq ?_
    refine rg ?_
    refine mv rfl rfl he fun a he => ?_
    refine asg rfl rfl he fun a he => ?_
    refine en ?_
    refine rt ?_
    refine rets1 Try.results36 he rfl (Ret.mk ?_)
    rw [← all_end hpre (by rw [sz_mk]; omega)]
    exact ⟨A_3, c_3, rfl, hh⟩

theorem ref07_All (I : Snap) (L : List Ch) (W : World) (A_b : Option Addr) (c_b : Nat) (b : List UInt8) (hh : Hp I L W) (h_b : Fz I A_b (b.map b8)) (k_b : b.length ≤ c_b) (hb : b.length ≤ 1000000000000) :
    Calls Try.prog 18 #[.slice A_b b.length c_b] W (Ret fun v W => ∃ (I' : Snap) (A1 : Option Addr) (c1 : Nat), v = .slice A1 (allS (utfAll b).length (utfAll b)).length c1 ∧ I.le I' ∧ Hp I' (.row A1 (allS (utfAll b).length (utfAll b)).length c1 9 1 ((allS (utfAll b).length (utfAll b)).map str1) :: L) W) := by
  refine enter Try.func18 rfl Try.ntmps18 rfl fun a he => ?_
  refine sq ?_
  refine rg ?_
  refine asg rfl rfl he fun a he => ?_
  refine en ?_
  refine sq ?_
  refine rg ?_
  refine mv rfl rfl he fun a he => ?_
  refine cal cb_36 rfl (ref04_All _ _ _ A_b c_b b hh h_b k_b hb) rfl he fun v a W hp he => ?_
  obtain ⟨A1, cc2, rfl, hh⟩ := hp
  have hc7 := (Ch.rowcap hh.at0).1
  obtain ⟨I4, hl5, hh, hf6⟩ := hh.freezeRow
  refine cal cb_35 rfl (ref06_All _ _ _ A1 cc2 (utfAll b) hh hf6 hc7 (by have := utfAll_len b; omega)) rfl he fun v a W hp he => ?_
  obtain ⟨A8, cc9, rfl, hh⟩ := hp
  refine asg rfl rfl he fun a he => ?_
  refine en ?_
  refine rt ?_
  refine rets1 Try.results18 he rfl (Ret.mk ?_)
  exact ⟨I4, A8, cc9, rfl, hl5, hh⟩

end Go.Proofs.Ytndaogkpgoimlaa
