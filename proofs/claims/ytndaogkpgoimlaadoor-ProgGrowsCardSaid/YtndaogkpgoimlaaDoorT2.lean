/- A state of layer 22 that a row reads. -/
import Derived.Test.YtndaogkpgoimlaaDoorT1
import Derived.Test.YtndaogkpgoimlaaDoorR3
namespace Go.Proofs.YtndaogkpgoimlaaDoor
open Go Go.RowKit Go.ChangeShapes Go.WideShapes K
set_option maxRecDepth 100000
theorem open_st22 {H : Type} {enc : TypeId × Value → H} {W : World} {held : Bool} {r : Reach} {b0 : Nat} {v : Value} {d : DataW H} {p : List MemPlace} (hv : Value.okWide Tryd.prog W r b0 28 v) (h : DataW.Trod enc Tryd.prog W 0 (fun _ => true) held 28 v d p) :
    ∃ (ph fl of_ nx : Int) (A_rs : Option Addr) (c_rs : Nat) (rs : List Int) (A_pd : Option Addr) (c_pd : Nat) (pd : List UInt8) (A_wd : Option Addr) (c_wd : Nat) (wd : List Int) (mk lg : Bool), v = .agg #[.int .i64 ph, .int .i64 fl, .int .i64 of_, .int .i64 nx, .slice A_rs rs.length c_rs, .slice A_pd pd.length c_pd, .slice A_wd wd.length c_wd, .bool mk, .bool lg] ∧
      (ph < 9223372036854775808 ∧ fl < 9223372036854775808 ∧ of_ < 9223372036854775808 ∧ nx < 9223372036854775808) ∧ -9223372036854775808 ≤ nx ∧ (∀ c ∈ rs, c < 9223372036854775808) ∧ (∀ c ∈ wd, c < 4294967296) ∧ (Fz (snap W) A_rs (rs.map i64v) ∧ rs.length ≤ c_rs) ∧ (Fz (snap W) A_pd (pd.map b8) ∧ pd.length ≤ c_pd) ∧ Fz (snap W) A_wd (wd.map r32) ∧ wd.length ≤ c_wd := by
  obtain ⟨cs, rfl, hsz⟩ := okWide_struct Tryd.underlying28 hv
  obtain ⟨x0, x1, x2, x3, x4, x5, x6, x7, x8, rfl⟩ := array9 (hsz.trans (by kernel_rfl))
  obtain ⟨fuel, hf0⟩ := h
  have hf : DataW.trod enc Tryd.prog W 0 (fun _ => true) held fuel 28 [x0, x1, x2, x3, x4, x5, x6, x7, x8] = some (d, p) := hf0
  obtain ⟨m0, z0, f0⟩ := field_at Tryd.underlying28 hf 0 rfl (o := 0) (k := 1) rfl (by kernel_rfl)
  obtain ⟨m1, z1, f1⟩ := field_at Tryd.underlying28 hf 1 rfl (o := 1) (k := 1) rfl (by kernel_rfl)
  obtain ⟨m2, z2, f2⟩ := field_at Tryd.underlying28 hf 2 rfl (o := 2) (k := 1) rfl (by kernel_rfl)
  obtain ⟨m3, z3, f3⟩ := field_at Tryd.underlying28 hf 3 rfl (o := 3) (k := 1) rfl (by kernel_rfl)
  obtain ⟨m4, z4, f4⟩ := field_at Tryd.underlying28 hf 4 rfl (o := 4) (k := 1) rfl (by kernel_rfl)
  obtain ⟨m5, z5, f5⟩ := field_at Tryd.underlying28 hf 5 rfl (o := 5) (k := 4) rfl (by kernel_rfl)
  obtain ⟨m50, z50, f50⟩ := field_at Tryd.underlying26 f5 0 rfl (o := 0) (k := 1) rfl (by kernel_rfl)
  obtain ⟨m51, z51, f51⟩ := field_at Tryd.underlying26 f5 1 rfl (o := 1) (k := 1) rfl (by kernel_rfl)
  obtain ⟨m52, z52, f52⟩ := field_at Tryd.underlying26 f5 2 rfl (o := 2) (k := 1) rfl (by kernel_rfl)
  obtain ⟨m53, z53, f53⟩ := field_at Tryd.underlying26 f5 3 rfl (o := 3) (k := 1) rfl (by kernel_rfl)
  obtain ⟨ph, rfl, l0, u0⟩ := cell_int Tryd.underlying3 f0
  obtain ⟨fl, rfl, l1, u1⟩ := cell_int Tryd.underlying3 f1
  obtain ⟨of_, rfl, l2, u2⟩ := cell_int Tryd.underlying3 f2
  obtain ⟨nx, rfl, l3, u3⟩ := cell_int Tryd.underlying3 f3
  obtain ⟨A_rs, c_rs, rs, rfl, k_rs, h_rs, w_rs⟩ := cell_ints Tryd.underlying22 Tryd.underlying3 (by kernel_rfl) f4
  obtain ⟨A_pd, c_pd, pd, rfl, k_pd, h_pd⟩ := cell_bytes Tryd.underlying23 Tryd.underlying5 (by kernel_rfl) f50
  obtain ⟨A_wd, c_wd, wd, rfl, k_wd, h_wd, w_wd⟩ := cell_runes Tryd.underlying24 Tryd.underlying21 (by kernel_rfl) f51
  obtain ⟨mk, rfl⟩ := cell_bool Tryd.underlying4 f52
  obtain ⟨lg, rfl⟩ := cell_bool Tryd.underlying4 f53
  exact ⟨ph, fl, of_, nx, A_rs, c_rs, rs, A_pd, c_pd, pd, A_wd, c_wd, wd, mk, lg, rfl, ⟨by omega, by omega, by omega, by omega⟩, l3, fun c hc => by have := w_rs c hc; omega, fun c hc => by have := w_wd c hc; omega, ⟨h_rs, k_rs⟩, ⟨h_pd, k_pd⟩, h_wd, k_wd⟩
end Go.Proofs.YtndaogkpgoimlaaDoor
