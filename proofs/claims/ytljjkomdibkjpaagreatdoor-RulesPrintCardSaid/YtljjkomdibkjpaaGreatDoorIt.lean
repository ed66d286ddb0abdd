/- Contracts of functions of the program and of the reference. -/
import Derived.Test.YtljjkomdibkjpaaGreatDoorAliveZ
import Derived.KernelRfl
set_option linter.unusedVariables false
set_option linter.unusedSimpArgs false
/-! It -/
set_option maxRecDepth 100000
namespace Go.Proofs
open Go Go.Ev
def itM (z : Int) : List UInt8 := if z < 10 then [UInt8.ofNat (48 + z.toNat)] else if z < 100 then [UInt8.ofNat (48 + z.toNat / 10), UInt8.ofNat (48 + z.toNat % 10)] else if z < 1000 then [UInt8.ofNat (48 + z.toNat / 100), UInt8.ofNat (48 + z.toNat / 10 % 10), UInt8.ofNat (48 + z.toNat % 10)] else [49, 48, 48, 48]
noncomputable def itC (n : Nat) : Bool := match (levT Tryz.C0 400).call 67 [.int .i64 n] St.nil with
  | some (.ret (.str s), S) => s == itM n && (S.hs.isEmpty && (S.ts.isEmpty && S.wl.isEmpty))
  | _ => false
theorem itoa_0 : ((List.range 100).all fun i => itC (0 + i)) = true := by kernel_rfl
theorem itoa_1 : ((List.range 100).all fun i => itC (100 + i)) = true := by kernel_rfl
theorem itoa_2 : ((List.range 100).all fun i => itC (200 + i)) = true := by kernel_rfl
theorem itoa_3 : ((List.range 100).all fun i => itC (300 + i)) = true := by kernel_rfl
theorem itoa_4 : ((List.range 100).all fun i => itC (400 + i)) = true := by kernel_rfl
theorem itoa_5 : ((List.range 100).all fun i => itC (500 + i)) = true := by kernel_rfl
theorem itoa_6 : ((List.range 100).all fun i => itC (600 + i)) = true := by kernel_rfl
theorem itoa_7 : ((List.range 100).all fun i => itC (700 + i)) = true := by kernel_rfl
theorem itoa_8 : ((List.range 100).all fun i => itC (800 + i)) = true := by kernel_rfl
theorem itoa_9 : ((List.range 100).all fun i => itC (900 + i)) = true := by kernel_rfl
theorem itoa_10 : ((List.range 1).all fun i => itC (1000 + i)) = true := by kernel_rfl
theorem itC_all {n : Nat} (h : n ≤ 1000) : itC n = true := by
  have get : ∀ {m a : Nat}, ((List.range m).all fun i => itC (a + i)) = true → a ≤ n → n < a + m → itC n = true := fun {m a} hh h1 h2 => by
    have := List.all_eq_true.1 hh (n - a) (List.mem_range.2 (by omega))
    rwa [show a + (n - a) = n by omega] at this
  rcases Nat.lt_or_ge n 100 with h0 | h0
  · exact get itoa_0 (by omega) (by omega)
  rcases Nat.lt_or_ge n 200 with h1 | h1
  · exact get itoa_1 (by omega) (by omega)
  rcases Nat.lt_or_ge n 300 with h2 | h2
  · exact get itoa_2 (by omega) (by omega)
  rcases Nat.lt_or_ge n 400 with h3 | h3
  · exact get itoa_3 (by omega) (by omega)
  rcases Nat.lt_or_ge n 500 with h4 | h4
  · exact get itoa_4 (by omega) (by omega)
  rcases Nat.lt_or_ge n 600 with h5 | h5
  · exact get itoa_5 (by omega) (by omega)
  rcases Nat.lt_or_ge n 700 with h6 | h6
  · exact get itoa_6 (by omega) (by omega)
  rcases Nat.lt_or_ge n 800 with h7 | h7
  · exact get itoa_7 (by omega) (by omega)
  rcases Nat.lt_or_ge n 900 with h8 | h8
  · exact get itoa_8 (by omega) (by omega)
  rcases Nat.lt_or_ge n 1000 with h9 | h9
  · exact get itoa_9 (by omega) (by omega)
  · exact get itoa_10 (by omega) (by omega)
theorem itC_run {n : Nat} (h : n ≤ 1000) : (levT Tryz.C0 400).call 67 [.int .i64 n] St.nil = some (.ret (.str (itM n)), St.nil) := by
  have h := itC_all h
  unfold itC at h
  split at h
  · rename_i s S he
    simp only [Bool.and_eq_true, beq_iff_eq, List.isEmpty_iff] at h
    obtain ⟨h1, h2, h3, h4⟩ := h
    rw [he, h1]
    cases S with | mk a b c => simp only at h2 h3 h4; rw [h2, h3, h4]; rfl
  · cases h
end Go.Proofs
