/- Words of 64 bits: wrap, masks, joins, shifts. Plain Lean. -/
import Derived.Test.YtpnffhacmamilaaZLFWMore
import Derived.Test.YtpnffhacmamilaaZLFWNum
import Derived.Laws.BitsAllLaws
namespace Go.Proofs.YtpnffhacmamilaaW.PrintWords
open Go Go.RowKit
theorem p2cast (k : Nat) : (2 : Int) ^ k = ((2 ^ k : Nat) : Int) := by rw [Int.natCast_pow]; rfl
theorem blk_new' (w : World) (o : Obj) {g : Nat} (h : g = w.heap.size) : (w.alloc o).heap[g]? = some o := by subst h; exact blk_new w o
theorem u64w (x : Int) : IntKind.u64.wrap x = x % 18446744073709551616 := by simp [IntKind.wrap, IntKind.bits, IntKind.signed]
theorem u64w_of {x : Int} (h0 : 0 ≤ x) (h1 : x < 18446744073709551616) : IntKind.u64.wrap x = x := by rw [u64w]; omega
theorem u64w_range (x : Int) : 0 ≤ IntKind.u64.wrap x ∧ IntKind.u64.wrap x < 18446744073709551616 := by rw [u64w]; omega
theorem and_mask {x : Int} (h0 : 0 ≤ x) (h1 : x < 18446744073709551616) (k : Nat) (hk : k ≤ 64) (m : Int) (hm : m = 2 ^ k - 1) : Go.bits .and .u64 x m = x % 2 ^ k := by
  have hp : (2 ^ k : Nat) ≤ 2 ^ 64 := Nat.pow_le_pow_right (by omega) hk
  have h64 : (2 ^ 64 : Nat) = 18446744073709551616 := rfl
  rw [h64] at hp
  have hp0 : 0 < (2 ^ k : Nat) := Nat.pow_pos (by omega)
  rw [p2cast] at hm ⊢
  rw [u64_and x m h0 h1 (by omega) (by omega), hm]
  have e : (((2 ^ k : Nat) : Int) - 1).toNat = 2 ^ k - 1 := by omega
  rw [e, Nat.and_two_pow_sub_one_eq_mod, Int.natCast_emod]
  rw [Int.toNat_of_nonneg h0]
theorem or_join {x y : Int} (k : Nat) (hx0 : 0 ≤ x) (hx1 : x < 18446744073709551616) (hx : x % 2 ^ k = 0) (hy0 : 0 ≤ y) (hy : y < 2 ^ k) (hy1 : y < 18446744073709551616) : Go.bits .or .u64 x y = x + y := by
  rw [u64_or x y hx0 hx1 hy0 hy1]
  rw [p2cast] at hx hy
  have h2 : x.toNat % 2 ^ k = 0 := by
    have h3 : ((x.toNat % 2 ^ k : Nat) : Int) = 0 := by rw [Int.natCast_emod, Int.toNat_of_nonneg hx0]; exact hx
    exact Int.ofNat.inj h3
  have h4 : y.toNat < 2 ^ k := by omega
  rw [nat_join k _ _ h2 h4]
  omega
theorem shl_eq (x n : Int) : shl .u64 x n = x * 2 ^ (min n.toNat 64) % 18446744073709551616 := by unfold shl; rw [u64w]; rfl
theorem shr_eq (x n : Int) : shr .u64 x n = x / 2 ^ (min n.toNat 64) := rfl
end Go.Proofs.YtpnffhacmamilaaW.PrintWords
