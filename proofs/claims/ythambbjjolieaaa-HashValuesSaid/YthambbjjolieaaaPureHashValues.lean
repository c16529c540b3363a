/- The hash function of package hashindex equals the reference's, its example is met, and two keys have equal hash values exactly if they are equal. Condition: none (the keys are any two 32-bit numbers). -/
import Derived.OpenShut
import Derived.Test.YthambbjjolieaaaPHashValuesx1
namespace Go.Proofs.Ythambbjjolieaaa.Pure
open Go.RowKit Go.Proofs.Ythambbjjolieaaa.PHashValues Go.Proofs.YthambbjjolieaaaW.PrintWords Go.Proofs.YthambbjjolieaaaW.PrintLast

theorem xs_inj (x y : Nat) (hx : x < 4294967296) (hy : y < 4294967296) (h : x ^^^ (x / 65536) = y ^^^ (y / 65536)) : x = y := by
  have e : ∀ z : Nat, z < 4294967296 → (z ^^^ (z / 65536)) >>> 16 = z / 65536 := by
    intro z hz
    rw [Nat.shiftRight_xor_distrib]
    rw [show (z / 65536) >>> 16 = 0 by rw [Nat.shiftRight_eq_div_pow]; omega, Nat.shiftRight_eq_div_pow, Nat.xor_zero]
  have h2 : x / 65536 = y / 65536 := by rw [← e x hx, ← e y hy, h]
  rw [h2] at h
  have h3 := congrArg (· ^^^ (y / 65536)) h
  simpa [Nat.xor_assoc] using h3

theorem mul_e (z : Nat) (hz : z < 4294967296) : (z * 2654435769 % 4294967296) * 340573321 % 4294967296 = z := by
  rw [Nat.mod_mul_mod, Nat.mul_assoc, show 2654435769 * 340573321 = 1 + 4294967296 * 210485888 from Nat.eq_of_beq_eq_true rfl, Nat.mul_add, Nat.mul_one, Nat.mul_left_comm, Nat.add_mul_mod_self_left, Nat.mod_eq_of_lt hz]
theorem mul_inj (n m : Nat) (hn : n < 4294967296) (hm : m < 4294967296) (h : n * 2654435769 % 4294967296 = m * 2654435769 % 4294967296) : n = m := by
  rw [← mul_e n hn, ← mul_e m hm, h]

def hs (n : Nat) : Nat := (n * 2654435769 % 4294967296) ^^^ ((n * 2654435769 % 4294967296) / 65536)

theorem hs_inj (n m : Nat) (hn : n < 4294967296) (hm : m < 4294967296) (h : hs n = hs m) : n = m :=
  mul_inj n m hn hm (xs_inj _ _ (Nat.mod_lt _ (Nat.succ_pos _)) (Nat.mod_lt _ (Nat.succ_pos _)) h)

theorem hash_nat (n : Nat) : hashindex_Hash.f (n : Int) = some (hs n : Int) := by
  unfold hashindex_Hash.f Go.bits hs
  have hlt : n * 2654435769 % 4294967296 < 4294967296 := Nat.mod_lt _ (Nat.succ_pos _)
  have hx' : ((n : Int) * 2654435769 % 4294967296) = ((n * 2654435769 % 4294967296 : Nat) : Int) := by omega
  rw [hx']
  clear hx'
  generalize n * 2654435769 % 4294967296 = x at *
  rw [show ((x : Int) / 65536) = ((x / 65536 : Nat) : Int) by omega]
  have hl2 : x ^^^ (x / 65536) < 4294967296 := Nat.xor_lt_two_pow (n := 32) hlt (by omega)
  congr 1
  show IntKind.u32.wrap ((BitVec.ofInt 32 (x : Int) ^^^ BitVec.ofInt 32 ((x / 65536 : Nat) : Int)).toNat : Int) = _
  rw [BitVec.ofInt_natCast, BitVec.ofInt_natCast, BitVec.toNat_xor, BitVec.toNat_ofNat, BitVec.toNat_ofNat]
  rw [Nat.mod_eq_of_lt (show x < 2 ^ 32 from hlt), Nat.mod_eq_of_lt (show x / 65536 < 2 ^ 32 by omega)]
  generalize x ^^^ (x / 65536) = y at *
  simp only [IntKind.wrap, IntKind.signed, IntKind.bits]
  simp
  omega

theorem same_hash (a : Int) : bodegaref23_Hash.f a = hashindex_Hash.f a := by unfold bodegaref23_Hash.f hashindex_Hash.f; rfl

theorem awake_true : bodegalaw23_awake.f = some true := by
  unfold bodegalaw23_awake.f
  rw [show (1 : Int) = ((1 : Nat) : Int) by rfl, hash_nat 1, show hs 1 = 2654463886 by decide +kernel]
  rfl


theorem hv1 (n m : Nat) : bodegalaw23_HashValues.f (n : Int) (m : Int) = some (((hs n : Int) == (hs m : Int)) == ((n : Int) == (m : Int))) := by
  unfold bodegalaw23_HashValues.f
  rw [awake_true, same_hash, hash_nat n, hash_nat m]
  rw [Option.bind_some, Option.bind_some, Option.bind_some, if_pos rfl, Option.bind_some, if_pos rfl]
theorem hv2 (n m : Nat) (hn : n < 4294967296) (hm : m < 4294967296) : (((hs n : Int) == (hs m : Int)) == ((n : Int) == (m : Int))) = true := by
  by_cases e : n = m
  · rw [e, beq_self_eq_true, beq_self_eq_true, beq_self_eq_true]
  · have h0 : ¬ ((hs n : Int) = (hs m : Int)) := fun h => e (hs_inj n m hn hm (Int.natCast_inj.mp h))
    have h1 : ¬ ((n : Int) = (m : Int)) := fun h => e (Int.natCast_inj.mp h)
    rw [beq_eq_false_iff_ne.mpr h0, beq_eq_false_iff_ne.mpr h1, beq_self_eq_true]
theorem HashValues : bodegalaw23_HashValues.Pure := by
  intro a b ha hb
  have ha' := bounds_u32 ha
  have hb' := bounds_u32 hb
  obtain ⟨n, rfl⟩ := Int.eq_ofNat_of_zero_le ha'.1
  obtain ⟨m, rfl⟩ := Int.eq_ofNat_of_zero_le hb'.1
  have hn : n < 4294967296 := by omega
  have hm : m < 4294967296 := by omega
  rw [hv1 n m, hv2 n m hn hm]

end Go.Proofs.Ythambbjjolieaaa.Pure
