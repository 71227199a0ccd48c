import Derived.Test.YtkdppdofkkakaaaGreatDoorSlots
import Derived.Test.YtkdppdofkkakaaaGreatDoorPutMath

namespace Yard
open Go Go.Sx Go.Proofs
set_option linter.unusedVariables false
set_option linter.unusedSimpArgs false
set_option maxRecDepth 4000
set_option maxHeartbeats 4000000

structure EntT where
 slot : Int
 gen : Int
 key : Int
 value : Int
deriving DecidableEq
structure NodeT where
 e : EntT
 kids : List Int
abbrev qdX (l : List Int) : AV := .ro 1 l.length (fun i => [i64 (l.getD i 0)])
def entZ : EntT := ⟨0, 0, 0, 0⟩
def EntI (e : EntT) : Prop := I64 e.slot/\I64 e.gen/\I64 e.key/\I64 e.value
def zxE (l : List Int) : Prop := (∀ x ∈ l, I64 x)/\l.length <= 9223372036854775807
def zz2 (k : Int) : Prop := k < 2\/3072 <= k
instance (k : Int) : Decidable (zz2 k) := by unfold zz2; infer_instance
def znP (n : NodeT) : Prop := 0 <= n.e.slot/\n.e.slot < 1792/\1 <= n.e.gen/\n.e.gen <= 4294967295/\n.kids.length <= 12/\∀ k ∈ n.kids, ¬ zz2 k
instance (n : NodeT) : Decidable (znP n) := by unfold znP; infer_instance

def u64N (k : Int) : Nat := (k % 18446744073709551616).toNat
def headL (n : NodeT) : List Nat := octetsN [u64N n.e.key, u64N n.e.value] ++ layN n.e.slot.toNat 4 ++ layN n.e.gen.toNat 4
def kidsB (n : NodeT) (k : Nat) : List Nat := (List.range k).flatMap fun i => layN (n.kids.getD i 0).toNat 2
def bodyB (n : NodeT) (k : Nat) : List Nat := headL n ++ kidsB n k
def zuX (n : NodeT) : List Nat := if znP n then zbR 1 n.kids.length (bodyB n n.kids.length) else []
def cmpI (a b : Int) : Int := if a < b then -1 else if b < a then 1 else 0
def orL : List Int->Int
 | [] => 0
 | a :: r => if a = 0 then orL r else a
def entCmp (a b : EntT) : Int := orL [cmpI a.key b.key, cmpI a.slot b.slot, cmpI a.gen b.gen]

def numA (b : List Nat) (a n : Int) : Int := IntKind.i64.wrap ((getN (b.drop 8) a n : Nat) : Int)
def kidsAt (b : List Nat) (k : Nat) : List Int := (List.range k).map fun i => numA b (24 + 2 * (i : Nat)) 2
def nodeB (b : List Nat) : NodeT := ⟨⟨numA b 16 4, numA b 20 4, numA b 0 8, numA b 8 8⟩, kidsAt b (b.getD 5 0)⟩
def zz3 (b : List Nat) : Prop := zbG b/\b.getD 4 0 = 1/\b.getD 5 0 <= 12/\znP (nodeB b)/\zc3 (b.drop 8) (24 + 2 * ((b.getD 5 0 : Nat) : Int)) (32 - 2 * ((b.getD 5 0 : Nat) : Int)) = true
instance (b : List Nat) : Decidable (zz3 b) := by unfold zz3; infer_instance
def nodeZ : NodeT := ⟨entZ, []⟩

theorem zpP {l : List Nat} {a n m : Nat} : (l.drop a).take n ++ (l.drop (a + n)).take m = (l.drop a).take (n + m) := by
 rw [<- List.drop_drop, List.take_add]
theorem zuF {l : List Nat} {n m : Nat} : l.take n ++ (l.drop n).take m = l.take (n + m) := by rw [List.take_add]
theorem zv8 {b : List Nat} (h : zbG b) : za7 (b.getD 4 0) (b.getD 5 0) (b.drop 8) = b.drop 4 := by
 have h64 := h.1
 have hn := h.2.2.1
 have hh : hasB b.length 6 2 := ⟨by omega, by omega, by omega⟩
 rw [zc3, decide_eq_true hh, Bool.true_and, List.all_eq_true] at hn
 have hc : ∀ i, i < 2->b.getD (6 + i) 0 = 0 := fun i hi => by
  have e := zpT (l := b) (a := 6) (n := 2) (i := i) (by omega)
  have hlen := zn6 hh
  have hm : (cut b 6 2).getD i 0 ∈ cut b 6 2 := by
   rw [List.getD_eq_getElem?_getD, List.getElem?_eq_getElem (by rw [hlen]; omega)]; exact List.getElem_mem _
  have := hn _ hm
  rw [e] at this
  simpa using this
 refine zbN 0 (by simp only [za7, List.length_append, List.length_replicate, List.length_cons, List.length_nil, List.length_drop]; omega) fun i hi => ?_
 rw [List.length_drop] at hi
 rw [za7, zaM, zaM, zaV]
 by_cases e : i < 4
 ·rw [if_pos (by simp only [List.length_append, List.length_cons, List.length_nil]; omega), if_pos (by simp only [List.length_cons, List.length_nil]; omega)]
  have : i = 0\/i = 1\/i = 2\/i = 3 := by omega
  rw [zaV]
  rcases this with rfl | rfl | rfl | rfl
  ·rfl
  ·rfl
  ·exact (hc 0 (by omega)).symm
  ·exact (hc 1 (by omega)).symm
 ·rw [if_pos (by simp only [List.length_append, List.length_cons, List.length_nil, List.length_drop]; omega), if_neg (by simp only [List.length_cons, List.length_nil]; omega), zaV]
  congr 1
  simp only [List.length_cons, List.length_nil]; omega
theorem zlG {b : List Nat} (hb : ∀ c ∈ b, c < 256) (h : zbG b) : zbR (b.getD 4 0) (b.getD 5 0) (b.drop 8) = b := by
 have hr := zv8 h
 have hs := h.2.2.2
 have h64 := h.1
 have h4 : (b.take 4).length = 4 := by rw [List.length_take]; omega
 rw [zbR, hr, hs, readN, List.take_of_length_le (by omega)]
 have := zpH (b.take 4) fun c hc => hb c (List.mem_of_mem_take hc)
 rw [h4] at this
 rw [this, List.take_append_drop]
theorem zuP {k t : Nat} {l b : List Nat} (h : l ++ List.replicate (56 - l.length) 0 = b) (hb : b.length = 56) : zbR k t l = zbR k t b := by
 have : za7 k t l = za7 k t b := by
  rw [za7, za7, List.append_assoc, h, hb]; simp
 rw [zbR, zbR, this]
theorem zv2 {b : List Nat} (hb : ∀ c ∈ b, c < 256) (h64 : b.length = 64) (h4 : b.getD 4 0 ≠ 0) (h : zbR (b.getD 4 0) (b.getD 5 0) (b.drop 8) = b) : zbG b := by
 have g4 : b.getD 4 0 < 256 := zbO (p := fun c => c < 256) hb (by decide) 4
 have g5 : b.getD 5 0 < 256 := zbO (p := fun c => c < 256) hb (by decide) 5
 have := zhF (k := b.getD 4 0) (t := b.getD 5 0) (b := b.drop 8) (by omega) g4 g5 (fun c hc => hb c (List.mem_of_mem_drop hc)) (by rw [List.length_drop]; omega)
 rwa [h] at this

theorem zgV {l : List Nat} {a n : Nat} (hn : 1 <= n) (h8 : n <= 8) (h : a + n <= l.length) : getN l (a : Int) (n : Int) = numN ((l.drop a).take n) := by
 have hok : qd5 l.length (a : Int) (n : Int) := ⟨by omega, by omega, by omega, by omega, by omega⟩
 rw [getN, if_pos hok]
 rfl
theorem zl2 {l : List Nat} {a n : Nat} (hl : ∀ c ∈ l, c < 256) (h : a + n <= l.length) : layN (numN ((l.drop a).take n)) n = (l.drop a).take n := by
 have hlen : ((l.drop a).take n).length = n := by rw [List.length_take, List.length_drop]; omega
 have := zpH ((l.drop a).take n) fun c hc => hl c (List.mem_of_mem_drop (List.mem_of_mem_take hc))
 rwa [hlen] at this
theorem zo7 {l : List Nat} {a n : Nat} (hl : ∀ c ∈ l, c < 256) (h : a + n <= l.length) : numN ((l.drop a).take n) < 256 ^ n := by
 have hlen : ((l.drop a).take n).length = n := by rw [List.length_take, List.length_drop]; omega
 have := zhM ((l.drop a).take n) fun c hc => hl c (List.mem_of_mem_drop (List.mem_of_mem_take hc))
 rwa [hlen] at this
theorem qeD {b : List Nat} (hb : ∀ c ∈ b, c < 256) (h : zd0 b) : zaL (zcO b) = b := by
 obtain ⟨hr, h4, h5, hz, hok⟩ := h
 have h64 := hr.1
 have hlen : (b.drop 8).length = 56 := by rw [List.length_drop]; omega
 have hbd : ∀ c ∈ b.drop 8, c < 256 := fun c hc => hb c (List.mem_of_mem_drop hc)
 have hK : ∀ k, k <= 16->kidsL (zcO b) k = (b.drop 8).take (2 * k) := fun k => by
  induction k with
  | zero => intro _; rfl
  | succ k ih =>
    intro hk1
    have e5 : (zcO b k).toNat = numN (((b.drop 8).drop (2 * k)).take 2) := by rw [zcO, List.drop_drop, Int.toNat_natCast]
    rw [zdB, ih (by omega), e5, zl2 hbd (by omega), zuF]; rfl
 have hp : kidsL (zcO b) 16 ++ List.replicate (56 - (kidsL (zcO b) 16).length) 0 = b.drop 8 := by
  have hh : hasB (b.drop 8).length 32 24 := ⟨by omega, by omega, by omega⟩
  rw [zc3, decide_eq_true hh, Bool.true_and, List.all_eq_true] at hz
  have e : List.replicate (56 - (kidsL (zcO b) 16).length) 0 = (b.drop 8).drop 32 := by
   rw [zbH]
   refine (List.eq_replicate_iff.2 ⟨by rw [List.length_drop]; omega, fun c hc => ?_⟩).symm
   have : c ∈ cut (b.drop 8) 32 24 := by
    rw [cut, List.take_of_length_le (by rw [List.length_drop]; omega)]; exact hc
   simpa using hz c this
  rw [e, hK 16 (Nat.le_refl _), List.take_append_drop]
 rw [zaL, if_pos hok, zuP hp hlen]
 have := zlG hb hr
 rwa [h4, h5] at this
theorem zrE (t : Nat) : ∀ (k : Nat) (l : Nat->SeatT), (∀ i, i < k->(l i).live = (t / 2 ^ i % 2 == 1))->liveN l k = t % 2 ^ k
 | 0, _, _ => by rw [liveN]; omega
 | k + 1, l, h => by
   rw [liveN, zrE t k l fun i hi => h i (by omega), h k (by omega), Nat.pow_succ, Nat.mod_mul]
   have : t / 2 ^ k % 2 < 2 := Nat.mod_lt _ (by decide)
   by_cases e : t / 2 ^ k % 2 = 1
   ·rw [if_pos (by simp [e]), e]; omega
   ·rw [if_neg (by simp [e]), show t / 2 ^ k % 2 = 0 by omega]; omega
theorem zzZ {b : List Nat} (hb : ∀ c ∈ b, c < 256) (h : zb6 b) : zaJ (zaN b) = b := by
 obtain ⟨hr, h4, h5, hok⟩ := h
 have h64 := hr.1
 have hlen : (b.drop 8).length = 56 := by rw [List.length_drop]; omega
 have hbd : ∀ c ∈ b.drop 8, c < 256 := fun c hc => hb c (List.mem_of_mem_drop hc)
 have hK : ∀ k, k <= 7->za9 (zaN b) k = (b.drop 8).take (8 * k) := fun k => by
  induction k with
  | zero => intro _; rfl
  | succ k ih =>
    intro hk1
    have e5 : (zaN b k).gen.toNat = numN (((b.drop 8).drop (8 * k)).take 4) := by simp only [zaN]; rw [List.drop_drop, Int.toNat_natCast]
    have e6 : (zaN b k).next.toNat = numN (((b.drop 8).drop (8 * k + 4)).take 4) := by simp only [zaN]; rw [List.drop_drop, Int.toNat_natCast, show 8 + (8 * k + 4) = 12 + 8 * k by omega]
    rw [zcE, ih (by omega), e5, e6, zl2 hbd (by omega), zl2 hbd (by omega), zpP, zuF]; rfl
 have hp : za9 (zaN b) 7 ++ List.replicate (56 - (za9 (zaN b) 7).length) 0 = b.drop 8 := by
  rw [hK 7 (Nat.le_refl _), List.take_of_length_le (by omega), hlen]; simp
 have hlv : liveN (zaN b) 7 = b.getD 5 0 := by
  rw [zrE (b.getD 5 0) 7 (zaN b) fun i _ => rfl]; omega
 rw [zaJ, if_pos hok, hlv, zuP hp hlen]
 have := zlG hb hr
 rwa [h4] at this

end Yard
