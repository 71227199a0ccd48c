import Derived.Test.YtlicnnoljbfhfaaDoorBitsMath

namespace Yard
open Go Go.Sx

theorem and_cut {c x A M lo hi : Nat} (hA : A < 2 ^ c) (hx : x = lo + 2 ^ c * hi) (hlo : lo < 2 ^ c) : x &&& (A + 2 ^ c * M) = (lo &&& A) + 2 ^ c * (hi &&& M) := by
  have hp : 0 < 2 ^ c := Nat.pos_of_ne_zero (by simp)
  have e := Nat.div_add_mod (x &&& (A + 2 ^ c * M)) (2 ^ c)
  rw [Nat.and_div_two_pow, Nat.and_mod_two_pow] at e
  have e1 : x % 2 ^ c = lo := by rw [hx, Nat.add_mul_mod_self_left, Nat.mod_eq_of_lt hlo]
  have e2 : x / 2 ^ c = hi := by rw [hx, Nat.add_mul_div_left _ _ hp, Nat.div_eq_of_lt hlo, Nat.zero_add]
  have e3 : (A + 2 ^ c * M) % 2 ^ c = A := by rw [Nat.add_mul_mod_self_left, Nat.mod_eq_of_lt hA]
  have e4 : (A + 2 ^ c * M) / 2 ^ c = M := by rw [Nat.add_mul_div_left _ _ hp, Nat.div_eq_of_lt hA, Nat.zero_add]
  rw [e1, e2, e3, e4] at e
  omega

def maskN (A : Nat) : Nat → Nat
  | 0 => 0
  | k + 1 => A + 256 * maskN A k
def popA (k x : Nat) : Nat := (x / 2 &&& maskN 85 k) + (x &&& maskN 85 k)
def popB (k x : Nat) : Nat := (x / 4 &&& maskN 51 k) + (x &&& maskN 51 k)
def popD (k x : Nat) : Nat := (x / 16 + x) &&& maskN 15 k
def popO (x : Nat) : Nat := (x / 2 &&& 85) + (x &&& 85)
def popP (x : Nat) : Nat := (x / 4 &&& 51) + (x &&& 51)
def pop8 (x : Nat) : Nat := (List.range 8).countP x.testBit
theorem popA_step (k : Nat) {lo hi : Nat} (h : lo < 256) : popA (k + 1) (lo + 256 * hi) = popO lo + 256 * popA k hi := by
  have h0 : ∀ lo, lo < 256 → ∀ b, b < 2 → (lo / 2 + 128 * b) &&& 85 = lo / 2 &&& 85 := by decide +kernel
  have e1 := and_cut (c := 8) (x := (lo + 256 * hi) / 2) (A := 85) (M := maskN 85 k) (lo := lo / 2 + 128 * (hi % 2)) (hi := hi / 2) (by decide) (by omega) (by omega)
  have e2 := and_cut (c := 8) (x := lo + 256 * hi) (A := 85) (M := maskN 85 k) (lo := lo) (hi := hi) (by decide) rfl h
  rw [h0 lo h _ (Nat.mod_lt _ (by decide))] at e1
  simp only [Nat.reducePow] at e1 e2
  rw [popA, maskN, e1, e2, popO, popA]; omega
theorem popB_step (k : Nat) {lo hi : Nat} (h : lo < 256) : popB (k + 1) (lo + 256 * hi) = popP lo + 256 * popB k hi := by
  have h0 : ∀ lo, lo < 256 → ∀ b, b < 4 → (lo / 4 + 64 * b) &&& 51 = lo / 4 &&& 51 := by decide +kernel
  have e1 := and_cut (c := 8) (x := (lo + 256 * hi) / 4) (A := 51) (M := maskN 51 k) (lo := lo / 4 + 64 * (hi % 4)) (hi := hi / 4) (by decide) (by omega) (by omega)
  have e2 := and_cut (c := 8) (x := lo + 256 * hi) (A := 51) (M := maskN 51 k) (lo := lo) (hi := hi) (by decide) rfl h
  rw [h0 lo h _ (Nat.mod_lt _ (by decide))] at e1
  simp only [Nat.reducePow] at e1 e2
  rw [popB, maskN, e1, e2, popP, popB]; omega
theorem popD_step (k : Nat) {lo hi : Nat} (h : lo % 16 ≤ 4 ∧ lo / 16 ≤ 4) (h2 : hi % 16 ≤ 4) : popD (k + 1) (lo + 256 * hi) = (lo / 16 + lo % 16) + 256 * popD k hi := by
  have h0 : ∀ a, a < 256 → a &&& 15 = a % 16 := fun a _ => Nat.and_two_pow_sub_one_eq_mod a 4
  have e1 := and_cut (c := 8) (x := (lo + 256 * hi) / 16 + (lo + 256 * hi)) (A := 15) (M := maskN 15 k) (lo := lo / 16 + lo + 16 * (hi % 16)) (hi := hi / 16 + hi) (by decide) (by omega) (by omega)
  rw [h0 _ (by omega)] at e1
  simp only [Nat.reducePow] at e1
  rw [popD, maskN, e1, popD]; omega
theorem popO_lt : ∀ lo, lo < 256 → popO lo < 256 := by decide +kernel
theorem popP_ok : ∀ lo, lo < 256 → (popP (popO lo) % 16 ≤ 4 ∧ popP (popO lo) / 16 ≤ 4) ∧ popP (popO lo) / 16 + popP (popO lo) % 16 = pop8 lo := by decide +kernel
def popU (k x : Nat) : Nat := popB k (popA k x)
theorem popU_low : ∀ (k x : Nat), popU k x % 16 ≤ 4
  | 0, x => by simp [popU, popB, maskN]
  | k + 1, x => by
    have hx : x = x % 256 + 256 * (x / 256) := by omega
    have hl : x % 256 < 256 := Nat.mod_lt _ (by decide)
    rw [popU, hx, popA_step k hl, popB_step k (popO_lt _ hl)]
    have := (popP_ok _ hl).1.1
    omega
theorem popS_step (k : Nat) {lo hi : Nat} (h : lo < 256) : popD (k + 1) (popU (k + 1) (lo + 256 * hi)) = pop8 lo + 256 * popD k (popU k hi) := by
  have e : popU (k + 1) (lo + 256 * hi) = popP (popO lo) + 256 * popU k hi := by
    rw [popU, popA_step k h, popB_step k (popO_lt _ h)]; rfl
  rw [e, popD_step k (popP_ok _ h).1 (popU_low k hi), (popP_ok _ h).2]
theorem pop8_le (x : Nat) : pop8 x ≤ 8 := by
  have := List.countP_le_length (p := x.testBit) (l := List.range 8)
  simpa [pop8] using this

def popN (w : Nat) : Nat := (bitsL 64 w).length
theorem cnt_step (n : Nat) {lo hi : Nat} (h : lo < 256) : (List.range (8 + n)).countP (lo + 256 * hi).testBit = pop8 lo + (List.range n).countP hi.testBit := by
  rw [List.range_add, List.countP_append, List.countP_map]
  have hb : ∀ i, (lo + 256 * hi).testBit i = if i < 8 then lo.testBit i else hi.testBit (i - 8) := fun i => by
    rw [show lo + 256 * hi = 2 ^ 8 * hi + lo by omega, Nat.testBit_two_pow_mul_add hi (show lo < 2 ^ 8 from h)]
  congr 1
  · exact List.countP_congr fun i hi' => by rw [hb, if_pos (List.mem_range.1 hi')]
  · exact List.countP_congr fun i _ => by
      show (lo + 256 * hi).testBit (8 + i) = true ↔ _
      rw [hb, if_neg (by omega), show 8 + i - 8 = i by omega]
theorem popN_oct {w : Nat} (hw : w < 18446744073709551616) : ∃ p0 p1 p2 p3 p4 p5 p6 p7, p0 ≤ 8 ∧ p1 ≤ 8 ∧ p2 ≤ 8 ∧ p3 ≤ 8 ∧ p4 ≤ 8 ∧ p5 ≤ 8 ∧ p6 ≤ 8 ∧ p7 ≤ 8 ∧
    popD 8 (popU 8 w) = p0 + 256 * (p1 + 256 * (p2 + 256 * (p3 + 256 * (p4 + 256 * (p5 + 256 * (p6 + 256 * p7)))))) ∧ popN w = p0 + (p1 + (p2 + (p3 + (p4 + (p5 + (p6 + p7)))))) := by
  have st : ∀ (k x : Nat), popD (k + 1) (popU (k + 1) x) = pop8 (x % 256) + 256 * popD k (popU k (x / 256)) := fun k x => by
    have := popS_step k (lo := x % 256) (hi := x / 256) (Nat.mod_lt _ (by decide))
    rwa [show x % 256 + 256 * (x / 256) = x by omega] at this
  have sc : ∀ (n x : Nat), (List.range (8 + n)).countP x.testBit = pop8 (x % 256) + (List.range n).countP (x / 256).testBit := fun n x => by
    have := cnt_step n (lo := x % 256) (hi := x / 256) (Nat.mod_lt _ (by decide))
    rwa [show x % 256 + 256 * (x / 256) = x by omega] at this
  have z : ∀ x, popD 0 (popU 0 x) = 0 := fun x => by simp [popD, maskN]
  refine ⟨_, _, _, _, _, _, _, _, pop8_le (w % 256), pop8_le (w / 256 % 256), pop8_le (w / 256 / 256 % 256), pop8_le (w / 256 / 256 / 256 % 256), pop8_le (w / 256 / 256 / 256 / 256 % 256), pop8_le (w / 256 / 256 / 256 / 256 / 256 % 256), pop8_le (w / 256 / 256 / 256 / 256 / 256 / 256 % 256), pop8_le (w / 256 / 256 / 256 / 256 / 256 / 256 / 256 % 256), ?_, ?_⟩
  · rw [st 7, st 6, st 5, st 4, st 3, st 2, st 1, st 0, z, Nat.mul_zero, Nat.add_zero]
  · have : popN w = (List.range 64).countP w.testBit := by rw [popN, bitsL, List.countP_eq_length_filter]
    rw [this, sc 56, sc 48, sc 40, sc 32, sc 24, sc 16, sc 8, sc 0]
    simp
theorem mask5 : maskN 85 8 = 6148914691236517205 := by decide
theorem mask3 : maskN 51 8 = 3689348814741910323 := by decide
theorem mask0 : maskN 15 8 = 1085102592571150095 := by decide
theorem popN_le (w : Nat) : popN w ≤ 64 := by
  have := List.length_filter_le w.testBit (List.range 64)
  simpa [popN, bitsL] using this

theorem pop_sum {p0 p1 p2 p3 p4 p5 p6 p7 A0 A1 A2 A3 A4 A5 A6 A7 : Nat} (h0 : p0 ≤ 8) (h1 : p1 ≤ 8) (h2 : p2 ≤ 8) (h3 : p3 ≤ 8) (h4 : p4 ≤ 8) (h5 : p5 ≤ 8) (h6 : p6 ≤ 8) (h7 : p7 ≤ 8)
    (e0 : A0 = p0 + 256 * A1) (e1 : A1 = p1 + 256 * A2) (e2 : A2 = p2 + 256 * A3) (e3 : A3 = p3 + 256 * A4) (e4 : A4 = p4 + 256 * A5) (e5 : A5 = p5 + 256 * A6) (e6 : A6 = p6 + 256 * A7) (e7 : A7 = p7) {b c d : Nat} (hb : b = A0 + A0 / 256) (hc : c = b + b / 65536) (hd : d = c + c / 4294967296) :
    A0 < 1152921504606846976 ∧ b < 2305843009213693952 ∧ c < 4611686018427387904 ∧ d < 9223372036854775808 ∧ d % 128 = p0 + (p1 + (p2 + (p3 + (p4 + (p5 + (p6 + p7)))))) := by
  have hb' : b = A0 + A1 := by omega
  have hb2 : b / 65536 = A2 + A3 := by
    rw [hb', show 65536 = 256 * 256 from rfl, ← Nat.div_div_eq_div_mul, show (A0 + A1) / 256 = A1 + A2 by omega]; omega
  have hc' : c = A0 + A1 + A2 + A3 := by omega
  have hc2 : c / 4294967296 = A4 + A5 + A6 + A7 := by
    have k1 : (A0 + A1 + A2 + A3) / 256 = A1 + A2 + A3 + A4 := by omega
    have k2 : (A1 + A2 + A3 + A4) / 256 = A2 + A3 + A4 + A5 := by clear hb hb' hb2 hc hc' hd e0 k1; omega
    have k3 : (A2 + A3 + A4 + A5) / 256 = A3 + A4 + A5 + A6 := by clear hb hb' hb2 hc hc' hd e0 e1 k1 k2; omega
    have k4 : (A3 + A4 + A5 + A6) / 256 = A4 + A5 + A6 + A7 := by clear hb hb' hb2 hc hc' hd e0 e1 e2 k1 k2 k3; omega
    rw [hc', show 4294967296 = 256 * 256 * 256 * 256 from rfl, ← Nat.div_div_eq_div_mul, ← Nat.div_div_eq_div_mul, ← Nat.div_div_eq_div_mul, k1, k2, k3, k4]
  have hd' : d = A0 + A1 + A2 + A3 + (A4 + A5 + A6 + A7) := by rw [hd, hc2, hc']
  clear hb hc hd hb2 hc2
  have b7 : A7 ≤ 8 := by omega
  have b6 : A6 ≤ 2056 := by clear hb' hc' hd' e0 e1 e2 e3 e4 e5; omega
  have b5 : A5 ≤ 526344 := by clear hb' hc' hd' e0 e1 e2 e3 e4; omega
  have b4 : A4 ≤ 134744072 := by clear hb' hc' hd' e0 e1 e2 e3; omega
  have b3 : A3 ≤ 34494482440 := by clear hb' hc' hd' e0 e1 e2; omega
  have b2 : A2 ≤ 8830587504648 := by clear hb' hc' hd' e0 e1; omega
  have b1 : A1 ≤ 2260630401189896 := by clear hb' hc' hd' e0; omega
  have b0 : A0 ≤ 578721382704613384 := by clear hb' hc' hd'; omega
  refine ⟨by omega, by omega, by omega, by omega, ?_⟩
  have hs : d = (p0 + (p1 + (p2 + (p3 + (p4 + (p5 + (p6 + p7))))))) + 256 * (A1 + A2 + A3 + A4 + A5 + A6 + A7) := by
    clear b0 b1 b2 b3 b4 b5 b6 b7 hb' hc'; omega
  rw [hs]; clear hs hb' hc' hd' e0 e1 e2 e3 e4 e5 e6
  omega
theorem popN_sum {w a b c d : Nat} (hw : w < 18446744073709551616) (ha : a = popD 8 (popU 8 w)) (hb : b = a + a / 256) (hc : c = b + b / 65536) (hd : d = c + c / 4294967296) : a < 1152921504606846976 ∧ b < 2305843009213693952 ∧ c < 4611686018427387904 ∧ d < 9223372036854775808 ∧ d % 128 = popN w := by
  obtain ⟨p0, p1, p2, p3, p4, p5, p6, p7, h0, h1, h2, h3, h4, h5, h6, h7, e1, e2⟩ := popN_oct hw
  rw [e2]
  exact pop_sum h0 h1 h2 h3 h4 h5 h6 h7 (ha.trans e1) rfl rfl rfl rfl rfl rfl rfl hb hc hd
theorem popA_lt {k x : Nat} : popA k x ≤ 2 * maskN 85 k := by
  have h1 : x / 2 &&& maskN 85 k ≤ maskN 85 k := Nat.and_le_right
  have h2 : x &&& maskN 85 k ≤ maskN 85 k := Nat.and_le_right
  unfold popA; omega
theorem popB_lt {k x : Nat} : popB k x ≤ 2 * maskN 51 k := by
  have h1 : x / 4 &&& maskN 51 k ≤ maskN 51 k := Nat.and_le_right
  have h2 : x &&& maskN 51 k ≤ maskN 51 k := Nat.and_le_right
  unfold popB; omega

end Yard
