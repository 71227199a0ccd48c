import Derived.Test.YtobpnkcgolkbiaaDoorSlotInv
/- Slots: a tree's pages. -/
namespace Yard
open Go Go.Sx Go.Proofs
set_option linter.unusedVariables false
set_option linter.unusedSimpArgs false
set_option maxRecDepth 4000
set_option maxHeartbeats 4000000

/-- The first that is not nought. -/
def scanE (f : Nat → Int) : Nat → Nat → Int
  | 0, _ => 0
  | n + 1, i => if f i = 0 then scanE f n (i + 1) else f i
theorem scanE_zero {f : Nat → Int} : ∀ (n i : Nat), (∀ k, k < n → f (i + k) = 0) → scanE f n i = 0
  | 0, _, _ => rfl
  | n + 1, i, h => by rw [scanE, if_pos (show f i = 0 from h 0 (by omega)), scanE_zero n (i + 1) fun k hk => by have := h (k + 1) (by omega); rwa [show i + (k + 1) = i + 1 + k by omega] at this]
theorem scanE_at {f : Nat → Int} : ∀ (n i t : Nat), t < n → (∀ k, k < t → f (i + k) = 0) → f (i + t) ≠ 0 → scanE f n i = f (i + t)
  | 0, _, _, h, _, _ => absurd h (Nat.not_lt_zero _)
  | n + 1, i, 0, h, _, hn => by rw [scanE, if_neg (show ¬ f i = 0 from hn)]; rfl
  | n + 1, i, t + 1, h, hz, hn => by
    rw [scanE, if_pos (show f i = 0 from hz 0 (by omega)), scanE_at n (i + 1) t (by omega) (fun k hk => by have := hz (k + 1) (by omega); rwa [show i + (k + 1) = i + 1 + k by omega] at this) (by rwa [show i + 1 + t = i + (t + 1) by omega])]
    congr 1; omega
theorem scanE_inv {f : Nat → Int} : ∀ (n i : Nat), scanE f n i = 0 → ∀ k, k < n → f (i + k) = 0
  | 0, _, _, k, hk => absurd hk (Nat.not_lt_zero _)
  | n + 1, i, h, k, hk => by
    rw [scanE] at h
    by_cases h0 : f i = 0
    · rw [if_pos h0] at h
      cases k with
      | zero => exact h0
      | succ k => have := scanE_inv n (i + 1) h k (by omega); rwa [show i + (k + 1) = i + 1 + k by omega]
    · rw [if_neg h0] at h; exact absurd h h0
def leafScan (ws : List Nat) (g : Int) : Int := scanE (fun j => leafErr ws (fanF ws g j)) 16 0
def kidErr (ws : List Nat) (top : Int) (i : Nat) : Int := if fanErr ws (fanF ws top i) = 0 then leafScan ws (fanF ws top i) else fanErr ws (fanF ws top i)
def pagesErr (ws : List Nat) (top : Int) : Int := if fanErr ws top = 0 then scanE (kidErr ws top) 16 0 else fanErr ws top
def one0 (a : Int) : List Int := if a = 0 then [] else [a]
def leavesL (ws : List Nat) (g : Int) (j : Nat) : List Int := (List.range j).flatMap fun j => one0 (fanF ws g j)
def kidL (ws : List Nat) (g : Int) : List Int := one0 g ++ leavesL ws g 16
def pagesUp (ws : List Nat) (top : Int) (i : Nat) : List Int := one0 top ++ (List.range i).flatMap fun i => kidL ws (fanF ws top i)
def pagesL (ws : List Nat) (top : Int) : List Int := if pagesErr ws top = 0 then pagesUp ws top 16 else []
def storePagesC : Ctr where
  X := StoreT × Int
  Y := Nat
  conv := true
  tau := storeTau
  pre := fun x => StoreW x.1 ∧ I64 x.2
  args := fun x => [.ptr 0 [] 0, i64 x.2]
  heap := fun x => storeFam x.1
  Q := fun x cap => (pagesL x.1.ws x.2).length ≤ cap ∧ cap ≤ 9223372036854775807
  res := fun x cap => .tup [.sl 4 [] 0 1 0 (pagesL x.1.ws x.2).length cap, i64 (pagesErr x.1.ws x.2)]
  its := fun x _ => storeFam x.1
  new := fun x cap => [rowI 3 .i64 cap (pagesL x.1.ws x.2)]
theorem storePagesC_ok : CtrOk storePagesC :=
  ⟨fun _ _ _ _ => (rfl : 3 = 3), fun _ _ _ _ => ⟨rfl, rfl⟩, fun x _ _ _ _ => ⟨⟨storePl _, ⟨⟨fun _ _ => ⟨rfl, trivial⟩, trivial⟩, trivial⟩⟩, rfl, rfl, trivial⟩⟩
def rowRenP (t n : Nat) (F : Fr) (_ : AH) : Option Ren := match F.getD t .any with
  | .sl q _ _ _ _ _ _ => some (idRen n n ++ [some q])
  | _ => some (idRen n n ++ [none])
def pages1 (x : StoreT × Int) : LA := { T := Nat × Nat × List Int, F := fun t => frm 77 [(0, .ptr 0 [] 0), (8, .sl 4 [] 0 1 0 t.2.2.length t.2.1), (35, fanA (fanF x.1.ws x.2)), (36, i64 (t.1 : Nat))], H := fun t => storeFam x.1 ++ [.fence, rowI 3 .i64 t.2.1 t.2.2], ρ₁ := rowRenP 8 4, ρ₂ := rowRenP 8 4 }
def pages2 (x : StoreT × Int) : LA := { T := (Nat × Int) × Nat × Nat × List Int, F := fun t => frm 77 [(0, .ptr 0 [] 0), (8, .sl 4 [] 0 1 0 t.2.2.2.length t.2.2.1), (35, fanA (fanF x.1.ws x.2)), (36, i64 (t.1.1 : Nat)), (55, fanA (fanF x.1.ws t.1.2)), (56, i64 (t.2.1 : Nat))], H := fun t => storeFam x.1 ++ [.fence, rowI 3 .i64 t.2.2.1 t.2.2.2], ρ₁ := rowRenP 8 4, ρ₂ := rowRenP 8 4 }

def pages0 (x : StoreT × Int) : LA := { T := Nat × List Int, F := fun t => frm 77 [(0, .ptr 0 [] 0), (6, .ptr 4 [] 0), (8, .sl 5 [] 0 1 0 t.2.length t.1)], H := fun t => storeFam x.1 ++ [.fence, .cells 97 (fanV (fanF x.1.ws x.2)), rowI 3 .i64 t.1 t.2], ρ₁ := rowRenP 8 5, ρ₂ := rowRenP 8 5 }
theorem leavesL_succ (ws : List Nat) (g : Int) (j : Nat) : leavesL ws g (j + 1) = leavesL ws g j ++ one0 (fanF ws g j) := by
  simp only [leavesL]
  rw [List.range_succ, List.flatMap_append]; simp
theorem pagesUp_succ (ws : List Nat) (top : Int) (i : Nat) : pagesUp ws top (i + 1) = pagesUp ws top i ++ kidL ws (fanF ws top i) := by
  simp only [pagesUp]
  rw [List.range_succ, List.flatMap_append]; simp
theorem one0_len (a : Int) : (one0 a).length ≤ 1 := by unfold one0; split <;> simp
theorem leavesL_len (ws : List Nat) (g : Int) : ∀ j, (leavesL ws g j).length ≤ j
  | 0 => by simp [leavesL]
  | j + 1 => by
    have := leavesL_len ws g j
    have h := one0_len (fanF ws g j)
    rw [leavesL_succ, List.length_append]; omega
theorem pagesUp_len (ws : List Nat) (top : Int) : ∀ i, (pagesUp ws top i).length ≤ 1 + 17 * i
  | 0 => by have := one0_len top; simp [pagesUp]; exact this
  | i + 1 => by
    have := pagesUp_len ws top i
    have h := leavesL_len ws (fanF ws top i) 16
    have h2 := one0_len (fanF ws top i)
    rw [pagesUp_succ, List.length_append, kidL, List.length_append]; omega
theorem snocI {l : List Int} {v d : Int} {z : List AV} {i : Nat} (hi : i < (l ++ [v]).length) : (if i < l.length then [AV.int .i64 (l.getD i d)] else if i - l.length = 0 then [AV.int .i64 v] else z) = [AV.int .i64 ((l ++ [v]).getD i d)] := by
  rw [List.length_append] at hi
  simp only [List.length_cons, List.length_nil] at hi
  rw [getD_append]
  by_cases e : i < l.length
  · rw [if_pos e, if_pos e]
  · rw [if_neg e, if_neg e, if_pos (by omega), show i - l.length = 0 by omega]; rfl
theorem fan_leaves0 (ws : List Nat) : ∀ j, leavesL ws 0 j = []
  | 0 => rfl
  | j + 1 => by rw [leavesL_succ, fan_leaves0 ws j]; rfl

-- callees: 51=storeFan_ok 52=storeLeaf_ok
theorem storePagesV : (∀ (x : StoreT × Int), StoreW x.fst ∧ I64 x.snd → Exx (StoreT × Int) fun x_1 => (((true = true ∧ NilNil ∧ (0 : Nat) = (0 : Nat)) ∧ Tr 1
 (x.snd = x_1.snd) ∧ True) ∧ true = true ∧ ((139 : TypeId) = (139 : TypeId) ∧ (true = true ∧ NilNil ∧ (0 : Nat) = (0 : Nat)) ∧ (true = true ∧ NilNil ∧ (0 : Nat)
 = (0 : Nat)) ∧ True) ∧ devB x.fst.ws = devB x_1.fst.ws ∧ allocB x.fst.a = allocB x_1.fst.a ∧ True) ∧ (StoreW x_1.fst ∧ I64 x_1.snd) ∧ ∀ (y : Unit), True → BC
 (!decide (fanErr x_1.fst.ws x_1.snd = (0 : Int))) (Exx Nat fun y => (((((pagesL x.fst.ws x.snd).length = 0 ∧ y = 0) ∧ Tr 1 (fanErr x_1.fst.ws x_1.snd = pagesErr
 x.fst.ws x.snd) ∧ True) ∧ True) ∧ ((139 : TypeId) = (139 : TypeId) ∧ (true = true ∧ NilNil ∧ (0 : Nat) = (0 : Nat)) ∧ (true = true ∧ NilNil ∧ (0 : Nat) = (0 :
 Nat)) ∧ True) ∧ devB x_1.fst.ws = devB x.fst.ws ∧ allocB x_1.fst.a = allocB x.fst.a ∧ true = true ∧ (y = 0 ∧ (pagesL x.fst.ws x.snd).length = 0) ∧ True) ∧
 (pagesL x.fst.ws x.snd).length ≤ y ∧ y ≤ 9223372036854775807) (Exx (Nat × List Int → Prop) fun I => BC (!decide (x.snd = (0 : Int))) ((0 : Nat) + (1 : Nat) ≤ (1
 : Nat) ∧ ((1 : Nat) ≤ (9223372036854775807 : Nat) ∧ (1 : Nat) * (8 : Nat) ≤ (140737488355328 : Nat)) ∧ ∀ (cap : Nat), 1 ≤ cap ∧ cap ≤ 9223372036854775807 → Exx
 (Nat × List Int) fun t => I t ∧ ((true = true ∧ NilNil ∧ (0 : Nat) = (0 : Nat)) ∧ Tr 5 ((true = true ∧ NilNil ∧ (0 : Nat) = (0 : Nat)) ∧ Tr 1 ((true = true ∧
 NilNil ∧ (0 : Nat) = (0 : Nat) ∧ (1 : Nat) = (1 : Nat) ∧ (0 : Nat) = (0 : Nat) ∧ 1 = t.snd.length ∧ cap = t.fst) ∧ Tr 68 True))) ∧ ((139 : TypeId) = (139 :
 TypeId) ∧ (true = true ∧ NilNil ∧ (0 : Nat) = (0 : Nat)) ∧ (true = true ∧ NilNil ∧ (0 : Nat) = (0 : Nat)) ∧ True) ∧ devB x_1.fst.ws = devB x.fst.ws ∧ allocB
 x_1.fst.a = allocB x.fst.a ∧ true = true ∧ ((97 : Nat) = (97 : TypeId) ∧ (1 : Nat) = (1 : Nat) ∧ (16 : Nat) = (16 : Nat) ∧ (∀ (i : Nat), i < 16 → [AV.int
 IntKind.i64 (fanF x_1.fst.ws x_1.snd i)] = [AV.int IntKind.i64 (fanF x.fst.ws x.snd i)]) ∧ True) ∧ ((3 : TypeId) = (3 : TypeId) ∧ (1 : Nat) = (1 : Nat) ∧ cap =
 t.fst ∧ t.snd.length ≤ 1 ∧ ∀ (i : Nat), i < t.snd.length → [AV.int IntKind.i64 (if 0 + i = 0 * 1 / 1 then x.snd else 0)] = [AV.int IntKind.i64 (t.snd.getD i
 0)]) ∧ True) (Exx (Nat × List Int) fun t => I t ∧ ((true = true ∧ NilNil ∧ (0 : Nat) = (0 : Nat)) ∧ Tr 5 ((true = true ∧ NilNil ∧ (0 : Nat) = (0 : Nat)) ∧ Tr 1
 ((t.snd.length = 0 ∧ t.fst = 0) ∧ Tr 68 True))) ∧ ((139 : TypeId) = (139 : TypeId) ∧ (true = true ∧ NilNil ∧ (0 : Nat) = (0 : Nat)) ∧ (true = true ∧ NilNil ∧ (0
 : Nat) = (0 : Nat)) ∧ True) ∧ devB x_1.fst.ws = devB x.fst.ws ∧ allocB x_1.fst.a = allocB x.fst.a ∧ true = true ∧ ((97 : Nat) = (97 : TypeId) ∧ (1 : Nat) = (1 :
 Nat) ∧ (16 : Nat) = (16 : Nat) ∧ (∀ (i : Nat), i < 16 → [AV.int IntKind.i64 (fanF x_1.fst.ws x_1.snd i)] = [AV.int IntKind.i64 (fanF x.fst.ws x.snd i)]) ∧ True)
 ∧ (t.fst = 0 ∧ t.snd.length = 0) ∧ True) ∧ ∀ (t : Nat × List Int), I t → Exx (Nat × Nat × List Int → Prop) fun I => Exx (Nat × Nat × List Int → Nat) fun m =>
 (Exx (Nat × Nat × List Int) fun t_1 => I t_1 ∧ ((true = true ∧ NilNil ∧ (0 : Nat) = (0 : Nat)) ∧ Tr 7 ((true = true ∧ NilNil ∧ (0 : Nat) = (0 : Nat) ∧ (1 : Nat)
 = (1 : Nat) ∧ (0 : Nat) = (0 : Nat) ∧ t.snd.length = t_1.snd.snd.length ∧ t.fst = t_1.snd.fst) ∧ Tr 26 (((1 : Nat) = (1 : Nat) ∧ (16 : Nat) = (16 : Nat) ∧ (∀ (i
 : Nat), i < 16 → [AV.int IntKind.i64 (fanF x.fst.ws x.snd i)] = [AV.int IntKind.i64 (fanF x.fst.ws x.snd i)]) ∧ True) ∧ Tr 1 ((0 : Int) = (↑t_1.fst : Int)) ∧ Tr
 40 True))) ∧ ((139 : TypeId) = (139 : TypeId) ∧ (true = true ∧ NilNil ∧ (0 : Nat) = (0 : Nat)) ∧ (true = true ∧ NilNil ∧ (0 : Nat) = (0 : Nat)) ∧ True) ∧ devB
 x.fst.ws = devB x.fst.ws ∧ allocB x.fst.a = allocB x.fst.a ∧ true = true ∧ ((3 : TypeId) = (3 : TypeId) ∧ (1 : Nat) = (1 : Nat) ∧ t.fst = t_1.snd.fst ∧
 t_1.snd.snd.length ≤ t.snd.length ∧ ∀ (i : Nat), i < t_1.snd.snd.length → [AV.int IntKind.i64 (t.snd.getD i 0)] = [AV.int IntKind.i64 (t_1.snd.snd.getD i 0)]) ∧
 True) ∧ ∀ (t : Nat × Nat × List Int), I t → BC (decide ((↑t.fst : Int) < (16 : Int))) (((0 : Int) ≤ (↑t.fst : Int) ∧ (↑t.fst : Int) < (↑16 : Int) ∧ (↑t.fst :
 Int) < (↑16 : Int)) ∧ BC (decide (fanF x.fst.ws x.snd (↑t.fst : Int).toNat = (0 : Int))) (I64 ((↑t.fst : Int) + 1) ∧ Exx (Nat × Nat × List Int) fun t' => (I t'
 ∧ m t' < m t) ∧ ((true = true ∧ NilNil ∧ (0 : Nat) = (0 : Nat)) ∧ Tr 7 ((true = true ∧ NilNil ∧ (0 : Nat) = (0 : Nat) ∧ (1 : Nat) = (1 : Nat) ∧ (0 : Nat) = (0 :
 Nat) ∧ t.snd.snd.length = t'.snd.snd.length ∧ t.snd.fst = t'.snd.fst) ∧ Tr 26 (((1 : Nat) = (1 : Nat) ∧ (16 : Nat) = (16 : Nat) ∧ (∀ (i : Nat), i < 16 → [AV.int
 IntKind.i64 (fanF x.fst.ws x.snd i)] = [AV.int IntKind.i64 (fanF x.fst.ws x.snd i)]) ∧ True) ∧ Tr 1 ((↑t.fst : Int) + 1 = (↑t'.fst : Int)) ∧ Tr 40 True))) ∧
 ((139 : TypeId) = (139 : TypeId) ∧ (true = true ∧ NilNil ∧ (0 : Nat) = (0 : Nat)) ∧ (true = true ∧ NilNil ∧ (0 : Nat) = (0 : Nat)) ∧ True) ∧ devB x.fst.ws =
 devB x.fst.ws ∧ allocB x.fst.a = allocB x.fst.a ∧ true = true ∧ ((3 : TypeId) = (3 : TypeId) ∧ (1 : Nat) = (1 : Nat) ∧ t.snd.fst = t'.snd.fst ∧
 t'.snd.snd.length ≤ t.snd.snd.length ∧ ∀ (i : Nat), i < t'.snd.snd.length → [AV.int IntKind.i64 (t.snd.snd.getD i 0)] = [AV.int IntKind.i64 (t'.snd.snd.getD i
 0)]) ∧ True) (Exx (StoreT × Int) fun x_2 => (((true = true ∧ NilNil ∧ (0 : Nat) = (0 : Nat)) ∧ Tr 1 (fanF x.fst.ws x.snd (↑t.fst : Int).toNat = x_2.snd) ∧ True)
 ∧ true = true ∧ ((139 : TypeId) = (139 : TypeId) ∧ (true = true ∧ NilNil ∧ (0 : Nat) = (0 : Nat)) ∧ (true = true ∧ NilNil ∧ (0 : Nat) = (0 : Nat)) ∧ True) ∧
 devB x.fst.ws = devB x_2.fst.ws ∧ allocB x.fst.a = allocB x_2.fst.a ∧ True) ∧ (StoreW x_2.fst ∧ I64 x_2.snd) ∧ ∀ (y : Unit), True → BC (!decide (fanErr
 x_2.fst.ws x_2.snd = (0 : Int))) (Exx Nat fun y => (((((pagesL x.fst.ws x.snd).length = 0 ∧ y = 0) ∧ Tr 1 (fanErr x_2.fst.ws x_2.snd = pagesErr x.fst.ws x.snd)
 ∧ True) ∧ True) ∧ ((139 : TypeId) = (139 : TypeId) ∧ (true = true ∧ NilNil ∧ (0 : Nat) = (0 : Nat)) ∧ (true = true ∧ NilNil ∧ (0 : Nat) = (0 : Nat)) ∧ True) ∧
 devB x_2.fst.ws = devB x.fst.ws ∧ allocB x_2.fst.a = allocB x.fst.a ∧ true = true ∧ (y = 0 ∧ (pagesL x.fst.ws x.snd).length = 0) ∧ True) ∧ (pagesL x.fst.ws
 x.snd).length ≤ y ∧ y ≤ 9223372036854775807) ((0 : Nat) + (1 : Nat) ≤ (1 : Nat) ∧ true = true ∧ (t.snd.snd.length ≤ t.snd.snd.length ∧ t.snd.fst = t.snd.fst) ∧
 (t.snd.snd.length + 1 ≤ 9223372036854775807 ∧ (t.snd.snd.length + 1) * 8 ≤ 140737488355328) ∧ ∀ (cap : Nat), t.snd.snd.length + 1 ≤ cap ∧ cap ≤
 9223372036854775807 → Exx ((Nat × Int) × Nat × Nat × List Int → Prop) fun I_1 => Exx ((Nat × Int) × Nat × Nat × List Int → Nat) fun m_1 => (Exx ((Nat × Int) ×
 Nat × Nat × List Int) fun t_1 => I_1 t_1 ∧ ((true = true ∧ NilNil ∧ (0 : Nat) = (0 : Nat)) ∧ Tr 7 ((true = true ∧ NilNil ∧ (0 : Nat) = (0 : Nat) ∧ (1 : Nat) =
 (1 : Nat) ∧ (0 : Nat) = (0 : Nat) ∧ t.snd.snd.length + 1 = t_1.snd.snd.snd.length ∧ cap = t_1.snd.snd.fst) ∧ Tr 26 (((1 : Nat) = (1 : Nat) ∧ (16 : Nat) = (16 :
 Nat) ∧ (∀ (i : Nat), i < 16 → [AV.int IntKind.i64 (fanF x.fst.ws x.snd i)] = [AV.int IntKind.i64 (fanF x.fst.ws x.snd i)]) ∧ True) ∧ Tr 1 ((↑t.fst : Int) =
 (↑t_1.fst.fst : Int)) ∧ Tr 18 (((1 : Nat) = (1 : Nat) ∧ (16 : Nat) = (16 : Nat) ∧ (∀ (i : Nat), i < 16 → [AV.int IntKind.i64 (fanF x_2.fst.ws x_2.snd i)] =
 [AV.int IntKind.i64 (fanF x.fst.ws t_1.fst.snd i)]) ∧ True) ∧ Tr 1 ((0 : Int) = (↑t_1.snd.fst : Int)) ∧ Tr 20 True)))) ∧ ((139 : TypeId) = (139 : TypeId) ∧
 (true = true ∧ NilNil ∧ (0 : Nat) = (0 : Nat)) ∧ (true = true ∧ NilNil ∧ (0 : Nat) = (0 : Nat)) ∧ True) ∧ devB x_2.fst.ws = devB x.fst.ws ∧ allocB x_2.fst.a =
 allocB x.fst.a ∧ true = true ∧ ((3 : TypeId) = (3 : TypeId) ∧ (1 : Nat) = (1 : Nat) ∧ cap = t_1.snd.snd.fst ∧ t_1.snd.snd.snd.length ≤ t.snd.snd.length + 1 ∧ ∀
 (i : Nat), i < t_1.snd.snd.snd.length → (if i < t.snd.snd.length then [AV.int IntKind.i64 (t.snd.snd.getD i 0)] else [AV.int IntKind.i64 (if 0 + (i -
 t.snd.snd.length) = 0 * 1 / 1 then fanF x.fst.ws x.snd (↑t.fst : Int).toNat else 0)]) = [AV.int IntKind.i64 (t_1.snd.snd.snd.getD i 0)]) ∧ True) ∧ ∀ (t_1 : (Nat
 × Int) × Nat × Nat × List Int), I_1 t_1 → BC (decide ((↑t_1.snd.fst : Int) < (16 : Int))) (((0 : Int) ≤ (↑t_1.snd.fst : Int) ∧ (↑t_1.snd.fst : Int) < (↑16 :
 Int) ∧ (↑t_1.snd.fst : Int) < (↑16 : Int)) ∧ BC (decide (fanF x.fst.ws t_1.fst.snd (↑t_1.snd.fst : Int).toNat = (0 : Int))) (I64 ((↑t_1.snd.fst : Int) + 1) ∧
 Exx ((Nat × Int) × Nat × Nat × List Int) fun t' => (I_1 t' ∧ m_1 t' < m_1 t_1) ∧ ((true = true ∧ NilNil ∧ (0 : Nat) = (0 : Nat)) ∧ Tr 7 ((true = true ∧ NilNil ∧
 (0 : Nat) = (0 : Nat) ∧ (1 : Nat) = (1 : Nat) ∧ (0 : Nat) = (0 : Nat) ∧ t_1.snd.snd.snd.length = t'.snd.snd.snd.length ∧ t_1.snd.snd.fst = t'.snd.snd.fst) ∧ Tr
 26 (((1 : Nat) = (1 : Nat) ∧ (16 : Nat) = (16 : Nat) ∧ (∀ (i : Nat), i < 16 → [AV.int IntKind.i64 (fanF x.fst.ws x.snd i)] = [AV.int IntKind.i64 (fanF x.fst.ws
 x.snd i)]) ∧ True) ∧ Tr 1 ((↑t_1.fst.fst : Int) = (↑t'.fst.fst : Int)) ∧ Tr 18 (((1 : Nat) = (1 : Nat) ∧ (16 : Nat) = (16 : Nat) ∧ (∀ (i : Nat), i < 16 →
 [AV.int IntKind.i64 (fanF x.fst.ws t_1.fst.snd i)] = [AV.int IntKind.i64 (fanF x.fst.ws t'.fst.snd i)]) ∧ True) ∧ Tr 1 ((↑t_1.snd.fst : Int) + 1 = (↑t'.snd.fst
 : Int)) ∧ Tr 20 True)))) ∧ ((139 : TypeId) = (139 : TypeId) ∧ (true = true ∧ NilNil ∧ (0 : Nat) = (0 : Nat)) ∧ (true = true ∧ NilNil ∧ (0 : Nat) = (0 : Nat)) ∧
 True) ∧ devB x.fst.ws = devB x.fst.ws ∧ allocB x.fst.a = allocB x.fst.a ∧ true = true ∧ ((3 : TypeId) = (3 : TypeId) ∧ (1 : Nat) = (1 : Nat) ∧ t_1.snd.snd.fst =
 t'.snd.snd.fst ∧ t'.snd.snd.snd.length ≤ t_1.snd.snd.snd.length ∧ ∀ (i : Nat), i < t'.snd.snd.snd.length → [AV.int IntKind.i64 (t_1.snd.snd.snd.getD i 0)] =
 [AV.int IntKind.i64 (t'.snd.snd.snd.getD i 0)]) ∧ True) (Exx (StoreT × Int) fun x_3 => (((true = true ∧ NilNil ∧ (0 : Nat) = (0 : Nat)) ∧ Tr 1 (fanF x.fst.ws
 t_1.fst.snd (↑t_1.snd.fst : Int).toNat = x_3.snd) ∧ True) ∧ true = true ∧ ((139 : TypeId) = (139 : TypeId) ∧ (true = true ∧ NilNil ∧ (0 : Nat) = (0 : Nat)) ∧
 (true = true ∧ NilNil ∧ (0 : Nat) = (0 : Nat)) ∧ True) ∧ devB x.fst.ws = devB x_3.fst.ws ∧ allocB x.fst.a = allocB x_3.fst.a ∧ True) ∧ (StoreW x_3.fst ∧ I64
 x_3.snd) ∧ ∀ (y : Unit), True → BC (!decide (leafErr x_3.fst.ws x_3.snd = (0 : Int))) (Exx Nat fun y => (((((pagesL x.fst.ws x.snd).length = 0 ∧ y = 0) ∧ Tr 1
 (leafErr x_3.fst.ws x_3.snd = pagesErr x.fst.ws x.snd) ∧ True) ∧ True) ∧ ((139 : TypeId) = (139 : TypeId) ∧ (true = true ∧ NilNil ∧ (0 : Nat) = (0 : Nat)) ∧
 (true = true ∧ NilNil ∧ (0 : Nat) = (0 : Nat)) ∧ True) ∧ devB x_3.fst.ws = devB x.fst.ws ∧ allocB x_3.fst.a = allocB x.fst.a ∧ true = true ∧ (y = 0 ∧ (pagesL
 x.fst.ws x.snd).length = 0) ∧ True) ∧ (pagesL x.fst.ws x.snd).length ≤ y ∧ y ≤ 9223372036854775807) ((0 : Nat) + (1 : Nat) ≤ (1 : Nat) ∧ true = true ∧
 (t_1.snd.snd.snd.length ≤ t_1.snd.snd.snd.length ∧ t_1.snd.snd.fst = t_1.snd.snd.fst) ∧ (t_1.snd.snd.snd.length + 1 ≤ 9223372036854775807 ∧
 (t_1.snd.snd.snd.length + 1) * 8 ≤ 140737488355328) ∧ ∀ (cap : Nat), t_1.snd.snd.snd.length + 1 ≤ cap ∧ cap ≤ 9223372036854775807 → I64 ((↑t_1.snd.fst : Int) +
 1) ∧ Exx ((Nat × Int) × Nat × Nat × List Int) fun t' => (I_1 t' ∧ m_1 t' < m_1 t_1) ∧ ((true = true ∧ NilNil ∧ (0 : Nat) = (0 : Nat)) ∧ Tr 7 ((true = true ∧
 NilNil ∧ (0 : Nat) = (0 : Nat) ∧ (1 : Nat) = (1 : Nat) ∧ (0 : Nat) = (0 : Nat) ∧ t_1.snd.snd.snd.length + 1 = t'.snd.snd.snd.length ∧ cap = t'.snd.snd.fst) ∧ Tr
 26 (((1 : Nat) = (1 : Nat) ∧ (16 : Nat) = (16 : Nat) ∧ (∀ (i : Nat), i < 16 → [AV.int IntKind.i64 (fanF x.fst.ws x.snd i)] = [AV.int IntKind.i64 (fanF x.fst.ws
 x.snd i)]) ∧ True) ∧ Tr 1 ((↑t_1.fst.fst : Int) = (↑t'.fst.fst : Int)) ∧ Tr 18 (((1 : Nat) = (1 : Nat) ∧ (16 : Nat) = (16 : Nat) ∧ (∀ (i : Nat), i < 16 →
 [AV.int IntKind.i64 (fanF x.fst.ws t_1.fst.snd i)] = [AV.int IntKind.i64 (fanF x.fst.ws t'.fst.snd i)]) ∧ True) ∧ Tr 1 ((↑t_1.snd.fst : Int) + 1 = (↑t'.snd.fst
 : Int)) ∧ Tr 20 True)))) ∧ ((139 : TypeId) = (139 : TypeId) ∧ (true = true ∧ NilNil ∧ (0 : Nat) = (0 : Nat)) ∧ (true = true ∧ NilNil ∧ (0 : Nat) = (0 : Nat)) ∧
 True) ∧ devB x_3.fst.ws = devB x.fst.ws ∧ allocB x_3.fst.a = allocB x.fst.a ∧ true = true ∧ ((3 : TypeId) = (3 : TypeId) ∧ (1 : Nat) = (1 : Nat) ∧ cap =
 t'.snd.snd.fst ∧ t'.snd.snd.snd.length ≤ t_1.snd.snd.snd.length + 1 ∧ ∀ (i : Nat), i < t'.snd.snd.snd.length → (if i < t_1.snd.snd.snd.length then [AV.int
 IntKind.i64 (t_1.snd.snd.snd.getD i 0)] else [AV.int IntKind.i64 (if 0 + (i - t_1.snd.snd.snd.length) = 0 * 1 / 1 then fanF x.fst.ws t_1.fst.snd (↑t_1.snd.fst :
 Int).toNat else 0)]) = [AV.int IntKind.i64 (t'.snd.snd.snd.getD i 0)]) ∧ True))) (I64 ((↑t_1.fst.fst : Int) + 1) ∧ Exx (Nat × Nat × List Int) fun t' => (I t' ∧
 m t' < m t) ∧ ((true = true ∧ NilNil ∧ (0 : Nat) = (0 : Nat)) ∧ Tr 7 ((true = true ∧ NilNil ∧ (0 : Nat) = (0 : Nat) ∧ (1 : Nat) = (1 : Nat) ∧ (0 : Nat) = (0 :
 Nat) ∧ t_1.snd.snd.snd.length = t'.snd.snd.length ∧ t_1.snd.snd.fst = t'.snd.fst) ∧ Tr 26 (((1 : Nat) = (1 : Nat) ∧ (16 : Nat) = (16 : Nat) ∧ (∀ (i : Nat), i <
 16 → [AV.int IntKind.i64 (fanF x.fst.ws x.snd i)] = [AV.int IntKind.i64 (fanF x.fst.ws x.snd i)]) ∧ True) ∧ Tr 1 ((↑t_1.fst.fst : Int) + 1 = (↑t'.fst : Int)) ∧
 Tr 40 True))) ∧ ((139 : TypeId) = (139 : TypeId) ∧ (true = true ∧ NilNil ∧ (0 : Nat) = (0 : Nat)) ∧ (true = true ∧ NilNil ∧ (0 : Nat) = (0 : Nat)) ∧ True) ∧
 devB x.fst.ws = devB x.fst.ws ∧ allocB x.fst.a = allocB x.fst.a ∧ true = true ∧ ((3 : TypeId) = (3 : TypeId) ∧ (1 : Nat) = (1 : Nat) ∧ t_1.snd.snd.fst =
 t'.snd.fst ∧ t'.snd.snd.length ≤ t_1.snd.snd.snd.length ∧ ∀ (i : Nat), i < t'.snd.snd.length → [AV.int IntKind.i64 (t_1.snd.snd.snd.getD i 0)] = [AV.int
 IntKind.i64 (t'.snd.snd.getD i 0)]) ∧ True)))) (Exx Nat fun y => ((((true = true ∧ NilNil ∧ (0 : Nat) = (0 : Nat) ∧ (1 : Nat) = (1 : Nat) ∧ (0 : Nat) = (0 :
 Nat) ∧ t.snd.snd.length = (pagesL x.fst.ws x.snd).length ∧ t.snd.fst = y) ∧ Tr 1 ((0 : Int) = pagesErr x.fst.ws x.snd) ∧ True) ∧ True) ∧ ((139 : TypeId) = (139
 : TypeId) ∧ (true = true ∧ NilNil ∧ (0 : Nat) = (0 : Nat)) ∧ (true = true ∧ NilNil ∧ (0 : Nat) = (0 : Nat)) ∧ True) ∧ devB x.fst.ws = devB x.fst.ws ∧ allocB
 x.fst.a = allocB x.fst.a ∧ true = true ∧ ((3 : TypeId) = (3 : TypeId) ∧ (1 : Nat) = (1 : Nat) ∧ t.snd.fst = y ∧ (pagesL x.fst.ws x.snd).length ≤
 t.snd.snd.length ∧ ∀ (i : Nat), i < (pagesL x.fst.ws x.snd).length → [AV.int IntKind.i64 (t.snd.snd.getD i 0)] = [AV.int IntKind.i64 ((pagesL x.fst.ws
 x.snd).getD i 0)]) ∧ True) ∧ (pagesL x.fst.ws x.snd).length ≤ y ∧ y ≤ 9223372036854775807))) = (fnVCo tb [(51, specOf storeFanC), (52, specOf storeLeafC)] Tryd.f22 storePagesC (fun x => { loops := [(10, pages1 x), (18, pages2 x)], joins := [(9, pages0 x)] }) (fun _ av _ => tupSl4 av) (fun _ => []) (fun _ _ _ _ => [])) := by kernel_rfl 

theorem storePages_ok : SpecOk Tryd.prog 22 (specOf storePagesC) := by
  refine specOko mixed tb_ok (SPok.cons storeFan_ok (SPok.cons storeLeaf_ok SPok.nil)) Tryd.func22 (by decide) storePagesC_ok (an := (fun x => { loops := [(10, pages1 x), (18, pages2 x)], joins := [(9, pages0 x)] })) (σ := (fun _ av _ => tupSl4 av)) (op := (fun _ => [])) (cl := (fun _ _ _ _ => [])) ?_
  rw [← storePagesV]
  simp (maxSteps := 10000000) only [and_false, false_and, false_or, or_false, bOf_true, bOf_false, true_bOf, false_bOf, Exx, int_ite, merge_o, Tr_eq, true_and, and_true, exists_const, forall_const, implies_true, forall_eq, exists_eq, exists_eq', exists_eq_left, exists_eq_left', exists_eq_right, Prod.exists, Prod.forall, and_assoc, exists_and_left, BC_iff, Bool.not_eq_true', Bool.not_eq_false', decide_eq_true_eq, decide_eq_false_iff_not, I64, nat_cast_inj, Int.toNat_natCast, nats_iff, nats_iff', ints_iff, ints_iff', natss_iff, natss_iff', nilnil, litL_eq, str_inj, str_append, str_length, str_getD, str_take, lit1_iff, one_iff, two_iff, one_get, Nat.zero_add, Nat.sub_zero, Nat.reduceMul, Nat.reduceDiv, Nat.reduceAdd, Int.reduceToNat, Nat.not_lt_zero, if_false, if_true, Nat.le_refl, List.length_singleton, List.length_cons, List.length_nil, Bool.false_eq_true, not_true_eq_false, false_implies, not_false_eq_true, Prod.mk.injEq, devB_inj, allocB_inj]
  rintro s top ⟨h, h1, h2⟩
  have hbad : ∀ e : Int, e ≠ 0 → pagesErr s.ws top = e → (pagesL s.ws top).length = 0 ∧ (pagesL s.ws top).length ≤ 0 := fun e he h => by
    have : pagesL s.ws top = [] := by rw [pagesL, if_neg (by rw [h]; exact he)]
    rw [this]; exact ⟨rfl, Nat.le_refl _⟩
  refine ⟨s, rfl, rfl, h, h1, h2, fun hn => ?_, fun hz => ?_⟩
  · have e : pagesErr s.ws top = fanErr s.ws top := by rw [pagesErr, if_neg hn]
    have g := hbad _ hn e
    exact ⟨g.1, e.symm, rfl, rfl, g.1, g.2, by omega⟩
  refine ⟨fun t => t.2 = one0 top ∧ t.2.length ≤ t.1 ∧ t.1 ≤ 9223372036854775807, fun hne => ⟨by omega, by omega, fun cap hcap => ⟨cap, [top], ⟨by rw [one0, if_neg hne], hcap.1, hcap.2⟩, rfl, rfl, rfl, rfl, fun _ _ => rfl, rfl, Nat.le_refl _, fun j hj => ?_⟩⟩, fun h0 => ⟨0, [], ⟨by rw [one0, if_pos h0], Nat.le_refl _, by simp only; omega⟩, rfl, rfl, rfl, rfl, fun _ _ => rfl, rfl, rfl⟩, fun cap lst hx => ?_⟩
  · have hj1 : j < 1 := hj
    have : j = 0 := by omega
    subst this; rfl
  obtain ⟨hl, hc1, hc2⟩ := hx
  simp only at hl hc1 hc2
  refine ⟨fun t => t.1 ≤ 16 ∧ t.2.2 = pagesUp s.ws top t.1 ∧ (∀ k, k < t.1 → kidErr s.ws top k = 0) ∧ t.2.2.length ≤ t.2.1 ∧ t.2.1 ≤ 9223372036854775807, ⟨0, cap, lst, ⟨by omega, by rw [hl]; simp [pagesUp], fun k hk => absurd hk (Nat.not_lt_zero _), hc1, hc2⟩, rfl, rfl, rfl, rfl, Nat.le_refl _, fun _ _ => rfl⟩, fun t => 17 - t.1, fun i cap lst hx => ?_⟩
  obtain ⟨hi, hl, hk, hc1, hc2⟩ := hx
  simp only at hi hl hk hc1 hc2
  have hlen := pagesUp_len s.ws top i
  rw [← hl] at hlen
  have hK := fanF_I s.ws top i
  refine ⟨fun hlt => ⟨by omega, by omega, by omega, fun h0 => ?_, fun hne => ⟨s, rfl, rfl, h, hK.1, hK.2, fun hn => ?_, fun hz1 => ⟨by omega, by omega, fun cap2 hcap => ?_⟩⟩⟩, fun hge => ?_⟩
  · have e0 : kidErr s.ws top i = 0 := by
      rw [kidErr, h0, if_pos (show fanErr s.ws 0 = 0 from rfl), leafScan]
      exact scanE_zero _ _ fun k _ => rfl
    refine ⟨by omega, by omega, i + 1, cap, lst, ⟨by simp only; omega, ?_, fun k hk2 => ?_, hc1, hc2⟩, by simp only; omega, rfl, rfl, by omega, rfl, Nat.le_refl _, fun _ _ => rfl⟩
    · rw [pagesUp_succ, h0, kidL, fan_leaves0, one0, if_pos rfl, List.append_nil, List.append_nil]; exact hl
    · by_cases e : k = i
      · rw [e]; exact e0
      · exact hk k (by simp only at hk2; omega)
  · have ek : kidErr s.ws top i = fanErr s.ws (fanF s.ws top i) := by rw [kidErr, if_neg hn]
    have e : pagesErr s.ws top = fanErr s.ws (fanF s.ws top i) := by
      rw [pagesErr, if_pos hz, scanE_at 16 0 i (by omega) (fun k hk2 => by rw [Nat.zero_add]; exact hk k hk2) (by rw [Nat.zero_add, ek]; exact hn), Nat.zero_add, ek]
    have g := hbad _ hn e
    exact ⟨g.1, e.symm, rfl, rfl, g.1, g.2, by omega⟩
  · refine ⟨fun t => t.1.1 = i ∧ t.1.2 = fanF s.ws top i ∧ t.2.1 ≤ 16 ∧ t.2.2.2 = pagesUp s.ws top i ++ [fanF s.ws top i] ++ leavesL s.ws (fanF s.ws top i) t.2.1 ∧ (∀ k, k < t.2.1 → leafErr s.ws (fanF s.ws (fanF s.ws top i) k) = 0) ∧ t.2.2.2.length ≤ t.2.2.1 ∧ t.2.2.1 ≤ 9223372036854775807, ⟨i, fanF s.ws top i, 0, cap2, lst ++ [fanF s.ws top i], ⟨rfl, rfl, by simp only; omega, by rw [hl]; simp [leavesL], fun k hk2 => absurd hk2 (Nat.not_lt_zero _), by rw [List.length_append]; exact hcap.1, hcap.2⟩, by rw [List.length_append]; rfl, rfl, rfl, fun _ _ => rfl, rfl, rfl, rfl, rfl, by rw [List.length_append]; exact Nat.le_refl _, fun j hj => snocI hj⟩, fun t => 17 - t.2.1, fun i2 g j cap3 lst3 hx => ?_⟩
    obtain ⟨e1, e2, hj, hl3, hk3, hc3, hc4⟩ := hx
    simp only at e1 e2 hj hl3 hk3 hc3 hc4
    subst e1 e2
    have hlen3 : lst3.length ≤ 300 := by
      have h4 := pagesUp_len s.ws top i2
      have h5 := leavesL_len s.ws (fanF s.ws top i2) j
      rw [hl3, List.length_append, List.length_append]
      simp only [List.length_cons, List.length_nil]; omega
    have hF := fanF_I s.ws (fanF s.ws top i2) j
    have hnx : ∀ k, k < j → leafErr s.ws (fanF s.ws (fanF s.ws top i2) k) = 0 := hk3
    refine ⟨fun hlt3 => ⟨by omega, by omega, by omega, fun h0 => ?_, fun hne3 => ⟨s, rfl, rfl, h, hF.1, hF.2, fun hn => ?_, fun hz3 => ⟨by omega, by omega, fun cap5 hcap5 => ?_⟩⟩⟩, fun hge3 => ?_⟩
    · refine ⟨by omega, by omega, i2, fanF s.ws top i2, j + 1, cap3, lst3, ⟨rfl, rfl, by simp only; omega, ?_, fun k hk2 => ?_, hc3, hc4⟩, by simp only; omega, rfl, rfl, rfl, fun _ _ => rfl, by omega, rfl, Nat.le_refl _, fun _ _ => rfl⟩
      · rw [leavesL_succ, h0, one0, if_pos rfl, List.append_nil]; exact hl3
      · by_cases e : k = j
        · rw [e, h0]; rfl
        · exact hk3 k (by simp only at hk2; omega)
    · have el : leafScan s.ws (fanF s.ws top i2) = leafErr s.ws (fanF s.ws (fanF s.ws top i2) j) := by
        rw [leafScan, scanE_at 16 0 j (by omega) (fun k hk2 => by rw [Nat.zero_add]; exact hk3 k hk2) (by rw [Nat.zero_add]; exact hn), Nat.zero_add]
      have ek : kidErr s.ws top i2 = leafErr s.ws (fanF s.ws (fanF s.ws top i2) j) := by rw [kidErr, if_pos hz1, el]
      have e : pagesErr s.ws top = leafErr s.ws (fanF s.ws (fanF s.ws top i2) j) := by
        rw [pagesErr, if_pos hz, scanE_at 16 0 i2 (by omega) (fun k hk2 => by rw [Nat.zero_add]; exact hk k hk2) (by rw [Nat.zero_add, ek]; exact hn), Nat.zero_add, ek]
      have g := hbad _ hn e
      exact ⟨g.1, e.symm, rfl, rfl, g.1, g.2, by omega⟩
    · refine ⟨by omega, by omega, i2, fanF s.ws top i2, j + 1, cap5, lst3 ++ [fanF s.ws (fanF s.ws top i2) j], ⟨rfl, rfl, by simp only; omega, ?_, fun k hk2 => ?_, by rw [List.length_append]; exact hcap5.1, hcap5.2⟩, by simp only; omega, by rw [List.length_append]; rfl, rfl, rfl, fun _ _ => rfl, by omega, rfl, rfl, rfl, by rw [List.length_append]; exact Nat.le_refl _, fun k hk2 => snocI hk2⟩
      · rw [leavesL_succ, one0, if_neg hne3, ← List.append_assoc, ← hl3]
      · by_cases e : k = j
        · rw [e]; exact hz3
        · exact hk3 k (by simp only at hk2; omega)
    · have ej : j = 16 := by omega
      subst ej
      have e0 : kidErr s.ws top i2 = 0 := by
        rw [kidErr, if_pos hz1, leafScan]
        exact scanE_zero _ _ fun k hk2 => by rw [Nat.zero_add]; exact hk3 k hk2
      refine ⟨by omega, by omega, i2 + 1, cap3, lst3, ⟨by simp only; omega, ?_, fun k hk2 => ?_, hc3, hc4⟩, by simp only; omega, rfl, rfl, by omega, rfl, Nat.le_refl _, fun _ _ => rfl⟩
      · rw [pagesUp_succ, kidL, one0, if_neg hne, ← List.append_assoc]; exact hl3
      · by_cases e : k = i2
        · rw [e]; exact e0
        · exact hk k (by simp only at hk2; omega)
  · have ei : i = 16 := by omega
    subst ei
    have e : pagesErr s.ws top = 0 := by
      rw [pagesErr, if_pos hz]
      exact scanE_zero _ _ fun k hk2 => by rw [Nat.zero_add]; exact hk k hk2
    have eL : pagesL s.ws top = lst := by rw [pagesL, if_pos e, hl]
    rw [eL, e]
    exact ⟨rfl, rfl, Nat.le_refl _, fun _ _ => rfl, hc1, hc2⟩

end Yard
