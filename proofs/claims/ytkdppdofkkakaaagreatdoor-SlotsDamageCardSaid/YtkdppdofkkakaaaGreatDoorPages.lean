import Derived.Test.YtkdppdofkkakaaaGreatDoorSlotInv

namespace Yard
open Go Go.Sx Go.Proofs
set_option linter.unusedVariables false
set_option linter.unusedSimpArgs false
set_option maxRecDepth 4000
set_option maxHeartbeats 4000000

def zmZ (f : Nat->Int) : Nat->Nat->Int
 | 0, _ => 0
 | n + 1, i => if f i = 0 then zmZ f n (i + 1) else f i
theorem zdR {f : Nat->Int} : ∀ (n i : Nat), (∀ k, k < n->f (i + k) = 0)->zmZ f n i = 0
 | 0, _, _ => rfl
 | n + 1, i, h => by rw [zmZ, if_pos (show f i = 0 from h 0 (by omega)), zdR n (i + 1) fun k hk => by have := h (k + 1) (by omega); rwa [show i + (k + 1) = i + 1 + k by omega] at this]
theorem zkF {f : Nat->Int} : ∀ (n i t : Nat), t < n->(∀ k, k < t->f (i + k) = 0)->f (i + t) ≠ 0->zmZ f n i = f (i + t)
 | 0, _, _, h, _, _ => absurd h (Nat.not_lt_zero _)
 | n + 1, i, 0, h, _, hn => by rw [zmZ, if_neg (show ¬ f i = 0 from hn)]; rfl
 | n + 1, i, t + 1, h, hz, hn => by
   rw [zmZ, if_pos (show f i = 0 from hz 0 (by omega)), zkF n (i + 1) t (by omega) (fun k hk => by have := hz (k + 1) (by omega); rwa [show i + (k + 1) = i + 1 + k by omega] at this) (by rwa [show i + 1 + t = i + (t + 1) by omega])]
   congr 1; omega
def zfB (ws : List Nat) (g : Int) : Int := zmZ (fun j => za3 ws (fanF ws g j)) 16 0
def zfK (ws : List Nat) (top : Int) (i : Nat) : Int := if fanErr ws (fanF ws top i) = 0 then zfB ws (fanF ws top i) else fanErr ws (fanF ws top i)
def zbD (ws : List Nat) (top : Int) : Int := if fanErr ws top = 0 then zmZ (zfK ws top) 16 0 else fanErr ws top
def one0 (a : Int) : List Int := if a = 0 then [] else [a]
def zdA (ws : List Nat) (g : Int) (j : Nat) : List Int := (List.range j).flatMap fun j => one0 (fanF ws g j)
def kidL (ws : List Nat) (g : Int) : List Int := one0 g ++ zdA ws g 16
def zc9 (ws : List Nat) (top : Int) (i : Nat) : List Int := one0 top ++ (List.range i).flatMap fun i => kidL ws (fanF ws top i)
def zbM (ws : List Nat) (top : Int) : List Int := if zbD ws top = 0 then zc9 ws top 16 else []
def ze2 : Ctr where
 X := StoreT × Int
 Y := Nat
 conv := true
 tau := zoI
 pre := fun x => zaE x.1/\I64 x.2
 args := fun x => [.ptr 0 [] 0, i64 x.2]
 heap := fun x => zdF x.1
 Q := fun x cap => (zbM x.1.ws x.2).length <= cap/\cap <= 9223372036854775807
 res := fun x cap => .tup [.sl 4 [] 0 1 0 (zbM x.1.ws x.2).length cap, i64 (zbD x.1.ws x.2)]
 its := fun x _ => zdF x.1
 new := fun x cap => [rowI 3 .i64 cap (zbM x.1.ws x.2)]
theorem zmX : CtrOk ze2 :=
 ⟨fun _ _ _ _ => (rfl : 3 = 3), fun _ _ _ _ => ⟨rfl, rfl⟩, fun x _ _ _ _ => ⟨⟨zsG _, ⟨⟨fun _ _ => ⟨rfl, trivial⟩, trivial⟩, trivial⟩⟩, rfl, rfl, trivial⟩⟩
def zi4 (t n : Nat) (F : Fr) (_ : AH) : Option Ren := match F.getD t .any with
 | .sl q _ _ _ _ _ _ => some (qaE n n ++ [some q])
 | _ => some (qaE n n ++ [none])
def pages1 (x : StoreT × Int) : LA := { T := Nat × Nat × List Int, F := fun t => frm 77 [(0, .ptr 0 [] 0), (8, .sl 4 [] 0 1 0 t.2.2.length t.2.1), (35, fanA (fanF x.1.ws x.2)), (36, i64 (t.1 : Nat))], H := fun t => zdF x.1 ++ [.fence, rowI 3 .i64 t.2.1 t.2.2], ρ₁ := zi4 8 4, ρ₂ := zi4 8 4 }
def pages2 (x : StoreT × Int) : LA := { T := (Nat × Int) × Nat × Nat × List Int, F := fun t => frm 77 [(0, .ptr 0 [] 0), (8, .sl 4 [] 0 1 0 t.2.2.2.length t.2.2.1), (35, fanA (fanF x.1.ws x.2)), (36, i64 (t.1.1 : Nat)), (55, fanA (fanF x.1.ws t.1.2)), (56, i64 (t.2.1 : Nat))], H := fun t => zdF x.1 ++ [.fence, rowI 3 .i64 t.2.2.1 t.2.2.2], ρ₁ := zi4 8 4, ρ₂ := zi4 8 4 }

def pages0 (x : StoreT × Int) : LA := { T := Nat × List Int, F := fun t => frm 77 [(0, .ptr 0 [] 0), (6, .ptr 4 [] 0), (8, .sl 5 [] 0 1 0 t.2.length t.1)], H := fun t => zdF x.1 ++ [.fence, .cells 113 (fanV (fanF x.1.ws x.2)), rowI 3 .i64 t.1 t.2], ρ₁ := zi4 8 5, ρ₂ := zi4 8 5 }
theorem zeC (ws : List Nat) (g : Int) (j : Nat) : zdA ws g (j + 1) = zdA ws g j ++ one0 (fanF ws g j) := by
 simp only [zdA]
 rw [List.range_succ, List.flatMap_append]; simp
theorem zf3 (ws : List Nat) (top : Int) (i : Nat) : zc9 ws top (i + 1) = zc9 ws top i ++ kidL ws (fanF ws top i) := by
 simp only [zc9]
 rw [List.range_succ, List.flatMap_append]; simp
theorem zo9 (a : Int) : (one0 a).length <= 1 := by unfold one0; split <;> simp
theorem zhO (ws : List Nat) (g : Int) : ∀ j, (zdA ws g j).length <= j
 | 0 => by simp [zdA]
 | j + 1 => by
   have := zhO ws g j
   have h := zo9 (fanF ws g j)
   rw [zeC, List.length_append]; omega
theorem zhK (ws : List Nat) (top : Int) : ∀ i, (zc9 ws top i).length <= 1 + 17 * i
 | 0 => by have := zo9 top; simp [zc9]; exact this
 | i + 1 => by
   have := zhK ws top i
   have h := zhO ws (fanF ws top i) 16
   have h2 := zo9 (fanF ws top i)
   rw [zf3, List.length_append, kidL, List.length_append]; omega
theorem snocI {l : List Int} {v d : Int} {z : List AV} {i : Nat} (hi : i < (l ++ [v]).length) : (if i < l.length then [AV.int .i64 (l.getD i d)] else if i - l.length = 0 then [AV.int .i64 v] else z) = [AV.int .i64 ((l ++ [v]).getD i d)] := by
 rw [List.length_append] at hi
 simp only [List.length_cons, List.length_nil] at hi
 rw [zaM]
 by_cases e : i < l.length
 ·rw [if_pos e, if_pos e]
 ·rw [if_neg e, if_neg e, if_pos (by omega), show i - l.length = 0 by omega]; rfl
theorem zmD (ws : List Nat) : ∀ j, zdA ws 0 j = []
 | 0 => rfl
 | j + 1 => by rw [zeC, zmD ws j]; rfl

theorem zsH : (
 let q1 : Prop := true = true/\zaB/\(0 : Nat) = 0;
 let q2 : Prop := (146 : TypeId) = 146/\q1/\q1/\True;
 let q3 : Prop := (0 : Nat) + (1 : Nat) <= (1 : Nat);
 let q4 : Prop := (3 : TypeId) = 3;
 let q5 : Nat := 0 * 1 / 1;
 let q6 : Nat := (TI.mk (TK.int IntKind.i64) 1 8 (ZL.cons (Value.int IntKind.i64 0) ZL.nil) false).size; ∀ (x : StoreT × Int),
 let q7 : Prop := (zbM x.1.ws x.2).length = 0;
 let q8 : Prop := (1 : Nat) = 1/\(16 : Nat) = 16/\(∀ (i : Nat), i < 16->[AV.int .i64 (fanF x.1.ws x.2 i)] = [AV.int .i64 (fanF x.1.ws x.2 i)])/\True; zaE x.1/\I64 x.2->Exx (StoreT × Int) fun x_1 =>
 let q9 : Prop := (113 : Nat) = (113 : TypeId)/\(1 : Nat) = 1/\(16 : Nat) = 16/\(∀ (i : Nat), i < 16->[AV.int .i64 (fanF x_1.1.ws x_1.2 i)] = [AV.int .i64 (fanF x.1.ws x.2 i)])/\True; ((q1/\Tr 1 (x.2 = x_1.2)/\True)/\true = true/\q2/\devB x.1.ws = devB x_1.1.ws/\zaC x.1.a = zaC x_1.1.a/\True)/\(zaE x_1.1/\I64 x_1.2)/\∀ (y : Unit), True->BC (!decide (fanErr x_1.1.ws x_1.2 = (0 : Int))) (Exx Nat fun y => ((((q7/\y = 0)/\Tr 1 (fanErr x_1.1.ws x_1.2 = zbD x.1.ws x.2)/\True)/\True)/\q2/\devB x_1.1.ws = devB x.1.ws/\zaC x_1.1.a = zaC x.1.a/\true = true/\(y = 0/\q7)/\True)/\(zbM x.1.ws x.2).length <= y/\y <= 9223372036854775807) (Exx (Nat × List Int->Prop) fun I => BC (!decide (x.2 = (0 : Int))) (q3/\((1 : Nat) <= (9223372036854775807 : Nat)/\(1 : Nat) * (8 : Nat) <= (140737488355328 : Nat))/\∀ (cap : Nat), 1 <= cap/\cap <= 9223372036854775807->Exx (Nat × List Int) fun t => I t/\(q1/\Tr 5 (q1/\Tr 1 ((true = true/\zaB/\(0 : Nat) = 0/\(1 : Nat) = 1/\(0 : Nat) = 0/\1 = t.2.length/\cap = t.1)/\Tr 68 True)))/\q2/\devB x_1.1.ws = devB x.1.ws/\zaC x_1.1.a = zaC x.1.a/\true = true/\q9/\(q4/\(1 : Nat) = 1/\cap = t.1/\t.2.length <= 1/\∀ (i : Nat),
 let q10 : Nat := 0 + i; i < t.2.length->[AV.int .i64 (if q10 = q5 then x.2 else 0)] = [AV.int .i64 (t.2.getD i 0)])/\True) (Exx (Nat × List Int) fun t => I t/\(q1/\Tr 5 (q1/\Tr 1 ((t.2.length = 0/\t.1 = 0)/\Tr 68 True)))/\q2/\devB x_1.1.ws = devB x.1.ws/\zaC x_1.1.a = zaC x.1.a/\true = true/\q9/\(t.1 = 0/\t.2.length = 0)/\True)/\∀ (t : Nat × List Int), I t->Exx (Nat × Nat × List Int->Prop) fun I => Exx (Nat × Nat × List Int->Nat) fun m => (Exx (Nat × Nat × List Int) fun t_1 => I t_1/\(q1/\Tr 7 ((true = true/\zaB/\(0 : Nat) = 0/\(1 : Nat) = 1/\(0 : Nat) = 0/\t.2.length = t_1.2.2.length/\t.1 = t_1.2.1)/\Tr 26 (q8/\Tr 1 ((0 : Int) = (t_1.1 : Int))/\Tr 40 True)))/\q2/\devB x.1.ws = devB x.1.ws/\zaC x.1.a = zaC x.1.a/\true = true/\(q4/\(1 : Nat) = 1/\t.1 = t_1.2.1/\t_1.2.2.length <= t.2.length/\∀ (i : Nat), i < t_1.2.2.length->[AV.int .i64 (t.2.getD i 0)] = [AV.int .i64 (t_1.2.2.getD i 0)])/\True)/\∀ (t : Nat × Nat × List Int),
 let q11 : Prop := (t.1 : Int) < (↑(16 : Nat) : Int);
 let q12 : Int := fanF x.1.ws x.2 (t.1 : Int).toNat;
 let q13 : Int := (t.1 : Int) + 1;
 let q14 : Nat := t.2.2.length + 1; I t->BC (decide ((t.1 : Int) < (16 : Int))) (((0 : Int) <= (t.1 : Int)/\q11/\q11)/\BC (decide (q12 = (0 : Int))) (I64 q13/\Exx (Nat × Nat × List Int) fun t' =>
 let q15 : Prop := t.2.1 = t'.snd.1; (I t'/\m t' < m t)/\(q1/\Tr 7 ((true = true/\zaB/\(0 : Nat) = 0/\(1 : Nat) = 1/\(0 : Nat) = 0/\t.2.2.length = t'.snd.2.length/\q15)/\Tr 26 (q8/\Tr 1 (q13 = (↑t'.fst : Int))/\Tr 40 True)))/\q2/\devB x.1.ws = devB x.1.ws/\zaC x.1.a = zaC x.1.a/\true = true/\(q4/\(1 : Nat) = 1/\q15/\t'.snd.2.length <= t.2.2.length/\∀ (i : Nat), i < t'.snd.2.length->[AV.int .i64 (t.2.2.getD i 0)] = [AV.int .i64 (t'.snd.2.getD i 0)])/\True) (Exx (StoreT × Int) fun x_2 => ((q1/\Tr 1 (q12 = x_2.2)/\True)/\true = true/\q2/\devB x.1.ws = devB x_2.1.ws/\zaC x.1.a = zaC x_2.1.a/\True)/\(zaE x_2.1/\I64 x_2.2)/\∀ (y : Unit), True->BC (!decide (fanErr x_2.1.ws x_2.2 = (0 : Int))) (Exx Nat fun y => ((((q7/\y = 0)/\Tr 1 (fanErr x_2.1.ws x_2.2 = zbD x.1.ws x.2)/\True)/\True)/\q2/\devB x_2.1.ws = devB x.1.ws/\zaC x_2.1.a = zaC x.1.a/\true = true/\(y = 0/\q7)/\True)/\(zbM x.1.ws x.2).length <= y/\y <= 9223372036854775807) (q3/\true = true/\(t.2.2.length <= t.2.2.length/\t.2.1 = t.2.1)/\(q14 <= 9223372036854775807/\q14 * 8 <= 140737488355328)/\∀ (cap : Nat), q14 <= cap/\cap <= 9223372036854775807->Exx ((Nat × Int) × Nat × Nat × List Int->Prop) fun I_1 => Exx ((Nat × Int) × Nat × Nat × List Int->Nat) fun m_1 => (Exx ((Nat × Int) × Nat × Nat × List Int) fun t_1 =>
 let q16 : List Int := t_1.2.2.2;
 let q17 : Nat := q16.length;
 let q18 : Prop := cap = t_1.2.2.1; I_1 t_1/\(q1/\Tr 7 ((true = true/\zaB/\(0 : Nat) = 0/\(1 : Nat) = 1/\(0 : Nat) = 0/\q14 = q17/\q18)/\Tr 26 (q8/\Tr 1 ((t.1 : Int) = (t_1.1.1 : Int))/\Tr 18 (((1 : Nat) = 1/\(16 : Nat) = 16/\(∀ (i : Nat), i < 16->[AV.int .i64 (fanF x_2.1.ws x_2.2 i)] = [AV.int .i64 (fanF x.1.ws t_1.1.2 i)])/\True)/\Tr 1 ((0 : Int) = (t_1.2.1 : Int))/\Tr 20 True))))/\q2/\devB x_2.1.ws = devB x.1.ws/\zaC x_2.1.a = zaC x.1.a/\true = true/\(q4/\(1 : Nat) = 1/\q18/\q17 <= q14/\∀ (i : Nat),
 let q19 : Nat := 0 + (i - t.2.2.length); i < q17->(if i < t.2.2.length then [AV.int .i64 (t.2.2.getD i 0)] else [AV.int .i64 (if q19 = q5 then q12 else 0)]) = [AV.int .i64 (q16.getD i 0)])/\True)/\∀ (t_1 : (Nat × Int) × Nat × Nat × List Int),
 let q20 : Int := (t_1.2.1 : Int);
 let q21 : Prop := q20 < (↑(16 : Nat) : Int);
 let q22 : Int := fanF x.1.ws t_1.1.2 q20.toNat;
 let q23 : Int := q20 + 1;
 let q24 : Prop := I64 q23;
 let q25 : List Int := t_1.2.2.2;
 let q26 : Nat := q25.length;
 let q27 : Nat := t_1.2.2.1;
 let q28 : Int := (t_1.1.1 : Int);
 let q29 : Nat := q26 + 1;
 let q30 : Int := q28 + 1; I_1 t_1->BC (decide (q20 < (16 : Int))) (((0 : Int) <= q20/\q21/\q21)/\BC (decide (q22 = (0 : Int))) (q24/\Exx ((Nat × Int) × Nat × Nat × List Int) fun t' =>
 let q31 : List Int := t'.snd.2.2;
 let q32 : Nat := q31.length;
 let q33 : Prop := q27 = t'.snd.2.1; (I_1 t'/\m_1 t' < m_1 t_1)/\(q1/\Tr 7 ((true = true/\zaB/\(0 : Nat) = 0/\(1 : Nat) = 1/\(0 : Nat) = 0/\q26 = q32/\q33)/\Tr 26 (q8/\Tr 1 (q28 = (↑t'.fst.1 : Int))/\Tr 18 (((1 : Nat) = 1/\(16 : Nat) = 16/\(∀ (i : Nat), i < 16->[AV.int .i64 (fanF x.1.ws t_1.1.2 i)] = [AV.int .i64 (fanF x.1.ws t'.fst.2 i)])/\True)/\Tr 1 (q23 = (↑t'.snd.1 : Int))/\Tr 20 True))))/\q2/\devB x.1.ws = devB x.1.ws/\zaC x.1.a = zaC x.1.a/\true = true/\(q4/\(1 : Nat) = 1/\q33/\q32 <= q26/\∀ (i : Nat), i < q32->[AV.int .i64 (q25.getD i 0)] = [AV.int .i64 (q31.getD i 0)])/\True) (Exx (StoreT × Int) fun x_3 => ((q1/\Tr 1 (q22 = x_3.2)/\True)/\true = true/\q2/\devB x.1.ws = devB x_3.1.ws/\zaC x.1.a = zaC x_3.1.a/\True)/\(zaE x_3.1/\I64 x_3.2)/\∀ (y : Unit), True->BC (!decide (za3 x_3.1.ws x_3.2 = (0 : Int))) (Exx Nat fun y => ((((q7/\y = 0)/\Tr 1 (za3 x_3.1.ws x_3.2 = zbD x.1.ws x.2)/\True)/\True)/\q2/\devB x_3.1.ws = devB x.1.ws/\zaC x_3.1.a = zaC x.1.a/\true = true/\(y = 0/\q7)/\True)/\(zbM x.1.ws x.2).length <= y/\y <= 9223372036854775807) (q3/\true = true/\(q26 <= q26/\q27 = q27)/\(q29 <= 9223372036854775807/\q29 * 8 <= 140737488355328)/\∀ (cap : Nat), q29 <= cap/\cap <= 9223372036854775807->q24/\Exx ((Nat × Int) × Nat × Nat × List Int) fun t' =>
 let q34 : List Int := t'.snd.2.2;
 let q35 : Nat := q34.length;
 let q36 : Prop := cap = t'.snd.2.1; (I_1 t'/\m_1 t' < m_1 t_1)/\(q1/\Tr 7 ((true = true/\zaB/\(0 : Nat) = 0/\(1 : Nat) = 1/\(0 : Nat) = 0/\q29 = q35/\q36)/\Tr 26 (q8/\Tr 1 (q28 = (↑t'.fst.1 : Int))/\Tr 18 (((1 : Nat) = 1/\(16 : Nat) = 16/\(∀ (i : Nat), i < 16->[AV.int .i64 (fanF x.1.ws t_1.1.2 i)] = [AV.int .i64 (fanF x.1.ws t'.fst.2 i)])/\True)/\Tr 1 (q23 = (↑t'.snd.1 : Int))/\Tr 20 True))))/\q2/\devB x_3.1.ws = devB x.1.ws/\zaC x_3.1.a = zaC x.1.a/\true = true/\(q4/\(1 : Nat) = 1/\q36/\q35 <= q29/\∀ (i : Nat),
 let q37 : Nat := 0 + (i - q26); i < q35->(if i < q26 then [AV.int .i64 (q25.getD i 0)] else [AV.int .i64 (if q37 = q5 then q22 else 0)]) = [AV.int .i64 (q34.getD i 0)])/\True))) (I64 q30/\Exx (Nat × Nat × List Int) fun t' => (I t'/\m t' < m t)/\(q1/\Tr 7 ((true = true/\zaB/\(0 : Nat) = 0/\(1 : Nat) = 1/\(0 : Nat) = 0/\q26 = t'.snd.2.length/\q27 = t'.snd.1)/\Tr 26 (q8/\Tr 1 (q30 = (↑t'.fst : Int))/\Tr 40 True)))/\q2/\devB x.1.ws = devB x.1.ws/\zaC x.1.a = zaC x.1.a/\true = true/\(q4/\(1 : Nat) = 1/\q27 = t'.snd.1/\t'.snd.2.length <= q26/\∀ (i : Nat), i < t'.snd.2.length->[AV.int .i64 (q25.getD i 0)] = [AV.int .i64 (t'.snd.2.getD i 0)])/\True)))) (Exx Nat fun y => ((((true = true/\zaB/\(0 : Nat) = 0/\(1 : Nat) = 1/\(0 : Nat) = 0/\t.2.2.length = (zbM x.1.ws x.2).length/\t.2.1 = y)/\Tr 1 ((0 : Int) = zbD x.1.ws x.2)/\True)/\True)/\q2/\devB x.1.ws = devB x.1.ws/\zaC x.1.a = zaC x.1.a/\true = true/\(q4/\(1 : Nat) = 1/\t.2.1 = y/\(zbM x.1.ws x.2).length <= t.2.2.length/\∀ (i : Nat), i < (zbM x.1.ws x.2).length->[AV.int .i64 (t.2.2.getD i 0)] = [AV.int .i64 ((zbM x.1.ws x.2).getD i 0)])/\True)/\(zbM x.1.ws x.2).length <= y/\y <= 9223372036854775807))) = (zcP tb [(58, zaA zhZ), (59, zaA zgL)] Tryz.f17 ze2 (fun x => { loops := [(10, pages1 x), (18, pages2 x)], joins := [(9, pages0 x)] }) (fun _ av _ => qeX av) (fun _ => []) (fun _ _ _ _ => [])) := by kernel_rfl

theorem zoJ : SpecOk Tryz.prog 17 (zaA ze2) := by
 refine za1 zaH zaG (SPok.cons zk6 (SPok.cons zjV SPok.nil)) Tryz.func17 (by decide) zmX (Eq.mp zsH ?_)
 simp (maxSteps := 10000000) only [std, stdU, stdV, Exx, I64, Nat.reduceMul, Nat.reduceDiv, Nat.reduceAdd, Int.reduceToNat, zaU, zaO]
 rintro s top ⟨h, h1, h2⟩
 have hbad : ∀ e : Int, e ≠ 0->zbD s.ws top = e->(zbM s.ws top).length = 0/\(zbM s.ws top).length <= 0 := fun e he h => by
  have : zbM s.ws top = [] := by rw [zbM, if_neg (by rw [h]; exact he)]
  rw [this]; exact ⟨rfl, Nat.le_refl _⟩
 refine ⟨s, rfl, rfl, h, h1, h2, fun hn => ?_, fun hz => ?_⟩
 ·have e : zbD s.ws top = fanErr s.ws top := by rw [zbD, if_neg hn]
  have g := hbad _ hn e
  exact ⟨g.1, e.symm, rfl, rfl, g.1, g.2, by omega⟩
 refine ⟨fun t => t.2 = one0 top/\t.2.length <= t.1/\t.1 <= 9223372036854775807, fun hne => ⟨by omega, by omega, fun cap hcap => ⟨cap, [top], ⟨by rw [one0, if_neg hne], hcap.1, hcap.2⟩, rfl, rfl, rfl, rfl, fun _ _ => rfl, rfl, Nat.le_refl _, fun j hj => ?_⟩⟩, fun h0 => ⟨0, [], ⟨by rw [one0, if_pos h0], Nat.le_refl _, by simp only; omega⟩, rfl, rfl, rfl, rfl, fun _ _ => rfl, rfl, rfl⟩, fun cap lst hx => ?_⟩
 ·have hj1 : j < 1 := hj
  have : j = 0 := by omega
  subst this; rfl
 obtain ⟨hl, hc1, hc2⟩ := hx
 simp only at hl hc1 hc2
 refine ⟨fun t => t.1 <= 16/\t.2.2 = zc9 s.ws top t.1/\(∀ k, k < t.1->zfK s.ws top k = 0)/\t.2.2.length <= t.2.1/\t.2.1 <= 9223372036854775807, ⟨0, cap, lst, ⟨by omega, by rw [hl]; simp [zc9], fun k hk => absurd hk (Nat.not_lt_zero _), hc1, hc2⟩, rfl, rfl, rfl, rfl, Nat.le_refl _, fun _ _ => rfl⟩, fun t => 17 - t.1, fun i cap lst hx => ?_⟩
 obtain ⟨hi, hl, hk, hc1, hc2⟩ := hx
 simp only at hi hl hk hc1 hc2
 have hlen := zhK s.ws top i
 rw [<- hl] at hlen
 have hK := zj6 s.ws top i
 refine ⟨fun hlt => ⟨by omega, by omega, by omega, fun h0 => ?_, fun hne => ⟨s, rfl, rfl, h, hK.1, hK.2, fun hn => ?_, fun hz1 => ⟨by omega, by omega, fun cap2 hcap => ?_⟩⟩⟩, fun hge => ?_⟩
 ·have e0 : zfK s.ws top i = 0 := by
   rw [zfK, h0, if_pos (show fanErr s.ws 0 = 0 from rfl), zfB]
   exact zdR _ _ fun k _ => rfl
  refine ⟨by omega, by omega, i + 1, cap, lst, ⟨by simp only; omega, ?_, fun k hk2 => ?_, hc1, hc2⟩, by simp only; omega, rfl, rfl, by omega, rfl, Nat.le_refl _, fun _ _ => rfl⟩
  ·rw [zf3, h0, kidL, zmD, one0, if_pos rfl, List.append_nil, List.append_nil]; exact hl
  ·by_cases e : k = i
   ·rw [e]; exact e0
   ·exact hk k (by simp only at hk2; omega)
 ·have ek : zfK s.ws top i = fanErr s.ws (fanF s.ws top i) := by rw [zfK, if_neg hn]
  have e : zbD s.ws top = fanErr s.ws (fanF s.ws top i) := by
   rw [zbD, if_pos hz, zkF 16 0 i (by omega) (fun k hk2 => by rw [Nat.zero_add]; exact hk k hk2) (by rw [Nat.zero_add, ek]; exact hn), Nat.zero_add, ek]
  have g := hbad _ hn e
  exact ⟨g.1, e.symm, rfl, rfl, g.1, g.2, by omega⟩
 ·refine ⟨fun t => t.1.1 = i/\t.1.2 = fanF s.ws top i/\t.2.1 <= 16/\t.2.2.2 = zc9 s.ws top i ++ [fanF s.ws top i] ++ zdA s.ws (fanF s.ws top i) t.2.1/\(∀ k, k < t.2.1->za3 s.ws (fanF s.ws (fanF s.ws top i) k) = 0)/\t.2.2.2.length <= t.2.2.1/\t.2.2.1 <= 9223372036854775807, ⟨i, fanF s.ws top i, 0, cap2, lst ++ [fanF s.ws top i], ⟨rfl, rfl, by simp only; omega, by rw [hl]; simp [zdA], fun k hk2 => absurd hk2 (Nat.not_lt_zero _), by rw [List.length_append]; exact hcap.1, hcap.2⟩, by rw [List.length_append]; rfl, rfl, rfl, fun _ _ => rfl, rfl, rfl, rfl, rfl, by rw [List.length_append]; exact Nat.le_refl _, fun j hj => snocI hj⟩, fun t => 17 - t.2.1, fun i2 g j cap3 lst3 hx => ?_⟩
  obtain ⟨e1, e2, hj, hl3, hk3, hc3, hc4⟩ := hx
  simp only at e1 e2 hj hl3 hk3 hc3 hc4
  subst e1 e2
  have hlen3 : lst3.length <= 300 := by
   have h4 := zhK s.ws top i2
   have h5 := zhO s.ws (fanF s.ws top i2) j
   rw [hl3, List.length_append, List.length_append]
   simp only [List.length_cons, List.length_nil]; omega
  have hF := zj6 s.ws (fanF s.ws top i2) j
  have hnx : ∀ k, k < j->za3 s.ws (fanF s.ws (fanF s.ws top i2) k) = 0 := hk3
  refine ⟨fun hlt3 => ⟨by omega, by omega, by omega, fun h0 => ?_, fun hne3 => ⟨s, rfl, rfl, h, hF.1, hF.2, fun hn => ?_, fun hz3 => ⟨by omega, by omega, fun cap5 hcap5 => ?_⟩⟩⟩, fun hge3 => ?_⟩
  ·refine ⟨by omega, by omega, i2, fanF s.ws top i2, j + 1, cap3, lst3, ⟨rfl, rfl, by simp only; omega, ?_, fun k hk2 => ?_, hc3, hc4⟩, by simp only; omega, rfl, rfl, rfl, fun _ _ => rfl, by omega, rfl, Nat.le_refl _, fun _ _ => rfl⟩
   ·rw [zeC, h0, one0, if_pos rfl, List.append_nil]; exact hl3
   ·by_cases e : k = j
    ·rw [e, h0]; rfl
    ·exact hk3 k (by simp only at hk2; omega)
  ·have el : zfB s.ws (fanF s.ws top i2) = za3 s.ws (fanF s.ws (fanF s.ws top i2) j) := by
    rw [zfB, zkF 16 0 j (by omega) (fun k hk2 => by rw [Nat.zero_add]; exact hk3 k hk2) (by rw [Nat.zero_add]; exact hn), Nat.zero_add]
   have ek : zfK s.ws top i2 = za3 s.ws (fanF s.ws (fanF s.ws top i2) j) := by rw [zfK, if_pos hz1, el]
   have e : zbD s.ws top = za3 s.ws (fanF s.ws (fanF s.ws top i2) j) := by
    rw [zbD, if_pos hz, zkF 16 0 i2 (by omega) (fun k hk2 => by rw [Nat.zero_add]; exact hk k hk2) (by rw [Nat.zero_add, ek]; exact hn), Nat.zero_add, ek]
   have g := hbad _ hn e
   exact ⟨g.1, e.symm, rfl, rfl, g.1, g.2, by omega⟩
  ·refine ⟨by omega, by omega, i2, fanF s.ws top i2, j + 1, cap5, lst3 ++ [fanF s.ws (fanF s.ws top i2) j], ⟨rfl, rfl, by simp only; omega, ?_, fun k hk2 => ?_, by rw [List.length_append]; exact hcap5.1, hcap5.2⟩, by simp only; omega, by rw [List.length_append]; rfl, rfl, rfl, fun _ _ => rfl, by omega, rfl, rfl, rfl, by rw [List.length_append]; exact Nat.le_refl _, fun k hk2 => snocI hk2⟩
   ·rw [zeC, one0, if_neg hne3, <- List.append_assoc, <- hl3]
   ·by_cases e : k = j
    ·rw [e]; exact hz3
    ·exact hk3 k (by simp only at hk2; omega)
  ·have ej : j = 16 := by omega
   subst ej
   have e0 : zfK s.ws top i2 = 0 := by
    rw [zfK, if_pos hz1, zfB]
    exact zdR _ _ fun k hk2 => by rw [Nat.zero_add]; exact hk3 k hk2
   refine ⟨by omega, by omega, i2 + 1, cap3, lst3, ⟨by simp only; omega, ?_, fun k hk2 => ?_, hc3, hc4⟩, by simp only; omega, rfl, rfl, by omega, rfl, Nat.le_refl _, fun _ _ => rfl⟩
   ·rw [zf3, kidL, one0, if_neg hne, <- List.append_assoc]; exact hl3
   ·by_cases e : k = i2
    ·rw [e]; exact e0
    ·exact hk k (by simp only at hk2; omega)
 ·have ei : i = 16 := by omega
  subst ei
  have e : zbD s.ws top = 0 := by
   rw [zbD, if_pos hz]
   exact zdR _ _ fun k hk2 => by rw [Nat.zero_add]; exact hk k hk2
  have eL : zbM s.ws top = lst := by rw [zbM, if_pos e, hl]
  rw [eL, e]
  exact ⟨rfl, rfl, Nat.le_refl _, fun _ _ => rfl, hc1, hc2⟩

end Yard
