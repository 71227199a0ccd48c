import Derived.Test.YtkdppdofkkakaaaGreatDoorTreeLaw
import Derived.Test.YtkdppdofkkakaaaGreatDoorGrTree
import Derived.Test.YtkdppdofkkakaaaGreatDoorStand

namespace Yard
open Go Go.Sx Go.Proofs
set_option linter.unusedVariables false
set_option linter.unusedSimpArgs false
set_option maxRecDepth 4000
set_option maxHeartbeats 4000000

abbrev TbX : Type := List (List Int) × Nat × Nat
def treeBlocksC : Ctr := zbU TbX (fun x => (∀ e ∈ x.1, ∀ v ∈ e, I64 v)/\x.1.length <= maxLen/\x.2.1 < 256/\x.2.2 < 256) (fun x => [qbC x.1, .int .u8 (x.2.1 : Nat), .int .u8 (x.2.2 : Nat)]) (fun _ => .bool true)
def tbJ12 (x : TbX) : LA := { T := (StoreT × TickT) × (List Int × Nat) × (List Int × Nat), F := fun t => frm 95 [(8, .ptr 1 [] 0), (11, .sl 5 [] 0 1 0 t.2.1.1.length t.2.1.2), (13, .sl 6 [] 0 1 0 t.2.2.1.length t.2.2.2)], H := fun t => [.fence, zrF 2 3 4 t.1.2, zkQ 3 4, devI t.1.1.ws, zd1 t.1.1.a, intR t.2.1.2 t.2.1.1, intR t.2.2.2 t.2.2.1], ρ₁ := zgR 5 [11, 13], ρ₂ := zgR 5 [11, 13] }
def tbLA (x : TbX) : LA := { T := (StoreT × TickT) × (List Int × Nat) × Nat, F := fun t => frm 95 [(15, .sl 5 [] 0 1 0 t.2.1.1.length t.2.1.2), (16, .ptr 6 [] 0), (17, i64 (t.2.2 : Nat))], H := fun t => [.fence, zrF 2 3 4 t.1.2, zkQ 3 4, devI t.1.1.ws, zd1 t.1.1.a, intR t.2.1.2 t.2.1.1, setI (t.1.1.a.n, t.1.1.a.w)], ρ₁ := zgR 5 [15, 16], ρ₂ := zgR 5 [15, 16] }
theorem zx2 : (
 let q1 : Prop := true = true/\zaC/\(0 : Nat) = 0;
 let q2 : Prop := (71 : TypeId) = 71;
 let q3 : Prop := q1/\True;
 let q4 : Prop := (146 : TypeId) = 146/\q1/\q3;
 let q5 : Prop := Exx Unit fun y => ((false = true/\True)/\true = true/\True)/\True;
 let q6 : Prop := (3 : TypeId) = 3;
 let q7 : Nat := (TI.mk (TK.int IntKind.i64) 1 8 (ZL.cons (Value.int IntKind.i64 0) ZL.nil) false).size; ∀ (x : List (List Int) × Nat × Nat),
 let q8 : Int := (x.1.length : Int); (∀ (e : List Int), e ∈ x.1->∀ (v : Int), v ∈ e->I64 v)/\x.1.length <= maxLen/\x.2.1 < 256/\x.2.2 < 256->∀ (m : Int), m = IntKind.i64.wrap (x.2.1 : Int)->(5 : Int) ≠ (0 : Int)/\∀ (n : Int), n = m.tmod 5->Exx Unit fun x_1 => Tr 1 (true = true/\True)/\Tr 1 (∀ (y : Unit), True->(0 : Int) <= n/\∀ (n_1 : Int),
 let q9 : Int := IntKind.i64.wrap (1 * 2 ^ min n.toNat IntKind.i64.bits); n_1 = q9->BC (decide (q8 < n_1)) (Exx Unit fun x => Tr 1 (true = true/\True)/\Tr 1 (∀ (y : Unit), True->Exx Unit fun y => ((true = true/\True)/\true = true/\True)/\True)) (Exx (Nat × Int) fun x_2 =>
 let q10 : TickT := zjJ (x_2.1 : Int) x_2.2 100; ((Tr 1 ((120 : Int) = (x_2.1 : Int))/\Tr 1 ((20 : Int) = x_2.2)/\True)/\true = true/\True)/\(x_2.1 <= 3072/\I64 x_2.2)/\∀ (y : Unit), True->(0 : Int) <= n/\∀ (n_2 : Int), n_2 = q9->(0 : Int) <= n_2/\(0 <= n_2.toNat/\n_2.toNat <= x.1.length)/\Exx ((StoreT × TickT) × (List (List Int) × Nat) × Nat) fun x_3 =>
 let q11 : List (List Int) × Nat := x_3.2.1;
 let q12 : List (List Int) := q11.1;
 let q13 : Nat := q12.length;
 let q14 : Nat := q11.2;
 let q15 : Nat := x_3.2.2;
 let q16 : Nat := 2 ^ q15; ((q1/\(n_2.toNat - 0 = q13/\∀ (i : Nat), i < q13->[AV.arr 1 2 fun j => [AV.int .i64 ((x.1.getD (0 + i) []).getD j 0)]] = [AV.arr 1 2 fun j => [AV.int .i64 ((q12.getD i []).getD j 0)]])/\Tr 1 ((x.2.2 : Int) = (q14 : Int))/\True)/\true = true/\(q2/\q1/\q1/\q1/\Tr 1 (q10.blocks = x_3.1.2.blocks)/\Tr 1 (q10.slots = x_3.1.2.slots)/\Tr 1 (q10.gens = x_3.1.2.gens)/\Tr 1 (q10.top = x_3.1.2.top)/\Tr 1 (q10.high = x_3.1.2.high)/\Tr 1 (q10.free = x_3.1.2.free)/\True)/\q4/\devB (zcM x_2.1 0).ws = devB x_3.1.1.ws/\zaB (zcM x_2.1 0).a = zaB x_3.1.1.a/\True)/\((Exx DeskT fun d => GS q12 0 x_3.1.1 x_3.1.2 d [])/\(∀ (e : List Int), e ∈ q12->∀ (v : Int), v ∈ e->I64 v)/\q14 < 256/\q15 <= 4/\q13 = q16)/\∀ (y : StoreT × TickT × Int), (Exx DeskT fun d => Exx (List EntT × List Int) fun p => GS q12 q16 y.1 y.2.1 d [(q15, y.2.2, p)])->Exx ((StoreT × TickT) × Unit) fun x => (q3/\true = true/\(q2/\q1/\q1/\q1/\Tr 1 (y.2.1.blocks = x.1.2.blocks)/\Tr 1 (y.2.1.slots = x.1.2.slots)/\Tr 1 (y.2.1.gens = x.1.2.gens)/\Tr 1 (y.2.1.top = x.1.2.top)/\Tr 1 (y.2.1.high = x.1.2.high)/\Tr 1 (y.2.1.free = x.1.2.free)/\True)/\q4/\devB y.1.ws = devB x.1.1.ws/\zaB y.1.a = zaB x.1.1.a/\True)/\(zaG x.1.1/\True)/\∀ (y_1 : Unit), True->Exx (List Nat × Int × Nat) fun x_4 =>
 let q17 : EB := imgT x_4.1 x_4.2.2 x_4.2.1;
 let q18 : List Int := q17.2;
 let q19 : Nat := q18.length; ((cstr (zaD x.1.1.ws) = cstr x_4.1/\Tr 1 (y.2.2 = x_4.2.1)/\Tr 1 (n = (x_4.2.2 : Int))/\True)/\true = true/\True)/\(Oct x_4.1/\I64 x_4.2.1/\x_4.2.2 < 13)/\∀ (y : Nat × Nat), (q17.1.length <= y.1/\y.1 <= 9223372036854775807)/\q19 <= y.2/\y.2 <= 9223372036854775807->(Exx ((StoreT × TickT) × Unit) fun x_5 => (q3/\true = true/\(q2/\q1/\q1/\q1/\Tr 1 (x.1.2.blocks = x_5.1.2.blocks)/\Tr 1 (x.1.2.slots = x_5.1.2.slots)/\Tr 1 (x.1.2.gens = x_5.1.2.gens)/\Tr 1 (x.1.2.top = x_5.1.2.top)/\Tr 1 (x.1.2.high = x_5.1.2.high)/\Tr 1 (x.1.2.free = x_5.1.2.free)/\True)/\q4/\devB x.1.1.ws = devB x_5.1.1.ws/\zaB x.1.1.a = zaB x_5.1.1.a/\True)/\(zaG x_5.1.1/\True)/\∀ (y_2 : Unit), True->Exx (List Nat × Int) fun x => ((cstr (zaD x_5.1.1.ws) = cstr x.1/\Tr 1 (x_5.1.2.top = x.2)/\True)/\true = true/\True)/\(Oct x.1/\I64 x.2)/\∀ (y_3 : Nat), (zcJ x.1 x.2).length <= y_3/\y_3 <= 9223372036854775807->Exx ((StoreT × TickT) × (List Int × Nat) × List Int × Nat->Prop) fun I => BC (!(zbW (imgN x_4.1) x_4.2.2 x_4.2.1).isSome) q5 (BC (!decide (zeQ x.1 x.2)) q5 (Exx ((StoreT × TickT) × (List Int × Nat) × List Int × Nat) fun t =>
 let q20 : List Int × Nat := t.2.1;
 let q21 : List Int := q20.1;
 let q22 : Nat := q21.length;
 let q23 : Prop := y.2 = q20.2;
 let q24 : List Int × Nat := t.2.2;
 let q25 : List Int := q24.1;
 let q26 : Nat := q25.length;
 let q27 : Prop := y_3 = q24.2;
 let q28 : TickT := t.1.2;
 let q29 : StoreT := t.1.1; I t/\Tr 8 (q1/\Tr 2 ((true = true/\zaC/\(0 : Nat) = 0/\(1 : Nat) = 1/\(0 : Nat) = 0/\q19 = q22/\q23)/\Tr 1 ((true = true/\zaC/\(0 : Nat) = 0/\(1 : Nat) = 1/\(0 : Nat) = 0/\(zcJ x.1 x.2).length = q26/\q27)/\Tr 81 True)))/\true = true/\(q2/\q1/\q1/\q1/\Tr 1 (x_5.1.2.blocks = q28.blocks)/\Tr 1 (x_5.1.2.slots = q28.slots)/\Tr 1 (x_5.1.2.gens = q28.gens)/\Tr 1 (x_5.1.2.top = q28.top)/\Tr 1 (x_5.1.2.high = q28.high)/\Tr 1 (x_5.1.2.free = q28.free)/\True)/\q4/\devB x_5.1.1.ws = devB q29.ws/\zaB x_5.1.1.a = zaB q29.a/\(q6/\(1 : Nat) = 1/\q23/\q22 <= q19/\∀ (i : Nat), i < q22->[AV.int .i64 (q18.getD i 0)] = [AV.int .i64 (q21.getD i 0)])/\(q6/\(1 : Nat) = 1/\q27/\q26 <= (zcJ x.1 x.2).length/\∀ (i : Nat), i < q26->[AV.int .i64 ((zcJ x.1 x.2).getD i 0)] = [AV.int .i64 (q25.getD i 0)])/\True))/\∀ (t : (StoreT × TickT) × (List Int × Nat) × List Int × Nat),
 let q30 : List Int := t.2.1.1;
 let q31 : Nat := q30.length;
 let q32 : Nat := 2 + q31;
 let q33 : List Int := t.2.2.1;
 let q34 : Nat := q33.length;
 let q35 : Nat := q32 + q34;
 let q36 : StoreT := t.1.1;
 let q37 : TickT := t.1.2; I t->0 + q31 <= q31/\true = true/\((2 : Nat) <= (2 : Nat)/\(2 : Nat) = 2)/\(q32 <= 9223372036854775807/\q32 * 8 <= 140737488355328)/\∀ (cap : Nat), q32 <= cap/\cap <= 9223372036854775807->0 + q34 <= q34/\true = true/\(q32 <= q32/\cap = cap)/\(q35 <= 9223372036854775807/\q35 * 8 <= 140737488355328)/\∀ (cap : Nat), q35 <= cap/\cap <= 9223372036854775807->Exx AllocT fun x => (q3/\true = true/\zaB q36.a = zaB x/\True)/\za7 x/\∀ (y : Unit), True->Exx ((StoreT × TickT) × (List Int × Nat) × Nat->Prop) fun I => Exx ((StoreT × TickT) × (List Int × Nat) × Nat->Nat) fun m => (Exx ((StoreT × TickT) × (List Int × Nat) × Nat) fun t =>
 let q38 : List Int × Nat := t.2.1;
 let q39 : List Int := q38.1;
 let q40 : Nat := q39.length;
 let q41 : Prop := cap = q38.2; I t/\Tr 15 ((true = true/\zaC/\(0 : Nat) = 0/\(1 : Nat) = 1/\(0 : Nat) = 0/\q35 = q40/\q41)/\q1/\Tr 1 ((0 : Int) = (t.2.2 : Int))/\Tr 77 True)/\true = true/\(q2/\q1/\q1/\q1/\Tr 1 (q37.blocks = t.1.2.blocks)/\Tr 1 (q37.slots = t.1.2.slots)/\Tr 1 (q37.gens = t.1.2.gens)/\Tr 1 (q37.top = t.1.2.top)/\Tr 1 (q37.high = t.1.2.high)/\Tr 1 (q37.free = t.1.2.free)/\True)/\q4/\devB q36.ws = devB t.1.1.ws/\zaB x = zaB t.1.1.a/\(q6/\(1 : Nat) = 1/\q41/\q40 <= q35/\∀ (i : Nat), i < q40->(if i < q32 then if i < 2 then [AV.int .i64 (if i = 1 * 1 / 1 then 1 else if i = 0 * 1 / 1 then 0 else 0)] else [AV.int .i64 (q30.getD (0 + (i - 2)) 0)] else [AV.int .i64 (q33.getD (0 + (i - q32)) 0)]) = [AV.int .i64 (q39.getD i 0)])/\setB (x.n, x.w) = setB (t.1.1.a.n, t.1.1.a.w)/\True)/\∀ (t : (StoreT × TickT) × (List Int × Nat) × Nat),
 let q42 : Int := (t.2.2 : Int);
 let q43 : List Int × Nat := t.2.1;
 let q44 : List Int := q43.1;
 let q45 : Nat := q44.length;
 let q46 : Int := (q45 : Int);
 let q47 : Prop := q42 < q46;
 let q48 : Nat := 0 + q42.toNat;
 let q49 : Ob := setB (t.1.1.a.n, t.1.1.a.w);
 let q50 : Int := q42 + 1; I t->BC (decide q47) (((0 : Int) <= q42/\q47)/\q48 < q45/\Exx ((Nat × Nat) × Int) fun x => ((q1/\Tr 1 (q44.getD q48 0 = x.2)/\True)/\true = true/\q49 = setB x.1/\True)/\(SetW x.1/\I64 x.2)/\∀ (y : Unit), True->BC (!hasN x.1 x.2) q5 (I64 q50/\Exx ((StoreT × TickT) × (List Int × Nat) × Nat) fun t' =>
 let q51 : List Int × Nat := t'.snd.1;
 let q52 : List Int := q51.1;
 let q53 : Nat := q52.length;
 let q54 : Prop := q43.2 = q51.2; (I t'/\m t' < m t)/\Tr 15 ((true = true/\zaC/\(0 : Nat) = 0/\(1 : Nat) = 1/\(0 : Nat) = 0/\q45 = q53/\q54)/\q1/\Tr 1 (q50 = (↑t'.snd.2 : Int))/\Tr 77 True)/\true = true/\(q2/\q1/\q1/\q1/\Tr 1 (t.1.2.blocks = t'.fst.2.blocks)/\Tr 1 (t.1.2.slots = t'.fst.2.slots)/\Tr 1 (t.1.2.gens = t'.fst.2.gens)/\Tr 1 (t.1.2.top = t'.fst.2.top)/\Tr 1 (t.1.2.high = t'.fst.2.high)/\Tr 1 (t.1.2.free = t'.fst.2.free)/\True)/\q4/\devB t.1.1.ws = devB t'.fst.1.ws/\zaB t.1.1.a = zaB t'.fst.1.a/\(q6/\(1 : Nat) = 1/\q54/\q53 <= q45/\∀ (i : Nat), i < q53->[AV.int .i64 (q44.getD i 0)] = [AV.int .i64 (q52.getD i 0)])/\setB x.1 = setB (t'.fst.1.a.n, t'.fst.1.a.w)/\True)) (Exx ((Nat × Nat) × Unit) fun x =>
 let q55 : Int := (↑(bitsL x.1.1 x.1.2).length : Int); (q3/\true = true/\q49 = setB x.1/\True)/\(SetW x.1/\True)/\∀ (y : Unit), True->Exx Unit fun y => ((decide (q55 = q46) = true/\True)/\true = true/\True)/\True))/\Exx ((StoreT × TickT) × Unit) fun x_5 => (q3/\true = true/\(q2/\q1/\q1/\q1/\Tr 1 (x.1.2.blocks = x_5.1.2.blocks)/\Tr 1 (x.1.2.slots = x_5.1.2.slots)/\Tr 1 (x.1.2.gens = x_5.1.2.gens)/\Tr 1 (x.1.2.top = x_5.1.2.top)/\Tr 1 (x.1.2.high = x_5.1.2.high)/\Tr 1 (x.1.2.free = x_5.1.2.free)/\True)/\q4/\devB x.1.1.ws = devB x_5.1.1.ws/\zaB x.1.1.a = zaB x_5.1.1.a/\True)/\(zaG x_5.1.1/\True)/\∀ (y_2 : Unit), True->Exx (List Nat × Int) fun x_6 => ((cstr (zaD x_5.1.1.ws) = cstr x_6.1/\Tr 1 (x.1.2.top = x_6.2)/\True)/\true = true/\True)/\(Oct x_6.1/\I64 x_6.2)/\∀ (y_3 : Nat), (zcJ x_6.1 x_6.2).length <= y_3/\y_3 <= 9223372036854775807->Exx ((StoreT × TickT) × (List Int × Nat) × List Int × Nat->Prop) fun I => BC (!(zbW (imgN x_4.1) x_4.2.2 x_4.2.1).isSome) q5 (BC (!decide (zeQ x_6.1 x_6.2)) q5 (Exx ((StoreT × TickT) × (List Int × Nat) × List Int × Nat) fun t =>
 let q56 : List Int × Nat := t.2.1;
 let q57 : List Int := q56.1;
 let q58 : Nat := q57.length;
 let q59 : Prop := y.2 = q56.2;
 let q60 : List Int × Nat := t.2.2;
 let q61 : List Int := q60.1;
 let q62 : Nat := q61.length;
 let q63 : Prop := y_3 = q60.2;
 let q64 : TickT := t.1.2;
 let q65 : StoreT := t.1.1; I t/\Tr 8 (q1/\Tr 2 ((true = true/\zaC/\(0 : Nat) = 0/\(1 : Nat) = 1/\(0 : Nat) = 0/\q19 = q58/\q59)/\Tr 1 ((true = true/\zaC/\(0 : Nat) = 0/\(1 : Nat) = 1/\(0 : Nat) = 0/\(zcJ x_6.1 x_6.2).length = q62/\q63)/\Tr 81 True)))/\true = true/\(q2/\q1/\q1/\q1/\Tr 1 (x_5.1.2.blocks = q64.blocks)/\Tr 1 (x_5.1.2.slots = q64.slots)/\Tr 1 (x_5.1.2.gens = q64.gens)/\Tr 1 (x_5.1.2.top = q64.top)/\Tr 1 (x_5.1.2.high = q64.high)/\Tr 1 (x_5.1.2.free = q64.free)/\True)/\q4/\devB x_5.1.1.ws = devB q65.ws/\zaB x_5.1.1.a = zaB q65.a/\(q6/\(1 : Nat) = 1/\q59/\q58 <= q19/\∀ (i : Nat), i < q58->[AV.int .i64 (q18.getD i 0)] = [AV.int .i64 (q57.getD i 0)])/\(q6/\(1 : Nat) = 1/\q63/\q62 <= (zcJ x_6.1 x_6.2).length/\∀ (i : Nat), i < q62->[AV.int .i64 ((zcJ x_6.1 x_6.2).getD i 0)] = [AV.int .i64 (q61.getD i 0)])/\True))/\∀ (t : (StoreT × TickT) × (List Int × Nat) × List Int × Nat),
 let q66 : List Int := t.2.1.1;
 let q67 : Nat := q66.length;
 let q68 : Nat := 2 + q67;
 let q69 : List Int := t.2.2.1;
 let q70 : Nat := q69.length;
 let q71 : Nat := q68 + q70;
 let q72 : StoreT := t.1.1;
 let q73 : TickT := t.1.2; I t->0 + q67 <= q67/\true = true/\((2 : Nat) <= (2 : Nat)/\(2 : Nat) = 2)/\(q68 <= 9223372036854775807/\q68 * 8 <= 140737488355328)/\∀ (cap : Nat), q68 <= cap/\cap <= 9223372036854775807->0 + q70 <= q70/\true = true/\(q68 <= q68/\cap = cap)/\(q71 <= 9223372036854775807/\q71 * 8 <= 140737488355328)/\∀ (cap : Nat), q71 <= cap/\cap <= 9223372036854775807->Exx AllocT fun x => (q3/\true = true/\zaB q72.a = zaB x/\True)/\za7 x/\∀ (y : Unit), True->Exx ((StoreT × TickT) × (List Int × Nat) × Nat->Prop) fun I => Exx ((StoreT × TickT) × (List Int × Nat) × Nat->Nat) fun m => (Exx ((StoreT × TickT) × (List Int × Nat) × Nat) fun t =>
 let q74 : List Int × Nat := t.2.1;
 let q75 : List Int := q74.1;
 let q76 : Nat := q75.length;
 let q77 : Prop := cap = q74.2; I t/\Tr 15 ((true = true/\zaC/\(0 : Nat) = 0/\(1 : Nat) = 1/\(0 : Nat) = 0/\q71 = q76/\q77)/\q1/\Tr 1 ((0 : Int) = (t.2.2 : Int))/\Tr 77 True)/\true = true/\(q2/\q1/\q1/\q1/\Tr 1 (q73.blocks = t.1.2.blocks)/\Tr 1 (q73.slots = t.1.2.slots)/\Tr 1 (q73.gens = t.1.2.gens)/\Tr 1 (q73.top = t.1.2.top)/\Tr 1 (q73.high = t.1.2.high)/\Tr 1 (q73.free = t.1.2.free)/\True)/\q4/\devB q72.ws = devB t.1.1.ws/\zaB x = zaB t.1.1.a/\(q6/\(1 : Nat) = 1/\q77/\q76 <= q71/\∀ (i : Nat), i < q76->(if i < q68 then if i < 2 then [AV.int .i64 (if i = 1 * 1 / 1 then 1 else if i = 0 * 1 / 1 then 0 else 0)] else [AV.int .i64 (q66.getD (0 + (i - 2)) 0)] else [AV.int .i64 (q69.getD (0 + (i - q68)) 0)]) = [AV.int .i64 (q75.getD i 0)])/\setB (x.n, x.w) = setB (t.1.1.a.n, t.1.1.a.w)/\True)/\∀ (t : (StoreT × TickT) × (List Int × Nat) × Nat),
 let q78 : Int := (t.2.2 : Int);
 let q79 : List Int × Nat := t.2.1;
 let q80 : List Int := q79.1;
 let q81 : Nat := q80.length;
 let q82 : Int := (q81 : Int);
 let q83 : Prop := q78 < q82;
 let q84 : Nat := 0 + q78.toNat;
 let q85 : Ob := setB (t.1.1.a.n, t.1.1.a.w);
 let q86 : Int := q78 + 1; I t->BC (decide q83) (((0 : Int) <= q78/\q83)/\q84 < q81/\Exx ((Nat × Nat) × Int) fun x => ((q1/\Tr 1 (q80.getD q84 0 = x.2)/\True)/\true = true/\q85 = setB x.1/\True)/\(SetW x.1/\I64 x.2)/\∀ (y : Unit), True->BC (!hasN x.1 x.2) q5 (I64 q86/\Exx ((StoreT × TickT) × (List Int × Nat) × Nat) fun t' =>
 let q87 : List Int × Nat := t'.snd.1;
 let q88 : List Int := q87.1;
 let q89 : Nat := q88.length;
 let q90 : Prop := q79.2 = q87.2; (I t'/\m t' < m t)/\Tr 15 ((true = true/\zaC/\(0 : Nat) = 0/\(1 : Nat) = 1/\(0 : Nat) = 0/\q81 = q89/\q90)/\q1/\Tr 1 (q86 = (↑t'.snd.2 : Int))/\Tr 77 True)/\true = true/\(q2/\q1/\q1/\q1/\Tr 1 (t.1.2.blocks = t'.fst.2.blocks)/\Tr 1 (t.1.2.slots = t'.fst.2.slots)/\Tr 1 (t.1.2.gens = t'.fst.2.gens)/\Tr 1 (t.1.2.top = t'.fst.2.top)/\Tr 1 (t.1.2.high = t'.fst.2.high)/\Tr 1 (t.1.2.free = t'.fst.2.free)/\True)/\q4/\devB t.1.1.ws = devB t'.fst.1.ws/\zaB t.1.1.a = zaB t'.fst.1.a/\(q6/\(1 : Nat) = 1/\q90/\q89 <= q81/\∀ (i : Nat), i < q89->[AV.int .i64 (q80.getD i 0)] = [AV.int .i64 (q88.getD i 0)])/\setB x.1 = setB (t'.fst.1.a.n, t'.fst.1.a.w)/\True)) (Exx ((Nat × Nat) × Unit) fun x =>
 let q91 : Int := (↑(bitsL x.1.1 x.1.2).length : Int); (q3/\true = true/\q85 = setB x.1/\True)/\(SetW x.1/\True)/\∀ (y : Unit), True->Exx Unit fun y => ((decide (q91 = q82) = true/\True)/\true = true/\True)/\True)))) = (fnVC tb [(18, zaA zjZ), (23, zaA zn6), (24, zaA zrB), (37, zaA zwX), (38, zs9), (39, zaA zwS), (42, zaA zuW), (43, zcQ (zaA zjT) (zaA zg4)), (44, zaA zhW)] Tryz.f8 treeBlocksC (fun x => { loops := [(15, tbLA x)], loose := [(9, [1, 2, 3, 4])], joins := [(12, tbJ12 x)] }) (fun _ => none)) := by kernel_rfl

theorem treeBlocks_ok : SpecOk Tryz.prog 8 (zaA treeBlocksC) := by
 refine zaK zaM zaL (SPok.cons ztH (SPok.cons zsL (SPok.cons zsV (SPok.cons qbO (SPok.cons zrM (SPok.cons zt6 (SPok.cons zsO (SPok.cons (zbJ zhV zgC) (SPok.cons zjU SPok.nil))))))))) Tryz.func8 (by decide) (zaN fun _ => rfl) (Eq.mp zx2 ?_)
 simp (maxSteps := 10000000) only [std, stdU, stdV, Exx, I64, Nat.reduceMul, Nat.reduceDiv, Nat.reduceAdd, Int.reduceToNat, ↓and_self, and_self, and_self_left, and_self_right, zaQ, zaJ, zaU, zhQ, zeG, ziD, zfP, zd5, zfW, zxC]
 rintro es deg mark ⟨hI, hlen, hd, hm⟩
 simp only [qi8 hd]
 simp only [deg_k hd, Int.toNat_natCast]
 have hk : deg % 5 <= 4 := by omega
 generalize deg % 5 = k at hk
 have h16 : 2 ^ k <= 2 ^ 4 := Nat.pow_le_pow_right (by decide) hk
 have e16 : (2 : Nat) ^ 4 = 16 := rfl
 refine ⟨by decide, Int.natCast_nonneg _, fun hge => ?_⟩
 have hle : 2 ^ k <= es.length := by omega
 have hlt : (es.take (2 ^ k)).length = 2 ^ k := by rw [List.length_take]; omega
 refine ⟨120, rfl, by omega, by omega, by omega, Int.natCast_nonneg _, Int.natCast_nonneg _, Nat.zero_le _, hle, zcM 120 0, zjJ ((120 : Nat) : Int) 20 100, es.take (2 ^ k), hlt.symm, fun i hi => ?_, rfl, rfl, rfl, rfl, rfl, rfl, rfl, rfl, qbN _, fun e he => hI e (List.mem_of_mem_take he), hm, k, hk, hlt, fun s t b hQ => ?_⟩
 ·rw [hlt] at hi
  rw [zaY, if_pos hi]
 obtain ⟨d, p1, p2, hG⟩ := hQ
 have T := qiG hG hk
 have hO := zpV T.sW
 have eT := zlJ T.img
 have hv := hG.gr.inv
 have eB : gB [(k, b, ((p1, p2) : EB))] = p2 := by simp [gB]
 rw [eB] at hv
 obtain ⟨pok, pin⟩ := qg6 hv.inv.tree
 obtain ⟨pc1, pc2⟩ := zv2 hv.inv.tree hv.nd hG.w01.1 hG.w01.2
 have pl := zmJ (zaD s.ws) t.top 16
 rw [zv3, <- pin] at pl
 rw [<- pin] at pc1 pc2
 have hl2 := T.l2
 simp only at hl2
 have hpI : ∀ c ∈ zcJ (zaD s.ws) t.top, I64 c := fun c hc => by have := inS_iff.1 (pc2 c hc); have := T.sW.2.1; exact ⟨by omega, by omega⟩
 refine ⟨T.sW, k, rfl, hO, T.bI.1, T.bI.2, by omega, fun c1 c2 hc => ⟨T.sW, hO, hv.inv.htop.1, hv.inv.htop.2, fun c3 hc3 => ⟨fun hn => ?_, fun z => z.1 = (s, t)/\z.2.1.1 = p2/\z.2.2.1 = zcJ (zaD s.ws) t.top, fun _ => ⟨fun hn => hn pok, fun _ => ⟨s, t, p2, c2, zcJ (zaD s.ws) t.top, c3, ⟨rfl, rfl, rfl⟩, by rw [eT], rfl, rfl, rfl, rfl, rfl, rfl, rfl, rfl, rfl, rfl, rfl, rfl, by rw [eT]; exact Nat.le_refl _, fun i _ => by rw [eT], rfl, Nat.le_refl _, fun _ _ => rfl⟩⟩, fun s' t' bs cb ps cp hz => ?_⟩⟩⟩
 ·rw [T.img] at hn; cases hn
 obtain ⟨z1, z2, z3⟩ := hz
 simp only [Prod.mk.injEq] at z1 z2 z3
 obtain ⟨rfl, rfl⟩ := z1
 subst z2
 rw [<- z3] at pl pc1 pc2 hpI
 have eget : ∀ i, (if i < 2 + bs.length then if i < 2 then if i = 1 then [i64 1] else if i = 0 then [i64 0] else [i64 0] else [i64 (bs.getD (i - 2) 0)] else [i64 (ps.getD (i - (2 + bs.length)) 0)]) = [i64 (((0 : Int) :: 1 :: (bs ++ ps)).getD i 0)] := fun i => by
  match i with
  | 0 => rw [if_pos (by omega)]; rfl
  | 1 => rw [if_pos (by omega)]; rfl
  | j + 2 =>
    simp only [List.getD_cons_succ]
    rw [zaF]
    by_cases e : j < bs.length
    ·rw [if_pos (by omega), if_neg (by omega), if_pos e, show j + 2 - 2 = j by omega]
    ·rw [if_neg (by omega), if_neg e, show j + 2 - (2 + bs.length) = j - bs.length by omega]
 have hall : ∀ c ∈ ((0 : Int) :: 1 :: (bs ++ ps)), InS s'.a.n s'.a.w c/\I64 c := fun c hc => by
  simp only [List.mem_cons, List.mem_append] at hc
  rcases hc with e | e | e | e
  ·rw [e]; exact ⟨hG.w01.1, I64_0⟩
  ·rw [e]; exact ⟨hG.w01.2, by omega, by omega⟩
  ·exact ⟨(hv.inv.tree.sh.xw c e).2, hv.i64 e⟩
  ·exact ⟨pc2 c e, hpI c e⟩
 have hal : ((0 : Int) :: 1 :: (bs ++ ps)).length = 2 + bs.length + ps.length := by simp only [List.length_cons, List.length_append]; omega
 refine ⟨by omega, by omega, fun c4 hc4 => ⟨by omega, by omega, fun c5 hc5 => ⟨T.sW.2, fun z => z.1 = (s', t')/\z.2.1.1 = (0 : Int) :: 1 :: (bs ++ ps), ⟨s', t', (0 : Int) :: 1 :: (bs ++ ps), c5, 0, ⟨rfl, rfl⟩, hal.symm, rfl, rfl, rfl, rfl, rfl, rfl, rfl, rfl, rfl, rfl, rfl, by omega, fun i _ => eget i, rfl, rfl⟩, fun z => 2 + bs.length + ps.length - z.2.2, fun s t l c i hz => ?_⟩⟩⟩
 obtain ⟨z1, z2⟩ := hz
 simp only [Prod.mk.injEq] at z1 z2
 obtain ⟨rfl, rfl⟩ := z1
 subst z2
 have hW : SetW (s.a.n, s.a.w) := ⟨T.sW.2.1, T.sW.2.2.2.2.2.2⟩
 refine ⟨fun hlt => ?_, fun hge => ⟨hW, by rw [hal]; omega⟩⟩
 have hi : i < ((0 : Int) :: 1 :: (bs ++ ps)).length := by omega
 have hm : ((0 : Int) :: 1 :: (bs ++ ps)).getD i 0 ∈ ((0 : Int) :: 1 :: (bs ++ ps)) := by rw [List.getD_eq_getElem?_getD, List.getElem?_eq_getElem hi]; exact List.getElem_mem _
 obtain ⟨h1, h2⟩ := hall _ hm
 refine ⟨by omega, by omega, hi, hW, h2.1, h2.2, fun hn => ?_, fun _ => ⟨by omega, by omega, s, t, _, c, i + 1, ⟨rfl, rfl⟩, by simp only; omega, rfl, rfl, by omega, rfl, rfl, rfl, rfl, rfl, rfl, rfl, rfl, rfl, Nat.le_refl _, fun _ _ => rfl, rfl, rfl⟩⟩
 rw [h1] at hn; cases hn

end Yard
