import Derived.Test.YtkdppdofkkakaaaGreatDoorTreeLaw
import Derived.Test.YtkdppdofkkakaaaGreatDoorGrTree
import Derived.Test.YtkdppdofkkakaaaGreatDoorStand

namespace Yard
open Go Go.Sx Go.Proofs
set_option linter.unusedVariables false
set_option linter.unusedSimpArgs false
set_option maxRecDepth 4000
set_option maxHeartbeats 4000000

abbrev TgX : Type := List (List Int) × Nat × Nat
def treeGrowsC : Ctr := zbU TgX (fun x => (∀ e ∈ x.1, ∀ v ∈ e, I64 v)/\x.1.length <= maxLen/\x.2.1 < 256/\x.2.2 < 256) (fun x => [qbC x.1, .int .u8 (x.2.1 : Nat), .int .u8 (x.2.2 : Nat)]) (fun _ => .bool true)
def tgK (x : TgX) : Nat := 2 ^ (x.2.1 % 5)
def tgLA (x : TgX) : LA := { T := (StoreT × TickT × Int) × (List EntT × Nat) × (Nat × Nat), F := fun t => frm 114 [(0, .ro 2 (tgK x) (fun i => [.arr 1 2 (fun j => [i64 ((x.1.getD i []).getD j 0)])])), (8, .ptr 1 [] 0), (9, i64 t.1.2.2), (10, .sl 5 [] 0 4 0 t.2.1.1.length t.2.1.2), (13, .sl 6 [] 0 4 0 (zd8 x.1 t.2.2.1).length t.2.2.2), (14, i64 (t.2.2.1 : Nat))], H := fun t => [.fence, zrF 2 3 4 t.1.2.1, zkQ 3 4, devI t.1.1.ws, zd1 t.1.1.a, entR t.2.1.2 t.2.1.1, entR t.2.2.2 (zd8 x.1 t.2.2.1)], ρ₁ := zgR 5 [10, 13], ρ₂ := zgR 5 [10, 13] }
theorem qcB : (
 let q1 : Prop := true = true/\zaC/\(0 : Nat) = 0;
 let q2 : Prop := (71 : TypeId) = 71;
 let q3 : Prop := q1/\True;
 let q4 : Prop := (146 : TypeId) = 146/\q1/\q3;
 let q5 : Prop := Exx Unit fun y => ((false = true/\True)/\true = true/\True)/\True;
 let q6 : Prop := (77 : TypeId) = 77;
 let q7 : Prop := (0 : Int) < (↑(2 : Nat) : Int);
 let q8 : Prop := (1 : Int) < (↑(2 : Nat) : Int);
 let q9 : Nat := (TI.mk (TK.struct [(0, 67), (2, 3), (3, 3)]) 4 32 (ZL.cons (Value.int IntKind.i64 0) (ZL.cons (Value.int IntKind.i64 0) (ZL.cons (Value.int IntKind.i64 0) (ZL.cons (Value.int IntKind.i64 0) ZL.nil)))) true).size;
 let q10 : Nat := 0 + Int.toNat 0; ∀ (x : List (List Int) × Nat × Nat),
 let q11 : Int := (x.1.length : Int); (∀ (e : List Int), e ∈ x.1->∀ (v : Int), v ∈ e->I64 v)/\x.1.length <= maxLen/\x.2.1 < 256/\x.2.2 < 256->∀ (m : Int), m = IntKind.i64.wrap (x.2.1 : Int)->(5 : Int) ≠ (0 : Int)/\∀ (n : Int), n = m.tmod 5->Exx Unit fun x_1 => Tr 1 (true = true/\True)/\Tr 1 (∀ (y : Unit), True->(0 : Int) <= n/\∀ (n_1 : Int),
 let q12 : Int := IntKind.i64.wrap (1 * 2 ^ min n.toNat IntKind.i64.bits); n_1 = q12->BC (decide (q11 < n_1)) (Exx Unit fun x => Tr 1 (true = true/\True)/\Tr 1 (∀ (y : Unit), True->Exx Unit fun y => ((true = true/\True)/\true = true/\True)/\True)) ((0 : Int) <= n/\∀ (n_2 : Int),
 let q13 : Nat := n_2.toNat - 0; n_2 = q12->(0 : Int) <= n_2/\(0 <= n_2.toNat/\n_2.toNat <= x.1.length)/\Exx (Nat × Int) fun x_2 =>
 let q14 : TickT := zjJ (x_2.1 : Int) x_2.2 100; ((Tr 1 ((120 : Int) = (x_2.1 : Int))/\Tr 1 ((20 : Int) = x_2.2)/\True)/\true = true/\True)/\(x_2.1 <= 3072/\I64 x_2.2)/\∀ (y : Unit), True->Exx ((StoreT × TickT) × (List (List Int) × Nat) × Nat) fun x_3 =>
 let q15 : List (List Int) × Nat := x_3.2.1;
 let q16 : List (List Int) := q15.1;
 let q17 : Nat := q16.length;
 let q18 : Nat := q15.2;
 let q19 : Nat := x_3.2.2;
 let q20 : Nat := 2 ^ q19; ((q1/\(q13 = q17/\∀ (i : Nat), i < q17->[AV.arr 1 2 fun j => [AV.int .i64 ((x.1.getD (0 + i) []).getD j 0)]] = [AV.arr 1 2 fun j => [AV.int .i64 ((q16.getD i []).getD j 0)]])/\Tr 1 ((x.2.2 : Int) = (q18 : Int))/\True)/\true = true/\(q2/\q1/\q1/\q1/\Tr 1 (q14.blocks = x_3.1.2.blocks)/\Tr 1 (q14.slots = x_3.1.2.slots)/\Tr 1 (q14.gens = x_3.1.2.gens)/\Tr 1 (q14.top = x_3.1.2.top)/\Tr 1 (q14.high = x_3.1.2.high)/\Tr 1 (q14.free = x_3.1.2.free)/\True)/\q4/\devB (zcM x_2.1 0).ws = devB x_3.1.1.ws/\zaB (zcM x_2.1 0).a = zaB x_3.1.1.a/\True)/\((Exx DeskT fun d => GS q16 0 x_3.1.1 x_3.1.2 d [])/\(∀ (e : List Int), e ∈ q16->∀ (v : Int), v ∈ e->I64 v)/\q18 < 256/\q19 <= 4/\q17 = q20)/\∀ (y : StoreT × TickT × Int), (Exx DeskT fun d => Exx (List EntT × List Int) fun p => GS q16 q20 y.1 y.2.1 d [(q19, y.2.2, p)])->Exx ((StoreT × TickT) × Unit) fun x_4 => (q3/\true = true/\(q2/\q1/\q1/\q1/\Tr 1 (y.2.1.blocks = x_4.1.2.blocks)/\Tr 1 (y.2.1.slots = x_4.1.2.slots)/\Tr 1 (y.2.1.gens = x_4.1.2.gens)/\Tr 1 (y.2.1.top = x_4.1.2.top)/\Tr 1 (y.2.1.high = x_4.1.2.high)/\Tr 1 (y.2.1.free = x_4.1.2.free)/\True)/\q4/\devB y.1.ws = devB x_4.1.1.ws/\zaB y.1.a = zaB x_4.1.1.a/\True)/\(zaG x_4.1.1/\True)/\∀ (y_1 : Unit), True->Exx (List Nat × Int × Nat) fun x_5 =>
 let q21 : EB := imgT x_5.1 x_5.2.2 x_5.2.1;
 let q22 : List EntT := q21.1;
 let q23 : Nat := q22.length;
 let q24 : List Int := q21.2;
 let q25 : Nat := q24.length; ((cstr (zaD x_4.1.1.ws) = cstr x_5.1/\Tr 1 (y.2.2 = x_5.2.1)/\Tr 1 (n = (x_5.2.2 : Int))/\True)/\true = true/\True)/\(Oct x_5.1/\I64 x_5.2.1/\x_5.2.2 < 13)/\∀ (y_2 : Nat × Nat), (q23 <= y_2.1/\y_2.1 <= 9223372036854775807)/\q25 <= y_2.2/\y_2.2 <= 9223372036854775807->BC (!(zbW (imgN x_5.1) x_5.2.2 x_5.2.1).isSome) q5 (Exx ((StoreT × TickT) × List EntT × List Int) fun x_6 =>
 let q26 : Nat := x_6.2.1.length;
 let q27 : Nat := x_6.2.2.length;
 let q28 : Ob := zaB x_6.1.1.a; ((q1/\(0 + q23 <= q23/\q23 = q26/\∀ (i : Nat),
 let q29 : EntT := q22.getD (0 + i) entZ;
 let q30 : EntT := x_6.2.1.getD i entZ; i < q26->[AV.int .i64 q29.slot, AV.int .i64 q29.gen, AV.int .i64 q29.key, AV.int .i64 q29.value] = [AV.int .i64 q30.slot, AV.int .i64 q30.gen, AV.int .i64 q30.key, AV.int .i64 q30.value])/\(0 + q25 <= q25/\q25 = q27/\∀ (i : Nat), i < q27->[AV.int .i64 (q24.getD (0 + i) 0)] = [AV.int .i64 (x_6.2.2.getD i 0)])/\True)/\true = true/\(q2/\q1/\q1/\q1/\Tr 1 (x_4.1.2.blocks = x_6.1.2.blocks)/\Tr 1 (x_4.1.2.slots = x_6.1.2.slots)/\Tr 1 (x_4.1.2.gens = x_6.1.2.gens)/\Tr 1 (x_4.1.2.top = x_6.1.2.top)/\Tr 1 (x_4.1.2.high = x_6.1.2.high)/\Tr 1 (x_4.1.2.free = x_6.1.2.free)/\True)/\q4/\devB x_4.1.1.ws = devB x_6.1.1.ws/\zaB x_4.1.1.a = q28/\True)/\(zaG x_6.1.1/\zbC x_6.1.2/\x_6.1.2.high <= (1792 : Int)/\EntsI x_6.2.1/\zkG x_6.2.2)/\∀ (y_3 : Unit), True->BC (!decide (zgM x_6.1.1 x_6.1.2 x_6.2.1 x_6.2.2)) q5 (Exx ((StoreT × TickT × Int) × (List EntT × Nat) × Nat × Nat->Prop) fun I => Exx ((StoreT × TickT × Int) × (List EntT × Nat) × Nat × Nat->Nat) fun m => (Exx ((StoreT × TickT × Int) × (List EntT × Nat) × Nat × Nat) fun t =>
 let q31 : TickT × Int := t.1.2;
 let q32 : List EntT × Nat := t.2.1;
 let q33 : List EntT := q32.1;
 let q34 : Nat := q33.length;
 let q35 : Prop := y_2.1 = q32.2;
 let q36 : Nat × Nat := t.2.2;
 let q37 : Nat := q36.1;
 let q38 : Prop := (zd8 x.1 q37).length = 0;
 let q39 : Prop := q36.2 = 0;
 let q40 : TickT := q31.1;
 let q41 : StoreT := t.1.1; I t/\(((2 : Nat) = 2/\q13 = tgK x/\∀ (i : Nat), i < q13->[AV.arr 1 2 fun j => [AV.int .i64 ((x.1.getD (0 + i) []).getD j 0)]] = [AV.arr 1 2 fun j => [AV.int .i64 ((x.1.getD i []).getD j 0)]])/\Tr 7 (q1/\Tr 1 (y.2.2 = q31.2)/\(true = true/\zaC/\(0 : Nat) = 0/\(4 : Nat) = 4/\(0 : Nat) = 0/\q23 = q34/\q35)/\Tr 2 ((q38/\q39)/\Tr 1 ((0 : Int) = (q37 : Int))/\Tr 99 True)))/\true = true/\(q2/\q1/\q1/\q1/\Tr 1 (x_6.1.2.blocks = q40.blocks)/\Tr 1 (x_6.1.2.slots = q40.slots)/\Tr 1 (x_6.1.2.gens = q40.gens)/\Tr 1 (x_6.1.2.top = q40.top)/\Tr 1 (x_6.1.2.high = q40.high)/\Tr 1 (x_6.1.2.free = q40.free)/\True)/\q4/\devB x_6.1.1.ws = devB q41.ws/\q28 = zaB q41.a/\(q6/\(4 : Nat) = 4/\q35/\q34 <= q23/\∀ (i : Nat), i < q34->[AV.int .i64 (q22.getD i entZ).slot, AV.int .i64 (q22.getD i entZ).gen, AV.int .i64 (q22.getD i entZ).key, AV.int .i64 (q22.getD i entZ).value] = [AV.int .i64 (q33.getD i entZ).slot, AV.int .i64 (q33.getD i entZ).gen, AV.int .i64 (q33.getD i entZ).key, AV.int .i64 (q33.getD i entZ).value])/\(q39/\q38)/\True)/\∀ (t : (StoreT × TickT × Int) × (List EntT × Nat) × Nat × Nat),
 let q42 : Nat × Nat := t.2.2;
 let q43 : Nat := q42.1;
 let q44 : Int := (q43 : Int);
 let q45 : Prop := q44 < (↑(tgK x) : Int);
 let q46 : Prop := (0 : Int) <= q44/\q45;
 let q47 : List EntT := zd8 x.1 q43;
 let q48 : Nat := q47.length;
 let q49 : Nat := q42.2;
 let q50 : Nat := q48 + 1;
 let q51 : Int := q44 + 1;
 let q52 : TickT × Int := t.1.2;
 let q53 : Int := q52.2;
 let q54 : List EntT × Nat := t.2.1;
 let q55 : List EntT := q54.1;
 let q56 : Nat := q55.length;
 let q57 : TickT := q52.1;
 let q58 : StoreT := t.1.1;
 let q59 : Ob := devB q58.ws;
 let q60 : Ob := zaB q58.a;
 let q61 : List Int := x.1.getD q44.toNat [];
 let q62 : Prop := 0 + q56 <= q56;
 let q63 : Prop := q10 < q56;
 let q64 : EntT := q55.getD q10 entZ; I t->BC (decide q45) (q46/\((0 : Int) <= (0 : Int)/\q7)/\q7/\q46/\((0 : Int) <= (1 : Int)/\q8)/\q8/\(0 : Nat) + (1 : Nat) <= (1 : Nat)/\true = true/\(q48 <= q48/\q49 = q49)/\(q50 <= 9223372036854775807/\q50 * 32 <= 140737488355328)/\∀ (cap : Nat), q50 <= cap/\cap <= 9223372036854775807->I64 q51/\Exx ((StoreT × TickT × Int) × (List EntT × Nat) × Nat × Nat) fun t' =>
 let q65 : TickT × Int := t'.fst.2;
 let q66 : List EntT × Nat := t'.snd.1;
 let q67 : List EntT := q66.1;
 let q68 : Nat := q67.length;
 let q69 : Prop := q54.2 = q66.2;
 let q70 : Nat × Nat := t'.snd.2;
 let q71 : Nat := q70.1;
 let q72 : List EntT := zd8 x.1 q71;
 let q73 : Nat := q72.length;
 let q74 : Prop := cap = q70.2;
 let q75 : TickT := q65.1;
 let q76 : StoreT := t'.fst.1; (I t'/\m t' < m t)/\(((2 : Nat) = 2/\tgK x = tgK x/\∀ (i : Nat),
 let q77 : List AV := [AV.arr 1 2 fun j => [AV.int .i64 ((x.1.getD i []).getD j 0)]]; i < tgK x->q77 = q77)/\Tr 7 (q1/\Tr 1 (q53 = q65.2)/\(true = true/\zaC/\(0 : Nat) = 0/\(4 : Nat) = 4/\(0 : Nat) = 0/\q56 = q68/\q69)/\Tr 2 ((true = true/\zaC/\(0 : Nat) = 0/\(4 : Nat) = 4/\(0 : Nat) = 0/\q50 = q73/\q74)/\Tr 1 (q51 = (q71 : Int))/\Tr 99 True)))/\true = true/\(q2/\q1/\q1/\q1/\Tr 1 (q57.blocks = q75.blocks)/\Tr 1 (q57.slots = q75.slots)/\Tr 1 (q57.gens = q75.gens)/\Tr 1 (q57.top = q75.top)/\Tr 1 (q57.high = q75.high)/\Tr 1 (q57.free = q75.free)/\True)/\q4/\q59 = devB q76.ws/\q60 = zaB q76.a/\(q6/\(4 : Nat) = 4/\q69/\q68 <= q56/\∀ (i : Nat), i < q68->[AV.int .i64 (q55.getD i entZ).slot, AV.int .i64 (q55.getD i entZ).gen, AV.int .i64 (q55.getD i entZ).key, AV.int .i64 (q55.getD i entZ).value] = [AV.int .i64 (q67.getD i entZ).slot, AV.int .i64 (q67.getD i entZ).gen, AV.int .i64 (q67.getD i entZ).key, AV.int .i64 (q67.getD i entZ).value])/\(q6/\(4 : Nat) = 4/\q74/\q73 <= q50/\∀ (i : Nat),
 let q78 : Nat := 0 + (i - q48);
 let q79 : Prop := q78 = 0 * 4 / 4; i < q73->(if i < q48 then [AV.int .i64 (q47.getD i entZ).slot, AV.int .i64 (q47.getD i entZ).gen, AV.int .i64 (q47.getD i entZ).key, AV.int .i64 (q47.getD i entZ).value] else [AV.int .i64 (if q79 then q44 else 0), AV.int .i64 (if q79 then 1 else 0), AV.int .i64 (if q79 then q61.getD (Int.toNat 0) 0 else 0), AV.int .i64 (if q79 then q61.getD (Int.toNat 1) 0 else 0)]) = [AV.int .i64 (q72.getD i entZ).slot, AV.int .i64 (q72.getD i entZ).gen, AV.int .i64 (q72.getD i entZ).key, AV.int .i64 (q72.getD i entZ).value])/\True) (Exx (StoreT × Int) fun x => ((q1/\Tr 1 (q53 = x.2)/\True)/\true = true/\q4/\q59 = devB x.1.ws/\q60 = zaB x.1.a/\True)/\(zaG x.1/\I64 x.2)/\∀ (y : Nat), (zcN x.1.ws x.2).1.length <= y/\y <= 9223372036854775807->BC (decide ((zcN x.1.ws x.2).2 = (0 : Int))) (Exx (List EntT × List EntT) fun x_7 => (((0 + (zcN x.1.ws x.2).1.length <= (zcN x.1.ws x.2).1.length/\(zcN x.1.ws x.2).1.length = x_7.1.length/\∀ (i : Nat),
 let q80 : EntT := (zcN x.1.ws x.2).1.getD (0 + i) entZ; i < x_7.1.length->[AV.int .i64 q80.slot, AV.int .i64 q80.gen, AV.int .i64 q80.key, AV.int .i64 q80.value] = [AV.int .i64 (x_7.1.getD i entZ).slot, AV.int .i64 (x_7.1.getD i entZ).gen, AV.int .i64 (x_7.1.getD i entZ).key, AV.int .i64 (x_7.1.getD i entZ).value])/\(q62/\q56 = x_7.2.length/\∀ (i : Nat),
 let q81 : EntT := q55.getD (0 + i) entZ; i < x_7.2.length->[AV.int .i64 q81.slot, AV.int .i64 q81.gen, AV.int .i64 q81.key, AV.int .i64 q81.value] = [AV.int .i64 (x_7.2.getD i entZ).slot, AV.int .i64 (x_7.2.getD i entZ).gen, AV.int .i64 (x_7.2.getD i entZ).key, AV.int .i64 (x_7.2.getD i entZ).value])/\True)/\true = true/\True)/\(EntsI x_7.1/\EntsI x_7.2)/\∀ (y : Unit), True->BC (decide (x_7.1 = x_7.2)) (Exx (List EntT) fun x => (((q62/\q56 = x.length/\∀ (i : Nat),
 let q82 : EntT := q55.getD (0 + i) entZ; i < x.length->[AV.int .i64 q82.slot, AV.int .i64 q82.gen, AV.int .i64 q82.key, AV.int .i64 q82.value] = [AV.int .i64 (x.getD i entZ).slot, AV.int .i64 (x.getD i entZ).gen, AV.int .i64 (x.getD i entZ).key, AV.int .i64 (x.getD i entZ).value])/\True)/\true = true/\True)/\EntsI x/\∀ (y : Nat), (zaP x).length <= y/\y <= 9223372036854775807->Exx (List EntT) fun x_8 =>
 let q83 : Prop := 0 + q48 <= q48; (((q83/\q48 = x_8.length/\∀ (i : Nat),
 let q84 : EntT := q47.getD (0 + i) entZ; i < x_8.length->[AV.int .i64 q84.slot, AV.int .i64 q84.gen, AV.int .i64 q84.key, AV.int .i64 q84.value] = [AV.int .i64 (x_8.getD i entZ).slot, AV.int .i64 (x_8.getD i entZ).gen, AV.int .i64 (x_8.getD i entZ).key, AV.int .i64 (x_8.getD i entZ).value])/\True)/\true = true/\True)/\EntsI x_8/\∀ (y : Nat), (zaP x_8).length <= y/\y <= 9223372036854775807->Exx (List EntT × List EntT) fun x_9 => (((0 + (zaP x).length <= (zaP x).length/\(zaP x).length = x_9.1.length/\∀ (i : Nat),
 let q85 : EntT := (zaP x).getD (0 + i) entZ; i < x_9.1.length->[AV.int .i64 q85.slot, AV.int .i64 q85.gen, AV.int .i64 q85.key, AV.int .i64 q85.value] = [AV.int .i64 (x_9.1.getD i entZ).slot, AV.int .i64 (x_9.1.getD i entZ).gen, AV.int .i64 (x_9.1.getD i entZ).key, AV.int .i64 (x_9.1.getD i entZ).value])/\(0 + (zaP x_8).length <= (zaP x_8).length/\(zaP x_8).length = x_9.2.length/\∀ (i : Nat),
 let q86 : EntT := (zaP x_8).getD (0 + i) entZ; i < x_9.2.length->[AV.int .i64 q86.slot, AV.int .i64 q86.gen, AV.int .i64 q86.key, AV.int .i64 q86.value] = [AV.int .i64 (x_9.2.getD i entZ).slot, AV.int .i64 (x_9.2.getD i entZ).gen, AV.int .i64 (x_9.2.getD i entZ).key, AV.int .i64 (x_9.2.getD i entZ).value])/\True)/\true = true/\True)/\(EntsI x_9.1/\EntsI x_9.2)/\∀ (y : Unit), True->BC (decide (x_9.1 = x_9.2)) (((0 : Int) <= (0 : Int)/\(0 : Int) < (q56 : Int))/\(q63/\Exx (List EntT) fun x => (((q83/\q48 = x.length/\∀ (i : Nat),
 let q87 : EntT := q47.getD (0 + i) entZ; i < x.length->[AV.int .i64 q87.slot, AV.int .i64 q87.gen, AV.int .i64 q87.key, AV.int .i64 q87.value] = [AV.int .i64 (x.getD i entZ).slot, AV.int .i64 (x.getD i entZ).gen, AV.int .i64 (x.getD i entZ).key, AV.int .i64 (x.getD i entZ).value])/\True)/\true = true/\True)/\EntsI x/\∀ (y : Nat), (zaP x).length <= y/\y <= 9223372036854775807->((0 : Int) <= (0 : Int)/\(0 : Int) < (↑(zaP x).length : Int))/\q10 < (zaP x).length/\(Tr 2 True/\Tr 2 True)/\(Tr 2 True/\Tr 2 True)/\∀ (b : Bool), (b = true ↔ (q64.slot = ((zaP x).getD q10 entZ).slot/\q64.gen = ((zaP x).getD q10 entZ).gen/\True)/\q64.key = ((zaP x).getD q10 entZ).key/\q64.value = ((zaP x).getD q10 entZ).value/\True)->Exx Unit fun y => ((b = true/\True)/\true = true/\True)/\True)/\Exx (List EntT) fun x =>
 let q88 : Prop := (Tr 2 True/\Tr 2 True)/\(Tr 2 True/\Tr 2 True)/\∀ (b : Bool), (b = true ↔ (q64.slot = ((zaP x).getD q10 entZ).slot/\q64.gen = ((zaP x).getD q10 entZ).gen/\True)/\q64.key = ((zaP x).getD q10 entZ).key/\q64.value = ((zaP x).getD q10 entZ).value/\True)->Exx Unit fun y => ((b = true/\True)/\true = true/\True)/\True; (((q83/\q48 = x.length/\∀ (i : Nat),
 let q89 : EntT := q47.getD (0 + i) entZ; i < x.length->[AV.int .i64 q89.slot, AV.int .i64 q89.gen, AV.int .i64 q89.key, AV.int .i64 q89.value] = [AV.int .i64 (x.getD i entZ).slot, AV.int .i64 (x.getD i entZ).gen, AV.int .i64 (x.getD i entZ).key, AV.int .i64 (x.getD i entZ).value])/\True)/\true = true/\True)/\EntsI x/\∀ (y : Nat), (zaP x).length <= y/\y <= 9223372036854775807->((0 : Int) <= (0 : Int)/\(0 : Int) < (↑(zaP x).length : Int))/\(q63/\q10 < (zaP x).length/\q88)/\q10 < (zaP x).length/\q63/\q88) q5) q5) q5)))))) = (fnVC tb [(23, zaA zn6), (24, zaA zrB), (34, zaA zhP), (36, zaA zjY), (37, zaA zwX), (38, zs9), (39, zaA zwS), (40, zaA qhX), (41, zaA zx7)] Tryz.f7 treeGrowsC (fun x => { loops := [(14, tgLA x)], loose := [(16, [6]), (18, [5, 6, 7, 8, 9, 10])] }) (fun _ => none)) := by kernel_rfl

theorem treeGrows_ok : SpecOk Tryz.prog 7 (zaA treeGrowsC) := by
 refine zaK zaM zaL (SPok.cons zsL (SPok.cons zsV (SPok.cons zoF (SPok.cons ztG (SPok.cons qbO (SPok.cons zrM (SPok.cons zt6 (SPok.cons qmH (SPok.cons qfS SPok.nil))))))))) Tryz.func7 (by decide) (zaN fun _ => rfl) (Eq.mp qcB ?_)
 simp (maxSteps := 10000000) only [std, stdU, stdV, Exx, I64, Nat.reduceMul, Nat.reduceDiv, Nat.reduceAdd, Int.reduceToNat, ↓and_self, and_self, and_self_left, and_self_right, zaQ, zaJ, zaU, zhQ, zeG, ziD, zfP, zd5, zfW, zxC]
 rintro es deg mark ⟨hI, hlen, hd, hm⟩
 have eK : tgK (es, deg, mark) = 2 ^ (deg % 5) := rfl
 simp only [qi8 hd, eK]
 simp only [deg_k hd, Int.toNat_natCast]
 have hk : deg % 5 <= 4 := by omega
 generalize deg % 5 = k at hk
 have h16 : 2 ^ k <= 2 ^ 4 := Nat.pow_le_pow_right (by decide) hk
 have e16 : (2 : Nat) ^ 4 = 16 := rfl
 have hpos : 0 < 2 ^ k := Nat.pow_pos (by decide)
 refine ⟨by decide, Int.natCast_nonneg _, fun hge => ?_⟩
 have hle : 2 ^ k <= es.length := by omega
 have hlt : (es.take (2 ^ k)).length = 2 ^ k := by rw [List.length_take]; omega
 have main : ∀ (s : StoreT) (t : TickT) (b : Int) (d : DeskT) (p : EB), GS (es.take (2 ^ k)) (2 ^ k) s t d [(k, b, p)]->GTree es k s t b p/\zaP p.1 = zaP (zd8 es (2 ^ k))/\p.1.getD 0 entZ = (zaP (zd8 es (2 ^ k))).getD 0 entZ/\EntsI (zd8 es (2 ^ k)) := fun s t b d p hG => by
  have T := qiG hG hk
  have hw := T.want
  rw [qb6 es (2 ^ k) _ (Nat.le_refl _)] at hw
  have e := zsX T.hnd hw
  have hh := qcF k b p T.img
  have hl := T.l1
  refine ⟨⟨T.img, T.leads, T.list, T.l1, T.l2, T.ents, T.kids, hw, T.hnd, T.sW, T.tI, T.bI, T.high⟩, e, ?_, ⟨fun x hx => T.ents.1 x (hw.mem_iff.2 hx), by rw [<- hw.length_eq]; exact T.ents.2⟩⟩
  rw [<- e]
  refine (qcT T.hnd ?_ hh).symm
  rw [List.getD_eq_getElem?_getD, List.getElem?_eq_getElem (by omega)]
  exact List.getElem_mem _
 have wl : ∀ i, (zd8 es i).length = i := fun i => by unfold zd8; rw [List.length_map, List.length_range]
 refine ⟨Int.natCast_nonneg _, Int.natCast_nonneg _, Nat.zero_le _, hle, 120, rfl, by omega, by omega, by omega, zcM 120 0, zjJ ((120 : Nat) : Int) 20 100, es.take (2 ^ k), hlt.symm, fun i hi => ?_, rfl, rfl, rfl, rfl, rfl, rfl, rfl, rfl, qbN _, fun e he => hI e (List.mem_of_mem_take he), hm, k, hk, hlt, fun s t b hQ => ?_⟩
 ·rw [hlt] at hi
  rw [zaY, if_pos hi]
 obtain ⟨d, p1, p2, hG⟩ := hQ
 obtain ⟨T, S1, S2, S3⟩ := main s t b d (p1, p2) hG
 have hO := zpV T.sW
 have eT := zlJ T.img
 have hl1 := T.l1
 have hh := T.high
 simp only at hl1 S1 S2
 refine ⟨T.sW, k, rfl, hO, T.bI.1, T.bI.2, by omega, fun c1 c2 hc => ⟨fun hn => ?_, fun _ => ?_⟩⟩
 ·rw [T.img] at hn; cases hn
 rw [eT]
 refine ⟨s, t, p1, rfl, fun _ _ => rfl, rfl, rfl, rfl, rfl, rfl, rfl, rfl, rfl, T.sW, T.tI, by omega, T.ents, T.kids, fun hn => hn T.leads, fun _ => ?_⟩
 refine ⟨fun z => z.1 = (s, t, b)/\z.2.1 = (p1, c1)/\z.2.2.1 <= 2 ^ k/\z.2.2.1 <= z.2.2.2/\z.2.2.2 <= 9223372036854775807, ⟨s, t, b, p1, c1, 0, 0, ⟨rfl, rfl, Nat.zero_le _, Nat.le_refl _, by simp⟩, ?_⟩, fun z => 2 ^ k - z.2.2.1, fun s' t' b' l c i cw hz => ?_⟩
 ·simp only [wl, and_self, Nat.le_refl, implies_true, Int.toNat_natCast, true_and]
  exact ⟨rfl, trivial⟩
 obtain ⟨z1, z2, z3, z4, z5⟩ := hz
 simp only [Prod.mk.injEq] at z1 z2 z3 z4 z5
 obtain ⟨rfl, rfl, rfl⟩ := z1
 obtain ⟨rfl, rfl⟩ := z2
 simp only [wl]
 refine ⟨fun hlt => ?_, fun hge => ?_⟩
 ·refine ⟨by omega, by omega, by omega, by omega, by omega, by omega, by omega, by omega, by omega, by omega, fun cap hc => ⟨by omega, by omega, s', t', b', l, c, i + 1, cap, ⟨rfl, rfl, by omega, by omega, hc.2⟩, by omega, rfl, rfl, rfl, by omega, rfl, by omega, rfl, rfl, rfl, rfl, rfl, rfl, rfl, rfl, rfl, Nat.le_refl _, fun _ _ => rfl, rfl, by omega, fun j hj => ?_⟩⟩
  have := snocE (zd8 es i) ⟨(i : Nat), 1, (es.getD i []).getD 0 0, (es.getD i []).getD 1 0⟩ j (by rw [<- zl0, wl]; exact hj)
  rw [<- zl0, wl] at this
  exact this
 ·have ei : i = 2 ^ k := by omega
  subst ei
  have hsl : (zaP l).length = 2 ^ k := by rw [zkS]; exact hl1
  refine ⟨T.sW, T.bI.1, T.bI.2, fun y hy => ⟨fun _ => ?_, fun hn => hn (by rw [T.list])⟩⟩
  rw [T.list]
  have eqb : ∀ bb : Bool, (bb = true ↔ (l.getD 0 entZ).slot = ((zaP (zd8 es (2 ^ k))).getD 0 entZ).slot/\(l.getD 0 entZ).gen = ((zaP (zd8 es (2 ^ k))).getD 0 entZ).gen/\(l.getD 0 entZ).key = ((zaP (zd8 es (2 ^ k))).getD 0 entZ).key/\(l.getD 0 entZ).value = ((zaP (zd8 es (2 ^ k))).getD 0 entZ).value)->bb = true := fun bb h => h.2 (by rw [S2]; exact ⟨rfl, rfl, rfl, rfl⟩)
  have hsw : (zaP (zd8 es (2 ^ k))).length = 2 ^ k := by rw [zkS, wl]
  refine ⟨l, rfl, fun _ _ => rfl, l, rfl, fun _ _ => rfl, T.ents, T.ents, fun _ => ⟨l, rfl, fun _ _ => rfl, T.ents, fun y2 hy2 => ⟨zd8 es (2 ^ k), (wl _).symm, fun _ _ => rfl, S3, fun y3 hy3 => ⟨zaP l, rfl, fun _ _ => rfl, zaP (zd8 es (2 ^ k)), rfl, fun _ _ => rfl, zx8 T.ents, zx8 S3, fun _ => ⟨by omega, by omega, by omega, ⟨zd8 es (2 ^ k), (wl _).symm, fun _ _ => rfl, S3, fun y4 hy4 => ⟨by omega, by omega, by omega, eqb⟩⟩, ⟨zd8 es (2 ^ k), (wl _).symm, fun _ _ => rfl, S3, fun y4 hy4 => ⟨by omega, by omega, by omega, by omega, eqb, by omega, by omega, eqb⟩⟩⟩, fun hn => hn S1⟩⟩⟩, fun hn => hn rfl⟩

end Yard
