import Derived.Test.YtlihikockhjodaaGreatDoorForStart
import Derived.Test.YtlihikockhjodaaGreatDoorForList

namespace Yard
open Go Go.Sx Go.Proofs
set_option linter.unusedVariables false
set_option linter.unusedSimpArgs false
set_option maxRecDepth 4000
set_option maxHeartbeats 4000000

def forestCountsC : Ctr := zcA (Nat->Int) zaN (fun r => [zcV r]) (fun _ => .bool true)
def fcJ6 (r : Nat->Int) : LA := { T := StoreT × TickT, F := fun t => frm 105 [(1, .ptr 5 [] 0), (3, .ptr 1 [] 0)], H := fun t => zp9 t.1 t.2 ++ [zc4 r], ρ₁ := stRen 3 [1], ρ₂ := stRen 3 [1] }
def fcJ8 (r : Nat->Int) : LA := { T := (StoreT × TickT) × Int × Int, F := fun t => frm 105 [(1, .ptr 5 [] 0), (3, .ptr 1 [] 0), (6, i64 t.2.1), (10, i64 t.2.2)], H := fun t => zp9 t.1.1 t.1.2 ++ [zc4 r], ρ₁ := zjC 5 [1], ρ₂ := zjC 5 [1] }
def fcJ11 (r : Nat->Int) : LA := { T := (StoreT × TickT) × (Int × Int × Int × Int × Int) × (List EntT × Nat), F := fun t => frm 105 [(1, .ptr 5 [] 0), (3, .ptr 1 [] 0), (6, i64 t.2.1.1), (10, i64 t.2.1.2.1), (11, .sl 6 [] 0 4 0 t.2.2.1.length t.2.2.2), (12, i64 t.2.1.2.2.1), (15, i64 t.2.1.2.2.2.1), (18, i64 t.2.1.2.2.2.2)], H := fun t => zp9 t.1.1 t.1.2 ++ [zc4 r, entR t.2.2.2 t.2.2.1], ρ₁ := zjC 5 [1, 11], ρ₂ := zjC 5 [1, 11] }
theorem zsU : (
 let q1 : Prop := true = true/\zaC/\(0 : Nat) = 0;
 let q2 : Prop := (42 : TypeId) = 42;
 let q3 : Prop := (107 : TypeId) = 107/\q1/\q1/\True;
 let q4 : Prop := (47 : TypeId) = 47;
 let q5 : Prop := Exx Unit fun y => ((false = true/\True)/\true = true/\True)/\True; ∀ (x : Nat->Int),
 let q6 : Prop := (1 : Nat) = 1/\(12 : Nat) = 12/\(∀ (i : Nat), i < 12->[AV.int .i64 (x i)] = [AV.int .i64 (x i)])/\True;
 let q7 : Prop := q4/\q6; zaN x->Exx Unit fun x_1 => Tr 1 (true = true/\True)/\Tr 1 (∀ (y : Unit), True->Exx (Nat × Int) fun x_2 =>
 let q8 : TickT := znQ (x_2.1 : Int) x_2.2 100; ((Tr 1 ((40 : Int) = (x_2.1 : Int))/\Tr 1 ((9 : Int) = x_2.2)/\True)/\true = true/\True)/\(x_2.1 <= 3072/\I64 x_2.2)/\∀ (y : Unit), True->Exx (StoreT × TickT->Prop) fun I => (Exx (StoreT × TickT) fun t => I t/\Tr 1 (q1/\Tr 1 (q1/\Tr 101 True))/\true = true/\(q2/\q1/\q1/\q1/\Tr 1 (q8.blocks = t.2.blocks)/\Tr 1 (q8.slots = t.2.slots)/\Tr 1 (q8.gens = t.2.gens)/\Tr 1 (q8.top = t.2.top)/\Tr 1 (q8.high = t.2.high)/\Tr 1 (q8.free = t.2.free)/\True)/\q3/\devB (zc9 x_2.1 0).ws = devB t.1.ws/\zaB (zc9 x_2.1 0).a = zaB t.1.a/\((47 : Nat) = (47 : TypeId)/\q6)/\True)/\∀ (t : StoreT × TickT), I t->Exx (StoreT × (Nat->Int)) fun x_3 => ((q1/\((1 : Nat) = 1/\(12 : Nat) = 12/\(∀ (i : Nat), i < 12->[AV.int .i64 0] = [AV.int .i64 (x_3.2 i)])/\True)/\True)/\true = true/\q3/\devB t.1.ws = devB x_3.1.ws/\zaB t.1.a = zaB x_3.1.a/\True)/\(zaE x_3.1/\zaN x_3.2)/\∀ (y : Unit), True->Exx ((StoreT × TickT) × Int × Int->Prop) fun I =>
 let q11 : Prop := Exx (StoreT × TickT × (Nat->Int)) fun x =>
 let q9 : PR := popR x.1 x.2.1 x.2.2;
 let q10 : StoreT := q9.s; ((q1/\(Tr 1 (t.2.blocks = x.2.1.blocks)/\Tr 1 (t.2.slots = x.2.1.slots)/\Tr 1 (t.2.gens = x.2.1.gens)/\Tr 1 (t.2.top = x.2.1.top)/\Tr 1 (t.2.high = x.2.1.high)/\Tr 1 (t.2.free = x.2.1.free)/\True)/\((1 : Nat) = 1/\(12 : Nat) = 12/\(∀ (i : Nat), i < 12->[AV.int .i64 0] = [AV.int .i64 (x.2.2 i)])/\True)/\True)/\true = true/\q3/\devB x_3.1.ws = devB x.1.ws/\zaB x_3.1.a = zaB x.1.a/\True)/\(zaE x.1/\zaP x.2.1/\zaN x.2.2)/\∀ (y : Unit), True->Exx ((StoreT × TickT) × Int × Int) fun t_1 => I t_1/\Tr 1 (q1/\Tr 1 (q1/\Tr 2 (Tr 1 ((fst x_3.1.ws x_3.2).e = t_1.2.1)/\Tr 3 (Tr 1 (q9.e = t_1.2.2)/\Tr 94 True))))/\true = true/\(q2/\q1/\q1/\q1/\Tr 1 (t.2.blocks = t_1.1.2.blocks)/\Tr 1 (t.2.slots = t_1.1.2.slots)/\Tr 1 (t.2.gens = t_1.1.2.gens)/\Tr 1 (t.2.top = t_1.1.2.top)/\Tr 1 (t.2.high = t_1.1.2.high)/\Tr 1 (t.2.free = t_1.1.2.free)/\True)/\q3/\devB q10.ws = devB t_1.1.1.ws/\zaB q10.a = zaB t_1.1.1.a/\q7/\True;
 let q12 : Prop := q11/\q11;
 let q16 : Prop := (Exx (StoreT × TickT × (Nat->Int)) fun x =>
 let q13 : PR := popR x.1 x.2.1 x.2.2;
 let q14 : StoreT := q13.s;
 let q15 : Prop := Exx ((StoreT × TickT) × Int × Int) fun t_1 => I t_1/\Tr 1 (q1/\Tr 1 (q1/\Tr 2 (Tr 1 ((fst x_3.1.ws x_3.2).e = t_1.2.1)/\Tr 3 (Tr 1 (q13.e = t_1.2.2)/\Tr 94 True))))/\true = true/\(q2/\q1/\q1/\q1/\Tr 1 (t.2.blocks = t_1.1.2.blocks)/\Tr 1 (t.2.slots = t_1.1.2.slots)/\Tr 1 (t.2.gens = t_1.1.2.gens)/\Tr 1 (t.2.top = t_1.1.2.top)/\Tr 1 (t.2.high = t_1.1.2.high)/\Tr 1 (t.2.free = t_1.1.2.free)/\True)/\q3/\devB q14.ws = devB t_1.1.1.ws/\zaB q14.a = zaB t_1.1.1.a/\q7/\True; ((q1/\(Tr 1 (t.2.blocks = x.2.1.blocks)/\Tr 1 (t.2.slots = x.2.1.slots)/\Tr 1 (t.2.gens = x.2.1.gens)/\Tr 1 (t.2.top = x.2.1.top)/\Tr 1 (t.2.high = x.2.1.high)/\Tr 1 (t.2.free = x.2.1.free)/\True)/\((1 : Nat) = 1/\(12 : Nat) = 12/\(∀ (i : Nat), i < 12->[AV.int .i64 0] = [AV.int .i64 (x.2.2 i)])/\True)/\True)/\true = true/\q3/\devB x_3.1.ws = devB x.1.ws/\zaB x_3.1.a = zaB x.1.a/\True)/\(zaE x.1/\zaP x.2.1/\zaN x.2.2)/\∀ (y : Unit), True->q15/\q15)/\q12/\q12; ((Exx (StoreT × TickT × (Nat->Int)) fun x =>
 let q17 : PR := popR x.1 x.2.1 x.2.2;
 let q18 : StoreT := q17.s;
 let q19 : Prop := Exx ((StoreT × TickT) × Int × Int) fun t_1 => I t_1/\Tr 1 (q1/\Tr 1 (q1/\Tr 2 (Tr 1 ((fst x_3.1.ws x_3.2).e = t_1.2.1)/\Tr 3 (Tr 1 (q17.e = t_1.2.2)/\Tr 94 True))))/\true = true/\(q2/\q1/\q1/\q1/\Tr 1 (t.2.blocks = t_1.1.2.blocks)/\Tr 1 (t.2.slots = t_1.1.2.slots)/\Tr 1 (t.2.gens = t_1.1.2.gens)/\Tr 1 (t.2.top = t_1.1.2.top)/\Tr 1 (t.2.high = t_1.1.2.high)/\Tr 1 (t.2.free = t_1.1.2.free)/\True)/\q3/\devB q18.ws = devB t_1.1.1.ws/\zaB q18.a = zaB t_1.1.1.a/\q7/\True;
 let q20 : Prop := q19/\q19; ((q1/\(Tr 1 (t.2.blocks = x.2.1.blocks)/\Tr 1 (t.2.slots = x.2.1.slots)/\Tr 1 (t.2.gens = x.2.1.gens)/\Tr 1 (t.2.top = x.2.1.top)/\Tr 1 (t.2.high = x.2.1.high)/\Tr 1 (t.2.free = x.2.1.free)/\True)/\((1 : Nat) = 1/\(12 : Nat) = 12/\(∀ (i : Nat), i < 12->[AV.int .i64 0] = [AV.int .i64 (x.2.2 i)])/\True)/\True)/\true = true/\q3/\devB x_3.1.ws = devB x.1.ws/\zaB x_3.1.a = zaB x.1.a/\True)/\(zaE x.1/\zaP x.2.1/\zaN x.2.2)/\∀ (y : Unit), True->q20/\q20/\q20)/\q16/\q16/\q16)/\∀ (t : (StoreT × TickT) × Int × Int), I t->Exx (StoreT × (Nat->Int)) fun x_4 => ((q1/\((1 : Nat) = 1/\(12 : Nat) = 12/\(∀ (i : Nat), i < 12->[AV.int .i64 0] = [AV.int .i64 (x_4.2 i)])/\True)/\True)/\true = true/\q3/\devB t.1.1.ws = devB x_4.1.ws/\zaB t.1.1.a = zaB x_4.1.a/\True)/\(zaE x_4.1/\zaN x_4.2)/\∀ (y : List EntT × Nat), (y.1.length <= y.2/\y.2 <= 9223372036854775807)/\y.1.Perm (zdS x_4.1.ws x_4.2).1/\SrtN y.1->Exx (Nat->Int) fun x_5 => (Tr 1 (((1 : Nat) = 1/\(12 : Nat) = 12/\(∀ (i : Nat), i < 12->[AV.int .i64 (x i)] = [AV.int .i64 (x_5 i)])/\True)/\True)/\true = true/\True)/\zaN x_5/\∀ (y_1 : Unit), True->Exx ((StoreT × TickT) × (Int × Int × Int × Int × Int) × List EntT × Nat->Prop) fun I =>
 let q33 : Prop := Exx ((StoreT × TickT) × (Int × Int × Int × Int × Int) × List EntT × Nat) fun t_1 =>
 let q21 : (Int × Int × Int × Int × Int) × List EntT × Nat := t_1.2;
 let q22 : Int × Int × Int × Int × Int := q21.1;
 let q23 : Int × Int × Int × Int := q22.2;
 let q24 : List EntT × Nat := q21.2;
 let q25 : List EntT := q24.1;
 let q26 : Nat := q25.length;
 let q27 : Prop := y.2 = q24.2;
 let q28 : Int × Int × Int := q23.2;
 let q29 : Int × Int := q28.2;
 let q30 : StoreT × TickT := t_1.1;
 let q31 : TickT := q30.2;
 let q32 : StoreT := q30.1; I t_1/\Tr 1 (q1/\Tr 1 (q1/\Tr 2 (Tr 1 (t.2.1 = q22.1)/\Tr 3 (Tr 1 (t.2.2 = q23.1)/\(true = true/\zaC/\(0 : Nat) = 0/\(4 : Nat) = 4/\(0 : Nat) = 0/\y.1.length = q26/\q27)/\Tr 1 ((zdS x_4.1.ws x_4.2).2 = q28.1)/\Tr 2 (Tr 1 ((1 : Int) = q29.1)/\Tr 2 (Tr 1 ((1 : Int) = q29.2)/\Tr 86 True))))))/\true = true/\(q2/\q1/\q1/\q1/\Tr 1 (t.1.2.blocks = q31.blocks)/\Tr 1 (t.1.2.slots = q31.slots)/\Tr 1 (t.1.2.gens = q31.gens)/\Tr 1 (t.1.2.top = q31.top)/\Tr 1 (t.1.2.high = q31.high)/\Tr 1 (t.1.2.free = q31.free)/\True)/\q3/\devB x_4.1.ws = devB q32.ws/\zaB x_4.1.a = zaB q32.a/\q7/\((29 : TypeId) = 29/\(4 : Nat) = 4/\q27/\q26 <= y.1.length/\∀ (i : Nat), i < q26->[AV.int .i64 (y.1.getD i entZ).slot, AV.int .i64 (y.1.getD i entZ).gen, AV.int .i64 (y.1.getD i entZ).key, AV.int .i64 (y.1.getD i entZ).value] = [AV.int .i64 (q25.getD i entZ).slot, AV.int .i64 (q25.getD i entZ).gen, AV.int .i64 (q25.getD i entZ).key, AV.int .i64 (q25.getD i entZ).value])/\True;
 let q34 : Prop := Exx (TickT × (Nat->Int) × (Nat->Int)) fun x_6 => (Tr 1 ((Tr 1 (t.1.2.blocks = x_6.1.blocks)/\Tr 1 (t.1.2.slots = x_6.1.slots)/\Tr 1 (t.1.2.gens = x_6.1.gens)/\Tr 1 (t.1.2.top = x_6.1.top)/\Tr 1 (t.1.2.high = x_6.1.high)/\Tr 1 (t.1.2.free = x_6.1.free)/\True)/\((1 : Nat) = 1/\(12 : Nat) = 12/\(∀ (i : Nat), i < 12->[AV.int .i64 (x i)] = [AV.int .i64 (x_6.2.1 i)])/\True)/\((1 : Nat) = 1/\(12 : Nat) = 12/\(∀ (i : Nat), i < 12->[AV.int .i64 (x i)] = [AV.int .i64 (x_6.2.2 i)])/\True)/\True)/\true = true/\True)/\(zaP x_6.1/\zaN x_6.2.1/\zaN x_6.2.2)/\∀ (y : Unit), True->q33;
 let q35 : Prop := q34/\q34; ((Exx (TickT × (Nat->Int) × (Nat->Int)) fun x_6 => (Tr 1 ((Tr 1 (t.1.2.blocks = x_6.1.blocks)/\Tr 1 (t.1.2.slots = x_6.1.slots)/\Tr 1 (t.1.2.gens = x_6.1.gens)/\Tr 1 (t.1.2.top = x_6.1.top)/\Tr 1 (t.1.2.high = x_6.1.high)/\Tr 1 (t.1.2.free = x_6.1.free)/\True)/\((1 : Nat) = 1/\(12 : Nat) = 12/\(∀ (i : Nat), i < 12->[AV.int .i64 (x i)] = [AV.int .i64 (x_6.2.1 i)])/\True)/\((1 : Nat) = 1/\(12 : Nat) = 12/\(∀ (i : Nat), i < 12->[AV.int .i64 (x i)] = [AV.int .i64 (x_6.2.2 i)])/\True)/\True)/\true = true/\True)/\(zaP x_6.1/\zaN x_6.2.1/\zaN x_6.2.2)/\∀ (y : Unit), True->q33/\q33)/\q35/\q35)/\∀ (t : (StoreT × TickT) × (Int × Int × Int × Int × Int) × List EntT × Nat),
 let q36 : (Int × Int × Int × Int × Int) × List EntT × Nat := t.2;
 let q37 : Int × Int × Int × Int × Int := q36.1;
 let q38 : Int := q37.1;
 let q39 : Int × Int × Int × Int := q37.2;
 let q40 : Int := q39.1;
 let q41 : Int × Int × Int := q39.2;
 let q42 : Int := q41.1;
 let q43 : Int := (q36.2.1.length : Int);
 let q44 : Int × Int := q41.2;
 let q45 : Int := q44.1;
 let q46 : Int := q44.2; I t->Exx (Nat->Int) fun x_6 => ((((1 : Nat) = 1/\(12 : Nat) = 12/\(∀ (i : Nat), i < 12->[AV.int .i64 (x i)] = [AV.int .i64 (x_6 i)])/\True)/\True)/\true = true/\True)/\zaN x_6/\∀ (y : Unit), True->Exx (Nat->Int) fun x_7 => ((((1 : Nat) = 1/\(12 : Nat) = 12/\(∀ (i : Nat), i < 12->[AV.int .i64 (x i)] = [AV.int .i64 (x_7 i)])/\True)/\True)/\true = true/\True)/\zaN x_7/\∀ (y : Unit), True->BC (decide ((↑(rootN x_6 12) : Int) = (↑(rootN x_7 12) : Int))) (BC (decide (q38 = (18 : Int))) (BC (decide (q40 = (18 : Int))) (BC (decide (q42 = (0 : Int))) (BC (decide (q43 = (0 : Int))) (BC (decide (q45 = (1 : Int))) (Exx Unit fun y => ((decide (q46 = (1 : Int)) = true/\True)/\true = true/\True)/\True) q5) q5) q5) q5) q5) q5)) = (fnVC tb [(14, zaA zs8), (15, zaA zt1), (20, zaA ziZ), (21, zoX), (24, zmR), (25, zaA zgU), (27, zaA zfN), (28, zaA zoA)] Tryz.f7 forestCountsC (fun r => { loose := [(7, [1000, 2, 3, 4])], joins := [(6, fcJ6 r), (8, fcJ8 r), (11, fcJ11 r)] }) (fun _ => none)) := by kernel_rfl

theorem forestCounts_ok : SpecOk Tryz.prog 7 (zaA forestCountsC) := by
 refine zaJ mixed zaL (SPok.cons qcB (SPok.cons zy0 (SPok.cons zmQ (SPok.cons zsR (SPok.cons zpY (SPok.cons zsS (SPok.cons zjI (SPok.cons zwX SPok.nil)))))))) Tryz.func7 (by decide) (zaQ fun _ => rfl) (Eq.mp zsU ?_)
 simp (maxSteps := 10000000) only [std, stdU, stdV, Exx, I64, Nat.reduceMul, Nat.reduceDiv, Nat.reduceAdd, Int.reduceToNat, ↓and_self, and_self, and_self_left, and_self_right, zaM, zaH, zaX, zfP, zb9, zjY, zd3, zbS, zgT, zvR]
 intro r hr
 have S0 := zzY (n := 40) (sl := 9) (by omega) (by omega) (by decide) (by omega)
 refine ⟨40, rfl, by omega, by omega, by omega, fun z => FR1 9 z.1 z.2 zyA zbI [] [] [] 0, ⟨zc9 40 0, znQ ((40 : Nat) : Int) 9 100, S0, rfl, rfl, rfl, rfl, rfl, rfl, rfl, rfl⟩, fun s t h => ?_⟩
 simp only at h
 obtain ⟨n1, n2, n3⟩ := h.popNo
 refine ⟨s, zbI, fun _ _ => rfl, rfl, rfl, h.W, h.rI, fun z => FR1 9 z.1.1 z.1.2 zyA zbI [] [] [] 0/\z.2.1 = 18/\z.2.2 = 18, ⟨s, zbI, fun _ _ => rfl, rfl, rfl, h.W, h.tI, h.rI, s, t, 18, 18, ⟨h, rfl, rfl⟩, by rw [n2], by rw [n1], rfl, rfl, rfl, rfl, rfl, rfl, by rw [n1], by rw [n1]⟩, fun s2 t2 e f hz => ?_⟩
 obtain ⟨h2, e1, e2⟩ := hz
 simp only at h2 e1 e2
 subst e1 e2
 have hl : zdS s2.ws zbI = ([], 0) := by
  have : nzL zbI = [] := by decide
  rw [zdS, this, allE]
 refine ⟨s2, zbI, fun _ _ => rfl, rfl, rfl, h2.W, h2.rI, fun l c hc => ?_⟩
 obtain ⟨c1, c2, c3, c4⟩ := hc
 rw [hl] at c3
 have el : l = [] := List.perm_nil.1 c3
 subst el
 refine ⟨r, fun _ _ => rfl, hr, fun z => z.2.1 = (18, 18, 0, 1, 1)/\z.2.2.1 = [], ⟨r, fun _ _ => rfl, r, fun _ _ => rfl, h2.tI, hr, hr, s2, t2, 18, 18, 0, 1, 1, [], c, ⟨rfl, rfl⟩, rfl, rfl, rfl, rfl, by rw [hl], rfl, rfl, rfl, rfl, rfl, rfl, rfl, rfl, rfl, rfl, rfl, Nat.le_refl _, fun _ _ => rfl⟩, fun s3 t3 a1 a2 a3 a4 a5 l3 c3 hz => ?_⟩
 obtain ⟨z1, z2⟩ := hz
 simp only [Prod.mk.injEq] at z1 z2
 obtain ⟨rfl, rfl, rfl, rfl, rfl⟩ := z1
 subst z2
 exact ⟨r, fun _ _ => rfl, hr, r, fun _ _ => rfl, hr, fun _ => ⟨fun _ => ⟨fun _ => ⟨fun _ => ⟨fun _ => ⟨fun _ => rfl, fun h => h rfl⟩, fun h => h rfl⟩, fun h => h rfl⟩, fun h => h rfl⟩, fun h => h rfl⟩, fun h => h rfl⟩

end Yard
