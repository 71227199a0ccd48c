import Derived.Test.YtkdppdofkkakaaaGreatDoorSlotInv
import Derived.Test.YtkdppdofkkakaaaGreatDoorAwMath
import Derived.Test.YtkdppdofkkakaaaGreatDoorSdMath
import Derived.Test.YtkdppdofkkakaaaGreatDoorPagesMath

namespace Yard
open Go Go.Sx Go.Proofs
set_option linter.unusedVariables false
set_option linter.unusedSimpArgs false
set_option maxRecDepth 4000
set_option maxHeartbeats 4000000

abbrev SdX : Type := List Act20 × Nat × List Nat × Int
def sdV (x : SdX) : List AV := [acts20A x.1, .int .u8 (x.2.1 : Nat), octA x.2.2.1, i64 x.2.2.2]
def zjW : Ctr := zbT SdX (fun x => zvP x.1/\x.2.1 < 256/\((∀ c ∈ x.2.2.1, c < 256)/\x.2.2.1.length <= maxLen)/\I64 x.2.2.2) (fun x => [.agg (sdV x)]) (fun _ => .bool true)
def sdLA (x : SdX) : LA := { T := Nat × StoreT × Int, F := fun t => frm 197 [(1, .ptr 1 [] 0), (3, .ptr 2 [] 0), (4, .ptr 3 [] 0), (6, i64 t.2.2), (7, i64 (t.1 : Nat))], H := fun t => [.fence, .cells 25 (sdV x), zk4 3 4, devI t.2.1.ws, zdK t.2.1.a] }
def sdJ18 (x : SdX) : LA := { T := (StoreT × Int) × (List Nat × Nat), F := fun t => frm 197 [(1, .ptr 1 [] 0), (6, i64 t.1.2), (10, .sl 5 [] 0 1 0 t.2.1.length t.2.2)], H := fun t => [.fence, .cells 25 (sdV x), zk4 3 4, devI t.1.1.ws, zdK t.1.1.a, rowN 5 .u8 t.2.2 t.2.1] }
def sdJ27 (x : SdX) : LA := { T := (StoreT × Int) × (List Nat × Nat) × StoreT, F := fun t => frm 197 [(1, .ptr 1 [] 0), (6, i64 t.1.2), (10, .sl 5 [] 0 1 0 t.2.1.1.length t.2.1.2), (15, .ptr 8 [] 0)], H := fun t => [.fence, .cells 25 (sdV x), zk4 3 4, devI t.1.1.ws, zdK t.1.1.a, rowN 5 .u8 t.2.1.2 t.2.1.1, devI t.2.2.ws, zdK t.2.2.a, zk4 6 7], ρ₁ := frRen 5 [10, 12, 13, 15], ρ₂ := frRen 5 [10, 12, 13, 15] }
theorem zqE : (
 let q1 : Prop := Exx Unit fun y => ((true = true/\True)/\true = true/\True)/\True;
 let q2 : Prop := Exx Unit fun x => Tr 1 (true = true/\True)/\Tr 1 (∀ (y : Unit), True->q1);
 let q3 : Prop := zaB/\(0 : Nat) = 0;
 let q4 : Prop := true = true/\q3;
 let q5 : Prop := q4/\True;
 let q6 : Prop := q4/\q5;
 let q7 : Prop := (146 : TypeId) = 146/\q6;
 let q8 : Prop := (25 : TypeId) = 25;
 let q9 : Prop := Exx Unit fun y => ((false = true/\True)/\true = true/\True)/\True;
 let q10 : Prop := (5 : TypeId) = 5;
 let q11 : Prop := Tr 4 (q4/\Tr 181 True);
 let q12 : Prop := q7/\True; ∀ (x : List Act20 × Nat × List Nat × Int),
 let q13 : List Nat := x.2.2.1;
 let q14 : Nat := q13.length;
 let q15 : Int := x.2.2.2;
 let q16 : Int := (x.1.length : Int);
 let q17 : Int := (q14 : Int);
 let q18 : Int := (x.2.1 : Int);
 let q21 : Prop := ((5 : Nat) = 5/\x.1.length = x.1.length/\∀ (i : Nat),
 let q19 : List AV := [AV.int .i64 (x.1.getD i ze0).slot, AV.bool (x.1.getD i ze0).x.live, AV.int .i64 (x.1.getD i ze0).x.gen, AV.int .i64 (x.1.getD i ze0).x.next, AV.bool (x.1.getD i ze0).mark]; i < x.1.length->q19 = q19)/\Tr 1 (q18 = q18)/\((1 : Nat) = 1/\q14 = q14/\∀ (i : Nat),
 let q20 : List AV := [AV.int .u8 (↑(q13.getD i 0) : Int)]; i < q14->q20 = q20)/\Tr 1 (q15 = q15)/\True;
 let q22 : Prop := q8/\q21; zvP x.1/\x.2.1 < 256/\((∀ (c : Nat), c ∈ q13->c < 256)/\q14 <= maxLen)/\I64 q15->Exx Unit fun x_1 => Tr 1 (true = true/\True)/\Tr 1 (∀ (y : Unit), True->BC (decide ((15 : Int) < q16)) q2 (BC (!decide (q17 = (64 : Int))) q2 (Exx (Nat × Int) fun x_2 => ((Tr 1 ((100 : Int) = (x_2.1 : Int))/\Tr 1 ((0 : Int) = x_2.2)/\True)/\true = true/\True)/\(x_2.1 <= 3072/\(0 : Int) <= x_2.2/\I64 x_2.2)/\∀ (y : Unit), True->Exx (Nat × StoreT × Int->Prop) fun I => Exx (Nat × StoreT × Int->Nat) fun m => (Exx (Nat × StoreT × Int) fun t => I t/\Tr 1 (q4/\Tr 1 (q4/\q4/\Tr 1 (Tr 1 ((0 : Int) = t.2.2)/\Tr 1 ((0 : Int) = (t.1 : Int))/\Tr 189 True)))/\true = true/\((25 : Nat) = (25 : TypeId)/\q21)/\q7/\devB (zdM x_2.1 x_2.2).ws = devB t.2.1.ws/\zaC (zdM x_2.1 x_2.2).a = zaC t.2.1.a/\True)/\∀ (t : Nat × StoreT × Int),
 let q23 : Prop := (0 : Int) <= (t.1 : Int)/\(t.1 : Int) < q16;
 let q24 : Act20 := x.1.getD (t.1 : Int).toNat ze0;
 let q25 : SeatT := q24.x;
 let q26 : Int := (t.1 : Int) + 1;
 let q27 : Prop := I64 q26; I t->BC (decide ((t.1 : Int) < q16)) (q23/\q23/\Exx (StoreT × Int × Int × SeatT) fun x =>
 let q28 : Wr := putR x.1 x.2.1 x.2.2.1 x.2.2.2;
 let q29 : Int := q28.e;
 let q30 : StoreT := q28.s; ((q4/\Tr 1 (t.2.2 = x.2.1)/\Tr 1 (q24.slot = x.2.2.1)/\(q25.live = x.2.2.2.live/\Tr 1 (q25.gen = x.2.2.2.gen)/\Tr 1 (q25.next = x.2.2.2.next)/\True)/\True)/\true = true/\q7/\devB t.2.1.ws = devB x.1.ws/\zaC t.2.1.a = zaC x.1.a/\True)/\(zaE x.1/\I64 x.2.1/\I64 x.2.2.1/\zc7 x.2.2.2)/\∀ (y : Unit), True->BC (decide (q29 = (0 : Int))) (q27/\Exx (Nat × StoreT × Int) fun t' => (I t'/\m t' < m t)/\Tr 1 (q4/\Tr 1 (q4/\q4/\Tr 1 (Tr 1 (q28.at_ = t'.snd.2)/\Tr 1 (q26 = (↑t'.fst : Int))/\Tr 189 True)))/\true = true/\q22/\q7/\devB q30.ws = devB t'.snd.1.ws/\zaC q30.a = zaC t'.snd.1.a/\True) (q27/\Exx (Nat × StoreT × Int) fun t' => (I t'/\m t' < m t)/\Tr 1 (q4/\Tr 1 (q4/\q4/\Tr 1 (Tr 1 (t.2.2 = t'.snd.2)/\Tr 1 (q26 = (↑t'.fst : Int))/\Tr 189 True)))/\true = true/\q22/\q7/\devB q30.ws = devB t'.snd.1.ws/\zaC q30.a = zaC t'.snd.1.a/\True)) (Exx (List Nat) fun x => (q5/\true = true/\devB t.2.1.ws = devB x/\True)/\DevW x/\∀ (y : Nat), (octetsN x).length <= y->BC (!decide ((↑(octetsN x).length : Int) = (6400 : Int))) q9 (∀ (m : Int), m = IntKind.i64.wrap q18->(100 : Int) ≠ (0 : Int)/\∀ (n : Int),
 let q31 : Int := 64 * n + 64;
 let q32 : Nat := q31.toNat;
 let q33 : Nat := 0 + (64 * n).toNat;
 let q34 : Nat := q33 + min q14 (q32 - (64 * n).toNat); n = m.tmod 100->Exx ((StoreT × Int) × List Nat × Nat->Prop) fun I => (I64 (64 * n)/\I64 (64 * n)/\I64 q31/\(0 : Int) <= q31/\(0 : Int) <= 64 * n/\((64 * n).toNat <= q32/\q32 <= y)/\q34 <= (octetsN x).length/\Exx ((StoreT × Int) × List Nat × Nat) fun t_1 => I t_1/\Tr 1 (q4/\Tr 4 (Tr 1 (t.2.2 = t_1.1.2)/\Tr 3 ((true = true/\zaB/\(0 : Nat) = 0/\(1 : Nat) = 1/\(0 : Nat) = 0/\(octetsN x).length = t_1.2.1.length/\y = t_1.2.2)/\Tr 186 True)))/\true = true/\q22/\q7/\devB x = devB t_1.1.1.ws/\zaC t.2.1.a = zaC t_1.1.1.a/\(q10/\(1 : Nat) = 1/\y = t_1.2.2/\t_1.2.1.length <= (octetsN x).length/\∀ (i : Nat), i < t_1.2.1.length->(if q33 <= i/\i < q34 then [AV.int .u8 (↑(q13.getD (i - q33) 0) : Int)] else [AV.int .u8 (↑((octetsN x).getD i 0) : Int)]) = [AV.int .u8 (↑(t_1.2.1.getD i 0) : Int)])/\True)/\∀ (t : (StoreT × Int) × List Nat × Nat),
 let q35 : Prop := 0 + t.2.1.length <= t.2.1.length; I t->Exx (List Nat) fun x => (((q35/\t.2.1.length = x.length/\∀ (i : Nat), i < x.length->[AV.int .u8 (↑(t.2.1.getD (0 + i) 0) : Int)] = [AV.int .u8 (↑(x.getD i 0) : Int)])/\True)/\true = true/\True)/\Oct x/\∀ (y : Unit), True->Exx (Int × List Int) fun x_3 => ((Tr 1 ((100 : Int) = x_3.1)/\(0 = x_3.2.length/\∀ (i : Nat), i < x_3.2.length->[] = [AV.int .i64 (x_3.2.getD i 0)])/\True)/\true = true/\True)/\(I64 x_3.1/\Ints x_3.2)/\∀ (y : Unit), True->Exx (Int × List Int) fun x_4 => ((Tr 1 ((100 : Int) = x_4.1)/\(0 = x_4.2.length/\∀ (i : Nat), i < x_4.2.length->[] = [AV.int .i64 (x_4.2.getD i 0)])/\True)/\true = true/\True)/\(I64 x_4.1/\Ints x_4.2)/\∀ (y : Unit), True->Exx ((Nat × Nat) × (Nat × Nat) × Int) fun x_5 => ((q4/\q4/\Tr 1 ((0 : Int) = x_5.2.2)/\True)/\true = true/\setB (clampN x_3.1, addL (clampN x_3.1) 0 x_3.2) = setB x_5.1/\setB (clampN x_4.1, addL (clampN x_4.1) 0 x_4.2) = setB x_5.2.1/\True)/\(SetW x_5.1/\SetW x_5.2.1/\I64 x_5.2.2)/\(x_5.1.1 = x_5.2.1.1/\(0 : Int) <= x_5.2.2->∀ (y : Unit), True->Exx StoreT fun x_6 => (q6/\true = true/\devB (zbI x) = devB x_6.ws/\zaC (zbE x_5) = zaC x_6.a/\True)/\(DevW x_6.ws/\za2 x_6.a)/\(x_6.a.n.le (linesN x_6.ws)->∀ (y : Unit), True->Exx (StoreT × Int) fun x =>
 let q36 : Int := (↑(zbM x.1.ws x.2).length : Int);
 let q37 : Bool := !decide (q36 = (0 : Int)); ((q4/\Tr 1 (t.1.2 = x.2)/\True)/\true = true/\q7/\devB x_6.ws = devB x.1.ws/\zaC x_6.a = zaC x.1.a/\True)/\(zaE x.1/\I64 x.2)/\∀ (y : Nat), (zbM x.1.ws x.2).length <= y/\y <= 9223372036854775807->q35/\Exx (List Nat) fun m => (t.2.1.length = m.length/\∀ (i : Nat), i < m.length->[AV.int .u8 (↑(t.2.1.getD (0 + i) 0) : Int)] = [AV.int .u8 (↑(m.getD i 0) : Int)])/\(∀ (c : Nat), c ∈ m->c < 256)/\Exx (List Nat × Int) fun x_7 =>
 let q38 : Bool := decide (zcN x_7.1 x_7.2);
 let q39 : Bool := !q38; ((cstr m = cstr x_7.1/\Tr 1 (t.1.2 = x_7.2)/\True)/\true = true/\True)/\(Oct x_7.1/\I64 x_7.2)/\∀ (y : Nat), (zb5 x_7.1 x_7.2).length <= y/\y <= 9223372036854775807->Exx ((StoreT × Int) × (List Nat × Nat) × StoreT->Prop) fun I =>
 let q45 : Prop := Exx ((StoreT × Int) × (List Nat × Nat) × StoreT) fun t_1 =>
 let q40 : List Nat × Nat := t_1.2.1;
 let q41 : List Nat := q40.1;
 let q42 : Nat := q41.length;
 let q43 : Prop := t.2.2 = q40.2;
 let q44 : StoreT := t_1.2.2; I t_1/\Tr 1 (q4/\Tr 4 (Tr 1 (t.1.2 = t_1.1.2)/\Tr 3 ((true = true/\zaB/\(0 : Nat) = 0/\(1 : Nat) = 1/\(0 : Nat) = 0/\t.2.1.length = q42/\q43)/\q11)))/\true = true/\q22/\q7/\devB t.1.1.ws = devB t_1.1.1.ws/\zaC t.1.1.a = zaC t_1.1.1.a/\(q10/\(1 : Nat) = 1/\q43/\q42 <= t.2.1.length/\∀ (i : Nat), i < q42->[AV.int .u8 (↑(t.2.1.getD i 0) : Int)] = [AV.int .u8 (↑(q41.getD i 0) : Int)])/\devB x.1.ws = devB q44.ws/\zaC x.1.a = zaC q44.a/\q12;
 let q46 : Prop := BC q39 (BC q37 q9 q45) q45; BC (!decide (zbD x.1.ws x.2 = (0 : Int)) == q38) q9 (BC q38 (Exx (List Int × List Int) fun x_8 => (((0 + (zbM x.1.ws x.2).length <= (zbM x.1.ws x.2).length/\(zbM x.1.ws x.2).length = x_8.1.length/\∀ (i : Nat), i < x_8.1.length->[AV.int .i64 ((zbM x.1.ws x.2).getD (0 + i) 0)] = [AV.int .i64 (x_8.1.getD i 0)])/\(0 + (zb5 x_7.1 x_7.2).length <= (zb5 x_7.1 x_7.2).length/\(zb5 x_7.1 x_7.2).length = x_8.2.length/\∀ (i : Nat), i < x_8.2.length->[AV.int .i64 ((zb5 x_7.1 x_7.2).getD (0 + i) 0)] = [AV.int .i64 (x_8.2.getD i 0)])/\True)/\true = true/\True)/\(zxE x_8.1/\zxE x_8.2)/\∀ (y : Unit), True->BC (!decide (x_8.1 = x_8.2)) q9 q46) q46)/\∀ (t : (StoreT × Int) × (List Nat × Nat) × StoreT),
 let q47 : StoreT := t.2.2;
 let q48 : List Nat := t.2.1.1;
 let q49 : Nat := q48.length; I t->Exx (Int × Int) fun x => ((Tr 1 (q15 = x.1)/\Tr 1 ((1792 : Int) = x.2)/\True)/\true = true/\True)/\(I64 x.1/\(1 : Int) <= x.2/\x.2 <= (1000000 : Int))/\∀ (y : Unit), True->Exx (StoreT × Int × Int) fun x_8 =>
 let q50 : Int := zaP x_8.1.ws x_8.2.1 x_8.2.2;
 let q51 : SeatT := zfM x_8.1.ws x_8.2.1 x_8.2.2;
 let q52 : Bool := q51.live;
 let q53 : Int := q51.gen;
 let q54 : Int := q51.next;
 let q55 : Prop := Tr 3 True/\Tr 3 True/\∀ (b : Bool), (b = true ↔ q52 = false/\q53 = (0 : Int)/\q54 = (0 : Int)/\True)->BC b (BC (decide (q50 = (31 : Int))) q1 (Exx Unit fun y => ((decide (q50 = (2 : Int)) = true/\True)/\true = true/\True)/\True)) q9; ((q4/\Tr 1 (t.1.2 = x_8.2.1)/\Tr 1 (x.1 % x.2 = x_8.2.2)/\True)/\true = true/\q7/\devB q47.ws = devB x_8.1.ws/\zaC q47.a = zaC x_8.1.a/\True)/\(zaE x_8.1/\I64 x_8.2.1/\I64 x_8.2.2)/\∀ (y : Unit), True->0 + q49 <= q49/\Exx (List Nat) fun m => (q49 = m.length/\∀ (i : Nat), i < m.length->[AV.int .u8 (↑(q48.getD (0 + i) 0) : Int)] = [AV.int .u8 (↑(m.getD i 0) : Int)])/\(∀ (c : Nat), c ∈ m->c < 256)/\Exx (List Nat × Int × Nat) fun x_9 =>
 let q56 : Bool := decide (zcK x_9.1 x_9.2.1 x_9.2.2);
 let q57 : Prop := BC q56 q1 q55;
 let q58 : SeatT := zeH x_9.1 x_9.2.1 x_9.2.2; ((cstr m = cstr x_9.1/\Tr 1 (t.1.2 = x_9.2.1)/\Tr 1 (x.1 % x.2 = (x_9.2.2 : Int))/\True)/\true = true/\True)/\(Oct x_9.1/\I64 x_9.2.1/\x_9.2.2 < 1792)/\∀ (y : Unit), True->BC (decide (q50 = (0 : Int)) == q56) (BC (!q56) q57 (Tr 3 True/\Tr 3 True/\∀ (b : Bool), (b = true ↔ q52 = q58.live/\q53 = q58.gen/\q54 = q58.next/\True)->BC b q57 q9)) q9)/\(¬storeNewI.p x_6->∀ (y : Unit), True->q9))/\(¬allocNewI.p x_5->∀ (y : Unit), True->Exx StoreT fun x => (((False/\q3)/\False/\True)/\false = true/\False/\False/\True)/\(DevW x.ws/\za2 x.a)/\(x.a.n.le (linesN x.ws)->∀ (y : Unit), True->False)/\(¬storeNewI.p x->∀ (y : Unit), True->q9)))))))) = (fnVC tb [(9, zaA zpX), (10, zaA zeS), (11, zaA zkD), (12, zaA zkP), (13, zaA zkR), (14, zgI), (15, zaA zuL), (16, zfI storeNewI), (17, zaA ze2), (18, zaA zhH), (19, zaA zoU), (20, zaA restC), (21, zaA qeC), (22, zaA zi9)] Tryz.f3 zjW (fun x => { loops := [(8, sdLA x)], loose := [(10, [2, 3, 4]), (17, [5])], joins := [(18, sdJ18 x), (27, sdJ27 x)] }) (fun _ => none)) := by kernel_rfl

theorem zmY : SpecOk Tryz.prog 3 (zaA zjW) := by
 refine zaF zaH zaG (SPok.cons zw8 (SPok.cons zj5 (SPok.cons znB (SPok.cons zw2 (SPok.cons zw6 (SPok.cons zhA (SPok.cons zuK (SPok.cons zk2 (SPok.cons zoJ (SPok.cons zoZ (SPok.cons zwC (SPok.cons rest_ok (SPok.cons qaT (SPok.cons zqU SPok.nil)))))))))))))) Tryz.func3 (by decide) (zaI fun _ => rfl) (Eq.mp zqE ?_)
 simp (maxSteps := 10000000) only [std, stdU, stdV, Exx, I64, Nat.reduceMul, Nat.reduceDiv, Nat.reduceAdd, Int.reduceToNat, ↓and_self, and_self, and_self_left, and_self_right, zaU, zaO, zaR, qcM, zxX, zyE, zuO]
 rintro acts at_ blk slot ⟨hA, h256, hb, hbl, hs1, hs2⟩ h15 h64
 have I0 : NInv (zdM 100 0) (qcG ((100 : Nat) : Int) 9 100) desk0 [] := zzM (by omega) (by omega) ⟨by omega, by omega, by omega, by omega, by omega, by omega⟩
 have m1 : (IntKind.i64.wrap (at_ : Int)).tmod 100 = ((at_ % 100 : Nat) : Int) := by rw [zbC ⟨by omega, by omega⟩]; rfl
 have hk : at_ % 100 < 100 := Nat.mod_lt _ (by decide)
 simp only [m1]
 generalize at_ % 100 = k at hk
 have t1 : (64 * (k : Int)).toNat = 64 * k := by omega
 have t2 : (64 * (k : Int) + 64).toNat = 64 * k + 64 := by omega
 have t3 : blk.length = 64 := by omega
 simp only [t1, t2, t3, show min 64 (64 * k + 64 - 64 * k) = 64 by omega]
 refine ⟨100, rfl, by omega, by omega, by omega, by omega, fun t => t.1 <= acts.length/\zaE t.2.1/\t.2.1.ws.length = 800/\I64 t.2.2, ⟨0, zdM 100 0, 0, ⟨Nat.zero_le _, I0.W, (by show (List.replicate (8 * 100) 0).length = 800; rw [List.length_replicate]), ziU⟩, rfl, rfl, rfl, rfl⟩, fun t => acts.length - t.1, fun i s top hJ => ⟨fun hlt => ?_, fun hge => ?_⟩⟩
 ·obtain ⟨q1, q2, q3, q4⟩ := hJ
  simp only at q1 q2 q3 q4
  have ha := act_get hA i
  have hW := zyZ q2 top (acts.getD i ze0).slot (acts.getD i ze0).x
  have hL := put_len s top (acts.getD i ze0).slot (acts.getD i ze0).x
  refine ⟨by omega, by omega, by omega, by omega, q2, q4.1, q4.2, ha.1.1, ha.1.2, ha.2, fun _ => ⟨by omega, by omega, i + 1, _, _, ⟨by simp only; omega, hW, hL.trans q3, zs1 q2 q4 _ _⟩, by simp only; omega, rfl, by omega, rfl, rfl⟩, fun _ => ⟨by omega, by omega, i + 1, _, top, ⟨by simp only; omega, hW, hL.trans q3, q4⟩, by simp only; omega, rfl, by omega, rfl, rfl⟩⟩
 ·obtain ⟨q1, q2, q3, q4⟩ := hJ
  simp only at q1 q2 q3 q4
  have hl : (octetsN s.ws).length = 6400 := by rw [zbB, q3]
  have hO := qaD q2
  rw [hl]
  have hlen : ((octetsN s.ws).take (64 * k) ++ (blk ++ (octetsN s.ws).drop (64 * k + 64))).length = 6400 := by simp only [List.length_append, List.length_take, List.length_drop]; omega
  refine ⟨q2.1, fun y hy => ⟨fun h => h rfl, fun _ => ⟨by decide, by omega, by omega, by omega, by omega, by omega, by omega, by omega, by omega, by omega, by omega, by omega, fun t => t.1 = (s, top)/\t.2.1.length = 6400/\∀ c ∈ t.2.1, c < 256, ⟨s, top, _, y, ⟨rfl, hlen, fun c hc => ?_⟩, rfl, hlen.symm, rfl, rfl, rfl, rfl, Nat.le_of_eq hlen, fun i hi => ?_⟩, fun s' top' img cap hz => ?_⟩⟩⟩
  ·rcases List.mem_append.1 hc with h | h
   ·exact hO.1 c (List.mem_of_mem_take h)
   ·rcases List.mem_append.1 h with h | h
    ·exact hb c h
    ·exact hO.1 c (List.mem_of_mem_drop h)
  ·rw [hlen] at hi
   rw [zaM, zaM, List.length_take, show min (64 * k) (octetsN s.ws).length = 64 * k by omega, t3]
   by_cases e1 : i < 64 * k
   ·rw [if_neg (by omega), if_pos e1, zaZ, if_pos e1]
   ·by_cases e2 : i < 64 * k + 64
    ·rw [if_pos ⟨by omega, e2⟩, if_neg e1, if_pos (by omega)]
    ·rw [if_neg (by omega), if_neg e1, if_neg (by omega), List.getD_eq_getElem?_getD, List.getD_eq_getElem?_getD, List.getElem?_drop, show 64 * k + 64 + (i - 64 * k - 64) = i by omega]
  obtain ⟨z1, z2, z3⟩ := hz
  simp only [Prod.mk.injEq] at z1 z2 z3
  obtain ⟨rfl, rfl⟩ := z1
  have hO2 : Oct img := ⟨z3, by omega⟩
  have eI := qd9 z3 (by omega) (by omega)
  have hfl : (zbI img).length = 800 := by rw [zbI, zc2, List.length_take]; omega
  have hln : linesN (zbI img) = 100 := by rw [linesN, hfl]
  have hw : SetW (clampN 100, addL (clampN 100) 0 []) := ⟨by decide, by decide⟩
  have hD : DevW (zbI img) := ⟨by omega, ziV fun x hx => z3 x (List.mem_of_mem_take hx)⟩
  have hA' : za2 (zbE ((clampN 100, addL (clampN 100) 0 []), (clampN 100, addL (clampN 100) 0 []), 0)) := ⟨by decide, ziU, by decide, by decide, by decide, by decide⟩
  obtain ⟨p1, p2, p3⟩ := zzH (zbI img) top'
  rw [eI] at p1 p2 p3
  have pl := zjA img top' 16
  have pL : (zb5 img top').length <= 1000 := by
   unfold zb5
   split
   ·omega
   ·simp
  have hiI : ∀ c ∈ zb5 img top', I64 c := fun c hc => by
   by_cases e : zcN img top'
   ·rw [<- p2 e, zbM, if_pos (p1.2 e)] at hc
    rcases pages_mem.1 hc with k | ⟨i, hi, k⟩ | ⟨i, j, hi, hj, k⟩
    ·rw [k.1]; exact q4
    ·rw [k.1, <- zeD]; exact zeV _ _ hi
    ·rw [k.1, <- qaB]; exact zeV _ _ hj
   ·rw [zb5, if_neg e] at hc; cases hc
  have e0 : ∀ c : Int, c ∈ ([] : List Int)->I64 c := fun c hc => (by cases hc)
  refine ⟨hO2, [], rfl, fun i hi => absurd hi (Nat.not_lt_zero _), by omega, by omega, ⟨fun x hx => (by cases hx), by decide⟩, [], rfl, fun i hi => absurd hi (Nat.not_lt_zero _), by omega, by omega, ⟨fun x hx => (by cases hx), by decide⟩, hw, hw, by omega, by omega, fun _ => ⟨hD, hA', fun _ => ⟨⟨hD, hA'⟩, q4.1, q4.2, fun y1 hy1 => ⟨z3, hO2, q4.1, q4.2, fun y2 hy2 => ⟨fun hb => ?_, fun t => Oct t.2.1.1/\octetsN t.2.2.ws = t.2.1.1/\zaE t.2.2/\I64 t.1.2, fun _ => ⟨fun ok => ⟨?_, ⟨hiI, by omega⟩, fun hn => hn (p2 ok), fun _ => ⟨fun hn => absurd ok hn, fun _ => ?_⟩⟩, fun nok => ⟨fun _ => ⟨fun hn => hn (by rw [p3 nok]; rfl), fun _ => ?_⟩, fun ok => absurd ok nok⟩⟩, fun s2 top2 img2 cap2 st hz => ?_⟩⟩⟩, fun hn => hn (by show clampN 100 <= linesN (zbI img); rw [hln]; decide)⟩, fun hn => absurd ⟨rfl, by decide⟩ hn⟩
  ·by_cases e : zcN img top'
   ·simp [e, p1.2 e] at hb
   ·have : ¬ zbD (zbI img) top' = 0 := fun k => e (p1.1 k)
    simp [e, this] at hb
  ·rw [p2 ok]; exact ⟨hiI, by omega⟩
  ·exact ⟨s', top', img, cap, ⟨zbI img, zbE ((clampN 100, addL (clampN 100) 0 []), (clampN 100, addL (clampN 100) 0 []), 0)⟩, ⟨hO2, eI, ⟨hD, hA'⟩, q4⟩, rfl, rfl, rfl, rfl, rfl, rfl, Nat.le_refl _, fun _ _ => rfl, rfl, rfl⟩
  ·exact ⟨s', top', img, cap, ⟨zbI img, zbE ((clampN 100, addL (clampN 100) 0 []), (clampN 100, addL (clampN 100) 0 []), 0)⟩, ⟨hO2, eI, ⟨hD, hA'⟩, q4⟩, rfl, rfl, rfl, rfl, rfl, rfl, Nat.le_refl _, fun _ _ => rfl, rfl, rfl⟩
  obtain ⟨w1, w2, w3, w4⟩ := hz
  simp only at w1 w2 w3 w4
  have hr : 0 <= slot % 1792/\slot % 1792 < 1792 := ⟨Int.emod_nonneg _ (by decide), Int.emod_lt_of_pos _ (by decide)⟩
  obtain ⟨n, hn⟩ : ∃ n : Nat, slot % 1792 = (n : Int) := ⟨(slot % 1792).toNat, by omega⟩
  rw [hn]
  obtain ⟨f1, f2, f3, f4⟩ := qeB st.ws top2 (n := n) (by omega)
  rw [w2] at f1 f2 f3
  refine ⟨hs1, hs2, by omega, by omega, w3, w4.1, w4.2, by omega, by omega, w1.1, n, rfl, w1, w4.1, w4.2, by omega, fun _ => ⟨fun nok _ bb hbb => ⟨fun _ h31 => ?_, fun hf => ?_⟩, fun ok bb hbb => ⟨fun _ hn => absurd ok hn, fun hf => ?_⟩⟩, fun hb => ?_⟩
  ·exact (f4.resolve_left fun k => nok (f1.1 k)).resolve_left h31
  ·have := hbb.2 (by rw [f3 nok]; exact ⟨rfl, rfl, rfl⟩)
   rw [hf] at this; cases this
  ·have := hbb.2 (by rw [f2 ok]; exact ⟨rfl, rfl, rfl⟩)
   rw [hf] at this; cases this
  ·by_cases e : zcK img2 top2 n
   ·simp [e, f1.2 e] at hb
   ·have : ¬ zaP st.ws top2 (n : Int) = 0 := fun k => e (f1.1 k)
    simp [e, this] at hb

abbrev SdL : Type := List A20 × Nat × List Nat × Int
def slotsDamageLC : Ctr := zbT SdL (fun x => A20I x.1/\x.2.1 < 256/\((∀ c ∈ x.2.2.1, c < 256)/\x.2.2.1.length <= maxLen)/\I64 x.2.2.2) (fun x => [.agg [a20A x.1, .int .u8 (x.2.1 : Nat), octA x.2.2.1, i64 x.2.2.2]]) (fun _ => .bool true)
theorem slotsDamageL_ok : SpecOk Tryz.prog 3 (zaA slotsDamageLC) :=
 law_map zmY (fun x : SdL => (x.1.map a20, x.2)) (fun x => by show [AV.agg [acts20A (x.1.map a20), _, _, _]] = _; rw [qeU]) (fun x h => ⟨qeV h.1, h.2⟩)

end Yard
