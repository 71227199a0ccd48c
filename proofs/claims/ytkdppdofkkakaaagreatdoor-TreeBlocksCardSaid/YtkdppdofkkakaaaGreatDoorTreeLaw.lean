import Derived.Test.YtkdppdofkkakaaaGreatDoorAwMath

namespace Yard
open Go Go.Sx Go.Proofs
set_option linter.unusedVariables false
set_option linter.unusedSimpArgs false
set_option maxRecDepth 4000
set_option maxHeartbeats 4000000

theorem qnB : (
 let q1 : Prop := true = true/\zaC/\(0 : Nat) = 0;
 let q2 : Prop := (146 : TypeId) = 146/\q1/\q1/\True;
 let q3 : Prop := (71 : TypeId) = 71;
 let q4 : Prop := q3/\q1/\q1/\q1/\Tr 1 (awT.blocks = awT.blocks)/\Tr 1 (awT.slots = awT.slots)/\Tr 1 (awT.gens = awT.gens)/\Tr 1 (awT.top = awT.top)/\Tr 1 (awT.high = awT.high)/\Tr 1 (awT.free = awT.free)/\True;
 let q5 : Prop := (65 : TypeId) = 65;
 let q6 : Nat := 0 + Int.toNat 0;
 let q7 : Nat := 0 + Int.toNat 1;
 let q8 : Prop := Exx Unit fun y => ((false = true/\True)/\true = true/\True)/\True; ∀ (x : Unit), True->Exx (Nat × Int) fun x =>
 let q9 : TickT := zjJ (x.1 : Int) x.2 100;
 let q10 : Int := q9.blocks;
 let q11 : Int := q9.slots;
 let q12 : Int := q9.gens;
 let q13 : Int := q9.top;
 let q14 : Int := q9.high;
 let q15 : Int := q9.free; ((Tr 1 ((30 : Int) = (x.1 : Int))/\Tr 1 ((9 : Int) = x.2)/\True)/\true = true/\True)/\(x.1 <= 3072/\I64 x.2)/\∀ (y : Unit), True->Exx (Unit->Prop) fun I =>
 let q19 : Prop := Exx (StoreT × TickT × Int × Int) fun x_1 =>
 let q16 : MR := mkRes x_1.1 x_1.2.1 x_1.2.2.1 x_1.2.2.2;
 let q17 : StoreT := q16.s;
 let q18 : TickT := q16.t; ((q1/\(Tr 1 (q10 = x_1.2.1.blocks)/\Tr 1 (q11 = x_1.2.1.slots)/\Tr 1 (q12 = x_1.2.1.gens)/\Tr 1 (q13 = x_1.2.1.top)/\Tr 1 (q14 = x_1.2.1.high)/\Tr 1 (q15 = x_1.2.1.free)/\True)/\Tr 1 ((5 : Int) = x_1.2.2.1)/\Tr 1 ((1 : Int) = x_1.2.2.2)/\True)/\true = true/\q2/\devB (zcM x.1 0).ws = devB x_1.1.ws/\zaB (zcM x.1 0).a = zaB x_1.1.a/\True)/\(zaG x_1.1/\zbC x_1.2.1/\I64 x_1.2.2.1/\I64 x_1.2.2.2)/\∀ (y : Unit), True->Exx Unit fun t => I t/\Tr 1 (q1/\q1/\Tr 1 (q16.a = aw22a.a)/\Tr 1 (Tr 1 (q16.e = aw22a.e)/\Tr 110 True))/\true = true/\(q3/\q1/\q1/\q1/\Tr 1 (q10 = awT.blocks)/\Tr 1 (q11 = awT.slots)/\Tr 1 (q12 = awT.gens)/\Tr 1 (q13 = awT.top)/\Tr 1 (q14 = awT.high)/\Tr 1 (q15 = awT.free)/\True)/\q2/\devB q17.ws = devB aw22a.s.ws/\zaB q17.a = zaB aw22a.s.a/\((65 : Nat) = (65 : TypeId)/\Tr 1 (q18.blocks = aw22a.t.blocks)/\Tr 1 (q18.slots = aw22a.t.slots)/\Tr 1 (q18.gens = aw22a.t.gens)/\Tr 1 (q18.top = aw22a.t.top)/\Tr 1 (q18.high = aw22a.t.high)/\Tr 1 (q18.free = aw22a.t.free)/\True)/\True;
 let q20 : Prop := q19/\q19;
 let q21 : Prop := q20/\q19;
 let q26 : Prop := ((Exx (StoreT × TickT × Int × Int) fun x_1 =>
 let q22 : MR := mkRes x_1.1 x_1.2.1 x_1.2.2.1 x_1.2.2.2;
 let q23 : StoreT := q22.s;
 let q24 : TickT := q22.t;
 let q25 : Prop := Exx Unit fun t => I t/\Tr 1 (q1/\q1/\Tr 1 (q22.a = aw22a.a)/\Tr 1 (Tr 1 (q22.e = aw22a.e)/\Tr 110 True))/\true = true/\(q3/\q1/\q1/\q1/\Tr 1 (q10 = awT.blocks)/\Tr 1 (q11 = awT.slots)/\Tr 1 (q12 = awT.gens)/\Tr 1 (q13 = awT.top)/\Tr 1 (q14 = awT.high)/\Tr 1 (q15 = awT.free)/\True)/\q2/\devB q23.ws = devB aw22a.s.ws/\zaB q23.a = zaB aw22a.s.a/\((65 : Nat) = (65 : TypeId)/\Tr 1 (q24.blocks = aw22a.t.blocks)/\Tr 1 (q24.slots = aw22a.t.slots)/\Tr 1 (q24.gens = aw22a.t.gens)/\Tr 1 (q24.top = aw22a.t.top)/\Tr 1 (q24.high = aw22a.t.high)/\Tr 1 (q24.free = aw22a.t.free)/\True)/\True; ((q1/\(Tr 1 (q10 = x_1.2.1.blocks)/\Tr 1 (q11 = x_1.2.1.slots)/\Tr 1 (q12 = x_1.2.1.gens)/\Tr 1 (q13 = x_1.2.1.top)/\Tr 1 (q14 = x_1.2.1.high)/\Tr 1 (q15 = x_1.2.1.free)/\True)/\Tr 1 ((5 : Int) = x_1.2.2.1)/\Tr 1 ((1 : Int) = x_1.2.2.2)/\True)/\true = true/\q2/\devB (zcM x.1 0).ws = devB x_1.1.ws/\zaB (zcM x.1 0).a = zaB x_1.1.a/\True)/\(zaG x_1.1/\zbC x_1.2.1/\I64 x_1.2.2.1/\I64 x_1.2.2.2)/\∀ (y : Unit), True->q25/\q25)/\q20/\q20)/\q21/\q21;
 let q27 : Prop := q21/\q21/\q20; (q26/\q26/\q27/\q27)/\∀ (t : Unit), I t->Exx (Unit->Prop) fun I =>
 let q32 : Prop := Exx (StoreT × TickT × Int × Int) fun x =>
 let q28 : MR := mkRes x.1 x.2.1 x.2.2.1 x.2.2.2;
 let q29 : StoreT := q28.s;
 let q30 : TickT := q28.t;
 let q31 : HandT := q28.h; ((q1/\(Tr 1 (aw22a.t.blocks = x.2.1.blocks)/\Tr 1 (aw22a.t.slots = x.2.1.slots)/\Tr 1 (aw22a.t.gens = x.2.1.gens)/\Tr 1 (aw22a.t.top = x.2.1.top)/\Tr 1 (aw22a.t.high = x.2.1.high)/\Tr 1 (aw22a.t.free = x.2.1.free)/\True)/\Tr 1 ((3 : Int) = x.2.2.1)/\Tr 1 ((2 : Int) = x.2.2.2)/\True)/\true = true/\q2/\devB aw22a.s.ws = devB x.1.ws/\zaB aw22a.s.a = zaB x.1.a/\True)/\(zaG x.1/\zbC x.2.1/\I64 x.2.2.1/\I64 x.2.2.2)/\∀ (y : Unit), True->Exx Unit fun t => I t/\Tr 1 (q1/\q1/\Tr 1 (aw22a.a = aw22a.a)/\Tr 1 (Tr 1 (aw22a.e = aw22a.e)/\Tr 1 (q28.a = aw22b.a)/\q1/\Tr 1 (q28.e = aw22b.e)/\Tr 107 True))/\true = true/\q4/\q2/\devB q29.ws = devB aw22b.s.ws/\zaB q29.a = zaB aw22b.s.a/\(q5/\Tr 1 (q30.blocks = aw22b.t.blocks)/\Tr 1 (q30.slots = aw22b.t.slots)/\Tr 1 (q30.gens = aw22b.t.gens)/\Tr 1 (q30.top = aw22b.t.top)/\Tr 1 (q30.high = aw22b.t.high)/\Tr 1 (q30.free = aw22b.t.free)/\True)/\((67 : Nat) = (67 : TypeId)/\Tr 1 (q31.slot = aw22b.h.slot)/\Tr 1 (q31.gen = aw22b.h.gen)/\True)/\True;
 let q33 : Prop := q32/\q32;
 let q34 : Prop := q33/\q32; (q34/\q34/\q33)/\∀ (t : Unit), I t->Exx (Int × Int × Int->Prop) fun I =>
 let q38 : Prop := Exx (StoreT × TickT × Int × Int) fun x =>
 let q35 : TR := lkRes x.1 x.2.1 x.2.2.1 x.2.2.2;
 let q36 : StoreT := q35.s;
 let q37 : TickT := q35.t; ((q1/\(Tr 1 (aw22b.t.blocks = x.2.1.blocks)/\Tr 1 (aw22b.t.slots = x.2.1.slots)/\Tr 1 (aw22b.t.gens = x.2.1.gens)/\Tr 1 (aw22b.t.top = x.2.1.top)/\Tr 1 (aw22b.t.high = x.2.1.high)/\Tr 1 (aw22b.t.free = x.2.1.free)/\True)/\Tr 1 (aw22a.a = x.2.2.1)/\Tr 1 (aw22b.a = x.2.2.2)/\True)/\true = true/\q2/\devB aw22b.s.ws = devB x.1.ws/\zaB aw22b.s.a = zaB x.1.a/\True)/\(zaG x.1/\zbC x.2.1/\I64 x.2.2.1/\I64 x.2.2.2)/\∀ (y : Unit), True->Exx (Int × Int × Int) fun t => I t/\Tr 1 (q1/\q1/\Tr 2 (Tr 1 (aw22a.e = t.1)/\Tr 1 (q1/\Tr 1 (aw22b.e = t.2.1)/\Tr 1 (q35.a = aw22c.a)/\Tr 1 (q35.e = t.2.2)/\Tr 105 True)))/\true = true/\q4/\q2/\devB q36.ws = devB aw22c.s.ws/\zaB q36.a = zaB aw22c.s.a/\(q5/\Tr 1 (q37.blocks = aw22c.t.blocks)/\Tr 1 (q37.slots = aw22c.t.slots)/\Tr 1 (q37.gens = aw22c.t.gens)/\Tr 1 (q37.top = aw22c.t.top)/\Tr 1 (q37.high = aw22c.t.high)/\Tr 1 (q37.free = aw22c.t.free)/\True)/\((67 : TypeId) = 67/\Tr 1 (aw22b.h.slot = aw22b.h.slot)/\Tr 1 (aw22b.h.gen = aw22b.h.gen)/\True)/\True; (q38/\q38)/\∀ (t : Int × Int × Int), I t->Exx (StoreT × Int) fun x =>
 let q39 : Int := (↑(zcN x.1.ws x.2).1.length : Int);
 let q40 : Int := ((zcN x.1.ws x.2).1.getD q6 entZ).key;
 let q41 : Int := ((zcN x.1.ws x.2).1.getD q7 entZ).key;
 let q44 : Prop := Exx (StoreT × TickT × HandT) fun x_1 =>
 let q42 : Int := zc2 x_1.1.ws x_1.2.1 x_1.2.2;
 let q43 : Int := (zdL x_1.1.ws x_1.2.1 x_1.2.2).next; ((q1/\(Tr 1 (aw22c.t.blocks = x_1.2.1.blocks)/\Tr 1 (aw22c.t.slots = x_1.2.1.slots)/\Tr 1 (aw22c.t.gens = x_1.2.1.gens)/\Tr 1 (aw22c.t.top = x_1.2.1.top)/\Tr 1 (aw22c.t.high = x_1.2.1.high)/\Tr 1 (aw22c.t.free = x_1.2.1.free)/\True)/\(Tr 1 (aw22b.h.slot = x_1.2.2.slot)/\Tr 1 (aw22b.h.gen = x_1.2.2.gen)/\True)/\True)/\true = true/\q2/\devB x.1.ws = devB x_1.1.ws/\zaB x.1.a = zaB x_1.1.a/\True)/\(zaG x_1.1/\zbC x_1.2.1/\zkH x_1.2.2)/\∀ (y : Unit), True->BC (decide (t.1 = (0 : Int))) (BC (decide (t.2.1 = (0 : Int))) (BC (decide (t.2.2 = (0 : Int))) (BC (decide ((zcN x.1.ws x.2).2 = (0 : Int))) (BC (decide (q42 = (0 : Int))) (BC (decide (q39 = (2 : Int))) (((0 : Int) <= (0 : Int)/\(0 : Int) < q39)/\q6 < (zcN x.1.ws x.2).1.length/\BC (decide (q40 = (3 : Int))) (((0 : Int) <= (1 : Int)/\(1 : Int) < q39)/\q7 < (zcN x.1.ws x.2).1.length/\BC (decide (q41 = (5 : Int))) (Exx Unit fun y => ((decide (q43 = aw22c.a) = true/\True)/\true = true/\True)/\True) q8) q8) q8) q8) q8) q8) q8) q8;
 let q45 : Prop := q44/\q44; ((q1/\Tr 1 (aw22c.a = x.2)/\True)/\true = true/\q2/\devB aw22c.s.ws = devB x.1.ws/\zaB aw22c.s.a = zaB x.1.a/\True)/\(zaG x.1/\I64 x.2)/\∀ (y : Nat), (zcN x.1.ws x.2).1.length <= y/\y <= 9223372036854775807->q45/\q45/\q45) = (fnVC tb [(24, zaA zrB), (25, zaA zkK), (26, zaA zkL), (31, zaA zeJ), (34, zaA zhP)] Tryz.f23 zn6 (fun x => { loose := [(4, [1, 2, 3, 4, 5, 6]), (5, [1, 2, 3, 4, 5, 6, 7]), (6, [1, 2, 3, 4, 5, 6]), (8, [1, 2, 3, 4, 5, 6])], joins := [(5, awJ5), (6, awJ6), (7, awJ7)] }) (fun _ => none)) := by kernel_rfl

theorem zsL : SpecOk Tryz.prog 23 (zaA zn6) := by
 refine zaK zaM zaL (SPok.cons zsV (SPok.cons zoE (SPok.cons zoG (SPok.cons zfY (SPok.cons zoF SPok.nil))))) Tryz.func23 (by decide) (zaN fun _ => rfl) (Eq.mp qnB ?_)
 simp (maxSteps := 10000000) only [std, stdU, stdV, Exx, I64, Nat.reduceMul, Nat.reduceDiv, Nat.reduceAdd, Int.reduceToNat, ↓and_self, and_self, and_self_left, and_self_right, zaQ, zaJ, zaU, zhQ, zeG, ziD, zfP, zd5, zfW]
 have A := aw_ok
 have W0 : zaG (zcM 30 0) := (zlE (n := 30) (b := 30) (sl := 9) (g := 100) (by omega) (by omega) ⟨by omega, by omega, by omega, by omega, by omega, by omega⟩).W
 have T0 : zbC (zjJ ((30 : Nat) : Int) 9 100) := (zlE (n := 30) (b := ((30 : Nat) : Int)) (sl := 9) (g := 100) (by omega) (by omega) ⟨by omega, by omega, by omega, by omega, by omega, by omega⟩).tI
 refine ⟨30, rfl, by omega, by omega, by omega, W0, T0, by omega, by omega, by omega, by omega, ?_⟩
 simp only [zxO, zxN, zxM, A.list, A.hb, A.seat, A.next]
 refine ⟨fun _ => True, ⟨(), trivial, ?_⟩, fun _ _ => ⟨A.wa, A.ta, by omega, by omega, by omega, by omega, fun _ => True, ⟨(), trivial, ?_⟩, fun _ _ => ⟨A.wb, A.tb, A.ia.1, A.ia.2, A.ib.1, A.ib.2, fun t => t.1 = 0/\t.2.1 = 0/\t.2.2 = 0, ?_, fun e1 e2 e3 hI => ⟨A.wc, A.ic.1, A.ic.2, fun y hy => ⟨A.wc, A.tc, ?_⟩⟩⟩⟩⟩
 ·exact ⟨trivial, trivial, rfl, rfl, rfl, rfl, rfl, rfl, trivial, trivial, trivial, trivial, trivial, trivial, trivial, trivial⟩
 ·exact ⟨trivial, trivial, trivial, trivial, trivial, trivial, trivial, trivial, trivial, trivial, trivial, trivial⟩
 ·exact ⟨0, 0, 0, ⟨rfl, rfl, rfl⟩, A.ea, A.eb, trivial, A.ec, trivial, trivial, trivial, trivial, trivial, trivial, trivial, trivial⟩
 ·obtain ⟨rfl, rfl, rfl⟩ := hI
  exact ⟨⟨⟨by decide, by decide⟩, ⟨by decide, by decide⟩⟩, fun _ => ⟨fun _ => ⟨fun _ => ⟨fun _ => ⟨fun _ => ⟨fun _ => ⟨by omega, by decide, by decide, fun _ => ⟨by omega, by decide, by decide, fun _ => trivial, fun h => h rfl⟩, fun h => h rfl⟩, fun h => h rfl⟩, fun h => h trivial⟩, fun h => h trivial⟩, fun h => h rfl⟩, fun h => h rfl⟩, fun h => h rfl⟩

end Yard
