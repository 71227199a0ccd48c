import Derived.Test.YtkdppdofkkakaaaGreatDoorGrove
import Derived.Test.YtkdppdofkkakaaaGreatDoorAwMath

namespace Yard
open Go Go.Sx Go.Proofs
set_option linter.unusedVariables false
set_option linter.unusedSimpArgs false
set_option maxRecDepth 4000
set_option maxHeartbeats 4000000

abbrev qbC (l : List (List Int)) : AV := .ro 2 l.length (fun i => [.arr 1 2 (fun j => [i64 ((l.getD i []).getD j 0)])])
def zd8 (es : List (List Int)) (n : Nat) : List EntT := (List.range n).map fun i => ⟨(i : Nat), 1, (es.getD i []).getD 0 0, (es.getD i []).getD 1 0⟩
structure GS (es : List (List Int)) (n : Nat) (s : StoreT) (t : TickT) (d : DeskT) (G : List GT) : Prop where
 gr : Grove s t d G
 gens : d.gens.length = n
 free : d.free = []
 room : RoomK 120 23 s
 w01 : W01 s
 slots : t.slots = 20
 es : (gE G).Perm (zd8 es n)
theorem GS.perm {es : List (List Int)} {n : Nat} {s : StoreT} {t : TickT} {d : DeskT} {G K : List GT} (h : GS es n s t d G) (p : G.Perm K) : GS es n s t d K :=
 ⟨h.gr.perm p, h.gens, h.free, h.room, h.w01, h.slots, (qiO p).symm.trans h.es⟩
theorem GS.high {es : List (List Int)} {n : Nat} {s : StoreT} {t : TickT} {d : DeskT} {G : List GT} (h : GS es n s t d G) : t.high = (n : Int) := by rw [h.gr.inv.inv.high, h.gens]
theorem GS.fr {es : List (List Int)} {n : Nat} {s : StoreT} {t : TickT} {d : DeskT} {G : List GT} (h : GS es n s t d G) (hn : n <= 16) : 4 <= freeN s.a := by
 have h1 := h.high
 have f := ziV h.gr.inv.inv h.room (by omega)
 have hl := h.gr.inv.len
 rw [h.gens] at hl
 rw [h1] at f
 omega
theorem GS.mark {es : List (List Int)} {n : Nat} {s : StoreT} {t : TickT} {d : DeskT} {G : List GT} (h : GS es n s t d G) (hn : n <= 16) : GS es n (znM s) t d G := by
 have h1 := h.high
 have hl := h.gr.inv.len
 rw [h.gens] at hl
 have R := qc2 h.gr.inv.inv h.room (by omega)
 rw [h1] at R
 exact ⟨h.gr.mark, h.gens, h.free, R.le (by omega), h.w01, h.slots, h.es⟩
theorem zl0 (es : List (List Int)) (n : Nat) : zd8 es (n + 1) = zd8 es n ++ [⟨(n : Nat), 1, (es.getD n []).getD 0 0, (es.getD n []).getD 1 0⟩] := by
 unfold zd8; rw [List.range_succ, List.map_append]; rfl
theorem gs_make {es : List (List Int)} {n : Nat} {s : StoreT} {t : TickT} {d : DeskT} {G : List GT} (h : GS es n s t d G) (hn : n < 16) (h0 : I64 ((es.getD n []).getD 0 0)) (h1 : I64 ((es.getD n []).getD 1 0)) :
  (mkRes s t ((es.getD n []).getD 0 0) ((es.getD n []).getD 1 0)).e = 0/\∃ d' p, GS es (n + 1) (mkRes s t ((es.getD n []).getD 0 0) ((es.getD n []).getD 1 0)).s (mkRes s t ((es.getD n []).getD 0 0) ((es.getD n []).getD 1 0)).t d' (G ++ [(0, (mkRes s t ((es.getD n []).getD 0 0) ((es.getD n []).getD 1 0)).a, p)]) := by
 have hf := h.fr (by omega)
 have hn2 : zeX t.slots d = some (n, 1) := by
  unfold zeX
  rw [h.free]
  simp only
  rw [h.gens, h.slots, if_neg (by omega)]
 have M := zzF h.gr.inv hf hn2 h0 h1
 generalize mkRes s t ((es.getD n []).getD 0 0) ((es.getD n []).getD 1 0) = r at M ⊢
 refine ⟨M.e, zc9 d r.a, ([⟨(n : Nat), 1, (es.getD n []).getD 0 0, (es.getD n []).getD 1 0⟩], [r.a]), ?_⟩
 have hg := qd3 h.gr M
 have pm : ((0, r.a, [⟨(n : Nat), 1, (es.getD n []).getD 0 0, (es.getD n []).getD 1 0⟩], [r.a]) :: G : List GT).Perm (G ++ [(0, r.a, [⟨(n : Nat), 1, (es.getD n []).getD 0 0, (es.getD n []).getD 1 0⟩], [r.a])]) := (List.perm_append_singleton _ _).symm
 have ed : zc9 d r.a = { gens := d.gens ++ [1], blocks := d.blocks ++ [r.a], free := [] } := by unfold zc9; rw [h.free]
 refine ⟨hg.perm pm, by rw [ed]; simp only [List.length_append, List.length_cons, List.length_nil, h.gens], by rw [ed], h.room.env M.env, h.w01.env M.env, M.geo.1.trans h.slots, ?_⟩
 rw [qiP, zl0]
 refine List.Perm.append h.es ?_
 rw [zp0]; exact List.Perm.refl _
theorem gs_link {es : List (List Int)} {n : Nat} {s : StoreT} {t : TickT} {d : DeskT} {N R : List GT} {m : Nat} {a b : Int} {p q : EB} (h : GS es n s t d (N ++ (m, a, p) :: (m, b, q) :: R)) (hn : n <= 16) (hm : m < 12) :
  (lkRes s t a b).e = 0/\∃ d' p', GS es n (lkRes s t a b).s (lkRes s t a b).t d' ((N ++ [(m + 1, (lkRes s t a b).a, p')]) ++ R) := by
 have pm : (N ++ (m, a, p) :: (m, b, q) :: R).Perm ((m, a, p) :: (m, b, q) :: (N ++ R)) := List.perm_middle.trans (List.Perm.cons _ List.perm_middle)
 have h' := h.perm pm
 obtain ⟨d', p', L⟩ := qd4 h'.gr (h.fr hn) hm
 generalize lkRes s t a b = r at L ⊢
 refine ⟨L.e, d', p', ?_⟩
 have pm2 : ((m + 1, r.a, p') :: (N ++ R)).Perm ((N ++ [(m + 1, r.a, p')]) ++ R) := by rw [List.append_assoc]; exact List.perm_middle.symm
 refine ⟨L.gr.perm pm2, by rw [L.gens]; exact h.gens, by rw [L.free]; exact h.free, h.room.env L.env, h.w01.env L.env, L.geo.1.trans h.slots, ?_⟩
 refine ((qiO pm2).symm.trans ?_).trans h'.es
 rw [zp0, zp0, zp0, <- List.append_assoc]
 exact List.Perm.append_right _ L.es
def gK (G : List GT) : List (Nat × Int) := G.map fun g => (g.1, g.2.1)
theorem zw0 (G K : List GT) : gK (G ++ K) = gK G ++ gK K := by simp [gK]
theorem qn2 {G : List GT} {m : Nat} {l : List Int} (h : gK G = l.map fun a => (m, a)) : G.length = l.length := by
 have := congrArg List.length h
 simpa [gK] using this
theorem zzS {G : List GT} {m : Nat} {a : Int} {l : List Int} (h : gK G = (a :: l).map fun a => (m, a)) : ∃ p R, G = (m, a, p) :: R/\gK R = l.map fun a => (m, a) := by
 cases G with
 | nil => simp [gK] at h
 | cons g R =>
   simp only [gK, List.map_cons, List.cons.injEq, Prod.mk.injEq] at h
   obtain ⟨⟨rfl, rfl⟩, h2⟩ := h
   exact ⟨g.2.2, R, rfl, h2⟩
abbrev GrX : Type := (StoreT × TickT) × (List (List Int) × Nat) × Nat
def zwX : Ctr where
 X := GrX
 Y := StoreT × TickT × Int
 conv := true
 tau := qaX
 pre := fun x => (∃ d, GS x.2.1.1 0 x.1.1 x.1.2 d [])/\(∀ e ∈ x.2.1.1, ∀ v ∈ e, I64 v)/\x.2.1.2 < 256/\x.2.2 <= 4/\x.2.1.1.length = 2 ^ x.2.2
 args := fun x => [.ptr 0 [] 0, qbC x.2.1.1, .int .u8 (x.2.1.2 : Nat)]
 heap := fun x => zdO x.1.1 x.1.2
 Q := fun x y => ∃ d p, GS x.2.1.1 (2 ^ x.2.2) y.1 y.2.1 d [(x.2.2, y.2.2, p)]
 res := fun x y => i64 y.2.2
 its := fun x y => zdO y.1 y.2.1
 new := fun _ _ => []
theorem qiH : CtrOk zwX :=
 ⟨fun _ _ _ _ => (rfl : 4 = 4), fun _ _ _ _ => ⟨rfl, rfl⟩, fun x _ _ _ _ => ⟨⟨qfP _ _, trivial⟩, rfl⟩⟩
def grF (x : GrX) (l : List (Nat × AV)) : Fr := frm 128 ([(0, .ptr 0 [] 0), (1, qbC x.2.1.1), (2, .int .u8 (x.2.1.2 : Nat))] ++ l)
abbrev intR (cap : Nat) (l : List Int) : Sx.Item := rowI 3 .i64 cap l
def grLA (x : GrX) : LA := { T := ((Nat × Nat) × List Int) × (StoreT × TickT), F := fun t => grF x [(7, .sl 5 [] 0 1 0 t.1.2.length t.1.1.2), (8, i64 (t.1.1.1 : Nat))], H := fun t => zdO t.2.1 t.2.2 ++ [.fence, intR t.1.1.2 t.1.2], ρ₁ := zgR 5 [7], ρ₂ := zgR 5 [7] }
def grJ8 (x : GrX) : LA := { T := ((Nat × Nat) × List Int) × (TickT × MR), F := fun t => grF x [(7, .sl 5 [] 0 1 0 t.1.2.length t.1.1.2), (8, i64 (t.1.1.1 : Nat)), (9, .ptr 6 [] 0), (10, i64 t.2.2.a), (12, i64 t.2.2.e)], H := fun t => zdO t.2.2.s t.2.1 ++ [.fence, intR t.1.1.2 t.1.2, qe7 t.2.2.t], ρ₁ := zgR 5 [7, 9], ρ₂ := zgR 5 [7, 9] }
def grLB (x : GrX) : LA := { T := (Nat × List Int) × (StoreT × TickT), F := fun t => grF x [(7, .sl 5 [] 0 1 0 t.1.2.length t.1.1)], H := fun t => zdO t.2.1 t.2.2 ++ [.fence, intR t.1.1 t.1.2], ρ₁ := zgR 5 [7], ρ₂ := zgR 5 [7] }
def grLC (x : GrX) : LA := { T := (Nat × (Nat × List Int) × (Nat × List Int)) × (StoreT × TickT), F := fun t => grF x [(7, .sl 5 [] 0 1 0 t.1.2.1.2.length t.1.2.1.1), (13, .sl 6 [] 0 1 0 t.1.2.2.2.length t.1.2.2.1), (14, i64 (t.1.1 : Nat))], H := fun t => zdO t.2.1 t.2.2 ++ [.fence, intR t.1.2.1.1 t.1.2.1.2, intR t.1.2.2.1 t.1.2.2.2], ρ₁ := zgR 5 [7, 13], ρ₂ := zgR 5 [7, 13] }
def grJ20 (x : GrX) : LA := { T := (Nat × (Nat × List Int) × (Nat × List Int)) × (TickT × TR), F := fun t => grF x [(7, .sl 5 [] 0 1 0 t.1.2.1.2.length t.1.2.1.1), (13, .sl 6 [] 0 1 0 t.1.2.2.2.length t.1.2.2.1), (14, i64 (t.1.1 : Nat)), (15, .ptr 7 [] 0), (16, i64 t.2.2.a), (17, i64 t.2.2.e)], H := fun t => zdO t.2.2.s t.2.1 ++ [.fence, intR t.1.2.1.1 t.1.2.1.2, intR t.1.2.2.1 t.1.2.2.2, qe7 t.2.2.t], ρ₁ := zgR 5 [7, 13, 15], ρ₂ := zgR 5 [7, 13, 15] }
theorem grownV : (
 let q1 : Prop := true = true/\zaC/\(0 : Nat) = 0;
 let q2 : Prop := (71 : TypeId) = 71;
 let q3 : Prop := q1/\True;
 let q4 : Prop := (146 : TypeId) = 146/\q1/\q3;
 let q5 : Prop := (3 : TypeId) = 3;
 let q6 : Prop := (0 : Int) < (↑(2 : Nat) : Int);
 let q7 : Prop := (1 : Int) < (↑(2 : Nat) : Int);
 let q8 : Prop := (0 : Nat) + (1 : Nat) <= (1 : Nat);
 let q9 : Nat := 0 * 1 / 1;
 let q10 : Nat := (TI.mk (TK.int IntKind.i64) 1 8 (ZL.cons (Value.int IntKind.i64 0) ZL.nil) false).size;
 let q11 : Nat := 0 + Int.toNat 0; ∀ (x : (StoreT × TickT) × (List (List Int) × Nat) × Nat),
 let q12 : List (List Int) × Nat := x.2.1;
 let q13 : List (List Int) := q12.1;
 let q14 : Nat := q12.2;
 let q15 : Nat := x.2.2;
 let q16 : Nat := q13.length;
 let q17 : Nat := 2 ^ q15;
 let q19 : Prop := (2 : Nat) = 2/\q16 = q16/\∀ (i : Nat),
 let q18 : List AV := [AV.arr 1 2 fun j => [AV.int .i64 ((q13.getD i []).getD j 0)]]; i < q16->q18 = q18;
 let q20 : Int := (q14 : Int);
 let q21 : Prop := Tr 1 (q20 = q20);
 let q22 : Int := (q16 : Int); (Exx DeskT fun d => GS q13 0 x.1.1 x.1.2 d [])/\(∀ (e : List Int), e ∈ q13->∀ (v : Int), v ∈ e->I64 v)/\q14 < 256/\q15 <= 4/\q16 = q17->Exx (((Nat × Nat) × List Int) × StoreT × TickT->Prop) fun I => Exx (((Nat × Nat) × List Int) × StoreT × TickT->Nat) fun m => (Exx (((Nat × Nat) × List Int) × StoreT × TickT) fun t =>
 let q23 : Prop := t.1.2.length = 0;
 let q24 : Nat × Nat := t.1.1;
 let q25 : Prop := q24.2 = 0; I t/\(q1/\q19/\q21/\Tr 4 ((q23/\q25)/\Tr 1 ((0 : Int) = (q24.1 : Int))/\Tr 119 True))/\(q2/\q1/\q1/\q1/\Tr 1 (x.1.2.blocks = t.2.2.blocks)/\Tr 1 (x.1.2.slots = t.2.2.slots)/\Tr 1 (x.1.2.gens = t.2.2.gens)/\Tr 1 (x.1.2.top = t.2.2.top)/\Tr 1 (x.1.2.high = t.2.2.high)/\Tr 1 (x.1.2.free = t.2.2.free)/\True)/\q4/\devB x.1.1.ws = devB t.2.1.ws/\zaB x.1.1.a = zaB t.2.1.a/\true = true/\(q25/\q23)/\True)/\∀ (t : ((Nat × Nat) × List Int) × StoreT × TickT),
 let q26 : Nat × Nat := t.1.1;
 let q27 : Int := (q26.1 : Int);
 let q28 : Ob := zaB t.2.1.a;
 let q29 : List Int := t.1.2;
 let q30 : Nat := q29.length;
 let q31 : Nat := q26.2;
 let q32 : Int := t.2.2.blocks;
 let q33 : Int := t.2.2.slots;
 let q34 : Ob := devB t.2.1.ws; I t->BC (decide (q27 < q22)) (Exx (((Nat × Nat) × List Int) × StoreT × TickT->Prop) fun I_1 => (∀ (m : Int), m = IntKind.i64.wrap q20->(8 : Int) ≠ (0 : Int)/\∀ (n : Int), n = q27.tmod 8->(0 : Int) <= n/\∀ (n_1 : Int), n_1 = m.fdiv (2 ^ min n.toNat IntKind.i64.bits)->∀ (n : Int), n = bits BinOp.and IntKind.i64 n_1 1->BC (decide (n = (1 : Int))) (Exx (AllocT × Unit) fun x => (q3/\true = true/\q28 = zaB x.1/\True)/\(za7 x.1/\True)/\∀ (y : Unit), True->Exx (((Nat × Nat) × List Int) × StoreT × TickT) fun t_1 =>
 let q35 : List Int := t_1.1.2;
 let q36 : Nat := q35.length;
 let q37 : Nat × Nat := t_1.1.1;
 let q38 : Prop := q31 = q37.2; I_1 t_1/\(q1/\q19/\q21/\Tr 4 ((true = true/\zaC/\(0 : Nat) = 0/\(1 : Nat) = 1/\(0 : Nat) = 0/\q30 = q36/\q38)/\Tr 1 (q27 = (q37.1 : Int))/\Tr 119 True))/\(q2/\q1/\q1/\q1/\Tr 1 (q32 = t_1.2.2.blocks)/\Tr 1 (q33 = t_1.2.2.slots)/\Tr 1 (t.2.2.gens = t_1.2.2.gens)/\Tr 1 (t.2.2.top = t_1.2.2.top)/\Tr 1 (t.2.2.high = t_1.2.2.high)/\Tr 1 (t.2.2.free = t_1.2.2.free)/\True)/\q4/\q34 = devB t_1.2.1.ws/\zaB (qhL x.1) = zaB t_1.2.1.a/\true = true/\(q5/\(1 : Nat) = 1/\q38/\q36 <= q30/\∀ (i : Nat), i < q36->[AV.int .i64 (q29.getD i 0)] = [AV.int .i64 (q35.getD i 0)])/\True) (Exx (((Nat × Nat) × List Int) × StoreT × TickT) fun t_1 =>
 let q39 : List Int := t_1.1.2;
 let q40 : Nat := q39.length;
 let q41 : Nat × Nat := t_1.1.1;
 let q42 : Prop := q31 = q41.2; I_1 t_1/\(q1/\q19/\q21/\Tr 4 ((true = true/\zaC/\(0 : Nat) = 0/\(1 : Nat) = 1/\(0 : Nat) = 0/\q30 = q40/\q42)/\Tr 1 (q27 = (q41.1 : Int))/\Tr 119 True))/\(q2/\q1/\q1/\q1/\Tr 1 (q32 = t_1.2.2.blocks)/\Tr 1 (q33 = t_1.2.2.slots)/\Tr 1 (t.2.2.gens = t_1.2.2.gens)/\Tr 1 (t.2.2.top = t_1.2.2.top)/\Tr 1 (t.2.2.high = t_1.2.2.high)/\Tr 1 (t.2.2.free = t_1.2.2.free)/\True)/\q4/\q34 = devB t_1.2.1.ws/\q28 = zaB t_1.2.1.a/\true = true/\(q5/\(1 : Nat) = 1/\q42/\q40 <= q30/\∀ (i : Nat), i < q40->[AV.int .i64 (q29.getD i 0)] = [AV.int .i64 (q39.getD i 0)])/\True))/\∀ (t_1 : ((Nat × Nat) × List Int) × StoreT × TickT),
 let q43 : Nat × Nat := t_1.1.1;
 let q44 : Int := (q43.1 : Int);
 let q45 : Prop := (0 : Int) <= q44/\q44 < q22;
 let q46 : Int := t_1.2.2.blocks;
 let q47 : Int := t_1.2.2.slots;
 let q48 : List Int := q13.getD q44.toNat [];
 let q49 : List Int := t_1.1.2;
 let q50 : Nat := q49.length; I_1 t_1->Exx (((Nat × Nat) × List Int) × TickT × MR->Prop) fun I_2 =>
 let q56 : Prop := Exx (StoreT × TickT × Int × Int) fun x =>
 let q51 : MR := mkRes x.1 x.2.1 x.2.2.1 x.2.2.2;
 let q52 : StoreT := q51.s;
 let q53 : TickT := q51.t; ((q1/\(Tr 1 (q46 = x.2.1.blocks)/\Tr 1 (q47 = x.2.1.slots)/\Tr 1 (t_1.2.2.gens = x.2.1.gens)/\Tr 1 (t_1.2.2.top = x.2.1.top)/\Tr 1 (t_1.2.2.high = x.2.1.high)/\Tr 1 (t_1.2.2.free = x.2.1.free)/\True)/\Tr 1 (q48.getD (Int.toNat 0) 0 = x.2.2.1)/\Tr 1 (q48.getD (Int.toNat 1) 0 = x.2.2.2)/\True)/\true = true/\q4/\devB t_1.2.1.ws = devB x.1.ws/\zaB t_1.2.1.a = zaB x.1.a/\True)/\(zaG x.1/\zbC x.2.1/\I64 x.2.2.1/\I64 x.2.2.2)/\∀ (y : Unit), True->Exx (((Nat × Nat) × List Int) × TickT × MR) fun t =>
 let q54 : Nat := t.1.2.length;
 let q55 : Prop := q43.2 = t.1.1.2; I_2 t/\(q1/\q19/\q21/\Tr 4 ((true = true/\zaC/\(0 : Nat) = 0/\(1 : Nat) = 1/\(0 : Nat) = 0/\q50 = q54/\q55)/\Tr 1 (q44 = (t.1.1.1 : Int))/\q1/\Tr 1 (q51.a = t.2.2.a)/\Tr 1 (Tr 1 (q51.e = t.2.2.e)/\Tr 115 True)))/\(q2/\q1/\q1/\q1/\Tr 1 (q46 = t.2.1.blocks)/\Tr 1 (q47 = t.2.1.slots)/\Tr 1 (t_1.2.2.gens = t.2.1.gens)/\Tr 1 (t_1.2.2.top = t.2.1.top)/\Tr 1 (t_1.2.2.high = t.2.1.high)/\Tr 1 (t_1.2.2.free = t.2.1.free)/\True)/\q4/\devB q52.ws = devB t.2.2.s.ws/\zaB q52.a = zaB t.2.2.s.a/\true = true/\(q5/\(1 : Nat) = 1/\q55/\q54 <= q50/\∀ (i : Nat), i < q54->[AV.int .i64 (q49.getD i 0)] = [AV.int .i64 (t.1.2.getD i 0)])/\((65 : Nat) = (65 : TypeId)/\Tr 1 (q53.blocks = t.2.2.t.blocks)/\Tr 1 (q53.slots = t.2.2.t.slots)/\Tr 1 (q53.gens = t.2.2.t.gens)/\Tr 1 (q53.top = t.2.2.t.top)/\Tr 1 (q53.high = t.2.2.t.high)/\Tr 1 (q53.free = t.2.2.t.free)/\True)/\True;
 let q57 : Prop := q56/\q56;
 let q58 : Prop := q57/\q56;
 let q65 : Prop := ((Exx (StoreT × TickT × Int × Int) fun x =>
 let q59 : MR := mkRes x.1 x.2.1 x.2.2.1 x.2.2.2;
 let q60 : StoreT := q59.s;
 let q61 : TickT := q59.t;
 let q64 : Prop := Exx (((Nat × Nat) × List Int) × TickT × MR) fun t =>
 let q62 : Nat := t.1.2.length;
 let q63 : Prop := q43.2 = t.1.1.2; I_2 t/\(q1/\q19/\q21/\Tr 4 ((true = true/\zaC/\(0 : Nat) = 0/\(1 : Nat) = 1/\(0 : Nat) = 0/\q50 = q62/\q63)/\Tr 1 (q44 = (t.1.1.1 : Int))/\q1/\Tr 1 (q59.a = t.2.2.a)/\Tr 1 (Tr 1 (q59.e = t.2.2.e)/\Tr 115 True)))/\(q2/\q1/\q1/\q1/\Tr 1 (q46 = t.2.1.blocks)/\Tr 1 (q47 = t.2.1.slots)/\Tr 1 (t_1.2.2.gens = t.2.1.gens)/\Tr 1 (t_1.2.2.top = t.2.1.top)/\Tr 1 (t_1.2.2.high = t.2.1.high)/\Tr 1 (t_1.2.2.free = t.2.1.free)/\True)/\q4/\devB q60.ws = devB t.2.2.s.ws/\zaB q60.a = zaB t.2.2.s.a/\true = true/\(q5/\(1 : Nat) = 1/\q63/\q62 <= q50/\∀ (i : Nat), i < q62->[AV.int .i64 (q49.getD i 0)] = [AV.int .i64 (t.1.2.getD i 0)])/\((65 : Nat) = (65 : TypeId)/\Tr 1 (q61.blocks = t.2.2.t.blocks)/\Tr 1 (q61.slots = t.2.2.t.slots)/\Tr 1 (q61.gens = t.2.2.t.gens)/\Tr 1 (q61.top = t.2.2.t.top)/\Tr 1 (q61.high = t.2.2.t.high)/\Tr 1 (q61.free = t.2.2.t.free)/\True)/\True; ((q1/\(Tr 1 (q46 = x.2.1.blocks)/\Tr 1 (q47 = x.2.1.slots)/\Tr 1 (t_1.2.2.gens = x.2.1.gens)/\Tr 1 (t_1.2.2.top = x.2.1.top)/\Tr 1 (t_1.2.2.high = x.2.1.high)/\Tr 1 (t_1.2.2.free = x.2.1.free)/\True)/\Tr 1 (q48.getD (Int.toNat 0) 0 = x.2.2.1)/\Tr 1 (q48.getD (Int.toNat 1) 0 = x.2.2.2)/\True)/\true = true/\q4/\devB t_1.2.1.ws = devB x.1.ws/\zaB t_1.2.1.a = zaB x.1.a/\True)/\(zaG x.1/\zbC x.2.1/\I64 x.2.2.1/\I64 x.2.2.2)/\∀ (y : Unit), True->q64/\q64)/\q57/\q57)/\q58/\q58;
 let q66 : Prop := q58/\q58/\q57; (q45/\((0 : Int) <= (0 : Int)/\q6)/\q6/\q45/\((0 : Int) <= (1 : Int)/\q7)/\q7/\q65/\q65/\q66/\q66)/\∀ (t_2 : ((Nat × Nat) × List Int) × TickT × MR),
 let q67 : Nat := t_2.1.2.length;
 let q68 : Nat := t_2.1.1.2;
 let q69 : Nat := q67 + 1;
 let q70 : Int := (t_2.1.1.1 : Int) + 1; I_2 t_2->BC (!decide (t_2.2.2.e = (0 : Int))) (Exx (StoreT × TickT × Int) fun y => ((Tr 1 ((0 : Int) = y.2.2)/\True)/\(q2/\q1/\q1/\q1/\Tr 1 (t_2.2.1.blocks = y.2.1.blocks)/\Tr 1 (t_2.2.1.slots = y.2.1.slots)/\Tr 1 (t_2.2.1.gens = y.2.1.gens)/\Tr 1 (t_2.2.1.top = y.2.1.top)/\Tr 1 (t_2.2.1.high = y.2.1.high)/\Tr 1 (t_2.2.1.free = y.2.1.free)/\True)/\q4/\devB t_2.2.2.s.ws = devB y.1.ws/\zaB t_2.2.2.s.a = zaB y.1.a/\true = true/\True)/\Exx DeskT fun d => Exx (List EntT × List Int) fun p => GS q13 q17 y.1 y.2.1 d [(q15, y.2.2, p)]) (q8/\true = true/\(q67 <= q67/\q68 = q68)/\(q69 <= 9223372036854775807/\q69 * 8 <= 140737488355328)/\∀ (cap : Nat), q69 <= cap/\cap <= 9223372036854775807->I64 q70/\Exx (((Nat × Nat) × List Int) × StoreT × TickT) fun t' =>
 let q71 : List Int := t'.fst.2;
 let q72 : Nat := q71.length;
 let q73 : Nat × Nat := t'.fst.1;
 let q74 : Prop := cap = q73.2; (I t'/\m t' < m t)/\(q1/\q19/\q21/\Tr 4 ((true = true/\zaC/\(0 : Nat) = 0/\(1 : Nat) = 1/\(0 : Nat) = 0/\q69 = q72/\q74)/\Tr 1 (q70 = (q73.1 : Int))/\Tr 119 True))/\(q2/\q1/\q1/\q1/\Tr 1 (t_2.2.2.t.blocks = t'.snd.2.blocks)/\Tr 1 (t_2.2.2.t.slots = t'.snd.2.slots)/\Tr 1 (t_2.2.2.t.gens = t'.snd.2.gens)/\Tr 1 (t_2.2.2.t.top = t'.snd.2.top)/\Tr 1 (t_2.2.2.t.high = t'.snd.2.high)/\Tr 1 (t_2.2.2.t.free = t'.snd.2.free)/\True)/\q4/\devB t_2.2.2.s.ws = devB t'.snd.1.ws/\zaB t_2.2.2.s.a = zaB t'.snd.1.a/\true = true/\(q5/\(1 : Nat) = 1/\q74/\q72 <= q69/\∀ (i : Nat),
 let q75 : Nat := 0 + (i - q67); i < q72->(if i < q67 then [AV.int .i64 (t_2.1.2.getD i 0)] else [AV.int .i64 (if q75 = q9 then t_2.2.2.a else 0)]) = [AV.int .i64 (q71.getD i 0)])/\True)) (Exx ((Nat × List Int) × StoreT × TickT->Prop) fun I => Exx ((Nat × List Int) × StoreT × TickT->Nat) fun m => (Exx ((Nat × List Int) × StoreT × TickT) fun t_1 => I t_1/\(q1/\q19/\q21/\Tr 4 ((true = true/\zaC/\(0 : Nat) = 0/\(1 : Nat) = 1/\(0 : Nat) = 0/\q30 = t_1.1.2.length/\q31 = t_1.1.1)/\Tr 120 True))/\(q2/\q1/\q1/\q1/\Tr 1 (q32 = t_1.2.2.blocks)/\Tr 1 (q33 = t_1.2.2.slots)/\Tr 1 (t.2.2.gens = t_1.2.2.gens)/\Tr 1 (t.2.2.top = t_1.2.2.top)/\Tr 1 (t.2.2.high = t_1.2.2.high)/\Tr 1 (t.2.2.free = t_1.2.2.free)/\True)/\q4/\q34 = devB t_1.2.1.ws/\q28 = zaB t_1.2.1.a/\true = true/\(q5/\(1 : Nat) = 1/\q31 = t_1.1.1/\t_1.1.2.length <= q30/\∀ (i : Nat), i < t_1.1.2.length->[AV.int .i64 (q29.getD i 0)] = [AV.int .i64 (t_1.1.2.getD i 0)])/\True)/\∀ (t : (Nat × List Int) × StoreT × TickT),
 let q76 : Int := (t.1.2.length : Int); I t->BC (decide ((1 : Int) < q76)) (Exx ((Nat × (Nat × List Int) × Nat × List Int) × StoreT × TickT->Prop) fun I_1 => Exx ((Nat × (Nat × List Int) × Nat × List Int) × StoreT × TickT->Nat) fun m_1 => (Exx ((Nat × (Nat × List Int) × Nat × List Int) × StoreT × TickT) fun t_1 =>
 let q77 : (Nat × List Int) × Nat × List Int := t_1.1.2;
 let q78 : Nat × List Int := q77.1;
 let q79 : List Int := q78.2;
 let q80 : Nat := q79.length;
 let q81 : Prop := t.1.1 = q78.1;
 let q82 : Nat × List Int := q77.2;
 let q83 : Prop := q82.2.length = 0;
 let q84 : Prop := q82.1 = 0;
 let q85 : TickT := t_1.2.2;
 let q86 : StoreT := t_1.2.1; I_1 t_1/\(q1/\q19/\q21/\Tr 4 ((true = true/\zaC/\(0 : Nat) = 0/\(1 : Nat) = 1/\(0 : Nat) = 0/\t.1.2.length = q80/\q81)/\Tr 5 ((q83/\q84)/\Tr 1 ((0 : Int) = (t_1.1.1 : Int))/\Tr 113 True)))/\(q2/\q1/\q1/\q1/\Tr 1 (t.2.2.blocks = q85.blocks)/\Tr 1 (t.2.2.slots = q85.slots)/\Tr 1 (t.2.2.gens = q85.gens)/\Tr 1 (t.2.2.top = q85.top)/\Tr 1 (t.2.2.high = q85.high)/\Tr 1 (t.2.2.free = q85.free)/\True)/\q4/\devB t.2.1.ws = devB q86.ws/\zaB t.2.1.a = zaB q86.a/\true = true/\(q5/\(1 : Nat) = 1/\q81/\q80 <= t.1.2.length/\∀ (i : Nat), i < q80->[AV.int .i64 (t.1.2.getD i 0)] = [AV.int .i64 (q79.getD i 0)])/\(q84/\q83)/\True)/\∀ (t_1 : (Nat × (Nat × List Int) × Nat × List Int) × StoreT × TickT),
 let q87 : Int := (t_1.1.1 : Int);
 let q88 : Int := q87 + 1;
 let q89 : (Nat × List Int) × Nat × List Int := t_1.1.2;
 let q90 : Nat × List Int := q89.1;
 let q91 : List Int := q90.2;
 let q92 : Nat := q91.length;
 let q93 : Int := (q92 : Int);
 let q94 : StoreT := t_1.2.1;
 let q95 : Ob := zaB q94.a;
 let q96 : Nat × List Int := q89.2;
 let q97 : List Int := q96.2;
 let q98 : Nat := q97.length;
 let q99 : Nat := q96.1;
 let q100 : TickT := t_1.2.2;
 let q101 : Int := q100.blocks;
 let q102 : Int := q100.slots;
 let q103 : Int := q100.gens;
 let q104 : Int := q100.top;
 let q105 : Int := q100.high;
 let q106 : Int := q100.free;
 let q107 : Ob := devB q94.ws; I_1 t_1->I64 q88/\BC (decide (q88 < q93)) (Exx ((Nat × (Nat × List Int) × Nat × List Int) × StoreT × TickT->Prop) fun I => (∀ (m : Int), m = IntKind.i64.wrap q20->(8 : Int) ≠ (0 : Int)/\∀ (n : Int), n = q87.tmod 8->(0 : Int) <= n/\∀ (n_1 : Int), n_1 = m.fdiv (2 ^ min n.toNat IntKind.i64.bits)->∀ (n : Int), n = bits BinOp.and IntKind.i64 n_1 1->BC (decide (n = (1 : Int))) (Exx (AllocT × Unit) fun x => (q3/\true = true/\q95 = zaB x.1/\True)/\(za7 x.1/\True)/\∀ (y : Unit), True->Exx ((Nat × (Nat × List Int) × Nat × List Int) × StoreT × TickT) fun t =>
 let q108 : (Nat × List Int) × Nat × List Int := t.1.2;
 let q109 : Nat × List Int := q108.1;
 let q110 : List Int := q109.2;
 let q111 : Nat := q110.length;
 let q112 : Prop := q90.1 = q109.1;
 let q113 : Nat × List Int := q108.2;
 let q114 : List Int := q113.2;
 let q115 : Nat := q114.length;
 let q116 : Prop := q99 = q113.1;
 let q117 : TickT := t.2.2;
 let q118 : StoreT := t.2.1; I t/\(q1/\q19/\q21/\Tr 4 ((true = true/\zaC/\(0 : Nat) = 0/\(1 : Nat) = 1/\(0 : Nat) = 0/\q92 = q111/\q112)/\Tr 5 ((true = true/\zaC/\(0 : Nat) = 0/\(1 : Nat) = 1/\(0 : Nat) = 0/\q98 = q115/\q116)/\Tr 1 (q87 = (t.1.1 : Int))/\Tr 113 True)))/\(q2/\q1/\q1/\q1/\Tr 1 (q101 = q117.blocks)/\Tr 1 (q102 = q117.slots)/\Tr 1 (q103 = q117.gens)/\Tr 1 (q104 = q117.top)/\Tr 1 (q105 = q117.high)/\Tr 1 (q106 = q117.free)/\True)/\q4/\q107 = devB q118.ws/\zaB (qhL x.1) = zaB q118.a/\true = true/\(q5/\(1 : Nat) = 1/\q112/\q111 <= q92/\∀ (i : Nat), i < q111->[AV.int .i64 (q91.getD i 0)] = [AV.int .i64 (q110.getD i 0)])/\(q5/\(1 : Nat) = 1/\q116/\q115 <= q98/\∀ (i : Nat), i < q115->[AV.int .i64 (q97.getD i 0)] = [AV.int .i64 (q114.getD i 0)])/\True) (Exx ((Nat × (Nat × List Int) × Nat × List Int) × StoreT × TickT) fun t =>
 let q119 : (Nat × List Int) × Nat × List Int := t.1.2;
 let q120 : Nat × List Int := q119.1;
 let q121 : List Int := q120.2;
 let q122 : Nat := q121.length;
 let q123 : Prop := q90.1 = q120.1;
 let q124 : Nat × List Int := q119.2;
 let q125 : List Int := q124.2;
 let q126 : Nat := q125.length;
 let q127 : Prop := q99 = q124.1;
 let q128 : TickT := t.2.2;
 let q129 : StoreT := t.2.1; I t/\(q1/\q19/\q21/\Tr 4 ((true = true/\zaC/\(0 : Nat) = 0/\(1 : Nat) = 1/\(0 : Nat) = 0/\q92 = q122/\q123)/\Tr 5 ((true = true/\zaC/\(0 : Nat) = 0/\(1 : Nat) = 1/\(0 : Nat) = 0/\q98 = q126/\q127)/\Tr 1 (q87 = (t.1.1 : Int))/\Tr 113 True)))/\(q2/\q1/\q1/\q1/\Tr 1 (q101 = q128.blocks)/\Tr 1 (q102 = q128.slots)/\Tr 1 (q103 = q128.gens)/\Tr 1 (q104 = q128.top)/\Tr 1 (q105 = q128.high)/\Tr 1 (q106 = q128.free)/\True)/\q4/\q107 = devB q129.ws/\q95 = zaB q129.a/\true = true/\(q5/\(1 : Nat) = 1/\q123/\q122 <= q92/\∀ (i : Nat), i < q122->[AV.int .i64 (q91.getD i 0)] = [AV.int .i64 (q121.getD i 0)])/\(q5/\(1 : Nat) = 1/\q127/\q126 <= q98/\∀ (i : Nat), i < q126->[AV.int .i64 (q97.getD i 0)] = [AV.int .i64 (q125.getD i 0)])/\True))/\∀ (t : (Nat × (Nat × List Int) × Nat × List Int) × StoreT × TickT),
 let q130 : Int := (t.1.1 : Int);
 let q131 : (Nat × List Int) × Nat × List Int := t.1.2;
 let q132 : Nat × List Int := q131.1;
 let q133 : List Int := q132.2;
 let q134 : Nat := q133.length;
 let q135 : Int := (q134 : Int);
 let q136 : Nat := 0 + q130.toNat;
 let q137 : Int := q130 + 1;
 let q138 : Nat := 0 + q137.toNat;
 let q139 : TickT := t.2.2;
 let q140 : Int := q139.blocks;
 let q141 : Int := q139.slots;
 let q142 : Int := q139.gens;
 let q143 : Int := q139.top;
 let q144 : Int := q139.high;
 let q145 : Int := q139.free;
 let q146 : StoreT := t.2.1;
 let q147 : Nat × List Int := q131.2;
 let q148 : List Int := q147.2;
 let q149 : Nat := q148.length; I t->Exx ((Nat × (Nat × List Int) × Nat × List Int) × TickT × TR->Prop) fun I =>
 let q166 : Prop := Exx (StoreT × TickT × Int × Int) fun x =>
 let q150 : TR := lkRes x.1 x.2.1 x.2.2.1 x.2.2.2;
 let q151 : StoreT := q150.s;
 let q152 : TickT := q150.t; ((q1/\(Tr 1 (q140 = x.2.1.blocks)/\Tr 1 (q141 = x.2.1.slots)/\Tr 1 (q142 = x.2.1.gens)/\Tr 1 (q143 = x.2.1.top)/\Tr 1 (q144 = x.2.1.high)/\Tr 1 (q145 = x.2.1.free)/\True)/\Tr 1 (q133.getD q136 0 = x.2.2.1)/\Tr 1 (q133.getD q138 0 = x.2.2.2)/\True)/\true = true/\q4/\devB q146.ws = devB x.1.ws/\zaB q146.a = zaB x.1.a/\True)/\(zaG x.1/\zbC x.2.1/\I64 x.2.2.1/\I64 x.2.2.2)/\∀ (y : Unit), True->Exx ((Nat × (Nat × List Int) × Nat × List Int) × TickT × TR) fun t =>
 let q153 : (Nat × List Int) × Nat × List Int := t.1.2;
 let q154 : Nat × List Int := q153.1;
 let q155 : List Int := q154.2;
 let q156 : Nat := q155.length;
 let q157 : Prop := q132.1 = q154.1;
 let q158 : Nat × List Int := q153.2;
 let q159 : List Int := q158.2;
 let q160 : Nat := q159.length;
 let q161 : Prop := q147.1 = q158.1;
 let q162 : TR := t.2.2;
 let q163 : TickT := t.2.1;
 let q164 : StoreT := q162.s;
 let q165 : TickT := q162.t; I t/\(q1/\q19/\q21/\Tr 4 ((true = true/\zaC/\(0 : Nat) = 0/\(1 : Nat) = 1/\(0 : Nat) = 0/\q134 = q156/\q157)/\Tr 5 ((true = true/\zaC/\(0 : Nat) = 0/\(1 : Nat) = 1/\(0 : Nat) = 0/\q149 = q160/\q161)/\Tr 1 (q130 = (t.1.1 : Int))/\q1/\Tr 1 (q150.a = q162.a)/\Tr 1 (q150.e = q162.e)/\Tr 110 True)))/\(q2/\q1/\q1/\q1/\Tr 1 (q140 = q163.blocks)/\Tr 1 (q141 = q163.slots)/\Tr 1 (q142 = q163.gens)/\Tr 1 (q143 = q163.top)/\Tr 1 (q144 = q163.high)/\Tr 1 (q145 = q163.free)/\True)/\q4/\devB q151.ws = devB q164.ws/\zaB q151.a = zaB q164.a/\true = true/\(q5/\(1 : Nat) = 1/\q157/\q156 <= q134/\∀ (i : Nat), i < q156->[AV.int .i64 (q133.getD i 0)] = [AV.int .i64 (q155.getD i 0)])/\(q5/\(1 : Nat) = 1/\q161/\q160 <= q149/\∀ (i : Nat), i < q160->[AV.int .i64 (q148.getD i 0)] = [AV.int .i64 (q159.getD i 0)])/\((65 : Nat) = (65 : TypeId)/\Tr 1 (q152.blocks = q165.blocks)/\Tr 1 (q152.slots = q165.slots)/\Tr 1 (q152.gens = q165.gens)/\Tr 1 (q152.top = q165.top)/\Tr 1 (q152.high = q165.high)/\Tr 1 (q152.free = q165.free)/\True)/\True;
 let q167 : Prop := q166/\q166;
 let q168 : Prop := q167/\q166; (((0 : Int) <= q130/\q130 < q135)/\q136 < q134/\I64 q137/\((0 : Int) <= q137/\q137 < q135)/\q138 < q134/\q168/\q168/\q167)/\∀ (t : (Nat × (Nat × List Int) × Nat × List Int) × TickT × TR),
 let q169 : TR := t.2.2;
 let q170 : Int := q169.e;
 let q171 : TickT := t.2.1;
 let q172 : StoreT := q169.s;
 let q173 : Ob := devB q172.ws;
 let q174 : Ob := zaB q172.a;
 let q175 : (Nat × List Int) × Nat × List Int := t.1.2;
 let q176 : Nat × List Int := q175.2;
 let q177 : List Int := q176.2;
 let q178 : Nat := q177.length;
 let q179 : Nat := q176.1;
 let q180 : Nat := q178 + 1;
 let q181 : Int := (t.1.1 : Int) + 2;
 let q182 : Nat × List Int := q175.1;
 let q183 : List Int := q182.2;
 let q184 : Nat := q183.length;
 let q185 : TickT := q169.t; I t->BC (!decide (q170 = (0 : Int))) (Exx (StoreT × TickT × Int) fun y => ((Tr 1 ((0 : Int) = y.2.2)/\True)/\(q2/\q1/\q1/\q1/\Tr 1 (q171.blocks = y.2.1.blocks)/\Tr 1 (q171.slots = y.2.1.slots)/\Tr 1 (q171.gens = y.2.1.gens)/\Tr 1 (q171.top = y.2.1.top)/\Tr 1 (q171.high = y.2.1.high)/\Tr 1 (q171.free = y.2.1.free)/\True)/\q4/\q173 = devB y.1.ws/\q174 = zaB y.1.a/\true = true/\True)/\Exx DeskT fun d => Exx (List EntT × List Int) fun p => GS q13 q17 y.1 y.2.1 d [(q15, y.2.2, p)]) (q8/\true = true/\(q178 <= q178/\q179 = q179)/\(q180 <= 9223372036854775807/\q180 * 8 <= 140737488355328)/\∀ (cap : Nat), q180 <= cap/\cap <= 9223372036854775807->I64 q181/\Exx ((Nat × (Nat × List Int) × Nat × List Int) × StoreT × TickT) fun t' =>
 let q186 : (Nat × List Int) × Nat × List Int := t'.fst.2;
 let q187 : Nat × List Int := q186.1;
 let q188 : List Int := q187.2;
 let q189 : Nat := q188.length;
 let q190 : Prop := q182.1 = q187.1;
 let q191 : Nat × List Int := q186.2;
 let q192 : List Int := q191.2;
 let q193 : Nat := q192.length;
 let q194 : Prop := cap = q191.1;
 let q195 : TickT := t'.snd.2;
 let q196 : StoreT := t'.snd.1; (I_1 t'/\m_1 t' < m_1 t_1)/\(q1/\q19/\q21/\Tr 4 ((true = true/\zaC/\(0 : Nat) = 0/\(1 : Nat) = 1/\(0 : Nat) = 0/\q184 = q189/\q190)/\Tr 5 ((true = true/\zaC/\(0 : Nat) = 0/\(1 : Nat) = 1/\(0 : Nat) = 0/\q180 = q193/\q194)/\Tr 1 (q181 = (↑t'.fst.1 : Int))/\Tr 113 True)))/\(q2/\q1/\q1/\q1/\Tr 1 (q185.blocks = q195.blocks)/\Tr 1 (q185.slots = q195.slots)/\Tr 1 (q185.gens = q195.gens)/\Tr 1 (q185.top = q195.top)/\Tr 1 (q185.high = q195.high)/\Tr 1 (q185.free = q195.free)/\True)/\q4/\q173 = devB q196.ws/\q174 = zaB q196.a/\true = true/\(q5/\(1 : Nat) = 1/\q190/\q189 <= q184/\∀ (i : Nat), i < q189->[AV.int .i64 (q183.getD i 0)] = [AV.int .i64 (q188.getD i 0)])/\(q5/\(1 : Nat) = 1/\q194/\q193 <= q180/\∀ (i : Nat),
 let q197 : Nat := 0 + (i - q178); i < q193->(if i < q178 then [AV.int .i64 (q177.getD i 0)] else [AV.int .i64 (if q197 = q9 then q169.a else 0)]) = [AV.int .i64 (q192.getD i 0)])/\True)) (Exx ((Nat × List Int) × StoreT × TickT) fun t' => (I t'/\m t' < m t)/\(q1/\q19/\q21/\Tr 4 ((true = true/\zaC/\(0 : Nat) = 0/\(1 : Nat) = 1/\(0 : Nat) = 0/\q98 = t'.fst.2.length/\q99 = t'.fst.1)/\Tr 120 True))/\(q2/\q1/\q1/\q1/\Tr 1 (q101 = t'.snd.2.blocks)/\Tr 1 (q102 = t'.snd.2.slots)/\Tr 1 (q103 = t'.snd.2.gens)/\Tr 1 (q104 = t'.snd.2.top)/\Tr 1 (q105 = t'.snd.2.high)/\Tr 1 (q106 = t'.snd.2.free)/\True)/\q4/\q107 = devB t'.snd.1.ws/\q95 = zaB t'.snd.1.a/\true = true/\(q5/\(1 : Nat) = 1/\q99 = t'.fst.1/\t'.fst.2.length <= q98/\∀ (i : Nat), i < t'.fst.2.length->[AV.int .i64 (q97.getD i 0)] = [AV.int .i64 (t'.fst.2.getD i 0)])/\True)) (((0 : Int) <= (0 : Int)/\(0 : Int) < q76)/\q11 < t.1.2.length/\Exx (StoreT × TickT × Int) fun y => ((Tr 1 (t.1.2.getD q11 0 = y.2.2)/\True)/\(q2/\q1/\q1/\q1/\Tr 1 (t.2.2.blocks = y.2.1.blocks)/\Tr 1 (t.2.2.slots = y.2.1.slots)/\Tr 1 (t.2.2.gens = y.2.1.gens)/\Tr 1 (t.2.2.top = y.2.1.top)/\Tr 1 (t.2.2.high = y.2.1.high)/\Tr 1 (t.2.2.free = y.2.1.free)/\True)/\q4/\devB t.2.1.ws = devB y.1.ws/\zaB t.2.1.a = zaB y.1.a/\true = true/\True)/\Exx DeskT fun d => Exx (List EntT × List Int) fun p => GS q13 q17 y.1 y.2.1 d [(q15, y.2.2, p)]))) = (fnVC tb [(25, zaA zkK), (26, zaA zkL), (27, zaA zm2)] Tryz.f37 zwX (fun x => { loops := [(3, grLA x), (12, grLB x), (15, grLC x)], loose := [(7, [0, 1, 2, 3, 6, 7]), (19, [0, 1, 2, 3, 7])], joins := [(7, grLA x), (8, grJ8 x), (19, grLC x), (20, grJ20 x)] }) (fun _ => none)) := by kernel_rfl

theorem qbO : SpecOk Tryz.prog 37 (zaA zwX) := by
 refine zaK zaM zaL (SPok.cons zoE (SPok.cons zoG (SPok.cons zxS SPok.nil))) Tryz.func37 (by decide) qiH (Eq.mp grownV ?_)
 simp (maxSteps := 10000000) only [std, stdU, stdV, Exx, I64, Nat.reduceMul, Nat.reduceDiv, Nat.reduceAdd, Int.reduceToNat, ↓and_self, and_self, and_self_left, and_self_right, zaQ, zaJ, zaU, zhQ, zeG, ziD, zfP, zd5, zfW]
 rintro s0 t0 es mark k ⟨⟨d0, h0⟩, hI, hm, hk, hlen⟩
 have h16 : es.length <= 16 := by rw [hlen]; exact Nat.pow_le_pow_right (by decide) hk
 have hE : ∀ i j, I64 ((es.getD i []).getD j 0) := fun i j => zbD (p := I64) (zbD (p := fun e : List Int => ∀ v ∈ e, I64 v) hI (fun v hv => (by cases hv)) i) I64_0 j
 have hsn : ∀ (l : List Int) (c : Int), ∀ i, i < (l ++ [c]).length->(if i < l.length then [i64 (l.getD i 0)] else if i - l.length = 0 then [i64 c] else [i64 0]) = [i64 ((l ++ [c]).getD i 0)] := fun l c i hi => by
  rw [zaF]
  rw [List.length_append] at hi
  simp only [List.length_cons, List.length_nil] at hi
  by_cases e : i < l.length
  ·rw [if_pos e, if_pos e]
  ·have e2 : i - l.length = 0 := by omega
   rw [if_neg e, if_neg e, if_pos e2, e2]; rfl
 refine ⟨fun t => t.1.1.1 <= es.length/\t.1.2.length = t.1.1.1/\t.1.2.length <= t.1.1.2/\t.1.1.2 <= 9223372036854775807/\∃ d G, GS es t.1.1.1 t.2.1 t.2.2 d G/\gK G = t.1.2.map fun a => (0, a),
  ⟨0, 0, [], s0, t0, ⟨Nat.zero_le _, rfl, Nat.le_refl _, by simp, d0, [], h0, rfl⟩, rfl, rfl, rfl, rfl, rfl, rfl, rfl, rfl, rfl, rfl, rfl, rfl, rfl⟩, fun t => es.length - t.1.1.1, fun i cap ats s t hJ => ⟨fun hlt => ?_, fun hge => ?_⟩⟩
 ·obtain ⟨j1, j2, j3, j4, d, G, j5, j6⟩ := hJ
  simp only at j1 j2 j3 j4 j5 j6
  have hi : i < es.length := by omega
  refine ⟨by omega, Int.natCast_nonneg (i % 8), fun z => z.1 = ((i, cap), ats)/\∃ d G, GS es i z.2.1 z.2.2 d G/\gK G = ats.map fun a => (0, a), fun _ => ⟨j5.gr.inv.W.2, i, cap, ats, znM s, t, ⟨rfl, d, G, j5.mark (by omega), j6⟩, rfl, rfl, rfl, rfl, rfl, rfl, rfl, rfl, rfl, rfl, rfl, rfl, Nat.le_refl _, fun _ _ => rfl⟩, fun _ => ⟨i, cap, ats, s, t, ⟨rfl, d, G, j5, j6⟩, rfl, rfl, rfl, rfl, rfl, rfl, rfl, rfl, rfl, rfl, rfl, rfl, Nat.le_refl _, fun _ _ => rfl⟩, fun i' cap' ats' s t hK => ?_⟩
  obtain ⟨e1, d, G, k1, k2⟩ := hK
  simp only [Prod.mk.injEq] at e1 k1 k2
  obtain ⟨⟨rfl, rfl⟩, rfl⟩ := e1
  have q0 := hE i' 0
  have q1 := hE i' 1
  obtain ⟨M1, d', p, M2⟩ := gs_make k1 (by omega) q0 q1
  refine ⟨by omega, by omega, by omega, by omega, by omega, by omega, by omega, by omega, k1.gr.inv.W, k1.gr.inv.tI, q0.1, q0.2, q1.1, q1.2, fun z => z.1 = ((i', cap'), ats')/\z.2.2.e = 0/\∃ d p, GS es (i' + 1) z.2.2.s z.2.2.t d (G ++ [(0, z.2.2.a, p)]), ⟨i', cap', ats', t, mkRes s t ((es.getD i' []).getD 0 0) ((es.getD i' []).getD 1 0), ⟨rfl, M1, d', p, M2⟩, ?_⟩, fun i'' cap'' ats'' told r hL => ?_⟩
  ·simp only [and_self, Nat.le_refl, implies_true]
  obtain ⟨e1, e2, d, p, M⟩ := hL
  simp only [Prod.mk.injEq] at e1 e2 M
  obtain ⟨⟨rfl, rfl⟩, rfl⟩ := e1
  refine ⟨fun h => absurd e2 h, fun _ => ⟨by omega, by omega, fun cap2 hc2 => ⟨by omega, by omega, i'' + 1, cap2, ats'' ++ [r.a], r.s, r.t, ⟨by simp only; omega, by simp only [List.length_append, List.length_cons, List.length_nil]; omega, by simp only [List.length_append, List.length_cons, List.length_nil]; omega, hc2.2, d, _, M, ?_⟩, by simp only; omega, by simp, rfl, by omega, rfl, rfl, rfl, rfl, rfl, rfl, rfl, rfl, rfl, by simp, hsn _ _⟩⟩⟩
  simp only
  rw [zw0, k2, List.map_append]; rfl
 ·obtain ⟨j1, j2, j3, j4, d, G, j5, j6⟩ := hJ
  simp only at j1 j2 j3 j4 j5 j6
  have hi : i = 2 ^ k := by omega
  subst hi
  have h2k : 2 ^ k <= 16 := by omega
  refine ⟨fun z => z.1.2.length <= z.1.1/\z.1.1 <= 9223372036854775807/\∃ m d G, m <= k/\z.1.2.length = 2 ^ (k - m)/\GS es (2 ^ k) z.2.1 z.2.2 d G/\gK G = z.1.2.map fun a => (m, a),
   ⟨cap, ats, s, t, ⟨j3, j4, 0, d, G, Nat.zero_le _, j2, j5, j6⟩, rfl, rfl, rfl, rfl, rfl, rfl, rfl, rfl, rfl, rfl, rfl, Nat.le_refl _, fun _ _ => rfl⟩, fun z => z.1.2.length, fun cap ats s t hB => ⟨fun hgt => ?_, fun hle => ?_⟩⟩
  ·obtain ⟨b1, b2, m, d, G, b3, b4, b5, b6⟩ := hB
   simp only at b1 b2 b4 b5 b6
   have hmk : m < k := by
    rcases Nat.lt_or_ge m k with h | h
    ·exact h
    ·have : k - m = 0 := by omega
     rw [this] at b4
     simp only [Nat.pow_zero] at b4
     omega
   have hpow : 2 ^ (k - m) = 2 * 2 ^ (k - (m + 1)) := by
    rw [show k - m = (k - (m + 1)) + 1 by omega, Nat.pow_succ]; omega
   have hpos : 0 < 2 ^ (k - (m + 1)) := Nat.pow_pos (by decide)
   have ha16 : ats.length <= 16 := by rw [b4]; exact Nat.le_trans (Nat.pow_le_pow_right (by decide) (by omega : k - m <= 4)) (by decide)
   refine ⟨fun z => z.1.2.1 = (cap, ats)/\z.1.1 = 2 * z.1.2.2.2.length/\z.1.1 <= ats.length/\z.1.2.2.2.length <= z.1.2.2.1/\z.1.2.2.1 <= 9223372036854775807/\∃ d N R, GS es (2 ^ k) z.2.1 z.2.2 d (N ++ R)/\(gK N = z.1.2.2.2.map fun a => (m + 1, a))/\gK R = (ats.drop z.1.1).map fun a => (m, a),
    ⟨0, cap, ats, 0, [], s, t, ⟨rfl, rfl, Nat.zero_le _, Nat.le_refl _, by simp, d, [], G, b5, rfl, b6⟩, rfl, rfl, rfl, rfl, rfl, rfl, rfl, rfl, rfl, rfl, rfl, rfl, rfl, rfl, Nat.le_refl _, fun _ _ => rfl, rfl, rfl⟩, fun z => ats.length - z.1.1, fun i capA atsA capN next s t hC => ?_⟩
   obtain ⟨e1, c2, c3, c4, c5, d, N, R, c6, c7, c8⟩ := hC
   simp only [Prod.mk.injEq] at e1 c2 c3 c4 c5 c6 c7 c8
   obtain ⟨rfl, rfl⟩ := e1
   refine ⟨by omega, by omega, fun hlt => ?_, fun hge => ?_⟩
   ·refine ⟨by omega, Int.natCast_nonneg (i % 8), fun z => z.1 = (i, (capA, atsA), (capN, next))/\∃ d N R, GS es (2 ^ k) z.2.1 z.2.2 d (N ++ R)/\(gK N = next.map fun a => (m + 1, a))/\gK R = (atsA.drop i).map fun a => (m, a),
     fun _ => ⟨c6.gr.inv.W.2, i, capA, atsA, capN, next, znM s, t, ⟨rfl, d, N, R, c6.mark h2k, c7, c8⟩, rfl, rfl, rfl, rfl, rfl, rfl, rfl, rfl, rfl, rfl, rfl, rfl, rfl, rfl, Nat.le_refl _, fun _ _ => rfl, rfl, Nat.le_refl _, fun _ _ => rfl⟩,
     fun _ => ⟨i, capA, atsA, capN, next, s, t, ⟨rfl, d, N, R, c6, c7, c8⟩, rfl, rfl, rfl, rfl, rfl, rfl, rfl, rfl, rfl, rfl, rfl, rfl, rfl, rfl, Nat.le_refl _, fun _ _ => rfl, rfl, Nat.le_refl _, fun _ _ => rfl⟩, fun i' capA' atsA' capN' next' s t hD => ?_⟩
    obtain ⟨e1, d, N, R, c6, c7, c8⟩ := hD
    simp only [Prod.mk.injEq] at e1 c6 c7 c8
    obtain ⟨rfl, ⟨rfl, rfl⟩, rfl, rfl⟩ := e1
    have hi1 : i' < atsA'.length := by omega
    have hi2 : i' + 1 < atsA'.length := by omega
    have ei : ((i' : Int) + 1).toNat = i' + 1 := by omega
    rw [ei]
    rw [List.drop_eq_getElem_cons hi1] at c8
    obtain ⟨p, R1, rfl, c9⟩ := zzS c8
    rw [List.drop_eq_getElem_cons hi2] at c9
    obtain ⟨q, R2, rfl, c10⟩ := zzS c9
    have g1 : atsA'.getD i' 0 = atsA'[i'] := by rw [List.getD_eq_getElem?_getD, List.getElem?_eq_getElem hi1]; rfl
    have g2 : atsA'.getD (i' + 1) 0 = atsA'[i' + 1] := by rw [List.getD_eq_getElem?_getD, List.getElem?_eq_getElem hi2]; rfl
    rw [g1, g2]
    obtain ⟨L1, d', p', L2⟩ := gs_link c6 h2k (by omega)
    have I1 : I64 atsA'[i'] := c6.gr.inv.i64 (zw1 (g := (m, atsA'[i'], p)) (by simp) (by obtain ⟨_, _, _, _, _, _, e⟩ := zd9 (c6.gr.tr (m, atsA'[i'], p) (by simp)); simp only at e ⊢; rw [e]; exact List.mem_cons_self ..))
    have I2 : I64 atsA'[i' + 1] := c6.gr.inv.i64 (zw1 (g := (m, atsA'[i' + 1], q)) (by simp) (by obtain ⟨_, _, _, _, _, _, e⟩ := zd9 (c6.gr.tr (m, atsA'[i' + 1], q) (by simp)); simp only at e ⊢; rw [e]; exact List.mem_cons_self ..))
    refine ⟨by omega, by omega, hi1, by omega, by omega, by omega, by omega, hi2, c6.gr.inv.W, c6.gr.inv.tI, I1.1, I1.2, I2.1, I2.2, fun z => z.1 = (i', (capA', atsA'), (capN', next'))/\z.2.2.e = 0/\∃ d p, GS es (2 ^ k) z.2.2.s z.2.2.t d ((N ++ [(m + 1, z.2.2.a, p)]) ++ R2),
     ⟨i', capA', atsA', capN', next', t, lkRes s t atsA'[i'] atsA'[i' + 1], ⟨rfl, L1, d', p', L2⟩, ?_⟩, fun i'' capA'' atsA'' capN'' next'' told r hF => ?_⟩
    ·simp only [and_self, Nat.le_refl, implies_true]
    obtain ⟨e1, e2, d, p, M⟩ := hF
    simp only [Prod.mk.injEq] at e1 e2 M
    obtain ⟨rfl, ⟨rfl, rfl⟩, rfl, rfl⟩ := e1
    refine ⟨fun h => absurd e2 h, fun _ => ⟨by omega, by omega, fun cap2 hc2 => ⟨by omega, by omega, i'' + 2, capA'', atsA'', cap2, next'' ++ [r.a], r.s, r.t, ⟨rfl, by simp only [List.length_append, List.length_cons, List.length_nil]; omega, by simp only; omega, by simp only [List.length_append, List.length_cons, List.length_nil]; omega, hc2.2, d, _, R2, M, ?_, ?_⟩, by simp only; omega, rfl, rfl, by simp, rfl, by omega, rfl, rfl, rfl, rfl, rfl, rfl, rfl, rfl, rfl, Nat.le_refl _, fun _ _ => rfl, rfl, by simp, hsn _ _⟩⟩⟩
    ·simp only
     rw [zw0, c7, List.map_append]; rfl
    ·simp only
     exact c10
   ·have ei : i = atsA.length := by
     have : atsA.length = 2 * 2 ^ (k - (m + 1)) := by omega
     omega
    have eR : R = [] := by
     have := qn2 c8
     rw [ei, List.drop_length] at this
     exact List.eq_nil_of_length_eq_zero this
    subst eR
    rw [List.append_nil] at c6
    exact ⟨capN, next, s, t, ⟨c4, c5, m + 1, d, N, by omega, by simp only; omega, c6, c7⟩, by simp only; omega, rfl, rfl, rfl, rfl, rfl, rfl, rfl, rfl, rfl, rfl, rfl, Nat.le_refl _, fun _ _ => rfl⟩
  ·obtain ⟨b1, b2, m, d, G, b3, b4, b5, b6⟩ := hB
   simp only at b1 b2 b4 b5 b6
   have hpos : 0 < 2 ^ (k - m) := Nat.pow_pos (by decide)
   have hmk : m = k := by
    rcases Nat.lt_or_ge m k with h | h
    ·have : 2 ^ (k - m) = 2 * 2 ^ (k - (m + 1)) := by rw [show k - m = (k - (m + 1)) + 1 by omega, Nat.pow_succ]; omega
     have : 0 < 2 ^ (k - (m + 1)) := Nat.pow_pos (by decide)
     omega
    ·omega
   subst hmk
   cases ats with
   | nil => simp at b4
   | cons a r =>
     have : r = [] := List.eq_nil_of_length_eq_zero (by rw [Nat.sub_self, Nat.pow_zero, List.length_cons] at b4; omega)
     subst this
     obtain ⟨p, R, rfl, c9⟩ := zzS b6
     have : R = [] := List.eq_nil_of_length_eq_zero (by have := qn2 c9; simpa using this)
     subst this
     exact ⟨by omega, by simp, by simp, d, p.1, p.2, b5⟩

end Yard
