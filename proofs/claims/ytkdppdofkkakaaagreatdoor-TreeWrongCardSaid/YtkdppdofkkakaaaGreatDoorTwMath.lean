import Derived.Test.YtkdppdofkkakaaaGreatDoorAwMath

namespace Yard
open Go Go.Sx Go.Proofs
set_option linter.unusedVariables false
set_option linter.unusedSimpArgs false
set_option maxRecDepth 4000
set_option maxHeartbeats 4000000

abbrev TwX : Type := List Int × Nat
def twT0 : TickT := tick0 ((40 : Nat) : Int) 9 100
def twK (x : TwX) (s : StoreT) (t : TickT) : AH := [.fence, .cells 59 [.arr 1 3 (fun i => [i64 (x.1.getD i 0)])], standI 3 4 5 twT0, storeI 4 5, devI s.ws, allocI s.a, tickC t]
def twR (x : TwX) : List (Nat × AV) := [(5, .ptr 2 [] 0), (6, .ptr 6 [] 0)]
def twJ7 (x : TwX) : LA := { T := MR, F := fun t => frm 146 ([(1, .int .u8 (x.2 : Nat)), (2, .ptr 1 [] 0), (7, i64 t.a), (9, i64 t.e)] ++ twR x), H := fun t => twK x t.s t.t, ρ₁ := frRen 6 [6], ρ₂ := frRen 6 [6] }
def twJ8 (x : TwX) : LA := { T := MR × MR, F := fun t => frm 146 ([(1, .int .u8 (x.2 : Nat)), (2, .ptr 1 [] 0), (7, i64 t.1.a), (9, i64 t.1.e), (10, i64 t.2.a), (12, i64 t.2.e)] ++ twR x), H := fun t => twK x t.2.s t.2.t, ρ₁ := frRen 6 [6], ρ₂ := frRen 6 [6] }
def twJ9 (x : TwX) : LA := { T := MR × MR × MR, F := fun t => frm 146 ([(1, .int .u8 (x.2 : Nat)), (7, i64 t.1.a), (9, i64 t.1.e), (10, i64 t.2.1.a), (12, i64 t.2.1.e), (13, i64 t.2.2.a), (15, i64 t.2.2.e)] ++ twR x), H := fun t => twK x t.2.2.s t.2.2.t, ρ₁ := frRen 6 [6], ρ₂ := frRen 6 [6] }
def twJ10 (x : TwX) : LA := { T := MR × MR × MR × TR, F := fun t => frm 146 ([(1, .int .u8 (x.2 : Nat)), (9, i64 t.1.e), (12, i64 t.2.1.e), (13, i64 t.2.2.1.a), (15, i64 t.2.2.1.e), (16, i64 t.2.2.2.a), (17, i64 t.2.2.2.e)] ++ twR x), H := fun t => twK x t.2.2.2.s t.2.2.2.t, ρ₁ := frRen 6 [6], ρ₂ := frRen 6 [6] }
def twJ14 (x : TwX) : LA := { T := (Int × Int) × TR, F := fun t => frm 146 ([(19, i64 t.1.1), (20, i64 t.1.2)] ++ twR x), H := fun t => twK x t.2.s t.2.t, ρ₁ := frRen 6 [6], ρ₂ := frRen 6 [6] }
def twJ15 (x : TwX) : LA := { T := (Int × Int) × TR, F := fun t => frm 146 [(19, i64 t.1.1), (20, i64 t.1.2), (21, .ptr 6 [] 0), (22, i64 t.2.a), (23, i64 t.2.e)], H := fun t => twK x t.2.s t.2.t, ρ₁ := frRen 6 [21], ρ₂ := frRen 6 [21] }
abbrev Tw1 (k : Int) (r : MR) : Prop := Made (madeS 40 0) twT0 desk0 [] ⟨0, 1⟩ k 0 r
abbrev Tw2 (k : Int) (q r : MR) : Prop := Made q.s q.t (deskIss desk0 q.a) [q.a] ⟨1, 1⟩ k 0 r
abbrev Tw3 (k : Int) (p q r : MR) : Prop := Made q.s q.t (deskIss (deskIss desk0 p.a) q.a) [q.a, p.a] ⟨2, 1⟩ k 0 r
theorem read_zero0 {ws : List Nat} {n : Nat} (hl : lineL ws 0 = lineL (List.replicate (8 * n) 0) 0) (h0 : 1 ≤ n) (hn : linesN ws = n) : readE ws 0 = 31 := by
  have hin : inLine ws 0 := ⟨by omega, by omega⟩
  have hz : lineL (List.replicate (8 * n) 0) 0 = octetsN (List.replicate 8 0) := by
    have h1 : linesN (List.replicate (8 * n) 0) = n := by rw [linesN, List.length_replicate]; omega
    rw [lineL, if_pos ⟨by omega, by omega⟩]
    congr 1
    show lineW (List.replicate (8 * n) 0) 0 = _
    rw [lineW]
    show List.take 8 (List.drop 0 (List.replicate (8 * n) 0)) = _
    rw [List.drop_zero, List.take_replicate, Nat.min_eq_left (by omega)]
  have hnot : ¬ isNode (lineL ws 0) := by
    rw [hl, hz]
    intro h
    exact absurd h.2.1 (by decide)
  rw [readE, if_pos (lineErr_zero.2 hin), if_neg hnot]
theorem read_far {ws : List Nat} {a : Int} (h : (linesN ws : Int) ≤ a) : readE ws a = 2 := by
  have e : lineErr ws a = 2 := by
    unfold lineErr mayErr
    rw [if_neg (by omega)]
  rw [readE, e]; rfl
theorem NInv.i64 {s : StoreT} {t : TickT} {d : DeskT} {xs : List Int} (h : NInv s t d xs) {c : Int} (hc : c ∈ xs) : I64 c := by
  have := h.range hc; exact ⟨by omega, by omega⟩
theorem tw_m1 {k : Int} (hk : I64 k) : Tw1 k (mkRes (madeS 40 0) twT0 k 0) := by
  have I0 : NInv (madeS 40 0) twT0 desk0 [] := ninv_made (by omega) (by omega) ⟨by omega, by omega, by omega, by omega, by omega, by omega⟩
  have f0 := roomK_free I0.inv (roomK_made 40) (by decide)
  exact mk_step I0 (by simp [twT0, tick0] at f0; omega) (a := 0) (g := 1) rfl hk I64_0
theorem tw_room {k : Int} {r : MR} (M : Tw1 k r) : RoomK 40 2 r.s ∧ r.t.slots = 9 ∧ r.t.high = 1 := by
  have h1 := M.inv.inv.high
  have d1 : (deskIss desk0 r.a).gens.length = 1 := rfl
  rw [d1] at h1
  exact ⟨(roomK_made 40).env M.env, M.geo.1, h1⟩
theorem tw_m2 {k l : Int} {r : MR} (M : Tw1 k r) (hk : I64 l) : Tw2 l r (mkRes r.s r.t l 0) := by
  obtain ⟨R1, s1, h1⟩ := tw_room M
  have f1 := roomK_free M.inv.inv R1 (by omega)
  exact mk_step M.inv (by rw [h1] at f1; simp at f1; omega) (a := 1) (g := 1) (by rw [s1]; rfl) hk I64_0
theorem tw_room2 {k l : Int} {q r : MR} (M : Tw1 k q) (N : Tw2 l q r) : RoomK 40 2 r.s ∧ r.t.slots = 9 ∧ r.t.high = 2 := by
  obtain ⟨R1, s1, h1⟩ := tw_room M
  have h2 := N.inv.inv.high
  have d2 : (deskIss (deskIss desk0 q.a) r.a).gens.length = 2 := rfl
  rw [d2] at h2
  exact ⟨R1.env N.env, N.geo.1.trans s1, h2⟩
theorem tw_m3 {k l m : Int} {q r : MR} (M : Tw1 k q) (N : Tw2 l q r) (hk : I64 m) : Tw3 m q r (mkRes r.s r.t m 0) := by
  obtain ⟨R1, s1, h1⟩ := tw_room2 M N
  have f1 := roomK_free N.inv.inv R1 (by omega)
  exact mk_step N.inv (by rw [h1] at f1; simp at f1; omega) (a := 2) (g := 1) (by rw [s1]; rfl) hk I64_0
structure TwOk (p q r : MR) (t : TR) : Prop where
  w4 : StoreW t.s
  t4 : TickI t.t
  i1 : I64 p.a
  i2 : I64 q.a
  i3 : I64 r.a
  i4 : I64 t.a
  e4 : t.e = 0
  bad : ∀ i k : Int, (i = t.a ∨ i = r.a ∨ i = 0 ∨ i = 1000) → (k = t.a ∨ k = r.a ∨ k = 0 ∨ k = 1000) → lkRes t.s t.t i k = ⟨t.s, tickZ, 0, if i = 0 ∨ (k = 0 ∧ i ≠ 1000) then 31 else 2⟩
theorem tw_ok {k0 k1 k2 : Int} {r1 r2 r3 : MR} (M1 : Tw1 k0 r1) (M2 : Tw2 k1 r1 r2) (M3 : Tw3 k2 r1 r2 r3) : TwOk r1 r2 r3 (lkRes r3.s r3.t r1.a r2.a) := by
  obtain ⟨R2, s2, h2⟩ := tw_room2 M1 M2
  have h3 := M3.inv.inv.high
  have R3 := R2.env M3.env
  have d3 : (deskIss (deskIss (deskIss desk0 r1.a) r2.a) r3.a).gens.length = 3 := rfl
  rw [d3] at h3
  have f3 := roomK_free M3.inv.inv R3 (by omega)
  have ma : r1.a ∈ [r3.a, r2.a, r1.a] := by simp
  have mb : r2.a ∈ [r3.a, r2.a, r1.a] := by simp
  have mc : r3.a ∈ [r3.a, r2.a, r1.a] := by simp
  have nA : (readT r3.s.ws r1.a).kids = [] := by rw [M3.oth _ (by simp), M2.oth _ (by simp), M1.node]; rfl
  have nB : (readT r3.s.ws r2.a).kids = [] := by rw [M3.oth _ (by simp), M2.node]; rfl
  have nC : (readT r3.s.ws r3.a).kids = [] := by rw [M3.node]; rfl
  have hab : r1.a ≠ r2.a := fun e => M2.new (by rw [← e]; simp)
  have hca : r3.a ≠ r1.a := fun e => M3.new (by rw [e]; simp)
  have hcb : r3.a ≠ r2.a := fun e => M3.new (by rw [e]; simp)
  obtain ⟨p, c, d', hpc, hah, T⟩ := lk_step M3.inv (by rw [h3] at f3; simp at f3; omega) ma mb hab (by rw [nA, nB]) (by rw [nA]; decide)
  generalize lkRes r3.s r3.t r1.a r2.a = r4 at T ⊢
  have hcp : r3.a ≠ p := by
    rcases hpc with ⟨e, _⟩ | ⟨e, _⟩
    · rw [e]; exact hca
    · rw [e]; exact hcb
  have hpk : (readT r3.s.ws p).kids = [] := by
    rcases hpc with ⟨e, _⟩ | ⟨e, _⟩
    · rw [e]; exact nA
    · rw [e]; exact nB
  have mC : r3.a ∈ r4.a :: [r3.a, r2.a, r1.a].erase p := List.mem_cons_of_mem _ ((List.Nodup.mem_erase_iff M3.inv.nd).2 ⟨hcp, mc⟩)
  have mD : r4.a ∈ r4.a :: [r3.a, r2.a, r1.a].erase p := List.mem_cons_self ..
  have eC := (T.inv.node _ mC).1
  have eD := (T.inv.node _ mD).1
  have kC : (readT r4.s.ws r3.a).kids.length = 0 := by rw [T.oth _ mc hcp, nC]; rfl
  have kD : (readT r4.s.ws r4.a).kids.length = 1 := by rw [T.node, hpk]; rfl
  have E := ((M1.env.trans M2.env).trans M3.env).trans T.env
  have hn : r4.s.a.n = 40 := E.n
  have hlns : linesN r4.s.ws = 40 := by rw [E.lns]; show (List.replicate (8 * 40) 0).length / 8 = 40; rw [List.length_replicate]
  have z0 : readE r4.s.ws 0 = 31 := read_zero0 (n := 40) (E.marks 0 (by decide)) (by omega) hlns
  have z9 : readE r4.s.ws 1000 = 2 := read_far (by omega)
  refine ⟨T.inv.W, T.inv.tI, ?_, ?_, ?_, ?_, T.e, fun i k hi hk => ?_⟩
  · exact M3.inv.i64 ma
  · exact M3.inv.i64 mb
  · exact M3.inv.i64 mc
  · exact T.inv.i64 mD
  · by_cases ei : readE r4.s.ws i = 0
    · have hi2 : i ≠ 0 ∧ i ≠ 1000 := ⟨fun e => absurd (z0.symm.trans (e ▸ ei)) (by decide), fun e => absurd (z9.symm.trans (e ▸ ei)) (by decide)⟩
      by_cases ek : readE r4.s.ws k = 0
      · have hk2 : k ≠ 0 ∧ k ≠ 1000 := ⟨fun e => absurd (z0.symm.trans (e ▸ ek)) (by decide), fun e => absurd (z9.symm.trans (e ▸ ek)) (by decide)⟩
        have hor : i = k ∨ (readT r4.s.ws i).kids.length ≠ (readT r4.s.ws k).kids.length ∨ (readT r4.s.ws i).kids.length = 12 := by
          rcases hi with e | e | e | e
          · rcases hk with q | q | q | q
            · exact .inl (e.trans q.symm)
            · right; left; rw [e, q, kC, kD]; decide
            · exact absurd q hk2.1
            · exact absurd q hk2.2
          · rcases hk with q | q | q | q
            · right; left; rw [e, q, kC, kD]; decide
            · exact .inl (e.trans q.symm)
            · exact absurd q hk2.1
            · exact absurd q hk2.2
          · exact absurd e hi2.1
          · exact absurd e hi2.2
        rw [lkRes, if_pos ei, if_pos ek, if_pos hor, if_neg (by rintro (q | q); exact hi2.1 q; exact hk2.1 q.1)]
      · have hk2 : k = 0 ∨ k = 1000 := by
          rcases hk with q | q | q | q
          · exact absurd (q ▸ eD) ek
          · exact absurd (q ▸ eC) ek
          · exact .inl q
          · exact .inr q
        rw [lkRes, if_pos ei, if_neg ek]
        rcases hk2 with q | q
        · rw [q, z0, if_pos (.inr ⟨rfl, hi2.2⟩)]
        · rw [q, z9, if_neg (by rintro (r | r); exact hi2.1 r; exact absurd r.1 (by decide))]
    · have hi2 : i = 0 ∨ i = 1000 := by
        rcases hi with q | q | q | q
        · exact absurd (q ▸ eD) ei
        · exact absurd (q ▸ eC) ei
        · exact .inl q
        · exact .inr q
      rw [lkRes, if_neg ei]
      rcases hi2 with q | q
      · rw [q, z0, if_pos (.inl rfl)]
      · rw [q, z9, if_neg (by rintro (r | r); exact absurd r (by decide); exact r.2 rfl)]

theorem tw_pick (n : Nat) (a c : Int) : (if n = 3 then 1000 else if n = 2 then 0 else if n = 1 then c else if n = 0 then a else 0) = a ∨ (if n = 3 then 1000 else if n = 2 then 0 else if n = 1 then c else if n = 0 then a else 0) = c ∨ (if n = 3 then 1000 else if n = 2 then 0 else if n = 1 then c else if n = 0 then a else 0) = 0 ∨ (if n = 3 then 1000 else if n = 2 then 0 else if n = 1 then c else if n = 0 then a else 0) = (1000 : Int) := by
  by_cases h3 : n = 3
  · rw [if_pos h3]; exact .inr (.inr (.inr rfl))
  · rw [if_neg h3]
    by_cases h2 : n = 2
    · rw [if_pos h2]; exact .inr (.inr (.inl rfl))
    · rw [if_neg h2]
      by_cases h1 : n = 1
      · rw [if_pos h1]; exact .inr (.inl rfl)
      · rw [if_neg h1]
        by_cases h0 : n = 0
        · rw [if_pos h0]; exact .inl rfl
        · rw [if_neg h0]; exact .inr (.inr (.inl rfl))
theorem tw_I {v a c : Int} (ha : I64 a) (hc : I64 c) (h : v = a ∨ v = c ∨ v = 0 ∨ v = 1000) : I64 v := by
  rcases h with rfl | rfl | rfl | rfl
  · exact ha
  · exact hc
  · exact I64_0
  · exact ⟨by omega, by omega⟩

end Yard
