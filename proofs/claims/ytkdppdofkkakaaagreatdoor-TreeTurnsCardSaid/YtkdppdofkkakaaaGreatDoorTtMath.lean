import Derived.Test.YtkdppdofkkakaaaGreatDoorAwMath
import Derived.Test.YtkdppdofkkakaaaGreatDoorTwMath

namespace Yard
open Go Go.Sx Go.Proofs
set_option linter.unusedVariables false
set_option linter.unusedSimpArgs false
set_option maxRecDepth 4000
set_option maxHeartbeats 4000000

abbrev TtX : Type := List Int × List Int × Bool
def ttT0 : TickT := tick0 ((30 : Nat) : Int) 9 100
def ttS (r : MR) (b : Bool) : StoreT := if b = true then markT r.s else r.s
theorem ttS_t (r : MR) : ttS r true = markT r.s := if_pos rfl
theorem ttS_f (r : MR) : ttS r false = r.s := if_neg (fun h => by cases h)
def ttK (x : TtX) (s : StoreT) (l : AH) : AH := [.fence, .cells 75 [.arr 1 2 (fun i => [i64 (x.1.getD i 0)])], standI 3 4 5 ttT0, storeI 4 5, devI s.ws, allocI s.a] ++ l
def ttA (x : TtX) : List (Nat × AV) := [(2, .bool x.2.2), (9, .ptr 2 [] 0)]
def ttJ8 (x : TtX) : LA := { T := MR, F := fun t => frm 168 ([(1, kidsA x.2.1), (7, i64 (x.1.getD 0 0)), (8, i64 (x.1.getD 1 0)), (10, .ptr 6 [] 0), (11, i64 t.a), (12, .ptr 7 [] 0), (13, i64 t.e)] ++ ttA x), H := fun t => ttK x t.s [tickC t.t, handC t.h], ρ₁ := frRen 6 [10, 12], ρ₂ := frRen 6 [10, 12] }
def ttJ12 (x : TtX) : LA := { T := MR × StoreT, F := fun t => frm 168 ([(1, kidsA x.2.1), (7, i64 (x.1.getD 0 0)), (8, i64 (x.1.getD 1 0)), (10, .ptr 6 [] 0), (11, i64 t.1.a), (12, .ptr 7 [] 0)] ++ ttA x), H := fun t => ttK x t.2 [tickC t.1.t, handC t.1.h], ρ₁ := frRen 6 [10, 12], ρ₂ := frRen 6 [10, 12] }
def ttNI (h : HandT) (x : TtX) : Sx.Item := .cells 79 [i64 h.slot, i64 h.gen, i64 (x.1.getD 0 0), i64 (x.1.getD 1 0), kidsA x.2.1]
def ttJ14 (x : TtX) : LA := { T := MR × TR, F := fun t => frm 168 ([(11, i64 t.1.a), (12, .ptr 7 [] 0), (14, .ptr 8 [] 0), (15, .ptr 9 [] 0), (16, i64 t.2.a), (17, i64 t.2.e)] ++ ttA x), H := fun t => ttK x t.2.s [tickC t.1.t, handC t.1.h, ttNI t.1.h x, tickC t.2.t], ρ₁ := frRen 6 [10, 12, 14, 15], ρ₂ := frRen 6 [10, 12, 14, 15] }

abbrev TtM (r : MR) : Prop := Made (madeS 30 0) ttT0 desk0 [] ⟨0, 1⟩ 1 2 r
theorem tt_made : TtM (mkRes (madeS 30 0) ttT0 1 2) := by
  have I0 : NInv (madeS 30 0) ttT0 desk0 [] := ninv_made (by omega) (by omega) ⟨by omega, by omega, by omega, by omega, by omega, by omega⟩
  have f0 := roomK_free I0.inv (roomK_made 30) (by decide)
  exact mk_step I0 (by simp [ttT0, tick0] at f0; omega) (a := 0) (g := 1) rfl (k := 1) (v := 2) ⟨by omega, by omega⟩ ⟨by omega, by omega⟩
structure TtOk (r : MR) (b : Bool) : Prop where
  inv : NInv (ttS r b) r.t (deskIss desk0 r.a) [r.a]
  free : 4 ≤ freeN (ttS r b).a
  node : readT (ttS r b).ws r.a = mkN ⟨0, 1⟩ 1 2
  mkd : InS (ttS r b).a.n (ttS r b).a.m r.a ↔ b = true
theorem tt_ok {r : MR} (M1 : TtM r) (b : Bool) : TtOk r b := by
  have h1 := M1.inv.inv.high
  have R1 := (roomK_made 30).env M1.env
  have d1 : (deskIss desk0 r.a).gens.length = 1 := rfl
  rw [d1] at h1
  have hw := M1.inv.inv.tree.sh.xw r.a (List.mem_cons_self ..)
  cases b with
  | true =>
    have R2 := roomK_mark M1.inv.inv R1 (by omega)
    have I2 := M1.inv.mark
    have f2 := roomK_free I2.inv R2 (by omega)
    rw [h1] at f2
    simp at f2
    exact ⟨by rw [ttS_t]; exact I2, by rw [ttS_t]; omega, by rw [ttS_t]; exact M1.node, by rw [ttS_t]; exact ⟨fun _ => rfl, fun _ => hw.2⟩⟩
  | false =>
    have f1 := roomK_free M1.inv.inv R1 (by omega)
    rw [h1] at f1
    simp at f1
    refine ⟨by rw [ttS_f]; exact M1.inv, by rw [ttS_f]; omega, by rw [ttS_f]; exact M1.node, ?_⟩
    rw [ttS_f]
    refine ⟨fun hm => ?_, fun q => (by cases q)⟩
    exfalso
    rw [M1.env.n, M1.env.m] at hm
    have := (inS_made (n := 30)).1 hm
    have := M1.at2
    omega

structure TtR (q : MR) (b : Bool) (n : NodeT) (r : TR) : Prop where
  e : r.e = 0
  w : StoreW r.s
  t : TickI r.t
  i : I64 r.a
  now : readE r.s.ws r.a = 0
  node : readT r.s.ws r.a = n
  old : readE r.s.ws q.a = 0
  elder : b = true → readT r.s.ws q.a = mkN ⟨0, 1⟩ 1 2
  seat : seatE r.s.ws r.t q.h = 0
  next : (seatX r.s.ws r.t q.h).next = r.a
  same : r.a = q.a ↔ ¬ b = true
theorem tt_turn {q : MR} (M : TtM q) (b : Bool) {n : NodeT} (hok : nodeOk n) (hI : NodeI n) (hh : entH n.e = ⟨0, 1⟩) : TtR q b n (tuRes (ttS q b) q.t q.a n) := by
  have A := tt_ok M b
  have ma : q.a ∈ [q.a] := List.mem_cons_self ..
  have e0 := (A.inv.node _ ma).1
  obtain ⟨d', T⟩ := tu_step A.inv A.free ma hok hI (by rw [A.node, hh]; rfl)
  generalize tuRes (ttS q b) q.t q.a n = r at T ⊢
  have me : r.a ∈ r.a :: [q.a].erase q.a := List.mem_cons_self ..
  obtain ⟨n1, n2, n3⟩ := T.inv.node _ me
  rw [T.node] at n2 n3
  obtain ⟨s1, s2⟩ := seat_live T.inv.inv n2
  have el : b = true → readE r.s.ws q.a = 0 ∧ readT r.s.ws q.a = mkN ⟨0, 1⟩ 1 2 := fun hb => by
    have := read_same (ws := (ttS q b).ws) (ws' := r.s.ws) (a := q.a) T.env.lns (T.env.marks _ (A.mkd.2 hb))
    rw [this.1, this.2, A.node]; exact ⟨e0, rfl⟩
  have sm : r.a = q.a ↔ ¬ b = true := ⟨fun e hb => T.mkd (A.mkd.2 hb) e, fun hb => T.nmk fun k => hb (A.mkd.1 k)⟩
  refine ⟨T.e, T.inv.W, T.inv.tI, T.inv.i64 me, n1, T.node, ?_, fun hb => (el hb).2, ?_, ?_, sm⟩
  · by_cases hb : b = true
    · exact (el hb).1
    · rw [sm.2 hb] at n1; exact n1
  · rw [M.hand, ← hh]; exact s1
  · rw [M.hand, ← hh, s2]; exact n3

end Yard
