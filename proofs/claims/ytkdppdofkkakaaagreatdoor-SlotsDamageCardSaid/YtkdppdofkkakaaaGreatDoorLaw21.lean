import Derived.Test.YtkdppdofkkakaaaGreatDoorSlotInv

namespace Yard
open Go Go.Sx Go.Proofs
set_option linter.unusedVariables false
set_option linter.unusedSimpArgs false
set_option maxRecDepth 4000

structure TickT where
 blocks : Int
 slots : Int
 gens : Int
 top : Int
 high : Int
 free : Int
deriving DecidableEq
def zhY : TickT := ⟨0, 0, 0, 0, 0, 0⟩
def qeW (t : TickT) : Prop := I64 t.blocks/\I64 t.slots/\I64 t.gens/\I64 t.top/\I64 t.high/\I64 t.free

structure HandT where
 slot : Int
 gen : Int
deriving DecidableEq
def zwW : HandT := ⟨0, 0⟩
def zrM (b s g : Int) : Prop := 16 <= b/\b <= 3072/\1 <= s/\s <= 1792/\1 <= g/\g <= 4294967295
instance (b s g : Int) : Decidable (zrM b s g) := by unfold zrM; infer_instance
def zk0 (t : TickT) : Prop := zrM t.blocks t.slots t.gens/\0 <= t.high/\t.high <= t.slots/\0 <= t.free/\t.free <= t.high
instance (t : TickT) : Decidable (zk0 t) := by unfold zk0; infer_instance
def ztE (ws : List Nat) (t : TickT) : Int :=
 if zk0 t then if t.free = 0 then (if t.high = t.slots then 10 else 0) else
  if zaP ws t.top (t.free - 1) = 0 then (if (zfM ws t.top (t.free - 1)).live = true\/(zfM ws t.top (t.free - 1)).gen < 1\/t.gens <= (zfM ws t.top (t.free - 1)).gen then 31 else 0) else zaP ws t.top (t.free - 1) else 2
def nextS (ws : List Nat) (t : TickT) : Int := if ztE ws t = 0 then (if t.free = 0 then t.high else t.free - 1) else 0
def qdW (ws : List Nat) (t : TickT) : SeatT := if ztE ws t = 0 then (if t.free = 0 then seatZ else zfM ws t.top (t.free - 1)) else seatZ
def nextH (ws : List Nat) (t : TickT) : HandT := if ztE ws t = 0 then ⟨nextS ws t, (qdW ws t).gen + 1⟩ else zwW
def issW (s : StoreT) (t : TickT) (at_ : Int) : Wr := putR s t.top (nextS s.ws t) ⟨true, (qdW s.ws t).gen + 1, at_⟩
def qdY (s : StoreT) (t : TickT) (at_ : Int) : Prop := zk0 t/\(2 <= at_/\at_ < 3072)/\ztE s.ws t = 0
instance (s : StoreT) (t : TickT) (at_ : Int) : Decidable (qdY s t at_) := by unfold qdY; infer_instance
def issE (s : StoreT) (t : TickT) (at_ : Int) : Int := if qdY s t at_ then (issW s t at_).e else if zk0 t/\(2 <= at_/\at_ < 3072) then ztE s.ws t else 2
def issS (s : StoreT) (t : TickT) (at_ : Int) : StoreT := if qdY s t at_ then (issW s t at_).s else s
def issT (s : StoreT) (t : TickT) (at_ : Int) : TickT := if issE s t at_ = 0 then { t with top := (issW s t at_).at_, high := if 0 < t.free then t.high else t.high + 1, free := if 0 < t.free then (qdW s.ws t).next else t.free } else zhY
def issH (s : StoreT) (t : TickT) (at_ : Int) : HandT := if issE s t at_ = 0 then ⟨nextS s.ws t, (qdW s.ws t).gen + 1⟩ else zwW
def zsN (ws : List Nat) (t : TickT) (h : HandT) : Int :=
 if zk0 t then if h.slot < 0\/t.high <= h.slot then 11 else if zaP ws t.top h.slot = 0 then (if (zfM ws t.top h.slot).live = true/\(zfM ws t.top h.slot).gen = h.gen then 0 else 11) else zaP ws t.top h.slot else 2
def qc1 (ws : List Nat) (t : TickT) (h : HandT) : SeatT := if zsN ws t h = 0 then zfM ws t.top h.slot else seatZ
def poiW (s : StoreT) (t : TickT) (h : HandT) (at_ : Int) : Wr := putR s t.top h.slot ⟨(qc1 s.ws t h).live, (qc1 s.ws t h).gen, at_⟩
def qdP (s : StoreT) (t : TickT) (h : HandT) (at_ : Int) : Prop := zsN s.ws t h = 0/\(2 <= at_/\at_ < 3072)
instance (s : StoreT) (t : TickT) (h : HandT) (at_ : Int) : Decidable (qdP s t h at_) := by unfold qdP; infer_instance
def poiE (s : StoreT) (t : TickT) (h : HandT) (at_ : Int) : Int := if qdP s t h at_ then (poiW s t h at_).e else if zsN s.ws t h = 0 then 2 else zsN s.ws t h
def poiS (s : StoreT) (t : TickT) (h : HandT) (at_ : Int) : StoreT := if qdP s t h at_ then (poiW s t h at_).s else s
def poiT (s : StoreT) (t : TickT) (h : HandT) (at_ : Int) : TickT := if poiE s t h at_ = 0 then { t with top := (poiW s t h at_).at_ } else zhY

structure DeskT where
 gens : List Int
 blocks : List Int
 free : List Nat
def gAt (d : DeskT) (i : Nat) : Int := d.gens.getD i 0
def bAt (d : DeskT) (i : Nat) : Int := d.blocks.getD i 0
def headF : List Nat->Int
 | [] => 0
 | a :: _ => (a : Int) + 1
def nextF : List Nat->Nat->Int
 | [], _ => 0
 | a :: r, i => if a = i then headF r else nextF r i
def seatD (d : DeskT) (i : Nat) : SeatT := if bAt d i = 0 then ⟨false, gAt d i, nextF d.free i⟩ else ⟨true, gAt d i, bAt d i⟩

structure TInvX (X : Int->Prop) (s : StoreT) (t : TickT) (d : DeskT) : Prop where
 ok : zk0 t
 htop : I64 t.top
 good : GoodS s
 tree : TreeX X s t.top
 high : t.high = (d.gens.length : Int)
 lenb : d.blocks.length = d.gens.length
 free : t.free = headF d.free
 seats : ∀ i : Nat, i < d.gens.length->tS s.ws t.top (placeK (i : Int) 0) (placeK (i : Int) 1) (placeK (i : Int) 2) = seatD d i
 fnd : d.free.Nodup
 fok : ∀ a ∈ d.free, a < d.gens.length/\bAt d a = 0/\gAt d a < t.gens
 gok : ∀ i, i < d.gens.length->1 <= gAt d i/\gAt d i <= t.gens
 bok : ∀ i, i < d.gens.length->bAt d i = 0\/(2 <= bAt d i/\bAt d i < 3072)
 zK : ∀ i : Nat, i < 16->fanF s.ws t.top i ≠ 0->112 * (i : Int) < t.high
 zF : ∀ i j : Nat, i < 16->j < 16->tF s.ws t.top i j ≠ 0->112 * (i : Int) + 7 * (j : Int) < t.high

abbrev TInv (s : StoreT) (t : TickT) (d : DeskT) : Prop := TInvX noX s t d
theorem TInvX.len {X : Int->Prop} {s : StoreT} {t : TickT} {d : DeskT} (h : TInvX X s t d) : (d.gens.length : Int) <= t.slots/\t.slots <= 1792 := by
 have := h.high
 have h2 := h.ok.2.2.1
 have h3 := h.ok.1.2.2.2.1
 omega
theorem TInvX.place {X : Int->Prop} {s : StoreT} {t : TickT} {d : DeskT} (h : TInvX X s t d) {i : Nat} (hi : i < d.gens.length) : zbS (i : Int) := by
 have := h.len
 exact ⟨by omega, by omega⟩
def deskIss (d : DeskT) (at_ : Int) : DeskT := match d.free with
 | a :: r => { gens := d.gens.set a (gAt d a + 1), blocks := d.blocks.set a at_, free := r }
 | [] => { gens := d.gens ++ [1], blocks := d.blocks ++ [at_], free := [] }
def liveD (d : DeskT) (h : HandT) : Prop := 0 <= h.slot/\h.slot < (d.gens.length : Int)/\gAt d h.slot.toNat = h.gen/\bAt d h.slot.toNat ≠ 0
instance (d : DeskT) (h : HandT) : Decidable (liveD d h) := by unfold liveD; infer_instance
theorem zrI {X : Int->Prop} {s : StoreT} {t : TickT} {d : DeskT} (h : TInvX X s t d) : TInvX X (zwP s) t d :=
 ⟨h.ok, h.htop, zzR h.good, zzQ h.tree, h.high, h.lenb, h.free, h.seats, h.fnd, h.fok, h.gok, h.bok, h.zK, h.zF⟩

theorem zq8 {l : List Int} : ∀ {m : List Int}, l.Nodup->(∀ a ∈ l, a ∈ m)->l.length <= m.length := by
 induction l with
 | nil => intro m _ _; exact Nat.zero_le _
 | cons a r ih =>
   intro m hn hs
   rw [List.nodup_cons] at hn
   have ha := hs a (List.mem_cons_self ..)
   have := ih (m := m.erase a) hn.2 fun b hb => (List.mem_erase_of_ne (show b ≠ a from fun e => hn.1 (e ▸ hb))).2 (hs b (List.mem_cons_of_mem _ hb))
   rw [List.length_erase_of_mem ha] at this
   have hp := List.length_pos_of_mem ha
   rw [List.length_cons]; omega
theorem zjM (n p q : Nat) : (za8 n (p ||| q)).length <= (za8 n p).length + (za8 n q).length := by
 induction n with
 | zero => simp [za8]
 | succ n ih =>
   rw [zjN, zjN, zjN, Nat.testBit_or]
   cases p.testBit n <;> cases q.testBit n <;> simp <;> omega
theorem w_len {s : StoreT} {t : TickT} {d : DeskT} (h : TInv s t d) (h42 : t.high <= 42) : (za8 s.a.n s.a.w).length <= 10 := by
 have hl : (zc4 (s.a.n, s.a.w)).Nodup := by
  rw [zc4, List.Nodup, List.pairwise_map]
  refine List.Pairwise.imp (R := (· < ·)) (fun {a b} hab e => ?_) (List.Pairwise.filter _ List.pairwise_lt_range)
  omega
 have := zq8 (l := zc4 (s.a.n, s.a.w)) (m := 0 :: 1 :: t.top :: fanF s.ws t.top 0 :: (List.range 6).map (tF s.ws t.top 0)) hl fun a ha => by
  have hz : ∀ c : Int, c = 0->c ∈ ((0 : Int) :: 1 :: t.top :: fanF s.ws t.top 0 :: (List.range 6).map (tF s.ws t.top 0)) := fun c hc => by rw [hc]; exact List.mem_cons_self ..
  rcases h.tree.sh.ex a (inS_iff.2 (listN_mem.1 ha)) with z | z | z | ⟨i, hi, z⟩ | ⟨i, j, hi, hj, z⟩
  ·exact hz a z
  ·rw [z]; simp
  ·rw [z]; simp
  ·by_cases e : fanF s.ws t.top i = 0
   ·exact hz a (z.trans e)
   ·have := h.zK i hi e
    have e0 : i = 0 := by omega
    subst e0
    rw [z]; simp
  ·by_cases e : tF s.ws t.top i j = 0
   ·exact hz a (z.trans e)
   ·have := h.zF i j hi hj e
    have e0 : i = 0 := by omega
    subst e0
    rw [z]
    simp only [List.mem_cons, List.mem_map, List.mem_range]
    exact .inr (.inr (.inr (.inr ⟨j, by omega, rfl⟩)))
 simpa [zc4] using this

structure Room (n : Nat) (s : StoreT) : Prop where
 hn : s.a.n = n
 c : (za8 n s.a.c).length <= 2
 e : s.a.e = 0
 m : (za8 n s.a.m).length <= 10
theorem zyK {n : Nat} {s : StoreT} {t : TickT} {d : DeskT} (h : TInv s t d) (hr : Room n s) (h42 : t.high <= 42) : (n : Int) - 22 <= zfL s.a := by
 have h1 := w_len h h42
 have hc := hr.c
 have hm := hr.m
 have hn := hr.hn
 rw [hn] at h1
 have e1 : zdJ s.a = ((s.a.w ||| s.a.c) ||| 0) ||| s.a.m := by rw [zdJ, hr.e]
 have k1 := zjM n ((s.a.w ||| s.a.c) ||| 0) s.a.m
 have k2 := zjM n (s.a.w ||| s.a.c) 0
 have k3 := zjM n s.a.w s.a.c
 rw [zn9] at k2
 rw [zfL, e1, hn]
 simp only [List.length_nil] at k2
 omega
theorem zyJ {n : Nat} {s : StoreT} {t : TickT} {d : DeskT} (h : TInv s t d) (hr : Room n s) (h42 : t.high <= 42) : Room n (zwP s) := by
 have := w_len h h42
 rw [hr.hn] at this
 exact ⟨hr.hn, hr.c, hr.e, this⟩
def desk0 : DeskT := ⟨[], [], []⟩
def qcG (b s g : Int) : TickT := ⟨b, s, g, 0, 0, 0⟩
theorem zz5 {n : Nat} (h2 : 2 <= n) (h : n <= 3072) {b s g : Int} (hk : zrM b s g) : TInv (zdM n 0) (qcG b s g) desk0 :=
 ⟨⟨hk, Int.le_refl _, by have := hk.2.2.1; show (0 : Int) <= s; omega, Int.le_refl _, Int.le_refl _⟩, ziU, zrD h2 h, zzS n 0, rfl, rfl, rfl, fun i hi => absurd hi (Nat.not_lt_zero _), List.nodup_nil, fun a ha => (by cases ha), fun i hi => absurd hi (Nat.not_lt_zero _), fun i hi => absurd hi (Nat.not_lt_zero _), fun i hi hn => absurd rfl hn, fun i j hi hj hn => absurd rfl hn⟩

structure Desk (n : Nat) (s : StoreT) (t : TickT) (d : DeskT) : Prop where
 inv : TInv s t d
 room : Room n s
theorem Desk.free {n : Nat} {s : StoreT} {t : TickT} {d : DeskT} (h : Desk n s t d) (hn : 25 <= n) (h42 : t.slots <= 42) : 3 <= zfL s.a := by
 have := zyK h.inv h.room (by have := h.inv.ok.2.2.1; omega)
 omega
theorem Desk.mark {n : Nat} {s : StoreT} {t : TickT} {d : DeskT} (h : Desk n s t d) (h42 : t.slots <= 42) : Desk n (zwP s) t d :=
 ⟨zrI h.inv, zyJ h.inv h.room (by have := h.inv.ok.2.2.1; omega)⟩

theorem qcM {w : List Nat} {z : AllocT} {p : StoreT->Prop} : (∃ a : StoreT, w = a.ws/\z = a.a/\p a) ↔ p ⟨w, z⟩ :=
 ⟨fun ⟨a, h1, h2, k⟩ => by subst h1; subst h2; exact k, fun k => ⟨_, rfl, rfl, k⟩⟩
theorem zxX {s : StoreT} : (⟨s.ws, s.a⟩ : StoreT) = s := rfl
theorem Desk.W {n : Nat} {s : StoreT} {t : TickT} {d : DeskT} (h : Desk n s t d) : zaE s := h.inv.good.W
structure Act21 where
 kind : Int
 block : Int
 h : HandT
 live : Bool
end Yard
