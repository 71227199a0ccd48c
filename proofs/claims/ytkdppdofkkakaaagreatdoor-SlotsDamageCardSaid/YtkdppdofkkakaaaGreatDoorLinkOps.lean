import Derived.Test.YtkdppdofkkakaaaGreatDoorTreeList

namespace Yard
open Go Go.Sx Go.Proofs
set_option linter.unusedVariables false
set_option linter.unusedSimpArgs false
set_option maxRecDepth 4000
set_option maxHeartbeats 4000000

structure Env (s s' : StoreT) : Prop where
 n : s'.a.n = s.a.n
 m : s'.a.m = s.a.m
 c : s'.a.c = s.a.c
 e : s'.a.e = s.a.e
 lns : linesN s'.ws = linesN s.ws
 marks : ∀ c, InS s.a.n s.a.m c->zaY s'.ws c = zaY s.ws c
 w01 : ∀ c, c < 2->InS s.a.n s.a.w c->InS s.a.n s'.a.w c
theorem Env.refl (s : StoreT) : Env s s := ⟨rfl, rfl, rfl, rfl, rfl, fun _ _ => rfl, fun _ _ h => h⟩
theorem Env.trans {s s' s'' : StoreT} (h : Env s s') (k : Env s' s'') : Env s s'' :=
 ⟨k.n.trans h.n, k.m.trans h.m, k.c.trans h.c, k.e.trans h.e, k.lns.trans h.lns, fun c hc => by rw [k.marks c (by rw [h.n, h.m]; exact hc), h.marks c hc], fun c h2 hc => by have := k.w01 c h2 (by rw [h.n]; exact h.w01 c h2 hc); rw [h.n] at this; exact this⟩
theorem Step.env {s : StoreT} {a : Int} {b : List Nat} {r : Wr} (S : Step s a b r) (ha : a = 0\/2 <= a) : Env s r.s := ⟨S.n, S.m, S.c, S.e', S.lns, fun _ hc => zvX S hc, fun c h2 hc => (S.w c).2 (.inr ⟨hc, fun q => by omega⟩)⟩
theorem PutX.env {X : Int->Prop} {s : StoreT} {top slot : Int} {x : SeatT} {r : Wr} (S : PutX X s top slot x r) : Env s r.s := ⟨S.n, S.m, S.c, S.e', S.lns, S.marks, S.w01⟩

structure NInv (s : StoreT) (t : TickT) (d : DeskT) (xs : List Int) : Prop where
 inv : TInvX (fun c => c ∈ xs) s t d
 nd : xs.Nodup
 node : ∀ c ∈ xs, zqW s.ws c = 0/\liveD d (entH (zeF s.ws c).e)/\bAt d (zeF s.ws c).e.slot.toNat = c
 live : ∀ i, i < d.gens.length->bAt d i ≠ 0->bAt d i ∈ xs/\(zeF s.ws (bAt d i)).e.slot = (i : Int)
theorem NInv.W {s : StoreT} {t : TickT} {d : DeskT} {xs : List Int} (h : NInv s t d xs) : zaE s := h.inv.good.W
theorem TInvX.congr {X X' : Int->Prop} {s : StoreT} {t : TickT} {d : DeskT} (h : TInvX X s t d) (e : ∀ c, X c ↔ X' c) : TInvX X' s t d := by
 have : X = X' := funext fun c => propext (e c)
 rw [<- this]; exact h
theorem NInv.range {s : StoreT} {t : TickT} {d : DeskT} {xs : List Int} (h : NInv s t d xs) {c : Int} (hc : c ∈ xs) : 2 <= c/\c < (s.a.n : Int)/\c < 3072 := by
 have k := h.inv.tree.sh.xw c hc
 have k2 := inS_iff.1 k.2
 have := h.W.2.1
 omega
theorem NInv.len {s : StoreT} {t : TickT} {d : DeskT} {xs : List Int} (h : NInv s t d xs) : xs.length <= d.gens.length := by
 have := zq8 (l := xs) (m := d.blocks) h.nd fun c hc => by
  obtain ⟨_, hl, hb⟩ := h.node c hc
  have hlb := h.inv.lenb
  have hlt : (zeF s.ws c).e.slot.toNat < d.blocks.length := by have := hl.1; have := hl.2.1; simp only at *; omega
  rw [<- hb, bAt, List.getD_eq_getElem?_getD, List.getElem?_eq_getElem hlt]; exact List.getElem_mem _
 have := h.inv.lenb
 omega
structure RoomK (n K : Nat) (s : StoreT) : Prop where
 hn : s.a.n = n
 c : (za8 n s.a.c).length <= 2
 e : s.a.e = 0
 m : (za8 n s.a.m).length <= K
theorem RoomK.env {n K : Nat} {s s' : StoreT} (h : RoomK n K s) (e : Env s s') : RoomK n K s' :=
 ⟨e.n.trans h.hn, by rw [e.c]; exact h.c, e.e.trans h.e, by rw [e.m]; exact h.m⟩
theorem RoomK.le {n K K' : Nat} {s : StoreT} (h : RoomK n K s) (hk : K <= K') : RoomK n K' s := ⟨h.hn, h.c, h.e, Nat.le_trans h.m hk⟩
theorem NInv.mark {s : StoreT} {t : TickT} {d : DeskT} {xs : List Int} (h : NInv s t d xs) : NInv (zwP s) t d xs :=
 ⟨zrI h.inv, h.nd, h.node, h.live⟩
theorem zzM {n : Nat} (h2 : 2 <= n) (h : n <= 3072) {b sl g : Int} (hk : zrM b sl g) : NInv (zdM n 0) (qcG b sl g) desk0 [] :=
 ⟨(zz5 h2 h hk).congr fun c => by simp [noX], List.nodup_nil, fun c hc => (by cases hc), fun i hi => absurd hi (Nat.not_lt_zero _)⟩


def SameGeo (t t' : TickT) : Prop := t'.slots = t.slots/\t'.gens = t.gens/\t'.blocks = t.blocks
theorem SameGeo.refl (t : TickT) : SameGeo t t := ⟨rfl, rfl, rfl⟩
theorem SameGeo.trans {t t' t'' : TickT} (h : SameGeo t t') (k : SameGeo t' t'') : SameGeo t t'' := ⟨k.1.trans h.1, k.2.1.trans h.2.1, k.2.2.trans h.2.2⟩

structure Made (s : StoreT) (t : TickT) (d : DeskT) (xs : List Int) (h : HandT) (k v : Int) (r : MR) : Prop where
 e : r.e = 0
 hand : r.h = h
 inv : NInv r.s r.t (deskIss d r.a) (r.a :: xs)
 env : Env s r.s
 new : r.a ∉ xs
 node : zeF r.s.ws r.a = mkN h k v
 oth : ∀ c ∈ xs, zeF r.s.ws c = zeF s.ws c
 geo : SameGeo t r.t
 at2 : 2 <= r.a
structure Turned (s : StoreT) (t : TickT) (d : DeskT) (xs : List Int) (a : Int) (n : NodeT) (d' : DeskT) (r : TR) : Prop where
 e : r.e = 0
 inv : NInv r.s r.t d' (r.a :: xs.erase a)
 env : Env s r.s
 new : r.a = a\/r.a ∉ xs
 node : zeF r.s.ws r.a = n
 oth : ∀ c ∈ xs, c ≠ a->zeF r.s.ws c = zeF s.ws c
 geo : SameGeo t r.t
 gens : d'.gens = d.gens
 free : d'.free = d.free
 blk : ∀ i, bAt d' i = if i = n.e.slot.toNat then r.a else bAt d i
 mkd : InS s.a.n s.a.m a->r.a ≠ a
 nmk : ¬ InS s.a.n s.a.m a->r.a = a
 at2 : 2 <= r.a/\r.a < 3072

end Yard
