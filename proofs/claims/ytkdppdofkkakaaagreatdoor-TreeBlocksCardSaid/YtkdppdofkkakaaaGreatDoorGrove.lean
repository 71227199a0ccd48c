import Derived.Test.YtkdppdofkkakaaaGreatDoorTlMath
import Derived.Test.YtkdppdofkkakaaaGreatDoorTwMath
import Derived.Test.YtkdppdofkkakaaaGreatDoorPagesMath
import Derived.Test.YtkdppdofkkakaaaGreatDoorPagesImg

namespace Yard
open Go Go.Sx Go.Proofs
set_option linter.unusedVariables false
set_option linter.unusedSimpArgs false
set_option maxRecDepth 4000
set_option maxHeartbeats 4000000

abbrev GT : Type := Nat × Int × EB
def gB (G : List GT) : List Int := G.flatMap fun g => g.2.2.2
def gE (G : List GT) : List EntT := G.flatMap fun g => g.2.2.1
theorem zj8 (g : GT) (G : List GT) : gB (g :: G) = g.2.2.2 ++ gB G := by simp [gB]
theorem zp0 (g : GT) (G : List GT) : gE (g :: G) = g.2.2.1 ++ gE G := by simp [gE]
theorem qiP (G K : List GT) : gE (G ++ K) = gE G ++ gE K := by simp [gE]
theorem qiQ {G K : List GT} (h : G.Perm K) : (gB G).Perm (gB K) := h.flatMap_right _
theorem qiO {G K : List GT} (h : G.Perm K) : (gE G).Perm (gE K) := h.flatMap_right _
theorem zw1 {G : List GT} {g : GT} (h : g ∈ G) {c : Int} (hc : c ∈ g.2.2.2) : c ∈ gB G := List.mem_flatMap.2 ⟨g, h, hc⟩
structure Grove (s : StoreT) (t : TickT) (d : DeskT) (G : List GT) : Prop where
 inv : NInv s t d (gB G)
 tr : ∀ g ∈ G, zbW (ndN s.ws) g.1 g.2.1 = some g.2.2
theorem Grove.perm {s : StoreT} {t : TickT} {d : DeskT} {G K : List GT} (h : Grove s t d G) (p : G.Perm K) : Grove s t d K :=
 ⟨h.inv.perm (qiQ p), fun g hg => h.tr g (p.mem_iff.2 hg)⟩
theorem Grove.mark {s : StoreT} {t : TickT} {d : DeskT} {G : List GT} (h : Grove s t d G) : Grove (znM s) t d G := ⟨h.inv.mark, h.tr⟩
theorem NInv.nd' {s : StoreT} {t : TickT} {d : DeskT} {xs : List Int} (h : NInv s t d xs) {c : Int} (hc : c ∈ xs) : ndN s.ws c = some (zaI s.ws c) := by
 rw [ndN, if_pos (h.node c hc).1]
theorem qhF {s s' : StoreT} {t t' : TickT} {d d' : DeskT} {xs ys : List Int} (h : NInv s t d xs) (k : NInv s' t' d' ys) {c : Int} (hc : c ∈ xs) (hc' : c ∈ ys) (e : zaI s'.ws c = zaI s.ws c) : ndN s'.ws c = ndN s.ws c := by
 rw [h.nd' hc, k.nd' hc', e]
theorem Grove.ents {s : StoreT} {t : TickT} {d : DeskT} {G : List GT} (h : Grove s t d G) : gE G = (gB G).map fun c => (zaI s.ws c).e := by
 have key : ∀ K : List GT, (∀ g ∈ K, g ∈ G)->gE K = (gB K).map fun c => (zaI s.ws c).e := fun K => by
  induction K with
  | nil => intro _; rfl
  | cons g K ih =>
    intro hs
    rw [zp0, zj8, List.map_append, ih fun k hk => hs k (List.mem_cons_of_mem _ hk)]
    congr 1
    have hg := hs g (List.mem_cons_self ..)
    exact (qe2 _ _ _ (h.tr g hg) (fun c => (zaI s.ws c).e) fun c hc n hn => by
     rw [h.inv.nd' (zw1 hg hc)] at hn; cases hn; rfl).1
 exact key G fun _ hg => hg
theorem NInv.hnd {s : StoreT} {t : TickT} {d : DeskT} {xs : List Int} (h : NInv s t d xs) : HNodup (xs.map fun c => (zaI s.ws c).e) := by
 unfold HNodup
 rw [List.pairwise_map]
 exact h.nd.imp_of_mem fun ha hb hne => qiF h ha hb hne
theorem Grove.hnd {s : StoreT} {t : TickT} {d : DeskT} {G : List GT} (h : Grove s t d G) : HNodup (gE G) := by rw [h.ents]; exact h.inv.hnd

theorem qd3 {s : StoreT} {t : TickT} {d : DeskT} {G : List GT} (h : Grove s t d G) {r : MR} {hd : HandT} {k v : Int} (M : Made s t d (gB G) hd k v r) :
  Grove r.s r.t (zc9 d r.a) ((0, r.a, [⟨hd.slot, hd.gen, k, v⟩], [r.a]) :: G) := by
 have hi : NInv r.s r.t (zc9 d r.a) (gB ((0, r.a, [⟨hd.slot, hd.gen, k, v⟩], [r.a]) :: G)) := by rw [zj8]; exact M.inv
 refine ⟨hi, fun g hg => ?_⟩
 rcases List.mem_cons.1 hg with e | hg
 ·subst e
  have e2 := M.inv.nd' (List.mem_cons_self ..)
  rw [M.node] at e2
  exact zu0 e2 rfl
 ·refine zg0 _ _ _ (h.tr g hg) fun c hc => ?_
  have hc := zw1 hg hc
  exact qhF h.inv M.inv hc (List.mem_cons_of_mem _ hc) (M.oth c hc)

theorem zpX {s : StoreT} {t : TickT} {d d' : DeskT} {k : Nat} {a b : Int} {p q : EB} {R : List GT} {xs : List Int} {r : TR} (h : Grove s t d ((k, a, p) :: (k, b, q) :: R)) (hx : xs.Perm (gB ((k, a, p) :: (k, b, q) :: R)))
  (hah : ahead (zaI s.ws a).e (zaI s.ws b).e) (T : Turned s t d xs a ⟨(zaI s.ws a).e, (zaI s.ws a).kids ++ [b]⟩ d' r) :
  Grove r.s r.t d' ((k + 1, r.a, p.1 ++ q.1, r.a :: p.2.tail ++ q.2) :: R) := by
 have ta := h.tr _ (List.mem_cons_self ..)
 have tb := h.tr (k, b, q) (List.mem_cons_of_mem _ (List.mem_cons_self ..))
 simp only at ta tb
 obtain ⟨na, ra, qa, n1, n2, n3, n4⟩ := zd9 ta
 obtain ⟨nb, rb, qb, m1, m2, m3, m4⟩ := zd9 tb
 have hB : gB ((k, a, p) :: (k, b, q) :: R) = a :: (qa ++ (q.2 ++ gB R)) := by rw [zj8, zj8]; simp only; rw [n4]; rfl
 have ma : a ∈ gB ((k, a, p) :: (k, b, q) :: R) := by rw [hB]; exact List.mem_cons_self ..
 have mb : b ∈ gB ((k, a, p) :: (k, b, q) :: R) := by rw [hB, m4]; simp
 have ea := h.inv.nd' ma
 have eb := h.inv.nd' mb
 rw [n1] at ea
 rw [m1] at eb
 have ea := Option.some.inj ea
 have eb := Option.some.inj eb
 have hnd := h.inv.nd
 rw [hB] at hnd
 have her : (r.a :: xs.erase a).Perm (r.a :: (qa ++ (q.2 ++ gB R))) := by
  refine List.Perm.cons _ ?_
  have := hx.erase a
  rw [hB, List.erase_cons_head] at this
  exact this
 have hi : NInv r.s r.t d' (r.a :: (qa ++ (q.2 ++ gB R))) := T.inv.perm her
 have hi' : gB ((k + 1, r.a, p.1 ++ q.1, r.a :: p.2.tail ++ q.2) :: R) = r.a :: (qa ++ (q.2 ++ gB R)) := by rw [zj8]; simp only; rw [n4]; simp
 have hsame : ∀ c, c ∈ qa ++ (q.2 ++ gB R)->ndN r.s.ws c = ndN s.ws c := fun c hc => by
  have hc1 : c ∈ gB ((k, a, p) :: (k, b, q) :: R) := by rw [hB]; exact List.mem_cons_of_mem _ hc
  refine qhF h.inv hi hc1 (List.mem_cons_of_mem _ hc) (T.oth c (hx.mem_iff.2 hc1) fun e => ?_)
  rw [List.nodup_cons] at hnd
  exact hnd.1 (e ▸ hc)
 refine ⟨by rw [hi']; exact hi, fun g hg => ?_⟩
 rcases List.mem_cons.1 hg with e | hg
 ·subst e
  simp only
  have eN := hi.nd' (List.mem_cons_self ..)
  rw [T.node] at eN
  refine qcE (N := ndN s.ws) (n := na) ta tb n1 (by rw [eN, ea]) (fun c hc hne => hsame c ?_) (fun c hc => hsame c (by simp [hc])) ?_ ?_
  ·rw [n4] at hc
   rcases List.mem_cons.1 hc with z | z
   ·exact absurd z hne
   ·exact List.mem_append.2 (.inl z)
  ·rw [n4]
   exact (List.nodup_cons.2 ⟨fun z => (List.nodup_cons.1 hnd).1 (List.mem_append.2 (.inl z)), (List.nodup_append.1 (List.nodup_cons.1 hnd).2).1⟩)
  ·rw [m3]; show ahead na.e nb.e
   rw [ea, eb]; exact hah
 ·refine zg0 _ _ _ (h.tr g (List.mem_cons_of_mem _ (List.mem_cons_of_mem _ hg))) fun c hc => hsame c ?_
  have := zw1 hg hc
  simp [this]

structure Linked (s : StoreT) (t : TickT) (d : DeskT) (k : Nat) (p q : EB) (R : List GT) (d' : DeskT) (p' : EB) (r : TR) : Prop where
 e : r.e = 0
 gr : Grove r.s r.t d' ((k + 1, r.a, p') :: R)
 env : Env s r.s
 geo : SameGeo t r.t
 gens : d'.gens = d.gens
 free : d'.free = d.free
 es : p'.1.Perm (p.1 ++ q.1)
 at2 : 2 <= r.a/\r.a < 3072
theorem qd4 {s : StoreT} {t : TickT} {d : DeskT} {k : Nat} {a b : Int} {p q : EB} {R : List GT} (h : Grove s t d ((k, a, p) :: (k, b, q) :: R)) (hf : 4 <= freeN s.a) (h12 : k < 12) :
  ∃ d' p', Linked s t d k p q R d' p' (lkRes s t a b) := by
 have ta := h.tr _ (List.mem_cons_self ..)
 have tb := h.tr (k, b, q) (List.mem_cons_of_mem _ (List.mem_cons_self ..))
 simp only at ta tb
 obtain ⟨na, ra, qa, n1, n2, n3, n4⟩ := zd9 ta
 obtain ⟨nb, rb, qb, m1, m2, m3, m4⟩ := zd9 tb
 have hB : gB ((k, a, p) :: (k, b, q) :: R) = a :: (qa ++ (b :: (qb ++ gB R))) := by rw [zj8, zj8]; simp only; rw [n4, m4]; rfl
 have ma : a ∈ gB ((k, a, p) :: (k, b, q) :: R) := by rw [hB]; exact List.mem_cons_self ..
 have mb : b ∈ gB ((k, a, p) :: (k, b, q) :: R) := by rw [hB]; simp
 have hne : a ≠ b := fun e => by
  have := h.inv.nd
  rw [hB, List.nodup_cons] at this
  exact this.1 (by rw [e]; simp)
 have ea := h.inv.nd' ma
 have eb := h.inv.nd' mb
 rw [n1] at ea
 rw [m1] at eb
 have ea := Option.some.inj ea
 have eb := Option.some.inj eb
 obtain ⟨P, C, d', hpc, hah, T⟩ := qhP h.inv hf ma mb hne (by rw [<- ea, <- eb, n2, m2]) (by rw [<- ea, n2]; exact h12)
 refine ⟨d', ?_⟩
 rcases hpc with ⟨rfl, rfl⟩ | ⟨rfl, rfl⟩
 ·exact ⟨_, T.e, zpX h (List.Perm.refl _) hah T, T.env, T.geo, T.gens, T.free, List.Perm.refl _, T.at2⟩
 ·have sw : ((k, C, p) :: (k, P, q) :: R).Perm ((k, P, q) :: (k, C, p) :: R) := List.Perm.swap ..
  exact ⟨_, T.e, zpX (h.perm sw) (qiQ sw) hah T, T.env, T.geo, T.gens, T.free, List.perm_append_comm, T.at2⟩

theorem qdT {ws : List Nat} : ∀ (k : Nat) (a : Int) (p : EB), zbW (ndN ws) k a = some p->∀ (n : Nat) (out : List EntT) (r : List Int), znN ws (n + p.1.length) out (a :: r) = znN ws n (out ++ p.1) r := fun k => by
 induction k using Nat.strongRecOn with
 | ind k ih =>
   intro a p h n out r
   obtain ⟨nd, h1, h2, h3⟩ := zdV h
   have hz : zcC ws a = 0/\zaI ws a = nd := by
    unfold ndN at h1
    by_cases e : zcC ws a = 0
    ·rw [if_pos e] at h1; exact ⟨e, Option.some.inj h1⟩
    ·rw [if_neg e] at h1; cases h1
   have key : ∀ (j : Nat) (p' : EB), j <= k->zcI (zbW (ndN ws)) nd.e a nd.kids j = some p'->∃ q, p'.1 = nd.e :: q/\∀ (n : Nat) (r : List Int), znN ws (n + q.length) (out ++ [nd.e]) (nd.kids.take j ++ r) = znN ws n (out ++ p'.1) r := fun j => by
    induction j with
    | zero => intro p' _ hk; cases hk; exact ⟨[], rfl, fun n r => rfl⟩
    | succ j jh =>
      intro p' hj hk
      obtain ⟨p0, q, g1, g2, g3, g4⟩ := zgN hk
      subst g4
      obtain ⟨q0, e0, f0⟩ := jh p0 (by omega) g1
      refine ⟨q0 ++ q.1, by simp only; rw [e0]; rfl, fun n r => ?_⟩
      have hjl : j < nd.kids.length := by omega
      rw [zb9 0 hjl, List.append_assoc, List.length_append, show n + (q0.length + q.1.length) = (n + q.1.length) + q0.length by omega, f0]
      have := ih j (by omega) _ q g2 n (out ++ p0.1) r
      simp only [List.singleton_append]
      rw [this, List.append_assoc]
   obtain ⟨q, e0, f0⟩ := key k p (Nat.le_refl _) h3
   rw [e0, List.length_cons, show n + (q.length + 1) = (n + q.length) + 1 by omega, znN, if_pos hz.1, hz.2]
   have := f0 n r
   rw [<- h2, List.take_length] at this
   rw [this, e0]
theorem qdU {ws : List Nat} {k : Nat} {a : Int} {p : EB} (h : zbW (ndN ws) k a = some p) (hl : p.1.length <= 1792) : zcN ws a = (p.1, 0) := by
 have := qdT k a p h (1792 - p.1.length) [] []
 rw [show 1792 - p.1.length + p.1.length = 1792 by omega] at this
 rw [zcN, this, List.nil_append]
 cases 1792 - p.1.length <;> rfl

theorem qg6 {X : Int->Prop} {s : StoreT} {top : Int} (h : TreeX X s top) : zeQ (zaD s.ws) top/\zcJ (zaD s.ws) top = zeC s.ws top 16 := by
 have hok : zeQ (zaD s.ws) top := ⟨(znZ _ _).2 h.et, fun i hi => ⟨(znZ _ _).2 (by rw [zi8]; exact h.ek i hi), fun j hj => (zwR _ _).2 (by rw [img_F]; exact h.ef i j hi hj)⟩⟩
 exact ⟨hok, by rw [zcJ, if_pos hok, zv3]⟩
def W01 (s : StoreT) : Prop := InS s.a.n s.a.w 0/\InS s.a.n s.a.w 1
theorem W01.env {s s' : StoreT} (h : W01 s) (e : Env s s') : W01 s' := ⟨by rw [e.n]; exact e.w01 0 (by omega) h.1, by rw [e.n]; exact e.w01 1 (by omega) h.2⟩
theorem W01.mark {s : StoreT} (h : W01 s) : W01 (znM s) := h
theorem w01_made {n : Nat} (h : 2 <= n) : W01 (zcM n 0) := ⟨zi7.2 ⟨.inl rfl, show (0 : Int) < (n : Int) by omega⟩, zi7.2 ⟨.inr rfl, show (1 : Int) < (n : Int) by omega⟩⟩
theorem Grove.img {s : StoreT} {t : TickT} {d : DeskT} {G : List GT} (h : Grove s t d G) {g : GT} (hg : g ∈ G) : zbW (imgN (zaD s.ws)) g.1 g.2.1 = some g.2.2 := by
 rw [qh6]; exact h.tr g hg
theorem Grove.leads {s : StoreT} {t : TickT} {d : DeskT} {G : List GT} (h : Grove s t d G) : zgM s t (gE G) (gB G) := qmI h.inv (List.Perm.refl _) h.ents
theorem Grove.len {s : StoreT} {t : TickT} {d : DeskT} {G : List GT} (h : Grove s t d G) : (gE G).length = (gB G).length := by rw [h.ents, List.length_map]

end Yard
