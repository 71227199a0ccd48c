import Derived.Test.YtlihikockhjodaaGreatDoorStand
import Derived.Test.YtlihikockhjodaaGreatDoorLinkOps
import Derived.Test.YtlihikockhjodaaGreatDoorRefList

namespace Yard
open Go Go.Sx Go.Proofs
set_option linter.unusedVariables false
set_option linter.unusedSimpArgs false
set_option maxRecDepth 4000
set_option maxHeartbeats 4000000

theorem zmO : ∀ (k : Nat) (ws : List Nat), (zaF ws).drop (8 * k) = zaF (ws.drop k)
 | 0, ws => by simp
 | k + 1, [] => by simp [zaF]
 | k + 1, w :: r => by
   have e : zaF (w :: r) = layN w 8 ++ zaF r := by simp [zaF]
   have e2 : (layN w 8 ++ zaF r).drop 8 = zaF r := List.drop_left' (zaD 8 w)
   rw [e, show 8 * (k + 1) = 8 + 8 * k by omega, <- List.drop_drop, e2, zmO k r]
   rfl
theorem zmN : ∀ (k : Nat) (ws : List Nat), (zaF ws).take (8 * k) = zaF (ws.take k)
 | 0, ws => by simp [zaF]
 | k + 1, [] => by simp [zaF]
 | k + 1, w :: r => by
   have e : zaF (w :: r) = layN w 8 ++ zaF r := by simp [zaF]
   have e2 : zaF ((w :: r).take (k + 1)) = layN w 8 ++ zaF (r.take k) := by simp [zaF]
   rw [e, e2, List.take_append, zaD, List.take_of_length_le (by rw [zaD]; omega), show 8 * (k + 1) - 8 = 8 * k by omega, zmN k r]
theorem qlR {ws : List Nat} {a : Int} : qf7 (zaF ws) a ↔ zc5 ws a := by
 unfold qf7 zc5 linesN
 rw [zbJ, show 8 * ws.length / 64 = ws.length / 8 by omega]
theorem zkY (ws : List Nat) (a : Int) : imgL (zaF ws) a = zaO ws a := by
 unfold imgL zaO
 by_cases h : zc5 ws a
 ·rw [if_pos (qlR.2 h), if_pos h, show 64 * a.toNat = 8 * (8 * a.toNat) by omega, zmO, show (64 : Nat) = 8 * 8 from rfl, zmN]; rfl
 ·rw [if_neg (fun k => h (qlR.1 k)), if_neg h]
theorem zxN {ws : List Nat} {a : Int} (h : zaT ws a ≠ 0) : zaO ws a = [] := by
 rw [zaO, if_neg (fun k => h (zbV.2 k))]
theorem zsG (ws : List Nat) (a : Int) (i : Nat) : zgS (zaF ws) a i = fanF ws a i := by unfold zgS fanF; rw [zkY]
theorem zzQ (ws : List Nat) (a : Int) : zfV (zaF ws) a ↔ fanErr ws a = 0 := by
 unfold zfV fanErr
 rw [zkY]
 by_cases h : a = 0
 ·simp [h]
 ·by_cases h2 : zaT ws a = 0
  ·by_cases h3 : zjB (zaO ws a) <;> simp [h, h2, h3]
  ·have := zxN h2
   rw [this]; simp [h, h2, not_fan]
theorem qf5 (ws : List Nat) (a : Int) (i : Nat) : zsH (zaF ws) a i = zcK ws a i := by unfold zsH zcK; rw [zkY]
theorem qf4 (ws : List Nat) (a : Int) : ziY (zaF ws) a ↔ za6 ws a = 0 := by
 unfold ziY za6
 rw [zkY]
 by_cases h : a = 0
 ·simp [h]
 ·by_cases h2 : zaT ws a = 0
  ·by_cases h3 : zeE (zaO ws a) <;> simp [h, h2, h3]
  ·have := zxN h2
   rw [this]; simp [h, h2, qj0]
theorem img_F (ws : List Nat) (top : Int) (i j : Nat) : imgF (zaF ws) top i j = tF ws top i j := by unfold imgF tF; rw [zsG, zsG]
theorem qf6 (ws : List Nat) (top : Int) (s : Nat) : zgR (zaF ws) top s ↔ fanErr ws top = 0/\fanErr ws (fanF ws top (s / 112)) = 0/\za6 ws (tF ws top (s / 112) (s / 7 % 16)) = 0 := by
 unfold zgR; rw [zzQ, zsG, zzQ, img_F, qf4]

def ndN (ws : List Nat) (c : Int) : Option NodeT := if readE ws c = 0 then some (readT ws c) else none
theorem qkA (ws : List Nat) (c : Int) : imgN (zaF ws) c = ndN ws c := by
 unfold imgN ndN
 rw [zkY]
 by_cases h : zaT ws c = 0
 ·by_cases h2 : zeK (zaO ws c)
  ·have e := zdI.2 ⟨h, h2⟩
   rw [if_pos h2, if_pos e, readT, if_pos e]
  ·rw [if_neg h2, if_neg fun k => h2 (zdI.1 k).2]
 ·rw [zxN h, if_neg qjZ, if_neg fun k => h (zdI.1 k).1]
theorem qf3 (ws : List Nat) : imgN (zaF ws) = ndN ws := funext (qkA ws)

theorem zz2 {X : Int->Prop} {s : StoreT} {t : TickT} {d : DeskT} (h : TInvX X s t d) {i : Nat} (hi : i < d.gens.length) : zgR (zaF s.ws) t.top i/\zsI (zaF s.ws) t.top i = ze7 d i := by
 have hp := h.place hi
 obtain ⟨p0, p1, p2⟩ := ziQ hp
 have e0 : placeK (i : Int) 0 = i / 7 / 16 := by simp [placeK, hp]
 have e1 : placeK (i : Int) 1 = i / 7 % 16 := by simp [placeK, hp]
 have e2 : placeK (i : Int) 2 = i % 7 := by simp [placeK, hp]
 have e3 : i / 112 = i / 7 / 16 := by omega
 have hs := h.seats i hi
 have q1 := h.tree.et
 have q2 := h.tree.ek (placeK (i : Int) 0) p0
 have q3 := h.tree.ef (placeK (i : Int) 0) (placeK (i : Int) 1) p0 p1
 rw [e0] at q2
 rw [e0, e1] at q3
 rw [e0, e1, e2] at hs
 have hP : zgR (zaF s.ws) t.top i := by rw [qf6, e3]; exact ⟨q1, q2, q3⟩
 refine ⟨hP, ?_⟩
 rw [zsI, if_pos ⟨hP.1, hP.2.1⟩, img_F, qf5, e3]
 exact hs

theorem qj3 {s : StoreT} {t : TickT} {d : DeskT} {xs : List Int} (h : NInv s t d xs) {es : List EntT} {bs : List Int} (hp : bs.Perm xs) (he : es = bs.map fun c => (readT s.ws c).e) : zuW s t es bs := by
 have hl : es.length = bs.length := by rw [he, List.length_map]
 have hh := h.inv.high
 have hhn : t.high.toNat = d.gens.length := by omega
 refine ⟨hl, fun i hi => ?_, fun i hi => (zz2 h.inv (by omega)).1, ?_⟩
 ·have hib : i < bs.length := by omega
  have hm : bs.getD i 0 ∈ xs := hp.mem_iff.1 (by rw [List.getD_eq_getElem?_getD, List.getElem?_eq_getElem hib]; exact List.getElem_mem hib)
  have ee : es.getD i entZ = (readT s.ws (bs.getD i 0)).e := by
   rw [he, List.getD_eq_getElem?_getD, List.getElem?_map, List.getD_eq_getElem?_getD, List.getElem?_eq_getElem hib]; rfl
  obtain ⟨_, hl, hb⟩ := h.node _ hm
  rw [ee]
  obtain ⟨q1, q2⟩ := zkJ h.inv hl
  exact ⟨q1, by rw [q2]; exact hb⟩
 ·rw [hhn, hl, hp.length_eq, qlO]
  have e1 : ((List.range d.gens.length).filter fun i => (zsI (zaF s.ws) t.top i).live) = (List.range d.gens.length).filter fun i => decide (bAt d i ≠ 0) := by
   refine List.filter_congr fun i hi => ?_
   rw [List.mem_range] at hi
   rw [(zz2 h.inv hi).2, ze7]
   by_cases hz : bAt d i = 0
   ·rw [if_pos hz]; simp [hz]
   ·rw [if_neg hz]; simp [hz]
  rw [e1]
  have hperm : (((List.range d.gens.length).filter fun i => decide (bAt d i ≠ 0)).map (bAt d)).Perm xs := by
   refine (List.perm_ext_iff_of_nodup ?_ h.nd).2 fun c => ?_
   ·rw [List.Nodup, List.pairwise_map]
    refine List.Pairwise.imp_of_mem (R := (· ≠ ·)) (fun {i j} hi hj hij e => ?_) (List.Pairwise.filter _ List.nodup_range)
    rw [List.mem_filter, List.mem_range, decide_eq_true_eq] at hi hj
    have k1 := (h.live i hi.1 hi.2).2
    have k2 := (h.live j hj.1 hj.2).2
    rw [e, k2] at k1
    exact hij (by omega)
   ·rw [List.mem_map]
    refine ⟨fun ⟨i, hi, e⟩ => ?_, fun hc => ?_⟩
    ·rw [List.mem_filter, List.mem_range, decide_eq_true_eq] at hi
     rw [<- e]; exact (h.live i hi.1 hi.2).1
    ·obtain ⟨_, hl, hb⟩ := h.node c hc
     have hr := (h.range hc).1
     refine ⟨(readT s.ws c).e.slot.toNat, ?_, hb⟩
     rw [List.mem_filter, List.mem_range, decide_eq_true_eq]
     have := hl.1
     have := hl.2.1
     simp only at *
     exact ⟨by omega, by rw [hb]; omega⟩
  have := hperm.length_eq
  rw [List.length_map] at this
  exact this


theorem zgC {T : Nat->Int->Option EB} {e : EntT} {a : Int} {l : List Int} {k : Nat} {p : EB} (h : zdT T e a l (k + 1) = some p) :
  ∃ p0 q, zdT T e a l k = some p0/\T k (l.getD k 0) = some q/\ahead e (q.1.getD 0 entZ)/\p = (p0.1 ++ q.1, p0.2 ++ q.2) := by
 rw [zdT] at h
 cases hk : zdT T e a l k with
 | none => rw [hk] at h; cases h
 | some p0 =>
   rw [hk] at h
   simp only at h
   cases hT : T k (l.getD k 0) with
   | none => rw [hT] at h; cases h
   | some q =>
     rw [hT] at h
     simp only at h
     split at h
     ·cases h; exact ⟨p0, q, rfl, rfl, by assumption, rfl⟩
     ·cases h
theorem zu0 {T : Nat->Int->Option EB} {e : EntT} {a : Int} {l : List Int} : ∀ {k : Nat} {p : EB}, zdT T e a l k = some p->∀ i, i < k->∃ q, T i (l.getD i 0) = some q/\(∀ c ∈ q.2, c ∈ p.2)/\(∀ c ∈ q.1, c ∈ p.1)/\ahead e (q.1.getD 0 entZ)
 | 0, p, _, i, hi => absurd hi (Nat.not_lt_zero _)
 | k + 1, p, h, i, hi => by
   obtain ⟨p0, q, h1, h2, h3, h4⟩ := zgC h
   by_cases e : i = k
   ·subst e; exact ⟨q, h2, fun c hc => by rw [h4]; exact List.mem_append.2 (.inr hc), fun c hc => by rw [h4]; exact List.mem_append.2 (.inr hc), h3⟩
   ·obtain ⟨q', g1, g2, g2', g3⟩ := zu0 h1 i (by omega)
    exact ⟨q', g1, fun c hc => by rw [h4]; exact List.mem_append.2 (.inl (g2 c hc)), fun c hc => by rw [h4]; exact List.mem_append.2 (.inl (g2' c hc)), g3⟩
theorem zqX {T T' : Nat->Int->Option EB} {e : EntT} {a : Int} {l : List Int} : ∀ {k : Nat} {p : EB}, zdT T e a l k = some p->(∀ i, i < k->∀ q, T i (l.getD i 0) = some q->T' i (l.getD i 0) = some q)->zdT T' e a l k = some p
 | 0, p, h, _ => h
 | k + 1, p, h, hT => by
   obtain ⟨p0, q, h1, h2, h3, h4⟩ := zgC h
   rw [zdT, zqX h1 fun i hi => hT i (by omega)]
   simp only
   rw [hT k (by omega) q h2]
   simp only
   rw [if_pos h3, h4]

theorem ze2 {N N' : Int->Option NodeT} : ∀ (k : Nat) (a : Int) (p : EB), zdC N k a = some p->(∀ c ∈ p.2, N' c = N c)->zdC N' k a = some p := fun k => by
 induction k using Nat.strongRecOn with
 | ind k ih =>
   intro a p h hN
   obtain ⟨n, h1, h2, h3⟩ := zdY h
   obtain ⟨_, r, hr⟩ := zeW h3
   rw [zm1, hN a (by rw [hr]; exact List.mem_cons_self ..), h1]
   simp only
   rw [if_pos h2]
   refine zqX h3 fun i hi q hq => ih i hi _ q hq fun c hc => hN c ?_
   obtain ⟨q', g1, g2, _⟩ := zu0 h3 i hi
   rw [hq] at g1
   cases g1
   exact g2 c hc
theorem zb2 {N : Int->Option NodeT} {k : Nat} {a : Int} {p : EB} (h : zdC N k a = some p) : ∃ n r q, N a = some n/\n.kids.length = k/\p.1 = n.e :: r/\p.2 = a :: q := by
 obtain ⟨n, h1, h2, h3⟩ := zdY h
 obtain ⟨⟨r, hr⟩, q, hq⟩ := zeW h3
 exact ⟨n, r, q, h1, h2, hr, hq⟩

theorem qc5 {N : Int->Option NodeT} : ∀ (k : Nat) (a : Int) (p : EB), zdC N k a = some p->∀ f : Int->EntT, (∀ c ∈ p.2, ∀ n, N c = some n->f c = n.e)->p.1 = p.2.map f/\∀ c ∈ p.2, ∃ n, N c = some n := fun k => by
 induction k using Nat.strongRecOn with
 | ind k ih =>
   intro a p h f hf
   obtain ⟨n, h1, h2, h3⟩ := zdY h
   have key : ∀ (j : Nat) (p' : EB), j <= k->zdT (zdC N) n.e a n.kids j = some p'->(∀ c ∈ p'.2, c ∈ p.2)->p'.1 = p'.2.map f/\∀ c ∈ p'.2, ∃ n, N c = some n := fun j => by
    induction j with
    | zero =>
      intro p' _ hk hs
      cases hk
      refine ⟨by simp only [List.map_cons, List.map_nil]; rw [hf a (hs a (List.mem_cons_self ..)) n h1], fun c hc => ?_⟩
      rw [List.mem_singleton] at hc; rw [hc]; exact ⟨n, h1⟩
    | succ j jh =>
      intro p' hj hk hs
      obtain ⟨p0, q, g1, g2, g3, g4⟩ := zgC hk
      subst g4
      have b1 := jh p0 (by omega) g1 fun c hc => hs c (List.mem_append.2 (.inl hc))
      have b2 := ih j (by omega) _ q g2 f fun c hc => hf c (hs c (List.mem_append.2 (.inr hc)))
      refine ⟨by simp only [List.map_append]; rw [b1.1, b2.1], fun c hc => ?_⟩
      rcases List.mem_append.1 hc with k | k
      ·exact b1.2 c k
      ·exact b2.2 c k
   exact key k p (Nat.le_refl _) h3 fun _ hc => hc

theorem zp8 {N : Int->Option NodeT} : ∀ (k : Nat) (a : Int) (p : EB), zdC N k a = some p->∀ x ∈ p.1, x = p.1.getD 0 entZ\/ahead (p.1.getD 0 entZ) x := fun k => by
 induction k using Nat.strongRecOn with
 | ind k ih =>
   intro a p h
   obtain ⟨n, h1, h2, h3⟩ := zdY h
   obtain ⟨⟨r, hr⟩, _⟩ := zeW h3
   have e0 : p.1.getD 0 entZ = n.e := by rw [hr]; rfl
   rw [e0]
   have key : ∀ (j : Nat) (p' : EB), j <= k->zdT (zdC N) n.e a n.kids j = some p'->∀ x ∈ p'.1, x = n.e\/ahead n.e x := fun j => by
    induction j with
    | zero => intro p' _ hk x hx; cases hk; rw [List.mem_singleton] at hx; exact .inl hx
    | succ j jh =>
      intro p' hj hk x hx
      obtain ⟨p0, q, g1, g2, g3, g4⟩ := zgC hk
      subst g4
      rcases List.mem_append.1 hx with m | m
      ·exact jh p0 (by omega) g1 x m
      ·rcases ih j (by omega) _ q g2 x m with e | e
       ·rw [e]; exact .inr g3
       ·exact .inr (zgZ g3 e)
   exact key k p (Nat.le_refl _) h3
theorem ztP {N : Int->Option NodeT} {a : Int} {n : NodeT} (h : N a = some n) (hk : n.kids = []) : zdC N 0 a = some ([n.e], [a]) := by
 rw [zm1, h]; simp only; rw [if_pos (by rw [hk]; rfl)]; rfl

theorem qaH {N N' : Int->Option NodeT} {k : Nat} {a b now : Int} {p q : EB} {n : NodeT} (ha : zdC N k a = some p) (hb : zdC N k b = some q) (hn : N a = some n) (hN : N' now = some ⟨n.e, n.kids ++ [b]⟩)
  (hp : ∀ c ∈ p.2, c ≠ a->N' c = N c) (hq : ∀ c ∈ q.2, N' c = N c) (hnd : p.2.Nodup) (hah : ahead n.e (q.1.getD 0 entZ)) :
  zdC N' (k + 1) now = some (p.1 ++ q.1, now :: p.2.tail ++ q.2) := by
 obtain ⟨n', h1, h2, h3⟩ := zdY ha
 rw [hn] at h1; cases h1
 have hlen : (n.kids ++ [b]).length = k + 1 := by simp [h2]
 obtain ⟨_, r, hr⟩ := zeW h3
 rw [zm1, hN]
 simp only
 rw [if_pos hlen]
 have hga : ∀ i, i < k->(n.kids ++ [b]).getD i 0 = n.kids.getD i 0 := fun i hi => by rw [zaG, if_pos (by omega)]
 have hgb : (n.kids ++ [b]).getD k 0 = b := by rw [zaG, if_neg (by omega), h2, Nat.sub_self]; rfl
 have key : ∀ (j : Nat) (p' : EB), j <= k->zdT (zdC N) n.e a n.kids j = some p'->(∃ r', p'.2 = a :: r'/\∀ c ∈ r', c ∈ r)->zdT (zdC N') n.e now (n.kids ++ [b]) j = some (p'.1, now :: p'.2.tail) := fun j => by
  induction j with
  | zero => intro p' _ hk _; cases hk; rfl
  | succ j jh =>
    intro p' hj hk hs
    obtain ⟨p0, q0, g1, g2, g3, g4⟩ := zgC hk
    subst g4
    obtain ⟨_, r0, hr0⟩ := zeW g1
    obtain ⟨r', hr', hsub⟩ := hs
    simp only [hr0, List.cons_append, List.cons.injEq, true_and] at hr'
    have j1 := jh p0 (by omega) g1 ⟨r0, hr0, fun c hc => hsub c (by rw [<- hr']; exact List.mem_append.2 (.inl hc))⟩
    have j2 : zdC N' j ((n.kids ++ [b]).getD j 0) = some q0 := by
     rw [hga j (by omega)]
     refine ze2 j _ q0 g2 fun c hc => ?_
     have hcr : c ∈ r := hsub c (by rw [<- hr']; exact List.mem_append.2 (.inr hc))
     refine hp c (by rw [hr]; exact List.mem_cons_of_mem _ hcr) fun e => ?_
     rw [hr, List.nodup_cons] at hnd
     exact hnd.1 (e ▸ hcr)
    rw [zdT, j1]
    simp only
    rw [j2]
    simp only
    rw [if_pos g3, hr0]
    rfl
 have kk := key k p (Nat.le_refl _) h3 ⟨r, hr, fun _ hc => hc⟩
 have kb : zdC N' k ((n.kids ++ [b]).getD k 0) = some q := by rw [hgb]; exact ze2 k b q hb hq
 rw [zdT, kk]
 simp only
 rw [kb]
 simp only
 rw [if_pos hah]

def HNodup (l : List EntT) : Prop := l.Pairwise fun a b => entH a ≠ entH b
theorem HNodup.perm {l m : List EntT} (h : HNodup l) (p : l.Perm m) : HNodup m := (p.pairwise_iff (fun {a b} h e => h e.symm)).1 h

theorem zxM (ws : List Nat) : ∀ (n : Nat) (out : List EntT) (todo : List Int), (∀ x ∈ out, EntI x)->(∀ x ∈ (zuS ws n out todo).1, EntI x)/\(zuS ws n out todo).1.length <= out.length + n
 | 0, out, [], h => ⟨h, Nat.le_refl _⟩
 | n + 1, out, [], h => ⟨h, by simp only [zuS]; omega⟩
 | 0, out, a :: r, h => ⟨fun x hx => (by cases hx), Nat.zero_le _⟩
 | n + 1, out, a :: r, h => by
   rw [zuS]
   by_cases hz : readE ws a = 0
   ·rw [if_pos hz]
    have := zxM ws n (out ++ [(readT ws a).e]) ((readT ws a).kids ++ r) fun x hx => by
     rcases List.mem_append.1 hx with k | k
     ·exact h x k
     ·rw [List.mem_singleton.1 k]; exact (zjR ws a).1
    exact ⟨this.1, by have := this.2; simp only [List.length_append, List.length_cons, List.length_nil] at this; omega⟩
   ·rw [if_neg hz]; exact ⟨fun x hx => (by cases hx), Nat.zero_le _⟩
theorem listE_I (ws : List Nat) (a : Int) : EntsI (zcF ws a).1 := by
 have := zxM ws 1792 [] [a] (fun x hx => (by cases hx))
 exact ⟨this.1, by have := this.2; simp only [List.length_nil] at this; unfold zcF; omega⟩
end Yard
