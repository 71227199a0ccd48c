import Derived.Test.YtceockijgbkneaaDoorTicket

namespace Yard
open Go Go.Sx Go.Proofs
set_option linter.unusedVariables false
set_option linter.unusedSimpArgs false
set_option maxRecDepth 4000

structure DeskT where
  gens : List Int
  blocks : List Int
  free : List Nat
def gAt (d : DeskT) (i : Nat) : Int := d.gens.getD i 0
def bAt (d : DeskT) (i : Nat) : Int := d.blocks.getD i 0
def headF : List Nat → Int
  | [] => 0
  | a :: _ => (a : Int) + 1
def nextF : List Nat → Nat → Int
  | [], _ => 0
  | a :: r, i => if a = i then headF r else nextF r i
def seatD (d : DeskT) (i : Nat) : SeatT := if bAt d i = 0 then ⟨false, gAt d i, nextF d.free i⟩ else ⟨true, gAt d i, bAt d i⟩

theorem headF_bd {l : List Nat} {n : Nat} (h : ∀ a ∈ l, a < n) : 0 ≤ headF l ∧ headF l ≤ (n : Int) := by
  cases l with
  | nil => exact ⟨Int.le_refl _, show (0 : Int) ≤ (n : Int) by omega⟩
  | cons a r =>
    have := h a (List.mem_cons_self ..)
    have e : headF (a :: r) = (a : Int) + 1 := rfl
    omega
theorem nextF_bd {l : List Nat} {n : Nat} (i : Nat) (h : ∀ a ∈ l, a < n) : 0 ≤ nextF l i ∧ nextF l i ≤ (n : Int) := by
  induction l with
  | nil => exact ⟨Int.le_refl _, show (0 : Int) ≤ (n : Int) by omega⟩
  | cons a r ih =>
    unfold nextF
    split
    · exact headF_bd fun x hx => h x (List.mem_cons_of_mem _ hx)
    · exact ih fun x hx => h x (List.mem_cons_of_mem _ hx)
theorem nextF_out {l : List Nat} {i : Nat} (h : i ∉ l) : nextF l i = 0 := by
  induction l with
  | nil => rfl
  | cons a r ih =>
    rw [List.mem_cons, not_or] at h
    unfold nextF
    rw [if_neg (fun e => h.1 e.symm)]; exact ih h.2

structure TInv (s : StoreT) (t : TickT) (d : DeskT) : Prop where
  ok : tickOk t
  htop : I64 t.top
  good : GoodS s
  tree : TreeOk s t.top
  high : t.high = (d.gens.length : Int)
  lenb : d.blocks.length = d.gens.length
  free : t.free = headF d.free
  seats : ∀ i : Nat, i < d.gens.length → tS s.ws t.top (placeK (i : Int) 0) (placeK (i : Int) 1) (placeK (i : Int) 2) = seatD d i
  fnd : d.free.Nodup
  fok : ∀ a ∈ d.free, a < d.gens.length ∧ bAt d a = 0 ∧ gAt d a < t.gens
  gok : ∀ i, i < d.gens.length → 1 ≤ gAt d i ∧ gAt d i ≤ t.gens
  bok : ∀ i, i < d.gens.length → bAt d i = 0 ∨ (2 ≤ bAt d i ∧ bAt d i < 3072)
  zK : ∀ i : Nat, i < 16 → fanF s.ws t.top i ≠ 0 → 112 * (i : Int) < t.high
  zF : ∀ i j : Nat, i < 16 → j < 16 → tF s.ws t.top i j ≠ 0 → 112 * (i : Int) + 7 * (j : Int) < t.high

theorem TInv.tI {s : StoreT} {t : TickT} {d : DeskT} (h : TInv s t d) : TickI t := by
  obtain ⟨⟨h1, h2, h3, h4, h5, h6⟩, h7, h8, h9, h10⟩ := h.ok
  exact ⟨⟨by omega, by omega⟩, ⟨by omega, by omega⟩, ⟨by omega, by omega⟩, h.htop, ⟨by omega, by omega⟩, ⟨by omega, by omega⟩⟩
theorem TInv.len {s : StoreT} {t : TickT} {d : DeskT} (h : TInv s t d) : (d.gens.length : Int) ≤ t.slots ∧ t.slots ≤ 1792 := by
  have := h.high
  have h2 := h.ok.2.2.1
  have h3 := h.ok.1.2.2.2.1
  omega
theorem TInv.place {s : StoreT} {t : TickT} {d : DeskT} (h : TInv s t d) {i : Nat} (hi : i < d.gens.length) : placeOk (i : Int) := by
  have := h.len
  exact ⟨by omega, by omega⟩
theorem TInv.find {s : StoreT} {t : TickT} {d : DeskT} (h : TInv s t d) {i : Nat} (hi : i < d.gens.length) : walkErr s.ws t.top (i : Int) = 0 ∧ findS s.ws t.top (i : Int) = seatD d i :=
  ⟨tree_walk (h.place hi) h.tree, by rw [tree_find h.tree (h.place hi)]; exact h.seats i hi⟩

def deskNext (slots : Int) (d : DeskT) : Option (Nat × Int) := match d.free with
  | a :: _ => some (a, gAt d a + 1)
  | [] => if (d.gens.length : Int) = slots then none else some (d.gens.length, 1)
theorem next_some {s : StoreT} {t : TickT} {d : DeskT} (h : TInv s t d) {a : Nat} {g : Int} (hn : deskNext t.slots d = some (a, g)) : nextE s.ws t = 0 ∧ nextS s.ws t = (a : Int) ∧ (nextX s.ws t).gen = g - 1 ∧ (0 < t.free → (nextX s.ws t).next = headF d.free.tail) := by
  have hfr := h.free
  unfold deskNext at hn
  cases hd : d.free with
  | nil =>
    rw [hd] at hn hfr
    simp only at hn
    split at hn
    · cases hn
    · rename_i hne
      cases hn
      have hz : t.free = 0 := hfr
      have e : nextE s.ws t = 0 := by rw [nextE, if_pos h.ok, if_pos hz, if_neg (by have := h.high; omega)]
      refine ⟨e, ?_, ?_, fun hp => by omega⟩
      · rw [nextS, if_pos e, if_pos hz]; exact h.high
      · rw [nextX, if_pos e, if_pos hz]; rfl
  | cons b r =>
    rw [hd] at hn hfr
    simp only [Option.some.injEq, Prod.mk.injEq] at hn
    obtain ⟨rfl, rfl⟩ := hn
    have hz : t.free = (b : Int) + 1 := hfr
    have hb := h.fok b (by rw [hd]; exact List.mem_cons_self ..)
    have hz1 : t.free - 1 = (b : Int) := by omega
    have hF := h.find hb.1
    have hg := h.gok b hb.1
    have eX : seatD d b = ⟨false, gAt d b, headF r⟩ := by rw [seatD, if_pos hb.2.1, hd, nextF, if_pos rfl]
    have e : nextE s.ws t = 0 := by
      rw [nextE, if_pos h.ok, if_neg (by omega), hz1, if_pos hF.1, if_neg]
      rw [hF.2, eX]; simp only; intro k
      rcases k with k | k | k
      · cases k
      · omega
      · omega
    refine ⟨e, ?_, ?_, fun _ => ?_⟩
    · rw [nextS, if_pos e, if_neg (by omega), hz1]
    · rw [nextX, if_pos e, if_neg (by omega), hz1, hF.2, eX]; simp only; omega
    · rw [nextX, if_pos e, if_neg (by omega), hz1, hF.2, eX]; rfl
theorem next_none {s : StoreT} {t : TickT} {d : DeskT} (h : TInv s t d) (hn : deskNext t.slots d = none) : nextE s.ws t = 10 := by
  have hfr := h.free
  unfold deskNext at hn
  cases hd : d.free with
  | nil =>
    rw [hd] at hn hfr
    simp only at hn
    split at hn
    · rename_i hne
      rw [nextE, if_pos h.ok, if_pos (show t.free = 0 from hfr), if_pos (by have := h.high; omega)]
    · cases hn
  | cons b r => rw [hd] at hn; cases hn

theorem getD_setL {l : List Int} {j i : Nat} {v : Int} (hj : j < l.length) : (l.set j v).getD i 0 = if i = j then v else l.getD i 0 := getD_set hj
theorem getD_snoc {l : List Int} {i : Nat} {v : Int} : (l ++ [v]).getD i 0 = if i = l.length then v else l.getD i 0 := by
  rw [getD_append]
  by_cases h : i < l.length
  · rw [if_pos h, if_neg (by omega)]
  · rw [if_neg h]
    by_cases e : i = l.length
    · rw [if_pos e, e, Nat.sub_self]; rfl
    · rw [if_neg e, List.getD_eq_getElem?_getD, List.getD_eq_getElem?_getD, List.getElem?_eq_none (by simp; omega), List.getElem?_eq_none (by omega)]
theorem getD_ge {l : List Int} {i : Nat} (h : l.length ≤ i) : l.getD i 0 = 0 := by
  rw [List.getD_eq_getElem?_getD, List.getElem?_eq_none h]; rfl

def deskIss (d : DeskT) (at_ : Int) : DeskT := match d.free with
  | a :: r => { gens := d.gens.set a (gAt d a + 1), blocks := d.blocks.set a at_, free := r }
  | [] => { gens := d.gens ++ [1], blocks := d.blocks ++ [at_], free := [] }
def deskRel (gens : Int) (d : DeskT) (a : Nat) : DeskT := { d with blocks := d.blocks.set a 0, free := if gAt d a < gens then a :: d.free else d.free }
def deskPoi (d : DeskT) (a : Nat) (at_ : Int) : DeskT := { d with blocks := d.blocks.set a at_ }

theorem place_seat {i j : Nat} (hi : i < 1792) (hj : j < 1792) : (placeK (i : Int) 0 = placeK (j : Int) 0 ∧ placeK (i : Int) 1 = placeK (j : Int) 1 ∧ placeK (i : Int) 2 = placeK (j : Int) 2) ↔ i = j := by
  refine ⟨fun h => ?_, fun h => by subst h; exact ⟨rfl, rfl, rfl⟩⟩
  have := place_inj (a := (i : Int)) (b := (j : Int)) ⟨by omega, by omega⟩ ⟨by omega, by omega⟩ h
  omega
theorem place_nz {a i j : Nat} (ha : a < 1792) : (i = placeK (a : Int) 0 → 112 * (i : Int) ≤ (a : Int)) ∧ (i = placeK (a : Int) 0 ∧ j = placeK (a : Int) 1 → 112 * (i : Int) + 7 * (j : Int) ≤ (a : Int)) := by
  have hp : placeOk (a : Int) := ⟨by omega, by omega⟩
  have e0 : placeK (a : Int) 0 = a / 7 / 16 := by simp [placeK, hp]
  have e1 : placeK (a : Int) 1 = a / 7 % 16 := by simp [placeK, hp]
  rw [e0, e1]
  constructor
  · intro h; omega
  · rintro ⟨h, k⟩; omega

theorem inv_step {s : StoreT} {t : TickT} {d d' : DeskT} (h : TInv s t d) (hf : 3 ≤ freeN s.a) {a : Nat} {x : SeatT} {t' : TickT} (ha : (a : Int) < t.slots) (hx : seatOk x)
    (e1 : t'.blocks = t.blocks) (e2 : t'.slots = t.slots) (e3 : t'.gens = t.gens) (e4 : t'.top = (putR s t.top (a : Int) x).at_)
    (len : d'.blocks.length = d'.gens.length) (hlen : d.gens.length ≤ d'.gens.length) (hal : a < d'.gens.length) (hsl : (d'.gens.length : Int) ≤ t.slots) (hnew : ∀ i, d.gens.length ≤ i → i < d'.gens.length → i = a)
    (hhigh : t'.high = (d'.gens.length : Int)) (hfree : t'.free = headF d'.free) (hs : seatD d' a = x) (ho : ∀ i, i < d.gens.length → i ≠ a → seatD d' i = seatD d i)
    (fnd : d'.free.Nodup) (fok : ∀ b ∈ d'.free, b < d'.gens.length ∧ bAt d' b = 0 ∧ gAt d' b < t.gens) (gok : ∀ i, i < d'.gens.length → 1 ≤ gAt d' i ∧ gAt d' i ≤ t.gens) (bok : ∀ i, i < d'.gens.length → bAt d' i = 0 ∨ (2 ≤ bAt d' i ∧ bAt d' i < 3072)) :
    PutOk s t.top (a : Int) x (putR s t.top (a : Int) x) ∧ TInv (putR s t.top (a : Int) x).s t' d' := by
  have hsl2 := h.len.2
  have hp : placeOk (a : Int) := ⟨by omega, by omega⟩
  rcases tree_put h.good h.tree hp hx with S | N
  · refine ⟨S, ?_, by rw [e4]; exact putR_at h.good.W h.htop _ _, S.good, by rw [e4]; exact S.tree, hhigh, len, hfree, fun i hi => ?_, fnd, by rw [e3]; exact fok, by rw [e3]; exact gok, bok, fun i hi hn => ?_, fun i j hi hj hn => ?_⟩
    · have hk := h.ok
      have hb := headF_bd (l := d'.free) (n := d'.gens.length) fun b hb => (fok b hb).1
      exact ⟨by rw [e1, e2, e3]; exact hk.1, by omega, by omega, by omega, by omega⟩
    · have hil : i < 1792 := by omega
      have hip : placeOk (i : Int) := ⟨by omega, by omega⟩
      obtain ⟨p0, p1, p2⟩ := place_lt hip
      rw [e4, S.seats _ _ _ p0 p1 p2]
      by_cases e : i = a
      · rw [if_pos ((place_seat hil (by omega)).2 e), e, hs]
      · rw [if_neg (fun k => e ((place_seat hil (by omega)).1 k))]
        by_cases hid : i < d.gens.length
        · rw [h.seats i hid, ho i hid e]
        · exact absurd (hnew i (by omega) hi) e
    · rw [e4] at hn
      rcases (S.nzK i hi).1 hn with k | k
      · have := (place_nz (a := a) (i := i) (j := 0) (by omega)).1 k; omega
      · have := h.zK i hi k; have := h.high; omega
    · rw [e4] at hn
      rcases (S.nzF i j hi hj).1 hn with k | k
      · have := (place_nz (a := a) (i := i) (j := j) (by omega)).2 k; omega
      · have := h.zF i j hi hj k; have := h.high; omega
  · have := N.free; omega

theorem issue_step {s : StoreT} {t : TickT} {d : DeskT} (h : TInv s t d) (hf : 3 ≤ freeN s.a) {at_ : Int} (hb : 2 ≤ at_ ∧ at_ < 3072) {a : Nat} {g : Int} (hn : deskNext t.slots d = some (a, g)) :
    issE s t at_ = 0 ∧ issH s t at_ = ⟨(a : Int), g⟩ ∧ issS s t at_ = (issW s t at_).s ∧ PutOk s t.top (a : Int) ⟨true, g, at_⟩ (issW s t at_) ∧ TInv (issS s t at_) (issT s t at_) (deskIss d at_) := by
  obtain ⟨n1, n2, n3, n4⟩ := next_some h hn
  have hg := nextX_gen n1
  have hi : issOk s t at_ := ⟨h.ok, hb, n1⟩
  have eW : issW s t at_ = putR s t.top (a : Int) ⟨true, g, at_⟩ := by
    rw [issW, n2, n3]; congr 2; omega
  have hx : seatOk ⟨true, g, at_⟩ := by
    have : 1 ≤ g ∧ g ≤ 4294967295 ∧ 2 ≤ at_ ∧ at_ ≤ 3071 := by omega
    simpa [seatOk] using this
  have hlen := h.len
  have hfr := h.free
  have hlb := h.lenb
  have hhi := h.high
  have key : ∀ t' : TickT, t'.blocks = t.blocks → t'.slots = t.slots → t'.gens = t.gens → t'.top = (putR s t.top (a : Int) ⟨true, g, at_⟩).at_ → t'.high = (if 0 < t.free then t.high else t.high + 1) → t'.free = (if 0 < t.free then (nextX s.ws t).next else t.free) →
      PutOk s t.top (a : Int) ⟨true, g, at_⟩ (putR s t.top (a : Int) ⟨true, g, at_⟩) ∧ TInv (putR s t.top (a : Int) ⟨true, g, at_⟩).s t' (deskIss d at_) := fun t' k1 k2 k3 k4 k5 k6 => by
    unfold deskNext at hn
    unfold deskIss
    cases hd : d.free with
    | nil =>
      rw [hd] at hn hfr
      simp only at hn
      have hz : t.free = 0 := hfr
      rw [if_neg (by omega)] at k5 k6
      split at hn
      · cases hn
      · rename_i hne
        cases hn
        have eb : ∀ i, bAt { gens := d.gens ++ [1], blocks := d.blocks ++ [at_], free := [] } i = if i = d.gens.length then at_ else bAt d i := fun i => by rw [bAt, getD_snoc, hlb]; rfl
        have eg : ∀ i, gAt { gens := d.gens ++ [1], blocks := d.blocks ++ [at_], free := [] } i = if i = d.gens.length then 1 else gAt d i := fun i => by rw [gAt, getD_snoc]; rfl
        have el : (d.gens ++ [(1 : Int)]).length = d.gens.length + 1 := by simp
        refine inv_step h hf (by omega) hx k1 k2 k3 k4 (by simp [hlb]) (by rw [el]; omega) (by rw [el]; omega) (by rw [el]; omega) (fun i h1 h2 => by rw [el] at h2; omega) (by rw [el, k5, hhi]; omega) (by rw [k6, hz]; rfl) ?_ (fun i hi1 hne1 => ?_) List.nodup_nil (fun b hb => (by cases hb)) (fun i hi1 => ?_) (fun i hi1 => ?_)
        · rw [seatD, eb, eg, if_pos rfl, if_pos rfl, if_neg (by omega)]
        · rw [seatD, seatD, eb, eg, if_neg hne1, if_neg hne1, hd]
        · rw [eg]
          split
          · omega
          · exact h.gok i (by rw [el] at hi1; omega)
        · rw [eb]
          split
          · exact .inr hb
          · exact h.bok i (by rw [el] at hi1; omega)
    | cons b r =>
      rw [hd] at hn hfr
      simp only [Option.some.injEq, Prod.mk.injEq] at hn
      obtain ⟨rfl, rfl⟩ := hn
      have hz : t.free = (b : Int) + 1 := hfr
      have hbf := h.fok b (by rw [hd]; exact List.mem_cons_self ..)
      have hnd := h.fnd
      rw [hd, List.nodup_cons] at hnd
      rw [if_pos (by omega)] at k5 k6
      rw [n4 (by omega), hd] at k6
      have eb : ∀ i, bAt { gens := d.gens.set b (gAt d b + 1), blocks := d.blocks.set b at_, free := r } i = if i = b then at_ else bAt d i := fun i => by rw [bAt, getD_setL (by omega)]; rfl
      have eg : ∀ i, gAt { gens := d.gens.set b (gAt d b + 1), blocks := d.blocks.set b at_, free := r } i = if i = b then gAt d b + 1 else gAt d i := fun i => by rw [gAt, getD_setL hbf.1]; rfl
      have el : (d.gens.set b (gAt d b + 1)).length = d.gens.length := List.length_set ..
      have hin : ∀ c ∈ r, c ∈ d.free := fun c hc => by rw [hd]; exact List.mem_cons_of_mem _ hc
      refine inv_step h hf (by omega) hx k1 k2 k3 k4 (by simp only [List.length_set]; exact hlb) (by rw [el]; omega) (by rw [el]; omega) (by rw [el]; omega) (fun i h1 h2 => by rw [el] at h2; omega) (by rw [el, k5, hhi]) k6 ?_ (fun i hi1 hne1 => ?_) hnd.2 (fun c hc => ?_) (fun i hi1 => ?_) (fun i hi1 => ?_)
      · rw [seatD, eb, eg, if_pos rfl, if_pos rfl, if_neg (by omega)]
      · have en : nextF (b :: r) i = nextF r i := by rw [nextF, if_neg (fun e => hne1 e.symm)]
        rw [seatD, seatD, eb, eg, if_neg hne1, if_neg hne1, hd, en]
      · have hcb : c ≠ b := fun e => hnd.1 (e ▸ hc)
        rw [eb, eg, if_neg hcb, if_neg hcb, el]; exact h.fok c (hin c hc)
      · rw [eg]
        split
        · have := h.gok b hbf.1; omega
        · exact h.gok i (by rw [el] at hi1; omega)
      · rw [eb]
        split
        · exact .inr hb
        · exact h.bok i (by rw [el] at hi1; omega)
  have kk := key { t with top := (issW s t at_).at_, high := if 0 < t.free then t.high else t.high + 1, free := if 0 < t.free then (nextX s.ws t).next else t.free } rfl rfl rfl (by rw [eW]) rfl rfl
  have e0 : issE s t at_ = 0 := by rw [issE, if_pos hi, eW]; exact kk.1.e
  have eS : issS s t at_ = (issW s t at_).s := by rw [issS, if_pos hi]
  refine ⟨e0, ?_, eS, by rw [eW]; exact kk.1, ?_⟩
  · rw [issH, if_pos e0, n2, n3]; congr 1; omega
  · rw [eS, issT, if_pos e0]
    have := kk.2
    rwa [← eW] at this
theorem issue_none {s : StoreT} {t : TickT} {d : DeskT} (h : TInv s t d) {at_ : Int} (hb : 2 ≤ at_ ∧ at_ < 3072) (hn : deskNext t.slots d = none) : issE s t at_ = 10 ∧ issS s t at_ = s := by
  have e := next_none h hn
  have hi : ¬ issOk s t at_ := fun k => by have := k.2.2; rw [e] at this; cases this
  exact ⟨by rw [issE, if_neg hi, if_pos ⟨h.ok, hb⟩, e], by rw [issS, if_neg hi]⟩

def liveD (d : DeskT) (h : HandT) : Prop := 0 ≤ h.slot ∧ h.slot < (d.gens.length : Int) ∧ gAt d h.slot.toNat = h.gen ∧ bAt d h.slot.toNat ≠ 0
instance (d : DeskT) (h : HandT) : Decidable (liveD d h) := by unfold liveD; infer_instance
theorem seat_live {s : StoreT} {t : TickT} {d : DeskT} (h : TInv s t d) {x : HandT} (hl : liveD d x) : seatE s.ws t x = 0 ∧ seatX s.ws t x = ⟨true, x.gen, bAt d x.slot.toNat⟩ := by
  obtain ⟨l1, l2, l3, l4⟩ := hl
  obtain ⟨n, hn⟩ : ∃ n : Nat, x.slot = (n : Int) := ⟨x.slot.toNat, by omega⟩
  have hnl : n < d.gens.length := by omega
  rw [hn, Int.toNat_natCast] at l3 l4
  obtain ⟨f1, f2⟩ := h.find hnl
  have eX : seatD d n = ⟨true, x.gen, bAt d n⟩ := by rw [seatD, if_neg l4, l3]
  have e : seatE s.ws t x = 0 := by
    rw [seatE, if_pos h.ok, if_neg (by rw [h.high]; omega), hn, if_pos f1, if_pos]
    rw [f2, eX]; exact ⟨rfl, rfl⟩
  exact ⟨e, by rw [seatX, if_pos e, hn, f2, eX, Int.toNat_natCast]⟩
theorem seat_dead {s : StoreT} {t : TickT} {d : DeskT} (h : TInv s t d) {x : HandT} (hl : ¬ liveD d x) : seatE s.ws t x = 11 := by
  rw [seatE, if_pos h.ok]
  by_cases hr : x.slot < 0 ∨ t.high ≤ x.slot
  · rw [if_pos hr]
  · rw [if_neg hr]
    have hh := h.high
    obtain ⟨n, hn⟩ : ∃ n : Nat, x.slot = (n : Int) := ⟨x.slot.toNat, by omega⟩
    have hnl : n < d.gens.length := by omega
    obtain ⟨f1, f2⟩ := h.find hnl
    rw [hn, if_pos f1, if_neg]
    rw [f2]
    intro k
    apply hl
    unfold seatD at k
    by_cases hz : bAt d n = 0
    · rw [if_pos hz] at k; cases k.1
    · rw [if_neg hz] at k
      exact ⟨by omega, by omega, by rw [hn, Int.toNat_natCast]; exact k.2, by rw [hn, Int.toNat_natCast]; exact hz⟩

theorem point_step {s : StoreT} {t : TickT} {d : DeskT} (h : TInv s t d) (hf : 3 ≤ freeN s.a) {x : HandT} (hl : liveD d x) {at_ : Int} (hb : 2 ≤ at_ ∧ at_ < 3072) :
    poiE s t x at_ = 0 ∧ poiS s t x at_ = (poiW s t x at_).s ∧ PutOk s t.top x.slot ⟨true, x.gen, at_⟩ (poiW s t x at_) ∧ TInv (poiS s t x at_) (poiT s t x at_) (deskPoi d x.slot.toNat at_) := by
  obtain ⟨e1, e2⟩ := seat_live h hl
  obtain ⟨l1, l2, l3, l4⟩ := hl
  obtain ⟨n, hn⟩ : ∃ n : Nat, x.slot = (n : Int) := ⟨x.slot.toNat, by omega⟩
  have hnl : n < d.gens.length := by omega
  rw [hn, Int.toNat_natCast] at l3 l4
  have hp : poiOk s t x at_ := ⟨e1, hb⟩
  have eW : poiW s t x at_ = putR s t.top (n : Int) ⟨true, x.gen, at_⟩ := by rw [poiW, e2, hn]
  have hg := h.gok n hnl
  have hgm := h.ok.1.2.2.2.2.2
  have hx : seatOk ⟨true, x.gen, at_⟩ := by
    have : 1 ≤ x.gen ∧ x.gen ≤ 4294967295 ∧ 2 ≤ at_ ∧ at_ ≤ 3071 := by omega
    simpa [seatOk] using this
  have hlb := h.lenb
  have hlen := h.len
  have eb : ∀ i, bAt (deskPoi d n at_) i = if i = n then at_ else bAt d i := fun i => by rw [bAt, deskPoi, getD_setL (by omega)]; rfl
  have eg : ∀ i, gAt (deskPoi d n at_) i = gAt d i := fun i => rfl
  have kk := inv_step (t' := { t with top := (poiW s t x at_).at_ }) (d' := deskPoi d n at_) h hf (a := n) (by omega) hx rfl rfl rfl (by rw [eW]) (by simp only [deskPoi, List.length_set]; exact hlb) (Nat.le_refl _) hnl hlen.1 (fun i h1 h2 => by
      have : i < d.gens.length := h2
      omega) h.high h.free
    (by rw [seatD, eb, eg, if_pos rfl, if_neg (by omega), l3]) (fun i hi hne => by rw [seatD, seatD, eb, eg, if_neg hne]; rfl) h.fnd
    (fun b hb' => by
      have hbf := h.fok b hb'
      have hne : b ≠ n := fun e => l4 (by rw [← e]; exact hbf.2.1)
      rw [eb, eg, if_neg hne]; exact hbf)
    (fun i hi => h.gok i hi) (fun i hi => by
      rw [eb]
      split
      · exact .inr hb
      · exact h.bok i hi)
  have e0 : poiE s t x at_ = 0 := by rw [poiE, if_pos hp, eW]; exact kk.1.e
  have eS : poiS s t x at_ = (poiW s t x at_).s := by rw [poiS, if_pos hp]
  refine ⟨e0, eS, by rw [eW, hn]; exact kk.1, ?_⟩
  rw [eS, poiT, if_pos e0, hn, Int.toNat_natCast]
  have := kk.2
  rwa [← eW] at this

theorem release_step {s : StoreT} {t : TickT} {d : DeskT} (h : TInv s t d) (hf : 3 ≤ freeN s.a) {x : HandT} (hl : liveD d x) :
    relE s t x = 0 ∧ relS s t x = (relW s t x).s ∧ PutOk s t.top x.slot (relX s.ws t x) (relW s t x) ∧ TInv (relS s t x) (relT s t x) (deskRel t.gens d x.slot.toNat) := by
  obtain ⟨e1, e2⟩ := seat_live h hl
  obtain ⟨l1, l2, l3, l4⟩ := hl
  obtain ⟨n, hn⟩ : ∃ n : Nat, x.slot = (n : Int) := ⟨x.slot.toNat, by omega⟩
  have hnl : n < d.gens.length := by omega
  rw [hn, Int.toNat_natCast] at l3 l4
  have hg := h.gok n hnl
  have hgm := h.ok.1.2.2.2.2.2
  have hlb := h.lenb
  have hlen := h.len
  have hfb := headF_bd (l := d.free) (n := d.gens.length) fun b hb => (h.fok b hb).1
  have eX : relX s.ws t x = ⟨false, x.gen, if x.gen < t.gens then headF d.free else 0⟩ := by rw [relX, e2, h.free]
  have hx : seatOk (relX s.ws t x) := by
    rw [eX]
    by_cases hgt : x.gen < t.gens
    · rw [if_pos hgt]
      have : 0 ≤ x.gen ∧ x.gen ≤ 4294967295 ∧ 0 ≤ headF d.free ∧ headF d.free ≤ 1792 ∧ (0 < x.gen ∨ headF d.free = 0) := by omega
      simpa [seatOk] using this
    · rw [if_neg hgt]
      have : 0 ≤ x.gen ∧ x.gen ≤ 4294967295 := by omega
      simpa [seatOk] using this
  have eW : relW s t x = putR s t.top (n : Int) (relX s.ws t x) := by rw [relW, hn]
  have eb : ∀ i, bAt (deskRel t.gens d n) i = if i = n then 0 else bAt d i := fun i => by rw [bAt, deskRel, getD_setL (by omega)]; rfl
  have eg : ∀ i, gAt (deskRel t.gens d n) i = gAt d i := fun i => rfl
  have hnf : n ∉ d.free := fun k => l4 (h.fok n k).2.1
  have ef : (deskRel t.gens d n).free = if x.gen < t.gens then n :: d.free else d.free := by rw [deskRel, l3]
  have kk := inv_step (t' := { t with top := (relW s t x).at_, free := if (seatX s.ws t x).gen < t.gens then x.slot + 1 else t.free }) (d' := deskRel t.gens d n) h hf (a := n) (by omega) hx rfl rfl rfl (by rw [eW]) (by simp only [deskRel, List.length_set]; exact hlb) (Nat.le_refl _) hnl hlen.1 (fun i h1 h2 => by
      have : i < d.gens.length := h2
      omega) h.high
    (by
      rw [ef, e2]; simp only
      split
      · rw [headF, hn]
      · exact h.free)
    (by
      rw [seatD, eb, eg, if_pos rfl, if_pos rfl, ef, l3, eX]
      split
      · rw [nextF, if_pos rfl]
      · rw [nextF_out hnf])
    (fun i hi hne => by
      rw [seatD, seatD, eb, eg, if_neg hne, ef]
      split
      · congr 1
        split
        · rw [nextF, if_neg (fun e => hne e.symm)]
        · rfl
      · rfl)
    (by
      rw [ef]
      split
      · exact List.nodup_cons.2 ⟨hnf, h.fnd⟩
      · exact h.fnd)
    (fun b hb' => by
      rw [ef] at hb'
      rw [eb, eg]
      by_cases hbn : b = n
      · rw [if_pos hbn]
        refine ⟨by rw [hbn]; exact hnl, rfl, ?_⟩
        split at hb'
        · rw [hbn, l3]; assumption
        · exact absurd (hbn ▸ hb') hnf
      · rw [if_neg hbn]
        split at hb'
        · rcases List.mem_cons.1 hb' with k | k
          · exact absurd k hbn
          · exact h.fok b k
        · exact h.fok b hb')
    (fun i hi => h.gok i hi) (fun i hi => by
      rw [eb]
      split
      · exact .inl rfl
      · exact h.bok i hi)
  have e0 : relE s t x = 0 := by rw [relE, if_pos e1, eW]; exact kk.1.e
  have eS : relS s t x = (relW s t x).s := by rw [relS, if_pos e1]
  refine ⟨e0, eS, by rw [eW, hn]; exact kk.1, ?_⟩
  rw [eS, relT, if_pos e0, hn, Int.toNat_natCast]
  have := kk.2
  rw [← eW] at this
  rw [hn] at this
  exact this
theorem release_dead {s : StoreT} {t : TickT} {d : DeskT} (h : TInv s t d) {x : HandT} (hl : ¬ liveD d x) : relE s t x = 11 ∧ relS s t x = s := by
  have e := seat_dead h hl
  have hn : ¬ seatE s.ws t x = 0 := by rw [e]; decide
  exact ⟨by rw [relE, if_neg hn, e], by rw [relS, if_neg hn]⟩
theorem point_dead {s : StoreT} {t : TickT} {d : DeskT} (h : TInv s t d) {x : HandT} (hl : ¬ liveD d x) (at_ : Int) : poiE s t x at_ = 11 ∧ poiS s t x at_ = s := by
  have e := seat_dead h hl
  have hn : ¬ seatE s.ws t x = 0 := by rw [e]; decide
  exact ⟨by rw [poiE, if_neg (fun k => hn k.1), if_neg hn, e], by rw [poiS, if_neg (fun k => hn k.1)]⟩

theorem inv_markT {s : StoreT} {t : TickT} {d : DeskT} (h : TInv s t d) : TInv (markT s) t d :=
  ⟨h.ok, h.htop, mark_good h.good, mark_tree h.tree, h.high, h.lenb, h.free, h.seats, h.fnd, h.fok, h.gok, h.bok, h.zK, h.zF⟩

theorem nodup_len {l : List Int} : ∀ {m : List Int}, l.Nodup → (∀ a ∈ l, a ∈ m) → l.length ≤ m.length := by
  induction l with
  | nil => intro m _ _; exact Nat.zero_le _
  | cons a r ih =>
    intro m hn hs
    rw [List.nodup_cons] at hn
    have ha := hs a (List.mem_cons_self ..)
    have := ih (m := m.erase a) hn.2 fun b hb => (List.mem_erase_of_ne (show b ≠ a from fun e => hn.1 (e ▸ hb))).2 (hs b (List.mem_cons_of_mem _ hb))
    rw [List.length_erase_of_mem ha] at this
    have hp := List.length_pos_of_mem ha
    rw [List.length_cons]; omega
theorem bits_or_le (n p q : Nat) : (bitsL n (p ||| q)).length ≤ (bitsL n p).length + (bitsL n q).length := by
  induction n with
  | zero => simp [bitsL]
  | succ n ih =>
    rw [bitsL_succ, bitsL_succ, bitsL_succ, Nat.testBit_or]
    cases p.testBit n <;> cases q.testBit n <;> simp <;> omega
theorem bits_sub {n p q : Nat} (h : ∀ i, i < n → p.testBit i = true → q.testBit i = true) : (bitsL n p).length ≤ (bitsL n q).length := by
  have := bits_le (p := p) (q := q) (g := n) n fun i hi _ hp => h i hi hp
  rw [if_neg (by omega)] at this; omega
theorem w_len {s : StoreT} {t : TickT} {d : DeskT} (h : TInv s t d) (h42 : t.high ≤ 42) : (bitsL s.a.n s.a.w).length ≤ 10 := by
  have hl : (listN (s.a.n, s.a.w)).Nodup := by
    rw [listN, List.Nodup, List.pairwise_map]
    refine List.Pairwise.imp (R := (· < ·)) (fun {a b} hab e => ?_) (List.Pairwise.filter _ List.pairwise_lt_range)
    omega
  have := nodup_len (l := listN (s.a.n, s.a.w)) (m := 0 :: 1 :: t.top :: fanF s.ws t.top 0 :: (List.range 6).map (tF s.ws t.top 0)) hl fun a ha => by
    have hz : ∀ c : Int, c = 0 → c ∈ ((0 : Int) :: 1 :: t.top :: fanF s.ws t.top 0 :: (List.range 6).map (tF s.ws t.top 0)) := fun c hc => by rw [hc]; exact List.mem_cons_self ..
    rcases h.tree.sh.ex a (inS_iff.2 (listN_mem.1 ha)) with z | z | z | ⟨i, hi, z⟩ | ⟨i, j, hi, hj, z⟩
    · exact hz a z
    · rw [z]; simp
    · rw [z]; simp
    · by_cases e : fanF s.ws t.top i = 0
      · exact hz a (z.trans e)
      · have := h.zK i hi e
        have e0 : i = 0 := by omega
        subst e0
        rw [z]; simp
    · by_cases e : tF s.ws t.top i j = 0
      · exact hz a (z.trans e)
      · have := h.zF i j hi hj e
        have e0 : i = 0 := by omega
        subst e0
        rw [z]
        simp only [List.mem_cons, List.mem_map, List.mem_range]
        exact .inr (.inr (.inr (.inr ⟨j, by omega, rfl⟩)))
  simpa [listN] using this

structure Room (n : Nat) (s : StoreT) : Prop where
  hn : s.a.n = n
  c : (bitsL n s.a.c).length ≤ 2
  e : s.a.e = 0
  m : (bitsL n s.a.m).length ≤ 10
theorem room_free {n : Nat} {s : StoreT} {t : TickT} {d : DeskT} (h : TInv s t d) (hr : Room n s) (h42 : t.high ≤ 42) : (n : Int) - 22 ≤ freeN s.a := by
  have h1 := w_len h h42
  have hc := hr.c
  have hm := hr.m
  have hn := hr.hn
  rw [hn] at h1
  have e1 : heldN s.a = ((s.a.w ||| s.a.c) ||| 0) ||| s.a.m := by rw [heldN, hr.e]
  have k1 := bits_or_le n ((s.a.w ||| s.a.c) ||| 0) s.a.m
  have k2 := bits_or_le n (s.a.w ||| s.a.c) 0
  have k3 := bits_or_le n s.a.w s.a.c
  rw [bitsL_zero] at k2
  rw [freeN, e1, hn]
  simp only [List.length_nil] at k2
  omega
theorem room_put {n : Nat} {s : StoreT} {top slot : Int} {x : SeatT} {r : Wr} (hr : Room n s) (S : PutOk s top slot x r) : Room n r.s :=
  ⟨S.n.trans hr.hn, by rw [S.c]; exact hr.c, by rw [S.e']; exact hr.e, by rw [S.m]; exact hr.m⟩
theorem room_mark {n : Nat} {s : StoreT} {t : TickT} {d : DeskT} (h : TInv s t d) (hr : Room n s) (h42 : t.high ≤ 42) : Room n (markT s) := by
  have := w_len h h42
  rw [hr.hn] at this
  exact ⟨hr.hn, hr.c, hr.e, this⟩
theorem bits_01 (n : Nat) : (bitsL n (addL n 0 [0, 1])).length ≤ 2 := by
  have := nodup_len (l := listN (n, addL n 0 [0, 1])) (m := [0, 1]) (by
    rw [listN, List.Nodup, List.pairwise_map]
    refine List.Pairwise.imp (R := (· < ·)) (fun {a b} hab e => ?_) (List.Pairwise.filter _ List.pairwise_lt_range)
    omega) fun a ha => by
      have := inS_made.1 (inS_iff.2 (listN_mem.1 ha))
      rcases this.1 with k | k <;> simp [k]
  simpa [listN] using this
theorem room_made {n : Nat} : Room n (madeS n 0) := ⟨rfl, bits_01 n, rfl, Nat.le_trans (bits_01 n) (by omega)⟩
def desk0 : DeskT := ⟨[], [], []⟩
def tick0 (b s g : Int) : TickT := ⟨b, s, g, 0, 0, 0⟩
theorem inv_made0 {n : Nat} (h2 : 2 ≤ n) (h : n ≤ 3072) {b s g : Int} (hk : geomOk b s g) : TInv (madeS n 0) (tick0 b s g) desk0 :=
  ⟨⟨hk, Int.le_refl _, by have := hk.2.2.1; show (0 : Int) ≤ s; omega, Int.le_refl _, Int.le_refl _⟩, I64_0, made_good h2 h, made_tree n 0, rfl, rfl, rfl, fun i hi => absurd hi (Nat.not_lt_zero _), List.nodup_nil, fun a ha => (by cases ha), fun i hi => absurd hi (Nat.not_lt_zero _), fun i hi => absurd hi (Nat.not_lt_zero _), fun i hi hn => absurd rfl hn, fun i j hi hj hn => absurd rfl hn⟩

structure Desk (n : Nat) (s : StoreT) (t : TickT) (d : DeskT) : Prop where
  inv : TInv s t d
  room : Room n s
theorem Desk.free {n : Nat} {s : StoreT} {t : TickT} {d : DeskT} (h : Desk n s t d) (hn : 25 ≤ n) (h42 : t.slots ≤ 42) : 3 ≤ freeN s.a := by
  have := room_free h.inv h.room (by have := h.inv.ok.2.2.1; omega)
  omega
theorem Desk.mark {n : Nat} {s : StoreT} {t : TickT} {d : DeskT} (h : Desk n s t d) (h42 : t.slots ≤ 42) : Desk n (markT s) t d :=
  ⟨inv_markT h.inv, room_mark h.inv h.room (by have := h.inv.ok.2.2.1; omega)⟩
theorem issT_geo {s : StoreT} {t : TickT} {a : Int} (h : issE s t a = 0) : (issT s t a).slots = t.slots ∧ (issT s t a).gens = t.gens ∧ (issT s t a).blocks = t.blocks := by
  rw [issT, if_pos h]; exact ⟨rfl, rfl, rfl⟩
theorem relT_geo {s : StoreT} {t : TickT} {x : HandT} (h : relE s t x = 0) : (relT s t x).slots = t.slots ∧ (relT s t x).gens = t.gens ∧ (relT s t x).blocks = t.blocks := by
  rw [relT, if_pos h]; exact ⟨rfl, rfl, rfl⟩
theorem poiT_geo {s : StoreT} {t : TickT} {x : HandT} {a : Int} (h : poiE s t x a = 0) : (poiT s t x a).slots = t.slots ∧ (poiT s t x a).gens = t.gens ∧ (poiT s t x a).blocks = t.blocks := by
  rw [poiT, if_pos h]; exact ⟨rfl, rfl, rfl⟩
theorem Desk.issue {n : Nat} {s : StoreT} {t : TickT} {d : DeskT} (h : Desk n s t d) (hn : 25 ≤ n) (h42 : t.slots ≤ 42) {at_ : Int} (hb : 2 ≤ at_ ∧ at_ < 3072) {a : Nat} {g : Int} (hx : deskNext t.slots d = some (a, g)) :
    issE s t at_ = 0 ∧ issH s t at_ = ⟨(a : Int), g⟩ ∧ Desk n (issS s t at_) (issT s t at_) (deskIss d at_) := by
  obtain ⟨e1, e2, e3, e4, e5⟩ := issue_step h.inv (h.free hn h42) hb hx
  exact ⟨e1, e2, e5, by rw [e3]; exact room_put h.room e4⟩
theorem Desk.release {n : Nat} {s : StoreT} {t : TickT} {d : DeskT} (h : Desk n s t d) (hn : 25 ≤ n) (h42 : t.slots ≤ 42) {x : HandT} (hl : liveD d x) :
    relE s t x = 0 ∧ Desk n (relS s t x) (relT s t x) (deskRel t.gens d x.slot.toNat) := by
  obtain ⟨e1, e2, e3, e4⟩ := release_step h.inv (h.free hn h42) hl
  exact ⟨e1, e4, by rw [e2]; exact room_put h.room e3⟩
theorem Desk.point {n : Nat} {s : StoreT} {t : TickT} {d : DeskT} (h : Desk n s t d) (hn : 25 ≤ n) (h42 : t.slots ≤ 42) {x : HandT} (hl : liveD d x) {at_ : Int} (hb : 2 ≤ at_ ∧ at_ < 3072) :
    poiE s t x at_ = 0 ∧ Desk n (poiS s t x at_) (poiT s t x at_) (deskPoi d x.slot.toNat at_) := by
  obtain ⟨e1, e2, e3, e4⟩ := point_step h.inv (h.free hn h42) hl hb
  exact ⟨e1, e4, by rw [e2]; exact room_put h.room e3⟩
theorem desk_made {n : Nat} (h2 : 2 ≤ n) (h : n ≤ 3072) {b s g : Int} (hk : geomOk b s g) : Desk n (madeS n 0) (tick0 b s g) desk0 := ⟨inv_made0 h2 h hk, room_made⟩

end Yard
