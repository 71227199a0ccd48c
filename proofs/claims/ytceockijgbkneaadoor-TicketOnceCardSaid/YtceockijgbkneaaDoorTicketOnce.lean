import Derived.Test.YtceockijgbkneaaDoorLaw21
/- The law TicketOnce. -/
namespace Yard
open Go Go.Sx Go.Proofs
set_option linter.unusedVariables false
set_option linter.unusedSimpArgs false
set_option maxRecDepth 4000
set_option maxHeartbeats 4000000

def onceRen (F : Fr) (_ : AH) : Option Ren :=
  let f := fun a => match a with
    | AV.sl q _ _ _ _ _ _ => some q
    | _ => none
  some (idRen 5 5 ++ [f (F.getD 13 .any), f (F.getD 14 .any)])
def ticketOnceC : Ctr := pureC (Nat × Nat × List Act21) (fun x => x.1 < 256 ∧ x.2.1 < 256 ∧ Acts21 x.2.2) (fun x => [.int .u8 (x.1 : Nat), .int .u8 (x.2.1 : Nat), acts21A x.2.2]) (fun _ => .bool true)
structure OnceT where
  i : Nat
  s : StoreT
  t : TickT
  c1 : Nat
  iss : List HandT
  c2 : Nat
  gone : List HandT
abbrev onceF (x : Nat × Nat × List Act21) (t : OnceT) : List (Nat × AV) := [(2, acts21A x.2.2), (7, .ptr 1 [] 0), (9, .ptr 3 [] 0), (10, i64 ((1 + x.1 % 6 : Nat) : Int)), (11, i64 ((1 + x.2.1 % 3 : Nat) : Int)), (12, .ptr 4 [] 0), (13, .sl 5 [] 0 2 0 t.iss.length t.c1), (14, .sl 6 [] 0 2 0 t.gone.length t.c2), (15, i64 (t.i : Nat))]
abbrev onceH (t : OnceT) : AH := storeH t.s ++ [tickC t.t, handsR t.c1 t.iss, handsR t.c2 t.gone]
def once1 (x : Nat × Nat × List Act21) : LA := { T := OnceT, F := fun t => frm 177 (onceF x t), H := onceH, ρ₁ := onceRen, ρ₂ := onceRen }
def once2 (x : Nat × Nat × List Act21) : LA := { T := OnceT × Nat, F := fun t => frm 177 (onceF x t.1 ++ [(22, i64 (t.2 : Nat))]), H := fun t => onceH t.1, ρ₁ := onceRen, ρ₂ := onceRen }

theorem desk_iss_at {d : DeskT} {slots : Int} {a : Nat} {g : Int} (hn : deskNext slots d = some (a, g)) (hlb : d.blocks.length = d.gens.length) (hf : ∀ a ∈ d.free, a < d.gens.length ∧ bAt d a = 0) (x : Int) :
    (∀ i, gAt (deskIss d x) i = if i = a then g else gAt d i) ∧ (∀ i, bAt (deskIss d x) i = if i = a then x else bAt d i) ∧ ((a < d.gens.length ∧ (deskIss d x).gens.length = d.gens.length ∧ bAt d a = 0 ∧ g = gAt d a + 1) ∨ (a = d.gens.length ∧ (deskIss d x).gens.length = d.gens.length + 1 ∧ g = 1)) := by
  unfold deskNext at hn
  unfold deskIss
  cases hd : d.free with
  | nil =>
    rw [hd] at hn
    simp only at hn
    split at hn
    · cases hn
    · cases hn
      exact ⟨fun i => by rw [gAt, getD_snoc]; rfl, fun i => by rw [bAt, getD_snoc, hlb]; rfl, .inr ⟨rfl, by simp, rfl⟩⟩
  | cons b r =>
    rw [hd] at hn
    simp only [Option.some.injEq, Prod.mk.injEq] at hn
    obtain ⟨rfl, rfl⟩ := hn
    have hb := hf b (by rw [hd]; exact List.mem_cons_self ..)
    exact ⟨fun i => by rw [gAt, getD_setL hb.1]; rfl, fun i => by rw [bAt, getD_setL (by omega)]; rfl, .inl ⟨hb.1, by simp, hb.2, rfl⟩⟩
/-- What was issued, and what is gone. -/
structure OnceJ (d : DeskT) (iss gone : List HandT) : Prop where
  mem : ∀ h, h ∈ iss ↔ (0 ≤ h.slot ∧ h.slot < (d.gens.length : Int)) ∧ 1 ≤ h.gen ∧ h.gen ≤ gAt d h.slot.toNat
  nd : iss.Nodup
  gn : ∀ h, h ∈ gone ↔ h ∈ iss ∧ ¬ liveD d h
theorem once_0 : OnceJ desk0 [] [] :=
  ⟨fun h => ⟨fun k => (by cases k), fun k => by
    have h1 := k.1.1
    have h2 : h.slot < (0 : Int) := k.1.2
    omega⟩, List.nodup_nil, fun h => ⟨fun k => (by cases k), fun k => (by cases k.1)⟩⟩
theorem once_I {s : StoreT} {t : TickT} {d : DeskT} {iss gone : List HandT} (T : TInv s t d) (J : OnceJ d iss gone) : (∀ h ∈ iss, HandI h) ∧ ∀ h ∈ gone, HandI h := by
  have : ∀ h ∈ iss, HandI h := fun h hh => by
    obtain ⟨⟨h1, h2⟩, h3, h4⟩ := (J.mem h).1 hh
    have g := T.gok h.slot.toNat (by omega)
    have l := T.len
    have k := T.ok.1.2.2.2.2.2
    exact ⟨⟨by omega, by omega⟩, ⟨by omega, by omega⟩⟩
  exact ⟨this, fun h hh => this h ((J.gn h).1 hh).1⟩
theorem once_iss {s : StoreT} {t : TickT} {d : DeskT} {iss gone : List HandT} (T : TInv s t d) (J : OnceJ d iss gone) {a : Nat} {g : Int} (hn : deskNext t.slots d = some (a, g)) {x : Int} (hx : x ≠ 0) :
    (⟨(a : Int), g⟩ : HandT) ∉ iss ∧ OnceJ (deskIss d x) (iss ++ [⟨(a : Int), g⟩]) gone := by
  obtain ⟨eg, eb, hc⟩ := desk_iss_at hn T.lenb (fun a ha => ⟨(T.fok a ha).1, (T.fok a ha).2.1⟩) x
  have out : (⟨(a : Int), g⟩ : HandT) ∉ iss := fun k => by
    obtain ⟨⟨h1, h2⟩, h3, h4⟩ := (J.mem _).1 k
    simp only [Int.toNat_natCast] at h1 h2 h3 h4
    rcases hc with ⟨c1, c2, c3, c4⟩ | ⟨c1, c2, c3⟩
    · omega
    · omega
  have lv : ∀ h : HandT, h ∈ iss → (liveD (deskIss d x) h ↔ liveD d h) := fun h hh => by
    obtain ⟨⟨h1, h2⟩, h3, h4⟩ := (J.mem h).1 hh
    unfold liveD
    rw [eg, eb]
    by_cases e : h.slot.toNat = a
    · rw [if_pos e, if_pos e]
      rcases hc with ⟨c1, c2, c3, c4⟩ | ⟨c1, c2, c3⟩
      · rw [e] at h4 ⊢; rw [c3]
        constructor
        · rintro ⟨_, _, k, _⟩; omega
        · rintro ⟨_, _, _, k⟩; exact absurd rfl k
      · omega
    · rw [if_neg e, if_neg e]
      constructor
      · rintro ⟨k1, k2, k3, k4⟩; exact ⟨k1, h2, k3, k4⟩
      · rintro ⟨k1, k2, k3, k4⟩; exact ⟨k1, by rcases hc with c | c <;> omega, k3, k4⟩
  refine ⟨out, fun h => ?_, ?_, fun h => ?_⟩
  · rw [List.mem_append, List.mem_singleton, J.mem h, eg]
    constructor
    · rintro (⟨⟨h1, h2⟩, h3, h4⟩ | rfl)
      · refine ⟨⟨h1, by rcases hc with c | c <;> omega⟩, h3, ?_⟩
        split
        · rename_i e
          rw [e] at h4
          rcases hc with c | c
          · omega
          · omega
        · exact h4
      · simp only [Int.toNat_natCast, if_true]
        refine ⟨⟨by omega, by rcases hc with c | c <;> omega⟩, ?_, Int.le_refl _⟩
        rcases hc with ⟨c1, c2, c3, c4⟩ | c
        · have := T.gok a c1; omega
        · omega
    · rintro ⟨⟨h1, h2⟩, h3, h4⟩
      by_cases e : h.slot.toNat = a
      · rw [if_pos e] at h4
        by_cases eg' : h.gen = g
        · right
          cases h; simp only at *; subst eg'; congr 1; omega
        · left
          rcases hc with ⟨c1, c2, c3, c4⟩ | ⟨c1, c2, c3⟩
          · rw [e]; exact ⟨⟨h1, by omega⟩, h3, by omega⟩
          · omega
      · rw [if_neg e] at h4
        left
        exact ⟨⟨h1, by rcases hc with c | c <;> omega⟩, h3, h4⟩
  · rw [List.nodup_append]
    exact ⟨J.nd, by simp, fun b hb c hc' e => by rw [List.mem_singleton] at hc'; rw [e, hc'] at hb; exact out hb⟩
  · rw [J.gn h, List.mem_append, List.mem_singleton]
    constructor
    · rintro ⟨k1, k2⟩; exact ⟨.inl k1, fun k => k2 ((lv h k1).1 k)⟩
    · rintro ⟨k1 | k1, k2⟩
      · exact ⟨k1, fun k => k2 ((lv h k1).2 k)⟩
      · exfalso
        apply k2
        rw [k1]
        unfold liveD
        simp only [Int.toNat_natCast]
        rw [eg, eb, if_pos rfl, if_pos rfl]
        exact ⟨by omega, by rcases hc with c | c <;> omega, rfl, hx⟩
theorem once_rel {s : StoreT} {t : TickT} {d : DeskT} {iss gone : List HandT} (T : TInv s t d) (J : OnceJ d iss gone) {h : HandT} (hh : h ∈ iss) (hl : liveD d h) (g : Int) : OnceJ (deskRel g d h.slot.toNat) iss (gone ++ [h]) := by
  have hlb := T.lenb
  have hl0 := hl
  obtain ⟨l1, l2, l3, l4⟩ := hl0
  have eb : ∀ i, bAt (deskRel g d h.slot.toNat) i = if i = h.slot.toNat then 0 else bAt d i := fun i => by rw [bAt, deskRel, getD_setL (by omega)]; rfl
  refine ⟨J.mem, J.nd, fun k => ?_⟩
  rw [List.mem_append, List.mem_singleton, J.gn k]
  have hlv : liveD (deskRel g d h.slot.toNat) k ↔ liveD d k ∧ k.slot.toNat ≠ h.slot.toNat := by
    show (0 ≤ k.slot ∧ k.slot < (d.gens.length : Int) ∧ gAt d k.slot.toNat = k.gen ∧ bAt (deskRel g d h.slot.toNat) k.slot.toNat ≠ 0) ↔ _
    rw [eb]
    constructor
    · rintro ⟨a1, a2, a3, a4⟩
      by_cases e : k.slot.toNat = h.slot.toNat
      · rw [if_pos e] at a4; exact absurd rfl a4
      · rw [if_neg e] at a4; exact ⟨⟨a1, a2, a3, a4⟩, e⟩
    · rintro ⟨⟨a1, a2, a3, a4⟩, e⟩
      exact ⟨a1, a2, a3, by rw [if_neg e]; exact a4⟩
  rw [hlv]
  constructor
  · rintro (⟨k1, k2⟩ | rfl)
    · exact ⟨k1, fun q => k2 q.1⟩
    · exact ⟨hh, fun q => q.2 rfl⟩
  · rintro ⟨k1, k2⟩
    by_cases q : liveD d k
    · right
      have e : k.slot.toNat = h.slot.toNat := Classical.byContradiction fun e => k2 ⟨q, e⟩
      obtain ⟨q1, q2, q3, q4⟩ := q
      cases k; cases h; simp only at *
      rw [e] at q3
      rw [← q3, ← l3]; congr 1; omega
    · exact .inl ⟨k1, q⟩
theorem once_xor {s : StoreT} {t : TickT} {d : DeskT} {iss gone : List HandT} (T : TInv s t d) (J : OnceJ d iss gone) {h : HandT} (hh : h ∈ iss) : (decide (seatE s.ws t h = 0) == decide (h ∈ gone)) = false := by
  by_cases q : liveD d h
  · have e := (seat_live T q).1
    have hn : h ∉ gone := fun k => ((J.gn h).1 k).2 q
    rw [decide_eq_true e, decide_eq_false hn]; rfl
  · have e := seat_dead T q
    have hn : h ∈ gone := (J.gn h).2 ⟨hh, q⟩
    rw [decide_eq_true hn, e]; rfl
theorem once_len {s : StoreT} {t : TickT} {d : DeskT} {iss gone : List HandT} (T : TInv s t d) (J : OnceJ d iss gone) {n m : Nat} (hs : t.slots = (n : Int)) (hg : t.gens = (m : Int)) (hm : m = 1 ∨ m = 2 ∨ m = 3) : iss.length ≤ n * m := by
  have hb : ∀ h ∈ iss, 0 ≤ h.slot ∧ h.slot < (n : Int) ∧ 1 ≤ h.gen ∧ h.gen ≤ (m : Int) := fun h hh => by
    obtain ⟨⟨h1, h2⟩, h3, h4⟩ := (J.mem h).1 hh
    have g := T.gok h.slot.toNat (by omega)
    have l := T.len
    omega
  have hnd : (iss.map (fun h => h.slot * (m : Int) + (h.gen - 1))).Nodup := by
    rw [List.Nodup, List.pairwise_map]
    refine List.Pairwise.imp_of_mem (R := (· ≠ ·)) (fun {a b} ha hb' hab e => hab ?_) J.nd
    have h1 := hb a ha
    have h2 := hb b hb'
    have : a.slot = b.slot ∧ a.gen = b.gen := by
      rcases hm with rfl | rfl | rfl <;> omega
    cases a; cases b; simp only at this; rw [this.1, this.2]
  have := nodup_len (m := (List.range (n * m)).map (fun i : Nat => (i : Int))) hnd fun a ha => by
    obtain ⟨h, hh, rfl⟩ := List.mem_map.1 ha
    have h1 := hb h hh
    have h2 : 0 ≤ h.slot * (m : Int) + (h.gen - 1) ∧ h.slot * (m : Int) + (h.gen - 1) < ((n * m : Nat) : Int) := by
      rcases hm with rfl | rfl | rfl <;> omega
    exact List.mem_map.2 ⟨(h.slot * (m : Int) + (h.gen - 1)).toNat, List.mem_range.2 (by omega), by omega⟩
  simpa using this
theorem twice {p q Q R S : Prop} (hQ : Q) (hR : ¬ q → R) (hS : S) : (p → Q) ∧ (¬ p → (q → Q) ∧ (¬ q → R)) ∧ S := ⟨fun _ => hQ, fun _ => ⟨fun _ => hQ, hR⟩, hS⟩
structure OnceI (n m k : Nat) (t : OnceT) : Prop where
  n : t.t.slots = (n : Int)
  m : t.t.gens = (m : Int)
  d : ∃ d, Desk 100 t.s t.t d ∧ OnceJ d t.iss t.gone
  k1 : t.iss.length ≤ k
  k2 : t.gone.length ≤ k

-- callees: 8=awake21_ok 9=madeStore_ok 10=first_ok 11=allocMark_ok 12=tickIssue_ok 13=handIn_ok 14=rest_ok 15=tickRelease_ok 16=tickResolve_ok
theorem ticketOnceV : (∀ (x : Nat × Nat × List Act21), x.fst < 256 ∧ x.snd.fst < 256 ∧ Acts21 x.snd.snd → Exx Unit fun x_1 => Tr 1 (true = true ∧ True) ∧ Tr 1
 (∀ (y : Unit), True → BC (decide ((40 : Int) < (↑x.snd.snd.length : Int))) (Exx Unit fun x => Tr 1 (true = true ∧ True) ∧ Tr 1 (∀ (y : Unit), True → Exx Unit
 fun y => ((true = true ∧ True) ∧ true = true ∧ True) ∧ True)) (Exx (Nat × Int) fun x_2 => ((Tr 1 ((100 : Int) = (↑x_2.fst : Int)) ∧ Tr 1 ((0 : Int) = x_2.snd) ∧
 True) ∧ true = true ∧ True) ∧ (x_2.fst ≤ 3072 ∧ (0 : Int) ≤ x_2.snd ∧ I64 x_2.snd) ∧ ∀ (y : Unit), True → ∀ (m : Int), m = IntKind.i64.wrap (↑x.fst : Int) → (6
 : Int) ≠ (0 : Int) ∧ ∀ (n : Int), n = m.tmod 6 → I64 (1 + n) ∧ ∀ (m : Int), m = IntKind.i64.wrap (↑x.snd.fst : Int) → (3 : Int) ≠ (0 : Int) ∧ ∀ (n_1 : Int), n_1
 = m.tmod 3 → I64 (1 + n_1) ∧ Exx (Int × Int) fun x_3 => ((Tr 1 (1 + n = x_3.fst) ∧ Tr 1 (1 + n_1 = x_3.snd) ∧ True) ∧ true = true ∧ True) ∧ (I64 x_3.fst ∧ I64
 x_3.snd) ∧ ∀ (y : Unit), True → Exx (OnceT → Prop) fun I => Exx (OnceT → Nat) fun m => (Exx OnceT fun t => I t ∧ Tr 2 (((5 : Nat) = (5 : Nat) ∧ x.snd.snd.length
 = x.snd.snd.length ∧ ∀ (i : Nat), i < x.snd.snd.length → [AV.int IntKind.i64 (x.snd.snd.getD i act21Z).kind, AV.int IntKind.i64 (x.snd.snd.getD i act21Z).block,
 AV.int IntKind.i64 (x.snd.snd.getD i act21Z).h.slot, AV.int IntKind.i64 (x.snd.snd.getD i act21Z).h.gen, AV.bool (x.snd.snd.getD i act21Z).live] = [AV.int
 IntKind.i64 (x.snd.snd.getD i act21Z).kind, AV.int IntKind.i64 (x.snd.snd.getD i act21Z).block, AV.int IntKind.i64 (x.snd.snd.getD i act21Z).h.slot, AV.int
 IntKind.i64 (x.snd.snd.getD i act21Z).h.gen, AV.bool (x.snd.snd.getD i act21Z).live]) ∧ Tr 4 ((true = true ∧ NilNil ∧ (0 : Nat) = (0 : Nat)) ∧ Tr 1 ((true =
 true ∧ NilNil ∧ (0 : Nat) = (0 : Nat)) ∧ Tr 1 (1 + n = (↑(1 + x.fst % 6) : Int)) ∧ Tr 1 (1 + n_1 = (↑(1 + x.snd.fst % 3) : Int)) ∧ (true = true ∧ NilNil ∧ (0 :
 Nat) = (0 : Nat)) ∧ (t.iss.length = 0 ∧ t.c1 = 0) ∧ (t.gone.length = 0 ∧ t.c2 = 0) ∧ Tr 1 ((0 : Int) = (↑t.i : Int)) ∧ Tr 161 True))) ∧ true = true ∧ ((105 :
 TypeId) = (105 : TypeId) ∧ (true = true ∧ NilNil ∧ (0 : Nat) = (0 : Nat)) ∧ (true = true ∧ NilNil ∧ (0 : Nat) = (0 : Nat)) ∧ True) ∧ devB (madeS x_2.fst
 x_2.snd).ws = devB t.s.ws ∧ allocB (madeS x_2.fst x_2.snd).a = allocB t.s.a ∧ ((32 : Nat) = (32 : TypeId) ∧ Tr 1 ((tick0 100 x_3.fst x_3.snd).blocks =
 t.t.blocks) ∧ Tr 1 ((tick0 100 x_3.fst x_3.snd).slots = t.t.slots) ∧ Tr 1 ((tick0 100 x_3.fst x_3.snd).gens = t.t.gens) ∧ Tr 1 ((tick0 100 x_3.fst x_3.snd).top
 = t.t.top) ∧ Tr 1 ((tick0 100 x_3.fst x_3.snd).high = t.t.high) ∧ Tr 1 ((tick0 100 x_3.fst x_3.snd).free = t.t.free) ∧ True) ∧ (t.c1 = 0 ∧ t.iss.length = 0) ∧
 (t.c2 = 0 ∧ t.gone.length = 0) ∧ True) ∧ ∀ (t : OnceT), I t → BC (decide ((↑t.i : Int) < (↑x.snd.snd.length : Int))) (Exx (AllocT × Unit) fun x_4 => (((true =
 true ∧ NilNil ∧ (0 : Nat) = (0 : Nat)) ∧ True) ∧ true = true ∧ allocB t.s.a = allocB x_4.fst ∧ True) ∧ (AllocW x_4.fst ∧ True) ∧ ∀ (y : Unit), True → Exx (OnceT
 → Prop) fun I_1 => (((0 : Int) ≤ (↑t.i : Int) ∧ (↑t.i : Int) < (↑x.snd.snd.length : Int)) ∧ (2 : Int) ≠ (0 : Int) ∧ ∀ (n : Int), n = (x.snd.snd.getD (↑t.i :
 Int).toNat act21Z).kind.tmod 2 → BC (decide (n = (0 : Int))) (Exx (StoreT × TickT × Int) fun x_5 => (((true = true ∧ NilNil ∧ (0 : Nat) = (0 : Nat)) ∧ (Tr 1
 (t.t.blocks = x_5.snd.fst.blocks) ∧ Tr 1 (t.t.slots = x_5.snd.fst.slots) ∧ Tr 1 (t.t.gens = x_5.snd.fst.gens) ∧ Tr 1 (t.t.top = x_5.snd.fst.top) ∧ Tr 1
 (t.t.high = x_5.snd.fst.high) ∧ Tr 1 (t.t.free = x_5.snd.fst.free) ∧ True) ∧ Tr 1 ((50 : Int) = x_5.snd.snd) ∧ True) ∧ true = true ∧ ((105 : TypeId) = (105 :
 TypeId) ∧ (true = true ∧ NilNil ∧ (0 : Nat) = (0 : Nat)) ∧ (true = true ∧ NilNil ∧ (0 : Nat) = (0 : Nat)) ∧ True) ∧ devB t.s.ws = devB x_5.fst.ws ∧ allocB
 (markS x_4.fst) = allocB x_5.fst.a ∧ True) ∧ (StoreW x_5.fst ∧ TickI x_5.snd.fst ∧ I64 x_5.snd.snd) ∧ ∀ (y : Unit), True → BC (!decide (issE x_5.fst x_5.snd.fst
 x_5.snd.snd = (0 : Int))) (I64 ((↑t.i : Int) + 1) ∧ Exx OnceT fun t' => (I t' ∧ m t' < m t) ∧ Tr 2 (((5 : Nat) = (5 : Nat) ∧ x.snd.snd.length = x.snd.snd.length
 ∧ ∀ (i : Nat), i < x.snd.snd.length → [AV.int IntKind.i64 (x.snd.snd.getD i act21Z).kind, AV.int IntKind.i64 (x.snd.snd.getD i act21Z).block, AV.int IntKind.i64
 (x.snd.snd.getD i act21Z).h.slot, AV.int IntKind.i64 (x.snd.snd.getD i act21Z).h.gen, AV.bool (x.snd.snd.getD i act21Z).live] = [AV.int IntKind.i64
 (x.snd.snd.getD i act21Z).kind, AV.int IntKind.i64 (x.snd.snd.getD i act21Z).block, AV.int IntKind.i64 (x.snd.snd.getD i act21Z).h.slot, AV.int IntKind.i64
 (x.snd.snd.getD i act21Z).h.gen, AV.bool (x.snd.snd.getD i act21Z).live]) ∧ Tr 4 ((true = true ∧ NilNil ∧ (0 : Nat) = (0 : Nat)) ∧ Tr 1 ((true = true ∧ NilNil ∧
 (0 : Nat) = (0 : Nat)) ∧ Tr 1 ((↑(1 + x.fst % 6) : Int) = (↑(1 + x.fst % 6) : Int)) ∧ Tr 1 ((↑(1 + x.snd.fst % 3) : Int) = (↑(1 + x.snd.fst % 3) : Int)) ∧ (true
 = true ∧ NilNil ∧ (0 : Nat) = (0 : Nat)) ∧ (true = true ∧ NilNil ∧ (0 : Nat) = (0 : Nat) ∧ (2 : Nat) = (2 : Nat) ∧ (0 : Nat) = (0 : Nat) ∧ t.iss.length =
 t'.iss.length ∧ t.c1 = t'.c1) ∧ (true = true ∧ NilNil ∧ (0 : Nat) = (0 : Nat) ∧ (2 : Nat) = (2 : Nat) ∧ (0 : Nat) = (0 : Nat) ∧ t.gone.length = t'.gone.length ∧
 t.c2 = t'.c2) ∧ Tr 1 ((↑t.i : Int) + 1 = (↑t'.i : Int)) ∧ Tr 161 True))) ∧ true = true ∧ ((105 : TypeId) = (105 : TypeId) ∧ (true = true ∧ NilNil ∧ (0 : Nat) =
 (0 : Nat)) ∧ (true = true ∧ NilNil ∧ (0 : Nat) = (0 : Nat)) ∧ True) ∧ devB (issS x_5.fst x_5.snd.fst x_5.snd.snd).ws = devB t'.s.ws ∧ allocB (issS x_5.fst
 x_5.snd.fst x_5.snd.snd).a = allocB t'.s.a ∧ ((32 : TypeId) = (32 : TypeId) ∧ Tr 1 (t.t.blocks = t'.t.blocks) ∧ Tr 1 (t.t.slots = t'.t.slots) ∧ Tr 1 (t.t.gens =
 t'.t.gens) ∧ Tr 1 (t.t.top = t'.t.top) ∧ Tr 1 (t.t.high = t'.t.high) ∧ Tr 1 (t.t.free = t'.t.free) ∧ True) ∧ ((36 : TypeId) = (36 : TypeId) ∧ (2 : Nat) = (2 :
 Nat) ∧ t.c1 = t'.c1 ∧ t'.iss.length ≤ t.iss.length ∧ ∀ (i : Nat), i < t'.iss.length → [AV.int IntKind.i64 (t.iss.getD i handZ).slot, AV.int IntKind.i64
 (t.iss.getD i handZ).gen] = [AV.int IntKind.i64 (t'.iss.getD i handZ).slot, AV.int IntKind.i64 (t'.iss.getD i handZ).gen]) ∧ ((36 : TypeId) = (36 : TypeId) ∧ (2
 : Nat) = (2 : Nat) ∧ t.c2 = t'.c2 ∧ t'.gone.length ≤ t.gone.length ∧ ∀ (i : Nat), i < t'.gone.length → [AV.int IntKind.i64 (t.gone.getD i handZ).slot, AV.int
 IntKind.i64 (t.gone.getD i handZ).gen] = [AV.int IntKind.i64 (t'.gone.getD i handZ).slot, AV.int IntKind.i64 (t'.gone.getD i handZ).gen]) ∧ True) (BC (decide
 ((issH x_5.fst x_5.snd.fst x_5.snd.snd).slot < (0 : Int))) (Exx Unit fun y => ((false = true ∧ True) ∧ true = true ∧ True) ∧ True) (BC (decide ((↑(1 + x.fst %
 6) : Int) ≤ (issH x_5.fst x_5.snd.fst x_5.snd.snd).slot)) (Exx Unit fun y => ((false = true ∧ True) ∧ true = true ∧ True) ∧ True) (BC (decide ((issH x_5.fst
 x_5.snd.fst x_5.snd.snd).gen < (1 : Int))) (Exx Unit fun y => ((false = true ∧ True) ∧ true = true ∧ True) ∧ True) (BC (decide ((↑(1 + x.snd.fst % 3) : Int) <
 (issH x_5.fst x_5.snd.fst x_5.snd.snd).gen)) (Exx Unit fun y => ((false = true ∧ True) ∧ true = true ∧ True) ∧ True) (Exx (List HandT × HandT) fun x_6 => (((0 +
 t.iss.length ≤ t.iss.length ∧ t.iss.length = x_6.fst.length ∧ ∀ (i : Nat), i < x_6.fst.length → [AV.int IntKind.i64 (t.iss.getD (0 + i) handZ).slot, AV.int
 IntKind.i64 (t.iss.getD (0 + i) handZ).gen] = [AV.int IntKind.i64 (x_6.fst.getD i handZ).slot, AV.int IntKind.i64 (x_6.fst.getD i handZ).gen]) ∧ (Tr 1 ((issH
 x_5.fst x_5.snd.fst x_5.snd.snd).slot = x_6.snd.slot) ∧ Tr 1 ((issH x_5.fst x_5.snd.fst x_5.snd.snd).gen = x_6.snd.gen) ∧ True) ∧ True) ∧ true = true ∧ True) ∧
 (HandsI x_6.fst ∧ HandI x_6.snd) ∧ ∀ (y : Unit), True → BC (decide (x_6.snd ∈ x_6.fst)) (Exx Unit fun y => ((false = true ∧ True) ∧ true = true ∧ True) ∧ True)
 ((0 : Nat) + (1 : Nat) ≤ (1 : Nat) ∧ true = true ∧ (t.iss.length ≤ t.iss.length ∧ t.c1 = t.c1) ∧ (t.iss.length + 1 ≤ 9223372036854775807 ∧ (t.iss.length + 1) *
 16 ≤ 140737488355328) ∧ ∀ (cap : Nat), t.iss.length + 1 ≤ cap ∧ cap ≤ 9223372036854775807 → Exx OnceT fun t_1 => I_1 t_1 ∧ Tr 2 (((5 : Nat) = (5 : Nat) ∧
 x.snd.snd.length = x.snd.snd.length ∧ ∀ (i : Nat), i < x.snd.snd.length → [AV.int IntKind.i64 (x.snd.snd.getD i act21Z).kind, AV.int IntKind.i64 (x.snd.snd.getD
 i act21Z).block, AV.int IntKind.i64 (x.snd.snd.getD i act21Z).h.slot, AV.int IntKind.i64 (x.snd.snd.getD i act21Z).h.gen, AV.bool (x.snd.snd.getD i
 act21Z).live] = [AV.int IntKind.i64 (x.snd.snd.getD i act21Z).kind, AV.int IntKind.i64 (x.snd.snd.getD i act21Z).block, AV.int IntKind.i64 (x.snd.snd.getD i
 act21Z).h.slot, AV.int IntKind.i64 (x.snd.snd.getD i act21Z).h.gen, AV.bool (x.snd.snd.getD i act21Z).live]) ∧ Tr 4 ((true = true ∧ NilNil ∧ (0 : Nat) = (0 :
 Nat)) ∧ Tr 1 ((true = true ∧ NilNil ∧ (0 : Nat) = (0 : Nat)) ∧ Tr 1 ((↑(1 + x.fst % 6) : Int) = (↑(1 + x.fst % 6) : Int)) ∧ Tr 1 ((↑(1 + x.snd.fst % 3) : Int) =
 (↑(1 + x.snd.fst % 3) : Int)) ∧ (true = true ∧ NilNil ∧ (0 : Nat) = (0 : Nat)) ∧ (true = true ∧ NilNil ∧ (0 : Nat) = (0 : Nat) ∧ (2 : Nat) = (2 : Nat) ∧ (0 :
 Nat) = (0 : Nat) ∧ t.iss.length + 1 = t_1.iss.length ∧ cap = t_1.c1) ∧ (true = true ∧ NilNil ∧ (0 : Nat) = (0 : Nat) ∧ (2 : Nat) = (2 : Nat) ∧ (0 : Nat) = (0 :
 Nat) ∧ t.gone.length = t_1.gone.length ∧ t.c2 = t_1.c2) ∧ Tr 1 ((↑t.i : Int) = (↑t_1.i : Int)) ∧ Tr 161 True))) ∧ true = true ∧ ((105 : TypeId) = (105 : TypeId)
 ∧ (true = true ∧ NilNil ∧ (0 : Nat) = (0 : Nat)) ∧ (true = true ∧ NilNil ∧ (0 : Nat) = (0 : Nat)) ∧ True) ∧ devB (issS x_5.fst x_5.snd.fst x_5.snd.snd).ws =
 devB t_1.s.ws ∧ allocB (issS x_5.fst x_5.snd.fst x_5.snd.snd).a = allocB t_1.s.a ∧ ((32 : TypeId) = (32 : TypeId) ∧ Tr 1 ((issT x_5.fst x_5.snd.fst
 x_5.snd.snd).blocks = t_1.t.blocks) ∧ Tr 1 ((issT x_5.fst x_5.snd.fst x_5.snd.snd).slots = t_1.t.slots) ∧ Tr 1 ((issT x_5.fst x_5.snd.fst x_5.snd.snd).gens =
 t_1.t.gens) ∧ Tr 1 ((issT x_5.fst x_5.snd.fst x_5.snd.snd).top = t_1.t.top) ∧ Tr 1 ((issT x_5.fst x_5.snd.fst x_5.snd.snd).high = t_1.t.high) ∧ Tr 1 ((issT
 x_5.fst x_5.snd.fst x_5.snd.snd).free = t_1.t.free) ∧ True) ∧ ((36 : TypeId) = (36 : TypeId) ∧ (2 : Nat) = (2 : Nat) ∧ cap = t_1.c1 ∧ t_1.iss.length ≤
 t.iss.length + 1 ∧ ∀ (i : Nat), i < t_1.iss.length → (if i < t.iss.length then [AV.int IntKind.i64 (t.iss.getD i handZ).slot, AV.int IntKind.i64 (t.iss.getD i
 handZ).gen] else [AV.int IntKind.i64 (if 0 + (i - t.iss.length) = 0 * 2 / 2 then (issH x_5.fst x_5.snd.fst x_5.snd.snd).slot else 0), AV.int IntKind.i64 (if 0 +
 (i - t.iss.length) = 0 * 2 / 2 then (issH x_5.fst x_5.snd.fst x_5.snd.snd).gen else 0)]) = [AV.int IntKind.i64 (t_1.iss.getD i handZ).slot, AV.int IntKind.i64
 (t_1.iss.getD i handZ).gen]) ∧ ((36 : TypeId) = (36 : TypeId) ∧ (2 : Nat) = (2 : Nat) ∧ t.c2 = t_1.c2 ∧ t_1.gone.length ≤ t.gone.length ∧ ∀ (i : Nat), i <
 t_1.gone.length → [AV.int IntKind.i64 (t.gone.getD i handZ).slot, AV.int IntKind.i64 (t.gone.getD i handZ).gen] = [AV.int IntKind.i64 (t_1.gone.getD i
 handZ).slot, AV.int IntKind.i64 (t_1.gone.getD i handZ).gen]) ∧ True))))))) (BC (decide ((↑t.iss.length : Int) = (0 : Int))) (Exx (StoreT × TickT × Int) fun x_5
 => (((true = true ∧ NilNil ∧ (0 : Nat) = (0 : Nat)) ∧ (Tr 1 (t.t.blocks = x_5.snd.fst.blocks) ∧ Tr 1 (t.t.slots = x_5.snd.fst.slots) ∧ Tr 1 (t.t.gens =
 x_5.snd.fst.gens) ∧ Tr 1 (t.t.top = x_5.snd.fst.top) ∧ Tr 1 (t.t.high = x_5.snd.fst.high) ∧ Tr 1 (t.t.free = x_5.snd.fst.free) ∧ True) ∧ Tr 1 ((50 : Int) =
 x_5.snd.snd) ∧ True) ∧ true = true ∧ ((105 : TypeId) = (105 : TypeId) ∧ (true = true ∧ NilNil ∧ (0 : Nat) = (0 : Nat)) ∧ (true = true ∧ NilNil ∧ (0 : Nat) = (0
 : Nat)) ∧ True) ∧ devB t.s.ws = devB x_5.fst.ws ∧ allocB (markS x_4.fst) = allocB x_5.fst.a ∧ True) ∧ (StoreW x_5.fst ∧ TickI x_5.snd.fst ∧ I64 x_5.snd.snd) ∧ ∀
 (y : Unit), True → BC (!decide (issE x_5.fst x_5.snd.fst x_5.snd.snd = (0 : Int))) (I64 ((↑t.i : Int) + 1) ∧ Exx OnceT fun t' => (I t' ∧ m t' < m t) ∧ Tr 2 (((5
 : Nat) = (5 : Nat) ∧ x.snd.snd.length = x.snd.snd.length ∧ ∀ (i : Nat), i < x.snd.snd.length → [AV.int IntKind.i64 (x.snd.snd.getD i act21Z).kind, AV.int
 IntKind.i64 (x.snd.snd.getD i act21Z).block, AV.int IntKind.i64 (x.snd.snd.getD i act21Z).h.slot, AV.int IntKind.i64 (x.snd.snd.getD i act21Z).h.gen, AV.bool
 (x.snd.snd.getD i act21Z).live] = [AV.int IntKind.i64 (x.snd.snd.getD i act21Z).kind, AV.int IntKind.i64 (x.snd.snd.getD i act21Z).block, AV.int IntKind.i64
 (x.snd.snd.getD i act21Z).h.slot, AV.int IntKind.i64 (x.snd.snd.getD i act21Z).h.gen, AV.bool (x.snd.snd.getD i act21Z).live]) ∧ Tr 4 ((true = true ∧ NilNil ∧
 (0 : Nat) = (0 : Nat)) ∧ Tr 1 ((true = true ∧ NilNil ∧ (0 : Nat) = (0 : Nat)) ∧ Tr 1 ((↑(1 + x.fst % 6) : Int) = (↑(1 + x.fst % 6) : Int)) ∧ Tr 1 ((↑(1 +
 x.snd.fst % 3) : Int) = (↑(1 + x.snd.fst % 3) : Int)) ∧ (true = true ∧ NilNil ∧ (0 : Nat) = (0 : Nat)) ∧ (true = true ∧ NilNil ∧ (0 : Nat) = (0 : Nat) ∧ (2 :
 Nat) = (2 : Nat) ∧ (0 : Nat) = (0 : Nat) ∧ t.iss.length = t'.iss.length ∧ t.c1 = t'.c1) ∧ (true = true ∧ NilNil ∧ (0 : Nat) = (0 : Nat) ∧ (2 : Nat) = (2 : Nat)
 ∧ (0 : Nat) = (0 : Nat) ∧ t.gone.length = t'.gone.length ∧ t.c2 = t'.c2) ∧ Tr 1 ((↑t.i : Int) + 1 = (↑t'.i : Int)) ∧ Tr 161 True))) ∧ true = true ∧ ((105 :
 TypeId) = (105 : TypeId) ∧ (true = true ∧ NilNil ∧ (0 : Nat) = (0 : Nat)) ∧ (true = true ∧ NilNil ∧ (0 : Nat) = (0 : Nat)) ∧ True) ∧ devB (issS x_5.fst
 x_5.snd.fst x_5.snd.snd).ws = devB t'.s.ws ∧ allocB (issS x_5.fst x_5.snd.fst x_5.snd.snd).a = allocB t'.s.a ∧ ((32 : TypeId) = (32 : TypeId) ∧ Tr 1 (t.t.blocks
 = t'.t.blocks) ∧ Tr 1 (t.t.slots = t'.t.slots) ∧ Tr 1 (t.t.gens = t'.t.gens) ∧ Tr 1 (t.t.top = t'.t.top) ∧ Tr 1 (t.t.high = t'.t.high) ∧ Tr 1 (t.t.free =
 t'.t.free) ∧ True) ∧ ((36 : TypeId) = (36 : TypeId) ∧ (2 : Nat) = (2 : Nat) ∧ t.c1 = t'.c1 ∧ t'.iss.length ≤ t.iss.length ∧ ∀ (i : Nat), i < t'.iss.length →
 [AV.int IntKind.i64 (t.iss.getD i handZ).slot, AV.int IntKind.i64 (t.iss.getD i handZ).gen] = [AV.int IntKind.i64 (t'.iss.getD i handZ).slot, AV.int IntKind.i64
 (t'.iss.getD i handZ).gen]) ∧ ((36 : TypeId) = (36 : TypeId) ∧ (2 : Nat) = (2 : Nat) ∧ t.c2 = t'.c2 ∧ t'.gone.length ≤ t.gone.length ∧ ∀ (i : Nat), i <
 t'.gone.length → [AV.int IntKind.i64 (t.gone.getD i handZ).slot, AV.int IntKind.i64 (t.gone.getD i handZ).gen] = [AV.int IntKind.i64 (t'.gone.getD i
 handZ).slot, AV.int IntKind.i64 (t'.gone.getD i handZ).gen]) ∧ True) (BC (decide ((issH x_5.fst x_5.snd.fst x_5.snd.snd).slot < (0 : Int))) (Exx Unit fun y =>
 ((false = true ∧ True) ∧ true = true ∧ True) ∧ True) (BC (decide ((↑(1 + x.fst % 6) : Int) ≤ (issH x_5.fst x_5.snd.fst x_5.snd.snd).slot)) (Exx Unit fun y =>
 ((false = true ∧ True) ∧ true = true ∧ True) ∧ True) (BC (decide ((issH x_5.fst x_5.snd.fst x_5.snd.snd).gen < (1 : Int))) (Exx Unit fun y => ((false = true ∧
 True) ∧ true = true ∧ True) ∧ True) (BC (decide ((↑(1 + x.snd.fst % 3) : Int) < (issH x_5.fst x_5.snd.fst x_5.snd.snd).gen)) (Exx Unit fun y => ((false = true ∧
 True) ∧ true = true ∧ True) ∧ True) (Exx (List HandT × HandT) fun x_6 => (((0 + t.iss.length ≤ t.iss.length ∧ t.iss.length = x_6.fst.length ∧ ∀ (i : Nat), i <
 x_6.fst.length → [AV.int IntKind.i64 (t.iss.getD (0 + i) handZ).slot, AV.int IntKind.i64 (t.iss.getD (0 + i) handZ).gen] = [AV.int IntKind.i64 (x_6.fst.getD i
 handZ).slot, AV.int IntKind.i64 (x_6.fst.getD i handZ).gen]) ∧ (Tr 1 ((issH x_5.fst x_5.snd.fst x_5.snd.snd).slot = x_6.snd.slot) ∧ Tr 1 ((issH x_5.fst
 x_5.snd.fst x_5.snd.snd).gen = x_6.snd.gen) ∧ True) ∧ True) ∧ true = true ∧ True) ∧ (HandsI x_6.fst ∧ HandI x_6.snd) ∧ ∀ (y : Unit), True → BC (decide (x_6.snd
 ∈ x_6.fst)) (Exx Unit fun y => ((false = true ∧ True) ∧ true = true ∧ True) ∧ True) ((0 : Nat) + (1 : Nat) ≤ (1 : Nat) ∧ true = true ∧ (t.iss.length ≤
 t.iss.length ∧ t.c1 = t.c1) ∧ (t.iss.length + 1 ≤ 9223372036854775807 ∧ (t.iss.length + 1) * 16 ≤ 140737488355328) ∧ ∀ (cap : Nat), t.iss.length + 1 ≤ cap ∧ cap
 ≤ 9223372036854775807 → Exx OnceT fun t_1 => I_1 t_1 ∧ Tr 2 (((5 : Nat) = (5 : Nat) ∧ x.snd.snd.length = x.snd.snd.length ∧ ∀ (i : Nat), i < x.snd.snd.length →
 [AV.int IntKind.i64 (x.snd.snd.getD i act21Z).kind, AV.int IntKind.i64 (x.snd.snd.getD i act21Z).block, AV.int IntKind.i64 (x.snd.snd.getD i act21Z).h.slot,
 AV.int IntKind.i64 (x.snd.snd.getD i act21Z).h.gen, AV.bool (x.snd.snd.getD i act21Z).live] = [AV.int IntKind.i64 (x.snd.snd.getD i act21Z).kind, AV.int
 IntKind.i64 (x.snd.snd.getD i act21Z).block, AV.int IntKind.i64 (x.snd.snd.getD i act21Z).h.slot, AV.int IntKind.i64 (x.snd.snd.getD i act21Z).h.gen, AV.bool
 (x.snd.snd.getD i act21Z).live]) ∧ Tr 4 ((true = true ∧ NilNil ∧ (0 : Nat) = (0 : Nat)) ∧ Tr 1 ((true = true ∧ NilNil ∧ (0 : Nat) = (0 : Nat)) ∧ Tr 1 ((↑(1 +
 x.fst % 6) : Int) = (↑(1 + x.fst % 6) : Int)) ∧ Tr 1 ((↑(1 + x.snd.fst % 3) : Int) = (↑(1 + x.snd.fst % 3) : Int)) ∧ (true = true ∧ NilNil ∧ (0 : Nat) = (0 :
 Nat)) ∧ (true = true ∧ NilNil ∧ (0 : Nat) = (0 : Nat) ∧ (2 : Nat) = (2 : Nat) ∧ (0 : Nat) = (0 : Nat) ∧ t.iss.length + 1 = t_1.iss.length ∧ cap = t_1.c1) ∧
 (true = true ∧ NilNil ∧ (0 : Nat) = (0 : Nat) ∧ (2 : Nat) = (2 : Nat) ∧ (0 : Nat) = (0 : Nat) ∧ t.gone.length = t_1.gone.length ∧ t.c2 = t_1.c2) ∧ Tr 1 ((↑t.i :
 Int) = (↑t_1.i : Int)) ∧ Tr 161 True))) ∧ true = true ∧ ((105 : TypeId) = (105 : TypeId) ∧ (true = true ∧ NilNil ∧ (0 : Nat) = (0 : Nat)) ∧ (true = true ∧
 NilNil ∧ (0 : Nat) = (0 : Nat)) ∧ True) ∧ devB (issS x_5.fst x_5.snd.fst x_5.snd.snd).ws = devB t_1.s.ws ∧ allocB (issS x_5.fst x_5.snd.fst x_5.snd.snd).a =
 allocB t_1.s.a ∧ ((32 : TypeId) = (32 : TypeId) ∧ Tr 1 ((issT x_5.fst x_5.snd.fst x_5.snd.snd).blocks = t_1.t.blocks) ∧ Tr 1 ((issT x_5.fst x_5.snd.fst
 x_5.snd.snd).slots = t_1.t.slots) ∧ Tr 1 ((issT x_5.fst x_5.snd.fst x_5.snd.snd).gens = t_1.t.gens) ∧ Tr 1 ((issT x_5.fst x_5.snd.fst x_5.snd.snd).top =
 t_1.t.top) ∧ Tr 1 ((issT x_5.fst x_5.snd.fst x_5.snd.snd).high = t_1.t.high) ∧ Tr 1 ((issT x_5.fst x_5.snd.fst x_5.snd.snd).free = t_1.t.free) ∧ True) ∧ ((36 :
 TypeId) = (36 : TypeId) ∧ (2 : Nat) = (2 : Nat) ∧ cap = t_1.c1 ∧ t_1.iss.length ≤ t.iss.length + 1 ∧ ∀ (i : Nat), i < t_1.iss.length → (if i < t.iss.length then
 [AV.int IntKind.i64 (t.iss.getD i handZ).slot, AV.int IntKind.i64 (t.iss.getD i handZ).gen] else [AV.int IntKind.i64 (if 0 + (i - t.iss.length) = 0 * 2 / 2 then
 (issH x_5.fst x_5.snd.fst x_5.snd.snd).slot else 0), AV.int IntKind.i64 (if 0 + (i - t.iss.length) = 0 * 2 / 2 then (issH x_5.fst x_5.snd.fst x_5.snd.snd).gen
 else 0)]) = [AV.int IntKind.i64 (t_1.iss.getD i handZ).slot, AV.int IntKind.i64 (t_1.iss.getD i handZ).gen]) ∧ ((36 : TypeId) = (36 : TypeId) ∧ (2 : Nat) = (2 :
 Nat) ∧ t.c2 = t_1.c2 ∧ t_1.gone.length ≤ t.gone.length ∧ ∀ (i : Nat), i < t_1.gone.length → [AV.int IntKind.i64 (t.gone.getD i handZ).slot, AV.int IntKind.i64
 (t.gone.getD i handZ).gen] = [AV.int IntKind.i64 (t_1.gone.getD i handZ).slot, AV.int IntKind.i64 (t_1.gone.getD i handZ).gen]) ∧ True))))))) (((0 : Int) ≤
 (↑t.i : Int) ∧ (↑t.i : Int) < (↑x.snd.snd.length : Int)) ∧ Exx (Int × Int) fun x_5 => ((Tr 1 ((x.snd.snd.getD (↑t.i : Int).toNat act21Z).h.slot = x_5.fst) ∧ Tr
 1 ((↑t.iss.length : Int) = x_5.snd) ∧ True) ∧ true = true ∧ True) ∧ (I64 x_5.fst ∧ (1 : Int) ≤ x_5.snd ∧ x_5.snd ≤ (1000000 : Int)) ∧ ∀ (y : Unit), True → ((0 :
 Int) ≤ x_5.fst % x_5.snd ∧ x_5.fst % x_5.snd < (↑t.iss.length : Int)) ∧ 0 + (x_5.fst % x_5.snd).toNat < t.iss.length ∧ Exx (StoreT × TickT × HandT) fun x_6 =>
 (((true = true ∧ NilNil ∧ (0 : Nat) = (0 : Nat)) ∧ (Tr 1 (t.t.blocks = x_6.snd.fst.blocks) ∧ Tr 1 (t.t.slots = x_6.snd.fst.slots) ∧ Tr 1 (t.t.gens =
 x_6.snd.fst.gens) ∧ Tr 1 (t.t.top = x_6.snd.fst.top) ∧ Tr 1 (t.t.high = x_6.snd.fst.high) ∧ Tr 1 (t.t.free = x_6.snd.fst.free) ∧ True) ∧ (Tr 1 ((t.iss.getD (0 +
 (x_5.fst % x_5.snd).toNat) handZ).slot = x_6.snd.snd.slot) ∧ Tr 1 ((t.iss.getD (0 + (x_5.fst % x_5.snd).toNat) handZ).gen = x_6.snd.snd.gen) ∧ True) ∧ True) ∧
 true = true ∧ ((105 : TypeId) = (105 : TypeId) ∧ (true = true ∧ NilNil ∧ (0 : Nat) = (0 : Nat)) ∧ (true = true ∧ NilNil ∧ (0 : Nat) = (0 : Nat)) ∧ True) ∧ devB
 t.s.ws = devB x_6.fst.ws ∧ allocB (markS x_4.fst) = allocB x_6.fst.a ∧ True) ∧ (StoreW x_6.fst ∧ TickI x_6.snd.fst ∧ HandI x_6.snd.snd) ∧ ∀ (y : Unit), True →
 Exx (List HandT × HandT) fun x_7 => (((0 + t.gone.length ≤ t.gone.length ∧ t.gone.length = x_7.fst.length ∧ ∀ (i : Nat), i < x_7.fst.length → [AV.int
 IntKind.i64 (t.gone.getD (0 + i) handZ).slot, AV.int IntKind.i64 (t.gone.getD (0 + i) handZ).gen] = [AV.int IntKind.i64 (x_7.fst.getD i handZ).slot, AV.int
 IntKind.i64 (x_7.fst.getD i handZ).gen]) ∧ (Tr 1 ((t.iss.getD (0 + (x_5.fst % x_5.snd).toNat) handZ).slot = x_7.snd.slot) ∧ Tr 1 ((t.iss.getD (0 + (x_5.fst %
 x_5.snd).toNat) handZ).gen = x_7.snd.gen) ∧ True) ∧ True) ∧ true = true ∧ True) ∧ (HandsI x_7.fst ∧ HandI x_7.snd) ∧ ∀ (y : Unit), True → BC (decide (relE
 x_6.fst x_6.snd.fst x_6.snd.snd = (0 : Int)) == decide (x_7.snd ∈ x_7.fst)) (Exx Unit fun y => ((false = true ∧ True) ∧ true = true ∧ True) ∧ True) (BC (decide
 (relE x_6.fst x_6.snd.fst x_6.snd.snd = (0 : Int))) ((0 : Nat) + (1 : Nat) ≤ (1 : Nat) ∧ true = true ∧ (t.gone.length ≤ t.gone.length ∧ t.c2 = t.c2) ∧
 (t.gone.length + 1 ≤ 9223372036854775807 ∧ (t.gone.length + 1) * 16 ≤ 140737488355328) ∧ ∀ (cap : Nat), t.gone.length + 1 ≤ cap ∧ cap ≤ 9223372036854775807 →
 Exx OnceT fun t_1 => I_1 t_1 ∧ Tr 2 (((5 : Nat) = (5 : Nat) ∧ x.snd.snd.length = x.snd.snd.length ∧ ∀ (i : Nat), i < x.snd.snd.length → [AV.int IntKind.i64
 (x.snd.snd.getD i act21Z).kind, AV.int IntKind.i64 (x.snd.snd.getD i act21Z).block, AV.int IntKind.i64 (x.snd.snd.getD i act21Z).h.slot, AV.int IntKind.i64
 (x.snd.snd.getD i act21Z).h.gen, AV.bool (x.snd.snd.getD i act21Z).live] = [AV.int IntKind.i64 (x.snd.snd.getD i act21Z).kind, AV.int IntKind.i64
 (x.snd.snd.getD i act21Z).block, AV.int IntKind.i64 (x.snd.snd.getD i act21Z).h.slot, AV.int IntKind.i64 (x.snd.snd.getD i act21Z).h.gen, AV.bool
 (x.snd.snd.getD i act21Z).live]) ∧ Tr 4 ((true = true ∧ NilNil ∧ (0 : Nat) = (0 : Nat)) ∧ Tr 1 ((true = true ∧ NilNil ∧ (0 : Nat) = (0 : Nat)) ∧ Tr 1 ((↑(1 +
 x.fst % 6) : Int) = (↑(1 + x.fst % 6) : Int)) ∧ Tr 1 ((↑(1 + x.snd.fst % 3) : Int) = (↑(1 + x.snd.fst % 3) : Int)) ∧ (true = true ∧ NilNil ∧ (0 : Nat) = (0 :
 Nat)) ∧ (true = true ∧ NilNil ∧ (0 : Nat) = (0 : Nat) ∧ (2 : Nat) = (2 : Nat) ∧ (0 : Nat) = (0 : Nat) ∧ t.iss.length = t_1.iss.length ∧ t.c1 = t_1.c1) ∧ (true =
 true ∧ NilNil ∧ (0 : Nat) = (0 : Nat) ∧ (2 : Nat) = (2 : Nat) ∧ (0 : Nat) = (0 : Nat) ∧ t.gone.length + 1 = t_1.gone.length ∧ cap = t_1.c2) ∧ Tr 1 ((↑t.i : Int)
 = (↑t_1.i : Int)) ∧ Tr 161 True))) ∧ true = true ∧ ((105 : TypeId) = (105 : TypeId) ∧ (true = true ∧ NilNil ∧ (0 : Nat) = (0 : Nat)) ∧ (true = true ∧ NilNil ∧
 (0 : Nat) = (0 : Nat)) ∧ True) ∧ devB (relS x_6.fst x_6.snd.fst x_6.snd.snd).ws = devB t_1.s.ws ∧ allocB (relS x_6.fst x_6.snd.fst x_6.snd.snd).a = allocB
 t_1.s.a ∧ ((32 : TypeId) = (32 : TypeId) ∧ Tr 1 ((relT x_6.fst x_6.snd.fst x_6.snd.snd).blocks = t_1.t.blocks) ∧ Tr 1 ((relT x_6.fst x_6.snd.fst
 x_6.snd.snd).slots = t_1.t.slots) ∧ Tr 1 ((relT x_6.fst x_6.snd.fst x_6.snd.snd).gens = t_1.t.gens) ∧ Tr 1 ((relT x_6.fst x_6.snd.fst x_6.snd.snd).top =
 t_1.t.top) ∧ Tr 1 ((relT x_6.fst x_6.snd.fst x_6.snd.snd).high = t_1.t.high) ∧ Tr 1 ((relT x_6.fst x_6.snd.fst x_6.snd.snd).free = t_1.t.free) ∧ True) ∧ ((36 :
 TypeId) = (36 : TypeId) ∧ (2 : Nat) = (2 : Nat) ∧ t.c1 = t_1.c1 ∧ t_1.iss.length ≤ t.iss.length ∧ ∀ (i : Nat), i < t_1.iss.length → [AV.int IntKind.i64
 (t.iss.getD i handZ).slot, AV.int IntKind.i64 (t.iss.getD i handZ).gen] = [AV.int IntKind.i64 (t_1.iss.getD i handZ).slot, AV.int IntKind.i64 (t_1.iss.getD i
 handZ).gen]) ∧ ((36 : TypeId) = (36 : TypeId) ∧ (2 : Nat) = (2 : Nat) ∧ cap = t_1.c2 ∧ t_1.gone.length ≤ t.gone.length + 1 ∧ ∀ (i : Nat), i < t_1.gone.length →
 (if i < t.gone.length then [AV.int IntKind.i64 (t.gone.getD i handZ).slot, AV.int IntKind.i64 (t.gone.getD i handZ).gen] else [AV.int IntKind.i64 (if 0 + (i -
 t.gone.length) = 0 * 2 / 2 then (t.iss.getD (0 + (x_5.fst % x_5.snd).toNat) handZ).slot else 0), AV.int IntKind.i64 (if 0 + (i - t.gone.length) = 0 * 2 / 2 then
 (t.iss.getD (0 + (x_5.fst % x_5.snd).toNat) handZ).gen else 0)]) = [AV.int IntKind.i64 (t_1.gone.getD i handZ).slot, AV.int IntKind.i64 (t_1.gone.getD i
 handZ).gen]) ∧ True) (Exx OnceT fun t_1 => I_1 t_1 ∧ Tr 2 (((5 : Nat) = (5 : Nat) ∧ x.snd.snd.length = x.snd.snd.length ∧ ∀ (i : Nat), i < x.snd.snd.length →
 [AV.int IntKind.i64 (x.snd.snd.getD i act21Z).kind, AV.int IntKind.i64 (x.snd.snd.getD i act21Z).block, AV.int IntKind.i64 (x.snd.snd.getD i act21Z).h.slot,
 AV.int IntKind.i64 (x.snd.snd.getD i act21Z).h.gen, AV.bool (x.snd.snd.getD i act21Z).live] = [AV.int IntKind.i64 (x.snd.snd.getD i act21Z).kind, AV.int
 IntKind.i64 (x.snd.snd.getD i act21Z).block, AV.int IntKind.i64 (x.snd.snd.getD i act21Z).h.slot, AV.int IntKind.i64 (x.snd.snd.getD i act21Z).h.gen, AV.bool
 (x.snd.snd.getD i act21Z).live]) ∧ Tr 4 ((true = true ∧ NilNil ∧ (0 : Nat) = (0 : Nat)) ∧ Tr 1 ((true = true ∧ NilNil ∧ (0 : Nat) = (0 : Nat)) ∧ Tr 1 ((↑(1 +
 x.fst % 6) : Int) = (↑(1 + x.fst % 6) : Int)) ∧ Tr 1 ((↑(1 + x.snd.fst % 3) : Int) = (↑(1 + x.snd.fst % 3) : Int)) ∧ (true = true ∧ NilNil ∧ (0 : Nat) = (0 :
 Nat)) ∧ (true = true ∧ NilNil ∧ (0 : Nat) = (0 : Nat) ∧ (2 : Nat) = (2 : Nat) ∧ (0 : Nat) = (0 : Nat) ∧ t.iss.length = t_1.iss.length ∧ t.c1 = t_1.c1) ∧ (true =
 true ∧ NilNil ∧ (0 : Nat) = (0 : Nat) ∧ (2 : Nat) = (2 : Nat) ∧ (0 : Nat) = (0 : Nat) ∧ t.gone.length = t_1.gone.length ∧ t.c2 = t_1.c2) ∧ Tr 1 ((↑t.i : Int) =
 (↑t_1.i : Int)) ∧ Tr 161 True))) ∧ true = true ∧ ((105 : TypeId) = (105 : TypeId) ∧ (true = true ∧ NilNil ∧ (0 : Nat) = (0 : Nat)) ∧ (true = true ∧ NilNil ∧ (0
 : Nat) = (0 : Nat)) ∧ True) ∧ devB (relS x_6.fst x_6.snd.fst x_6.snd.snd).ws = devB t_1.s.ws ∧ allocB (relS x_6.fst x_6.snd.fst x_6.snd.snd).a = allocB t_1.s.a
 ∧ ((32 : TypeId) = (32 : TypeId) ∧ Tr 1 (t.t.blocks = t_1.t.blocks) ∧ Tr 1 (t.t.slots = t_1.t.slots) ∧ Tr 1 (t.t.gens = t_1.t.gens) ∧ Tr 1 (t.t.top = t_1.t.top)
 ∧ Tr 1 (t.t.high = t_1.t.high) ∧ Tr 1 (t.t.free = t_1.t.free) ∧ True) ∧ ((36 : TypeId) = (36 : TypeId) ∧ (2 : Nat) = (2 : Nat) ∧ t.c1 = t_1.c1 ∧ t_1.iss.length
 ≤ t.iss.length ∧ ∀ (i : Nat), i < t_1.iss.length → [AV.int IntKind.i64 (t.iss.getD i handZ).slot, AV.int IntKind.i64 (t.iss.getD i handZ).gen] = [AV.int
 IntKind.i64 (t_1.iss.getD i handZ).slot, AV.int IntKind.i64 (t_1.iss.getD i handZ).gen]) ∧ ((36 : TypeId) = (36 : TypeId) ∧ (2 : Nat) = (2 : Nat) ∧ t.c2 =
 t_1.c2 ∧ t_1.gone.length ≤ t.gone.length ∧ ∀ (i : Nat), i < t_1.gone.length → [AV.int IntKind.i64 (t.gone.getD i handZ).slot, AV.int IntKind.i64 (t.gone.getD i
 handZ).gen] = [AV.int IntKind.i64 (t_1.gone.getD i handZ).slot, AV.int IntKind.i64 (t_1.gone.getD i handZ).gen]) ∧ True))))) ∧ ∀ (t_1 : OnceT), I_1 t_1 → Exx
 (OnceT × Nat → Prop) fun I_2 => Exx (OnceT × Nat → Nat) fun m_1 => (Exx (OnceT × Nat) fun t => I_2 t ∧ Tr 2 (((5 : Nat) = (5 : Nat) ∧ x.snd.snd.length =
 x.snd.snd.length ∧ ∀ (i : Nat), i < x.snd.snd.length → [AV.int IntKind.i64 (x.snd.snd.getD i act21Z).kind, AV.int IntKind.i64 (x.snd.snd.getD i act21Z).block,
 AV.int IntKind.i64 (x.snd.snd.getD i act21Z).h.slot, AV.int IntKind.i64 (x.snd.snd.getD i act21Z).h.gen, AV.bool (x.snd.snd.getD i act21Z).live] = [AV.int
 IntKind.i64 (x.snd.snd.getD i act21Z).kind, AV.int IntKind.i64 (x.snd.snd.getD i act21Z).block, AV.int IntKind.i64 (x.snd.snd.getD i act21Z).h.slot, AV.int
 IntKind.i64 (x.snd.snd.getD i act21Z).h.gen, AV.bool (x.snd.snd.getD i act21Z).live]) ∧ Tr 4 ((true = true ∧ NilNil ∧ (0 : Nat) = (0 : Nat)) ∧ Tr 1 ((true =
 true ∧ NilNil ∧ (0 : Nat) = (0 : Nat)) ∧ Tr 1 ((↑(1 + x.fst % 6) : Int) = (↑(1 + x.fst % 6) : Int)) ∧ Tr 1 ((↑(1 + x.snd.fst % 3) : Int) = (↑(1 + x.snd.fst % 3)
 : Int)) ∧ (true = true ∧ NilNil ∧ (0 : Nat) = (0 : Nat)) ∧ (true = true ∧ NilNil ∧ (0 : Nat) = (0 : Nat) ∧ (2 : Nat) = (2 : Nat) ∧ (0 : Nat) = (0 : Nat) ∧
 t_1.iss.length = t.fst.iss.length ∧ t_1.c1 = t.fst.c1) ∧ (true = true ∧ NilNil ∧ (0 : Nat) = (0 : Nat) ∧ (2 : Nat) = (2 : Nat) ∧ (0 : Nat) = (0 : Nat) ∧
 t_1.gone.length = t.fst.gone.length ∧ t_1.c2 = t.fst.c2) ∧ Tr 1 ((↑t_1.i : Int) = (↑t.fst.i : Int)) ∧ Tr 6 (Tr 1 ((0 : Int) = (↑t.snd : Int)) ∧ Tr 154 True))))
 ∧ true = true ∧ ((105 : TypeId) = (105 : TypeId) ∧ (true = true ∧ NilNil ∧ (0 : Nat) = (0 : Nat)) ∧ (true = true ∧ NilNil ∧ (0 : Nat) = (0 : Nat)) ∧ True) ∧
 devB t_1.s.ws = devB t.fst.s.ws ∧ allocB t_1.s.a = allocB t.fst.s.a ∧ ((32 : TypeId) = (32 : TypeId) ∧ Tr 1 (t_1.t.blocks = t.fst.t.blocks) ∧ Tr 1 (t_1.t.slots
 = t.fst.t.slots) ∧ Tr 1 (t_1.t.gens = t.fst.t.gens) ∧ Tr 1 (t_1.t.top = t.fst.t.top) ∧ Tr 1 (t_1.t.high = t.fst.t.high) ∧ Tr 1 (t_1.t.free = t.fst.t.free) ∧
 True) ∧ ((36 : TypeId) = (36 : TypeId) ∧ (2 : Nat) = (2 : Nat) ∧ t_1.c1 = t.fst.c1 ∧ t.fst.iss.length ≤ t_1.iss.length ∧ ∀ (i : Nat), i < t.fst.iss.length →
 [AV.int IntKind.i64 (t_1.iss.getD i handZ).slot, AV.int IntKind.i64 (t_1.iss.getD i handZ).gen] = [AV.int IntKind.i64 (t.fst.iss.getD i handZ).slot, AV.int
 IntKind.i64 (t.fst.iss.getD i handZ).gen]) ∧ ((36 : TypeId) = (36 : TypeId) ∧ (2 : Nat) = (2 : Nat) ∧ t_1.c2 = t.fst.c2 ∧ t.fst.gone.length ≤ t_1.gone.length ∧
 ∀ (i : Nat), i < t.fst.gone.length → [AV.int IntKind.i64 (t_1.gone.getD i handZ).slot, AV.int IntKind.i64 (t_1.gone.getD i handZ).gen] = [AV.int IntKind.i64
 (t.fst.gone.getD i handZ).slot, AV.int IntKind.i64 (t.fst.gone.getD i handZ).gen]) ∧ True) ∧ ∀ (t_2 : OnceT × Nat), I_2 t_2 → BC (decide ((↑t_2.snd : Int) <
 (↑t_2.fst.iss.length : Int))) (((0 : Int) ≤ (↑t_2.snd : Int) ∧ (↑t_2.snd : Int) < (↑t_2.fst.iss.length : Int)) ∧ 0 + (↑t_2.snd : Int).toNat < t_2.fst.iss.length
 ∧ Exx (StoreT × TickT × HandT) fun x_5 => (((true = true ∧ NilNil ∧ (0 : Nat) = (0 : Nat)) ∧ (Tr 1 (t_2.fst.t.blocks = x_5.snd.fst.blocks) ∧ Tr 1
 (t_2.fst.t.slots = x_5.snd.fst.slots) ∧ Tr 1 (t_2.fst.t.gens = x_5.snd.fst.gens) ∧ Tr 1 (t_2.fst.t.top = x_5.snd.fst.top) ∧ Tr 1 (t_2.fst.t.high =
 x_5.snd.fst.high) ∧ Tr 1 (t_2.fst.t.free = x_5.snd.fst.free) ∧ True) ∧ (Tr 1 ((t_2.fst.iss.getD (0 + (↑t_2.snd : Int).toNat) handZ).slot = x_5.snd.snd.slot) ∧
 Tr 1 ((t_2.fst.iss.getD (0 + (↑t_2.snd : Int).toNat) handZ).gen = x_5.snd.snd.gen) ∧ True) ∧ True) ∧ true = true ∧ ((105 : TypeId) = (105 : TypeId) ∧ (true =
 true ∧ NilNil ∧ (0 : Nat) = (0 : Nat)) ∧ (true = true ∧ NilNil ∧ (0 : Nat) = (0 : Nat)) ∧ True) ∧ devB t_2.fst.s.ws = devB x_5.fst.ws ∧ allocB t_2.fst.s.a =
 allocB x_5.fst.a ∧ True) ∧ (StoreW x_5.fst ∧ TickI x_5.snd.fst ∧ HandI x_5.snd.snd) ∧ ∀ (y : Unit), True → ((0 : Int) ≤ (↑t_2.snd : Int) ∧ (↑t_2.snd : Int) <
 (↑t_2.fst.iss.length : Int)) ∧ 0 + (↑t_2.snd : Int).toNat < t_2.fst.iss.length ∧ Exx (List HandT × HandT) fun x_6 => (((0 + t_2.fst.gone.length ≤
 t_2.fst.gone.length ∧ t_2.fst.gone.length = x_6.fst.length ∧ ∀ (i : Nat), i < x_6.fst.length → [AV.int IntKind.i64 (t_2.fst.gone.getD (0 + i) handZ).slot,
 AV.int IntKind.i64 (t_2.fst.gone.getD (0 + i) handZ).gen] = [AV.int IntKind.i64 (x_6.fst.getD i handZ).slot, AV.int IntKind.i64 (x_6.fst.getD i handZ).gen]) ∧
 (Tr 1 ((t_2.fst.iss.getD (0 + (↑t_2.snd : Int).toNat) handZ).slot = x_6.snd.slot) ∧ Tr 1 ((t_2.fst.iss.getD (0 + (↑t_2.snd : Int).toNat) handZ).gen =
 x_6.snd.gen) ∧ True) ∧ True) ∧ true = true ∧ True) ∧ (HandsI x_6.fst ∧ HandI x_6.snd) ∧ ∀ (y : Unit), True → BC (decide (seatE x_5.fst.ws x_5.snd.fst
 x_5.snd.snd = (0 : Int)) == decide (x_6.snd ∈ x_6.fst)) (Exx Unit fun y => ((false = true ∧ True) ∧ true = true ∧ True) ∧ True) (I64 ((↑t_2.snd : Int) + 1) ∧
 Exx (OnceT × Nat) fun t' => (I_2 t' ∧ m_1 t' < m_1 t_2) ∧ Tr 2 (((5 : Nat) = (5 : Nat) ∧ x.snd.snd.length = x.snd.snd.length ∧ ∀ (i : Nat), i < x.snd.snd.length
 → [AV.int IntKind.i64 (x.snd.snd.getD i act21Z).kind, AV.int IntKind.i64 (x.snd.snd.getD i act21Z).block, AV.int IntKind.i64 (x.snd.snd.getD i act21Z).h.slot,
 AV.int IntKind.i64 (x.snd.snd.getD i act21Z).h.gen, AV.bool (x.snd.snd.getD i act21Z).live] = [AV.int IntKind.i64 (x.snd.snd.getD i act21Z).kind, AV.int
 IntKind.i64 (x.snd.snd.getD i act21Z).block, AV.int IntKind.i64 (x.snd.snd.getD i act21Z).h.slot, AV.int IntKind.i64 (x.snd.snd.getD i act21Z).h.gen, AV.bool
 (x.snd.snd.getD i act21Z).live]) ∧ Tr 4 ((true = true ∧ NilNil ∧ (0 : Nat) = (0 : Nat)) ∧ Tr 1 ((true = true ∧ NilNil ∧ (0 : Nat) = (0 : Nat)) ∧ Tr 1 ((↑(1 +
 x.fst % 6) : Int) = (↑(1 + x.fst % 6) : Int)) ∧ Tr 1 ((↑(1 + x.snd.fst % 3) : Int) = (↑(1 + x.snd.fst % 3) : Int)) ∧ (true = true ∧ NilNil ∧ (0 : Nat) = (0 :
 Nat)) ∧ (true = true ∧ NilNil ∧ (0 : Nat) = (0 : Nat) ∧ (2 : Nat) = (2 : Nat) ∧ (0 : Nat) = (0 : Nat) ∧ t_2.fst.iss.length = t'.fst.iss.length ∧ t_2.fst.c1 =
 t'.fst.c1) ∧ (true = true ∧ NilNil ∧ (0 : Nat) = (0 : Nat) ∧ (2 : Nat) = (2 : Nat) ∧ (0 : Nat) = (0 : Nat) ∧ t_2.fst.gone.length = t'.fst.gone.length ∧
 t_2.fst.c2 = t'.fst.c2) ∧ Tr 1 ((↑t_2.fst.i : Int) = (↑t'.fst.i : Int)) ∧ Tr 6 (Tr 1 ((↑t_2.snd : Int) + 1 = (↑t'.snd : Int)) ∧ Tr 154 True)))) ∧ true = true ∧
 ((105 : TypeId) = (105 : TypeId) ∧ (true = true ∧ NilNil ∧ (0 : Nat) = (0 : Nat)) ∧ (true = true ∧ NilNil ∧ (0 : Nat) = (0 : Nat)) ∧ True) ∧ devB x_5.fst.ws =
 devB t'.fst.s.ws ∧ allocB x_5.fst.a = allocB t'.fst.s.a ∧ ((32 : TypeId) = (32 : TypeId) ∧ Tr 1 (t_2.fst.t.blocks = t'.fst.t.blocks) ∧ Tr 1 (t_2.fst.t.slots =
 t'.fst.t.slots) ∧ Tr 1 (t_2.fst.t.gens = t'.fst.t.gens) ∧ Tr 1 (t_2.fst.t.top = t'.fst.t.top) ∧ Tr 1 (t_2.fst.t.high = t'.fst.t.high) ∧ Tr 1 (t_2.fst.t.free =
 t'.fst.t.free) ∧ True) ∧ ((36 : TypeId) = (36 : TypeId) ∧ (2 : Nat) = (2 : Nat) ∧ t_2.fst.c1 = t'.fst.c1 ∧ t'.fst.iss.length ≤ t_2.fst.iss.length ∧ ∀ (i : Nat),
 i < t'.fst.iss.length → [AV.int IntKind.i64 (t_2.fst.iss.getD i handZ).slot, AV.int IntKind.i64 (t_2.fst.iss.getD i handZ).gen] = [AV.int IntKind.i64
 (t'.fst.iss.getD i handZ).slot, AV.int IntKind.i64 (t'.fst.iss.getD i handZ).gen]) ∧ ((36 : TypeId) = (36 : TypeId) ∧ (2 : Nat) = (2 : Nat) ∧ t_2.fst.c2 =
 t'.fst.c2 ∧ t'.fst.gone.length ≤ t_2.fst.gone.length ∧ ∀ (i : Nat), i < t'.fst.gone.length → [AV.int IntKind.i64 (t_2.fst.gone.getD i handZ).slot, AV.int
 IntKind.i64 (t_2.fst.gone.getD i handZ).gen] = [AV.int IntKind.i64 (t'.fst.gone.getD i handZ).slot, AV.int IntKind.i64 (t'.fst.gone.getD i handZ).gen]) ∧ True))
 (I64 ((↑t_2.fst.i : Int) + 1) ∧ Exx OnceT fun t' => (I t' ∧ m t' < m t) ∧ Tr 2 (((5 : Nat) = (5 : Nat) ∧ x.snd.snd.length = x.snd.snd.length ∧ ∀ (i : Nat), i <
 x.snd.snd.length → [AV.int IntKind.i64 (x.snd.snd.getD i act21Z).kind, AV.int IntKind.i64 (x.snd.snd.getD i act21Z).block, AV.int IntKind.i64 (x.snd.snd.getD i
 act21Z).h.slot, AV.int IntKind.i64 (x.snd.snd.getD i act21Z).h.gen, AV.bool (x.snd.snd.getD i act21Z).live] = [AV.int IntKind.i64 (x.snd.snd.getD i
 act21Z).kind, AV.int IntKind.i64 (x.snd.snd.getD i act21Z).block, AV.int IntKind.i64 (x.snd.snd.getD i act21Z).h.slot, AV.int IntKind.i64 (x.snd.snd.getD i
 act21Z).h.gen, AV.bool (x.snd.snd.getD i act21Z).live]) ∧ Tr 4 ((true = true ∧ NilNil ∧ (0 : Nat) = (0 : Nat)) ∧ Tr 1 ((true = true ∧ NilNil ∧ (0 : Nat) = (0 :
 Nat)) ∧ Tr 1 ((↑(1 + x.fst % 6) : Int) = (↑(1 + x.fst % 6) : Int)) ∧ Tr 1 ((↑(1 + x.snd.fst % 3) : Int) = (↑(1 + x.snd.fst % 3) : Int)) ∧ (true = true ∧ NilNil
 ∧ (0 : Nat) = (0 : Nat)) ∧ (true = true ∧ NilNil ∧ (0 : Nat) = (0 : Nat) ∧ (2 : Nat) = (2 : Nat) ∧ (0 : Nat) = (0 : Nat) ∧ t_2.fst.iss.length = t'.iss.length ∧
 t_2.fst.c1 = t'.c1) ∧ (true = true ∧ NilNil ∧ (0 : Nat) = (0 : Nat) ∧ (2 : Nat) = (2 : Nat) ∧ (0 : Nat) = (0 : Nat) ∧ t_2.fst.gone.length = t'.gone.length ∧
 t_2.fst.c2 = t'.c2) ∧ Tr 1 ((↑t_2.fst.i : Int) + 1 = (↑t'.i : Int)) ∧ Tr 161 True))) ∧ true = true ∧ ((105 : TypeId) = (105 : TypeId) ∧ (true = true ∧ NilNil ∧
 (0 : Nat) = (0 : Nat)) ∧ (true = true ∧ NilNil ∧ (0 : Nat) = (0 : Nat)) ∧ True) ∧ devB t_2.fst.s.ws = devB t'.s.ws ∧ allocB t_2.fst.s.a = allocB t'.s.a ∧ ((32 :
 TypeId) = (32 : TypeId) ∧ Tr 1 (t_2.fst.t.blocks = t'.t.blocks) ∧ Tr 1 (t_2.fst.t.slots = t'.t.slots) ∧ Tr 1 (t_2.fst.t.gens = t'.t.gens) ∧ Tr 1 (t_2.fst.t.top
 = t'.t.top) ∧ Tr 1 (t_2.fst.t.high = t'.t.high) ∧ Tr 1 (t_2.fst.t.free = t'.t.free) ∧ True) ∧ ((36 : TypeId) = (36 : TypeId) ∧ (2 : Nat) = (2 : Nat) ∧
 t_2.fst.c1 = t'.c1 ∧ t'.iss.length ≤ t_2.fst.iss.length ∧ ∀ (i : Nat), i < t'.iss.length → [AV.int IntKind.i64 (t_2.fst.iss.getD i handZ).slot, AV.int
 IntKind.i64 (t_2.fst.iss.getD i handZ).gen] = [AV.int IntKind.i64 (t'.iss.getD i handZ).slot, AV.int IntKind.i64 (t'.iss.getD i handZ).gen]) ∧ ((36 : TypeId) =
 (36 : TypeId) ∧ (2 : Nat) = (2 : Nat) ∧ t_2.fst.c2 = t'.c2 ∧ t'.gone.length ≤ t_2.fst.gone.length ∧ ∀ (i : Nat), i < t'.gone.length → [AV.int IntKind.i64
 (t_2.fst.gone.getD i handZ).slot, AV.int IntKind.i64 (t_2.fst.gone.getD i handZ).gen] = [AV.int IntKind.i64 (t'.gone.getD i handZ).slot, AV.int IntKind.i64
 (t'.gone.getD i handZ).gen]) ∧ True)) (I64 ((↑(1 + x.fst % 6) : Int) * (↑(1 + x.snd.fst % 3) : Int)) ∧ Exx Unit fun y => ((decide ((↑t.iss.length : Int) ≤ (↑(1
 + x.fst % 6) : Int) * (↑(1 + x.snd.fst % 3) : Int)) = true ∧ True) ∧ true = true ∧ True) ∧ True)))) = (fnVC tb [(8, specOf awake21C), (9, specOf madeStoreC), (10, specOf firstC), (11, specOf allocMarkC), (12, specOf tickIssueC), (13, specOf handInC), (14, specOf restC), (15, specOf tickReleaseC), (16, specOf tickResolveC)] Tryd.f3 ticketOnceC (fun x => { loops := [(10, once1 x), (28, once2 x)], loose := [(30, [1, 2, 3])], joins := [(27, once1 x)] }) (fun _ => none)) := by kernel_rfl 

theorem ticketOnce_ok : SpecOk Tryd.prog 3 (specOf ticketOnceC) := by
  refine specOk mixed tb_ok (SPok.cons awake21_ok (SPok.cons madeStore_ok (SPok.cons first_ok (SPok.cons allocMark_ok (SPok.cons tickIssue_ok (SPok.cons handIn_ok (SPok.cons rest_ok (SPok.cons tickRelease_ok (SPok.cons tickResolve_ok SPok.nil))))))))) Tryd.func3 (by decide) (pureC_ok fun _ => rfl) (an := (fun x => { loops := [(10, once1 x), (28, once2 x)], loose := [(30, [1, 2, 3])], joins := [(27, once1 x)] })) (σ := (fun _ => none)) ?_
  rw [← ticketOnceV]
  simp (maxSteps := 10000000) only [and_false, false_and, false_or, or_false, bOf_true, bOf_false, true_bOf, false_bOf, Exx, int_ite, merge_o, Tr_eq, true_and, and_true, exists_const, forall_const, implies_true, forall_eq, exists_eq, exists_eq', exists_eq_left, exists_eq_left', exists_eq_right, Prod.exists, Prod.forall, and_assoc, exists_and_left, BC_iff, Bool.not_eq_true', Bool.not_eq_false', decide_eq_true_eq, decide_eq_false_iff_not, I64, nat_cast_inj, Int.toNat_natCast, nats_iff, nats_iff', ints_iff, ints_iff', natss_iff, natss_iff', nilnil, litL_eq, str_inj, str_append, str_length, str_getD, str_take, lit1_iff, one_iff, two_iff, one_get, Nat.zero_add, Nat.sub_zero, Nat.reduceMul, Nat.reduceDiv, Nat.reduceAdd, Int.reduceToNat, Nat.not_lt_zero, if_false, if_true, Nat.le_refl, List.length_singleton, List.length_cons, List.length_nil, Bool.false_eq_true, not_true_eq_false, false_implies, not_false_eq_true, Prod.mk.injEq, devB_inj, allocB_inj, setB_inj, tick_ex, store_ex, hand_ex, tick_eta, store_eta, hand_eta, store_mark]
  rintro x y l ⟨hx, hy, hl, hll⟩ h40
  have hw : IntKind.i64.wrap (x : Int) = (x : Int) := wrap_I64 ⟨by omega, by omega⟩
  have hw2 : IntKind.i64.wrap (y : Int) = (y : Int) := wrap_I64 ⟨by omega, by omega⟩
  have hm6 : (x : Int).tmod 6 = ((x % 6 : Nat) : Int) := rfl
  have hm3 : (y : Int).tmod 3 = ((y % 3 : Nat) : Int) := rfl
  rw [hw, hw2, hm6, hm3]
  have hx6 : x % 6 < 6 := Nat.mod_lt _ (by decide)
  have hy3 : y % 3 < 3 := Nat.mod_lt _ (by decide)
  generalize x % 6 = n at hx6 ⊢
  generalize y % 3 = m at hy3 ⊢
  have en : (1 : Int) + (n : Int) = ((1 + n : Nat) : Int) := by omega
  have em : (1 : Int) + (m : Int) = ((1 + m : Nat) : Int) := by omega
  have hm123 : 1 + m = 1 ∨ 1 + m = 2 ∨ 1 + m = 3 := by omega
  have hg : geomOk 100 (1 + n) (1 + m) := ⟨by omega, by omega, by omega, by omega, by omega, by omega⟩
  have tsz : ∀ t : TickT, t.slots = ((1 + n : Nat) : Int) → t.slots ≤ 42 := fun t h => by omega
  have cell : ∀ (l : List HandT) (h : HandT) (j : Nat), j < (l ++ [h]).length → (if j < l.length then [AV.int IntKind.i64 (l.getD j handZ).slot, AV.int IntKind.i64 (l.getD j handZ).gen] else AV.int IntKind.i64 (if j - l.length = 0 then h.slot else 0) :: if j - l.length = 0 then [AV.int IntKind.i64 h.gen] else [AV.int IntKind.i64 0]) = [AV.int IntKind.i64 ((l ++ [h]).getD j handZ).slot, AV.int IntKind.i64 ((l ++ [h]).getD j handZ).gen] := fun l h j hj => by
    rw [List.length_append, List.length_singleton] at hj
    by_cases e : j < l.length
    · rw [if_pos e, getD_append, if_pos e]
    · have e2 : j - l.length = 0 := by omega
      rw [if_neg e, getD_append, if_neg e, e2]; rfl
  have len1 : ∀ (l : List HandT) (h : HandT), l.length + 1 = (l ++ [h]).length := fun l h => by rw [List.length_append]; rfl
  refine ⟨100, rfl, by omega, by omega, by omega, by omega, by omega, by omega, by omega, by omega, by omega, by omega, by omega, by omega, by omega, by omega, fun t => OnceI (1 + n) (1 + m) t.i t ∧ t.i ≤ 40, ⟨⟨0, madeS 100 0, tick0 100 (1 + n) (1 + m), 0, [], 0, []⟩, ⟨⟨en, em, ⟨desk0, desk_made (by omega) (by omega) hg, once_0⟩, Nat.le_refl _, Nat.le_refl _⟩, Nat.zero_le _⟩, en, em, rfl, rfl, rfl, rfl, rfl, rfl, rfl, rfl, rfl, rfl, rfl, rfl, rfl, rfl, rfl, rfl, rfl⟩, fun t => 41 - t.i, ?_⟩
  rintro ⟨i, s, t, c1, iss, c2, gone⟩ ⟨⟨hs, hgn, ⟨d, D, J⟩, hk1, hk2⟩, hi40⟩
  simp only at hs hgn D J hk1 hk2 hi40 ⊢
  refine ⟨fun hlt => ?_, fun hge => ?_⟩
  · have DM := D.mark (tsz t hs)
    have ha := act21_get (l := l) ⟨hl, hll⟩ i
    obtain ⟨hI1, hI2⟩ := once_I D.inv J
    refine ⟨D.W.2, by omega, by omega, by omega, (), fun t' => OnceI (1 + n) (1 + m) (i + 1) t' ∧ t'.i = i, twice ?_ (fun h0 => ?_) ?_⟩
    · refine ⟨DM.W, DM.tI, by omega, by omega, fun hne => ?_, fun he => ?_⟩
      · cases hn : deskNext t.slots d with
        | some p => exact absurd (DM.issue (by omega) (tsz t hs) (at_ := 50) (by omega) (a := p.1) (g := p.2) hn).1 hne
        | none =>
          have e := (issue_none DM.inv (at_ := 50) (by omega) hn).2
          rw [e]
          exact ⟨by omega, by omega, ⟨i + 1, markT s, t, c1, iss, c2, gone⟩, ⟨⟨hs, hgn, ⟨d, DM, J⟩, by simp only; omega, by simp only; omega⟩, by simp only; omega⟩, by simp only; omega, rfl, rfl, rfl, rfl, by simp only; omega, rfl, rfl, rfl, rfl, rfl, rfl, rfl, rfl, rfl, Nat.le_refl _, fun _ _ => rfl, rfl, Nat.le_refl _, fun _ _ => rfl⟩
      · cases hn : deskNext t.slots d with
        | none =>
          have e := (issue_none DM.inv (at_ := 50) (by omega) hn).1
          rw [e] at he; cases he
        | some p =>
          obtain ⟨a, g⟩ := p
          obtain ⟨e1, k1, D1⟩ := DM.issue (by omega) (tsz t hs) (at_ := 50) (by omega) hn
          obtain ⟨out, J1⟩ := once_iss D.inv J hn (x := 50) (by decide)
          have g1 := issT_geo e1
          have hm := (J1.mem ⟨(a : Int), g⟩).1 (List.mem_append_right _ (List.mem_singleton.2 rfl))
          have hgk := D1.inv.gok a (by have := hm.1.2; simp only at this; omega)
          have hl1 := D1.inv.len
          rw [g1.1] at hl1
          rw [g1.2.1] at hgk
          simp only [Int.toNat_natCast] at hm
          rw [k1]
          have hgI : HandI ⟨(a : Int), g⟩ := handI_of ⟨by omega, by omega⟩ ⟨by omega, by omega⟩
          simp only
          exact ⟨fun q => by omega, fun _ => ⟨fun q => by omega, fun _ => ⟨fun q => by omega, fun _ => ⟨fun q => by omega, fun _ => ⟨iss, rfl, fun _ _ => rfl, ⟨hI1, by omega⟩, hgI, fun q => out q, fun _ => ⟨by omega, by omega, fun cap hcap => ⟨⟨i, _, _, cap, iss ++ [⟨(a : Int), g⟩], c2, gone⟩, ⟨⟨g1.1.trans hs, g1.2.1.trans hgn, ⟨_, D1, J1⟩, by simp only; rw [← len1]; omega, by simp only; omega⟩, rfl⟩, len1 _ _, rfl, rfl, rfl, rfl, rfl, rfl, rfl, rfl, rfl, rfl, rfl, rfl, rfl, Nat.le_of_eq (len1 _ _).symm, fun j hj => cell _ _ j hj, rfl, Nat.le_refl _, fun _ _ => rfl⟩⟩⟩⟩⟩⟩⟩
    · have hlen0 : 0 < iss.length := by omega
      have hr1 : 0 ≤ (l.getD i act21Z).h.slot % (iss.length : Int) := Int.emod_nonneg _ (by omega)
      have hr2 : (l.getD i act21Z).h.slot % (iss.length : Int) < (iss.length : Int) := Int.emod_lt_of_pos _ (by omega)
      have hr3 : ((l.getD i act21Z).h.slot % (iss.length : Int)).toNat < iss.length := by omega
      have hmem : iss.getD ((l.getD i act21Z).h.slot % (iss.length : Int)).toNat handZ ∈ iss := by
        rw [List.getD_eq_getElem?_getD, List.getElem?_eq_getElem hr3]; exact List.getElem_mem _
      generalize iss.getD ((l.getD i act21Z).h.slot % (iss.length : Int)).toNat handZ = h at hmem ⊢
      have hh := hI1 h hmem
      have hx := once_xor DM.inv J hmem
      refine ⟨by omega, by omega, ha.2.2.1.1, ha.2.2.1.2, by omega, by omega, hr1, hr2, hr3, DM.W, DM.tI, hh, gone, rfl, fun _ _ => rfl, ⟨hI2, by omega⟩, hh, ?_⟩
      by_cases hlv : liveD d h
      · obtain ⟨e0, D1⟩ := DM.release (by omega) (tsz t hs) hlv
        have g1 := relT_geo e0
        have hng : h ∉ gone := fun k => ((J.gn h).1 k).2 hlv
        have hx2 : (decide (relE (markT s) t h = 0) == decide (h ∈ gone)) = false := by rw [decide_eq_true e0, decide_eq_false hng]; rfl
        exact ⟨fun q => absurd (hx2.symm.trans q) (by decide), fun _ => ⟨fun _ => ⟨by omega, by omega, fun cap hcap => ⟨⟨i, _, _, c1, iss, cap, gone ++ [h]⟩, ⟨⟨g1.1.trans hs, g1.2.1.trans hgn, ⟨_, D1, once_rel D.inv J hmem hlv _⟩, by simp only; omega, by simp only; rw [← len1]; omega⟩, rfl⟩, rfl, rfl, len1 _ _, rfl, rfl, rfl, rfl, rfl, rfl, rfl, rfl, rfl, rfl, rfl, Nat.le_refl _, fun _ _ => rfl, rfl, Nat.le_of_eq (len1 _ _).symm, fun j hj => cell _ _ j hj⟩⟩, fun q => absurd e0 q⟩⟩
      · obtain ⟨e0, e1⟩ := release_dead DM.inv hlv
        have hng : h ∈ gone := (J.gn h).2 ⟨hmem, hlv⟩
        have hne : ¬ relE (markT s) t h = 0 := by rw [e0]; decide
        have hx2 : (decide (relE (markT s) t h = 0) == decide (h ∈ gone)) = false := by rw [decide_eq_true hng, decide_eq_false hne]; rfl
        refine ⟨fun q => absurd (hx2.symm.trans q) (by decide), fun _ => ⟨fun q => absurd q hne, fun _ => ?_⟩⟩
        rw [e1]
        exact ⟨⟨i, markT s, t, c1, iss, c2, gone⟩, ⟨⟨hs, hgn, ⟨_, DM, J⟩, by simp only; omega, by simp only; omega⟩, rfl⟩, rfl, rfl, rfl, rfl, rfl, rfl, rfl, rfl, rfl, rfl, rfl, rfl, rfl, rfl, Nat.le_refl _, fun _ _ => rfl, rfl, Nat.le_refl _, fun _ _ => rfl⟩
    · clear D DM J hI1 hI2
      rintro ⟨i2, s, t, c1, iss, c2, gone⟩ ⟨⟨hs, hgn, ⟨d, D, J⟩, hk1, hk2⟩, hi2⟩
      simp only at hs hgn D J hk1 hk2 hi2 ⊢
      subst hi2
      obtain ⟨hI1, hI2⟩ := once_I D.inv J
      refine ⟨fun p => p.1 = ⟨i2, s, t, c1, iss, c2, gone⟩, ⟨_, 0, rfl, rfl, rfl, rfl, rfl, rfl, rfl, rfl, rfl, rfl, rfl, rfl, rfl, rfl, rfl, rfl, Nat.le_refl _, fun _ _ => rfl, rfl, Nat.le_refl _, fun _ _ => rfl⟩, fun p => iss.length - p.2, ?_⟩
      rintro p k hp
      simp only at hp
      subst hp
      simp only
      refine ⟨fun hk => ?_, fun hk => ?_⟩
      · have hmem : iss.getD k handZ ∈ iss := by
          rw [List.getD_eq_getElem?_getD, List.getElem?_eq_getElem (by omega)]; exact List.getElem_mem _
        have hx := once_xor D.inv J hmem
        exact ⟨by omega, by omega, by omega, D.W, D.tI, hI1 _ hmem, by omega, by omega, by omega, gone, rfl, fun _ _ => rfl, ⟨hI2, by omega⟩, hI1 _ hmem, fun q => absurd (hx.symm.trans q) (by decide), fun _ => ⟨by omega, by omega, _, k + 1, rfl, by omega, rfl, rfl, rfl, rfl, rfl, by omega, rfl, rfl, rfl, rfl, rfl, rfl, rfl, rfl, rfl, Nat.le_refl _, fun _ _ => rfl, rfl, Nat.le_refl _, fun _ _ => rfl⟩⟩
      · exact ⟨by omega, by omega, ⟨i2 + 1, s, t, c1, iss, c2, gone⟩, ⟨⟨hs, hgn, ⟨d, D, J⟩, hk1, hk2⟩, by simp only; omega⟩, by simp only; omega, rfl, rfl, rfl, rfl, by simp only; omega, rfl, rfl, rfl, rfl, rfl, rfl, rfl, rfl, rfl, Nat.le_refl _, fun _ _ => rfl, rfl, Nat.le_refl _, fun _ _ => rfl⟩
  · have := once_len D.inv J hs hgn hm123
    have e : ((1 + n : Nat) : Int) * ((1 + m : Nat) : Int) = (((1 + n) * (1 + m) : Nat) : Int) := by rw [Int.natCast_mul]
    rw [e]
    have hb : (1 + n) * (1 + m) ≤ 6 * 3 := Nat.mul_le_mul (by omega) (by omega)
    exact ⟨by omega, by omega, by omega⟩

def ticketOnceLC : Ctr := pureC (Nat × Nat × List A21) (fun x => x.1 < 256 ∧ x.2.1 < 256 ∧ A21I x.2.2) (fun x => [.int .u8 (x.1 : Nat), .int .u8 (x.2.1 : Nat), a21A x.2.2]) (fun _ => .bool true)
theorem ticketOnceL_ok : SpecOk Tryd.prog 3 (specOf ticketOnceLC) :=
  law_map ticketOnce_ok (fun x => (x.1, x.2.1, x.2.2.map a21)) (fun x => by show [_, _, acts21A _] = _; rw [a21_args]) (fun x h => ⟨h.1, h.2.1, a21_acts h.2.2⟩)

end Yard
