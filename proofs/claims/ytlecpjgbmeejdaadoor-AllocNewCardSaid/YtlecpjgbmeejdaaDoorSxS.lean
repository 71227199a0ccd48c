/- Sx: contracts. -/
import Derived.Test.YtlecpjgbmeejdaaDoorSxP
namespace Go.Sx
variable {W W' : Base} {D D' : Nat → Prop} {R R' : Nat → Option Obj} {ids ids' own own' : Nat → Option Nat} {P : Program} {tb : TB} {sp : SP} {w w' : World} {H H' : AH}

/-- What a function is good for: a family of views of its arguments and of their memory; of each, what comes back. -/
structure Ctr where
  X : Type
  Y : Type
  conv : Bool
  tau : List AV → AH → List Nat
  pre : X → Prop
  args : X → List AV
  heap : X → AH
  Q : X → Y → Prop
  res : X → Y → AV
  its : X → Y → AH
  new : X → Y → AH

structure CtrOk (C : Ctr) : Prop where
  len : ∀ x y, C.pre x → C.Q x y → (C.its x y).length = (C.heap x).length
  noF : ∀ x y, C.pre x → C.Q x y → Sx.noF (C.its x y) = true ∧ Sx.noF (C.new x y) = true
  plain : ∀ x y, C.conv = true → C.pre x → C.Q x y → (plH (C.its x y) ∧ plH (C.new x y)) ∧ plV 2 (C.res x y)

def hideT (H : AH) (τ : List Nat) : AH := setAll H τ (τ.map fun _ => .gone)

/-- Elements one by one, each a slice that is read alone, or plain. -/
def fitEls (H : AH) : List AV → Nat → (Nat → List AV) → Prop
  | [], _, _ => True
  | a :: r, i, f => (match f i with
    | [b] => match b with
      | .ro es n g => slC H es a (fun n1 f1 => n1 = n ∧ ∀ j, j < n → f1 j = g j)
      | b => match b.one with
        | true => fitV [] 0 a b
        | false => False
    | _ => False) ∧ fitEls H r (i + 1) f

/-- A slice of cells that are told one by one. -/
def cellsOf' (H : AH) : AV → Option (List AV)
  | .sl p [] 0 1 0 _ _ => match H[p]? with
    | some (.cells _ l) => match l.all AV.one with
      | true => some l
      | false => none
    | _ => none
  | _ => none

def fitArg0 (conv : Bool) (H : AH) (τ : List Nat) (a a' : AV) : Prop := match conv, a' with
  | true, .ro es n f => match cellsOf' H a with
    | some l => match a with
      | .sl _ _ _ _ _ m _ => es = 1 ∧ m = n ∧ m ≤ l.length ∧ fitEls H l 0 f
      | _ => False
    | none => slC H es a (fun n1 f1 => n1 = n ∧ ∀ i, i < n → f1 i = f i)
  | _, a' => fitV (someT τ) 3 a a'
def fitArg (conv : Bool) (H : AH) (τ : List Nat) (a a' : AV) : Prop := match a, a' with
  | .agg l, .agg l' => fitS (fitArg0 conv H τ) l l'
  | a, a' => fitArg0 conv H τ a a'

theorem fitS_ok' {g : AV → AV → Prop} (hr : ∀ b o, R b = some o → R' b = some o) (hg : ∀ {a a' : AV} {v : Value}, g a a' → V R ids a v → V R' ids' a' v) : ∀ {a a' : List AV} {v : List Value}, fitS g a a' → Vs R ids a v → Vs R' ids' a' v := by
  intro a a' v h hv
  induction a generalizing a' v with
  | nil =>
    cases a' with
    | nil => cases hv; exact .nil
    | cons => exact h.elim
  | cons x r ih =>
    unfold fitS at h
    split at h
    · exact absurd (by assumption) (List.cons_ne_nil x r)
    · rename_i e1
      cases e1
      obtain ⟨rfl, rfl, h1, h2⟩ := h
      cases hv with
      | one _ _ _ _ ho => simp [AV.one] at ho
      | arr _ _ _ cs _ ws vs g1 g2 g3 g4 => exact .arr _ _ _ cs _ ws vs g1 g2 (fun i hi => by rw [← h1 i hi]; exact (g3 i hi).into (fun _ _ e => e) hr) (ih h2 g4)
    · rename_i e1
      cases e1
      split at h
      · rename_i h1 h2
        cases hv with
        | one _ v _ vs ho g1 g2 => exact .one _ v _ vs h2 (hg h.1 g1) (ih h.2 g2)
        | arr => simp [AV.one] at h1
      · exact h.elim
    · exact h.elim

theorem fitT_ok' {g : AV → AV → Prop} (hg : ∀ {a a' : AV} {v : Value}, g a a' → V R ids a v → V R' ids' a' v) : ∀ {a a' : List AV} {v : List Value}, fitT g a a' → Ts R ids a v → Ts R' ids' a' v := by
  intro a a' v h hv
  induction a generalizing a' v with
  | nil =>
    cases a' with
    | nil => cases hv; exact .nil
    | cons => exact h.elim
  | cons x r ih =>
    cases a' with
    | nil => exact h.elim
    | cons y r' =>
      cases hv with
      | cons _ v _ vs g1 g2 => exact .cons _ v _ vs (hg h.1 g1) (ih h.2 g2)

theorem hideT_get {τ : List Nat} (hn : nodupR (someT τ) = true) (hg : goodT H τ = true) {p : Nat} {it : Item} (h : (hideT H τ)[p]? = some it) : it = .gone ∨ (inT τ p = false ∧ H[p]? = some it) := by
  unfold hideT at h
  cases ht : inT τ p with
  | false => rw [setAll_other ht] at h; exact .inr ⟨rfl, h⟩
  | true =>
    obtain ⟨q, hq⟩ := inT_iff.1 ht
    rw [setAll_at hn hq (goodT_get hg hq).1 (by simpa using lt_of_some hq), List.getElem?_map, hq] at h
    simp at h
    exact .inl h.symm

theorem hide_view (hR : Rep W D R ids own H w) {τ : List Nat} (hn : nodupR (someT τ) = true) (hg : goodT H τ = true) : View R ids own (hideT H τ) w := ⟨hR.ro, fun p it hp => by
  rcases hideT_get hn hg hp with rfl | ⟨_, k⟩
  · trivial
  · exact hR.items p it k⟩

theorem hide_agr (hR : Rep W D R ids own H w) {τ : List Nat} (hn : nodupR (someT τ) = true) (hg : goodT H τ = true) {w2 : World} (h2 : ∀ b o, convR true R own τ w b = some o → w2.heap[b]? = some o) : Agr R own (hideT H τ) w w2 :=
  ⟨fun b o hb => h2 b o (convR_le hb), fun b p it hb hp hgone => by
    rcases hideT_get hn hg hp with rfl | ⟨k, _⟩
    · cases hgone
    · have hlt := (hR.owns b p hb).1
      have : convR true R own τ w b = some w.heap[b] := by
        simp [convR, (hR.owns b p hb).2.2.1, hb, k, hlt]
      rw [h2 b _ this]; simp [hlt]⟩

theorem slC_ro (hR : Rep W D R ids own H w) {τ : List Nat} (hn : nodupR (someT τ) = true) (hg : goodT H τ = true) {es n : Nat} {f : Nat → List AV} {a : AV} {v : Value}
    (h : slC (hideT H τ) es a (fun n1 f1 => n1 = n ∧ ∀ i, i < n → f1 i = f i)) (hv : V R ids a v) : V (convR true R own τ w) ids' (.ro es n f) v := by
  obtain ⟨n1, f1, ⟨rfl, hf⟩, hr⟩ := slC_ok (hide_view hR hn hg) hv h
  have := hr.ro (w := w) (ids' := ids') (Rc := convR true R own τ w) (fun b o hb => convR_le hb) (fun w2 h2 => hide_agr hR hn hg h2) (fun b o hb => convR_heap hR hb)
  exact this.ro_change hf

theorem ren_nil : renIds [] ids = noIds := by funext p; simp [renIds, noIds]

theorem fitEls_ok (hR : Rep W D R ids own H w) {τ : List Nat} (hn : nodupR (someT τ) = true) (hg : goodT H τ = true) {f : Nat → List AV} : ∀ {l : List AV} {cs : List Value} {k : Nat}, l.all AV.one = true → fitEls (hideT H τ) l k f → Vs R ids l cs →
    cs.length = l.length ∧ ∀ i, i < l.length → ∃ c, cs[i]? = some c ∧ Vs (convR true R own τ w) noIds (f (k + i)) [c] := by
  intro l
  induction l with
  | nil => intro cs k _ _ hv; cases hv; exact ⟨rfl, fun i hi => absurd hi (Nat.not_lt_zero _)⟩
  | cons a r ih =>
    intro cs k ho h hv
    obtain ⟨ho1, ho2⟩ := all_cons_and ho
    cases hv with
    | arr => simp [AV.one] at ho1
    | one _ v _ vs _ h2 h3 =>
      obtain ⟨g1, g2⟩ := h
      obtain ⟨i1, i2⟩ := ih ho2 g2 h3
      refine ⟨by simp [i1], fun i hi => ?_⟩
      cases i with
      | succ i =>
        obtain ⟨c, c1, c2⟩ := i2 i (by simpa using hi)
        exact ⟨c, by simpa using c1, by rwa [show k + (i + 1) = k + 1 + i by omega]⟩
      | zero =>
        refine ⟨v, rfl, ?_⟩
        rw [Nat.add_zero]
        split at g1
        · rename_i b hb
          rw [hb]
          split at g1
          · exact .one _ _ _ _ rfl (slC_ro hR hn hg g1 h2) .nil
          · split at g1
            · rename_i hone
              have := fitV_ok g1 h2
              rw [ren_nil] at this
              exact .one _ _ _ _ hone (this.into (fun _ _ e => e) (fun b o hb => convR_le hb)) .nil
            · exact g1.elim
        · exact g1.elim

theorem fitArg0_ok (hR : Rep W D R ids own H w) {conv : Bool} {τ : List Nat} (hn : nodupR (someT τ) = true) (hg : goodT H τ = true) {a a' : AV} {v : Value} (h : fitArg0 conv (hideT H τ) τ a a') (hv : V R ids a v) :
    V (convR conv R own τ w) (renIds (someT τ) ids) a' v := by
  unfold fitArg0 at h
  split at h
  · rename_i es n f
    split at h
    · rename_i l hl
      unfold cellsOf' at hl
      split at hl
      · rename_i p m cap
        split at hl
        · rename_i T l' hp
          split at hl
          · rename_i hall
            cases hl
            obtain ⟨rfl, rfl, hm, hels⟩ := h
            rcases hideT_get hn hg hp with e | ⟨ht, hp'⟩
            · cases e
            obtain ⟨b, cs, hb, ho, hw, hvs⟩ := hR.items p _ hp'
            obtain ⟨e1, e2⟩ := fitEls_ok hR hn hg hall hels hvs
            cases hv with
            | sl _ _ _ _ _ _ _ a g1 g2 g3 =>
              rcases Nat.eq_zero_or_pos m with rfl | hpos
              · exact .ro0 1 f a cap g3
              · obtain ⟨b', hb', rfl⟩ := g1 (by omega)
                rw [hb] at hb'; cases hb'
                simp only [poff, Nat.zero_add, Nat.zero_mul]
                have hRc : convR true R own τ w b = some (.cells cs T (0, 0)) := by
                  simp [convR, (hR.owns b p ho).2.2.1, ho, ht, hw]
                refine .ro 1 m f b 0 cap (fun i => [cs.toList.getD i default]) g2 g3 (fun _ _ => rfl) (fun i hi j hj => ?_) (fun i hi => ?_)
                · obtain rfl : j = 0 := by omega
                  obtain ⟨c, c1, _⟩ := e2 i (by omega)
                  have c1' : cs[i]? = some c := by simpa using c1
                  have c2 : cs.toList[i]? = some c := c1
                  simp only [Nat.zero_add, Nat.mul_one, Nat.add_zero, rcell, hRc, List.getD_eq_getElem?_getD, c2, c1']
                  rfl
                · obtain ⟨c, c1, c2⟩ := e2 i (by omega)
                  rw [Nat.zero_add] at c2
                  rw [List.getD_eq_getElem?_getD, c1]
                  exact c2
          · cases hl
        · cases hl
      · cases hl
    · exact slC_ro hR hn hg h hv
  · exact (fitV_ok h hv).into (fun _ _ e => e) (fun b o hb => convR_le hb)

theorem fitArg_ok (hR : Rep W D R ids own H w) {conv : Bool} {τ : List Nat} (hn : nodupR (someT τ) = true) (hg : goodT H τ = true) {a a' : AV} {v : Value} (h : fitArg conv (hideT H τ) τ a a') (hv : V R ids a v) :
    V (convR conv R own τ w) (renIds (someT τ) ids) a' v := by
  unfold fitArg at h
  split at h
  · cases hv with
    | agg _ cs hc => exact .agg _ cs (fitS_ok' (fun b o hb => convR_le hb) (fun h hv => fitArg0_ok hR hn hg h hv) h hc)
  · exact fitArg0_ok hR hn hg h hv

def specOf (C : Ctr) : Spec := fun args H K => match nodupR (someT (C.tau args H)) && goodT H (C.tau args H) with
  | true => ∃ x, (fitT (fitArg C.conv (hideT H (C.tau args H)) (C.tau args H)) args (C.args x) ∧ (Nat.beq (C.tau args H).length (C.heap x).length = true ∧ fitH (someT (C.tau args H)) H 0 (C.heap x))) ∧
      C.pre x ∧ ∀ y, C.Q x y → K (renA (outR (C.tau args H) H.length) 3 (C.res x y)) (joinH H (C.tau args H) (C.its x y) (C.new x y))
  | false => False

def resOne (tmps : Array Value) : ResultVar → Sem Value
  | .tmp t => pure (tmps.getD t undef)
  | .cell a t => do loadVar t (← asAddr (tmps.getD a undef))
theorem results_eq (fn : Func) (tmps : Array Value) : results fn tmps = (do
    let vs ← fn.results.mapM (resOne tmps)
    pure (if h : vs.size = 1 then vs[0] else .tuple vs)) := rfl

theorem aRes_ok (ht : TBok P tb) (hR : View R ids own H w) {F : Fr} {tmps : Array Value} (hF : Ts R ids F tmps.toList) : ∀ {l : List ResultVar} {K : List AV → Prop}, aRes tb l F H K →
    ∃ as vs, (l.mapM (resOne tmps)).run P w = .ok vs w ∧ Ts R ids as vs ∧ K as := by
  intro l
  induction l with
  | nil => intro K h; exact ⟨[], [], by simp, .nil, h⟩
  | cons r l ih =>
    intro K h
    have hget : ∀ t, V R ids (F.getD t .any) (tmps.getD t undef) := fun t => by
      have := hF.get t undef
      simpa [Array.getD_eq_getD_getElem?, List.getD_eq_getElem?_getD] using this
    cases r with
    | tmp t =>
      obtain ⟨as, vs, h1, h2, h3⟩ := ih h
      refine ⟨_, tmps.getD t undef :: vs, ?_, .cons _ _ _ _ (hget t) h2, h3⟩
      simp only [List.mapM_cons, resOne, Sem.run_bind, Sem.run_pure, Result.andThen_ok, h1]
    | cell a t =>
      obtain ⟨av, v, g1, g2, g3⟩ := aLoad_ok (P := P) ht hR (hget a) h
      obtain ⟨as, vs, h1, h2, h3⟩ := ih g3
      have g1 := g1 w hR.refl
      have hp : ∃ ad, tmps.getD a undef = .pointer (some ad) := by
        have hv := hget a
        simp only [aRes] at h
        unfold aLoad at h
        split at h
        · rename_i e; rw [e] at hv; obtain ⟨b, _, k⟩ := hv.ptr_some; exact ⟨_, k⟩
        · rename_i e; rw [e] at hv; obtain ⟨b, k⟩ := hv.rp_some; exact ⟨_, k⟩
        · exact h.elim
      obtain ⟨ad, had⟩ := hp
      rw [had] at g1
      have g1' : (loadVar t ad).run P w = .ok v w := by simpa [Instr.loadAt, Instr.sureAddr] using g1
      refine ⟨_, v :: vs, ?_, .cons _ _ _ _ g2 h2, h3⟩
      have ha : (asAddr (tmps.getD a undef)).run P w = .ok ad w := by rw [had]; simp [asAddr]
      simp only [List.mapM_cons, resOne, Sem.run_bind, ha, Sem.run_pure, Result.andThen_ok, g1', h1]

theorem results_ok (ht : TBok P tb) (hR : View R ids own H w) {fn : Func} {F : Fr} {tmps : Array Value} {K : AV → Prop} (hF : Ts R ids F tmps.toList) (h : aRes tb fn.results.toList F H (fun l => K (oneRes l))) :
    ∃ av v, (results fn tmps).run P w = .ok v w ∧ V R ids av v ∧ K av := by
  obtain ⟨as, vs, h1, h2, h3⟩ := aRes_ok (P := P) ht hR (K := fun l => K (oneRes l)) hF h
  have hm : (fn.results.mapM (resOne tmps)).run P w = .ok vs.toArray w := by
    rw [Array.mapM_eq_mapM_toList]
    simp only [Sem.run_map, h1, Result.andThen_ok]
  refine ⟨oneRes as, if h : vs.toArray.size = 1 then vs.toArray[0] else .tuple vs.toArray, ?_, ?_, h3⟩
  · rw [results_eq, Sem.run_bind, hm]
    simp
  · cases h2 with
    | nil => exact .tup [] [] .nil
    | cons a v as vs g1 g2 =>
      cases g2 with
      | nil => exact g1
      | cons b u bs us k1 k2 => exact .tup _ _ (.cons _ _ _ _ g1 (.cons _ _ _ _ k1 k2))

end Go.Sx
