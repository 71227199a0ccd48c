/- Sx: regions that draw their order. -/
import Derived.Test.YtoajfhpiepkjkaaSxM
import Derived.StillTail
namespace Go.Sx
variable {W W' : Base} {D D' : Nat → Prop} {R R' : Nat → Option Obj} {ids ids' own own' : Nat → Option Nat} {P : Program} {tb : TB} {sp : SP} {w w' : World} {H H' : AH}

def Item.isGoneAt (H : AH) (p : Nat) : Bool := match H[p]? with
  | some it => it.isGone
  | none => true

/-- May it be taken first? (In a clean state: nothing has been written yet.) -/
def candOp (clean : Bool) (F : Fr) (H : AH) : Op → Bool
  | .load _ x => match ev F x with
    | .ptr p _ _ => !Item.isGoneAt H p
    | .rp .. => clean
    | _ => false
  | .convert _ _ x => match clean, ev F x with
    | true, .sl p .. => !Item.isGoneAt H p
    | true, .int .. => true
    | true, .str .. => true
    | true, .ro .. => true
    | _, _ => false
  | .move _ | .assign _ | .pick .. | .nilCheck _ | .binOp .. | .unOp .. | .fieldAddr .. | .field .. | .indexAddr .. | .index .. | .extract .. | .slice .. | .build .. => true
  | .makeFunc (.func _) ⟨[]⟩ ⟨[]⟩ => true
  | .call ⟨.builtin .len, _, _⟩ => true
  | .call ⟨.builtin .min, _, _⟩ => true
  | .call ⟨.builtin .max, _, _⟩ => true
  | _ => false

theorem candOp_free {F : Fr} {H : AH} {op : Op} (h : candOp false F H op = true) : freeOp op = true ∨ ∃ t x, op = .load t x := by
  cases op <;> first
    | exact .inl rfl
    | exact .inr ⟨_, _, rfl⟩
    | simp [candOp] at h

def aTake (tb : TB) (op : Op) (F : Fr) (H : AH) (K : AV → Prop) : Prop := match op with
  | .build t ps => aBuild tb t (ps.toList.map fun p => (p.1, ev F p.2)) K
  | .makeFunc (.func f) ⟨[]⟩ ⟨[]⟩ => K (.fn f)
  | op => aPure tb op F H K

theorem aTake_ok (ht : TBok P tb) {o : Oper} {a : Act} {F : Fr} {K : AV → Prop} (hF : Ts R ids F a.tmps.toList) (hR : View R ids own H w) (h : aTake tb o.op F H K) :
    ∃ av v, (∀ w2, (freeOp o.op = true ∨ Agr R own H w w2) → (execOp a.eval o).run P w2 = .ok (.value v) w2) ∧ V R ids av v ∧ K av := by
  unfold aTake at h
  split at h
  · rename_i t ps hop
    obtain ⟨av, v, h1, h2⟩ := aBuild_all (P := P) ht (parts_fst ps) (parts_snd hF ps) h
    exact ⟨av, v, fun w2 _ => by unfold execOp; simp only [hop]; simp [h1 w2], h2⟩
  · rename_i f hop
    exact ⟨.fn f, .func (.func f) #[] #[], fun w2 _ => by unfold execOp; simp only [hop]; simp [Instr.makeFunc], .fn f, h⟩
  · exact aPure_ok' ht hF hR h

/-- What leads to an item that is not held is forgotten. -/
def scrH (Hh : AH) (a : AV) : AV := match okA (fun q => !Item.isGoneAt Hh q) 3 a with
  | true => a
  | false => .any

/-- Taken first behind a write: what is held may be read still. -/
def aTakeD (tb : TB) (op : Op) (F : Fr) (Hh : AH) (K : AV → Prop) : Prop := match op with
  | .load t x => match ev F x with
    | .ptr p path off => match Item.isGoneAt Hh p with
      | false => aLoad tb Hh t (.ptr p path off) (fun av => K (scrH Hh av))
      | true => False
    | _ => False
  | op => aTake tb op F [] K

theorem held_of_only {m : List Bool} {H : AH} {p : Nat} (h : Item.isGoneAt (onlyL m H) p = false) : heldB m H p = true := by
  unfold Item.isGoneAt at h
  split at h
  · rename_i it hp
    rcases onlyL_get m H p it hp with rfl | ⟨k, _⟩
    · simp [Item.isGone] at h
    · exact k
  · cases h

def allL : List Nat → (Nat → Prop) → Prop
  | [], _ => True
  | [i], f => f i
  | i :: r, f => f i ∧ allL r f

theorem allL_all : ∀ {l : List Nat} {f : Nat → Prop}, allL l f → ∀ i ∈ l, f i
  | [], _, _, i, hi => by simp at hi
  | [j], f, h, i, hi => by simp at hi; subst hi; exact h
  | j :: k :: r, f, h, i, hi => by
    rcases List.mem_cons.1 hi with e | hi
    · subst e; exact h.1
    · exact allL_all h.2 i hi

/-- Whichever comes up; what may be taken first is. -/
def aAny (tb : TB) (sp : SP) (ops : Array Oper) (Hh : AH) : Nat → Bool → Array Bool → Fr → AH → (Fr → AH → Prop) → Prop
  | 0, _, listed, F, H, K => match Region.ready .any ops listed with
    | [] => K F H
    | _ => False
  | fuel + 1, clean, listed, F, H, K => match Region.ready .any ops listed with
    | [] => K F H
    | i0 :: r0 => match (i0 :: r0).find? (fun i => match ops[i]? with
        | some o => candOp clean F Hh o.op && Region.free .any ops listed i
        | none => false) with
      | some i => match ops[i]? with
        | some o => aGuard ops.toList o.guard F
            (fun F => match clean with
              | true => aTake tb o.op F Hh (fun av => aAny tb sp ops Hh fuel true (listed.setIfInBounds i true) (setD F o.dst av) H K)
              | false => aTakeD tb o.op F Hh (fun av => aAny tb sp ops Hh fuel false (listed.setIfInBounds i true) (setD F o.dst av) H K))
            (fun F => aAny tb sp ops Hh fuel clean (listed.setIfInBounds i true) (setD F o.dst (.tup [])) H K)
        | none => False
      | none => allL (i0 :: r0) (fun i => match ops[i]? with
        | some o => aGuard ops.toList o.guard F
            (fun F => aOp tb sp o.op F H (fun av F' H' => aAny tb sp ops Hh fuel false (listed.setIfInBounds i true) (setD F' o.dst av) H' K))
            (fun F => aAny tb sp ops Hh fuel clean (listed.setIfInBounds i true) (setD F o.dst (.tup [])) H K)
        | none => False)

section
variable {ops : Array Oper} {Q : Exit → Act → World → Prop} {K : Fr → AH → Prop} {m : List Bool} {H0 : AH} {w0 : World} {R0 : Nat → Option Obj} {ids0 own0 : Nat → Option Nat}

/-- What holds of every world behind: what is held is as it was. -/
def Held (own : Nat → Option Nat) (m : List Bool) (H : AH) (w w2 : World) : Prop := ∀ b, b < w.heap.size → ¬ maskD own m H b → w2.heap[b]? = w.heap[b]?

theorem put_defers (a : Act) (dst : Option Nat) (v : Value) : (a.put dst v).defers = a.defers := by cases dst <;> rfl

theorem aTakeD_ok (ht : TBok P tb) (hR0 : Rep W D R0 ids0 own0 H0 w0) (hR : Rep (maskW W R0 ids0 (maskL m H0) w0) (maskD own0 m H0) R ids own H w) {o : Oper} {a : Act} {F F0 : Fr} {K : AV → Prop} (hF : Ts R ids F a.tmps.toList)
    (hc : candOp false F0 (onlyL m H0) o.op = true) (h : aTakeD tb o.op F (onlyL m H0) K) : ∃ av v, (∀ w2, Held own0 m H0 w0 w2 → (execOp a.eval o).run P w2 = .ok (.value v) w2) ∧ V R ids av v ∧ K av := by
  unfold aTakeD at h
  split at h
  · rename_i t x hop
    have hx := ev_ok hF x
    split at h
    · rename_i p path off he
      rw [he] at hx
      split at h
      · rename_i hg
        have hpin : ∀ q, Item.isGoneAt (onlyL m H0) q = false → ids q = ids0 q := fun q hq => by
          have hh := held_of_only hq
          have := hR.pins q (ids0 q) (by simp only [maskW]; rw [maskL_get, if_pos hh]; rfl)
          exact this.1
        obtain ⟨b, hb, hv⟩ := hx.ptr_some
        have hx0 : V R0 ids0 (.ptr p path off) (a.eval x) := by rw [hv]; exact .ptr p path off b (by rw [← hpin p hg]; exact hb)
        obtain ⟨av, v, h1, h2, h3⟩ := aLoad_ok (P := P) ht (hR0.only m) hx0 h
        refine ⟨_, v, fun w2 hw => ?_, ?_, h3⟩
        · unfold execOp; simp only [hop]; simp [h1 w2 (hR0.agr hw)]
        · unfold scrH
          split
          · rename_i hok
            exact (h2.keep (ids' := ids) (fun q hq b hb => by rw [hpin q (by simpa using hq)]; exact hb) hok).into (fun _ _ e => e) hR.low
          · exact .any _
      · exact h.elim
    · exact h.elim
  · rename_i hno
    obtain ⟨av, v, h1, h2, h3⟩ := aTake_ok (P := P) (o := o) (a := a) (own := own) (w := w) ht hF ⟨hR.ro, fun p it hp => by simp at hp⟩ h
    refine ⟨av, v, fun w2 _ => h1 w2 (.inl ?_), h2, h3⟩
    rcases candOp_free hc with k | ⟨t, x, k⟩
    · exact k
    · exact (hno t x k).elim

theorem aAny_dirty (ht : TBok P tb) (hs : SPok P sp) (hR0 : Rep W D R0 ids0 own0 H0 w0) (hsel : Region.noSelect ops = true) (hP : ∀ c a w, ¬ Q (.panic c) a w) (hQ : ∀ a w, Told (maskW W R0 ids0 (maskL m H0) w0) (maskD own0 m H0) K a w → Q .normal a w) :
    ∀ (fuel : Nat) (listed : Array Bool) {a : Act} {w : World}, Told (maskW W R0 ids0 (maskL m H0) w0) (maskD own0 m H0) (fun F H => aAny tb sp ops (onlyL m H0) fuel false listed F H K) a w →
      wpAnyH P .any ops Q (Held own0 m H0 w0) fuel listed a w
  | 0, listed, a, w, ⟨hd, F, H, R, ids, own, hF, hR, h⟩ => by
    unfold aAny at h
    split at h
    · rename_i hr; exact wpAnyH_done hr (hQ a w ⟨hd, F, H, R, ids, own, hF, hR, h⟩) 0
    · exact h.elim
  | fuel + 1, listed, a, w, ⟨hd, F, H, R, ids, own, hF, hR, h⟩ => by
    have hS : Held own0 m H0 w0 w := hR.keep
    unfold aAny at h
    split at h
    · rename_i hr; exact wpAnyH_done hr (hQ a w ⟨hd, F, H, R, ids, own, hF, hR, h⟩) _
    · rename_i i0 r0 hr
      split at h
      · rename_i i hfind
        split at h
        · rename_i o ho
          have hc := List.find?_some hfind
          simp only [ho, Bool.and_eq_true] at hc
          have hmem := List.mem_of_find?_eq_some hfind
          refine match aGuard_ok hF h with
            | .inl ⟨hw, F', hF', h⟩ => ?_
            | .inr ⟨hw, F', hF', h⟩ => ?_
          · obtain ⟨av, v, h1, h2, h3⟩ := aTakeD_ok (P := P) (o := o) (a := a) ht hR0 hR hF' hc.1 h
            refine wpAnyH_take (v := v) ho hsel hc.2 (by rw [hr]; simpa using hmem) (fun c a w hq => (hP c _ _ hq).elim) (.inl ⟨hw, fun w2 h2 => h1 w2 h2⟩) hS ?_
            exact aAny_dirty ht hs hR0 hsel hP hQ fuel _ ⟨by rw [put_defers]; exact hd, _, H, R, ids, own, hF'.put (a := a) o.dst h2, hR, h3⟩
          · refine wpAnyH_take (v := undef) ho hsel hc.2 (by rw [hr]; simpa using hmem) (fun c a w hq => (hP c _ _ hq).elim) (.inr ⟨hw, rfl⟩) hS ?_
            exact aAny_dirty ht hs hR0 hsel hP hQ fuel _ ⟨by rw [put_defers]; exact hd, _, H, R, ids, own, hF'.put (a := a) o.dst V.undef, hR, h⟩
        · exact h.elim
      · refine wpAnyH_all hr (by simp) fun i hi => ?_
        have hh := allL_all h i hi
        split at hh
        · rename_i o ho
          unfold wpOp
          simp only [ho]
          refine match aGuard_ok hF hh with
            | .inl ⟨hw, F', hF', h⟩ => ?_
            | .inr ⟨hw, F', hF', h⟩ => ?_
          · rw [if_pos hw]
            refine .inl (Goes.wp ?_)
            have hg := aOp_ok (P := P) (o := o) ht hs hF' hR h
            have conv : ∀ v w', Stands (maskW W R0 ids0 (maskL m H0) w0) (maskD own0 m H0) a.tmps.toList (fun av F' H' => aAny tb sp ops (onlyL m H0) fuel false (listed.setIfInBounds i true) (setD F' o.dst av) H' K) v w' →
                (Held own0 m H0 w0 w' ∧ wpAnyH P .any ops Q (Held own0 m H0 w0) fuel (listed.setIfInBounds i true) (a.put o.dst v) w') := by
              rintro v w' ⟨av, F2, H2, R2, ids2, own2, g1, g2, g3, g4⟩
              exact ⟨g3.keep, aAny_dirty ht hs hR0 hsel hP hQ fuel _ ⟨by rw [put_defers]; exact hd, _, H2, R2, ids2, own2, g2.put (a := a) o.dst g1, g3, g4⟩⟩
            rcases hg with ⟨v, w', h1, h2⟩ | ⟨w', h1, h2⟩ | ⟨f, args, w', h1, h2⟩
            · exact .inl ⟨v, w', h1, conv _ _ h2⟩
            · exact .inr (.inl ⟨w', h1, conv _ _ h2⟩)
            · exact .inr (.inr ⟨f, args, w', h1, h2.mono fun e w'' ⟨v, he, hg⟩ => ⟨v, he, conv _ _ hg⟩⟩)
          · rw [if_neg (by simp [hw])]
            exact ⟨hS, aAny_dirty ht hs hR0 hsel hP hQ fuel _ ⟨by rw [put_defers]; exact hd, _, H, R, ids, own, hF'.put (a := a) o.dst V.undef, hR, h⟩⟩
        · exact hh.elim

theorem aAny_clean (ht : TBok P tb) (hs : SPok P sp) (hR : Rep W D R0 ids0 own0 H0 w0) (hsel : Region.noSelect ops = true) (hP : ∀ c a w, ¬ Q (.panic c) a w)
    (hQ : ∀ a w, Told (maskW W R0 ids0 (maskL m H0) w0) (maskD own0 m H0) K a w → Q .normal a w) :
    ∀ (fuel : Nat) (listed : Array Bool) {a : Act} {F : Fr}, a.defers = [] → Ts R0 ids0 F a.tmps.toList → aAny tb sp ops (onlyL m H0) fuel true listed F (maskL m H0) K →
      wpAnyH P .any ops Q (Held own0 m H0 w0) fuel listed a w0
  | 0, listed, a, F, hd, hF, h => by
    unfold aAny at h
    split at h
    · rename_i hr; exact wpAnyH_done hr (hQ a w0 ⟨hd, F, _, R0, ids0, _, hF, hR.mask m, h⟩) 0
    · exact h.elim
  | fuel + 1, listed, a, F, hd, hF, h => by
    have hS : Held own0 m H0 w0 w0 := fun _ _ _ => rfl
    unfold aAny at h
    split at h
    · rename_i hr; exact wpAnyH_done hr (hQ a w0 ⟨hd, F, _, R0, ids0, _, hF, hR.mask m, h⟩) _
    · rename_i i0 r0 hr
      split at h
      · rename_i i hfind
        split at h
        · rename_i o ho
          have hc := List.find?_some hfind
          simp only [ho, Bool.and_eq_true] at hc
          have hmem := List.mem_of_find?_eq_some hfind
          refine match aGuard_ok hF h with
            | .inl ⟨hw, F', hF', h⟩ => ?_
            | .inr ⟨hw, F', hF', h⟩ => ?_
          · obtain ⟨av, v, h1, h2, h3⟩ := aTake_ok (P := P) (o := o) (a := a) ht hF' (hR.only m) h
            refine wpAnyH_take (v := v) ho hsel hc.2 (by rw [hr]; simpa using hmem) (fun c a w hq => (hP c _ _ hq).elim) (.inl ⟨hw, fun w2 h2 => h1 w2 (.inr (hR.agr h2))⟩) hS ?_
            exact aAny_clean ht hs hR hsel hP hQ fuel _ (by rw [put_defers]; exact hd) (hF'.put (a := a) o.dst h2) h3
          · refine wpAnyH_take (v := undef) ho hsel hc.2 (by rw [hr]; simpa using hmem) (fun c a w hq => (hP c _ _ hq).elim) (.inr ⟨hw, rfl⟩) hS ?_
            exact aAny_clean ht hs hR hsel hP hQ fuel _ (by rw [put_defers]; exact hd) (hF'.put (a := a) o.dst V.undef) h
        · exact h.elim
      · refine wpAnyH_all hr (by simp) fun i hi => ?_
        have hh := allL_all h i hi
        split at hh
        · rename_i o ho
          unfold wpOp
          simp only [ho]
          refine match aGuard_ok hF hh with
            | .inl ⟨hw, F', hF', h⟩ => ?_
            | .inr ⟨hw, F', hF', h⟩ => ?_
          · rw [if_pos hw]
            refine .inl (Goes.wp ?_)
            have hg := aOp_ok (P := P) (o := o) ht hs hF' (hR.mask m) h
            have conv : ∀ v w', Stands (maskW W R0 ids0 (maskL m H0) w0) (maskD own0 m H0) a.tmps.toList (fun av F' H' => aAny tb sp ops (onlyL m H0) fuel false (listed.setIfInBounds i true) (setD F' o.dst av) H' K) v w' →
                (Held own0 m H0 w0 w' ∧ wpAnyH P .any ops Q (Held own0 m H0 w0) fuel (listed.setIfInBounds i true) (a.put o.dst v) w') := by
              rintro v w' ⟨av, F2, H2, R2, ids2, own2, g1, g2, g3, g4⟩
              exact ⟨g3.keep, aAny_dirty ht hs hR hsel hP hQ fuel _ ⟨by rw [put_defers]; exact hd, _, H2, R2, ids2, own2, g2.put (a := a) o.dst g1, g3, g4⟩⟩
            rcases hg with ⟨v, w', h1, h2⟩ | ⟨w', h1, h2⟩ | ⟨f, args, w', h1, h2⟩
            · exact .inl ⟨v, w', h1, conv _ _ h2⟩
            · exact .inr (.inl ⟨w', h1, conv _ _ h2⟩)
            · exact .inr (.inr ⟨f, args, w', h1, h2.mono fun e w'' ⟨v, he, hg⟩ => ⟨v, he, conv _ _ hg⟩⟩)
          · rw [if_neg (by simp [hw])]
            exact ⟨hS, aAny_clean ht hs hR hsel hP hQ fuel _ (by rw [put_defers]; exact hd) (hF'.put (a := a) o.dst V.undef) h⟩
        · exact hh.elim
end

/-- Leading operations that leave the world as it is. -/
def aHead (tb : TB) (all : List Oper) (H : AH) : List Oper → Fr → (Fr → Prop) → Prop
  | [], F, K => K F
  | o :: r, F, K => aGuard all o.guard F (fun F => aTake tb o.op F H (fun av => aHead tb all H r (setD F o.dst av) K)) (fun F => aHead tb all H r (setD F o.dst (.tup [])) K)

theorem aHead_ok (ht : TBok P tb) {all : List Oper} (hR : Rep W D R ids own H w) {Q : Act → Prop} {K : Fr → Prop} (hQ : ∀ a F, a.defers = [] → Ts R ids F a.tmps.toList → K F → Q a) : ∀ (r : List Oper) {a : Act} {F : Fr},
    a.defers = [] → Ts R ids F a.tmps.toList → aHead tb all H r F K → wpStill P all.toArray w Q r a
  | [], a, F, hd, hF, h => hQ a F hd hF h
  | o :: r, a, F, hd, hF, h => by
    unfold aHead at h
    unfold wpStill
    rcases aGuard_ok hF h with ⟨hw, F', hF', h⟩ | ⟨hw, F', hF', h⟩
    · rw [if_pos hw]
      obtain ⟨av, v, h1, h2, h3⟩ := aTake_ok (P := P) (o := o) (a := a) ht hF' hR.view h
      unfold Oper.still
      rw [h1 w (.inr hR.view.refl)]
      exact ⟨rfl, aHead_ok ht hR hQ r (by rw [put_defers]; exact hd) (hF'.put (a := a) o.dst h2) h3⟩
    · rw [if_neg (by simp [hw])]
      exact aHead_ok ht hR hQ r (by rw [put_defers]; exact hd) (hF'.put (a := a) o.dst V.undef) h

def headN : List Oper → Nat
  | [] => 0
  | o :: r => match candOp true [] [.cells 0 []] (match o.op with | .load .. => .move (.tmp 0) | .convert .. => .move (.tmp 0) | op => op) with
    | true => headN r + 1
    | false => 0

def maskOf (loose : List Nat) (n : Nat) : List Bool := (List.range n).map fun q => !loose.any (Nat.beq q)

/-- A region that draws its order. -/
def aDrawn (tb : TB) (sp : SP) (ops : Array Oper) (loose : List Nat) (F : Fr) (H : AH) (K : Fr → AH → Prop) : Prop :=
  match Nat.beq (headN ops.toList) ops.size && Region.lexB .any ops with
  | true => aHead tb ops.toList H ops.toList F (fun F => K F H)
  | false => match Region.lexTailB .any ops (headN ops.toList) with
    | true => aHead tb ops.toList H (ops.toList.take (headN ops.toList)) F (fun F => aOps tb sp ops.toList (ops.toList.drop (headN ops.toList)) F H K)
    | false => match Region.noSelect ops with
      | true => aAny tb sp ops (onlyL (maskOf loose H.length) H) ops.size true (Array.replicate ops.size false) F (maskL (maskOf loose H.length) H)
          (fun F' H' => K F' (restL (okM (maskOf loose H.length) H) (maskOf loose H.length) H H'))
      | false => False

theorem aDrawn_ok (hm : P.follows .mixedOrders = true) (ht : TBok P tb) (hs : SPok P sp) {id : Nat} {ops : Array Oper} {loose : List Nat} {Q : Exit → Act → World → Prop} {K : Fr → AH → Prop} (hP : ∀ c a w, ¬ Q (.panic c) a w)
    (hQ : ∀ a w, Told W D K a w → Q .normal a w) {a : Act} (h : Told W D (fun F H => aDrawn tb sp ops loose F H K) a w) : (Code.region id ops true).wp P Q a w := by
  obtain ⟨hd, F, H, R, ids, own, hF, hR, h⟩ := h
  have hR1 : Rep W D R ids own H { w with drawn := w.drawn + 1 } := hR.same rfl rfl rfl rfl
  unfold aDrawn at h
  split at h
  · rename_i hb
    simp only [Bool.and_eq_true] at hb
    refine wp_region_still hm hb.2 ?_
    have := aHead_ok (P := P) ht hR1 (Q := fun a' => Q .normal a' { w with drawn := w.drawn + 1 }) (K := fun F => K F H) (fun a' F' hd' hF' hk => hQ _ _ ⟨hd', F', H, R, ids, own, hF', hR1, hk⟩) ops.toList hd hF h
    simpa using this
  · split at h
    · rename_i hb
      have e : ops = ops.toList.toArray := by simp
      rw [e]
      refine wp_region_still_tail (headN ops.toList) hm (by rw [← e]; exact hb) ?_
      refine aHead_ok (P := P) ht hR1 (fun a' F' hd' hF' hk => ?_) _ hd hF h
      exact aOps_ok ht hs hQ _ ⟨hd', F', H, R, ids, own, hF', hR1, hk⟩
    · split at h
      · rename_i hsel
        refine wp_region_held (S := Held own (maskOf loose H.length) H { w with drawn := w.drawn + 1 }) hm ?_
        refine aAny_clean ht hs hR1 hsel hP (fun a' w' ⟨hd', F', H', R', ids', own', hF', hR', hk⟩ => ?_) _ _ hd hF h
        exact hQ _ _ ⟨hd', F', _, R', ids', _, hF', hR1.rest hR', hk⟩
      · exact h.elim

end Go.Sx
