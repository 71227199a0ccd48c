/- Sx: a function meets its contract. -/
import Derived.Test.YtlecpjgbmeejdaaDoorSxS
namespace Go.Sx
variable {W W' : Base} {D D' : Nat → Prop} {R R' : Nat → Option Obj} {ids ids' own own' : Nat → Option Nat} {P : Program} {tb : TB} {sp : SP} {w w' : World} {H H' : AH}

/-- What is to be shown of a function's body. op: the objects that are opened at its entry; cl: those that are closed at its end. -/
def fnVCo (tb : TB) (sp : SP) (fn : Func) (C : Ctr) (an : C.X → An) (σ : C.X → AV → AH → Option Ren) (op : C.X → List (Nat × Opn)) (cl : C.X → C.Y → AV → AH → List (Nat × List Nat × Opn)) : Prop := match fn.body with
  | some c => ∀ x, C.pre x → openAll (op x) (C.heap x ++ [.fence]) (fun H0 => aFn tb sp (an x) fn.ntmps fn.results.toList c (C.args x) H0 (fun av H' =>
      ∃ y, closeAll (cl x y av H') H' (fun H' => fitAll (renOf (σ x av H') H'.length (C.its x y ++ .fence :: C.new x y).length) [av] H' [C.res x y] (C.its x y ++ .fence :: C.new x y) ∧ C.Q x y)))
  | none => False
/-- The same where nothing is opened or closed. -/
def fnVC (tb : TB) (sp : SP) (fn : Func) (C : Ctr) (an : C.X → An) (σ : C.X → Option Ren) : Prop := fnVCo tb sp fn C an (fun x _ _ => σ x) (fun _ => []) (fun _ _ _ _ => [])

theorem Ts.append {as bs : List AV} {vs us : List Value} (h : Ts R ids as vs) (h' : Ts R ids bs us) : Ts R ids (as ++ bs) (vs ++ us) := by
  induction as generalizing vs with
  | nil => cases h; exact h'
  | cons a r ih =>
    cases h with
    | cons _ v _ vs h1 h2 => exact .cons _ _ _ _ h1 (ih h2)

theorem Ts.undefs : ∀ n, Ts R ids (List.replicate n (.tup [])) (List.replicate n undef)
  | 0 => .nil
  | n + 1 => .cons _ _ _ _ V.undef (Ts.undefs n)

theorem Code.wp_body {fn : Func} {G : Ending → World → Prop} {K : Ex → Fr → AH → Prop} {c : Code} {a : Act} (h : c.wp P (Post W D K) a w) (hx : ∀ id F H, ¬ K (.exit id) F H)
    (hn : ∀ a w, Told W D (K .normal) a w → a.defers = [] ∧ ∃ v, (results fn a.tmps).run P w = .ok v w ∧ G (.returned v) w)
    (hr : ∀ a w, Told W D (K .ret) a w → a.defers = [] ∧ ∃ v, (results fn a.tmps).run P w = .ok v w ∧ G (.returned v) w) : c.wp P (bodyPost P fn G) a w := by
  refine wp_mono h fun e a w q => ?_
  cases e with
  | normal => exact hn a w q
  | exit id => obtain ⟨_, F, H, _, _, _, _, _, k⟩ := q; exact (hx id F H k).elim
  | ret => exact hr a w q
  | goto l => exact q.elim
  | panic c => exact q.elim
  | outgrown => exact q.elim

theorem specOko (hm : P.follows .mixedOrders = true) (ht : TBok P tb) (hs : SPok P sp) {f : Nat} {fn : Func} (hf : P.funcs[f]? = some fn) (hname : (fn.name == "runtime.NumGoroutine") = false) {C : Ctr} (hC : CtrOk C)
    {an : C.X → An} {σ : C.X → AV → AH → Option Ren} {op : C.X → List (Nat × Opn)} {cl : C.X → C.Y → AV → AH → List (Nat × List Nat × Opn)} (hv : fnVCo tb sp fn C an σ op cl) : SpecOk P f (specOf C) := by
  unfold fnVCo at hv
  split at hv
  · rename_i c hb
    refine ⟨⟨fn, hf, hname, by rw [hb]; rfl⟩, fun W D R ids own H w args vals K hgl hargs hR h => ?_⟩
    unfold specOf at h
    split at h
    · rename_i hng
      simp only [Bool.and_eq_true] at hng
      obtain ⟨hn, hg⟩ := hng
      obtain ⟨x, ⟨ha, hl, hh⟩, hx, hK⟩ := h
      have hl := Nat.eq_of_beq_eq_true hl
      generalize hτ : C.tau args H = τ at *
      have henter0 := hR.enter C.conv hn hl hh
      obtain ⟨H0, ids0, own0, henter, hids0, hv0⟩ := openAll_ok henter0 (hv x hx)
      have hvals0 : Ts (convR C.conv R own τ w) (renIds (someT τ) ids) (C.args x) vals := fitT_ok' (fun h hv => fitArg_ok hR hn hg h hv) ha hargs
      have hvals := hvals0.into hids0 (fun _ _ e => e)
      have hlen : (C.args x).length = vals.length := hvals.length
      refine calls_of_wp hf hb ?_
      refine Code.wp_body (aCode_ok hm ht ⟨hs, hgl.of fun b o hb => convR_le (hR.low b o hb)⟩ c (an := an x) (K := fun e F H => match e with
        | .exit _ => False
        | _ => aRes tb fn.results.toList F H (fun l => ∃ y, closeAll (cl x y (oneRes l) H) H (fun H => fitAll (renOf (σ x (oneRes l) H) H.length (C.its x y ++ .fence :: C.new x y).length) [oneRes l] H [C.res x y] (C.its x y ++ .fence :: C.new x y) ∧ C.Q x y)))
        ⟨rfl, _, _, _, _, _, ?_, henter, hv0⟩) (fun id F H h => h) ?_ ?_
      · have := hvals.append (Ts.undefs (R := convR C.conv R own τ w) (ids := ids0) (fn.ntmps - (C.args x).length))
        simpa [hlen] using this
      all_goals
        intro a w' ⟨hd, F, H', R', ids', own', hF', hR', hr⟩
        refine ⟨hd, ?_⟩
        obtain ⟨av, v, h1, h2, y, hcl⟩ := results_ok (P := P) ht hR'.view (K := fun av => ∃ y, closeAll (cl x y av H') H' (fun H' => fitAll (renOf (σ x av H') H'.length (C.its x y ++ .fence :: C.new x y).length) [av] H' [C.res x y] (C.its x y ++ .fence :: C.new x y) ∧ C.Q x y)) hF' hr
        obtain ⟨H'', own'', hR', hfit, hQ⟩ := closeAll_ok hR' hcl
        obtain ⟨k1, k2⟩ := fitAll_ok hfit (.cons _ _ _ _ h2 .nil) hR'
        have hv2 : V R' (renIds (renOf (σ x av H'') H''.length (C.its x y ++ .fence :: C.new x y).length) ids') (C.res x y) v := by
          cases k1 with
          | cons _ _ _ _ h _ => exact h
        have hits : (C.its x y).length = τ.length := (hC.len x y hx hQ).trans hl.symm
        obtain ⟨f1, f2⟩ := hC.noF x y hx hQ
        have hleave := hR.leave hn hg hits f1 f2 (fun hc => (hC.plain x y hc hx hQ).1) k2
        refine ⟨v, h1, v, rfl, _, _, _, _, _, ?_, hleave, out_mono hR, outRO_le k2, hK y hQ⟩
        refine renA_ok (out_ids hg hits k2) 3 ?_
        cases hc : C.conv with
        | true => exact plV_ok (hC.plain x y hc hx hQ).2 hv2
        | false => exact hv2
    · exact h.elim
  · exact hv.elim

theorem specOk (hm : P.follows .mixedOrders = true) (ht : TBok P tb) (hs : SPok P sp) {f : Nat} {fn : Func} (hf : P.funcs[f]? = some fn) (hname : (fn.name == "runtime.NumGoroutine") = false) {C : Ctr} (hC : CtrOk C)
    {an : C.X → An} {σ : C.X → Option Ren} (hv : fnVC tb sp fn C an σ) : SpecOk P f (specOf C) := specOko hm ht hs hf hname hC hv

/-- Two contracts of one function: for an object, and for what is open. -/
def specObj (s1 s2 : Spec) : Spec := fun args H K => match args with
  | .ptr p _ _ :: _ => match H[p]? with
    | some (.obj _) => s1 args H K
    | _ => s2 args H K
  | _ => s2 args H K
theorem specObj_ok {f : Nat} {s1 s2 : Spec} (h1 : SpecOk P f s1) (h2 : SpecOk P f s2) : SpecOk P f (specObj s1 s2) := by
  refine ⟨h1.fn, fun W D R ids own H w args vals K hgl hargs hR h => ?_⟩
  unfold specObj at h
  split at h
  · split at h
    · exact h1.ok W D R ids own H w _ vals K hgl hargs hR h
    · exact h2.ok W D R ids own H w _ vals K hgl hargs hR h
  · exact h2.ok W D R ids own H w _ vals K hgl hargs hR h
/-- The same: whether two pointers are one. -/
def specEq (s1 s2 : Spec) : Spec := fun args H K => match args with
  | .ptr p _ _ :: .ptr q _ _ :: _ => match Nat.beq p q with
    | true => s1 args H K
    | false => s2 args H K
  | _ => s2 args H K
theorem specEq_ok {f : Nat} {s1 s2 : Spec} (h1 : SpecOk P f s1) (h2 : SpecOk P f s2) : SpecOk P f (specEq s1 s2) := by
  refine ⟨h1.fn, fun W D R ids own H w args vals K hgl hargs hR h => ?_⟩
  unfold specEq at h
  split at h
  · split at h
    · exact h1.ok W D R ids own H w _ vals K hgl hargs hR h
    · exact h2.ok W D R ids own H w _ vals K hgl hargs hR h
  · exact h2.ok W D R ids own H w _ vals K hgl hargs hR h

/-- The same: told by a test of the arguments. -/
def specCase (g : List AV → Bool) (s1 s2 : Spec) : Spec := fun args H K => match g args with
  | true => s1 args H K
  | false => s2 args H K
theorem specCase_ok {f : Nat} {g : List AV → Bool} {s1 s2 : Spec} (h1 : SpecOk P f s1) (h2 : SpecOk P f s2) : SpecOk P f (specCase g s1 s2) := by
  refine ⟨h1.fn, fun W D R ids own H w args vals K hgl hargs hR h => ?_⟩
  unfold specCase at h
  split at h
  · exact h1.ok W D R ids own H w _ vals K hgl hargs hR h
  · exact h2.ok W D R ids own H w _ vals K hgl hargs hR h
/-- Is the argument at this place this number, this function? -/
def argInt (i : Nat) (n : Int) (args : List AV) : Bool := match args[i]? with
  | some (.int _ m) => decide (m = n)
  | _ => false
def argFn (i f : Nat) (args : List AV) : Bool := match args[i]? with
  | some (.fn g) => Nat.beq f g
  | _ => false
def argNil (i : Nat) (args : List AV) : Bool := match args[i]? with
  | some .nilp => true
  | _ => false

theorem TBok0.nil : TBok0 P [] := fun _ h => by simp at h
theorem TBok0.cons {t : Nat} {ti : TI} {r : TB} (h : TIok P t ti) (hr : TBok0 P r) : TBok0 P ((t, ti) :: r) := fun x hx => by
  rcases List.mem_cons.1 hx with rfl | hx
  · exact h
  · exact hr x hx
theorem SPok.nil : SPok P [] := fun _ h => by simp at h
theorem SPok.cons {f : Nat} {s : Spec} {r : SP} (h : SpecOk P f s) (hr : SPok P r) : SPok P ((f, s) :: r) := fun x hx => by
  rcases List.mem_cons.1 hx with rfl | hx
  · exact h
  · exact hr x hx

/-- A run of 'True ∧'. -/
def Tr : Nat → Prop → Prop
  | 0, p => p
  | n + 1, p => True ∧ Tr n p
theorem Tr_eq : ∀ n p, Tr n p = p
  | 0, _ => rfl
  | n + 1, p => by simp [Tr, Tr_eq n p]

/-- 'There is': its type is written out. -/
def Exx (T : Type) (p : T → Prop) : Prop := ∃ x, p x

/-- A contract of a function of values alone. -/
def pureC (X : Type) (pre : X → Prop) (args : X → List AV) (res : X → AV) : Ctr where
  X := X
  Y := Unit
  conv := true
  tau := fun _ _ => []
  pre := pre
  args := args
  heap := fun _ => []
  Q := fun _ _ => True
  res := fun x _ => res x
  its := fun _ _ => []
  new := fun _ _ => []
theorem pureC_ok {X : Type} {pre : X → Prop} {args : X → List AV} {res : X → AV} (h : ∀ x, plV 2 (res x)) : CtrOk (pureC X pre args res) :=
  ⟨fun _ _ _ _ => rfl, fun _ _ _ _ => ⟨rfl, rfl⟩, fun x _ _ _ _ => ⟨⟨trivial, trivial⟩, h x⟩⟩

theorem BC_iff {b : Bool} {t e : Prop} : BC b t e ↔ (b = true → t) ∧ (b = false → e) := by cases b <;> simp [BC]

/-- A frame of which few slots are told. -/
def frm0 (l : List (Nat × AV)) : Nat → Nat → Fr
  | _, 0 => []
  | i, n + 1 => (match lkN l i with
    | some a => a
    | none => .any) :: frm0 l (i + 1) n
def frm (n : Nat) (l : List (Nat × AV)) : Fr := frm0 l 0 n

end Go.Sx
