/- Sx: a function meets its contract. -/
import Derived.Test.YtoajfhpiepkjkaaSxS
namespace Go.Sx
variable {W W' : Base} {D D' : Nat → Prop} {R R' : Nat → Option Obj} {ids ids' own own' : Nat → Option Nat} {P : Program} {tb : TB} {sp : SP} {w w' : World} {H H' : AH}

/-- What is to be shown of a function's body. -/
def fnVC (tb : TB) (sp : SP) (fn : Func) (C : Ctr) (an : C.X → An) (σ : C.X → Option Ren) : Prop := match fn.body with
  | some c => ∀ x, C.pre x → aFn tb sp (an x) fn.ntmps fn.results.toList c (C.args x) (C.heap x ++ [.fence]) (fun av H' =>
      ∃ y, fitAll (renOf (σ x) H'.length (C.its x y ++ .fence :: C.new x y).length) [av] H' [C.res x y] (C.its x y ++ .fence :: C.new x y) ∧ C.Q x y)
  | none => False

theorem Ts.append {as bs : List AV} {vs us : List Value} (h : Ts R ids as vs) (h' : Ts R ids bs us) : Ts R ids (as ++ bs) (vs ++ us) := by
  induction as generalizing vs with
  | nil => cases h; exact h'
  | cons a r ih =>
    cases h with
    | cons _ v _ vs h1 h2 => exact .cons _ _ _ _ h1 (ih h2)

theorem Ts.undefs : ∀ n, Ts R ids (List.replicate n (.tup [])) (List.replicate n undef)
  | 0 => .nil
  | n + 1 => .cons _ _ _ _ V.undef (Ts.undefs n)

theorem Code.wp_body {fn : Func} {G : Ending → World → Prop} {K : Ex → Fr → AH → Prop} {c : Code} {a : Act} (h : c.wp P (Post W D K) a w) (hx : ∀ id F H, ¬ K (.exit id) F H)
    (hn : ∀ a w, Told W D (K .normal) a w → a.defers = [] ∧ ∃ v, (results fn a.tmps).run P w = .ok v w ∧ G (.returned v) w)
    (hr : ∀ a w, Told W D (K .ret) a w → a.defers = [] ∧ ∃ v, (results fn a.tmps).run P w = .ok v w ∧ G (.returned v) w) : c.wp P (bodyPost P fn G) a w := by
  refine wp_mono h fun e a w q => ?_
  cases e with
  | normal => exact hn a w q
  | exit id => obtain ⟨_, F, H, _, _, _, _, _, k⟩ := q; exact (hx id F H k).elim
  | ret => exact hr a w q
  | goto l => exact q.elim
  | panic c => exact q.elim
  | outgrown => exact q.elim

theorem specOk (hm : P.follows .mixedOrders = true) (ht : TBok P tb) (hs : SPok P sp) {f : Nat} {fn : Func} (hf : P.funcs[f]? = some fn) (hname : (fn.name == "runtime.NumGoroutine") = false) {C : Ctr} (hC : CtrOk C)
    {an : C.X → An} {σ : C.X → Option Ren} (hv : fnVC tb sp fn C an σ) : SpecOk P f (specOf C) := by
  unfold fnVC at hv
  split at hv
  · rename_i c hb
    refine ⟨⟨fn, hf, hname, by rw [hb]; rfl⟩, fun W D R ids own H w args vals K hgl hargs hR h => ?_⟩
    unfold specOf at h
    split at h
    · rename_i hng
      simp only [Bool.and_eq_true] at hng
      obtain ⟨hn, hg⟩ := hng
      obtain ⟨x, ⟨ha, hl, hh⟩, hx, hK⟩ := h
      have hl := Nat.eq_of_beq_eq_true hl
      generalize hτ : C.tau args H = τ at *
      have henter := hR.enter C.conv hn hl hh
      have hvals : Ts (convR C.conv R own τ w) (renIds (someT τ) ids) (C.args x) vals := fitT_ok' (fun h hv => fitArg_ok hR hn hg h hv) ha hargs
      have hlen : (C.args x).length = vals.length := hvals.length
      refine calls_of_wp hf hb ?_
      refine Code.wp_body (aCode_ok hm ht ⟨hs, hgl.of fun b o hb => convR_le (hR.low b o hb)⟩ c (an := an x) (K := fun e F H => match e with
        | .exit _ => False
        | _ => aRes tb fn.results.toList F H (fun l => ∃ y, fitAll (renOf (σ x) H.length (C.its x y ++ .fence :: C.new x y).length) [oneRes l] H [C.res x y] (C.its x y ++ .fence :: C.new x y) ∧ C.Q x y))
        ⟨rfl, _, _, _, _, _, ?_, henter, hv x hx⟩) (fun id F H h => h) ?_ ?_
      · have := hvals.append (Ts.undefs (R := convR C.conv R own τ w) (ids := renIds (someT τ) ids) (fn.ntmps - (C.args x).length))
        simpa [hlen] using this
      all_goals
        intro a w' ⟨hd, F, H', R', ids', own', hF', hR', hr⟩
        refine ⟨hd, ?_⟩
        obtain ⟨av, v, h1, h2, y, hfit, hQ⟩ := results_ok (P := P) ht hR'.view (K := fun av => ∃ y, fitAll (renOf (σ x) H'.length (C.its x y ++ .fence :: C.new x y).length) [av] H' [C.res x y] (C.its x y ++ .fence :: C.new x y) ∧ C.Q x y) hF' hr
        obtain ⟨k1, k2⟩ := fitAll_ok hfit (.cons _ _ _ _ h2 .nil) hR'
        have hv2 : V R' (renIds (renOf (σ x) H'.length (C.its x y ++ .fence :: C.new x y).length) ids') (C.res x y) v := by
          cases k1 with
          | cons _ _ _ _ h _ => exact h
        have hits : (C.its x y).length = τ.length := (hC.len x y hx hQ).trans hl.symm
        obtain ⟨f1, f2⟩ := hC.noF x y hx hQ
        have hleave := hR.leave hn hg hits f1 f2 (fun hc => (hC.plain x y hc hx hQ).1) k2
        refine ⟨v, h1, v, rfl, _, _, _, _, _, ?_, hleave, out_mono hR, outRO_le k2, hK y hQ⟩
        refine renA_ok (out_ids hg hits k2) 3 ?_
        cases hc : C.conv with
        | true => exact plV_ok (hC.plain x y hc hx hQ).2 hv2
        | false => exact hv2
    · exact h.elim
  · exact hv.elim

theorem TBok.nil : TBok P [] := fun _ h => by simp at h
theorem TBok.cons {t : Nat} {ti : TI} {r : TB} (h : TIok P t ti) (hr : TBok P r) : TBok P ((t, ti) :: r) := fun x hx => by
  rcases List.mem_cons.1 hx with rfl | hx
  · exact h
  · exact hr x hx
theorem SPok.nil : SPok P [] := fun _ h => by simp at h
theorem SPok.cons {f : Nat} {s : Spec} {r : SP} (h : SpecOk P f s) (hr : SPok P r) : SPok P ((f, s) :: r) := fun x hx => by
  rcases List.mem_cons.1 hx with rfl | hx
  · exact h
  · exact hr x hx

/-- A run of 'True ∧'. -/
def Tr : Nat → Prop → Prop
  | 0, p => p
  | n + 1, p => True ∧ Tr n p
theorem Tr_eq : ∀ n p, Tr n p = p
  | 0, _ => rfl
  | n + 1, p => by simp [Tr, Tr_eq n p]

/-- 'There is': its type is written out. -/
def Exx (T : Type) (p : T → Prop) : Prop := ∃ x, p x

/-- A contract of a function of values alone. -/
def pureC (X : Type) (pre : X → Prop) (args : X → List AV) (res : X → AV) : Ctr where
  X := X
  Y := Unit
  conv := true
  tau := fun _ _ => []
  pre := pre
  args := args
  heap := fun _ => []
  Q := fun _ _ => True
  res := fun x _ => res x
  its := fun _ _ => []
  new := fun _ _ => []
theorem pureC_ok {X : Type} {pre : X → Prop} {args : X → List AV} {res : X → AV} (h : ∀ x, plV 2 (res x)) : CtrOk (pureC X pre args res) :=
  ⟨fun _ _ _ _ => rfl, fun _ _ _ _ => ⟨rfl, rfl⟩, fun x _ _ _ _ => ⟨⟨trivial, trivial⟩, h x⟩⟩

theorem BC_iff {b : Bool} {t e : Prop} : BC b t e ↔ (b = true → t) ∧ (b = false → e) := by cases b <;> simp [BC]

/-- A frame of which few slots are told. -/
def frm0 (l : List (Nat × AV)) : Nat → Nat → Fr
  | _, 0 => []
  | i, n + 1 => (match lkN l i with
    | some a => a
    | none => .any) :: frm0 l (i + 1) n
def frm (n : Nat) (l : List (Nat × AV)) : Fr := frm0 l 0 n

end Go.Sx
