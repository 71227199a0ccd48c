import Derived.Test.YtkdppdofkkakaaaGreatDoorGrown

namespace Yard
open Go Go.Sx Go.Proofs
set_option linter.unusedVariables false
set_option linter.unusedSimpArgs false
set_option maxRecDepth 4000
set_option maxHeartbeats 4000000

theorem deg_k {n : Nat} (h : n < 256) : (IntKind.i64.wrap (n : Int)).tmod 5 = ((n % 5 : Nat) : Int) := by rw [zbN ⟨by omega, by omega⟩]; rfl
theorem qi8 {n : Nat} (h : n < 256) : IntKind.i64.wrap (1 * 2 ^ min ((IntKind.i64.wrap (n : Int)).tmod 5).toNat IntKind.i64.bits) = ((2 ^ (n % 5) : Nat) : Int) := by
 rw [deg_k h, Int.toNat_natCast]; exact shl7 (by omega)
theorem qbN (es : List (List Int)) : ∃ d, GS es 0 (zcM 120 0) (zjJ ((120 : Nat) : Int) 20 100) d [] := by
 have I0 : NInv (zcM 120 0) (zjJ ((120 : Nat) : Int) 20 100) zz3 [] := zlE (by omega) (by omega) ⟨by omega, by omega, by omega, by omega, by omega, by omega⟩
 exact ⟨zz3, ⟨I0, fun g hg => (by cases hg)⟩, rfl, rfl, (roomK_made 120).le (by omega), w01_made (by omega), rfl, List.Perm.refl _⟩
theorem qb6 (es : List (List Int)) (n : Nat) : ∀ m, m <= n->zd8 (es.take n) m = zd8 es m := fun m hm => by
 unfold zd8
 refine List.map_congr_left fun i hi => ?_
 rw [List.mem_range] at hi
 rw [zaY, if_pos (by omega)]

structure GTree (es : List (List Int)) (k : Nat) (s : StoreT) (t : TickT) (b : Int) (p : EB) : Prop where
 img : zbW (imgN (zaD s.ws)) k b = some p
 leads : zgM s t p.1 p.2
 list : zcN s.ws b = (p.1, 0)
 l1 : p.1.length = 2 ^ k
 l2 : p.2.length = 2 ^ k
 ents : EntsI p.1
 kids : zkG p.2
 want : p.1.Perm (zd8 es (2 ^ k))
 hnd : HNodup p.1
 sW : zaG s
 tI : zbC t
 bI : I64 b
 high : t.high = ((2 ^ k : Nat) : Int)
theorem qiG {es : List (List Int)} {k : Nat} {s : StoreT} {t : TickT} {d : DeskT} {b : Int} {p : EB} (h : GS es (2 ^ k) s t d [(k, b, p)]) (hk : k <= 4) : GTree es k s t b p := by
 have hm : (k, b, p) ∈ [(k, b, p)] := List.mem_cons_self ..
 have ht := h.gr.tr _ hm
 simp only at ht
 have h16 : 2 ^ k <= 2 ^ 4 := Nat.pow_le_pow_right (by decide) hk
 have e16 : (2 : Nat) ^ 4 = 16 := rfl
 have hi := h.gr.img hm
 simp only at hi
 have hl := zu1 _ k b p ht
 have eB : gB [(k, b, p)] = p.2 := by simp [gB]
 have eE : gE [(k, b, p)] = p.1 := by simp [gE]
 have hL := h.gr.leads
 have hw := h.es
 have hn := h.gr.hnd
 have hv := h.gr.inv
 rw [eE] at hL hw hn
 rw [eB] at hL hv
 obtain ⟨n, r, q, m1, m2, m3, m4⟩ := zd9 ht
 refine ⟨hi, hL, qdU ht (by omega), hl.1, hl.2, ⟨zu2 (P := EntI) (fun c m hc => (qiA hc).1.1) k b p hi, by omega⟩, ⟨fun c hc => hv.i64 hc, by omega⟩, hw, hn, hv.W, hv.tI, hv.i64 (by rw [m4]; exact List.mem_cons_self ..), h.high⟩

end Yard
