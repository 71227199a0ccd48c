import Derived.Test.YtkdppdofkkakaaaGreatDoorPages

namespace Yard
open Go Go.Sx Go.Proofs
set_option linter.unusedVariables false
set_option linter.unusedSimpArgs false
set_option maxRecDepth 4000

theorem zeS {a b : Int} : a ∈ one0 b ↔ a = b/\b ≠ 0 := by
 unfold one0
 split
 ·rename_i h; simp [h]
 ·rename_i h; simp [h]
theorem kidL_mem {ws : List Nat} {g a : Int} : a ∈ kidL ws g ↔ (a = g/\g ≠ 0)\/∃ j, j < 16/\a = fanF ws g j/\fanF ws g j ≠ 0 := by
 rw [kidL, zmQ, List.mem_append, zeS, List.mem_flatMap]
 constructor
 ·rintro (h | ⟨j, hj, h⟩)
  ·exact .inl h
  ·have := zeS.1 h
   exact .inr ⟨j, List.mem_range.1 hj, this.1, this.2⟩
 ·rintro (h | ⟨j, hj, h⟩)
  ·exact .inl h
  ·exact .inr ⟨j, List.mem_range.2 hj, zeS.2 h⟩
theorem pages_mem {ws : List Nat} {top a : Int} : a ∈ zeC ws top 16 ↔ (a = top/\top ≠ 0)\/(∃ i, i < 16/\a = fanF ws top i/\fanF ws top i ≠ 0)\/∃ i j, i < 16/\j < 16/\a = tF ws top i j/\tF ws top i j ≠ 0 := by
 rw [zeC, List.mem_append, zeS, List.mem_flatMap]
 constructor
 ·rintro (h | ⟨i, hi, h⟩)
  ·exact .inl h
  ·rcases kidL_mem.1 h with k | ⟨j, hj, k⟩
   ·exact .inr (.inl ⟨i, List.mem_range.1 hi, k⟩)
   ·exact .inr (.inr ⟨i, j, List.mem_range.1 hi, hj, k⟩)
 ·rintro (h | ⟨i, hi, h⟩ | ⟨i, j, hi, hj, h⟩)
  ·exact .inl h
  ·exact .inr ⟨i, List.mem_range.2 hi, kidL_mem.2 (.inl h)⟩
  ·exact .inr ⟨i, List.mem_range.2 hi, kidL_mem.2 (.inr ⟨j, hj, h⟩)⟩
theorem zmM (a : Int) : (one0 a).Nodup := by unfold one0; split <;> simp
theorem zy7 {X : Int->Prop} {s : StoreT} {top : Int} (h : TreeX X s top) : (zeC s.ws top 16).Nodup := by
 have g := h.sh
 rw [zeC, List.nodup_append]
 refine ⟨zmM _, ?_, fun a ha b hb => ?_⟩
 ·rw [List.Nodup, List.pairwise_flatMap]
  refine ⟨fun i hi => ?_, ?_⟩
  ·have hi := List.mem_range.1 hi
   have : (kidL s.ws (fanF s.ws top i)).Nodup := by
    rw [kidL, List.nodup_append]
    refine ⟨zmM _, ?_, fun a ha b hb => ?_⟩
    ·rw [zmQ, List.Nodup, List.pairwise_flatMap]
     refine ⟨fun j _ => zmM _, List.Pairwise.imp_of_mem (fun {j k} hj hk hlt x hx y hy e => ?_) List.pairwise_lt_range⟩
     have h1 := zeS.1 hx
     have h2 := zeS.1 hy
     have := g.d5 i j i k hi (List.mem_range.1 hj) hi (List.mem_range.1 hk) h1.2 (by rw [tF, tF, <- h1.1, <- h2.1, e])
     omega
    ·intro e
     have h1 := zeS.1 ha
     obtain ⟨j, hj, hb⟩ := List.mem_flatMap.1 hb
     have h2 := zeS.1 hb
     exact g.d3 i j i hi (List.mem_range.1 hj) hi h2.2 (by rw [tF, <- h2.1, <- e, h1.1])
   exact this
  ·refine List.Pairwise.imp_of_mem (fun {i k} hi hk hlt x hx y hy e => ?_) List.pairwise_lt_range
   have hi := List.mem_range.1 hi
   have hk := List.mem_range.1 hk
   rcases kidL_mem.1 hx with h1 | ⟨j, hj, h1⟩ <;> rcases kidL_mem.1 hy with h2 | ⟨j2, hj2, h2⟩
   ·have := g.d4 i k hi hk h1.2 (by rw [<- h1.1, <- h2.1, e]); omega
   ·exact g.d3 k j2 i hk hj2 hi h2.2 (by rw [tF, <- h2.1, <- e, h1.1])
   ·exact g.d3 i j k hi hj hk h1.2 (by rw [tF, <- h1.1, e, h2.1])
   ·have := g.d5 i j k j2 hi hj hk hj2 h1.2 (by rw [tF, tF, <- h1.1, <- h2.1, e]); omega
 ·intro e
  have h1 := zeS.1 ha
  obtain ⟨i, hi, hb⟩ := List.mem_flatMap.1 hb
  have hi := List.mem_range.1 hi
  rcases kidL_mem.1 hb with h2 | ⟨j, hj, h2⟩
  ·exact g.d1 i hi h2.2 (by rw [<- h2.1, <- e, h1.1])
  ·exact g.d2 i j hi hj h2.2 (by rw [tF, <- h2.1, <- e, h1.1])
theorem zv2 {s : StoreT} {top : Int} {xs : List Int} (h : TreeX (fun c => c ∈ xs) s top) (hx : xs.Nodup) (h0 : InS s.a.n s.a.w 0) (h1 : InS s.a.n s.a.w 1) :
  (bitsL s.a.n s.a.w).length = 2 + xs.length + (zeC s.ws top 16).length/\(∀ a, a ∈ zeC s.ws top 16->InS s.a.n s.a.w a) := by
 have g := h.sh
 have hge : ∀ a, a ∈ zeC s.ws top 16->2 <= a := fun a ha => by
  rcases pages_mem.1 ha with k | ⟨i, hi, k⟩ | ⟨i, j, hi, hj, k⟩
  ·have := g.ht; omega
  ·have := g.hk i hi; omega
  ·have := g.hf i j hi hj; omega
 have hin : ∀ a, a ∈ zeC s.ws top 16->InS s.a.n s.a.w a := fun a ha => by
  rcases pages_mem.1 ha with k | ⟨i, hi, k⟩ | ⟨i, j, hi, hj, k⟩
  ·rw [k.1]; exact (g.ht.resolve_left k.2).2
  ·rw [k.1]; exact ((g.hk i hi).resolve_left k.2).2
  ·rw [k.1]; exact ((g.hf i j hi hj).resolve_left k.2).2
 have hn : ((0 : Int) :: 1 :: (xs ++ zeC s.ws top 16)).Nodup := by
  rw [List.nodup_cons, List.nodup_cons]
  refine ⟨fun k => ?_, fun k => ?_, List.nodup_append.2 ⟨hx, zy7 h, fun a ha b hb e => ?_⟩⟩
  ·rcases List.mem_cons.1 k with k | k
   ·cases k
   ·rcases List.mem_append.1 k with k | k
    ·have := (g.xw _ k).1; omega
    ·have := hge _ k; omega
  ·rcases List.mem_append.1 k with k | k
   ·have := (g.xw _ k).1; omega
   ·have := hge _ k; omega
  ·subst e
   rcases pages_mem.1 hb with k | ⟨i, hi, k⟩ | ⟨i, j, hi, hj, k⟩
   ·exact g.x1 a ha k.1
   ·exact g.x2 a i ha hi k.1
   ·exact g.x3 a i j ha hi hj k.1
 have hl : (zcH (s.a.n, s.a.w)).Nodup := by
  rw [zcH, List.Nodup, List.pairwise_map]
  refine List.Pairwise.imp (R := (· < ·)) (fun {a b} hab e => ?_) (List.Pairwise.filter _ List.pairwise_lt_range)
  omega
 have hm : ∀ a, a ∈ zcH (s.a.n, s.a.w) ↔ a ∈ ((0 : Int) :: 1 :: (xs ++ zeC s.ws top 16)) := fun a => by
  rw [listN_mem (n := s.a.n) (m := s.a.w), List.mem_cons, List.mem_cons, List.mem_append, pages_mem]
  constructor
  ·intro k
   rcases g.exX a (inS_iff.2 k) with z | z | z | ⟨i, hi, z⟩ | ⟨i, j, hi, hj, z⟩ | z
   ·exact .inl z
   ·exact .inr (.inl z)
   ·by_cases e : top = 0
    ·exact .inl (by rw [z, e])
    ·exact .inr (.inr (.inr (.inl ⟨z, e⟩)))
   ·by_cases e : fanF s.ws top i = 0
    ·exact .inl (by rw [z, e])
    ·exact .inr (.inr (.inr (.inr (.inl ⟨i, hi, z, e⟩))))
   ·by_cases e : tF s.ws top i j = 0
    ·exact .inl (by rw [z, e])
    ·exact .inr (.inr (.inr (.inr (.inr ⟨i, j, hi, hj, z, e⟩))))
   ·exact .inr (.inr (.inl z))
  ·rintro (k | k | k | k)
   ·rw [k]; exact inS_iff.1 h0
   ·rw [k]; exact inS_iff.1 h1
   ·exact inS_iff.1 (g.xw _ k).2
   ·exact inS_iff.1 (hin a (pages_mem.2 k))
 have := ((List.perm_ext_iff_of_nodup hl hn).2 hm).length_eq
 rw [zcH, List.length_map] at this
 simp only [List.length_cons, List.length_append] at this
 exact ⟨by rw [show (bitsL s.a.n s.a.w).length = _ from this]; omega, hin⟩
end Yard
