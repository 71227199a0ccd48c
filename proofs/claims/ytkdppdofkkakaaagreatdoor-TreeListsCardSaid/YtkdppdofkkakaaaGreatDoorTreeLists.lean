import Derived.Test.YtkdppdofkkakaaaGreatDoorTreeLaw
import Derived.Test.YtkdppdofkkakaaaGreatDoorTlMath

namespace Yard
open Go Go.Sx Go.Proofs
set_option linter.unusedVariables false
set_option linter.unusedSimpArgs false
set_option maxRecDepth 4000
set_option maxHeartbeats 4000000

abbrev linesA (l : List (List Nat)) : AV := .ro 1 l.length (fun i => [octA (l.getD i [])])
def treeListsC : Ctr := pureC (List (List Nat) × Int) (fun x => (∀ l ∈ x.1, ∀ c ∈ l, c < 256) ∧ x.1.length ≤ maxLen ∧ I64 x.2) (fun x => [linesA x.1, i64 x.2]) (fun _ => .bool true)
def treeListsLA (x : List (List Nat) × Int) : LA := { T := Nat × Nat, F := fun t => frm 107 [(0, linesA x.1), (1, i64 x.2), (5, .sl 1 [] 0 1 0 (x.1.take t.1).flatten.length t.2), (6, i64 (t.1 : Nat))], H := fun t => [.fence, rowN 5 .u8 t.2 (x.1.take t.1).flatten], ρ₁ := frRen 1 [5], ρ₂ := frRen 1 [5] }
theorem treeListsV : (
 let q1 : Prop := Exx Unit fun y => ((true = true ∧ True) ∧ true = true ∧ True) ∧ True; 
 let q2 : Prop := NilNil ∧ (0 : Nat) = 0; 
 let q3 : Prop := true = true ∧ q2; 
 let q4 : Prop := q3 ∧ q3 ∧ True; 
 let q5 : Prop := (146 : TypeId) = 146 ∧ q4; 
 let q6 : Prop := Exx Unit fun y => ((false = true ∧ True) ∧ true = true ∧ True) ∧ True; ∀ (x : List (List Nat) × Int), 
 let q8 : Prop := (1 : Nat) = 1 ∧ x.1.length = x.1.length ∧ ∀ (i : Nat), 
 let q7 : List AV := [AV.ro 1 (x.1.getD i []).length fun i_1 => [AV.int .u8 (↑((x.1.getD i []).getD i_1 0) : Int)]]; i < x.1.length → q7 = q7; (∀ (l : List Nat), l ∈ x.1 → ∀ (c : Nat), c ∈ l → c < 256) ∧ x.1.length ≤ maxLen ∧ I64 x.2 → Exx Unit fun x_1 => Tr 1 (true = true ∧ True) ∧ Tr 1 (∀ (y : Unit), True → BC (decide ((30 : Int) < (↑x.1.length : Int))) (Exx Unit fun x => Tr 1 (true = true ∧ True) ∧ Tr 1 (∀ (y : Unit), True → q1)) (Exx (Nat × Nat → Prop) fun I => Exx (Nat × Nat → Nat) fun m => (Exx (Nat × Nat) fun t => 
 let q9 : Prop := (List.take t.1 x.1).flatten.length = 0; I t ∧ (q8 ∧ Tr 1 (x.2 = x.2) ∧ Tr 3 ((q9 ∧ t.2 = 0) ∧ Tr 1 ((0 : Int) = (↑t.1 : Int)) ∧ Tr 100 True)) ∧ true = true ∧ (t.2 = 0 ∧ q9) ∧ True) ∧ ∀ (t : Nat × Nat), 
 let q10 : Prop := (↑t.1 : Int) < (↑x.1.length : Int); 
 let q11 : Prop := (0 : Int) ≤ (↑t.1 : Int) ∧ q10; 
 let q12 : List Nat := x.1.getD (↑t.1 : Int).toNat []; 
 let q13 : Nat := q12.length; 
 let q14 : Int := (↑q13 : Int); 
 let q15 : Nat := (List.take t.1 x.1).flatten.length; 
 let q16 : Nat := q15 + q13; 
 let q17 : Int := (↑t.1 : Int) + 1; 
 let q18 : Prop := 0 + q15 ≤ q15; I t → BC (decide q10) (q11 ∧ BC (!decide (q14 = (64 : Int))) q1 (q11 ∧ true = true ∧ (q15 ≤ q15 ∧ t.2 = t.2) ∧ (q16 ≤ 9223372036854775807 ∧ q16 * 1 ≤ 140737488355328) ∧ ∀ (cap : Nat), q16 ≤ cap ∧ cap ≤ 9223372036854775807 → I64 q17 ∧ Exx (Nat × Nat) fun t' => 
 let q19 : Nat := (List.take t'.fst x.1).flatten.length; (I t' ∧ m t' < m t) ∧ (q8 ∧ Tr 1 (x.2 = x.2) ∧ Tr 3 ((true = true ∧ NilNil ∧ (0 : Nat) = 0 ∧ (1 : Nat) = 1 ∧ (0 : Nat) = 0 ∧ q16 = q19 ∧ cap = t'.snd) ∧ Tr 1 (q17 = (↑t'.fst : Int)) ∧ Tr 100 True)) ∧ true = true ∧ ((5 : TypeId) = 5 ∧ (1 : Nat) = 1 ∧ cap = t'.snd ∧ q19 ≤ q16 ∧ ∀ (i : Nat), i < q19 → (if i < q15 then [AV.int .u8 (↑((List.take t.1 x.1).flatten.getD i 0) : Int)] else [AV.int .u8 (↑(q12.getD (i - q15) 0) : Int)]) = [AV.int .u8 (↑((List.take t'.fst x.1).flatten.getD i 0) : Int)]) ∧ True)) (Exx (List Nat) fun x_2 => (((q18 ∧ q15 = x_2.length ∧ ∀ (i : Nat), i < x_2.length → [AV.int .u8 (↑((List.take t.1 x.1).flatten.getD (0 + i) 0) : Int)] = [AV.int .u8 (↑(x_2.getD i 0) : Int)]) ∧ True) ∧ true = true ∧ True) ∧ Oct x_2 ∧ ∀ (y : Unit), True → Exx (Int × List Int) fun x_3 => ((Tr 1 ((0 : Int) = x_3.1) ∧ (0 = x_3.2.length ∧ ∀ (i : Nat), i < x_3.2.length → [] = [AV.int .i64 (x_3.2.getD i 0)]) ∧ True) ∧ true = true ∧ True) ∧ (I64 x_3.1 ∧ Ints x_3.2) ∧ ∀ (y : Unit), True → Exx (Int × List Int) fun x_4 => ((Tr 1 ((0 : Int) = x_4.1) ∧ (0 = x_4.2.length ∧ ∀ (i : Nat), i < x_4.2.length → [] = [AV.int .i64 (x_4.2.getD i 0)]) ∧ True) ∧ true = true ∧ True) ∧ (I64 x_4.1 ∧ Ints x_4.2) ∧ ∀ (y : Unit), True → Exx ((Nat × Nat) × (Nat × Nat) × Int) fun x_5 => ((q3 ∧ q3 ∧ Tr 1 ((0 : Int) = x_5.2.2) ∧ True) ∧ true = true ∧ setB (clampN x_3.1, addL (clampN x_3.1) 0 x_3.2) = setB x_5.1 ∧ setB (clampN x_4.1, addL (clampN x_4.1) 0 x_4.2) = setB x_5.2.1 ∧ True) ∧ (SetW x_5.1 ∧ SetW x_5.2.1 ∧ I64 x_5.2.2) ∧ (x_5.1.1 = x_5.2.1.1 ∧ (0 : Int) ≤ x_5.2.2 → ∀ (y : Unit), True → Exx StoreT fun x_6 => (q4 ∧ true = true ∧ devB (fromL x_2) = devB x_6.ws ∧ allocB (newAlloc x_5) = allocB x_6.a ∧ True) ∧ (DevW x_6.ws ∧ AllocW x_6.a) ∧ (x_6.a.n.le (linesN x_6.ws) → ∀ (y : Unit), True → Exx (StoreT × Int) fun x_7 => ((q3 ∧ Tr 1 (x.2 = x_7.2) ∧ True) ∧ true = true ∧ q5 ∧ devB x_6.ws = devB x_7.1.ws ∧ allocB x_6.a = allocB x_7.1.a ∧ True) ∧ (StoreW x_7.1 ∧ I64 x_7.2) ∧ ∀ (y : Nat), (readT x_7.1.ws x_7.2).kids.length ≤ y ∧ y ≤ 9223372036854775807 → q18 ∧ Exx (List Nat) fun m => (q15 = m.length ∧ ∀ (i : Nat), i < m.length → [AV.int .u8 (↑((List.take t.1 x.1).flatten.getD (0 + i) 0) : Int)] = [AV.int .u8 (↑(m.getD i 0) : Int)]) ∧ (∀ (c : Nat), c ∈ m → c < 256) ∧ Exx (List Nat × Int) fun x_8 => ((cstr m = cstr x_8.1 ∧ Tr 1 (x.2 = x_8.2) ∧ True) ∧ true = true ∧ True) ∧ (Oct x_8.1 ∧ I64 x_8.2) ∧ ∀ (y : Nat), (getNodeT (imgL x_8.1 x_8.2)).kids.length ≤ y ∧ y ≤ 9223372036854775807 → BC (!decide (readE x_7.1.ws x_7.2 = (0 : Int)) == decide (isNode (imgL x_8.1 x_8.2))) q6 (Exx (NodeT × NodeT) fun x_9 => (((Tr 1 ((readT x_7.1.ws x_7.2).e.slot = x_9.1.e.slot) ∧ Tr 1 ((readT x_7.1.ws x_7.2).e.gen = x_9.1.e.gen) ∧ Tr 1 ((readT x_7.1.ws x_7.2).e.key = x_9.1.e.key) ∧ Tr 1 ((readT x_7.1.ws x_7.2).e.value = x_9.1.e.value) ∧ (0 + (readT x_7.1.ws x_7.2).kids.length ≤ (readT x_7.1.ws x_7.2).kids.length ∧ (readT x_7.1.ws x_7.2).kids.length = x_9.1.kids.length ∧ ∀ (i : Nat), i < x_9.1.kids.length → [AV.int .i64 ((readT x_7.1.ws x_7.2).kids.getD (0 + i) 0)] = [AV.int .i64 (x_9.1.kids.getD i 0)]) ∧ True) ∧ (Tr 1 ((getNodeT (imgL x_8.1 x_8.2)).e.slot = x_9.2.e.slot) ∧ Tr 1 ((getNodeT (imgL x_8.1 x_8.2)).e.gen = x_9.2.e.gen) ∧ Tr 1 ((getNodeT (imgL x_8.1 x_8.2)).e.key = x_9.2.e.key) ∧ Tr 1 ((getNodeT (imgL x_8.1 x_8.2)).e.value = x_9.2.e.value) ∧ (0 + (getNodeT (imgL x_8.1 x_8.2)).kids.length ≤ (getNodeT (imgL x_8.1 x_8.2)).kids.length ∧ (getNodeT (imgL x_8.1 x_8.2)).kids.length = x_9.2.kids.length ∧ ∀ (i : Nat), i < x_9.2.kids.length → [AV.int .i64 ((getNodeT (imgL x_8.1 x_8.2)).kids.getD (0 + i) 0)] = [AV.int .i64 (x_9.2.kids.getD i 0)]) ∧ True) ∧ True) ∧ true = true ∧ True) ∧ (NodeI x_9.1 ∧ NodeI x_9.2) ∧ ∀ (y : Unit), True → BC (!decide (x_9.1.e = x_9.2.e ∧ x_9.1.kids = x_9.2.kids)) q6 (Exx (StoreT × Int) fun x_10 => ((q3 ∧ Tr 1 (x.2 = x_10.2) ∧ True) ∧ true = true ∧ q5 ∧ devB x_7.1.ws = devB x_10.1.ws ∧ allocB x_7.1.a = allocB x_10.1.a ∧ True) ∧ (StoreW x_10.1 ∧ I64 x_10.2) ∧ ∀ (y : Nat), (listE x_10.1.ws x_10.2).1.length ≤ y ∧ y ≤ 9223372036854775807 → q18 ∧ Exx (List Nat) fun m => (q15 = m.length ∧ ∀ (i : Nat), i < m.length → [AV.int .u8 (↑((List.take t.1 x.1).flatten.getD (0 + i) 0) : Int)] = [AV.int .u8 (↑(m.getD i 0) : Int)]) ∧ (∀ (c : Nat), c ∈ m → c < 256) ∧ Exx (List Nat × Int) fun x_11 => 
 let q20 : Nat := (imgList x_11.1 x_11.2).1.length; ((cstr m = cstr x_11.1 ∧ Tr 1 (x.2 = x_11.2) ∧ True) ∧ true = true ∧ True) ∧ (Oct x_11.1 ∧ I64 x_11.2) ∧ ∀ (y : Nat), q20 ≤ y ∧ y ≤ 9223372036854775807 → BC (decide ((listE x_10.1.ws x_10.2).2 = (0 : Int)) == (imgList x_11.1 x_11.2).2) (Exx (List EntT × List EntT) fun x => (((0 + (listE x_10.1.ws x_10.2).1.length ≤ (listE x_10.1.ws x_10.2).1.length ∧ (listE x_10.1.ws x_10.2).1.length = x.1.length ∧ ∀ (i : Nat), 
 let q21 : EntT := (listE x_10.1.ws x_10.2).1.getD (0 + i) entZ; i < x.1.length → [AV.int .i64 q21.slot, AV.int .i64 q21.gen, AV.int .i64 q21.key, AV.int .i64 q21.value] = [AV.int .i64 (x.1.getD i entZ).slot, AV.int .i64 (x.1.getD i entZ).gen, AV.int .i64 (x.1.getD i entZ).key, AV.int .i64 (x.1.getD i entZ).value]) ∧ (0 + q20 ≤ q20 ∧ q20 = x.2.length ∧ ∀ (i : Nat), 
 let q22 : EntT := (imgList x_11.1 x_11.2).1.getD (0 + i) entZ; i < x.2.length → [AV.int .i64 q22.slot, AV.int .i64 q22.gen, AV.int .i64 q22.key, AV.int .i64 q22.value] = [AV.int .i64 (x.2.getD i entZ).slot, AV.int .i64 (x.2.getD i entZ).gen, AV.int .i64 (x.2.getD i entZ).key, AV.int .i64 (x.2.getD i entZ).value]) ∧ True) ∧ true = true ∧ True) ∧ (EntsI x.1 ∧ EntsI x.2) ∧ ∀ (y : Unit), True → Exx Unit fun y => ((decide (x.1 = x.2) = true ∧ True) ∧ true = true ∧ True) ∧ True) q6))) ∧ (¬storeNewI.p x_6 → ∀ (y : Unit), True → q6)) ∧ (¬allocNewI.p x_5 → ∀ (y : Unit), True → Exx StoreT fun x => (((False ∧ q2) ∧ False ∧ True) ∧ false = true ∧ False ∧ False ∧ True) ∧ (DevW x.ws ∧ AllocW x.a) ∧ (x.a.n.le (linesN x.ws) → ∀ (y : Unit), True → False) ∧ (¬storeNewI.p x → ∀ (y : Unit), True → q6)))))) = (fnVC tb [(13, specOf devFromC), (14, allocNewAllP), (15, specOf setOfC), (16, specIf storeNewI), (23, specOf awake22C), (30, specOf treadC), (32, specOf refSameC), (33, specOf imgNodeC), (34, specOf treeListC), (35, specOf refListC), (36, specOf refEntriesC)] Tryz.f6 treeListsC (fun x => { loops := [(5, treeListsLA x)] }) (fun _ => none)) := by kernel_rfl 

theorem treeLists_ok : SpecOk Tryz.prog 6 (specOf treeListsC) := by
  refine specOk mixed tb_ok (SPok.cons devFrom_ok (SPok.cons allocNewAll_ok (SPok.cons setOf_ok (SPok.cons storeNew_ok (SPok.cons awake22_ok (SPok.cons tread_ok (SPok.cons refSame_ok (SPok.cons imgNode_ok (SPok.cons treeList_ok (SPok.cons refList_ok (SPok.cons refEntries_ok SPok.nil))))))))))) Tryz.func6 (by decide) (pureC_ok fun _ => rfl) (an := (fun x => { loops := [(5, treeListsLA x)] })) (σ := (fun _ => none)) ?_
  rw [← treeListsV]
  simp (maxSteps := 10000000) only [std, stdU, stdV, Exx, I64, Nat.reduceMul, Nat.reduceDiv, Nat.reduceAdd, Int.reduceToNat, devB_inj, allocB_inj, setB_inj, store_ex, store_eta, node_ex, node_eta]
  rintro lines a ⟨h1, h2, h3, h4⟩ hlen
  refine ⟨fun t => t.1 ≤ lines.length ∧ (lines.take t.1).flatten.length = 64 * t.1 ∧ (lines.take t.1).flatten.length ≤ t.2 ∧ ∀ c ∈ (lines.take t.1).flatten, c < 256, ⟨0, 0, ⟨Nat.zero_le _, rfl, Nat.le_refl _, fun c hc => (by cases hc)⟩, rfl, rfl, rfl, rfl, rfl⟩, fun t => lines.length - t.1, fun i cap hJ => ⟨fun hlt => ?_, fun hge => ?_⟩⟩
  · obtain ⟨q1, q2, q3, q4⟩ := hJ
    simp only at q1 q2 q3 q4
    have hi : i < lines.length := by omega
    have eS := flat_succ hi
    have hO : ∀ c ∈ lines.getD i [], c < 256 := getD_mem (p := fun l : List Nat => ∀ c ∈ l, c < 256) h1 (fun x hx => (by cases hx)) i
    refine ⟨by omega, by omega, fun h64 => ⟨by omega, by omega, by omega, by omega, fun cap2 hc2 => ⟨by omega, by omega, i + 1, cap2, ⟨by simp only; omega, ?_, ?_, ?_⟩, by simp only; omega, ?_, rfl, by omega, rfl, ?_, fun j hj => ?_⟩⟩⟩
    · simp only; rw [eS, List.length_append]; omega
    · simp only; rw [eS, List.length_append]; omega
    · simp only; rw [eS]; intro c hc; rcases List.mem_append.1 hc with k | k
      · exact q4 c k
      · exact hO c k
    · rw [eS, List.length_append]
    · rw [eS, List.length_append]; exact Nat.le_refl _
    · rw [eS, getD_append]
      by_cases e : j < (lines.take i).flatten.length
      · rw [if_pos e, if_pos e]
      · rw [if_neg e, if_neg e]
  · obtain ⟨q1, q2, q3, q4⟩ := hJ
    simp only at q1 q2 q3 q4
    have hi : i = lines.length := by omega
    generalize hg : (lines.take i).flatten = img at *
    have hO : Oct img := ⟨q4, by omega⟩
    have eI := from_img q4 (by omega) (by omega)
    obtain ⟨r1, r2⟩ := read_img (fromL img) a
    obtain ⟨l1, l2⟩ := listG_img (fromL img) 1792 [] [a]
    rw [eI] at r1 r2 l1 l2
    have hw : SetW (clampN 0, addL (clampN 0) 0 []) := ⟨by decide, by decide⟩
    have hD : DevW (fromL img) := ⟨by rw [fromL, wordsN_length, List.length_take]; omega, wordsN_u64 fun x hx => q4 x (List.mem_of_mem_take hx)⟩
    have hA : AllocW (newAlloc ((clampN 0, addL (clampN 0) 0 []), (clampN 0, addL (clampN 0) 0 []), 0)) := ⟨by decide, I64_0, by decide, by decide, by decide, by decide⟩
    refine ⟨hO, [], rfl, fun i hi => absurd hi (Nat.not_lt_zero _), by omega, by omega, ?_, [], rfl, fun i hi => absurd hi (Nat.not_lt_zero _), by omega, by omega, ?_, hw, hw, by omega, by omega, fun _ => ⟨hD, hA, fun _ => ⟨⟨hD, hA⟩, h3, h4, fun y hy => ⟨q4, hO, h3, h4, fun y2 hy2 => ⟨fun hb => ?_, fun hb => ⟨readT_I _ _, ?_, fun hn => hn ⟨?_, ?_⟩, fun _ => ⟨⟨hD, hA⟩, h3, h4, fun y3 hy3 => ⟨q4, hO, h3, h4, fun y4 hy4 => ⟨fun hb2 => ⟨_, rfl, fun _ _ => rfl, _, rfl, fun _ _ => rfl, listE_I _ _, ?_, ?_⟩, fun hb2 => ?_⟩⟩⟩⟩⟩⟩⟩, fun hn => hn (Nat.zero_le _)⟩, fun hn => absurd ⟨rfl, by decide⟩ hn⟩
    · exact ⟨fun x hx => (by cases hx), by decide⟩
    · exact ⟨fun x hx => (by cases hx), by decide⟩
    · by_cases e : isNode (imgL img a)
      · simp [e, r1.2 e] at hb
      · have : ¬ readE (fromL img) a = 0 := fun k => e (r1.1 k)
        simp [e, this] at hb
    · rw [← r2]; exact readT_I _ _
    · rw [r2]
    · rw [r2]
    · rw [show (imgList img a).1 = (listE (fromL img) a).1 from l1.symm]; exact listE_I _ _
    · exact l1
    · change (listE (fromL img) a).2 = 0 ↔ (imgList img a).2 = true at l2
      by_cases e : (imgList img a).2 = true
      · simp [e, l2.2 e] at hb2
      · have : ¬ (listE (fromL img) a).2 = 0 := fun k => e (l2.1 k)
        simp only [Bool.not_eq_true] at e
        simp [e, this] at hb2

end Yard
