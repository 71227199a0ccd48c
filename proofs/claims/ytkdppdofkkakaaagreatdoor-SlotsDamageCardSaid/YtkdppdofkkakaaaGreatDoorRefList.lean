import Derived.Test.YtkdppdofkkakaaaGreatDoorRefPage
import Derived.Test.YtkdppdofkkakaaaGreatDoorTreeList

namespace Yard
open Go Go.Sx Go.Proofs
set_option linter.unusedVariables false
set_option linter.unusedSimpArgs false
set_option maxRecDepth 4000
set_option maxHeartbeats 4000000

def imgOk (img : List Nat) (a : Int) : Prop := 0 <= a/\a < ((img.length / 64 : Nat) : Int)
instance (img : List Nat) (a : Int) : Decidable (imgOk img a) := by unfold imgOk; infer_instance
def imgL (img : List Nat) (a : Int) : List Nat := if imgOk img a then (img.drop (64 * a.toNat)).take 64 else []
theorem zu8 {img : List Nat} (h : Oct img) (a : Int) : Oct (imgL img a) := by
 unfold imgL
 split
 ·exact ⟨fun c hc => h.1 c (List.mem_of_mem_drop (List.mem_of_mem_take hc)), by rw [List.length_take]; omega⟩
 ·exact ⟨by simp, by simp⟩
theorem zpJ {img : List Nat} {a : Int} (h : imgOk img a) : (imgL img a).length = 64 := by
 rw [imgL, if_pos h, List.length_take, List.length_drop]
 unfold imgOk at h; omega
def refLineI : Ctr2 where
 X := List Nat × Int
 conv := true
 tau := fun _ _ => []
 pre := fun x => Oct x.1/\I64 x.2
 args := fun x => [strN x.1, i64 x.2]
 heap := fun _ => []
 p := fun x => imgOk x.1 x.2
 a := { Y := Nat, Q := fun _ cap => 64 <= cap, res := fun _ cap => .tup [.sl 1 [] 0 1 0 64 cap, .bool true], its := fun _ _ => [], new := fun x _ => [.view 1 64 (fun i => [.int .u8 (((imgL x.1 x.2).getD i 0 : Nat) : Int)])] }
 b := { Y := Unit, Q := fun _ _ => True, res := fun _ _ => .tup [.nils, .bool false], its := fun _ _ => [], new := fun _ _ => [] }

def lineSg (av : AV) : Option Ren := match av with
 | .tup (.sl q _ _ _ _ _ _ :: _) => some [some 0, some q]
 | _ => some [some 0]
theorem qdB : (∀ (x : List Nat × Int),
 let q1 : Prop := (0 : Int) <= x.2/\x.2 < (↑(x.1.length / 64) : Int);
 let q2 : Prop := (q1/\Exx Nat fun y => False/\Nat.le 64 y)\/¬refLineI.p x/\Exx Unit fun y => ((Tr 1 (false = false/\True)/\True)/\true = true/\True)/\True;
 let q3 : Int := (↑(cstr x.1).length : Int).tdiv 64;
 let q4 : Int := 64 * x.2;
 let q5 : Prop := I64 q4;
 let q6 : Int := q4 + 64;
 let q7 : Nat := q4.toNat;
 let q8 : Nat := q6.toNat;
 let q9 : List Int := List.drop q7 (List.take q8 (cstr x.1));
 let q10 : Nat := q9.length; Oct x.1/\I64 x.2->BC (decide (x.2 < (0 : Int))) q2 ((64 : Int) ≠ (0 : Int)/\I64 q3/\BC (decide (q3 <= x.2)) q2 (q5/\q5/\I64 q6/\(0 : Int) <= q6/\(0 : Int) <= q4/\(q7 <= q8/\q8 <= (cstr x.1).length)/\q10 <= 9223372036854775807/\∀ (cap : Nat), q10 <= cap/\cap <= 9223372036854775807->(q1/\Exx Nat fun y => ((((true = true/\zaB/\(0 : Nat) = 0/\(1 : Nat) = 1/\(0 : Nat) = 0/\q10 = 64/\cap = y)/\true = true/\True)/\True)/\true = true/\((1 : Nat) = 1/\64 <= q10/\∀ (i : Nat), i < 64->[AV.int .u8 (q9.getD i 0)] = [AV.int .u8 (↑((imgL x.1 x.2).getD i 0) : Int)])/\True)/\Nat.le 64 y)\/¬refLineI.p x/\Exx Unit fun y => False/\True))) = (zwZ tb [] Tryz.f74 refLineI (fun _ => {}) (fun _ av _ => lineSg av) (fun _ => []) (fun _ _ _ _ => []) (fun _ _ _ _ => [])) := by kernel_rfl

theorem znK : SpecOk Tryz.prog 74 (zfI refLineI) := by
 refine zoK zaH zaG SPok.nil Tryz.func74 (by decide) ⟨fun _ _ _ _ => rfl, fun _ _ _ _ => ⟨rfl, rfl⟩, fun x _ _ _ _ => ⟨⟨trivial, ⟨⟨fun _ _ => ⟨rfl, trivial⟩, trivial⟩, trivial⟩⟩, rfl, rfl, trivial⟩⟩ ⟨fun _ _ _ _ => rfl, fun _ _ _ _ => ⟨rfl, rfl⟩, fun x _ _ _ _ => ⟨⟨trivial, trivial⟩, rfl, rfl, trivial⟩⟩ (Eq.mp qdB ?_)
 simp (maxSteps := 10000000) only [std, stdU, stdV, Exx, I64, Nat.reduceMul, Nat.reduceDiv, Nat.reduceAdd, Int.reduceToNat]
 rintro img a ⟨⟨hi, hl⟩, h1, h2⟩
 have e1 : ((img.length : Int)).tdiv 64 = ((img.length / 64 : Nat) : Int) := rfl
 rw [e1]
 refine ⟨fun h k => ?_, fun h0 => ⟨by omega, by omega, by omega, fun h k => ?_, fun h => ?_⟩⟩
 ·have : imgOk img a := k
  unfold imgOk at this; omega
 ·have : imgOk img a := k
  unfold imgOk at this; omega
 ·have hk : imgOk img a := ⟨by omega, by omega⟩
  have e2 : (64 * a).toNat = 64 * a.toNat := by omega
  have e3 : (64 * a + 64).toNat = 64 * a.toNat + 64 := by omega
  have e4 : (img.take (64 * a.toNat + 64)).drop (64 * a.toNat) = imgL img a := by
   rw [imgL, if_pos hk, List.drop_take]; congr 1; omega
  have h64 := zpJ hk
  rw [e2, e3, e4, h64]
  exact ⟨by omega, by omega, by omega, by omega, by omega, by omega, by omega, by omega, by omega, by omega, by omega, fun cap hc => ⟨by omega, by omega, rfl, by omega, fun _ _ => rfl, hc.1⟩⟩
theorem qaC {img : List Nat} {a : Int} (h : ¬ imgOk img a) : imgL img a = [] := by rw [imgL, if_neg h]
theorem ztD : ¬ zd0 [] := fun k => by have := k.1.1; simp at this
theorem zpB : ¬ zb6 [] := fun k => by have := k.1.1; simp at this
def imgFanF (img : List Nat) (a : Int) (i : Nat) : Int := if a = 0 then 0 else zbZ (imgL img a) i
def zb2 (img : List Nat) (a : Int) : Prop := a = 0\/zd0 (imgL img a)
instance (img : List Nat) (a : Int) : Decidable (zb2 img a) := by unfold zb2; infer_instance
def zbU (img : List Nat) (a : Int) (i : Nat) : SeatT := if a = 0 then seatZ else zaK (imgL img a) i
def zcJ (img : List Nat) (a : Int) : Prop := a = 0\/zb6 (imgL img a)
instance (img : List Nat) (a : Int) : Decidable (zcJ img a) := by unfold zcJ; infer_instance
def zh8 : Ctr := zbT (List Nat × Int) (fun x => Oct x.1/\I64 x.2) (fun x => [strN x.1, i64 x.2]) (fun x => .tup [fanA (imgFanF x.1 x.2), .bool (decide (zb2 x.1 x.2))])
def zgQ : Ctr := zbT (List Nat × Int) (fun x => Oct x.1/\I64 x.2) (fun x => [strN x.1, i64 x.2]) (fun x => .tup [ztH (zbU x.1 x.2), .bool (decide (zcJ x.1 x.2))])
theorem zyV : (∀ (x : List Nat × Int),
 let q1 : Prop := (1 : Nat) = 1/\(16 : Nat) = 16/\(∀ (i : Nat), i < 16->[AV.int .i64 0] = [AV.int .i64 (imgFanF x.1 x.2 i)])/\True;
 let q2 : Bool := decide (zb2 x.1 x.2); Oct x.1/\I64 x.2->BC (decide (x.2 = (0 : Int))) (Exx Unit fun y => (((q1/\true = q2/\True)/\True)/\true = true/\True)/\True) (Exx (List Nat × Int) fun x_1 => ((cstr x.1 = cstr x_1.1/\Tr 1 (x.2 = x_1.2)/\True)/\true = true/\True)/\(Oct x_1.1/\I64 x_1.2)/\((0 : Int) <= x_1.2/\x_1.2 < (↑(x_1.1.length / 64) : Int)->∀ (y : Nat), Nat.le 64 y->Exx (List Nat) fun x_2 => ((((0 : Nat) + (64 : Nat) <= (64 : Nat)/\64 = x_2.length/\∀ (i : Nat), i < x_2.length->[AV.int .u8 (↑((imgL x_1.1 x_1.2).getD (0 + i) 0) : Int)] = [AV.int .u8 (↑(x_2.getD i 0) : Int)])/\True)/\true = true/\True)/\Oct x_2/\∀ (y : Unit), True->Exx Unit fun y => (((((1 : Nat) = 1/\(16 : Nat) = 16/\(∀ (i : Nat), i < 16->[AV.int .i64 (zbZ x_2 i)] = [AV.int .i64 (imgFanF x.1 x.2 i)])/\True)/\decide (zd0 x_2) = q2/\True)/\True)/\true = true/\True)/\True)/\(¬refLineI.p x_1->∀ (y : Unit), True->Exx Unit fun y => (((q1/\false = q2/\True)/\True)/\true = true/\True)/\True))) = (fnVC tb [(74, zfI refLineI), (90, zaA zi8)] Tryz.f60 zh8 (fun _ => {}) (fun _ => none)) := by kernel_rfl

theorem zlQ : SpecOk Tryz.prog 60 (zaA zh8) := by
 refine zaF zaH zaG (SPok.cons znK (SPok.cons zqP SPok.nil)) Tryz.func60 (by decide) (zaI fun _ => ⟨⟨fun _ _ => ⟨rfl, trivial⟩, trivial⟩, rfl, trivial⟩) (Eq.mp zyV ?_)
 simp (maxSteps := 10000000) only [std, stdU, stdV, Exx, I64, Nat.reduceMul, Nat.reduceDiv, Nat.reduceAdd, Int.reduceToNat]
 rintro img a ⟨h, h1, h2⟩
 refine ⟨fun hz => ⟨fun i _ => by rw [imgFanF, if_pos hz], (decide_eq_true (.inl hz)).symm⟩, fun hz => ⟨h, h1, h2, fun hk y hy => ⟨imgL img a, (zpJ hk).symm, fun _ _ => rfl, zu8 h a, fun i _ => by rw [imgFanF, if_neg hz], decide_eq_decide.2 ⟨fun k => .inr k, fun k => k.resolve_left hz⟩⟩, fun hk => ?_⟩⟩
 have e := qaC (show ¬ imgOk img a from hk)
 refine ⟨fun i _ => by rw [imgFanF, if_neg hz, e, zbZ, if_neg ztD], (decide_eq_false fun k => ?_).symm⟩
 rcases k with k | k
 ·exact hz k
 ·rw [e] at k; exact ztD k

theorem zwG : (
 let q1 : List AV := [AV.bool false, AV.int .i64 0, AV.int .i64 0]; ∀ (x : List Nat × Int),
 let q2 : Prop := (3 : Nat) = 3/\(7 : Nat) = 7/\(∀ (i : Nat), i < 7->q1 = [AV.bool (zbU x.1 x.2 i).live, AV.int .i64 (zbU x.1 x.2 i).gen, AV.int .i64 (zbU x.1 x.2 i).next])/\True;
 let q3 : Bool := decide (zcJ x.1 x.2); Oct x.1/\I64 x.2->BC (decide (x.2 = (0 : Int))) (Exx Unit fun y => (((q2/\true = q3/\True)/\True)/\true = true/\True)/\True) (Exx (List Nat × Int) fun x_1 => ((cstr x.1 = cstr x_1.1/\Tr 1 (x.2 = x_1.2)/\True)/\true = true/\True)/\(Oct x_1.1/\I64 x_1.2)/\((0 : Int) <= x_1.2/\x_1.2 < (↑(x_1.1.length / 64) : Int)->∀ (y : Nat), Nat.le 64 y->Exx (List Nat) fun x_2 => ((((0 : Nat) + (64 : Nat) <= (64 : Nat)/\64 = x_2.length/\∀ (i : Nat), i < x_2.length->[AV.int .u8 (↑((imgL x_1.1 x_1.2).getD (0 + i) 0) : Int)] = [AV.int .u8 (↑(x_2.getD i 0) : Int)])/\True)/\true = true/\True)/\Oct x_2/\∀ (y : Unit), True->Exx Unit fun y => (((((3 : Nat) = 3/\(7 : Nat) = 7/\(∀ (i : Nat), i < 7->[AV.bool (zaK x_2 i).live, AV.int .i64 (zaK x_2 i).gen, AV.int .i64 (zaK x_2 i).next] = [AV.bool (zbU x.1 x.2 i).live, AV.int .i64 (zbU x.1 x.2 i).gen, AV.int .i64 (zbU x.1 x.2 i).next])/\True)/\decide (zb6 x_2) = q3/\True)/\True)/\true = true/\True)/\True)/\(¬refLineI.p x_1->∀ (y : Unit), True->Exx Unit fun y => (((q2/\false = q3/\True)/\True)/\true = true/\True)/\True))) = (fnVC tb [(74, zfI refLineI), (91, zaA zhG)] Tryz.f61 zgQ (fun _ => {}) (fun _ => none)) := by kernel_rfl

theorem zjZ : SpecOk Tryz.prog 61 (zaA zgQ) := by
 refine zaF zaH zaG (SPok.cons znK (SPok.cons zoW SPok.nil)) Tryz.func61 (by decide) (zaI fun _ => ⟨⟨fun _ _ => ⟨rfl, rfl, rfl, trivial⟩, trivial⟩, rfl, trivial⟩) (Eq.mp zwG ?_)
 simp (maxSteps := 10000000) only [std, stdU, stdV, Exx, I64, Nat.reduceMul, Nat.reduceDiv, Nat.reduceAdd, Int.reduceToNat]
 rintro img a ⟨h, h1, h2⟩
 refine ⟨fun hz => ⟨fun i _ => by rw [zbU, if_pos hz]; rfl, (decide_eq_true (.inl hz)).symm⟩, fun hz => ⟨h, h1, h2, fun hk y hy => ⟨imgL img a, (zpJ hk).symm, fun _ _ => rfl, zu8 h a, fun i _ => by rw [zbU, if_neg hz], decide_eq_decide.2 ⟨fun k => .inr k, fun k => k.resolve_left hz⟩⟩, fun hk => ?_⟩⟩
 have e := qaC (show ¬ imgOk img a from hk)
 refine ⟨fun i _ => by rw [zbU, if_neg hz, e, zaK, if_neg zpB]; rfl, (decide_eq_false fun k => ?_).symm⟩
 rcases k with k | k
 ·exact hz k
 ·rw [e] at k; exact zpB k

def imgF (img : List Nat) (top : Int) (i j : Nat) : Int := imgFanF img (imgFanF img top i) j
theorem zeV (img : List Nat) (a : Int) {i : Nat} (hi : i < 16) : I64 (imgFanF img a i) := by
 unfold imgFanF zbZ
 split
 ·exact ziU
 ·split
  ·rename_i hf
   exact kidOk_I (hf.2.2.2.2 i hi)
  ·exact ziU
def zcK (img : List Nat) (top : Int) (s : Nat) : Prop := zb2 img top/\zb2 img (imgFanF img top (s / 112))/\zcJ img (imgF img top (s / 112) (s / 7 % 16))
instance (img : List Nat) (top : Int) (s : Nat) : Decidable (zcK img top s) := by unfold zcK; infer_instance
def zeH (img : List Nat) (top : Int) (s : Nat) : SeatT := if zb2 img top/\zb2 img (imgFanF img top (s / 112)) then zbU img (imgF img top (s / 112) (s / 7 % 16)) (s % 7) else seatZ
def zi9 : Ctr := zbT (List Nat × Int × Nat) (fun x => Oct x.1/\I64 x.2.1/\x.2.2 < 1792) (fun x => [strN x.1, i64 x.2.1, i64 (x.2.2 : Nat)]) (fun x => .tup [zyF (zeH x.1 x.2.1 x.2.2), .bool (decide (zcK x.1 x.2.1 x.2.2))])
theorem zwH : (∀ (x : List Nat × Int × Nat),
 let q1 : Int := (x.2.2 : Int).tdiv 112;
 let q2 : Nat := q1.toNat;
 let q3 : SeatT := zeH x.1 x.2.1 x.2.2;
 let q4 : Bool := q3.live;
 let q5 : Int := q3.gen;
 let q6 : Int := q3.next;
 let q7 : Bool := decide (zcK x.1 x.2.1 x.2.2);
 let q8 : Prop := Exx Unit fun y => ((((false = q4/\Tr 1 ((0 : Int) = q5)/\Tr 1 ((0 : Int) = q6)/\True)/\false = q7/\True)/\True)/\true = true/\True)/\True;
 let q9 : Int := (x.2.2 : Int).tdiv 7; Oct x.1/\I64 x.2.1/\x.2.2 < 1792->Exx (List Nat × Int) fun x_1 => ((cstr x.1 = cstr x_1.1/\Tr 1 (x.2.1 = x_1.2)/\True)/\true = true/\True)/\(Oct x_1.1/\I64 x_1.2)/\∀ (y : Unit), True->(112 : Int) ≠ (0 : Int)/\I64 q1/\((0 : Int) <= q1/\q1 < (↑(16 : Nat) : Int))/\q2 < 16/\Exx (List Nat × Int) fun x_2 => ((cstr x.1 = cstr x_2.1/\Tr 1 (imgFanF x_1.1 x_1.2 q2 = x_2.2)/\True)/\true = true/\True)/\(Oct x_2.1/\I64 x_2.2)/\∀ (y : Unit), True->BC (!decide (zb2 x_1.1 x_1.2)) q8 (BC (!decide (zb2 x_2.1 x_2.2)) q8 ((7 : Int) ≠ (0 : Int)/\I64 q9/\(16 : Int) ≠ (0 : Int)/\∀ (n : Int), n = q9.tmod 16->((0 : Int) <= n/\n < (↑(16 : Nat) : Int))/\n.toNat < 16/\Exx (List Nat × Int) fun x_3 => ((cstr x.1 = cstr x_3.1/\Tr 1 (imgFanF x_2.1 x_2.2 n.toNat = x_3.2)/\True)/\true = true/\True)/\(Oct x_3.1/\I64 x_3.2)/\∀ (y : Unit), True->(7 : Int) ≠ (0 : Int)/\∀ (n : Int), n = (x.2.2 : Int).tmod 7->((0 : Int) <= n/\n < (↑(7 : Nat) : Int))/\n.toNat < 7/\Exx Unit fun y => (((((zbU x_3.1 x_3.2 n.toNat).live = q4/\Tr 1 ((zbU x_3.1 x_3.2 n.toNat).gen = q5)/\Tr 1 ((zbU x_3.1 x_3.2 n.toNat).next = q6)/\True)/\decide (zcJ x_3.1 x_3.2) = q7/\True)/\True)/\true = true/\True)/\True))) = (fnVC tb [(60, zaA zh8), (61, zaA zgQ)] Tryz.f22 zi9 (fun _ => {}) (fun _ => none)) := by kernel_rfl

theorem zqU : SpecOk Tryz.prog 22 (zaA zi9) := by
 refine zaF zaH zaG (SPok.cons zlQ (SPok.cons zjZ SPok.nil)) Tryz.func22 (by decide) (zaI fun _ => ⟨⟨rfl, rfl, rfl, trivial⟩, rfl, trivial⟩) (Eq.mp zwH ?_)
 simp (maxSteps := 10000000) only [std, stdU, stdV, Exx, I64, Nat.reduceMul, Nat.reduceDiv, Nat.reduceAdd, Int.reduceToNat]
 rintro img top sl ⟨h, h1, h2, h3⟩
 have e1 : ((sl : Nat) : Int).tdiv 112 = ((sl / 112 : Nat) : Int) := rfl
 have e2 : ((sl : Nat) : Int).tdiv 7 = ((sl / 7 : Nat) : Int) := rfl
 have e3 : ((sl / 7 : Nat) : Int).tmod 16 = ((sl / 7 % 16 : Nat) : Int) := rfl
 have e4 : ((sl : Nat) : Int).tmod 7 = ((sl % 7 : Nat) : Int) := rfl
 rw [e1, e2, e3, e4]
 simp only [Int.toNat_natCast]
 have hF1 := zeV img top (i := sl / 112) (by omega)
 have hF2 := zeV img (imgFanF img top (sl / 112)) (i := sl / 7 % 16) (by omega)
 have hno : ¬ (zb2 img top/\zb2 img (imgFanF img top (sl / 112)))->(false = (zeH img top sl).live/\0 = (zeH img top sl).gen/\0 = (zeH img top sl).next/\false = decide (zcK img top sl)) := fun hn => by
  rw [zeH, if_neg hn]; exact ⟨rfl, rfl, rfl, (decide_eq_false fun k => hn ⟨k.1, k.2.1⟩).symm⟩
 refine ⟨h, h1, h2, by omega, by omega, by omega, by omega, by omega, by omega, h, hF1.1, hF1.2, fun hn => hno fun k => hn k.1, fun hy => ⟨fun hn => hno fun k => hn k.2, fun hy2 => ⟨by omega, by omega, by omega, by omega, by omega, by omega, by omega, h, hF2.1, hF2.2, by omega, by omega, by omega, by omega, ?_⟩⟩⟩
 rw [zeH, if_pos ⟨hy, hy2⟩]
 exact ⟨rfl, rfl, rfl, decide_eq_decide.2 ⟨fun k => ⟨hy, hy2, k⟩, fun k => k.2.2⟩⟩

def zl3 (img : List Nat) (a : Int) (k : Nat) : List Int := ((List.range k).map (imgFanF img a)).filter (fun c => decide (c ≠ 0))
def fanP (img : List Nat) (a : Int) : List Int := (if a = 0 then [] else [a]) ++ zl3 img a 16
def zdX (img : List Nat) (top : Int) (k : Nat) : List Int := (if top = 0 then [] else [top]) ++ (List.range k).flatMap (fun i => fanP img (imgFanF img top i))
def zkI (img : List Nat) (top : Int) (k : Nat) : Prop := ∀ i, i < k->zb2 img (imgFanF img top i)/\∀ j, j < 16->zcJ img (imgF img top i j)
def zcN (img : List Nat) (top : Int) : Prop := zb2 img top/\zkI img top 16
instance (img : List Nat) (top : Int) : Decidable (zcN img top) := by unfold zcN zkI; infer_instance
def zb5 (img : List Nat) (top : Int) : List Int := if zcN img top then zdX img top 16 else []
def zhH : Ctr := rowJC (List Nat × Int) (fun x => Oct x.1/\I64 x.2) (fun x => [strN x.1, i64 x.2]) 3 .i64 (fun x => zb5 x.1 x.2) (fun x r => .tup [r, .bool (decide (zcN x.1 x.2))])
theorem znU (img : List Nat) (a : Int) (k : Nat) : zl3 img a (k + 1) = zl3 img a k ++ (if imgFanF img a k = 0 then [] else [imgFanF img a k]) := by
 unfold zl3
 rw [List.range_succ, List.map_append, List.filter_append]
 congr 1
 by_cases h : imgFanF img a k = 0 <;> simp [h]
theorem zrG (img : List Nat) (a : Int) (k : Nat) : (zl3 img a k).length <= k := by
 unfold zl3
 exact Nat.le_trans (List.length_filter_le _ _) (by simp)
theorem zlX (img : List Nat) (top : Int) (k : Nat) : zdX img top (k + 1) = zdX img top k ++ fanP img (imgFanF img top k) := by
 unfold zdX
 rw [List.range_succ, List.flatMap_append, <- List.append_assoc]; simp
theorem zjA (img : List Nat) (top : Int) (k : Nat) : (zdX img top k).length <= 1 + 17 * k := by
 induction k with
 | zero => unfold zdX; split <;> simp
 | succ k ih =>
   have := zrG img (imgFanF img top k) 16
   rw [zlX, List.length_append, fanP, List.length_append]
   have : (if imgFanF img top k = 0 then [] else [imgFanF img top k] : List Int).length <= 1 := by split <;> simp
   omega
theorem snocJ (l : List Int) (c : Int) : ∀ i, i < (l ++ [c]).length->(if i < l.length then [i64 (l.getD i 0)] else if i - l.length = 0 then [i64 c] else [i64 0]) = [i64 ((l ++ [c]).getD i 0)] := fun i hi => by
 rw [zaM]
 rw [List.length_append] at hi
 simp only [List.length_cons, List.length_nil] at hi
 by_cases e : i < l.length
 ·rw [if_pos e, if_pos e]
 ·have e2 : i - l.length = 0 := by omega
  rw [if_neg e, if_neg e, if_pos e2, e2]; rfl
def qdR (F : Fr) (_ : AH) : Option Ren := match F.getD 8 .any with
 | .sl q _ _ _ _ _ _ => some [some 0, some 1, some q]
 | _ => some [some 0, some 1, none]
def zuZ (F : Fr) (_ : AH) : Option Ren := match F.getD 8 .any, F.getD 10 .any with
 | .sl q _ _ _ _ _ _, .ptr p _ _ => some [some 0, some 1, some q, some p]
 | _, .ptr p _ _ => some [some 0, some 1, none, some p]
 | _, _ => none
def zqR (x : List Nat × Int) : LA := { T := Nat × Nat × List Int, F := fun t => frm 84 [(0, strN x.1), (1, i64 x.2), (6, .ptr 1 [] 0), (8, .sl 2 [] 0 1 0 t.2.2.length t.2.1), (9, i64 (t.1 : Nat))], H := fun t => [.fence, .cells 113 (fanV (imgFanF x.1 x.2)), rowI 3 .i64 t.2.1 t.2.2], ρ₁ := qdR, ρ₂ := qdR }
def zqQ (x : List Nat × Int) : LA := { T := (Nat × Nat) × Nat × List Int, F := fun t => frm 84 [(0, strN x.1), (1, i64 x.2), (6, .ptr 1 [] 0), (8, .sl 2 [] 0 1 0 t.2.2.length t.2.1), (9, i64 (t.1.1 : Nat)), (10, .ptr 3 [] 0), (12, i64 (t.1.2 : Nat))], H := fun t => [.fence, .cells 113 (fanV (imgFanF x.1 x.2)), rowI 3 .i64 t.2.1 t.2.2, .cells 113 (fanV (imgFanF x.1 (imgFanF x.1 x.2 t.1.1)))], ρ₁ := zuZ, ρ₂ := zuZ }
def zqT (x : List Nat × Int) : LA := { T := Nat × List Int, F := fun t => frm 84 [(0, strN x.1), (1, i64 x.2), (6, .ptr 1 [] 0), (8, .sl 2 [] 0 1 0 t.2.length t.1)], H := fun t => [.fence, .cells 113 (fanV (imgFanF x.1 x.2)), rowI 3 .i64 t.1 t.2], ρ₁ := qdR, ρ₂ := qdR }
def zqS (x : List Nat × Int) : LA := { T := Nat × Nat × List Int, F := fun t => frm 84 [(0, strN x.1), (1, i64 x.2), (6, .ptr 1 [] 0), (8, .sl 2 [] 0 1 0 t.2.2.length t.2.1), (9, i64 (t.1 : Nat)), (10, .ptr 3 [] 0)], H := fun t => [.fence, .cells 113 (fanV (imgFanF x.1 x.2)), rowI 3 .i64 t.2.1 t.2.2, .cells 113 (fanV (imgFanF x.1 (imgFanF x.1 x.2 t.1)))], ρ₁ := zuZ, ρ₂ := zuZ }
theorem zsZ : (
 let q1 : Prop := (0 : Nat) + (1 : Nat) <= (1 : Nat);
 let q2 : Prop := true = true/\zaB/\(0 : Nat) = 0;
 let q3 : Prop := (3 : TypeId) = 3;
 let q4 : Nat := 0 * 1 / 1;
 let q5 : Nat := (TI.mk (TK.int IntKind.i64) 1 8 (ZL.cons (Value.int IntKind.i64 0) ZL.nil) false).size;
 let q6 : Prop := (113 : TypeId) = 113;
 let q7 : Prop := q2/\Tr 73 True; ∀ (x : List Nat × Int),
 let q8 : Prop := (zb5 x.1 x.2).length = 0;
 let q9 : Bool := decide (zcN x.1 x.2);
 let q10 : Prop := Exx Nat fun y => ((((q8/\y = 0)/\false = q9/\True)/\True)/\true = true/\(y = 0/\q8)/\True)/\(zb5 x.1 x.2).length <= y/\y <= 9223372036854775807;
 let q11 : Prop := q6/\(1 : Nat) = 1/\(16 : Nat) = 16/\(∀ (i : Nat), i < 16->[AV.int .i64 (imgFanF x.1 x.2 i)] = [AV.int .i64 (imgFanF x.1 x.2 i)])/\True; Oct x.1/\I64 x.2->Exx (List Nat × Int) fun x_1 =>
 let q12 : Prop := (113 : Nat) = (113 : TypeId)/\(1 : Nat) = 1/\(16 : Nat) = 16/\(∀ (i : Nat), i < 16->[AV.int .i64 (imgFanF x_1.1 x_1.2 i)] = [AV.int .i64 (imgFanF x.1 x.2 i)])/\True; ((cstr x.1 = cstr x_1.1/\Tr 1 (x.2 = x_1.2)/\True)/\true = true/\True)/\(Oct x_1.1/\I64 x_1.2)/\∀ (y : Unit), True->BC (!decide (zb2 x_1.1 x_1.2)) q10 (Exx (Nat × List Int->Prop) fun I => BC (!decide (x.2 = (0 : Int))) (q1/\((1 : Nat) <= (9223372036854775807 : Nat)/\(1 : Nat) * (8 : Nat) <= (140737488355328 : Nat))/\∀ (cap : Nat), 1 <= cap/\cap <= 9223372036854775807->Exx (Nat × List Int) fun t => I t/\(cstr x.1 = cstr x.1/\Tr 1 (x.2 = x.2)/\Tr 4 (q2/\Tr 1 ((true = true/\zaB/\(0 : Nat) = 0/\(1 : Nat) = 1/\(0 : Nat) = 0/\1 = t.2.length/\cap = t.1)/\Tr 75 True)))/\true = true/\q12/\(q3/\(1 : Nat) = 1/\cap = t.1/\t.2.length <= 1/\∀ (i : Nat),
 let q13 : Nat := 0 + i; i < t.2.length->[AV.int .i64 (if q13 = q4 then x.2 else 0)] = [AV.int .i64 (t.2.getD i 0)])/\True) (Exx (Nat × List Int) fun t => I t/\(cstr x.1 = cstr x.1/\Tr 1 (x.2 = x.2)/\Tr 4 (q2/\Tr 1 ((t.2.length = 0/\t.1 = 0)/\Tr 75 True)))/\true = true/\q12/\(t.1 = 0/\t.2.length = 0)/\True)/\∀ (t : Nat × List Int), I t->Exx (Nat × Nat × List Int->Prop) fun I => Exx (Nat × Nat × List Int->Nat) fun m => (Exx (Nat × Nat × List Int) fun t_1 => I t_1/\(cstr x.1 = cstr x.1/\Tr 1 (x.2 = x.2)/\Tr 4 (q2/\Tr 1 ((true = true/\zaB/\(0 : Nat) = 0/\(1 : Nat) = 1/\(0 : Nat) = 0/\t.2.length = t_1.2.2.length/\t.1 = t_1.2.1)/\Tr 1 ((0 : Int) = (t_1.1 : Int))/\Tr 74 True)))/\true = true/\q11/\(q3/\(1 : Nat) = 1/\t.1 = t_1.2.1/\t_1.2.2.length <= t.2.length/\∀ (i : Nat), i < t_1.2.2.length->[AV.int .i64 (t.2.getD i 0)] = [AV.int .i64 (t_1.2.2.getD i 0)])/\True)/\∀ (t : Nat × Nat × List Int),
 let q14 : Prop := (0 : Int) <= (t.1 : Int)/\(t.1 : Int) < (↑(16 : Nat) : Int);
 let q15 : Prop := (t.1 : Int).toNat < 16;
 let q16 : Int := imgFanF x.1 x.2 (t.1 : Int).toNat;
 let q17 : Nat := t.2.2.length + 1; I t->BC (decide ((t.1 : Int) < (16 : Int))) (q14/\q15/\Exx (List Nat × Int) fun x_2 => ((cstr x.1 = cstr x_2.1/\Tr 1 (q16 = x_2.2)/\True)/\true = true/\True)/\(Oct x_2.1/\I64 x_2.2)/\∀ (y : Unit), True->BC (!decide (zb2 x_2.1 x_2.2)) q10 (Exx (Nat × Nat × List Int->Prop) fun I_1 => (q14/\q15/\BC (!decide (q16 = (0 : Int))) (q14/\q15/\q1/\true = true/\(t.2.2.length <= t.2.2.length/\t.2.1 = t.2.1)/\(q17 <= 9223372036854775807/\q17 * 8 <= 140737488355328)/\∀ (cap : Nat), q17 <= cap/\cap <= 9223372036854775807->Exx (Nat × Nat × List Int) fun t_1 => I_1 t_1/\(cstr x.1 = cstr x.1/\Tr 1 (x.2 = x.2)/\Tr 4 (q2/\Tr 1 ((true = true/\zaB/\(0 : Nat) = 0/\(1 : Nat) = 1/\(0 : Nat) = 0/\q17 = t_1.2.2.length/\cap = t_1.2.1)/\Tr 1 ((t.1 : Int) = (t_1.1 : Int))/\q7)))/\true = true/\q11/\(q3/\(1 : Nat) = 1/\cap = t_1.2.1/\t_1.2.2.length <= q17/\∀ (i : Nat),
 let q18 : Nat := 0 + (i - t.2.2.length); i < t_1.2.2.length->(if i < t.2.2.length then [AV.int .i64 (t.2.2.getD i 0)] else [AV.int .i64 (if q18 = q4 then q16 else 0)]) = [AV.int .i64 (t_1.2.2.getD i 0)])/\((113 : Nat) = (113 : TypeId)/\(1 : Nat) = 1/\(16 : Nat) = 16/\(∀ (i : Nat), i < 16->[AV.int .i64 (imgFanF x_2.1 x_2.2 i)] = [AV.int .i64 (imgFanF x.1 (imgFanF x.1 x.2 t_1.1) i)])/\True)/\True) (Exx (Nat × Nat × List Int) fun t_1 =>
 let q19 : Prop := t.2.1 = t_1.2.1; I_1 t_1/\(cstr x.1 = cstr x.1/\Tr 1 (x.2 = x.2)/\Tr 4 (q2/\Tr 1 ((true = true/\zaB/\(0 : Nat) = 0/\(1 : Nat) = 1/\(0 : Nat) = 0/\t.2.2.length = t_1.2.2.length/\q19)/\Tr 1 ((t.1 : Int) = (t_1.1 : Int))/\q7)))/\true = true/\q11/\(q3/\(1 : Nat) = 1/\q19/\t_1.2.2.length <= t.2.2.length/\∀ (i : Nat), i < t_1.2.2.length->[AV.int .i64 (t.2.2.getD i 0)] = [AV.int .i64 (t_1.2.2.getD i 0)])/\((113 : Nat) = (113 : TypeId)/\(1 : Nat) = 1/\(16 : Nat) = 16/\(∀ (i : Nat), i < 16->[AV.int .i64 (imgFanF x_2.1 x_2.2 i)] = [AV.int .i64 (imgFanF x.1 (imgFanF x.1 x.2 t_1.1) i)])/\True)/\True))/\∀ (t_1 : Nat × Nat × List Int), I_1 t_1->Exx ((Nat × Nat) × Nat × List Int->Prop) fun I_2 => Exx ((Nat × Nat) × Nat × List Int->Nat) fun m_1 => (Exx ((Nat × Nat) × Nat × List Int) fun t =>
 let q20 : Prop := t_1.2.1 = t.2.1; I_2 t/\(cstr x.1 = cstr x.1/\Tr 1 (x.2 = x.2)/\Tr 4 (q2/\Tr 1 ((true = true/\zaB/\(0 : Nat) = 0/\(1 : Nat) = 1/\(0 : Nat) = 0/\t_1.2.2.length = t.2.2.length/\q20)/\Tr 1 ((t_1.1 : Int) = (t.1.1 : Int))/\q2/\Tr 1 (Tr 1 ((0 : Int) = (t.1.2 : Int))/\Tr 71 True))))/\true = true/\q11/\(q3/\(1 : Nat) = 1/\q20/\t.2.2.length <= t_1.2.2.length/\∀ (i : Nat), i < t.2.2.length->[AV.int .i64 (t_1.2.2.getD i 0)] = [AV.int .i64 (t.2.2.getD i 0)])/\(q6/\(1 : Nat) = 1/\(16 : Nat) = 16/\(∀ (i : Nat), i < 16->[AV.int .i64 (imgFanF x.1 (imgFanF x.1 x.2 t_1.1) i)] = [AV.int .i64 (imgFanF x.1 (imgFanF x.1 x.2 t.1.1) i)])/\True)/\True)/\∀ (t_2 : (Nat × Nat) × Nat × List Int),
 let q21 : Prop := (0 : Int) <= (t_2.1.2 : Int)/\(t_2.1.2 : Int) < (↑(16 : Nat) : Int);
 let q22 : Nat := (t_2.1.2 : Int).toNat;
 let q23 : Prop := q22 < 16;
 let q24 : Int := imgFanF x.1 x.2 t_2.1.1;
 let q25 : Int := imgFanF x.1 q24 q22;
 let q26 : Nat := t_2.2.2.length + 1;
 let q27 : Int := (t_2.1.2 : Int) + 1;
 let q28 : Prop := I64 q27;
 let q29 : Int := (t_2.1.1 : Int) + 1; I_2 t_2->BC (decide ((t_2.1.2 : Int) < (16 : Int))) (q21/\q23/\Exx (List Nat × Int) fun x_3 => ((cstr x.1 = cstr x_3.1/\Tr 1 (q25 = x_3.2)/\True)/\true = true/\True)/\(Oct x_3.1/\I64 x_3.2)/\∀ (y : Unit), True->BC (!decide (zcJ x_3.1 x_3.2)) q10 (q21/\q23/\BC (!decide (q25 = (0 : Int))) (q21/\q23/\q1/\true = true/\(t_2.2.2.length <= t_2.2.2.length/\t_2.2.1 = t_2.2.1)/\(q26 <= 9223372036854775807/\q26 * 8 <= 140737488355328)/\∀ (cap : Nat), q26 <= cap/\cap <= 9223372036854775807->q28/\Exx ((Nat × Nat) × Nat × List Int) fun t' => (I_2 t'/\m_1 t' < m_1 t_2)/\(cstr x.1 = cstr x.1/\Tr 1 (x.2 = x.2)/\Tr 4 (q2/\Tr 1 ((true = true/\zaB/\(0 : Nat) = 0/\(1 : Nat) = 1/\(0 : Nat) = 0/\q26 = t'.snd.2.length/\cap = t'.snd.1)/\Tr 1 ((t_2.1.1 : Int) = (↑t'.fst.1 : Int))/\q2/\Tr 1 (Tr 1 (q27 = (↑t'.fst.2 : Int))/\Tr 71 True))))/\true = true/\q11/\(q3/\(1 : Nat) = 1/\cap = t'.snd.1/\t'.snd.2.length <= q26/\∀ (i : Nat),
 let q30 : Nat := 0 + (i - t_2.2.2.length); i < t'.snd.2.length->(if i < t_2.2.2.length then [AV.int .i64 (t_2.2.2.getD i 0)] else [AV.int .i64 (if q30 = q4 then q25 else 0)]) = [AV.int .i64 (t'.snd.2.getD i 0)])/\(q6/\(1 : Nat) = 1/\(16 : Nat) = 16/\(∀ (i : Nat), i < 16->[AV.int .i64 (imgFanF x.1 q24 i)] = [AV.int .i64 (imgFanF x.1 (imgFanF x.1 x.2 t'.fst.1) i)])/\True)/\True) (q28/\Exx ((Nat × Nat) × Nat × List Int) fun t' =>
 let q31 : Prop := t_2.2.1 = t'.snd.1; (I_2 t'/\m_1 t' < m_1 t_2)/\(cstr x.1 = cstr x.1/\Tr 1 (x.2 = x.2)/\Tr 4 (q2/\Tr 1 ((true = true/\zaB/\(0 : Nat) = 0/\(1 : Nat) = 1/\(0 : Nat) = 0/\t_2.2.2.length = t'.snd.2.length/\q31)/\Tr 1 ((t_2.1.1 : Int) = (↑t'.fst.1 : Int))/\q2/\Tr 1 (Tr 1 (q27 = (↑t'.fst.2 : Int))/\Tr 71 True))))/\true = true/\q11/\(q3/\(1 : Nat) = 1/\q31/\t'.snd.2.length <= t_2.2.2.length/\∀ (i : Nat), i < t'.snd.2.length->[AV.int .i64 (t_2.2.2.getD i 0)] = [AV.int .i64 (t'.snd.2.getD i 0)])/\(q6/\(1 : Nat) = 1/\(16 : Nat) = 16/\(∀ (i : Nat), i < 16->[AV.int .i64 (imgFanF x.1 q24 i)] = [AV.int .i64 (imgFanF x.1 (imgFanF x.1 x.2 t'.fst.1) i)])/\True)/\True))) (I64 q29/\Exx (Nat × Nat × List Int) fun t' =>
 let q32 : Prop := t_2.2.1 = t'.snd.1; (I t'/\m t' < m t)/\(cstr x.1 = cstr x.1/\Tr 1 (x.2 = x.2)/\Tr 4 (q2/\Tr 1 ((true = true/\zaB/\(0 : Nat) = 0/\(1 : Nat) = 1/\(0 : Nat) = 0/\t_2.2.2.length = t'.snd.2.length/\q32)/\Tr 1 (q29 = (↑t'.fst : Int))/\Tr 74 True)))/\true = true/\q11/\(q3/\(1 : Nat) = 1/\q32/\t'.snd.2.length <= t_2.2.2.length/\∀ (i : Nat), i < t'.snd.2.length->[AV.int .i64 (t_2.2.2.getD i 0)] = [AV.int .i64 (t'.snd.2.getD i 0)])/\True))) (Exx Nat fun y => ((((true = true/\zaB/\(0 : Nat) = 0/\(1 : Nat) = 1/\(0 : Nat) = 0/\t.2.2.length = (zb5 x.1 x.2).length/\t.2.1 = y)/\true = q9/\True)/\True)/\true = true/\(q3/\(1 : Nat) = 1/\t.2.1 = y/\(zb5 x.1 x.2).length <= t.2.2.length/\∀ (i : Nat), i < (zb5 x.1 x.2).length->[AV.int .i64 (t.2.2.getD i 0)] = [AV.int .i64 ((zb5 x.1 x.2).getD i 0)])/\True)/\(zb5 x.1 x.2).length <= y/\y <= 9223372036854775807))) = (zcP tb [(60, zaA zh8), (61, zaA zgQ)] Tryz.f18 zhH (fun x => { loops := [(8, zqR x), (16, zqQ x)], joins := [(7, zqT x), (15, zqS x)] }) (fun _ av _ => zxM av) (fun _ => []) (fun _ _ _ _ => [])) := by kernel_rfl

theorem zoZ : SpecOk Tryz.prog 18 (zaA zhH) := by
 refine za1 zaH zaG (SPok.cons zlQ (SPok.cons zjZ SPok.nil)) Tryz.func18 (by decide) (qc6 fun _ _ _ => ⟨rfl, rfl, trivial⟩) (Eq.mp zsZ ?_)
 simp (maxSteps := 10000000) only [std, stdU, stdV, Exx, I64, Nat.reduceMul, Nat.reduceDiv, Nat.reduceAdd, Int.reduceToNat]
 rintro img top ⟨h, h1, h2⟩
 have hno : ¬ zcN img top->((zb5 img top).length = 0/\false = decide (zcN img top)/\(zb5 img top).length = 0/\(zb5 img top).length <= 0/\(0 : Nat) <= 9223372036854775807) := fun hn => by
  rw [zb5, if_neg hn]; exact ⟨rfl, (decide_eq_false hn).symm, rfl, Nat.le_refl _, by omega⟩
 refine ⟨h, h1, h2, fun hn => hno fun k => hn k.1, fun hT => ⟨fun t => t.2 = zdX img top 0/\t.2.length <= t.1/\t.1 <= 9223372036854775807, fun hz => ⟨by omega, by omega, fun cap hc => ⟨cap, [top], ⟨by simp only [zdX]; rw [if_neg hz]; rfl, hc.1, hc.2⟩, rfl, rfl, rfl, Nat.le_refl _, fun i hi => ?_⟩⟩, fun hz => ⟨0, [], ⟨by simp only [zdX]; rw [if_pos hz]; rfl, Nat.le_refl _, by simp⟩, rfl, rfl, rfl, rfl⟩, fun cap b hb => ?_⟩⟩
 ·have : i = 0 := by simp at hi; exact hi
  subst this; rfl
 obtain ⟨q1, q2, q3⟩ := hb
 simp only at q1 q2 q3
 refine ⟨fun t => t.1 <= 16/\t.2.2 = zdX img top t.1/\zkI img top t.1/\t.2.2.length <= t.2.1/\t.2.1 <= 9223372036854775807, ⟨0, cap, b, ⟨by omega, q1, fun i hi => absurd hi (Nat.not_lt_zero _), q2, q3⟩, rfl, rfl, rfl, rfl, Nat.le_refl _, fun _ _ => rfl⟩, fun t => 16 - t.1, fun a c l hJ => ⟨fun hlt => ?_, fun hge => ?_⟩⟩
 ·obtain ⟨j1, j2, j3, j4, j5⟩ := hJ
  simp only at j1 j2 j3 j4 j5
  have hlen := zjA img top a
  rw [<- j2] at hlen
  have hI := zeV img top (i := a) (by omega)
  refine ⟨by omega, by omega, by omega, h, hI.1, hI.2, fun hn => hno fun k => hn (k.2 a (by omega)).1, fun hy => ⟨by omega, by omega, by omega, fun t => t.1 = a/\t.2.2 = zdX img top a ++ (if imgFanF img top a = 0 then [] else [imgFanF img top a])/\t.2.2.length <= t.2.1/\t.2.1 <= 9223372036854775807, fun hz => ⟨by omega, by omega, by omega, by omega, by omega, fun cap2 hc2 => ⟨a, cap2, l ++ [imgFanF img top a], ⟨rfl, by simp only; rw [if_neg hz, j2], by simp only [List.length_append, List.length_cons, List.length_nil]; omega, hc2.2⟩, by simp, rfl, rfl, rfl, by simp, snocJ l _, fun _ _ => rfl⟩⟩, fun hz => ⟨a, c, l, ⟨rfl, by simp only; rw [if_pos hz, List.append_nil, j2], j4, j5⟩, rfl, rfl, rfl, rfl, Nat.le_refl _, fun _ _ => rfl, fun _ _ => rfl⟩, fun a1 c1 l1 hK => ?_⟩⟩
  obtain ⟨k1, k2, k3, k4⟩ := hK
  simp only at k1 k2 k3 k4
  subst k1
  refine ⟨fun t => t.1.1 = a1/\t.1.2 <= 16/\t.2.2 = zdX img top a1 ++ (if imgFanF img top a1 = 0 then [] else [imgFanF img top a1]) ++ zl3 img (imgFanF img top a1) t.1.2/\(∀ j, j < t.1.2->zcJ img (imgF img top a1 j))/\t.2.2.length <= t.2.1/\t.2.1 <= 9223372036854775807, ⟨a1, 0, c1, l1, ⟨rfl, by simp only; omega, by simp only [zl3]; rw [k2]; simp, fun j hj => absurd hj (Nat.not_lt_zero _), k3, k4⟩, rfl, rfl, rfl, rfl, rfl, Nat.le_refl _, fun _ _ => rfl, fun _ _ => rfl⟩, fun t => 16 - t.1.2, fun a2 j c2 l2 hL => ⟨fun hlt2 => ?_, fun hge2 => ?_⟩⟩
  ·obtain ⟨m1, m2, m3, m4, m5, m6⟩ := hL
   simp only at m1 m2 m3 m4 m5 m6
   subst m1
   have hl2 : l2.length <= 2000 := by
    have := zjA img top a2
    have := zrG img (imgFanF img top a2) j
    rw [m3]
    simp only [List.length_append]
    have : (if imgFanF img top a2 = 0 then [] else [imgFanF img top a2] : List Int).length <= 1 := by split <;> simp
    omega
   have hI2 := zeV img (imgFanF img top a2) (i := j) (by omega)
   have hm4 : zcJ img (imgFanF img (imgFanF img top a2) j)->∀ i, i < j + 1->zcJ img (imgF img top a2 i) := fun hy i hi => by
    by_cases e : i = j
    ·subst e; exact hy
    ·exact m4 i (by omega)
   refine ⟨by omega, by omega, by omega, h, hI2.1, hI2.2, fun hn => hno fun k => hn ((k.2 a2 (by omega)).2 j (by omega)), fun hy2 => ⟨by omega, by omega, by omega, fun hz => ⟨by omega, by omega, by omega, by omega, by omega, fun cap3 hc3 => ⟨by omega, by omega, a2, j + 1, cap3, l2 ++ [imgFanF img (imgFanF img top a2) j], ⟨rfl, by simp only; omega, ?_, hm4 hy2, by simp only [List.length_append, List.length_cons, List.length_nil]; omega, hc3.2⟩, by simp only; omega, by simp, rfl, rfl, by omega, rfl, by simp, snocJ l2 _, fun _ _ => rfl⟩⟩, fun hz => ⟨by omega, by omega, a2, j + 1, c2, l2, ⟨rfl, by simp only; omega, ?_, hm4 hy2, m5, m6⟩, by simp only; omega, rfl, rfl, rfl, by omega, rfl, Nat.le_refl _, fun _ _ => rfl, fun _ _ => rfl⟩⟩⟩
   ·simp only
    rw [znU, if_neg hz, m3, List.append_assoc (zdX img top a2 ++ _)]
   ·simp only
    rw [znU, if_pos hz, m3, List.append_nil]
  ·obtain ⟨m1, m2, m3, m4, m5, m6⟩ := hL
   simp only at m1 m2 m3 m4 m5 m6
   subst m1
   have ej : j = 16 := by omega
   subst ej
   refine ⟨by omega, by omega, a2 + 1, c2, l2, ⟨by simp only; omega, ?_, fun i hi => ?_, m5, m6⟩, by simp only; omega, rfl, rfl, by omega, rfl, Nat.le_refl _, fun _ _ => rfl⟩
   ·simp only
    rw [zlX, fanP, m3, List.append_assoc]
   ·by_cases e : i = a2
    ·subst e; exact ⟨hy, m4⟩
    ·exact j3 i (by simp only at hi; omega)
 ·obtain ⟨j1, j2, j3, j4, j5⟩ := hJ
  simp only at j1 j2 j3 j4 j5
  have ea : a = 16 := by omega
  subst ea
  have hok : zcN img top := ⟨hT, j3⟩
  rw [zb5, if_pos hok, <- j2]
  exact ⟨rfl, (decide_eq_true hok).symm, Nat.le_refl _, fun _ _ => rfl, j4, j5⟩



def zoU : Ctr := zbT (List Int × List Int) (fun x => zxE x.1/\zxE x.2) (fun x => [qdX x.1, qdX x.2]) (fun x => .bool (decide (x.1 = x.2)))
def zyT (x : List Int × List Int) : LA := { T := Nat, F := fun i => frm 26 [(0, qdX x.1), (1, qdX x.2), (5, i64 (i : Nat))], H := fun _ => [.fence] }
theorem qdE : (∀ (x : List Int × List Int),
 let q1 : Bool := decide (x.1 = x.2);
 let q2 : Prop := Exx Unit fun y => ((false = q1/\True)/\true = true/\True)/\True;
 let q4 : Prop := (1 : Nat) = 1/\x.1.length = x.1.length/\∀ (i : Nat),
 let q3 : List AV := [AV.int .i64 (x.1.getD i 0)]; i < x.1.length->q3 = q3;
 let q6 : Prop := (1 : Nat) = 1/\x.2.length = x.2.length/\∀ (i : Nat),
 let q5 : List AV := [AV.int .i64 (x.2.getD i 0)]; i < x.2.length->q5 = q5; zxE x.1/\zxE x.2->BC (!decide ((x.1.length : Int) = (x.2.length : Int))) q2 (Exx (Nat->Prop) fun I => Exx (Nat->Nat) fun m => (Exx Nat fun t => I t/\(q4/\q6/\Tr 3 (Tr 1 ((0 : Int) = (t : Int))/\Tr 20 True))/\true = true/\True)/\∀ (t : Nat),
 let q7 : Prop := (t : Int) < (x.1.length : Int);
 let q8 : Int := x.1.getD (t : Int).toNat 0;
 let q9 : Int := x.2.getD (t : Int).toNat 0;
 let q10 : Int := (t : Int) + 1; I t->BC (decide q7) (((0 : Int) <= (t : Int)/\q7)/\((0 : Int) <= (t : Int)/\(t : Int) < (x.2.length : Int))/\BC (!decide (q8 = q9)) q2 (I64 q10/\Exx Nat fun t' => (I t'/\m t' < m t)/\(q4/\q6/\Tr 3 (Tr 1 (q10 = (↑t' : Int))/\Tr 20 True))/\true = true/\True)) (Exx Unit fun y => ((true = q1/\True)/\true = true/\True)/\True))) = (fnVC tb [] Tryz.f19 zoU (fun x => { loops := [(4, zyT x)] }) (fun _ => none)) := by kernel_rfl

theorem zwC : SpecOk Tryz.prog 19 (zaA zoU) := by
 refine zaF zaH zaG SPok.nil Tryz.func19 (by decide) (zaI fun _ => rfl) (Eq.mp qdE ?_)
 simp (maxSteps := 10000000) only [std, stdU, stdV, Exx, I64, Nat.reduceMul, Nat.reduceDiv, Nat.reduceAdd, Int.reduceToNat]
 rintro l q ⟨⟨h1, h2⟩, h3, h4⟩
 refine ⟨fun h => (decide_eq_false (fun e => h (by rw [e]))).symm, fun he => ⟨fun i => i <= l.length/\∀ j, j < i->l.getD j 0 = q.getD j 0, ⟨0, ⟨by omega, fun j hj => absurd hj (Nat.not_lt_zero _)⟩, rfl⟩, fun i => l.length - i, fun i hi => ⟨fun hlt => ⟨by omega, by omega, by omega, by omega, fun h => (decide_eq_false (fun e => h (by rw [e]))).symm, fun h => ⟨by omega, by omega, i + 1, ⟨by omega, fun j hj => ?_⟩, by simp only; omega, by omega⟩⟩, fun hge => (decide_eq_true (zcZ 0 he fun j hj => hi.2 j (by omega))).symm⟩⟩⟩
 by_cases e : j = i
 ·subst e; exact h
 ·exact hi.2 j (by omega)

def EntsI (l : List EntT) : Prop := (∀ x ∈ l, EntI x)/\l.length <= 1000000
theorem EntsI.take {l : List EntT} (h : EntsI l) (n : Nat) : EntsI (l.take n) := ⟨fun x hx => h.1 x (List.mem_of_mem_take hx), by rw [List.length_take]; have := h.2; omega⟩
end Yard
