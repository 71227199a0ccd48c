import Derived.Test.YtkdppdofkkakaaaGreatDoorNodeMath
import Derived.Test.YtkdppdofkkakaaaGreatDoorLaw21

namespace Yard
open Go Go.Sx Go.Proofs
set_option linter.unusedVariables false
set_option linter.unusedSimpArgs false
set_option maxRecDepth 4000
set_option maxHeartbeats 4000000

abbrev entH (e : EntT) : HandT := ⟨e.slot, e.gen⟩

def zqW (ws : List Nat) (a : Int) : Int := if zaT ws a = 0 then (if zz3 (zaY ws a) then 0 else 31) else zaT ws a
def zeF (ws : List Nat) (a : Int) : NodeT := if zqW ws a = 0 then nodeB (zaY ws a) else nodeZ
structure TR where
 s : StoreT
 t : TickT
 a : Int
 e : Int
def tuW (s : StoreT) (a : Int) (n : NodeT) : Wr := zfP s a (zuX n)
def tuRes (s : StoreT) (t : TickT) (a : Int) (n : NodeT) : TR :=
 if znP n then
  if (tuW s a n).e = 0 then
   if zsN (tuW s a n).s.ws t (entH n.e) = 0 then
    if (qc1 (tuW s a n).s.ws t (entH n.e)).next = (tuW s a n).at_ then ⟨(tuW s a n).s, t, (tuW s a n).at_, 0⟩
    else if poiE (tuW s a n).s t (entH n.e) (tuW s a n).at_ = 0 then ⟨poiS (tuW s a n).s t (entH n.e) (tuW s a n).at_, poiT (tuW s a n).s t (entH n.e) (tuW s a n).at_, (tuW s a n).at_, 0⟩
    else ⟨poiS (tuW s a n).s t (entH n.e) (tuW s a n).at_, zhY, 0, poiE (tuW s a n).s t (entH n.e) (tuW s a n).at_⟩
   else ⟨(tuW s a n).s, zhY, 0, zsN (tuW s a n).s.ws t (entH n.e)⟩
  else ⟨(tuW s a n).s, zhY, 0, (tuW s a n).e⟩
 else ⟨s, zhY, 0, 2⟩
structure MR where
 s : StoreT
 t : TickT
 a : Int
 h : HandT
 e : Int
def mkN (h : HandT) (k v : Int) : NodeT := ⟨⟨h.slot, h.gen, k, v⟩, []⟩
def mkW (s : StoreT) (t : TickT) (k v : Int) : Wr := zbY s (zuX (mkN (nextH s.ws t) k v))
def mkRes (s : StoreT) (t : TickT) (k v : Int) : MR :=
 if ztE s.ws t = 0 then
  if znP (mkN (nextH s.ws t) k v) then
   if (mkW s t k v).e = 0 then
    if issE (mkW s t k v).s t (mkW s t k v).at_ = 0 then ⟨issS (mkW s t k v).s t (mkW s t k v).at_, issT (mkW s t k v).s t (mkW s t k v).at_, (mkW s t k v).at_, issH (mkW s t k v).s t (mkW s t k v).at_, 0⟩
    else ⟨issS (mkW s t k v).s t (mkW s t k v).at_, zhY, 0, zwW, issE (mkW s t k v).s t (mkW s t k v).at_⟩
   else ⟨(mkW s t k v).s, zhY, 0, zwW, (mkW s t k v).e⟩
  else ⟨s, zhY, 0, zwW, 31⟩
 else ⟨s, zhY, 0, zwW, ztE s.ws t⟩
def lkRes (s : StoreT) (t : TickT) (a b : Int) : TR :=
 if zqW s.ws a = 0 then
  if zqW s.ws b = 0 then
   if a = b\/(zeF s.ws a).kids.length ≠ (zeF s.ws b).kids.length\/(zeF s.ws a).kids.length = 12 then ⟨s, zhY, 0, 2⟩
   else if entCmp (zeF s.ws b).e (zeF s.ws a).e < 0 then tuRes s t b ⟨(zeF s.ws b).e, (zeF s.ws b).kids ++ [a]⟩
   else tuRes s t a ⟨(zeF s.ws a).e, (zeF s.ws a).kids ++ [b]⟩
  else ⟨s, zhY, 0, zqW s.ws b⟩
 else ⟨s, zhY, 0, zqW s.ws a⟩

def listG (ws : List Nat) : Nat->List EntT->List Int->List EntT × Int
 | 0, out, [] => (out, 0)
 | _ + 1, out, [] => (out, 0)
 | 0, _, _ :: _ => ([], 31)
 | n + 1, out, a :: r => if zqW ws a = 0 then listG ws n (out ++ [(zeF ws a).e]) ((zeF ws a).kids ++ r) else ([], zqW ws a)
def listE (ws : List Nat) (a : Int) : List EntT × Int := listG ws 1792 [] [a]
end Yard
