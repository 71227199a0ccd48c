import Derived.Shelf.SlSortCmp.NoneTotal
import Derived.Deep.RegionHeld3
import Derived.Test.YtlihikockhjodaaGreatDoorTb

namespace Go.Proofs
open Go.Shelf Go.RowKit Go.Lib Go.Sort
def Tryz.sortEnt_ren:Go.Shelf.Ren:=⟨fun | 6=>65 | 15=>104 | 14=>103 | 28=>150 | 29=>151 | 20=>142 | 21=>143 | 22=>144 | 23=>145 | 24=>146 | 25=>147 | 26=>148 | 27=>149 | 46=>180 | 47=>181 | 48=>182 | 49=>183 | 50=>184 | 57=>202 | n=>n,fun | 22=>63 | 24=>29 | 25=>136 | 3=>3 | 39=>205 | 0=>0 | 53=>164 | 55=>111 | 4=>4 | 46=>250 | 45=>249 | 50=>254 | 5=>5 | 9=>9 | 66=>286 | 70=>290 | 76=>310 | 77=>311 | n=>n,fun | n=>n⟩
theorem Tryz.sortEnt:Go.Proofs.SlLaysF0.n6 Tryz.prog Tryz.sortEnt_ren:={
 mixed:=by kernel_rfl
 f6:=⟨Tryz.f65.name,by decide,Tryz.func65.trans (congrArg some (by kernel_rfl))⟩
 f14:=⟨Tryz.f103.name,by decide,Tryz.func103.trans (congrArg some (by kernel_rfl))⟩
 f15:=Tryz.func104.trans (congrArg some (by kernel_rfl))
 f20:=⟨Tryz.f142.name,by decide,Tryz.func142.trans (congrArg some (by kernel_rfl))⟩
 f21:=⟨Tryz.f143.name,by decide,Tryz.func143.trans (congrArg some (by kernel_rfl))⟩
 f22:=⟨Tryz.f144.name,by decide,Tryz.func144.trans (congrArg some (by kernel_rfl))⟩
 f23:=⟨Tryz.f145.name,by decide,Tryz.func145.trans (congrArg some (by kernel_rfl))⟩
 f24:=⟨Tryz.f146.name,by decide,Tryz.func146.trans (congrArg some (by kernel_rfl))⟩
 f25:=⟨Tryz.f147.name,by decide,Tryz.func147.trans (congrArg some (by kernel_rfl))⟩
 f26:=⟨Tryz.f148.name,by decide,Tryz.func148.trans (congrArg some (by kernel_rfl))⟩
 f27:=⟨Tryz.f149.name,by decide,Tryz.func149.trans (congrArg some (by kernel_rfl))⟩
 f28:=Tryz.func150.trans (congrArg some (by kernel_rfl))
 f29:=Tryz.func151.trans (congrArg some (by kernel_rfl))
 f46:=⟨Tryz.f180.name,by decide,Tryz.func180.trans (congrArg some (by kernel_rfl))⟩
 f47:=Tryz.func181.trans (congrArg some (by kernel_rfl))
 f48:=Tryz.func182.trans (congrArg some (by kernel_rfl))
 f49:=⟨Tryz.f183.name,by decide,Tryz.func183.trans (congrArg some (by kernel_rfl))⟩
 f50:=⟨Tryz.f184.name,by decide,Tryz.func184.trans (congrArg some (by kernel_rfl))⟩
 f57:=⟨Tryz.f202.name,by decide,Tryz.func202.trans (congrArg some (by kernel_rfl))⟩
 t0:=Tryz.underlying0
 a0:=Tryz.isAgg0
 z0:=Tryz.sizeOf0
 v0:=Tryz.zeroValue0
 t3:=Tryz.underlying3
 a3:=Tryz.isAgg3
 z3:=Tryz.sizeOf3
 v3:=Tryz.zeroValue3
 t4:=Tryz.underlying4
 a4:=Tryz.isAgg4
 z4:=Tryz.sizeOf4
 v4:=Tryz.zeroValue4
 t5:=Tryz.underlying5
 a5:=Tryz.isAgg5
 z5:=Tryz.sizeOf5
 v5:=Tryz.zeroValue5
 t9:=Tryz.underlying9
 a9:=Tryz.isAgg9
 z9:=Tryz.sizeOf9
 v9:=Tryz.zeroValue9
 t22:=Tryz.underlying63
 a22:=Tryz.isAgg63
 z22:=Tryz.sizeOf63
 v22:=Tryz.zeroValue63
 t25:=Tryz.underlying136
 a25:=Tryz.isAgg136
 z25:=Tryz.sizeOf136
 v25:=Tryz.zeroValue136
 t39:=Tryz.underlying205
 a39:=Tryz.isAgg205
 z39:=Tryz.sizeOf205
 v39:=Tryz.zeroValue205
 t45:=Tryz.underlying249
 a45:=Tryz.isAgg249
 z45:=Tryz.sizeOf249
 v45:=Tryz.zeroValue249
 t46:=Tryz.underlying250
 a46:=Tryz.isAgg250
 z46:=Tryz.sizeOf250
 v46:=Tryz.zeroValue250
 t50:=Tryz.underlying254
 a50:=Tryz.isAgg254
 z50:=Tryz.sizeOf254
 v50:=Tryz.zeroValue254
 t53:=Tryz.underlying164
 a53:=Tryz.isAgg164
 z53:=Tryz.sizeOf164
 v53:=Tryz.zeroValue164
 t55:=Tryz.underlying111
 a55:=Tryz.isAgg111
 z55:=Tryz.sizeOf111
 v55:=Tryz.zeroValue111
 t66:=Tryz.underlying286
 a66:=Tryz.isAgg286
 z66:=Tryz.sizeOf286
 v66:=Tryz.zeroValue286
 t70:=Tryz.underlying290
 a70:=Tryz.isAgg290
 z70:=Tryz.sizeOf290
 v70:=Tryz.zeroValue290
 t76:=Tryz.underlying310
 a76:=Tryz.isAgg310
 z76:=Tryz.sizeOf310
 v76:=Tryz.zeroValue310
 t77:=Tryz.underlying311
 a77:=Tryz.isAgg311
 z77:=Tryz.sizeOf311
 v77:=Tryz.zeroValue311 }

set_option maxHeartbeats 1000000 in
theorem Tryz.isNaN_calls (x:Int) (w:World):Calls Tryz.prog 152 #[.int .i64 x] w fun e w'=>e = .returned (.bool false)/\w'=w:=by
 go_enter Tryz.func152,Tryz.ntmps152
 go_wp2
 go_ret
 exact ⟨by simp,rfl⟩
set_option maxHeartbeats 1000000 in
theorem Tryz.cmp_calls (x y:Int) (w:World):Calls Tryz.prog 106 #[.int .i64 x,.int .i64 y] w fun e w'=>e = .returned (.int .i64 (Lib.compareInt x y))/\w'=w:=by
 go_enter Tryz.func106,Tryz.ntmps106
 go_wp2_with (go_at_call 152; refine (Tryz.isNaN_calls _ _).mono ?_; rintro e w' ⟨rfl,hw⟩; rw [hw])
 all_goals (go_ret; refine ⟨?_,rfl⟩; unfold Lib.compareInt; (repeat' split) <;> first | rfl | (exfalso; omega))

def Tryz.orL3 (a b c:Int):Int:=if a≠0 then a else if b≠0 then b else if c≠0 then c else 0
set_option maxHeartbeats 2000000 in
theorem Tryz.or_calls (a b c:Int) (blk:Nat) (w:World) (h0:w.cell? ⟨blk,0,none⟩=some (.int .i64 a)) (h1:w.cell? ⟨blk,1,none⟩=some (.int .i64 b)) (h2:w.cell? ⟨blk,2,none⟩=some (.int .i64 c)) :
  Calls Tryz.prog 105 #[.slice (some ⟨blk,0,none⟩) 3 3] w fun e w'=>e = .returned (.int .i64 (Tryz.orL3 a b c))/\w'=w:=by
 go_enter Tryz.func105,Tryz.ntmps105
 go_wp2
 refine wp_loop_rounds 4 ?_
 rw [rounds_succ]
 go_wp2
 ·rename_i h
  go_ret
  exact ⟨by simp only [bne_iff_ne] at h; simp [Tryz.orL3,h],rfl⟩
 rename_i ha
 rw [rounds_succ]
 go_wp2
 ·rename_i h
  go_ret
  exact ⟨by simp at ha h; simp [Tryz.orL3,ha,h],rfl⟩
 rename_i hb
 rw [rounds_succ]
 go_wp2
 ·rename_i h
  go_ret
  exact ⟨by simp at ha hb h; simp [Tryz.orL3,ha,hb,h],rfl⟩
 rename_i hc
 rw [rounds_succ]
 go_wp2
 go_ret
 exact ⟨by simp at ha hb hc; simp [Tryz.orL3,ha,hb,hc],rfl⟩
theorem Tryz.heap3 (W:World) (a b c:Obj):(((W.alloc a).alloc b).alloc c).drew.heap[W.heap.size+1+1]? = some c:=by
 show (((W.heap.push a).push b).push c)[W.heap.size+1+1]? = some c
 rw [Array.getElem?_push,if_pos (by simp)]
theorem Tryz.cell3 (W:World) (a b:Obj) (p q r:Value) (t:Nat):((((W.alloc a).alloc b).alloc (Obj.cells #[p,q,r] t)).drew.cell? ⟨W.heap.size+1+1,0,none⟩=some p/\(((W.alloc a).alloc b).alloc (Obj.cells #[p,q,r] t)).drew.cell? ⟨W.heap.size+1+1,1,none⟩=some q)/\(((W.alloc a).alloc b).alloc (Obj.cells #[p,q,r] t)).drew.cell? ⟨W.heap.size+1+1,2,none⟩=some r:=by
 have h:=Tryz.heap3 W a b (Obj.cells #[p,q,r] t)
 unfold World.cell?
 simp only [h]
 exact ⟨⟨rfl,rfl⟩,rfl⟩
theorem Tryz.grow3 (W:World) (a b c:Obj):(((W.alloc a).alloc b).alloc c).drew=grow (W.drewN 1) #[a,b,c]:=by
 rw [alloc_eq_grow,alloc_eq_grow,alloc_eq_grow,grow_grow,grow_grow]; rfl
set_option maxHeartbeats 4000000 in
theorem Tryz.compare_calls (x1 x2 x3 x4 y1 y2 y3 y4:Int) (W:World):Calls Tryz.prog 66 #[.agg #[.int .i64 x1,.int .i64 x2,.int .i64 x3,.int .i64 x4],.agg #[.int .i64 y1,.int .i64 y2,.int .i64 y3,.int .i64 y4]] W fun e w' =>
  e = .returned (.int .i64 (Tryz.orL3 (Lib.compareInt x3 y3) (Lib.compareInt x1 y1) (Lib.compareInt x2 y2)))/\∃q os',w'=grow (W.drewN q) os':=by
 have hcon:=Tryz.cmp_calls
 have hor:=Tryz.or_calls
 go_enter Tryz.func66,Tryz.ntmps66
 go_wp2
 go_region_held3 (fun w'=>w'.cell? ⟨W.heap.size,2,none⟩=some (.int .i64 x3)/\w'.cell? ⟨W.heap.size+1,2,none⟩=some (.int .i64 y3)/\w'.cell? ⟨W.heap.size,0,none⟩=some (.int .i64 x1)/\w'.cell? ⟨W.heap.size+1,0,none⟩=some (.int .i64 y1)/\w'.cell? ⟨W.heap.size,1,none⟩=some (.int .i64 x2)/\w'.cell? ⟨W.heap.size+1,1,none⟩=some (.int .i64 y2)) (go_keep) (first | (go_at_call 106; refine (hcon _ _ _).mono ?_; rintro e w' ⟨rfl,rfl⟩) | (go_at_call 105; refine (hor _ _ _ _ _ (Tryz.cell3 _ _ _ _ _ _ _).1.1 (Tryz.cell3 _ _ _ _ _ _ _).1.2 (Tryz.cell3 _ _ _ _ _ _ _).2).mono ?_; rintro e w' ⟨rfl,rfl⟩))
 all_goals go_wp2
 all_goals go_ret
 all_goals exact ⟨rfl,1,_,Tryz.grow3 _ _ _ _⟩
end Go.Proofs
