/-
  Contracts of the functions that the law reaches: conciliatorref19.Sound by kinds.
-/
import Derived.Test.YthceefjafklcmaaGreatDoorMd42
namespace Go.Proofs.YthceefjafklcmaaGreatDoor
open Go.RowKit
set_option maxHeartbeats 8000000 in
set_option maxRecDepth 100000 in
theorem refSnd_4t (w:World) (c:MC) (ek:c.k=4) {sm:Bool} (hth:c.there=true) (HSM:Hid (Behind w 7 #[.agg (mcells c).toArray, .agg (mcells (⟨4,c.doc,c.n,ezero,0,0,0,true,c.v,none,0,0⟩:MC)).toArray] (.bool sm))):
    Calls Tryz.prog 16 #[.agg (mcells c).toArray] w fun e w'=>e= .returned (.bool (rsnd c.doc c.n (decide (0≤c.n)) sm))∧Below w.heap.size w w':=by
  obtain ⟨R,hR⟩:∃R,rsnd c.doc c.n (decide (0≤c.n)) sm=R:=⟨_,rfl⟩
  rw [hR]
  rw [rsnd] at hR
  have HR:=Lib.hid hR
  clear hR
  have z0:=(BC.start w (mcells c).toArray 36).at_ 0 _ rfl
  have z1:=(BC.start w (mcells c).toArray 36).at_ 1 _ rfl
  have z2:=(BC.start w (mcells c).toArray 36).at_ 2 _ rfl
  rw [ek] at z0
  by_cases h0:0≤c.n
  all_goals
    go_enter Tryz.func16,Tryz.ntmps16
    go_wp2_with (first|(refine wp_makeM rfl _ _ rfl ?_;refine ⟨w,_,_,_,_,mcells (⟨4,c.doc,0,ezero,0,0,0,false,vzero,none,0,0⟩:MC),rfl,rfl,rfl,rfl,rfl,rfl, ?_⟩;intro W2 bx bxx hB;clear z0 z1 z2;have y0:=bx.at_ 0 _ rfl;have y1:=bx.at_ 1 _ rfl;have y2:=bx.at_ 2 _ rfl;have y15:=bx.at_ 15 _ rfl;have y16:=bx.at_ 16 _ rfl;have y17:=bx.at_ 17 _ rfl;have y18:=bx.at_ 18 _ rfl;have y19:=bx.at_ 19 _ rfl;have y20:=bx.at_ 20 _ rfl;rw [ek] at y0;rw [hth] at y15;have x2:=bxx.at_ 2 _ rfl;have x15:=bxx.at_ 15 _ rfl;have g2:=bxx.fr 2;have g15:=bxx.fr 15)|(refine wp_storeV rfl _ _ rfl ?_;refine ⟨w.heap.size+1,(⟨4,c.doc,c.n,ezero,0,0,0,true,vzero,none,0,0⟩:MC),c.v,rfl,rfl,((bxx.set (i:=2) (x:= .int .i64 c.n) (by simp [mcells])).set (i:=15) (x:= .bool true) (by simp [mcells])), ?_⟩;intro bxe;have bx3:=bc_far (b:=w.heap.size) (b':=w.heap.size+1) (cs:=mcells c) (by omega) [.int .u8 c.v.k, .int .i64 c.v.n, .string c.v.s, .slice c.v.la c.v.ll c.v.lc, .slice c.v.oa c.v.ol c.v.oc] 16 ((W2.setCell ⟨w.heap.size+1,2,none⟩ (.int .i64 c.n)).setCell ⟨w.heap.size+1,15,none⟩ (.bool true)) ((bx.far (by omega)).far (by omega));have hB3:=below_setCells (B:=w.heap.size) (b:=w.heap.size+1) (by simp) [.int .u8 c.v.k, .int .i64 c.v.n, .string c.v.s, .slice c.v.la c.v.ll c.v.lc, .slice c.v.oa c.v.ol c.v.oc] 16 w ((W2.setCell ⟨w.heap.size+1,2,none⟩ (.int .i64 c.n)).setCell ⟨w.heap.size+1,15,none⟩ (.bool true)) ((hB.setCell (by simp) _).setCell (by simp) _);clear bx bxx hB y0 y1 y2 y15 y16 y17 y18 y19 y20 x2 g2 x15 g15;generalize (World.setCells ((W2.setCell ⟨w.heap.size+1,2,none⟩ (.int .i64 c.n)).setCell ⟨w.heap.size+1,15,none⟩ (.bool true)) (w.heap.size+1) 16 [.int .u8 c.v.k, .int .i64 c.v.n, .string c.v.s, .slice c.v.la c.v.ll c.v.lc, .slice c.v.oa c.v.ol c.v.oc])=W3 at bxe bx3 hB3 ⊢;have bx:=bx3;have bxx:=bxe;have hB:=hB3;clear bx3 bxe hB3)|(refine wp_loadG _ rfl rfl ?_;first|(refine ⟨w.heap.size,mcells c,rfl,rfl,(by first|exact bx|exact bx), ?_⟩)|(refine ⟨w.heap.size+1,mcells (⟨4,c.doc,c.n,ezero,0,0,0,true,c.v,none,0,0⟩:MC),rfl,rfl,(by first|exact bxx|exact bxx), ?_⟩))|(go_at_call 7;(with_reducible refine (Behind.at_ HSM.out (by first|exact hB|exact hB)).mono ?_);rintro e w6 ⟨rfl,hb6⟩;replace hB:Below w.heap.size w w6:=by first|exact hB.on hb6 hB.size|exact Below.on hB hb6 (Below.size hB)))
    all_goals
      go_ret
      exact ⟨ret_bool (by rw [←HR.out];first|(simp;done)|(simp;omega)|(simp;intros;omega)|(cases sm<;>simp<;>omega)),by first|exact hB|exact hB|exact (Below.refl _ _).alloc (Nat.le_refl _) _⟩
set_option maxHeartbeats 8000000 in
set_option maxRecDepth 100000 in
theorem refSnd_4f (w:World) (c:MC) (ek:c.k=4) {sm:Bool} (hth:c.there=false) (HSM:Hid (Behind w 7 #[.agg (mcells c).toArray, .agg (mcells (⟨4,c.doc,c.n,ezero,0,0,0,false,vzero,none,0,0⟩:MC)).toArray] (.bool sm))):
    Calls Tryz.prog 16 #[.agg (mcells c).toArray] w fun e w'=>e= .returned (.bool (rsnd c.doc c.n (decide (0≤c.n)) sm))∧Below w.heap.size w w':=by
  obtain ⟨R,hR⟩:∃R,rsnd c.doc c.n (decide (0≤c.n)) sm=R:=⟨_,rfl⟩
  rw [hR]
  rw [rsnd] at hR
  have HR:=Lib.hid hR
  clear hR
  have z0:=(BC.start w (mcells c).toArray 36).at_ 0 _ rfl
  have z1:=(BC.start w (mcells c).toArray 36).at_ 1 _ rfl
  have z2:=(BC.start w (mcells c).toArray 36).at_ 2 _ rfl
  rw [ek] at z0
  by_cases h0:0≤c.n
  all_goals
    go_enter Tryz.func16,Tryz.ntmps16
    go_wp2_with (first|(refine wp_makeM rfl _ _ rfl ?_;refine ⟨w,_,_,_,_,mcells (⟨4,c.doc,0,ezero,0,0,0,false,vzero,none,0,0⟩:MC),rfl,rfl,rfl,rfl,rfl,rfl, ?_⟩;intro W2 bx bxx hB;clear z0 z1 z2;have y0:=bx.at_ 0 _ rfl;have y1:=bx.at_ 1 _ rfl;have y2:=bx.at_ 2 _ rfl;have y15:=bx.at_ 15 _ rfl;rw [ek] at y0;rw [hth] at y15;have x2:=bxx.at_ 2 _ rfl;have x15:=bxx.at_ 15 _ rfl;have g2:=bxx.fr 2;have g15:=bxx.fr 15)|(refine wp_loadG _ rfl rfl ?_;first|(refine ⟨w.heap.size,mcells c,rfl,rfl,(by first|exact bx|exact ((bx.far (by omega)).far (by omega))), ?_⟩)|(refine ⟨w.heap.size+1,mcells (⟨4,c.doc,c.n,ezero,0,0,0,false,vzero,none,0,0⟩:MC),rfl,rfl,(by first|exact bxx|exact ((bxx.set (i:=2) (x:= .int .i64 c.n) (by simp [mcells])).set (i:=15) (x:= .bool false) (by simp [mcells]))), ?_⟩))|(go_at_call 7;(with_reducible refine (Behind.at_ HSM.out (by first|exact hB|exact ((hB.setCell (by simp) _).setCell (by simp) _))).mono ?_);rintro e w6 ⟨rfl,hb6⟩;replace hB:Below w.heap.size w w6:=by first|exact hB.on hb6 hB.size|exact Below.on ((hB.setCell (by simp) _).setCell (by simp) _) hb6 (Below.size ((hB.setCell (by simp) _).setCell (by simp) _))))
    all_goals
      go_ret
      exact ⟨ret_bool (by rw [←HR.out];first|(simp;done)|(simp;omega)|(simp;intros;omega)|(cases sm<;>simp<;>omega)),by first|exact hB|exact ((hB.setCell (by simp) _).setCell (by simp) _)|exact (Below.refl _ _).alloc (Nat.le_refl _) _⟩
end Go.Proofs.YthceefjafklcmaaGreatDoor
