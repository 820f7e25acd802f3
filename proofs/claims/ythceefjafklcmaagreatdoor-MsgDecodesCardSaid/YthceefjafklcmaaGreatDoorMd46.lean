/-
  Contracts of the functions that the law reaches: conciliatorref19.Sound by kinds.
-/
import Derived.Test.YthceefjafklcmaaGreatDoorMd42
namespace Go.Proofs.YthceefjafklcmaaGreatDoor
open Go.RowKit
set_option maxHeartbeats 8000000 in
set_option maxRecDepth 100000 in
theorem refSnd_1 (w:World) (c:MC) (ek:c.k=1) {fs sm:Bool} (HF:Hid (Behind w 30 #[.slice c.fa c.fl c.fc] (.bool fs))) (HSM:Hid (Behind w 7 #[.agg (mcells c).toArray, .agg (mcells (⟨1,c.doc,c.n,ezero,0,0,0,false,vzero,c.fa,c.fl,c.fc⟩:MC)).toArray] (.bool sm))):
    Calls Tryz.prog 16 #[.agg (mcells c).toArray] w fun e w'=>e= .returned (.bool (rsnd c.doc c.n (decide (-1≤c.n) && fs) sm))∧Below w.heap.size w w':=by
  obtain ⟨R,hR⟩:∃R,rsnd c.doc c.n (decide (-1≤c.n) && fs) sm=R:=⟨_,rfl⟩
  rw [hR]
  rw [rsnd] at hR
  have HR:=Lib.hid hR
  clear hR
  have z0:=(BC.start w (mcells c).toArray 36).at_ 0 _ rfl
  have z1:=(BC.start w (mcells c).toArray 36).at_ 1 _ rfl
  have z2:=(BC.start w (mcells c).toArray 36).at_ 2 _ rfl
  rw [ek] at z0
  cases fs
  all_goals
    go_enter Tryz.func16,Tryz.ntmps16
    go_wp2_with (first|(refine wp_makeM rfl _ _ rfl ?_;refine ⟨w,_,_,_,_,mcells (⟨1,c.doc,0,ezero,0,0,0,false,vzero,none,0,0⟩:MC),rfl,rfl,rfl,rfl,rfl,rfl, ?_⟩;intro W2 bx bxx hB;clear z0 z1 z2;have y0:=bx.at_ 0 _ rfl;have y1:=bx.at_ 1 _ rfl;have y2:=bx.at_ 2 _ rfl;have y21:=bx.at_ 21 _ rfl;rw [ek] at y0;have x2:=bxx.at_ 2 _ rfl;have x21:=bxx.at_ 21 _ rfl;have g2:=bxx.fr 2;have g21:=bxx.fr 21)|(go_at_call 30;(with_reducible refine (Behind.at_ HF.out ((hB.setCell (by simp) _).setCell (by simp) _)).mono ?_);rintro e w4 ⟨rfl,hb4⟩;replace hB:=Below.on ((hB.setCell (by simp) _).setCell (by simp) _) hb4 (Below.size ((hB.setCell (by simp) _).setCell (by simp) _));replace bxx:=BC.keep ((bxx.set (i:=2) (x:= .int .i64 c.n) (by simp [mcells])).set (i:=21) (x:= .slice c.fa c.fl c.fc) (by simp [mcells])) hb4 (BC.lt ((bxx.set (i:=2) (x:= .int .i64 c.n) (by simp [mcells])).set (i:=21) (x:= .slice c.fa c.fl c.fc) (by simp [mcells])));replace bx:=BC.keep ((bx.far (by omega)).far (by omega)) hb4 (BC.lt ((bx.far (by omega)).far (by omega))))|(refine wp_loadG _ rfl rfl ?_;first|(refine ⟨w.heap.size,mcells c,rfl,rfl,(by first|exact bx|exact ((bx.far (by omega)).far (by omega))), ?_⟩)|(refine ⟨w.heap.size+1,mcells (⟨1,c.doc,c.n,ezero,0,0,0,false,vzero,c.fa,c.fl,c.fc⟩:MC),rfl,rfl,(by first|exact bxx|exact ((bxx.set (i:=2) (x:= .int .i64 c.n) (by simp [mcells])).set (i:=21) (x:= .slice c.fa c.fl c.fc) (by simp [mcells]))), ?_⟩))|(go_at_call 7;(with_reducible refine (Behind.at_ HSM.out (by first|exact hB|exact ((hB.setCell (by simp) _).setCell (by simp) _))).mono ?_);rintro e w6 ⟨rfl,hb6⟩;replace hB:Below w.heap.size w w6:=by first|exact hB.on hb6 hB.size|exact Below.on ((hB.setCell (by simp) _).setCell (by simp) _) hb6 (Below.size ((hB.setCell (by simp) _).setCell (by simp) _))))
    all_goals
      go_ret
      exact ⟨ret_bool (by rw [←HR.out];first|(simp;done)|(simp;omega)|(simp;intros;omega)|(cases sm<;>simp<;>omega)),by first|exact hB|exact ((hB.setCell (by simp) _).setCell (by simp) _)|exact (Below.refl _ _).alloc (Nat.le_refl _) _⟩
set_option maxHeartbeats 8000000 in
set_option maxRecDepth 100000 in
theorem refSnd_2 (w:World) (c:MC) (ek:c.k=2) {sm:Bool} (HSM:Hid (Behind w 7 #[.agg (mcells c).toArray, .agg (mcells (⟨2,c.doc,0,ezero,0,0,0,false,vzero,none,0,0⟩:MC)).toArray] (.bool sm))):
    Calls Tryz.prog 16 #[.agg (mcells c).toArray] w fun e w'=>e= .returned (.bool (rsnd c.doc c.n true sm))∧Below w.heap.size w w':=by
  obtain ⟨R,hR⟩:∃R,rsnd c.doc c.n true sm=R:=⟨_,rfl⟩
  rw [hR]
  rw [rsnd] at hR
  have HR:=Lib.hid hR
  clear hR
  have z0:=(BC.start w (mcells c).toArray 36).at_ 0 _ rfl
  have z1:=(BC.start w (mcells c).toArray 36).at_ 1 _ rfl
  have z2:=(BC.start w (mcells c).toArray 36).at_ 2 _ rfl
  rw [ek] at z0
  go_enter Tryz.func16,Tryz.ntmps16
  go_wp2_with (first|(refine wp_makeM rfl _ _ rfl ?_;refine ⟨w,_,_,_,_,mcells (⟨2,c.doc,0,ezero,0,0,0,false,vzero,none,0,0⟩:MC),rfl,rfl,rfl,rfl,rfl,rfl, ?_⟩;intro W2 bx bxx hB;clear z0 z1 z2;have y0:=bx.at_ 0 _ rfl;have y1:=bx.at_ 1 _ rfl;have y2:=bx.at_ 2 _ rfl;rw [ek] at y0)|(refine wp_loadG _ rfl rfl ?_;first|(refine ⟨w.heap.size,mcells c,rfl,rfl,(by first|exact bx|exact bx), ?_⟩)|(refine ⟨w.heap.size+1,mcells (⟨2,c.doc,0,ezero,0,0,0,false,vzero,none,0,0⟩:MC),rfl,rfl,(by first|exact bxx|exact bxx), ?_⟩))|(go_at_call 7;(with_reducible refine (Behind.at_ HSM.out (by first|exact hB|exact hB)).mono ?_);rintro e w6 ⟨rfl,hb6⟩;replace hB:Below w.heap.size w w6:=by first|exact hB.on hb6 hB.size|exact Below.on hB hb6 (Below.size hB)))
  all_goals
    go_ret
    exact ⟨ret_bool (by rw [←HR.out];first|(simp;done)|(simp;omega)|(simp;intros;omega)|(cases sm<;>simp<;>omega)),by first|exact hB|exact hB|exact (Below.refl _ _).alloc (Nat.le_refl _) _⟩
set_option maxHeartbeats 8000000 in
set_option maxRecDepth 100000 in
theorem refSnd_3 (w:World) (c:MC) (ek:c.k=3) {sd sm:Bool} (HE:Hid (Behind w 31 #[.agg #[.int .u8 c.e.k, .int .u32 c.e.src, .int .u32 c.e.seq, .int .u8 c.e.v.k, .int .i64 c.e.v.n, .string c.e.v.s, .slice c.e.v.la c.e.v.ll c.e.v.lc, .slice c.e.v.oa c.e.v.ol c.e.v.oc, .slice c.e.oa c.e.ol c.e.oc]] (.bool sd))) (HSM:Hid (Behind w 7 #[.agg (mcells c).toArray, .agg (mcells (⟨3,c.doc,c.n,c.e,0,0,0,false,vzero,none,0,0⟩:MC)).toArray] (.bool sm))):
    Calls Tryz.prog 16 #[.agg (mcells c).toArray] w fun e w'=>e= .returned (.bool (rsnd c.doc c.n (decide (0≤c.n) && sd) sm))∧Below w.heap.size w w':=by
  obtain ⟨R,hR⟩:∃R,rsnd c.doc c.n (decide (0≤c.n) && sd) sm=R:=⟨_,rfl⟩
  rw [hR]
  rw [rsnd] at hR
  have HR:=Lib.hid hR
  clear hR
  have z0:=(BC.start w (mcells c).toArray 36).at_ 0 _ rfl
  have z1:=(BC.start w (mcells c).toArray 36).at_ 1 _ rfl
  have z2:=(BC.start w (mcells c).toArray 36).at_ 2 _ rfl
  rw [ek] at z0
  cases sd
  all_goals
    go_enter Tryz.func16,Tryz.ntmps16
    go_wp2_with (first|(refine wp_makeM rfl _ _ rfl ?_;refine ⟨w,_,_,_,_,mcells (⟨3,c.doc,0,ezero,0,0,0,false,vzero,none,0,0⟩:MC),rfl,rfl,rfl,rfl,rfl,rfl, ?_⟩;intro W2 bx bxx hB;clear z0 z1 z2;have y0:=bx.at_ 0 _ rfl;have y1:=bx.at_ 1 _ rfl;have y2:=bx.at_ 2 _ rfl;have y3:=bx.at_ 3 _ rfl;have y4:=bx.at_ 4 _ rfl;have y5:=bx.at_ 5 _ rfl;have y6:=bx.at_ 6 _ rfl;have y7:=bx.at_ 7 _ rfl;have y8:=bx.at_ 8 _ rfl;have y9:=bx.at_ 9 _ rfl;have y10:=bx.at_ 10 _ rfl;have y11:=bx.at_ 11 _ rfl;rw [ek] at y0;have x2:=bxx.at_ 2 _ rfl;have g2:=bxx.fr 2)|(refine wp_storeE rfl _ _ rfl ?_;refine ⟨w.heap.size+1,(⟨3,c.doc,c.n,ezero,0,0,0,false,vzero,none,0,0⟩:MC),c.e,rfl,rfl,(bxx.set (i:=2) (x:= .int .i64 c.n) (by simp [mcells])), ?_⟩;intro bxe;have bx3:=bc_far (b:=w.heap.size) (b':=w.heap.size+1) (cs:=mcells c) (by omega) [.int .u8 c.e.k, .int .u32 c.e.src, .int .u32 c.e.seq, .int .u8 c.e.v.k, .int .i64 c.e.v.n, .string c.e.v.s, .slice c.e.v.la c.e.v.ll c.e.v.lc, .slice c.e.v.oa c.e.v.ol c.e.v.oc, .slice c.e.oa c.e.ol c.e.oc] 3 (W2.setCell ⟨w.heap.size+1,2,none⟩ (.int .i64 c.n)) (bx.far (by omega));have hB3:=below_setCells (B:=w.heap.size) (b:=w.heap.size+1) (by simp) [.int .u8 c.e.k, .int .u32 c.e.src, .int .u32 c.e.seq, .int .u8 c.e.v.k, .int .i64 c.e.v.n, .string c.e.v.s, .slice c.e.v.la c.e.v.ll c.e.v.lc, .slice c.e.v.oa c.e.v.ol c.e.v.oc, .slice c.e.oa c.e.ol c.e.oc] 3 w (W2.setCell ⟨w.heap.size+1,2,none⟩ (.int .i64 c.n)) (hB.setCell (by simp) _);clear bx bxx hB y0 y1 y2 y3 y4 y5 y6 y7 y8 y9 y10 y11 x2 g2;generalize (World.setCells (W2.setCell ⟨w.heap.size+1,2,none⟩ (.int .i64 c.n)) (w.heap.size+1) 3 [.int .u8 c.e.k, .int .u32 c.e.src, .int .u32 c.e.seq, .int .u8 c.e.v.k, .int .i64 c.e.v.n, .string c.e.v.s, .slice c.e.v.la c.e.v.ll c.e.v.lc, .slice c.e.v.oa c.e.v.ol c.e.v.oc, .slice c.e.oa c.e.ol c.e.oc])=W3 at bxe bx3 hB3 ⊢;have bx:=bx3;have bxx:=bxe;have hB:=hB3;clear bx3 bxe hB3;have y2:=bx.at_ 2 _ rfl;have y3:=bx.at_ 3 _ rfl;have y4:=bx.at_ 4 _ rfl;have y5:=bx.at_ 5 _ rfl;have y6:=bx.at_ 6 _ rfl;have y7:=bx.at_ 7 _ rfl;have y8:=bx.at_ 8 _ rfl;have y9:=bx.at_ 9 _ rfl;have y10:=bx.at_ 10 _ rfl;have y11:=bx.at_ 11 _ rfl)|(go_at_call 31;(with_reducible refine (Behind.at_ HE.out hB).mono ?_);rintro e w4 ⟨rfl,hb4⟩;replace hB:=Below.on hB hb4 (Below.size hB);replace bxx:=BC.keep bxx hb4 (BC.lt bxx);replace bx:=BC.keep bx hb4 (BC.lt bx))|(refine wp_loadG _ rfl rfl ?_;first|(refine ⟨w.heap.size,mcells c,rfl,rfl,(by first|exact bx|exact bx), ?_⟩)|(refine ⟨w.heap.size+1,mcells (⟨3,c.doc,c.n,c.e,0,0,0,false,vzero,none,0,0⟩:MC),rfl,rfl,(by first|exact bxx|exact bxx), ?_⟩))|(go_at_call 7;(with_reducible refine (Behind.at_ HSM.out (by first|exact hB|exact hB)).mono ?_);rintro e w6 ⟨rfl,hb6⟩;replace hB:Below w.heap.size w w6:=by first|exact hB.on hb6 hB.size|exact Below.on hB hb6 (Below.size hB)))
    all_goals
      go_ret
      exact ⟨ret_bool (by rw [←HR.out];first|(simp;done)|(simp;omega)|(simp;intros;omega)|(cases sm<;>simp<;>omega)),by first|exact hB|exact hB|exact (Below.refl _ _).alloc (Nat.le_refl _) _⟩
end Go.Proofs.YthceefjafklcmaaGreatDoor
