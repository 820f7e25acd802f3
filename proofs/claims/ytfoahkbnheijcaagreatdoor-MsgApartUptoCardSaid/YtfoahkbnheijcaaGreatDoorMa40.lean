/-
  Contracts of the functions that the law reaches: msg.Sound by kinds: 4, 5, 6 and others..
-/
import Derived.Test.YtfoahkbnheijcaaGreatDoorMa39
namespace Go.Proofs.YtfoahkbnheijcaaGreatDoor
open Go.RowKit
set_option maxHeartbeats 8000000
set_option maxRecDepth 100000 in
theorem znn (w:World) (c:MC) (ek:c.k=4) {nn sd vn fs sm:Bool} (H:MsH w c nn sd vn fs) (HSM:Hid (Behind w 86 #[.agg (mcells c).toArray, .agg ([.int .u8 4, .string c.doc, .int .i64 c.n, .int .u8 0, .int .u32 0, .int .u32 0, .int .u8 0, .int .i64 0, .string { data:= #[] }, .slice none 0 0, .slice none 0 0, .slice none 0 0, .int .u32 0, .int .u32 0, .int .u16 0, .bool c.there, .int .u8 0, .int .i64 0, .string { data:= #[] }, .slice none 0 0, .slice none 0 0, .slice none 0 0] :List Value).toArray] (.bool sm))):
 Calls Tryz.prog 42 #[.agg (mcells c).toArray] w fun e w'=>e= .returned (.bool (sndM c.doc c.n 0 5000 sm false nn sd c.there vn false fs))/\Below w.heap.size w w':=by
 obtain ⟨HN,HS,HV,HF⟩:=H
 obtain ⟨R,hR⟩:∃R,sndM c.doc c.n 0 5000 sm false nn sd c.there vn false fs=R:=⟨_,rfl⟩
 rw [hR]
 rw [sndM] at hR
 obtain ⟨bd,hbd⟩:∃b,(c.doc.toList== [])=b:=⟨_,rfl⟩
 rw [hbd] at hR
 have HR:=qh hR
 clear hR
 have z0:=(BC.start w (mcells c).toArray 46).at_ 0 _ rfl
 have z1:=(BC.start w (mcells c).toArray 46).at_ 1 _ rfl
 rw [ek] at z0
 rcases bcF bd (bcT sm trivial) with rfl|⟨rfl,(rfl|⟨rfl,_⟩)⟩
 all_goals
  go_enter Tryz.func42,Tryz.ntmps42
  go_wp2_with (first|(refine Xm rfl _ _ rfl ?_;refine ⟨w,_,_,_,_, [.int .u8 4, .string c.doc, .int .i64 0, .int .u8 0, .int .u32 0, .int .u32 0, .int .u8 0, .int .i64 0, .string { data:= #[] }, .slice none 0 0, .slice none 0 0, .slice none 0 0, .int .u32 0, .int .u32 0, .int .u16 0, .bool false, .int .u8 0, .int .i64 0, .string { data:= #[] }, .slice none 0 0, .slice none 0 0, .slice none 0 0],rfl,rfl,rfl,rfl,rfl,rfl, ?_⟩;intro W2 bx bxx hB;clear z0 z1;have y0:=bx.at_ 0 _ rfl;have y1:=bx.at_ 1 _ rfl;have y2:=bx.at_ 2 _ rfl;have y15:=bx.at_ 15 _ rfl;rw [ek] at y0;have x15:=bxx.at_ 15 _ rfl;have x2:=bxx.at_ 2 _ rfl;have g15:=bxx.fr 15;have g2:=bxx.fr 2)|(refine Zp rfl _ rfl ?_;first|(refine ⟨w.heap.size,mcells c,rfl,rfl,((bx.far (by omega)).far (by omega)), ?_⟩)|(refine ⟨w.heap.size+1, [.int .u8 4, .string c.doc, .int .i64 c.n, .int .u8 0, .int .u32 0, .int .u32 0, .int .u8 0, .int .i64 0, .string { data:= #[] }, .slice none 0 0, .slice none 0 0, .slice none 0 0, .int .u32 0, .int .u32 0, .int .u16 0, .bool c.there, .int .u8 0, .int .i64 0, .string { data:= #[] }, .slice none 0 0, .slice none 0 0, .slice none 0 0],rfl,rfl,((bxx.set (i:=15) (x:= .bool c.there) (by simp)).set (i:=2) (x:= .int .i64 c.n) (by simp)), ?_⟩))|(go_at_call 44;refine (Y3 4 _).mono ?_;rintro e w0 ⟨rfl,rfl⟩)|(go_at_call 86;(with_reducible refine (Behind.at_ HSM.out ((hB.setCell (by simp) _).setCell (by simp) _)).mono ?_);rintro e w1 ⟨rfl,hb1⟩))
 all_goals first
  |(go_ret;exact ⟨Zb (by rw [<-HR.out];first|(simp;done)|(simp;omega)|(simp;intros;omega)),by first|exact ((hB.setCell (by simp) _).setCell (by simp) _)|exact Below.on ((hB.setCell (by simp) _).setCell (by simp) _) hb1 (Below.size ((hB.setCell (by simp) _).setCell (by simp) _))⟩)
  |skip
 have HT:Hid (R=((if false then !nn && sd else nn) && ((c.there||vn) && (!false && fs)))):=by
  show _=_
  rw [<-HR.out,show decide (c.doc.size<=20)=true by simp;omega,show decide (0<=c.n)=true by simp;omega,show decide (c.n<=5000)=true by simp;omega];rfl
 replace hB:=Below.on ((hB.setCell (by simp) _).setCell (by simp) _) hb1 (Below.size ((hB.setCell (by simp) _).setCell (by simp) _))
 replace bx:=BC.keep ((bx.far (by omega)).far (by omega)) hb1 (BC.lt ((bx.far (by omega)).far (by omega)))
 clear HR hb1 hbd HSM bxx
 obtain ⟨th,hth⟩:∃b,c.there=b:=⟨_,rfl⟩
 rw [hth] at HT
 have HE:Hid (c.k=4):=ek
 have q0:=bx.at_ 0 _ rfl;have q3:=bx.at_ 3 _ rfl;have q4:=bx.at_ 4 _ rfl;have q5:=bx.at_ 5 _ rfl;have q6:=bx.at_ 6 _ rfl;have q7:=bx.at_ 7 _ rfl;have q8:=bx.at_ 8 _ rfl;have q9:=bx.at_ 9 _ rfl;have q10:=bx.at_ 10 _ rfl;have q11:=bx.at_ 11 _ rfl;rw [ek] at q0
 have r0:=Za q0;have r3:=Za q3;have r4:=Za q4;have r5:=Za q5;have r6:=Za q6;have r7:=Za q7;have r8:=Za q8;have r9:=Za q9;have r10:=Za q10;have r11:=Za q11
 rcases bcT nn (bcO th vn trivial) with rfl|⟨rfl,(⟨rfl,rfl⟩|⟨(rfl|⟨rfl,rfl⟩),_⟩)⟩
 all_goals
  refine Zh (by kernel_rfl) (by kernel_rfl) ?_
  repeat (go_big_quiet_step (first|(go_at_call 87;exact Zg (Yd 4 rfl _))|(go_at_call 88;exact Zg (HN.out _ (hB.on (Ze _ _) hB.size)))))
  refine wpQuiet_nil ?_
  intro _ hw'
  obtain ⟨pq,hw''⟩:=hw'
  subst hw''
  replace bx:=bx.keep (Ze w1 pq) bx.lt
  replace hB:=hB.on (Ze w1 pq) hB.size
  clear q0 q3 q4 q5 q6 q7 q8 q9 q10 q11 r0 r3 r4 r5 r6 r7 r8 r9 r10 r11
  have y0:=bx.at_ 0 _ rfl;have y3:=bx.at_ 3 _ rfl;have y4:=bx.at_ 4 _ rfl;have y5:=bx.at_ 5 _ rfl;have y6:=bx.at_ 6 _ rfl;have y7:=bx.at_ 7 _ rfl;have y8:=bx.at_ 8 _ rfl;have y9:=bx.at_ 9 _ rfl;have y10:=bx.at_ 10 _ rfl;have y11:=bx.at_ 11 _ rfl;have y14:=bx.at_ 14 _ rfl;have y15:=bx.at_ 15 _ rfl;have y16:=bx.at_ 16 _ rfl;have y17:=bx.at_ 17 _ rfl;have y18:=bx.at_ 18 _ rfl;have y19:=bx.at_ 19 _ rfl;have y20:=bx.at_ 20 _ rfl;have y21:=bx.at_ 21 _ rfl;rw [ek] at y0
  rw [hth] at y15
  go_wp2_with (first|(go_at_call 87;(with_reducible refine (Yd 4 rfl _).mono ?_);rintro e w2 ⟨rfl,hb2⟩;replace bx:=bx.keep hb2 bx.lt;replace hB:=hB.on hb2 hB.size;have y0:=bx.at_ 0 _ rfl;have y3:=bx.at_ 3 _ rfl;have y4:=bx.at_ 4 _ rfl;have y5:=bx.at_ 5 _ rfl;have y6:=bx.at_ 6 _ rfl;have y7:=bx.at_ 7 _ rfl;have y8:=bx.at_ 8 _ rfl;have y9:=bx.at_ 9 _ rfl;have y10:=bx.at_ 10 _ rfl;have y11:=bx.at_ 11 _ rfl;have y14:=bx.at_ 14 _ rfl;have y15:=bx.at_ 15 _ rfl;have y16:=bx.at_ 16 _ rfl;have y17:=bx.at_ 17 _ rfl;have y18:=bx.at_ 18 _ rfl;have y19:=bx.at_ 19 _ rfl;have y20:=bx.at_ 20 _ rfl;have y21:=bx.at_ 21 _ rfl;rw [ek] at y0;rw [hth] at y15)|(go_at_call 89;(with_reducible refine (Behind.at_ HS.out hB).mono ?_);rintro e w3 ⟨rfl,hb3⟩;replace bx:=bx.keep hb3 bx.lt;replace hB:=hB.on hb3 hB.size;have y0:=bx.at_ 0 _ rfl;have y3:=bx.at_ 3 _ rfl;have y4:=bx.at_ 4 _ rfl;have y5:=bx.at_ 5 _ rfl;have y6:=bx.at_ 6 _ rfl;have y7:=bx.at_ 7 _ rfl;have y8:=bx.at_ 8 _ rfl;have y9:=bx.at_ 9 _ rfl;have y10:=bx.at_ 10 _ rfl;have y11:=bx.at_ 11 _ rfl;have y14:=bx.at_ 14 _ rfl;have y15:=bx.at_ 15 _ rfl;have y16:=bx.at_ 16 _ rfl;have y17:=bx.at_ 17 _ rfl;have y18:=bx.at_ 18 _ rfl;have y19:=bx.at_ 19 _ rfl;have y20:=bx.at_ 20 _ rfl;have y21:=bx.at_ 21 _ rfl;rw [ek] at y0;rw [hth] at y15)|(go_at_call 90;(with_reducible refine (Behind.at_ HV.out hB).mono ?_);rintro e w4 ⟨rfl,hb4⟩;replace bx:=bx.keep hb4 bx.lt;replace hB:=hB.on hb4 hB.size;have y0:=bx.at_ 0 _ rfl;have y3:=bx.at_ 3 _ rfl;have y4:=bx.at_ 4 _ rfl;have y5:=bx.at_ 5 _ rfl;have y6:=bx.at_ 6 _ rfl;have y7:=bx.at_ 7 _ rfl;have y8:=bx.at_ 8 _ rfl;have y9:=bx.at_ 9 _ rfl;have y10:=bx.at_ 10 _ rfl;have y11:=bx.at_ 11 _ rfl;have y14:=bx.at_ 14 _ rfl;have y15:=bx.at_ 15 _ rfl;have y16:=bx.at_ 16 _ rfl;have y17:=bx.at_ 17 _ rfl;have y18:=bx.at_ 18 _ rfl;have y19:=bx.at_ 19 _ rfl;have y20:=bx.at_ 20 _ rfl;have y21:=bx.at_ 21 _ rfl;rw [ek] at y0;rw [hth] at y15)|(go_at_call 91;(with_reducible refine (Behind.at_ HF.out hB).mono ?_);rintro e w5 ⟨rfl,hb5⟩;replace hB:=hB.on hb5 hB.size))
  go_ret
  exact ⟨Zb (by rw [HT.out];simp),hB⟩
set_option maxRecDepth 100000 in
theorem zn7 (w:World) (c:MC) (ek:c.k=5) {nn sd vn fs sm:Bool} (H:MsH w c nn sd vn fs) (HSM:Hid (Behind w 86 #[.agg (mcells c).toArray, .agg ([.int .u8 5, .string c.doc, .int .i64 c.n, .int .u8 0, .int .u32 0, .int .u32 0, .int .u8 0, .int .i64 0, .string { data:= #[] }, .slice none 0 0, .slice none 0 0, .slice none 0 0, .int .u32 0, .int .u32 0, .int .u16 0, .bool false, .int .u8 0, .int .i64 0, .string { data:= #[] }, .slice none 0 0, .slice none 0 0, .slice none 0 0] :List Value).toArray] (.bool sm))):
 Calls Tryz.prog 42 #[.agg (mcells c).toArray] w fun e w'=>e= .returned (.bool (sndM c.doc c.n 0 4999 sm true nn sd c.there vn false fs))/\Below w.heap.size w w':=by
 obtain ⟨HN,HS,HV,HF⟩:=H
 obtain ⟨R,hR⟩:∃R,sndM c.doc c.n 0 4999 sm true nn sd c.there vn false fs=R:=⟨_,rfl⟩
 rw [hR]
 rw [sndM] at hR
 obtain ⟨bd,hbd⟩:∃b,(c.doc.toList== [])=b:=⟨_,rfl⟩
 rw [hbd] at hR
 have HR:=qh hR
 clear hR
 have z0:=(BC.start w (mcells c).toArray 46).at_ 0 _ rfl
 have z1:=(BC.start w (mcells c).toArray 46).at_ 1 _ rfl
 rw [ek] at z0
 rcases bcF bd (bcT sm trivial) with rfl|⟨rfl,(rfl|⟨rfl,_⟩)⟩
 all_goals
  go_enter Tryz.func42,Tryz.ntmps42
  go_wp2_with (first|(refine Xm rfl _ _ rfl ?_;refine ⟨w,_,_,_,_, [.int .u8 5, .string c.doc, .int .i64 0, .int .u8 0, .int .u32 0, .int .u32 0, .int .u8 0, .int .i64 0, .string { data:= #[] }, .slice none 0 0, .slice none 0 0, .slice none 0 0, .int .u32 0, .int .u32 0, .int .u16 0, .bool false, .int .u8 0, .int .i64 0, .string { data:= #[] }, .slice none 0 0, .slice none 0 0, .slice none 0 0],rfl,rfl,rfl,rfl,rfl,rfl, ?_⟩;intro W2 bx bxx hB;clear z0 z1;have y0:=bx.at_ 0 _ rfl;have y1:=bx.at_ 1 _ rfl;have y2:=bx.at_ 2 _ rfl;rw [ek] at y0;have x2:=bxx.at_ 2 _ rfl;have g2:=bxx.fr 2)|(refine Zp rfl _ rfl ?_;first|(refine ⟨w.heap.size,mcells c,rfl,rfl,(bx.far (by omega)), ?_⟩)|(refine ⟨w.heap.size+1, [.int .u8 5, .string c.doc, .int .i64 c.n, .int .u8 0, .int .u32 0, .int .u32 0, .int .u8 0, .int .i64 0, .string { data:= #[] }, .slice none 0 0, .slice none 0 0, .slice none 0 0, .int .u32 0, .int .u32 0, .int .u16 0, .bool false, .int .u8 0, .int .i64 0, .string { data:= #[] }, .slice none 0 0, .slice none 0 0, .slice none 0 0],rfl,rfl,(bxx.set (i:=2) (x:= .int .i64 c.n) (by simp)), ?_⟩))|(go_at_call 44;refine (Y3 5 _).mono ?_;rintro e w0 ⟨rfl,rfl⟩)|(go_at_call 86;(with_reducible refine (Behind.at_ HSM.out (hB.setCell (by simp) _)).mono ?_);rintro e w1 ⟨rfl,hb1⟩))
 all_goals first
  |(go_ret;exact ⟨Zb (by rw [<-HR.out];first|(simp;done)|(simp;omega)|(simp;intros;omega)),by first|exact (hB.setCell (by simp) _)|exact Below.on (hB.setCell (by simp) _) hb1 (Below.size (hB.setCell (by simp) _))⟩)
  |skip
 have HT:Hid (R=((if true then !nn && sd else nn) && ((c.there||vn) && (!false && fs)))):=by
  show _=_
  rw [<-HR.out,show decide (c.doc.size<=20)=true by simp;omega,show decide (0<=c.n)=true by simp;omega,show decide (c.n<=4999)=true by simp;omega];rfl
 replace hB:=Below.on (hB.setCell (by simp) _) hb1 (Below.size (hB.setCell (by simp) _))
 replace bx:=BC.keep (bx.far (by omega)) hb1 (BC.lt (bx.far (by omega)))
 clear HR hb1 hbd HSM bxx
 obtain ⟨th,hth⟩:∃b,c.there=b:=⟨_,rfl⟩
 rw [hth] at HT
 have HE:Hid (c.k=5):=ek
 have q0:=bx.at_ 0 _ rfl;have q3:=bx.at_ 3 _ rfl;have q4:=bx.at_ 4 _ rfl;have q5:=bx.at_ 5 _ rfl;have q6:=bx.at_ 6 _ rfl;have q7:=bx.at_ 7 _ rfl;have q8:=bx.at_ 8 _ rfl;have q9:=bx.at_ 9 _ rfl;have q10:=bx.at_ 10 _ rfl;have q11:=bx.at_ 11 _ rfl;rw [ek] at q0
 have r0:=Za q0;have r3:=Za q3;have r4:=Za q4;have r5:=Za q5;have r6:=Za q6;have r7:=Za q7;have r8:=Za q8;have r9:=Za q9;have r10:=Za q10;have r11:=Za q11
 rcases bcF nn (bcT sd (bcO th vn trivial)) with rfl|⟨rfl,(rfl|⟨rfl,(⟨rfl,rfl⟩|⟨(rfl|⟨rfl,rfl⟩),_⟩)⟩)⟩
 all_goals
  refine Zh (by kernel_rfl) (by kernel_rfl) ?_
  repeat (go_big_quiet_step (first|(go_at_call 87;exact Zg (Yd 5 rfl _))|(go_at_call 88;exact Zg (HN.out _ (hB.on (Ze _ _) hB.size)))))
  refine wpQuiet_nil ?_
  intro _ hw'
  obtain ⟨pq,hw''⟩:=hw'
  subst hw''
  replace bx:=bx.keep (Ze w1 pq) bx.lt
  replace hB:=hB.on (Ze w1 pq) hB.size
  clear q0 q3 q4 q5 q6 q7 q8 q9 q10 q11 r0 r3 r4 r5 r6 r7 r8 r9 r10 r11
  have y0:=bx.at_ 0 _ rfl;have y3:=bx.at_ 3 _ rfl;have y4:=bx.at_ 4 _ rfl;have y5:=bx.at_ 5 _ rfl;have y6:=bx.at_ 6 _ rfl;have y7:=bx.at_ 7 _ rfl;have y8:=bx.at_ 8 _ rfl;have y9:=bx.at_ 9 _ rfl;have y10:=bx.at_ 10 _ rfl;have y11:=bx.at_ 11 _ rfl;have y14:=bx.at_ 14 _ rfl;have y15:=bx.at_ 15 _ rfl;have y16:=bx.at_ 16 _ rfl;have y17:=bx.at_ 17 _ rfl;have y18:=bx.at_ 18 _ rfl;have y19:=bx.at_ 19 _ rfl;have y20:=bx.at_ 20 _ rfl;have y21:=bx.at_ 21 _ rfl;rw [ek] at y0
  rw [hth] at y15
  go_wp2_with (first|(go_at_call 87;(with_reducible refine (Yd 5 rfl _).mono ?_);rintro e w2 ⟨rfl,hb2⟩;replace bx:=bx.keep hb2 bx.lt;replace hB:=hB.on hb2 hB.size;have y0:=bx.at_ 0 _ rfl;have y3:=bx.at_ 3 _ rfl;have y4:=bx.at_ 4 _ rfl;have y5:=bx.at_ 5 _ rfl;have y6:=bx.at_ 6 _ rfl;have y7:=bx.at_ 7 _ rfl;have y8:=bx.at_ 8 _ rfl;have y9:=bx.at_ 9 _ rfl;have y10:=bx.at_ 10 _ rfl;have y11:=bx.at_ 11 _ rfl;have y14:=bx.at_ 14 _ rfl;have y15:=bx.at_ 15 _ rfl;have y16:=bx.at_ 16 _ rfl;have y17:=bx.at_ 17 _ rfl;have y18:=bx.at_ 18 _ rfl;have y19:=bx.at_ 19 _ rfl;have y20:=bx.at_ 20 _ rfl;have y21:=bx.at_ 21 _ rfl;rw [ek] at y0;rw [hth] at y15)|(go_at_call 89;(with_reducible refine (Behind.at_ HS.out hB).mono ?_);rintro e w3 ⟨rfl,hb3⟩;replace bx:=bx.keep hb3 bx.lt;replace hB:=hB.on hb3 hB.size;have y0:=bx.at_ 0 _ rfl;have y3:=bx.at_ 3 _ rfl;have y4:=bx.at_ 4 _ rfl;have y5:=bx.at_ 5 _ rfl;have y6:=bx.at_ 6 _ rfl;have y7:=bx.at_ 7 _ rfl;have y8:=bx.at_ 8 _ rfl;have y9:=bx.at_ 9 _ rfl;have y10:=bx.at_ 10 _ rfl;have y11:=bx.at_ 11 _ rfl;have y14:=bx.at_ 14 _ rfl;have y15:=bx.at_ 15 _ rfl;have y16:=bx.at_ 16 _ rfl;have y17:=bx.at_ 17 _ rfl;have y18:=bx.at_ 18 _ rfl;have y19:=bx.at_ 19 _ rfl;have y20:=bx.at_ 20 _ rfl;have y21:=bx.at_ 21 _ rfl;rw [ek] at y0;rw [hth] at y15)|(go_at_call 90;(with_reducible refine (Behind.at_ HV.out hB).mono ?_);rintro e w4 ⟨rfl,hb4⟩;replace bx:=bx.keep hb4 bx.lt;replace hB:=hB.on hb4 hB.size;have y0:=bx.at_ 0 _ rfl;have y3:=bx.at_ 3 _ rfl;have y4:=bx.at_ 4 _ rfl;have y5:=bx.at_ 5 _ rfl;have y6:=bx.at_ 6 _ rfl;have y7:=bx.at_ 7 _ rfl;have y8:=bx.at_ 8 _ rfl;have y9:=bx.at_ 9 _ rfl;have y10:=bx.at_ 10 _ rfl;have y11:=bx.at_ 11 _ rfl;have y14:=bx.at_ 14 _ rfl;have y15:=bx.at_ 15 _ rfl;have y16:=bx.at_ 16 _ rfl;have y17:=bx.at_ 17 _ rfl;have y18:=bx.at_ 18 _ rfl;have y19:=bx.at_ 19 _ rfl;have y20:=bx.at_ 20 _ rfl;have y21:=bx.at_ 21 _ rfl;rw [ek] at y0;rw [hth] at y15)|(go_at_call 91;(with_reducible refine (Behind.at_ HF.out hB).mono ?_);rintro e w5 ⟨rfl,hb5⟩;replace hB:=hB.on hb5 hB.size))
  go_ret
  exact ⟨Zb (by rw [HT.out];simp),hB⟩
set_option maxRecDepth 100000 in
theorem zlx (w:World) (c:MC) (ek:c.k=6) {nn sd vn fs sm:Bool} (H:MsH w c nn sd vn fs) (HSM:Hid (Behind w 86 #[.agg (mcells c).toArray, .agg ([.int .u8 6, .string c.doc, .int .i64 0, .int .u8 0, .int .u32 0, .int .u32 0, .int .u8 0, .int .i64 0, .string { data:= #[] }, .slice none 0 0, .slice none 0 0, .slice none 0 0, .int .u32 c.src, .int .u32 c.seq, .int .u16 c.err, .bool false, .int .u8 0, .int .i64 0, .string { data:= #[] }, .slice none 0 0, .slice none 0 0, .slice none 0 0] :List Value).toArray] (.bool sm))):
 Calls Tryz.prog 42 #[.agg (mcells c).toArray] w fun e w'=>e= .returned (.bool (sndM c.doc c.n 0 5000 sm false nn sd c.there vn (c.err==0) fs))/\Below w.heap.size w w':=by
 obtain ⟨HN,HS,HV,HF⟩:=H
 obtain ⟨R,hR⟩:∃R,sndM c.doc c.n 0 5000 sm false nn sd c.there vn (c.err==0) fs=R:=⟨_,rfl⟩
 rw [hR]
 rw [sndM] at hR
 obtain ⟨bd,hbd⟩:∃b,(c.doc.toList== [])=b:=⟨_,rfl⟩
 rw [hbd] at hR
 obtain ⟨er,her⟩:∃b,(c.err==0)=b:=⟨_,rfl⟩
 rw [her] at hR
 have HR:=qh hR
 clear hR
 have z0:=(BC.start w (mcells c).toArray 46).at_ 0 _ rfl
 have z1:=(BC.start w (mcells c).toArray 46).at_ 1 _ rfl
 rw [ek] at z0
 rcases bcF bd (bcT sm trivial) with rfl|⟨rfl,(rfl|⟨rfl,_⟩)⟩
 all_goals
  go_enter Tryz.func42,Tryz.ntmps42
  go_wp2_with (first|(refine Xm rfl _ _ rfl ?_;refine ⟨w,_,_,_,_, [.int .u8 6, .string c.doc, .int .i64 0, .int .u8 0, .int .u32 0, .int .u32 0, .int .u8 0, .int .i64 0, .string { data:= #[] }, .slice none 0 0, .slice none 0 0, .slice none 0 0, .int .u32 0, .int .u32 0, .int .u16 0, .bool false, .int .u8 0, .int .i64 0, .string { data:= #[] }, .slice none 0 0, .slice none 0 0, .slice none 0 0],rfl,rfl,rfl,rfl,rfl,rfl, ?_⟩;intro W2 bx bxx hB;clear z0 z1;have y0:=bx.at_ 0 _ rfl;have y1:=bx.at_ 1 _ rfl;have y2:=bx.at_ 2 _ rfl;have y12:=bx.at_ 12 _ rfl;have y13:=bx.at_ 13 _ rfl;have y14:=bx.at_ 14 _ rfl;rw [ek] at y0;have x12:=bxx.at_ 12 _ rfl;have x13:=bxx.at_ 13 _ rfl;have x14:=bxx.at_ 14 _ rfl;have g12:=bxx.fr 12;have g13:=bxx.fr 13;have g14:=bxx.fr 14)|(refine Zp rfl _ rfl ?_;first|(refine ⟨w.heap.size,mcells c,rfl,rfl,(Yo (((bx.far (by omega)).far (by omega)).far (by omega))), ?_⟩)|(refine ⟨w.heap.size+1, [.int .u8 6, .string c.doc, .int .i64 0, .int .u8 0, .int .u32 0, .int .u32 0, .int .u8 0, .int .i64 0, .string { data:= #[] }, .slice none 0 0, .slice none 0 0, .slice none 0 0, .int .u32 c.src, .int .u32 c.seq, .int .u16 c.err, .bool false, .int .u8 0, .int .i64 0, .string { data:= #[] }, .slice none 0 0, .slice none 0 0, .slice none 0 0],rfl,rfl,(Yo (((bxx.set (i:=12) (x:= .int .u32 c.src) (by simp)).set (i:=13) (x:= .int .u32 c.seq) (by simp)).set (i:=14) (x:= .int .u16 c.err) (by simp))), ?_⟩))|(go_at_call 44;refine (Y3 6 _).mono ?_;rintro e w0 ⟨rfl,rfl⟩)|(go_at_call 86;(with_reducible refine (Behind.at_ HSM.out (Below.drew (((hB.setCell (by simp) _).setCell (by simp) _).setCell (by simp) _))).mono ?_);rintro e w1 ⟨rfl,hb1⟩))
  go_region
  go_wp2_with (first|(refine Xm rfl _ _ rfl ?_;refine ⟨w,_,_,_,_, [.int .u8 6, .string c.doc, .int .i64 0, .int .u8 0, .int .u32 0, .int .u32 0, .int .u8 0, .int .i64 0, .string { data:= #[] }, .slice none 0 0, .slice none 0 0, .slice none 0 0, .int .u32 0, .int .u32 0, .int .u16 0, .bool false, .int .u8 0, .int .i64 0, .string { data:= #[] }, .slice none 0 0, .slice none 0 0, .slice none 0 0],rfl,rfl,rfl,rfl,rfl,rfl, ?_⟩;intro W2 bx bxx hB;clear z0 z1;have y0:=bx.at_ 0 _ rfl;have y1:=bx.at_ 1 _ rfl;have y2:=bx.at_ 2 _ rfl;have y12:=bx.at_ 12 _ rfl;have y13:=bx.at_ 13 _ rfl;have y14:=bx.at_ 14 _ rfl;rw [ek] at y0;have x12:=bxx.at_ 12 _ rfl;have x13:=bxx.at_ 13 _ rfl;have x14:=bxx.at_ 14 _ rfl;have g12:=bxx.fr 12;have g13:=bxx.fr 13;have g14:=bxx.fr 14)|(refine Zp rfl _ rfl ?_;first|(refine ⟨w.heap.size,mcells c,rfl,rfl,(Yo (((bx.far (by omega)).far (by omega)).far (by omega))), ?_⟩)|(refine ⟨w.heap.size+1, [.int .u8 6, .string c.doc, .int .i64 0, .int .u8 0, .int .u32 0, .int .u32 0, .int .u8 0, .int .i64 0, .string { data:= #[] }, .slice none 0 0, .slice none 0 0, .slice none 0 0, .int .u32 c.src, .int .u32 c.seq, .int .u16 c.err, .bool false, .int .u8 0, .int .i64 0, .string { data:= #[] }, .slice none 0 0, .slice none 0 0, .slice none 0 0],rfl,rfl,(Yo (((bxx.set (i:=12) (x:= .int .u32 c.src) (by simp)).set (i:=13) (x:= .int .u32 c.seq) (by simp)).set (i:=14) (x:= .int .u16 c.err) (by simp))), ?_⟩))|(go_at_call 44;refine (Y3 6 _).mono ?_;rintro e w0 ⟨rfl,rfl⟩)|(go_at_call 86;(with_reducible refine (Behind.at_ HSM.out (Below.drew (((hB.setCell (by simp) _).setCell (by simp) _).setCell (by simp) _))).mono ?_);rintro e w1 ⟨rfl,hb1⟩))
 all_goals first
  |(go_ret;exact ⟨Zb (by rw [<-HR.out];first|(simp;done)|(simp;omega)|(simp;intros;omega)),by first|exact (Below.drew (((hB.setCell (by simp) _).setCell (by simp) _).setCell (by simp) _))|exact Below.on (Below.drew (((hB.setCell (by simp) _).setCell (by simp) _).setCell (by simp) _)) hb1 (Below.size (Below.drew (((hB.setCell (by simp) _).setCell (by simp) _).setCell (by simp) _)))⟩)
  |skip
 have HT:Hid (R=((if false then !nn && sd else nn) && ((c.there||vn) && (!er && fs)))):=by
  show _=_
  rw [<-HR.out,show decide (c.doc.size<=20)=true by simp;omega,show decide (0<=c.n)=true by simp;omega,show decide (c.n<=5000)=true by simp;omega];rfl
 replace hB:=Below.on (Below.drew (((hB.setCell (by simp) _).setCell (by simp) _).setCell (by simp) _)) hb1 (Below.size (Below.drew (((hB.setCell (by simp) _).setCell (by simp) _).setCell (by simp) _)))
 replace bx:=BC.keep (Yo (((bx.far (by omega)).far (by omega)).far (by omega))) hb1 (BC.lt (Yo (((bx.far (by omega)).far (by omega)).far (by omega))))
 clear HR hb1 hbd HSM bxx
 obtain ⟨th,hth⟩:∃b,c.there=b:=⟨_,rfl⟩
 rw [hth] at HT
 have HE:Hid (c.k=6):=ek
 have q0:=bx.at_ 0 _ rfl;have q3:=bx.at_ 3 _ rfl;have q4:=bx.at_ 4 _ rfl;have q5:=bx.at_ 5 _ rfl;have q6:=bx.at_ 6 _ rfl;have q7:=bx.at_ 7 _ rfl;have q8:=bx.at_ 8 _ rfl;have q9:=bx.at_ 9 _ rfl;have q10:=bx.at_ 10 _ rfl;have q11:=bx.at_ 11 _ rfl;rw [ek] at q0
 have r0:=Za q0;have r3:=Za q3;have r4:=Za q4;have r5:=Za q5;have r6:=Za q6;have r7:=Za q7;have r8:=Za q8;have r9:=Za q9;have r10:=Za q10;have r11:=Za q11
 rcases bcT nn (bcO th vn (bcF er trivial)) with rfl|⟨rfl,(⟨rfl,rfl⟩|⟨(rfl|⟨rfl,rfl⟩),(rfl|⟨rfl,_⟩)⟩)⟩
 all_goals
  refine Zh (by kernel_rfl) (by kernel_rfl) ?_
  repeat (go_big_quiet_step (first|(go_at_call 87;exact Zg (Yd 6 rfl _))|(go_at_call 88;exact Zg (HN.out _ (hB.on (Ze _ _) hB.size)))))
  refine wpQuiet_nil ?_
  intro _ hw'
  obtain ⟨pq,hw''⟩:=hw'
  subst hw''
  replace bx:=bx.keep (Ze w1 pq) bx.lt
  replace hB:=hB.on (Ze w1 pq) hB.size
  clear q0 q3 q4 q5 q6 q7 q8 q9 q10 q11 r0 r3 r4 r5 r6 r7 r8 r9 r10 r11
  have y0:=bx.at_ 0 _ rfl;have y3:=bx.at_ 3 _ rfl;have y4:=bx.at_ 4 _ rfl;have y5:=bx.at_ 5 _ rfl;have y6:=bx.at_ 6 _ rfl;have y7:=bx.at_ 7 _ rfl;have y8:=bx.at_ 8 _ rfl;have y9:=bx.at_ 9 _ rfl;have y10:=bx.at_ 10 _ rfl;have y11:=bx.at_ 11 _ rfl;have y14:=bx.at_ 14 _ rfl;have y15:=bx.at_ 15 _ rfl;have y16:=bx.at_ 16 _ rfl;have y17:=bx.at_ 17 _ rfl;have y18:=bx.at_ 18 _ rfl;have y19:=bx.at_ 19 _ rfl;have y20:=bx.at_ 20 _ rfl;have y21:=bx.at_ 21 _ rfl;rw [ek] at y0
  rw [hth] at y15
  go_wp2_with (first|(go_at_call 87;(with_reducible refine (Yd 6 rfl _).mono ?_);rintro e w2 ⟨rfl,hb2⟩;replace bx:=bx.keep hb2 bx.lt;replace hB:=hB.on hb2 hB.size;have y0:=bx.at_ 0 _ rfl;have y3:=bx.at_ 3 _ rfl;have y4:=bx.at_ 4 _ rfl;have y5:=bx.at_ 5 _ rfl;have y6:=bx.at_ 6 _ rfl;have y7:=bx.at_ 7 _ rfl;have y8:=bx.at_ 8 _ rfl;have y9:=bx.at_ 9 _ rfl;have y10:=bx.at_ 10 _ rfl;have y11:=bx.at_ 11 _ rfl;have y14:=bx.at_ 14 _ rfl;have y15:=bx.at_ 15 _ rfl;have y16:=bx.at_ 16 _ rfl;have y17:=bx.at_ 17 _ rfl;have y18:=bx.at_ 18 _ rfl;have y19:=bx.at_ 19 _ rfl;have y20:=bx.at_ 20 _ rfl;have y21:=bx.at_ 21 _ rfl;rw [ek] at y0;rw [hth] at y15)|(go_at_call 89;(with_reducible refine (Behind.at_ HS.out hB).mono ?_);rintro e w3 ⟨rfl,hb3⟩;replace bx:=bx.keep hb3 bx.lt;replace hB:=hB.on hb3 hB.size;have y0:=bx.at_ 0 _ rfl;have y3:=bx.at_ 3 _ rfl;have y4:=bx.at_ 4 _ rfl;have y5:=bx.at_ 5 _ rfl;have y6:=bx.at_ 6 _ rfl;have y7:=bx.at_ 7 _ rfl;have y8:=bx.at_ 8 _ rfl;have y9:=bx.at_ 9 _ rfl;have y10:=bx.at_ 10 _ rfl;have y11:=bx.at_ 11 _ rfl;have y14:=bx.at_ 14 _ rfl;have y15:=bx.at_ 15 _ rfl;have y16:=bx.at_ 16 _ rfl;have y17:=bx.at_ 17 _ rfl;have y18:=bx.at_ 18 _ rfl;have y19:=bx.at_ 19 _ rfl;have y20:=bx.at_ 20 _ rfl;have y21:=bx.at_ 21 _ rfl;rw [ek] at y0;rw [hth] at y15)|(go_at_call 90;(with_reducible refine (Behind.at_ HV.out hB).mono ?_);rintro e w4 ⟨rfl,hb4⟩;replace bx:=bx.keep hb4 bx.lt;replace hB:=hB.on hb4 hB.size;have y0:=bx.at_ 0 _ rfl;have y3:=bx.at_ 3 _ rfl;have y4:=bx.at_ 4 _ rfl;have y5:=bx.at_ 5 _ rfl;have y6:=bx.at_ 6 _ rfl;have y7:=bx.at_ 7 _ rfl;have y8:=bx.at_ 8 _ rfl;have y9:=bx.at_ 9 _ rfl;have y10:=bx.at_ 10 _ rfl;have y11:=bx.at_ 11 _ rfl;have y14:=bx.at_ 14 _ rfl;have y15:=bx.at_ 15 _ rfl;have y16:=bx.at_ 16 _ rfl;have y17:=bx.at_ 17 _ rfl;have y18:=bx.at_ 18 _ rfl;have y19:=bx.at_ 19 _ rfl;have y20:=bx.at_ 20 _ rfl;have y21:=bx.at_ 21 _ rfl;rw [ek] at y0;rw [hth] at y15)|(go_at_call 91;(with_reducible refine (Behind.at_ HF.out hB).mono ?_);rintro e w5 ⟨rfl,hb5⟩;replace hB:=hB.on hb5 hB.size))
  go_ret
  exact ⟨Zb (by rw [HT.out];simp),hB⟩
set_option maxRecDepth 100000 in
theorem zob (w:World) (c:MC) (h1:¬c.k=1) (h2:¬c.k=2) (h3:¬c.k=3) (h4:¬c.k=4) (h5:¬c.k=5) (h6:¬c.k=6) {R:Bool} (hR:R=false):
 Calls Tryz.prog 42 #[.agg (mcells c).toArray] w fun e w'=>e= .returned (.bool R)/\Below w.heap.size w w':=by
 subst hR
 have z0:=(BC.start w (mcells c).toArray 46).at_ 0 _ rfl
 have z1:=(BC.start w (mcells c).toArray 46).at_ 1 _ rfl
 go_enter Tryz.func42,Tryz.ntmps42
 go_wp2_with (refine Xm rfl _ _ rfl ?_;refine ⟨w,_,_,_,_, [.int .u8 c.k, .string c.doc, .int .i64 0, .int .u8 0, .int .u32 0, .int .u32 0, .int .u8 0, .int .i64 0, .string { data:= #[] }, .slice none 0 0, .slice none 0 0, .slice none 0 0, .int .u32 0, .int .u32 0, .int .u16 0, .bool false, .int .u8 0, .int .i64 0, .string { data:= #[] }, .slice none 0 0, .slice none 0 0, .slice none 0 0],rfl,rfl,rfl,rfl,rfl,rfl, ?_⟩;intro W2 bx bxx hB;clear z0 z1;have y0:=bx.at_ 0 _ rfl)
 go_ret
 exact ⟨rfl,hB⟩
noncomputable def sameM (m:Ms):Bool:=
 (numberedB m.k||m.n==0) && ((m.k==6||(m.src==0 && (m.seq==0 && m.err==0))) && ((m.k==4|| !m.there) && (m.k==1||m.f.isEmpty)))
noncomputable def msgSound (m:Ms):Bool:=
 (decide (1<=m.k) && decide (m.k<=6)) && sndM m.doc m.n (if m.k=1 then -1 else 0) (if m.k=5 then 4999 else 5000) (sameM m) (bringsB m.k) (enNone m.e) (enSound m.e) m.there (eqv m.v V.none) (m.k==6 && m.err==0) (fieldsSound m.f)
theorem Q2 (l:List ByteArray):eqB l [] =l.isEmpty:=by
 cases l with
 |nil=>exact Zy rfl
 |cons x r=>exact Zu (by simp)
theorem K8 {α:Type} (x:α):eqB x x=true:=Zy rfl
set_option maxRecDepth 100000 in
theorem zll (m:Ms) (w:World) (hT:Tabs w) (c:MC) (hm:IsMsg w w.heap.size m c) (hs:m.e.small):
 Calls Tryz.prog 42 #[.agg (mcells c).toArray] w fun e w'=>e= .returned (.bool (msgSound m))/\Below w.heap.size w w':=by
 cases hm with
 |mk c e v f hb he hv hf=>
 dsimp only at hs
 have H:MsH w c (enNone e) (enSound e) (eqv v V.none) (fieldsSound f):=⟨fun W hW=>zl2 e W c.e (he.later_ hW),fun W hW=>zei e W (hT.below hW) c.e (he.later_ hW) hs,fun W hW=>J7 v V.none W c.v VC.none (hv.later_ hW) (Zo _ _),fun W hW=>zp9 f W (hT.below hW) _ _ _ (hf.later_ hW)⟩
 have HQ:∀(d:MC) (l':List ByteArray) {sm:Bool},IsStrs w w.heap.size l' d.fa d.fl d.fc->sameB c d (eqB f l')=sm->Hid (Behind w 86 #[.agg (mcells c).toArray, .agg (mcells d).toArray] (.bool sm)):=fun d l' sm hd h W hW=>by
  rw [<-h];exact zj5 W c d f l' (hf.later_ hW) (hd.later_ hW)
 have hn:=IsStrs.nil w w.heap.size
 by_cases e1:c.k=1
 .have hq:=zjx w c e1 H (HQ ⟨1,c.doc,c.n,ezero,0,0,0,false,vzero,c.fa,c.fl,c.fc⟩ f hf rfl)
  refine hq.mono fun e' w' ⟨h1,h2⟩=>⟨?_,h2⟩
  rw [h1]
  congr 2
  simp only [msgSound,sameM,sameB,e1,bringsB,numberedB,K8]
  simp [sndM,Bool.and_assoc]
  done
 by_cases e2:c.k=2
 .have hq:=zmz w c e2 H (HQ ⟨2,c.doc,0,ezero,0,0,0,false,vzero,none,0,0⟩ [] hn rfl)
  refine hq.mono fun e' w' ⟨h1,h2⟩=>⟨?_,h2⟩
  rw [h1]
  congr 2
  simp only [msgSound,sameM,sameB,e2,bringsB,numberedB,Q2]
  simp [sndM,Bool.and_assoc]
  done
 by_cases e3:c.k=3
 .have hq:=zmm w c e3 H (HQ ⟨3,c.doc,c.n,ezero,0,0,0,false,vzero,none,0,0⟩ [] hn rfl)
  refine hq.mono fun e' w' ⟨h1,h2⟩=>⟨?_,h2⟩
  rw [h1]
  congr 2
  simp only [msgSound,sameM,sameB,e3,bringsB,numberedB,Q2]
  simp [sndM,Bool.and_assoc]
  done
 by_cases e4:c.k=4
 .have hq:=znn w c e4 H (HQ ⟨4,c.doc,c.n,ezero,0,0,0,c.there,vzero,none,0,0⟩ [] hn rfl)
  refine hq.mono fun e' w' ⟨h1,h2⟩=>⟨?_,h2⟩
  rw [h1]
  congr 2
  simp only [msgSound,sameM,sameB,e4,bringsB,numberedB,Q2]
  simp [sndM,Bool.and_assoc]
  done
 by_cases e5:c.k=5
 .have hq:=zn7 w c e5 H (HQ ⟨5,c.doc,c.n,ezero,0,0,0,false,vzero,none,0,0⟩ [] hn rfl)
  refine hq.mono fun e' w' ⟨h1,h2⟩=>⟨?_,h2⟩
  rw [h1]
  congr 2
  simp only [msgSound,sameM,sameB,e5,bringsB,numberedB,Q2]
  simp [sndM,Bool.and_assoc]
  done
 by_cases e6:c.k=6
 .have hq:=zlx w c e6 H (HQ ⟨6,c.doc,0,ezero,c.src,c.seq,c.err,false,vzero,none,0,0⟩ [] hn rfl)
  refine hq.mono fun e' w' ⟨h1,h2⟩=>⟨?_,h2⟩
  rw [h1]
  congr 2
  simp only [msgSound,sameM,sameB,e6,bringsB,numberedB,Q2]
  simp [sndM,Bool.and_assoc]
  done
 exact zob w c (by omega) (by omega) (by omega) (by omega) (by omega) (by omega) (by
  have:¬(1<=c.k/\c.k<=6):=by omega
  simp only [msgSound]
  by_cases h1:1<=c.k
  .rw [show decide (c.k<=6)=false by simp;omega];simp
  .rw [show decide (1<=c.k)=false by simp;omega];simp)
end Go.Proofs.YtfoahkbnheijcaaGreatDoor
