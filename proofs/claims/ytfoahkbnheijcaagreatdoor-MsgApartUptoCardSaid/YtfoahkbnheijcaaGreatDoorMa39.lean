/-
  Contracts of the functions that the law reaches: msg.Sound by kinds: 1, 2, 3.
-/
import Derived.Test.YtfoahkbnheijcaaGreatDoorMa38
namespace Go.Proofs.YtfoahkbnheijcaaGreatDoor
open Go.RowKit
set_option maxHeartbeats 8000000
set_option maxRecDepth 100000 in
theorem zjx (w:World) (c:MC) (ek:c.k=1) {nn sd vn fs sm:Bool} (H:MsH w c nn sd vn fs) (HSM:Hid (Behind w 86 #[.agg (mcells c).toArray, .agg ([.int .u8 1, .string c.doc, .int .i64 c.n, .int .u8 0, .int .u32 0, .int .u32 0, .int .u8 0, .int .i64 0, .string { data:= #[] }, .slice none 0 0, .slice none 0 0, .slice none 0 0, .int .u32 0, .int .u32 0, .int .u16 0, .bool false, .int .u8 0, .int .i64 0, .string { data:= #[] }, .slice none 0 0, .slice none 0 0, .slice c.fa c.fl c.fc] :List Value).toArray] (.bool sm))):
 Calls Tryz.prog 42 #[.agg (mcells c).toArray] w fun e w'=>e= .returned (.bool (sndM c.doc c.n (-1) 5000 sm false nn sd c.there vn false fs))/\Below w.heap.size w w':=by
 obtain ⟨HN,HS,HV,HF⟩:=H
 obtain ⟨R,hR⟩:∃R,sndM c.doc c.n (-1) 5000 sm false nn sd c.there vn false fs=R:=⟨_,rfl⟩
 rw [hR]
 rw [sndM] at hR
 obtain ⟨bd,hbd⟩:∃b,(c.doc.toList== [])=b:=⟨_,rfl⟩
 rw [hbd] at hR
 have HR:=qh hR
 clear hR
 have z0:=(BC.start w (mcells c).toArray 46).at_ 0 _ rfl
 have z1:=(BC.start w (mcells c).toArray 46).at_ 1 _ rfl
 rw [ek] at z0
 rcases bcF bd (bcT sm trivial) with rfl|⟨rfl,(rfl|⟨rfl,_⟩)⟩
 all_goals
  go_enter Tryz.func42,Tryz.ntmps42
  go_wp2_with (first|(refine Xm rfl _ _ rfl ?_;refine ⟨w,_,_,_,_, [.int .u8 1, .string c.doc, .int .i64 0, .int .u8 0, .int .u32 0, .int .u32 0, .int .u8 0, .int .i64 0, .string { data:= #[] }, .slice none 0 0, .slice none 0 0, .slice none 0 0, .int .u32 0, .int .u32 0, .int .u16 0, .bool false, .int .u8 0, .int .i64 0, .string { data:= #[] }, .slice none 0 0, .slice none 0 0, .slice none 0 0],rfl,rfl,rfl,rfl,rfl,rfl, ?_⟩;intro W2 bx bxx hB;clear z0 z1;have y0:=bx.at_ 0 _ rfl;have y1:=bx.at_ 1 _ rfl;have y2:=bx.at_ 2 _ rfl;have y21:=bx.at_ 21 _ rfl;rw [ek] at y0;have x21:=bxx.at_ 21 _ rfl;have x2:=bxx.at_ 2 _ rfl;have g21:=bxx.fr 21;have g2:=bxx.fr 2)|(refine Zp rfl _ rfl ?_;first|(refine ⟨w.heap.size,mcells c,rfl,rfl,((bx.far (by omega)).far (by omega)), ?_⟩)|(refine ⟨w.heap.size+1, [.int .u8 1, .string c.doc, .int .i64 c.n, .int .u8 0, .int .u32 0, .int .u32 0, .int .u8 0, .int .i64 0, .string { data:= #[] }, .slice none 0 0, .slice none 0 0, .slice none 0 0, .int .u32 0, .int .u32 0, .int .u16 0, .bool false, .int .u8 0, .int .i64 0, .string { data:= #[] }, .slice none 0 0, .slice none 0 0, .slice c.fa c.fl c.fc],rfl,rfl,((bxx.set (i:=21) (x:= .slice c.fa c.fl c.fc) (by simp)).set (i:=2) (x:= .int .i64 c.n) (by simp)), ?_⟩))|(go_at_call 44;refine (Y3 1 _).mono ?_;rintro e w0 ⟨rfl,rfl⟩)|(go_at_call 86;(with_reducible refine (Behind.at_ HSM.out ((hB.setCell (by simp) _).setCell (by simp) _)).mono ?_);rintro e w1 ⟨rfl,hb1⟩))
 all_goals first
  |(go_ret;exact ⟨Zb (by rw [<-HR.out];first|(simp;done)|(simp;omega)|(simp;intros;omega)),by first|exact ((hB.setCell (by simp) _).setCell (by simp) _)|exact Below.on ((hB.setCell (by simp) _).setCell (by simp) _) hb1 (Below.size ((hB.setCell (by simp) _).setCell (by simp) _))⟩)
  |skip
 have HT:Hid (R=((if false then !nn && sd else nn) && ((c.there||vn) && (!false && fs)))):=by
  show _=_
  rw [<-HR.out,show decide (c.doc.size<=20)=true by simp;omega,show decide ((-1)<=c.n)=true by simp;omega,show decide (c.n<=5000)=true by simp;omega];rfl
 replace hB:=Below.on ((hB.setCell (by simp) _).setCell (by simp) _) hb1 (Below.size ((hB.setCell (by simp) _).setCell (by simp) _))
 replace bx:=BC.keep ((bx.far (by omega)).far (by omega)) hb1 (BC.lt ((bx.far (by omega)).far (by omega)))
 clear HR hb1 hbd HSM bxx
 obtain ⟨th,hth⟩:∃b,c.there=b:=⟨_,rfl⟩
 rw [hth] at HT
 have HE:Hid (c.k=1):=ek
 have q0:=bx.at_ 0 _ rfl;have q3:=bx.at_ 3 _ rfl;have q4:=bx.at_ 4 _ rfl;have q5:=bx.at_ 5 _ rfl;have q6:=bx.at_ 6 _ rfl;have q7:=bx.at_ 7 _ rfl;have q8:=bx.at_ 8 _ rfl;have q9:=bx.at_ 9 _ rfl;have q10:=bx.at_ 10 _ rfl;have q11:=bx.at_ 11 _ rfl;rw [ek] at q0
 have r0:=Za q0;have r3:=Za q3;have r4:=Za q4;have r5:=Za q5;have r6:=Za q6;have r7:=Za q7;have r8:=Za q8;have r9:=Za q9;have r10:=Za q10;have r11:=Za q11
 rcases bcT nn (bcO th vn trivial) with rfl|⟨rfl,(⟨rfl,rfl⟩|⟨(rfl|⟨rfl,rfl⟩),_⟩)⟩
 all_goals
  refine Zh (by kernel_rfl) (by kernel_rfl) ?_
  repeat (go_big_quiet_step (first|(go_at_call 87;exact Zg (Yd 1 rfl _))|(go_at_call 88;exact Zg (HN.out _ (hB.on (Ze _ _) hB.size)))))
  refine wpQuiet_nil ?_
  intro _ hw'
  obtain ⟨pq,hw''⟩:=hw'
  subst hw''
  replace bx:=bx.keep (Ze w1 pq) bx.lt
  replace hB:=hB.on (Ze w1 pq) hB.size
  clear q0 q3 q4 q5 q6 q7 q8 q9 q10 q11 r0 r3 r4 r5 r6 r7 r8 r9 r10 r11
  have y0:=bx.at_ 0 _ rfl;have y3:=bx.at_ 3 _ rfl;have y4:=bx.at_ 4 _ rfl;have y5:=bx.at_ 5 _ rfl;have y6:=bx.at_ 6 _ rfl;have y7:=bx.at_ 7 _ rfl;have y8:=bx.at_ 8 _ rfl;have y9:=bx.at_ 9 _ rfl;have y10:=bx.at_ 10 _ rfl;have y11:=bx.at_ 11 _ rfl;have y14:=bx.at_ 14 _ rfl;have y15:=bx.at_ 15 _ rfl;have y16:=bx.at_ 16 _ rfl;have y17:=bx.at_ 17 _ rfl;have y18:=bx.at_ 18 _ rfl;have y19:=bx.at_ 19 _ rfl;have y20:=bx.at_ 20 _ rfl;have y21:=bx.at_ 21 _ rfl;rw [ek] at y0
  rw [hth] at y15
  go_wp2_with (first|(go_at_call 87;(with_reducible refine (Yd 1 rfl _).mono ?_);rintro e w2 ⟨rfl,hb2⟩;replace bx:=bx.keep hb2 bx.lt;replace hB:=hB.on hb2 hB.size;have y0:=bx.at_ 0 _ rfl;have y3:=bx.at_ 3 _ rfl;have y4:=bx.at_ 4 _ rfl;have y5:=bx.at_ 5 _ rfl;have y6:=bx.at_ 6 _ rfl;have y7:=bx.at_ 7 _ rfl;have y8:=bx.at_ 8 _ rfl;have y9:=bx.at_ 9 _ rfl;have y10:=bx.at_ 10 _ rfl;have y11:=bx.at_ 11 _ rfl;have y14:=bx.at_ 14 _ rfl;have y15:=bx.at_ 15 _ rfl;have y16:=bx.at_ 16 _ rfl;have y17:=bx.at_ 17 _ rfl;have y18:=bx.at_ 18 _ rfl;have y19:=bx.at_ 19 _ rfl;have y20:=bx.at_ 20 _ rfl;have y21:=bx.at_ 21 _ rfl;rw [ek] at y0;rw [hth] at y15)|(go_at_call 89;(with_reducible refine (Behind.at_ HS.out hB).mono ?_);rintro e w3 ⟨rfl,hb3⟩;replace bx:=bx.keep hb3 bx.lt;replace hB:=hB.on hb3 hB.size;have y0:=bx.at_ 0 _ rfl;have y3:=bx.at_ 3 _ rfl;have y4:=bx.at_ 4 _ rfl;have y5:=bx.at_ 5 _ rfl;have y6:=bx.at_ 6 _ rfl;have y7:=bx.at_ 7 _ rfl;have y8:=bx.at_ 8 _ rfl;have y9:=bx.at_ 9 _ rfl;have y10:=bx.at_ 10 _ rfl;have y11:=bx.at_ 11 _ rfl;have y14:=bx.at_ 14 _ rfl;have y15:=bx.at_ 15 _ rfl;have y16:=bx.at_ 16 _ rfl;have y17:=bx.at_ 17 _ rfl;have y18:=bx.at_ 18 _ rfl;have y19:=bx.at_ 19 _ rfl;have y20:=bx.at_ 20 _ rfl;have y21:=bx.at_ 21 _ rfl;rw [ek] at y0;rw [hth] at y15)|(go_at_call 90;(with_reducible refine (Behind.at_ HV.out hB).mono ?_);rintro e w4 ⟨rfl,hb4⟩;replace bx:=bx.keep hb4 bx.lt;replace hB:=hB.on hb4 hB.size;have y0:=bx.at_ 0 _ rfl;have y3:=bx.at_ 3 _ rfl;have y4:=bx.at_ 4 _ rfl;have y5:=bx.at_ 5 _ rfl;have y6:=bx.at_ 6 _ rfl;have y7:=bx.at_ 7 _ rfl;have y8:=bx.at_ 8 _ rfl;have y9:=bx.at_ 9 _ rfl;have y10:=bx.at_ 10 _ rfl;have y11:=bx.at_ 11 _ rfl;have y14:=bx.at_ 14 _ rfl;have y15:=bx.at_ 15 _ rfl;have y16:=bx.at_ 16 _ rfl;have y17:=bx.at_ 17 _ rfl;have y18:=bx.at_ 18 _ rfl;have y19:=bx.at_ 19 _ rfl;have y20:=bx.at_ 20 _ rfl;have y21:=bx.at_ 21 _ rfl;rw [ek] at y0;rw [hth] at y15)|(go_at_call 91;(with_reducible refine (Behind.at_ HF.out hB).mono ?_);rintro e w5 ⟨rfl,hb5⟩;replace hB:=hB.on hb5 hB.size))
  go_ret
  exact ⟨Zb (by rw [HT.out];simp),hB⟩
set_option maxRecDepth 100000 in
theorem zmz (w:World) (c:MC) (ek:c.k=2) {nn sd vn fs sm:Bool} (H:MsH w c nn sd vn fs) (HSM:Hid (Behind w 86 #[.agg (mcells c).toArray, .agg ([.int .u8 2, .string c.doc, .int .i64 0, .int .u8 0, .int .u32 0, .int .u32 0, .int .u8 0, .int .i64 0, .string { data:= #[] }, .slice none 0 0, .slice none 0 0, .slice none 0 0, .int .u32 0, .int .u32 0, .int .u16 0, .bool false, .int .u8 0, .int .i64 0, .string { data:= #[] }, .slice none 0 0, .slice none 0 0, .slice none 0 0] :List Value).toArray] (.bool sm))):
 Calls Tryz.prog 42 #[.agg (mcells c).toArray] w fun e w'=>e= .returned (.bool (sndM c.doc c.n 0 5000 sm false nn sd c.there vn false fs))/\Below w.heap.size w w':=by
 obtain ⟨HN,HS,HV,HF⟩:=H
 obtain ⟨R,hR⟩:∃R,sndM c.doc c.n 0 5000 sm false nn sd c.there vn false fs=R:=⟨_,rfl⟩
 rw [hR]
 rw [sndM] at hR
 obtain ⟨bd,hbd⟩:∃b,(c.doc.toList== [])=b:=⟨_,rfl⟩
 rw [hbd] at hR
 have HR:=qh hR
 clear hR
 have z0:=(BC.start w (mcells c).toArray 46).at_ 0 _ rfl
 have z1:=(BC.start w (mcells c).toArray 46).at_ 1 _ rfl
 rw [ek] at z0
 rcases bcF bd (bcT sm trivial) with rfl|⟨rfl,(rfl|⟨rfl,_⟩)⟩
 all_goals
  go_enter Tryz.func42,Tryz.ntmps42
  go_wp2_with (first|(refine Xm rfl _ _ rfl ?_;refine ⟨w,_,_,_,_, [.int .u8 2, .string c.doc, .int .i64 0, .int .u8 0, .int .u32 0, .int .u32 0, .int .u8 0, .int .i64 0, .string { data:= #[] }, .slice none 0 0, .slice none 0 0, .slice none 0 0, .int .u32 0, .int .u32 0, .int .u16 0, .bool false, .int .u8 0, .int .i64 0, .string { data:= #[] }, .slice none 0 0, .slice none 0 0, .slice none 0 0],rfl,rfl,rfl,rfl,rfl,rfl, ?_⟩;intro W2 bx bxx hB;clear z0 z1;have y0:=bx.at_ 0 _ rfl;have y1:=bx.at_ 1 _ rfl;have y2:=bx.at_ 2 _ rfl;rw [ek] at y0)|(refine Zp rfl _ rfl ?_;first|(refine ⟨w.heap.size,mcells c,rfl,rfl,bx, ?_⟩)|(refine ⟨w.heap.size+1, [.int .u8 2, .string c.doc, .int .i64 0, .int .u8 0, .int .u32 0, .int .u32 0, .int .u8 0, .int .i64 0, .string { data:= #[] }, .slice none 0 0, .slice none 0 0, .slice none 0 0, .int .u32 0, .int .u32 0, .int .u16 0, .bool false, .int .u8 0, .int .i64 0, .string { data:= #[] }, .slice none 0 0, .slice none 0 0, .slice none 0 0],rfl,rfl,bxx, ?_⟩))|(go_at_call 44;refine (Y3 2 _).mono ?_;rintro e w0 ⟨rfl,rfl⟩)|(go_at_call 86;(with_reducible refine (Behind.at_ HSM.out hB).mono ?_);rintro e w1 ⟨rfl,hb1⟩))
 all_goals first
  |(go_ret;exact ⟨Zb (by rw [<-HR.out];first|(simp;done)|(simp;omega)|(simp;intros;omega)),by first|exact hB|exact Below.on hB hb1 (Below.size hB)⟩)
  |skip
 have HT:Hid (R=((if false then !nn && sd else nn) && ((c.there||vn) && (!false && fs)))):=by
  show _=_
  rw [<-HR.out,show decide (c.doc.size<=20)=true by simp;omega,show decide (0<=c.n)=true by simp;omega,show decide (c.n<=5000)=true by simp;omega];rfl
 replace hB:=Below.on hB hb1 (Below.size hB)
 replace bx:=BC.keep bx hb1 (BC.lt bx)
 clear HR hb1 hbd HSM bxx
 obtain ⟨th,hth⟩:∃b,c.there=b:=⟨_,rfl⟩
 rw [hth] at HT
 have HE:Hid (c.k=2):=ek
 have q0:=bx.at_ 0 _ rfl;have q3:=bx.at_ 3 _ rfl;have q4:=bx.at_ 4 _ rfl;have q5:=bx.at_ 5 _ rfl;have q6:=bx.at_ 6 _ rfl;have q7:=bx.at_ 7 _ rfl;have q8:=bx.at_ 8 _ rfl;have q9:=bx.at_ 9 _ rfl;have q10:=bx.at_ 10 _ rfl;have q11:=bx.at_ 11 _ rfl;rw [ek] at q0
 have r0:=Za q0;have r3:=Za q3;have r4:=Za q4;have r5:=Za q5;have r6:=Za q6;have r7:=Za q7;have r8:=Za q8;have r9:=Za q9;have r10:=Za q10;have r11:=Za q11
 rcases bcT nn (bcO th vn trivial) with rfl|⟨rfl,(⟨rfl,rfl⟩|⟨(rfl|⟨rfl,rfl⟩),_⟩)⟩
 all_goals
  refine Zh (by kernel_rfl) (by kernel_rfl) ?_
  repeat (go_big_quiet_step (first|(go_at_call 87;exact Zg (Yd 2 rfl _))|(go_at_call 88;exact Zg (HN.out _ (hB.on (Ze _ _) hB.size)))))
  refine wpQuiet_nil ?_
  intro _ hw'
  obtain ⟨pq,hw''⟩:=hw'
  subst hw''
  replace bx:=bx.keep (Ze w1 pq) bx.lt
  replace hB:=hB.on (Ze w1 pq) hB.size
  clear q0 q3 q4 q5 q6 q7 q8 q9 q10 q11 r0 r3 r4 r5 r6 r7 r8 r9 r10 r11
  have y0:=bx.at_ 0 _ rfl;have y3:=bx.at_ 3 _ rfl;have y4:=bx.at_ 4 _ rfl;have y5:=bx.at_ 5 _ rfl;have y6:=bx.at_ 6 _ rfl;have y7:=bx.at_ 7 _ rfl;have y8:=bx.at_ 8 _ rfl;have y9:=bx.at_ 9 _ rfl;have y10:=bx.at_ 10 _ rfl;have y11:=bx.at_ 11 _ rfl;have y14:=bx.at_ 14 _ rfl;have y15:=bx.at_ 15 _ rfl;have y16:=bx.at_ 16 _ rfl;have y17:=bx.at_ 17 _ rfl;have y18:=bx.at_ 18 _ rfl;have y19:=bx.at_ 19 _ rfl;have y20:=bx.at_ 20 _ rfl;have y21:=bx.at_ 21 _ rfl;rw [ek] at y0
  rw [hth] at y15
  go_wp2_with (first|(go_at_call 87;(with_reducible refine (Yd 2 rfl _).mono ?_);rintro e w2 ⟨rfl,hb2⟩;replace bx:=bx.keep hb2 bx.lt;replace hB:=hB.on hb2 hB.size;have y0:=bx.at_ 0 _ rfl;have y3:=bx.at_ 3 _ rfl;have y4:=bx.at_ 4 _ rfl;have y5:=bx.at_ 5 _ rfl;have y6:=bx.at_ 6 _ rfl;have y7:=bx.at_ 7 _ rfl;have y8:=bx.at_ 8 _ rfl;have y9:=bx.at_ 9 _ rfl;have y10:=bx.at_ 10 _ rfl;have y11:=bx.at_ 11 _ rfl;have y14:=bx.at_ 14 _ rfl;have y15:=bx.at_ 15 _ rfl;have y16:=bx.at_ 16 _ rfl;have y17:=bx.at_ 17 _ rfl;have y18:=bx.at_ 18 _ rfl;have y19:=bx.at_ 19 _ rfl;have y20:=bx.at_ 20 _ rfl;have y21:=bx.at_ 21 _ rfl;rw [ek] at y0;rw [hth] at y15)|(go_at_call 89;(with_reducible refine (Behind.at_ HS.out hB).mono ?_);rintro e w3 ⟨rfl,hb3⟩;replace bx:=bx.keep hb3 bx.lt;replace hB:=hB.on hb3 hB.size;have y0:=bx.at_ 0 _ rfl;have y3:=bx.at_ 3 _ rfl;have y4:=bx.at_ 4 _ rfl;have y5:=bx.at_ 5 _ rfl;have y6:=bx.at_ 6 _ rfl;have y7:=bx.at_ 7 _ rfl;have y8:=bx.at_ 8 _ rfl;have y9:=bx.at_ 9 _ rfl;have y10:=bx.at_ 10 _ rfl;have y11:=bx.at_ 11 _ rfl;have y14:=bx.at_ 14 _ rfl;have y15:=bx.at_ 15 _ rfl;have y16:=bx.at_ 16 _ rfl;have y17:=bx.at_ 17 _ rfl;have y18:=bx.at_ 18 _ rfl;have y19:=bx.at_ 19 _ rfl;have y20:=bx.at_ 20 _ rfl;have y21:=bx.at_ 21 _ rfl;rw [ek] at y0;rw [hth] at y15)|(go_at_call 90;(with_reducible refine (Behind.at_ HV.out hB).mono ?_);rintro e w4 ⟨rfl,hb4⟩;replace bx:=bx.keep hb4 bx.lt;replace hB:=hB.on hb4 hB.size;have y0:=bx.at_ 0 _ rfl;have y3:=bx.at_ 3 _ rfl;have y4:=bx.at_ 4 _ rfl;have y5:=bx.at_ 5 _ rfl;have y6:=bx.at_ 6 _ rfl;have y7:=bx.at_ 7 _ rfl;have y8:=bx.at_ 8 _ rfl;have y9:=bx.at_ 9 _ rfl;have y10:=bx.at_ 10 _ rfl;have y11:=bx.at_ 11 _ rfl;have y14:=bx.at_ 14 _ rfl;have y15:=bx.at_ 15 _ rfl;have y16:=bx.at_ 16 _ rfl;have y17:=bx.at_ 17 _ rfl;have y18:=bx.at_ 18 _ rfl;have y19:=bx.at_ 19 _ rfl;have y20:=bx.at_ 20 _ rfl;have y21:=bx.at_ 21 _ rfl;rw [ek] at y0;rw [hth] at y15)|(go_at_call 91;(with_reducible refine (Behind.at_ HF.out hB).mono ?_);rintro e w5 ⟨rfl,hb5⟩;replace hB:=hB.on hb5 hB.size))
  go_ret
  exact ⟨Zb (by rw [HT.out];simp),hB⟩
set_option maxRecDepth 100000 in
theorem zmm (w:World) (c:MC) (ek:c.k=3) {nn sd vn fs sm:Bool} (H:MsH w c nn sd vn fs) (HSM:Hid (Behind w 86 #[.agg (mcells c).toArray, .agg ([.int .u8 3, .string c.doc, .int .i64 c.n, .int .u8 0, .int .u32 0, .int .u32 0, .int .u8 0, .int .i64 0, .string { data:= #[] }, .slice none 0 0, .slice none 0 0, .slice none 0 0, .int .u32 0, .int .u32 0, .int .u16 0, .bool false, .int .u8 0, .int .i64 0, .string { data:= #[] }, .slice none 0 0, .slice none 0 0, .slice none 0 0] :List Value).toArray] (.bool sm))):
 Calls Tryz.prog 42 #[.agg (mcells c).toArray] w fun e w'=>e= .returned (.bool (sndM c.doc c.n 0 5000 sm true nn sd c.there vn false fs))/\Below w.heap.size w w':=by
 obtain ⟨HN,HS,HV,HF⟩:=H
 obtain ⟨R,hR⟩:∃R,sndM c.doc c.n 0 5000 sm true nn sd c.there vn false fs=R:=⟨_,rfl⟩
 rw [hR]
 rw [sndM] at hR
 obtain ⟨bd,hbd⟩:∃b,(c.doc.toList== [])=b:=⟨_,rfl⟩
 rw [hbd] at hR
 have HR:=qh hR
 clear hR
 have z0:=(BC.start w (mcells c).toArray 46).at_ 0 _ rfl
 have z1:=(BC.start w (mcells c).toArray 46).at_ 1 _ rfl
 rw [ek] at z0
 rcases bcF bd (bcT sm trivial) with rfl|⟨rfl,(rfl|⟨rfl,_⟩)⟩
 all_goals
  go_enter Tryz.func42,Tryz.ntmps42
  go_wp2_with (first|(refine Xm rfl _ _ rfl ?_;refine ⟨w,_,_,_,_, [.int .u8 3, .string c.doc, .int .i64 0, .int .u8 0, .int .u32 0, .int .u32 0, .int .u8 0, .int .i64 0, .string { data:= #[] }, .slice none 0 0, .slice none 0 0, .slice none 0 0, .int .u32 0, .int .u32 0, .int .u16 0, .bool false, .int .u8 0, .int .i64 0, .string { data:= #[] }, .slice none 0 0, .slice none 0 0, .slice none 0 0],rfl,rfl,rfl,rfl,rfl,rfl, ?_⟩;intro W2 bx bxx hB;clear z0 z1;have y0:=bx.at_ 0 _ rfl;have y1:=bx.at_ 1 _ rfl;have y2:=bx.at_ 2 _ rfl;rw [ek] at y0;have x2:=bxx.at_ 2 _ rfl;have g2:=bxx.fr 2)|(refine Zp rfl _ rfl ?_;first|(refine ⟨w.heap.size,mcells c,rfl,rfl,(bx.far (by omega)), ?_⟩)|(refine ⟨w.heap.size+1, [.int .u8 3, .string c.doc, .int .i64 c.n, .int .u8 0, .int .u32 0, .int .u32 0, .int .u8 0, .int .i64 0, .string { data:= #[] }, .slice none 0 0, .slice none 0 0, .slice none 0 0, .int .u32 0, .int .u32 0, .int .u16 0, .bool false, .int .u8 0, .int .i64 0, .string { data:= #[] }, .slice none 0 0, .slice none 0 0, .slice none 0 0],rfl,rfl,(bxx.set (i:=2) (x:= .int .i64 c.n) (by simp)), ?_⟩))|(go_at_call 44;refine (Y3 3 _).mono ?_;rintro e w0 ⟨rfl,rfl⟩)|(go_at_call 86;(with_reducible refine (Behind.at_ HSM.out (hB.setCell (by simp) _)).mono ?_);rintro e w1 ⟨rfl,hb1⟩))
 all_goals first
  |(go_ret;exact ⟨Zb (by rw [<-HR.out];first|(simp;done)|(simp;omega)|(simp;intros;omega)),by first|exact (hB.setCell (by simp) _)|exact Below.on (hB.setCell (by simp) _) hb1 (Below.size (hB.setCell (by simp) _))⟩)
  |skip
 have HT:Hid (R=((if true then !nn && sd else nn) && ((c.there||vn) && (!false && fs)))):=by
  show _=_
  rw [<-HR.out,show decide (c.doc.size<=20)=true by simp;omega,show decide (0<=c.n)=true by simp;omega,show decide (c.n<=5000)=true by simp;omega];rfl
 replace hB:=Below.on (hB.setCell (by simp) _) hb1 (Below.size (hB.setCell (by simp) _))
 replace bx:=BC.keep (bx.far (by omega)) hb1 (BC.lt (bx.far (by omega)))
 clear HR hb1 hbd HSM bxx
 obtain ⟨th,hth⟩:∃b,c.there=b:=⟨_,rfl⟩
 rw [hth] at HT
 have HE:Hid (c.k=3):=ek
 have q0:=bx.at_ 0 _ rfl;have q3:=bx.at_ 3 _ rfl;have q4:=bx.at_ 4 _ rfl;have q5:=bx.at_ 5 _ rfl;have q6:=bx.at_ 6 _ rfl;have q7:=bx.at_ 7 _ rfl;have q8:=bx.at_ 8 _ rfl;have q9:=bx.at_ 9 _ rfl;have q10:=bx.at_ 10 _ rfl;have q11:=bx.at_ 11 _ rfl;rw [ek] at q0
 have r0:=Za q0;have r3:=Za q3;have r4:=Za q4;have r5:=Za q5;have r6:=Za q6;have r7:=Za q7;have r8:=Za q8;have r9:=Za q9;have r10:=Za q10;have r11:=Za q11
 rcases bcF nn (bcT sd (bcO th vn trivial)) with rfl|⟨rfl,(rfl|⟨rfl,(⟨rfl,rfl⟩|⟨(rfl|⟨rfl,rfl⟩),_⟩)⟩)⟩
 all_goals
  refine Zh (by kernel_rfl) (by kernel_rfl) ?_
  repeat (go_big_quiet_step (first|(go_at_call 87;exact Zg (Yd 3 rfl _))|(go_at_call 88;exact Zg (HN.out _ (hB.on (Ze _ _) hB.size)))))
  refine wpQuiet_nil ?_
  intro _ hw'
  obtain ⟨pq,hw''⟩:=hw'
  subst hw''
  replace bx:=bx.keep (Ze w1 pq) bx.lt
  replace hB:=hB.on (Ze w1 pq) hB.size
  clear q0 q3 q4 q5 q6 q7 q8 q9 q10 q11 r0 r3 r4 r5 r6 r7 r8 r9 r10 r11
  have y0:=bx.at_ 0 _ rfl;have y3:=bx.at_ 3 _ rfl;have y4:=bx.at_ 4 _ rfl;have y5:=bx.at_ 5 _ rfl;have y6:=bx.at_ 6 _ rfl;have y7:=bx.at_ 7 _ rfl;have y8:=bx.at_ 8 _ rfl;have y9:=bx.at_ 9 _ rfl;have y10:=bx.at_ 10 _ rfl;have y11:=bx.at_ 11 _ rfl;have y14:=bx.at_ 14 _ rfl;have y15:=bx.at_ 15 _ rfl;have y16:=bx.at_ 16 _ rfl;have y17:=bx.at_ 17 _ rfl;have y18:=bx.at_ 18 _ rfl;have y19:=bx.at_ 19 _ rfl;have y20:=bx.at_ 20 _ rfl;have y21:=bx.at_ 21 _ rfl;rw [ek] at y0
  rw [hth] at y15
  go_wp2_with (first|(go_at_call 87;(with_reducible refine (Yd 3 rfl _).mono ?_);rintro e w2 ⟨rfl,hb2⟩;replace bx:=bx.keep hb2 bx.lt;replace hB:=hB.on hb2 hB.size;have y0:=bx.at_ 0 _ rfl;have y3:=bx.at_ 3 _ rfl;have y4:=bx.at_ 4 _ rfl;have y5:=bx.at_ 5 _ rfl;have y6:=bx.at_ 6 _ rfl;have y7:=bx.at_ 7 _ rfl;have y8:=bx.at_ 8 _ rfl;have y9:=bx.at_ 9 _ rfl;have y10:=bx.at_ 10 _ rfl;have y11:=bx.at_ 11 _ rfl;have y14:=bx.at_ 14 _ rfl;have y15:=bx.at_ 15 _ rfl;have y16:=bx.at_ 16 _ rfl;have y17:=bx.at_ 17 _ rfl;have y18:=bx.at_ 18 _ rfl;have y19:=bx.at_ 19 _ rfl;have y20:=bx.at_ 20 _ rfl;have y21:=bx.at_ 21 _ rfl;rw [ek] at y0;rw [hth] at y15)|(go_at_call 89;(with_reducible refine (Behind.at_ HS.out hB).mono ?_);rintro e w3 ⟨rfl,hb3⟩;replace bx:=bx.keep hb3 bx.lt;replace hB:=hB.on hb3 hB.size;have y0:=bx.at_ 0 _ rfl;have y3:=bx.at_ 3 _ rfl;have y4:=bx.at_ 4 _ rfl;have y5:=bx.at_ 5 _ rfl;have y6:=bx.at_ 6 _ rfl;have y7:=bx.at_ 7 _ rfl;have y8:=bx.at_ 8 _ rfl;have y9:=bx.at_ 9 _ rfl;have y10:=bx.at_ 10 _ rfl;have y11:=bx.at_ 11 _ rfl;have y14:=bx.at_ 14 _ rfl;have y15:=bx.at_ 15 _ rfl;have y16:=bx.at_ 16 _ rfl;have y17:=bx.at_ 17 _ rfl;have y18:=bx.at_ 18 _ rfl;have y19:=bx.at_ 19 _ rfl;have y20:=bx.at_ 20 _ rfl;have y21:=bx.at_ 21 _ rfl;rw [ek] at y0;rw [hth] at y15)|(go_at_call 90;(with_reducible refine (Behind.at_ HV.out hB).mono ?_);rintro e w4 ⟨rfl,hb4⟩;replace bx:=bx.keep hb4 bx.lt;replace hB:=hB.on hb4 hB.size;have y0:=bx.at_ 0 _ rfl;have y3:=bx.at_ 3 _ rfl;have y4:=bx.at_ 4 _ rfl;have y5:=bx.at_ 5 _ rfl;have y6:=bx.at_ 6 _ rfl;have y7:=bx.at_ 7 _ rfl;have y8:=bx.at_ 8 _ rfl;have y9:=bx.at_ 9 _ rfl;have y10:=bx.at_ 10 _ rfl;have y11:=bx.at_ 11 _ rfl;have y14:=bx.at_ 14 _ rfl;have y15:=bx.at_ 15 _ rfl;have y16:=bx.at_ 16 _ rfl;have y17:=bx.at_ 17 _ rfl;have y18:=bx.at_ 18 _ rfl;have y19:=bx.at_ 19 _ rfl;have y20:=bx.at_ 20 _ rfl;have y21:=bx.at_ 21 _ rfl;rw [ek] at y0;rw [hth] at y15)|(go_at_call 91;(with_reducible refine (Behind.at_ HF.out hB).mono ?_);rintro e w5 ⟨rfl,hb5⟩;replace hB:=hB.on hb5 hB.size))
  go_ret
  exact ⟨Zb (by rw [HT.out];simp),hB⟩
end Go.Proofs.YtfoahkbnheijcaaGreatDoor
