/-
  Contracts of the functions that the law reaches: msg.Decode of what says kind 2 or 9.
-/
import Derived.Test.YtfoahkbnheijcaaGreatDoorMa42
namespace Go.Proofs.YtfoahkbnheijcaaGreatDoor
open Go.RowKit
set_option maxHeartbeats 8000000
theorem zd4 (w:World) (rb mb B:Nat) {k:Int} (hkf:k=2∨k=9) (doc:ByteArray) (n:Int) (hk:KB k doc n) (s:List UInt8×Bool) (_hl:s.1.length<=60000) (hR:RdM w rb s.1 s.2) (hM:BC w mb (mcells (mk0 k doc n))):
 Calls Tryz.prog 84 #[.pointer (some ⟨rb,0,none⟩), .pointer (some ⟨mb,0,none⟩)] w (TailPost mb rb B w (tailRd k doc n s)):=by
 have e1:¬k=1:=by omega
 have e3:¬k=3:=by omega
 have e4:¬k=4:=by omega
 have e5:¬k=5:=by omega
 have e6:¬k=6:=by omega
 refine (zmf w rb mb (mk0 k doc n) hM e1 e3 e4 e5 e6).mono fun e w' ⟨h1,h2⟩=> ?_
 subst h2
 rw [tailRd,if_neg (by simp [e3,e5]),if_neg e4,if_neg e6,if_neg e1]
 exact ⟨h1,⟨mk0 k doc n,zd7 hk (Xq _ _) (Zo _ _) (IsStrs.nil _ _) (by decide) (by decide) (by decide) (by decide) (by decide) (by decide),hM⟩,⟨_,hR⟩,Below.refl _ _⟩
set_option maxRecDepth 100000 in
theorem zew (w:World) (hT:Tabs w) (a:Option Addr) (n c:Nat) (bs:List UInt8) (h:IsB w w.heap.size a n c bs) (hl:bs.length<=60000) (hfew:(headP bs).1=2∨(headP bs).1=9):
 Calls Tryz.prog 41 #[.slice a n c] w fun e w'=>(∃cm,e= .returned (.tuple #[.agg (mcells cm).toArray, .int .u16 (decM bs).2])/\IsMsg w' w'.heap.size (decM bs).1 cm)/\Below w.heap.size w w':=by
 have hA:Below w.heap.size w ((w.alloc (.cells #[.int .u8 0, .string { data:= #[] }, .int .i64 0, .int .u8 0, .int .u32 0, .int .u32 0, .int .u8 0, .int .i64 0, .string { data:= #[] }, .slice none 0 0, .slice none 0 0, .slice none 0 0, .int .u32 0, .int .u32 0, .int .u16 0, .bool false, .int .u8 0, .int .i64 0, .string { data:= #[] }, .slice none 0 0, .slice none 0 0, .slice none 0 0] 46)).alloc (.cells #[.slice a n c, .bool false] 130)):=((Below.refl _ _).alloc (Nat.le_refl _) _).alloc (by simp) _
 have hb:=BC.start (w.alloc (.cells #[.int .u8 0, .string { data:= #[] }, .int .i64 0, .int .u8 0, .int .u32 0, .int .u32 0, .int .u8 0, .int .i64 0, .string { data:= #[] }, .slice none 0 0, .slice none 0 0, .slice none 0 0, .int .u32 0, .int .u32 0, .int .u16 0, .bool false, .int .u8 0, .int .i64 0, .string { data:= #[] }, .slice none 0 0, .slice none 0 0, .slice none 0 0] 46)) #[.slice a n c, .bool false] 130
 rw [show (w.alloc (.cells #[.int .u8 0, .string { data:= #[] }, .int .i64 0, .int .u8 0, .int .u32 0, .int .u32 0, .int .u8 0, .int .i64 0, .string { data:= #[] }, .slice none 0 0, .slice none 0 0, .slice none 0 0, .int .u32 0, .int .u32 0, .int .u16 0, .bool false, .int .u8 0, .int .i64 0, .string { data:= #[] }, .slice none 0 0, .slice none 0 0, .slice none 0 0] 46)).heap.size=w.heap.size+1 by simp] at hb
 have hR0:RdM ((w.alloc (.cells #[.int .u8 0, .string { data:= #[] }, .int .i64 0, .int .u8 0, .int .u32 0, .int .u32 0, .int .u8 0, .int .i64 0, .string { data:= #[] }, .slice none 0 0, .slice none 0 0, .slice none 0 0, .int .u32 0, .int .u32 0, .int .u16 0, .bool false, .int .u8 0, .int .i64 0, .string { data:= #[] }, .slice none 0 0, .slice none 0 0, .slice none 0 0] 46)).alloc (.cells #[.slice a n c, .bool false] 130)) (w.heap.size+1) bs false:=⟨⟨a,n,c,hb.at_ 0 _ rfl,(h.keep hA).more (by omega)⟩,hb.at_ 1 _ rfl,hb.fr 0,hb.fr 1⟩
 have hX0:BC ((w.alloc (.cells #[.int .u8 0, .string { data:= #[] }, .int .i64 0, .int .u8 0, .int .u32 0, .int .u32 0, .int .u8 0, .int .i64 0, .string { data:= #[] }, .slice none 0 0, .slice none 0 0, .slice none 0 0, .int .u32 0, .int .u32 0, .int .u16 0, .bool false, .int .u8 0, .int .i64 0, .string { data:= #[] }, .slice none 0 0, .slice none 0 0, .slice none 0 0] 46)).alloc (.cells #[.slice a n c, .bool false] 130)) w.heap.size (mcells mzero):=(BC.start w #[.int .u8 0, .string { data:= #[] }, .int .i64 0, .int .u8 0, .int .u32 0, .int .u32 0, .int .u8 0, .int .i64 0, .string { data:= #[] }, .slice none 0 0, .slice none 0 0, .slice none 0 0, .int .u32 0, .int .u32 0, .int .u16 0, .bool false, .int .u8 0, .int .i64 0, .string { data:= #[] }, .slice none 0 0, .slice none 0 0, .slice none 0 0] 46).keep ((Below.refl _ _).alloc (Nat.le_refl _) _) (by simp)
 have hBs:((w.alloc (.cells #[.int .u8 0, .string { data:= #[] }, .int .i64 0, .int .u8 0, .int .u32 0, .int .u32 0, .int .u8 0, .int .i64 0, .string { data:= #[] }, .slice none 0 0, .slice none 0 0, .slice none 0 0, .int .u32 0, .int .u32 0, .int .u16 0, .bool false, .int .u8 0, .int .i64 0, .string { data:= #[] }, .slice none 0 0, .slice none 0 0, .slice none 0 0] 46)).alloc (.cells #[.slice a n c, .bool false] 130)).heap.size=w.heap.size+2:=by simp
 have hn:=h.len
 have hn2:¬60000<n:=by omega
 have HI:=qh h
 have HT:=qh hT
 have HFEW:=qh hfew
 clear hfew
 have HN1:=qh (zf0 ((w.alloc (.cells #[.int .u8 0, .string { data:= #[] }, .int .i64 0, .int .u8 0, .int .u32 0, .int .u32 0, .int .u8 0, .int .i64 0, .string { data:= #[] }, .slice none 0 0, .slice none 0 0, .slice none 0 0, .int .u32 0, .int .u32 0, .int .u16 0, .bool false, .int .u8 0, .int .i64 0, .string { data:= #[] }, .slice none 0 0, .slice none 0 0, .slice none 0 0] 46)).alloc (.cells #[.slice a n c, .bool false] 130)) (w.heap.size+1) (bs,false) hR0)
 have hK:=zdj (bs,false)
 obtain ⟨ns,hns⟩:∃ns,numP 1 (bs,false)=ns:=⟨_,rfl⟩
 rw [hns] at HN1 hK
 obtain ⟨K,s1⟩:=ns
 dsimp only at HN1 hK
 have hk8:(K:Int) % 256=K:=by omega
 have hk9:IntKind.u8.wrap (K:Int)=K:=by simp [IntKind.wrap,IntKind.bits,IntKind.signed];omega
 have HNS:=qh hns
 have HX0:=qh hX0
 have HBS:=qh hBs
 have HN:=qh hn
 have HA:=qh hA
 clear h hT hb hR0 hns hX0 hBs hn hA
 go_enter Tryz.func41,Tryz.ntmps41
 generalize hQ0:bodyPost _ _ _=Q0
 have HQ:=qh hQ0
 clear hQ0
 go_wp2_with (first
  |(refine Zw rfl _ _ rfl ?_;refine ⟨w1.heap.size, [.int .u8 0, .string { data:= #[] }, .int .i64 0, .int .u8 0, .int .u32 0, .int .u32 0, .int .u8 0, .int .i64 0, .string { data:= #[] }, .slice none 0 0, .slice none 0 0, .slice none 0 0, .int .u32 0, .int .u32 0, .int .u16 0, .bool false, .int .u8 0, .int .i64 0, .string { data:= #[] }, .slice none 0 0, .slice none 0 0, .slice none 0 0],mcells (mk0 K .empty 0),rfl,rfl,BC.start w1 #[.int .u8 0, .string { data:= #[] }, .int .i64 0, .int .u8 0, .int .u32 0, .int .u32 0, .int .u8 0, .int .i64 0, .string { data:= #[] }, .slice none 0 0, .slice none 0 0, .slice none 0 0, .int .u32 0, .int .u32 0, .int .u16 0, .bool false, .int .u8 0, .int .i64 0, .string { data:= #[] }, .slice none 0 0, .slice none 0 0, .slice none 0 0] 46,rfl,rfl,rfl, ?_⟩;intro W2 bm keepf st;have hX2:=keepf _ _ (by omega) (hX1.keep ((Below.refl w1.heap.size w1).alloc (Nat.le_refl _) (.cells #[.int .u8 0, .string { data:= #[] }, .int .i64 0, .int .u8 0, .int .u32 0, .int .u32 0, .int .u8 0, .int .i64 0, .string { data:= #[] }, .slice none 0 0, .slice none 0 0, .slice none 0 0, .int .u32 0, .int .u32 0, .int .u16 0, .bool false, .int .u8 0, .int .i64 0, .string { data:= #[] }, .slice none 0 0, .slice none 0 0, .slice none 0 0] 46)) (by omega));have hR2:=(hR1.of_below ((Below.refl w1.heap.size w1).alloc (Nat.le_refl _) (.cells #[.int .u8 0, .string { data:= #[] }, .int .i64 0, .int .u8 0, .int .u32 0, .int .u32 0, .int .u8 0, .int .i64 0, .string { data:= #[] }, .slice none 0 0, .slice none 0 0, .slice none 0 0, .int .u32 0, .int .u32 0, .int .u16 0, .bool false, .int .u8 0, .int .i64 0, .string { data:= #[] }, .slice none 0 0, .slice none 0 0, .slice none 0 0] 46))).low (st.below (by simp)) (by omega))
  |(go_at_call 82;(with_reducible refine HN1.out.mono ?_);rintro e w1 ⟨rfl,hR1,hS1⟩;have hz1:w.heap.size+2<=w1.heap.size:=Nat.le_trans (Nat.le_of_eq HBS.out.symm) hS1.size;have hX1:=BC.next HX0.out hS1 (by omega))
  |(go_at_call 83;(with_reducible refine (zg1 W2 (w.heap.size+1) s1 hR2).mono ?_);rintro e w3 ⟨rfl,hR3,hS3⟩;have hX3:=hX2.next hS3 (by omega);have hM3:=bm.next hS3 (by omega);have y0:w3.cell? ⟨w1.heap.size,0,none⟩=some (.int .u8 (K:Int)):=hM3.at_ 0 _ rfl;have y1:=hM3.at_ 1 _ rfl;have g1:=hM3.fr 1))
 obtain ⟨tt,htt⟩:∃tt,textP 1 s1=tt:=⟨_,rfl⟩
 have HTX:=qh htt
 have hts:=(zak 1 s1).1
 have hts2:=(zak 1 s1).2
 have hs1:=K5 1 (bs,false)
 rw [HNS.out] at hs1
 rw [htt] at hR3 hts hts2 ⊢
 obtain ⟨doc,s3⟩:=tt
 dsimp only at hR3 hts hts2 hs1 ⊢
 have hM4:BC (w3.setCell ⟨w1.heap.size,1,none⟩ (.string doc)) w1.heap.size (mcells (mk0 K doc 0)):=hM3.set (i:=1) (x:= .string doc) (by simp [mcells])
 have hR4:RdM (w3.setCell ⟨w1.heap.size,1,none⟩ (.string doc)) (w.heap.size+1) s3.1 s3.2:=hR3.far (by omega) [.string doc] 1
 have hX4:BC (w3.setCell ⟨w1.heap.size,1,none⟩ (.string doc)) w.heap.size (mcells mzero):=hX3.far (by omega)
 have hB4:Below w.heap.size w (w3.setCell ⟨w1.heap.size,1,none⟩ (.string doc)):=
  ((((HA.out.trans (hS1.low (by omega) (by have:=HBS.out;omega))).alloc (by omega) _).trans (st.below (by simp)|>.mono (by omega))).trans (hS3.low (by omega) (by have:=hX2.lt;omega))).setCell (by simp;omega) _
 clear hM3 hR3 hX3 y0 y1 g1 hX2 hR2 bm keepf st hS3 hS1 hR1 hX1 htt
 generalize w3.setCell ⟨w1.heap.size,1,none⟩ (.string doc)=W4 at hM4 hR4 hX4 hB4 ⊢
 generalize w1.heap.size=mb at hM4 hz1 ⊢
 have y0:W4.cell? ⟨mb,0,none⟩=some (.int .u8 (K:Int)):=hM4.at_ 0 _ rfl
 have y2:=hM4.at_ 2 _ rfl
 have g2:=hM4.fr 2
 obtain ⟨nb,hnb⟩:∃nb,numberedB (K:Int)=nb:=⟨_,rfl⟩
 have HNB:Hid (∀W,Calls Tryz.prog 44 #[.int .u8 (K:Int)] W fun e w'=>e= .returned (.bool nb)/\w'=W):=fun W=>by rw [<-hnb];exact Y3 K W
 have HNB2:=qh hnb
 have HN4:=qh (zq5 W4 (w.heap.size+1) s3 hR4)
 have l4:=zqk s3
 have l5:=K5 4 s3
 obtain ⟨n4,hn4⟩:∃n4,numP 4 s3=n4:=⟨_,rfl⟩
 rw [hn4] at HN4 l4 l5
 have HN42:=qh hn4
 obtain ⟨N,s4⟩:=n4
 dsimp only at HN4 l4 l5
 have hw:wrap64 ((N:Int) - 1)=(N:Int) - 1:=by unfold wrap64;omega
 have hw2:IntKind.i64.wrap ((N:Int) - 1)=(N:Int) - 1:=by rw [IntKind.wrap_i64];omega
 clear hnb hn4
 have hmlt:=hM4.lt
 cases nb with
 | true =>
   go_wp2_with (first|(go_at_call 44;(with_reducible refine (HNB.out _).mono ?_);rintro e w0 ⟨rfl,hw0⟩;obtain rfl:=hw0.symm)|(go_at_call 82;(with_reducible refine HN4.out.mono ?_);rintro e w5 ⟨rfl,hR5,hS5⟩;have hM5:=hM4.next hS5 (by omega);have hX5:=hX4.next hS5 (by omega);have y2:=hM5.at_ 2 _ rfl;have g2:=hM5.fr 2))
   have hM6:BC (w5.setCell ⟨mb,2,none⟩ (.int .i64 ((N:Int) - 1))) mb (mcells (mk0 K doc ((N:Int) - 1))):=hM5.set (i:=2) (x:= .int .i64 ((N:Int) - 1)) (by simp [mcells])
   have hR6:RdM (w5.setCell ⟨mb,2,none⟩ (.int .i64 ((N:Int) - 1))) (w.heap.size+1) s4.1 s4.2:=hR5.far (by omega) [.int .i64 ((N:Int) - 1)] 2
   have hX6:BC (w5.setCell ⟨mb,2,none⟩ (.int .i64 ((N:Int) - 1))) w.heap.size (mcells mzero):=hX5.far (by omega)
   have hB6:Below w.heap.size w (w5.setCell ⟨mb,2,none⟩ (.int .i64 ((N:Int) - 1))):=(hB4.trans (hS5.low (by omega) (by omega))).setCell (by simp;omega) _
   have HHD:Hid (headP bs=((K:Int),doc,(N:Int) - 1,s4)):=by
    show _=_
    simp only [headP,HNS.out,HTX.out,HNB2.out,HN42.out,if_true]
   clear hM5 hR5 hX5 hS5 y0 y2 g2 hM4 hR4 hX4 hB4
   generalize w5.setCell ⟨mb,2,none⟩ (.int .i64 ((N:Int) - 1))=W6 at hM6 hR6 hX6 hB6 ⊢
   have hkb:KB K doc ((N:Int) - 1):=⟨by omega,by omega,by omega,by omega,by omega⟩
   have HRD:Hid (rdMsg bs=tailRd K doc ((N:Int) - 1) s4):=by show _=_;rw [rdMsg,HHD.out]
   have HFT:=qh (zdh K doc ((N:Int) - 1) s4 (by omega))
   have HTL:=qh (zd4 W6 (w.heap.size+1) mb (w.heap.size+1) (by have h:=HFEW.out;rw [HHD.out] at h;exact h) doc ((N:Int) - 1) hkb s4 (by omega) hR6 hM6)
   obtain ⟨R,hR⟩:∃R,tailRd K doc ((N:Int) - 1) s4=R:=⟨_,rfl⟩
   rw [hR] at HRD HFT HTL
   obtain ⟨m,er,sh⟩:=R
   replace HTL:Hid (Calls Tryz.prog 84 #[.pointer (some ⟨w.heap.size+1,0,none⟩), .pointer (some ⟨mb,0,none⟩)] W6 fun e w'=>e= .returned (.int .u16 er)/\(∃c',IsMsg (only (fun b=>mb<b) w') w'.heap.size m c'/\BC w' mb (mcells c'))/\(∃bs',RdM w' (w.heap.size+1) bs' sh)/\Below (w.heap.size+1) W6 w'):=HTL
   clear hR hkb
   have fin:∀ {W7 W8:World},Below (w.heap.size+1) W6 W7->RStep W7 W8 w.heap.size->Below w.heap.size w W8:=fun h7 h8=>(hB6.trans (h7.mono (by omega))).trans (h8.low (Nat.le_refl _) (Nat.le_trans hB6.size h7.size))
   by_cases he:er=0
   .subst he
    cases sh with
    | true=>
      have hD:Hid (decM bs=(Ms.none,190)):=by
       show _=_
       rw [decM,if_neg (by omega),HRD.out,if_neg (by simp)]
      go_wp2_with (first|(refine Zw rfl _ _ rfl ?_;refine ⟨w.heap.size,mcells mzero,mcells mzero,rfl,rfl,hX7,rfl,rfl,rfl, ?_⟩;intro W8 bm keepf st;have HBM:=qh bm;have HST:=qh st;clear bm keepf st)|(go_at_call 84;(with_reducible refine HTL.out.mono ?_);rintro e w7 ⟨rfl,⟨c7,hI7,hM7⟩,⟨bs7,hR7⟩,hb7⟩;have hX7:=hX6.keep hb7 (by omega);have y7:=hR7.short))
      rw [<-HQ.out]
      exact ⟨rfl,_,Yw rfl rfl HBM.out,⟨mzero,by rw [hD.out];rfl,by rw [hD.out];exact Xh _ _⟩,fin hb7 HST.out⟩
    | false =>
      obtain ⟨⟨f2,b2⟩,hE⟩:∃p,encMsg m=p:=⟨_,rfl⟩
      have HE:=qh hE
      clear hE
      go_wp2_with (first|(refine Zp rfl _ rfl ?_;first|(refine ⟨mb,mcells c7,rfl,rfl,hM7, ?_⟩))|(go_at_call 84;(with_reducible refine HTL.out.mono ?_);rintro e w7 ⟨rfl,⟨c7,hI7,hM7⟩,⟨bs7,hR7⟩,hb7⟩;have hX7:=hX6.keep hb7 (by omega);have y7:=hR7.short;have HI7:=qh hI7;have hB7:Below w.heap.size w w7:=hB6.trans (hb7.mono (by omega));have hT7:=qh (HT.out.below hB7);clear hI7))
      go_at_call 12
      have hq:=Q8 m w7 hT7.out c7 (HI7.out.sub (Zt _ _ _)) HFT.out
      rw [HE.out] at hq
      dsimp only at hq
      (with_reducible refine hq.mono ?_)
      rintro e w8 ⟨⟨a8,n8,c8,rfl,hI8⟩,hb8⟩
      have hM8:=hM7.keep hb8 hM7.lt
      have hX8:=hX7.keep hb8 (by have:=hM7.lt;omega)
      have hB8:Below (w.heap.size+1) W6 w8:=hb7.trans (hb8.mono (by have:=hM7.lt;omega))
      have hBw8:Below w.heap.size w w8:=hB6.trans (hB8.mono (by omega))
      by_cases hf:f2=0
      .subst hf
       have heq:=zca w8 w8.heap.size w8.heap.size a8 a n8 n c8 c b2 bs hI8 ((HI.out.keep hBw8).more hBw8.size)
       obtain ⟨q,hq2⟩:∃q,eqBs b2 bs=q:=⟨_,rfl⟩
       rw [hq2] at heq
       have HEQ:=qh heq
       have HQ2:=qh hq2
       clear heq hq2
       cases q with
       | false=>
         have hD:Hid (decM bs=(Ms.none,190)):=by
          show _=_
          rw [decM,if_neg (by omega),HRD.out,if_neg]
          dsimp only
          rw [HE.out,HQ2.out]
          simp
         go_wp2_with (first|(refine Zw rfl _ _ rfl ?_;refine ⟨w.heap.size,mcells mzero,mcells mzero,rfl,rfl,hX8,rfl,rfl,rfl, ?_⟩;intro W8 bm keepf st;have HBM:=qh bm;have HST:=qh st;clear bm keepf st)|(go_at_call 85;(with_reducible refine HEQ.out.mono ?_);rintro e wq ⟨rfl,hwq⟩;obtain rfl:=hwq.symm))
         rw [<-HQ.out]
         exact ⟨rfl,_,Yw rfl rfl HBM.out,⟨mzero,by rw [hD.out];rfl,by rw [hD.out];exact Xh _ _⟩,fin hB8 HST.out⟩
       | true=>
         have hD:Hid (decM bs=(m,0)):=by
          show _=_
          rw [decM,if_neg (by omega),HRD.out,if_pos]
          dsimp only
          rw [HE.out,HQ2.out]
          simp
         go_wp2_with (first|(refine Zw rfl _ _ rfl ?_;refine ⟨w.heap.size,mcells mzero,mcells c7,rfl,rfl,hX8,rfl,rfl,rfl, ?_⟩;intro W8 bm keepf st;have HBM:=qh bm;have HST:=qh st;clear bm keepf st)|(refine Zp rfl _ rfl ?_;refine ⟨mb,mcells c7,rfl,rfl,hM8, ?_⟩)|(go_at_call 85;(with_reducible refine HEQ.out.mono ?_);rintro e wq ⟨rfl,hwq⟩;obtain rfl:=hwq.symm))
         rw [<-HQ.out]
         have hz8:=hb8.size
         have hz9:=HST.out.size
         exact ⟨rfl,_,Yw rfl rfl HBM.out,⟨c7,by rw [hD.out];rfl,by rw [hD.out];exact ((HI7.out.sub (Zf (S':=fun b=>mb<b) (fun k hk hl=>⟨hk,(HST.out.block k (by omega) (by omega)).trans (hb8.block k hl)⟩))).sub (Zt _ _ _)).more (by omega)⟩,fin hB8 HST.out⟩
      .have fe:(f2 !=0)=true:=by simp [hf]
       have hD:Hid (decM bs=(Ms.none,190)):=by
        show _=_
        rw [decM,if_neg (by omega),HRD.out,if_neg]
        dsimp only
        rw [HE.out]
        simp [hf]
       clear hf
       go_wp2_with (refine Zw rfl _ _ rfl ?_;refine ⟨w.heap.size,mcells mzero,mcells mzero,rfl,rfl,hX8,rfl,rfl,rfl, ?_⟩;intro W8 bm keepf st;have HBM:=qh bm;have HST:=qh st;clear bm keepf st)
       rw [<-HQ.out]
       exact ⟨rfl,_,Yw rfl rfl HBM.out,⟨mzero,by rw [hD.out];rfl,by rw [hD.out];exact Xh _ _⟩,fin hB8 HST.out⟩
   .have fe:(er !=0)=true:=by simp [he]
    have hD:Hid (decM bs=(Ms.none,190)):=by
     show _=_
     rw [decM,if_neg (by omega),HRD.out,if_neg (by simp [he])]
    clear he
    go_wp2_with (first|(refine Zw rfl _ _ rfl ?_;refine ⟨w.heap.size,mcells mzero,mcells mzero,rfl,rfl,hX7,rfl,rfl,rfl, ?_⟩;intro W8 bm keepf st;have HBM:=qh bm;have HST:=qh st;clear bm keepf st)|(go_at_call 84;(with_reducible refine HTL.out.mono ?_);rintro e w7 ⟨rfl,⟨c7,hI7,hM7⟩,⟨bs7,hR7⟩,hb7⟩;have hX7:=hX6.keep hb7 (by omega);have y7:=hR7.short))
    rw [<-HQ.out]
    exact ⟨rfl,_,Yw rfl rfl HBM.out,⟨mzero,by rw [hD.out];rfl,by rw [hD.out];exact Xh _ _⟩,fin hb7 HST.out⟩
 | false =>
   go_wp2_with (go_at_call 44;(with_reducible refine (HNB.out _).mono ?_);rintro e w0 ⟨rfl,hw0⟩;obtain rfl:=hw0.symm)
   have hM6:=hM4;have hR6:=hR4;have hX6:=hX4;have hB6:=hB4
   have HHD:Hid (headP bs=((K:Int),doc,0,s3)):=by
    show _=_
    simp only [headP,HNS.out,HTX.out,HNB2.out]
    rfl
   clear hM4 hR4 hX4 hB4 y0 y2 g2
   generalize W4=W6 at hM6 hR6 hX6 hB6 hmlt ⊢
   have hkb:KB K doc 0:=⟨by omega,by omega,by omega,by omega,by omega⟩
   have HRD:Hid (rdMsg bs=tailRd K doc 0 s3):=by show _=_;rw [rdMsg,HHD.out]
   have HFT:=qh (zdh K doc 0 s3 (by omega))
   have HTL:=qh (zd4 W6 (w.heap.size+1) mb (w.heap.size+1) (by have h:=HFEW.out;rw [HHD.out] at h;exact h) doc 0 hkb s3 (by omega) hR6 hM6)
   obtain ⟨R,hR⟩:∃R,tailRd K doc 0 s3=R:=⟨_,rfl⟩
   rw [hR] at HRD HFT HTL
   obtain ⟨m,er,sh⟩:=R
   replace HTL:Hid (Calls Tryz.prog 84 #[.pointer (some ⟨w.heap.size+1,0,none⟩), .pointer (some ⟨mb,0,none⟩)] W6 fun e w'=>e= .returned (.int .u16 er)/\(∃c',IsMsg (only (fun b=>mb<b) w') w'.heap.size m c'/\BC w' mb (mcells c'))/\(∃bs',RdM w' (w.heap.size+1) bs' sh)/\Below (w.heap.size+1) W6 w'):=HTL
   clear hR hkb
   have fin:∀ {W7 W8:World},Below (w.heap.size+1) W6 W7->RStep W7 W8 w.heap.size->Below w.heap.size w W8:=fun h7 h8=>(hB6.trans (h7.mono (by omega))).trans (h8.low (Nat.le_refl _) (Nat.le_trans hB6.size h7.size))
   by_cases he:er=0
   .subst he
    cases sh with
    | true=>
      have hD:Hid (decM bs=(Ms.none,190)):=by
       show _=_
       rw [decM,if_neg (by omega),HRD.out,if_neg (by simp)]
      go_wp2_with (first|(refine Zw rfl _ _ rfl ?_;refine ⟨w.heap.size,mcells mzero,mcells mzero,rfl,rfl,hX7,rfl,rfl,rfl, ?_⟩;intro W8 bm keepf st;have HBM:=qh bm;have HST:=qh st;clear bm keepf st)|(go_at_call 84;(with_reducible refine HTL.out.mono ?_);rintro e w7 ⟨rfl,⟨c7,hI7,hM7⟩,⟨bs7,hR7⟩,hb7⟩;have hX7:=hX6.keep hb7 (by omega);have y7:=hR7.short))
      rw [<-HQ.out]
      exact ⟨rfl,_,Yw rfl rfl HBM.out,⟨mzero,by rw [hD.out];rfl,by rw [hD.out];exact Xh _ _⟩,fin hb7 HST.out⟩
    | false =>
      obtain ⟨⟨f2,b2⟩,hE⟩:∃p,encMsg m=p:=⟨_,rfl⟩
      have HE:=qh hE
      clear hE
      go_wp2_with (first|(refine Zp rfl _ rfl ?_;first|(refine ⟨mb,mcells c7,rfl,rfl,hM7, ?_⟩))|(go_at_call 84;(with_reducible refine HTL.out.mono ?_);rintro e w7 ⟨rfl,⟨c7,hI7,hM7⟩,⟨bs7,hR7⟩,hb7⟩;have hX7:=hX6.keep hb7 (by omega);have y7:=hR7.short;have HI7:=qh hI7;have hB7:Below w.heap.size w w7:=hB6.trans (hb7.mono (by omega));have hT7:=qh (HT.out.below hB7);clear hI7))
      go_at_call 12
      have hq:=Q8 m w7 hT7.out c7 (HI7.out.sub (Zt _ _ _)) HFT.out
      rw [HE.out] at hq
      dsimp only at hq
      (with_reducible refine hq.mono ?_)
      rintro e w8 ⟨⟨a8,n8,c8,rfl,hI8⟩,hb8⟩
      have hM8:=hM7.keep hb8 hM7.lt
      have hX8:=hX7.keep hb8 (by have:=hM7.lt;omega)
      have hB8:Below (w.heap.size+1) W6 w8:=hb7.trans (hb8.mono (by have:=hM7.lt;omega))
      have hBw8:Below w.heap.size w w8:=hB6.trans (hB8.mono (by omega))
      by_cases hf:f2=0
      .subst hf
       have heq:=zca w8 w8.heap.size w8.heap.size a8 a n8 n c8 c b2 bs hI8 ((HI.out.keep hBw8).more hBw8.size)
       obtain ⟨q,hq2⟩:∃q,eqBs b2 bs=q:=⟨_,rfl⟩
       rw [hq2] at heq
       have HEQ:=qh heq
       have HQ2:=qh hq2
       clear heq hq2
       cases q with
       | false=>
         have hD:Hid (decM bs=(Ms.none,190)):=by
          show _=_
          rw [decM,if_neg (by omega),HRD.out,if_neg]
          dsimp only
          rw [HE.out,HQ2.out]
          simp
         go_wp2_with (first|(refine Zw rfl _ _ rfl ?_;refine ⟨w.heap.size,mcells mzero,mcells mzero,rfl,rfl,hX8,rfl,rfl,rfl, ?_⟩;intro W8 bm keepf st;have HBM:=qh bm;have HST:=qh st;clear bm keepf st)|(go_at_call 85;(with_reducible refine HEQ.out.mono ?_);rintro e wq ⟨rfl,hwq⟩;obtain rfl:=hwq.symm))
         rw [<-HQ.out]
         exact ⟨rfl,_,Yw rfl rfl HBM.out,⟨mzero,by rw [hD.out];rfl,by rw [hD.out];exact Xh _ _⟩,fin hB8 HST.out⟩
       | true=>
         have hD:Hid (decM bs=(m,0)):=by
          show _=_
          rw [decM,if_neg (by omega),HRD.out,if_pos]
          dsimp only
          rw [HE.out,HQ2.out]
          simp
         go_wp2_with (first|(refine Zw rfl _ _ rfl ?_;refine ⟨w.heap.size,mcells mzero,mcells c7,rfl,rfl,hX8,rfl,rfl,rfl, ?_⟩;intro W8 bm keepf st;have HBM:=qh bm;have HST:=qh st;clear bm keepf st)|(refine Zp rfl _ rfl ?_;refine ⟨mb,mcells c7,rfl,rfl,hM8, ?_⟩)|(go_at_call 85;(with_reducible refine HEQ.out.mono ?_);rintro e wq ⟨rfl,hwq⟩;obtain rfl:=hwq.symm))
         rw [<-HQ.out]
         have hz8:=hb8.size
         have hz9:=HST.out.size
         exact ⟨rfl,_,Yw rfl rfl HBM.out,⟨c7,by rw [hD.out];rfl,by rw [hD.out];exact ((HI7.out.sub (Zf (S':=fun b=>mb<b) (fun k hk hl=>⟨hk,(HST.out.block k (by omega) (by omega)).trans (hb8.block k hl)⟩))).sub (Zt _ _ _)).more (by omega)⟩,fin hB8 HST.out⟩
      .have fe:(f2 !=0)=true:=by simp [hf]
       have hD:Hid (decM bs=(Ms.none,190)):=by
        show _=_
        rw [decM,if_neg (by omega),HRD.out,if_neg]
        dsimp only
        rw [HE.out]
        simp [hf]
       clear hf
       go_wp2_with (refine Zw rfl _ _ rfl ?_;refine ⟨w.heap.size,mcells mzero,mcells mzero,rfl,rfl,hX8,rfl,rfl,rfl, ?_⟩;intro W8 bm keepf st;have HBM:=qh bm;have HST:=qh st;clear bm keepf st)
       rw [<-HQ.out]
       exact ⟨rfl,_,Yw rfl rfl HBM.out,⟨mzero,by rw [hD.out];rfl,by rw [hD.out];exact Xh _ _⟩,fin hB8 HST.out⟩
   .have fe:(er !=0)=true:=by simp [he]
    have hD:Hid (decM bs=(Ms.none,190)):=by
     show _=_
     rw [decM,if_neg (by omega),HRD.out,if_neg (by simp [he])]
    clear he
    go_wp2_with (first|(refine Zw rfl _ _ rfl ?_;refine ⟨w.heap.size,mcells mzero,mcells mzero,rfl,rfl,hX7,rfl,rfl,rfl, ?_⟩;intro W8 bm keepf st;have HBM:=qh bm;have HST:=qh st;clear bm keepf st)|(go_at_call 84;(with_reducible refine HTL.out.mono ?_);rintro e w7 ⟨rfl,⟨c7,hI7,hM7⟩,⟨bs7,hR7⟩,hb7⟩;have hX7:=hX6.keep hb7 (by omega);have y7:=hR7.short))
    rw [<-HQ.out]
    exact ⟨rfl,_,Yw rfl rfl HBM.out,⟨mzero,by rw [hD.out];rfl,by rw [hD.out];exact Xh _ _⟩,fin hb7 HST.out⟩
def knM:Ms:=⟨2,⟨#[97]⟩,0,En.none,0,0,0,false,V.none, []⟩
theorem zf3:msgSound knM=true:=by
 have h1:(⟨#[97]⟩:ByteArray).toList= [97] :=by rw [ByteArray.toList_eq]
 have h2:(⟨#[97]⟩:ByteArray).size=1:=rfl
 simp [msgSound,knM,sndM,sameM,numberedB,bringsB,enNone,En.none,eqv,fieldsSound,h1,h2]
theorem zbb:encMsg knM=(0, [2,1,97]):=by
 rw [encMsg,zf3]
 rfl
theorem zn0:decM [9] =(Ms.none,190):=by
 refine zq9 (by simp) ?_
 rw [decM,if_neg (by simp),if_neg]
 .decide
 .intro h
  have h2:(rdMsg [9]).2.2=true:=rfl
  rw [h2] at h
  simp at h
theorem zkq:rdMsg [2,1,97] =(knM,0,false):=rfl
theorem zie:decM [2,1,97] =(knM,0):=by
 rw [decM,if_neg (by simp),zkq,if_pos]
 exact ⟨rfl,rfl,by rw [zbb],by rw [zbb];simp [eqBs]⟩
def knMC:MC:=⟨2,⟨#[97]⟩,0,ezero,0,0,0,false,vzero,none,0,0⟩
theorem zfo (w:World) (B:Nat):IsMsg w B knM knMC:=zd7 ⟨by decide,by decide,by decide,by decide,by decide⟩ (Xq _ _) (Zo _ _) (IsStrs.nil _ _) (by decide) (by decide) (by decide) (by decide) (by decide) (by decide)
theorem zif:knM.Fits:=Z5 Ym Yc (by simp [encFs])
theorem znr {W:World} {B:Nat} {c:MC} (h:IsMsg W B knM c):c.k=2/\c.doc=⟨#[97]⟩:=by
 obtain ⟨x,hx⟩:∃x,knM=x:=⟨_,rfl⟩
 rw [hx] at h
 cases h with
 | mk _ e v f h1 h2 h3 h4=>
   have a:=congrArg Ms.k hx;have b:=congrArg Ms.doc hx
   exact ⟨a.symm,b.symm⟩
theorem zp0 (w:World) (hT:Tabs w):Calls Tryz.prog 12 #[.agg (mcells knMC).toArray] w fun e w'=>(∃a cp,e= .returned (.tuple #[.slice a 3 cp, .int .u16 0])/\IsB w' w'.heap.size a 3 cp [2,1,97])/\Below w.heap.size w w':=by
 have h:=Q8 knM w hT knMC (zfo _ _) zif
 rw [zbb] at h
 refine h.mono fun e w' ⟨⟨a,n,cp,h1,h2⟩,h3⟩=> ?_
 obtain rfl:n=3:=h2.len
 exact ⟨⟨a,cp,h1,h2⟩,h3⟩
theorem zl7 (w:World) (hT:Tabs w) (a:Option Addr) (c:Nat) (h:IsB w w.heap.size a 3 c [2,1,97]):Calls Tryz.prog 41 #[.slice a 3 c] w fun e w'=>(∃cm,e= .returned (.tuple #[.agg (mcells cm).toArray, .int .u16 0])/\cm.k=2/\cm.doc=⟨#[97]⟩)/\Below w.heap.size w w':=by
 have h2:=(zew w hT a 3 c _ h (by decide) (.inl rfl))
 rw [zie] at h2
 exact h2.mono fun e w' ⟨⟨cm,h3,h4⟩,h5⟩=>⟨⟨cm,h3,znr h4⟩,h5⟩
theorem ziv (w:World) (hT:Tabs w) (a:Option Addr) (c:Nat) (h:IsB w w.heap.size a 1 c [9]):Calls Tryz.prog 41 #[.slice a 1 c] w fun e w'=>(∃cm,e= .returned (.tuple #[.agg (mcells cm).toArray, .int .u16 190]))/\Below w.heap.size w w':=by
 have h2:=(zew w hT a 1 c _ h (by decide) (.inr rfl))
 rw [zn0] at h2
 exact h2.mono fun e w' ⟨⟨cm,h3,h4⟩,h5⟩=>⟨⟨cm,h3⟩,h5⟩
set_option maxRecDepth 100000 in
theorem zpy (w:World) (hT:Tabs w):Calls Tryz.prog 11 #[] w fun e w'=>e= .returned (.bool true)/\Below w.heap.size w w':=by
 have HT:=qh hT
 have HE:=qh (zp0 w hT)
 clear hT
 go_enter Tryz.func11,Tryz.ntmps11
 go_wp2_with fail
 refine HE.out.mono ?_
 rintro e w1 ⟨⟨a1,c1,rfl,hI1⟩,hb1⟩
 have HD:=qh (zl7 w1 (HT.out.below hb1) a1 c1 hI1)
 have HI1:=qh hI1
 clear hI1
 go_wp2_with fail
 refine HD.out.mono ?_
 rintro e w2 ⟨⟨c2,rfl,e2k,e2d⟩,hb2⟩
 have e2k':=qh e2k
 have e2d':=qh e2d
 have HB2:=qh (hb1.trans (hb2.mono hb1.size))
 clear e2k e2d
 go_wp2_with (refine Zw rfl _ _ rfl ?_;refine ⟨w2.heap.size,mcells mzero,mcells c2,rfl,rfl,BC.start w2 (mcells mzero).toArray 46,rfl,rfl,rfl, ?_⟩;intro W3 bm keepf st;have b23:Below w2.heap.size w2 W3:=((Below.refl w2.heap.size w2).alloc (Nat.le_refl _) (.cells (mcells mzero).toArray 46)).trans (st.below (by simp));have HB3:=qh (HB2.out.trans (b23.mono HB2.out.size));have B13:=qh (hb2.trans (b23.mono hb2.size));clear keepf st b23)
 have hI9:=(OwnB.one W3 W3.heap.size (Nat.le_refl _) 9 (k:=9) rfl).isB
 refine (ziv _ (HT.out.below (HB3.out.alloc HB3.out.size _)) _ _ hI9).mono ?_
 rintro e w5 ⟨⟨c5,rfl⟩,hb5⟩
 have b35:Below W3.heap.size W3 w5:=((Below.refl _ _).alloc (Nat.le_refl _) _).trans (hb5.mono (by simp))
 have bm5:=bm.keep b35 bm.lt
 have HB5:=qh (HB3.out.trans (b35.mono HB3.out.size))
 have B15:=qh (B13.out.trans (b35.mono B13.out.size))
 clear bm b35 hb5 hI9 hb2 HE HD
 go_wp2_with (refine Zw rfl _ _ rfl ?_;refine ⟨w5.heap.size,mcells mzero,mcells c5,rfl,rfl,BC.start w5 (mcells mzero).toArray 46,rfl,rfl,rfl, ?_⟩;intro W6 bm6 keepf st;have b56:Below w5.heap.size w5 W6:=((Below.refl w5.heap.size w5).alloc (Nat.le_refl _) (.cells (mcells mzero).toArray 46)).trans (st.below (by simp));have HB6:=qh (HB5.out.trans (b56.mono HB5.out.size));have bm7:=bm5.keep b56 bm5.lt;have hcv:=Yp (HI1.out.keep (B15.out.trans (b56.mono B15.out.size)));have x0:=bm7.at_ 0 _ rfl;have x1:=bm7.at_ 1 _ rfl;rw [e2k'.out] at x0;rw [e2d'.out] at x1;clear keepf st b56 bm6 bm7)
 go_returns
 exact ⟨rfl,HB6.out⟩
end Go.Proofs.YtfoahkbnheijcaaGreatDoor
