/-
  Contracts of the functions that the law reaches: turn.own: each of a row in memory of its.
-/
import Derived.Test.YtbgheehjfnoiiaaGreatDoorOn40
import Derived.Test.YtbgheehjfnoiiaaGreatDoorOn41
namespace Go.Proofs.YtbgheehjfnoiiaaGreatDoor
open Go.RowKit
set_option maxHeartbeats 16000000
theorem RowC.put {w4:World} {base g c j:Nat} {l:List Cm} {cs:List CC} {d:CC} (h:RowC w4 base (.slice (some ⟨g,0,none⟩) l.length c) l cs) (hl:cs.length=l.length) (hj:j<l.length) (hd:IsComp (only (Free base (.slice (some ⟨g,0,none⟩) l.length c)) w4) w4.heap.size l[j] d):RowC (setCo w4 g (j*12) d) base (.slice (some ⟨g,0,none⟩) l.length c) l (cs.set j d):=by
 have st:=zaj w4 g (j*12) d
 have hs:Shows (only (Free base (.slice (some ⟨g,0,none⟩) l.length c)) w4) (only (Free base (.slice (some ⟨g,0,none⟩) l.length c)) (setCo w4 g (j*12) d)) w4.heap.size:=Ze fun k hk hlt=>⟨hk,st.block k hlt fun e=>hk.2 (by rw [e];rfl)⟩
 refine ⟨zbq h.own (by omega) d,fun i hi hi2=> ?_⟩
 by_cases e:i=j
 .subst e
  have e2:(cs.set i d).getD i czero=d:=by rw [List.getD_eq_getElem?_getD,List.getElem?_set_self (by omega)];rfl
  rw [e2]
  exact (hd.sub hs).more st.size
 .have e2:(cs.set j d).getD i czero=cs.getD i czero:=by rw [List.getD_eq_getElem?_getD,List.getD_eq_getElem?_getD,List.getElem?_set_ne (fun e3=>e e3.symm)]
  rw [e2]
  exact ((h.els i hi hi2).sub hs).more st.size
structure LW (w wr:World) (base:Nat) (u:Value) (l:List Cm) (cs:List CC):Prop where
 row:RowC wr base u l cs
 cen:cs.length=l.length
 below:Below base w wr
set_option maxRecDepth 100000 in
theorem zez (w:World) (base:Nat) (hb0:0<base) (hB:base<=w.heap.size) (l:List Cm) (a:Option Addr) (c:Nat) (cs:List CC) (h:RowC w base (.slice a l.length c) l cs) (hl:cs.length=l.length) (hn:l.length<=1000):
 uP 77 #[.slice a l.length c] w fun e w'=>e= .returned (.slice a l.length c)/\∃cs',LW w w' base (.slice a l.length c) l cs':=by
 delta uP
 have HLW:Hid (LW w w base (.slice a l.length c) l cs):=qh ⟨h,hl,Below.refl _ _⟩
 clear h hl
 go_enter Tryz.func77,Tryz.ntmps77
 generalize hQ0:bodyPost _ _ _=Q0
 have HQ:=qh hQ0
 clear hQ0
 go_wp2_with fail
 go_loopw [6] (fun i wr=>∃(j:Nat) (cs:List CC),i= .int .i64 j/\j<=l.length/\Hid (LW w wr base (.slice a l.length c) l cs)) (fun i _=>l.length - (intOf i).toNat)
 case atStart=>exact ⟨0,cs,rfl,Nat.zero_le _,HLW⟩
 case round=>
  clear HLW
  obtain ⟨j,cs,rfl,hj,HL⟩:=hrel
  by_cases hlt:j<l.length
  .have hlh:=HL.out
   obtain ⟨g,rfl⟩:∃g,a=some ⟨g,0,none⟩:=by
    rcases hlh.row.own.2 with ⟨e,h0⟩|⟨g,_,_,e,_⟩
    .omega
    .injection e with e1;exact ⟨g,e1⟩
   obtain ⟨d,hd⟩:∃d,cs.getD j czero=d:=⟨_,rfl⟩
   have hrow:=zb8 hlh.row.own (i:=j) (by rw [hlh.cen];exact hlt) hd
   have hic:IsComp (only (Free base (.slice (some ⟨g,0,none⟩) l.length c)) wr) wr.heap.size l[j] d:=by rw [<-hd];exact hlh.row.els j hlt hlt
   obtain ⟨hgb,hgw⟩:=hlh.row.lt g rfl
   have gf:∀q,wr.frozen? ⟨g,q,none⟩=false:=fun q=>hlh.row.own.frozenAt q
   have HC:=qh (Kt wr l[j] d (IsComp.sub (Zl _ _ _) hic))
   obtain ⟨e0,e1,e2,e3,e4,e5,e6,e7,e8,e9,e10,e11⟩:=row12 hrow
   rw [Nat.add_zero] at e0
   have hj0:¬((j:Int)<0):=by omega
   have hjn:(j:Int)<(l.length:Int):=by omega
   have HGB:=qh hgb
   clear hlh hd hrow hic hgb
   go_wp2_with fail
   refine HC.out.mono ?_
   rintro e w4 ⟨⟨d4,rfl,hd4⟩,hb4⟩
   have hr4:=HL.out.row.later (PC.closed _ _) (.of_below 0 hb4) hb0
   have hz4:=hb4.size
   have hBr:base<=wr.heap.size:=by have:=HL.out.below.size;omega
   have hr5:=RowC.put hr4 HL.out.cen hlt (hd4.sub (Ze fun k hk _=>⟨⟨Nat.le_trans hBr hk,fun e=>by have:k=g:=(by simpa [Value.ownBlock] using e);have hk':wr.heap.size<=k:=hk;omega⟩,rfl⟩))
   have hbel:Below base w (setCo w4 g (j*12) d4):=(HL.out.below.trans (hb4.mono hBr)).trans (((((((((((((Below.refl base w4).set_ HGB.out).set_ HGB.out).set_ HGB.out).set_ HGB.out).set_ HGB.out).set_ HGB.out).set_ HGB.out).set_ HGB.out).set_ HGB.out).set_ HGB.out).set_ HGB.out).set_ HGB.out)
   have HLW:Hid (LW w (setCo w4 g (j*12) d4) base (.slice (some ⟨g,0,none⟩) l.length c) l (cs.set j d4)):=qh ⟨hr5,by rw [List.length_set];exact HL.out.cen,hbel⟩
   have hrow4:=zb8 hr4.own (i:=j) (by rw [HL.out.cen];exact hlt) rfl
   have gf4:∀q,w4.frozen? ⟨g,q,none⟩=false:=fun q=>hr4.own.frozenAt q
   have hgw4:g<w4.heap.size:=Nat.lt_of_lt_of_le hgw hz4
   unfold setCo at HLW
   clear hr4 hr5 hbel hd4 hb4 HC e0 e1 e2 e3 e4 e5 e6 e7 e8 e9 e10 e11 gf hz4 hBr hgw
   obtain ⟨e0,e1,e2,e3,e4,e5,e6,e7,e8,e9,e10,e11⟩:=row12 hrow4
   rw [Nat.add_zero] at e0
   clear hrow4
   go_wp2_with fail
   go_roundw
   case rel=>exact ⟨j+1,cs.set j d4,by go_num,by omega,HLW⟩
   case measure=>simp [intOf];omega
  .obtain rfl:j=l.length:=by omega
   go_wp2_with fail
   rw [<-HQ.out]
   exact ⟨rfl,_,by simp [results,Tryz.results77,go_sem],rfl,cs,HL.out⟩
theorem zgz {w:World} {B:Nat} {x:Cm} {d:CC} {t:Int×Int×Int} (h:IsComp w B x d) (ht:In64 t):IsComp w B (x.t3 t) (d.t3 t):=by
 obtain ⟨i,j,n⟩:=t
 cases h with
 |mk d p xv hb hp hx=>exact .mk (d.to i j n) p xv ⟨hb.k0,hb.k1,ht.1.1,ht.1.2,ht.2.1.1,ht.2.1.2,ht.2.2.1,ht.2.2.2,hb.key1,hb.s1⟩ hp hx
theorem zmq {x y:Cm} {d b:CC} (left:Bool) (hx:x.k=d.k/\x.key=d.key/\x.i=d.i/\x.j=d.j/\x.n=d.n) (hy:y.k=b.k/\y.key=b.key/\y.i=b.i/\y.j=b.j/\y.n=b.n/\y.s=b.s) (hb:In64 (d.i,d.j,d.n)) (hs:SqB d b) (ht:isT d.k=true->isT b.k=true->TxB d b):
 ∃T:List (Int×Int×Int),sameC x y left=T.map x.t3/\besCC d b left=T.map d.t3/\(∀t ∈ T,In64 t)/\T.length<=2:=by
 obtain ⟨x1,x2,x3,x4,x5⟩:=hx
 obtain ⟨y1,y2,y3,y4,y5,y6⟩:=hy
 have ex:x.t3 (d.i,d.j,d.n)=x:=by rw [<-x3, <-x4, <-x5];rfl
 have one:∀ {p:Int×Int×Int},In64 p->(∀t ∈ [p],In64 t):=fun h t ht=>by rw [List.mem_singleton] at ht;subst ht;exact h
 unfold sameC besCC
 rw [x1,x2,y1,y2]
 by_cases h1:isF d.k=true/\isF b.k=true/\d.key=b.key
 .rw [if_pos h1,if_pos h1]
  by_cases h2:d.k=2/\(b.k=3∨left=true)
  .rw [if_pos h2,if_pos h2]
   exact ⟨[(d.i,d.j,d.n)],by rw [List.map_cons,ex];rfl,rfl,one hb,by simp⟩
  .rw [if_neg h2,if_neg h2]
   exact ⟨[],rfl,rfl,fun t h=>(by cases h),by simp⟩
 .rw [if_neg h1,if_neg h1]
  by_cases h2:isL d.k=true/\isL b.k=true
  .rw [if_pos h2,if_pos h2]
   unfold seqCC
   rw [x3,x4,x5,y3,y4]
   cases h:seqO d.k d.i d.j b.k b.i b.j left with
   |none=>exact ⟨[],rfl,rfl,fun t h=>(by cases h),by simp⟩
   | some p=>
     have q:=zgl hs.ai hs.aj hs.bj h
     exact ⟨[(p.1,p.2,d.n)],rfl,rfl,one ⟨q.1,q.2,hb.2.2⟩,by simp⟩
  .rw [if_neg h2,if_neg h2]
   by_cases h3:isT d.k=true/\isT b.k=true
   .rw [if_pos h3,if_pos h3]
    unfold txtCC
    have hq:=ht h3.1 h3.2
    have hM:(0:Int)<=textN b.s/\(textN b.s:Int)<=1000000000000:=by have:=zje b.s;have:=hq.bs;omega
    rw [x3,x4,x5,y3,y5,y6]
    refine ⟨(txtO d.k d.i d.n b.k b.i b.n (textN b.s) left).map fun p=>(p.1,d.j,p.2),by rw [List.map_map];rfl,by rw [List.map_map];rfl,fun t ht=> ?_, ?_⟩
    .obtain ⟨p,hp,rfl⟩:=List.mem_map.1 ht
     have q:=zj0 hq.ai hq.an hq.bi hq.bn hM p hp
     exact ⟨q.1,hb.2.1,q.2⟩
    .rw [List.length_map]
     unfold txtO
     repeat' split
     all_goals simp
   .rw [if_neg h3,if_neg h3]
    exact ⟨[(d.i,d.j,d.n)],by rw [List.map_cons,ex];rfl,rfl,one hb,by simp⟩
theorem T2.store {w W:World} {a b d:CC} (h:T2 w W a b):T2 w (setC W w.heap.size d) d b:=by
 have st:=Y9 W w.heap.size d
 exact ⟨Zt h.a d,h.b.next st (by omega),Below.setC h.below (Nat.le_refl _) d⟩
set_option maxRecDepth 100000 in
theorem zh2 (w:World) (x y:Cm) (a b:CC) (left:Bool) (hx:IsComp w w.heap.size x a) (hy:IsComp w w.heap.size y b) (px:x.path= []) (py:y.path= []) (hs:SqB a b) (ht:isT a.k=true->isT b.k=true->TxB a b) (hT:isT a.k=true->isT b.k=true->∀(d:CC),d.k=a.k->d.i=a.i->d.n=a.n->∀W,uP 124 #[.agg (uC d), .agg (uC b), .bool left] W (ShP W (txtCC d b left))):
 uP 43 #[.agg (uC a), .agg (uC b), .bool left] w (AimPost w (sameC x y left)):=by
 delta uC uP
 have bx:=T2.start w a b 54 54
 obtain ⟨w2,hw2⟩:∃W,(w.alloc (.cells (uC a) 54)).alloc (.cells (uC b) 54)=W:=⟨_,rfl⟩
 rw [hw2] at bx
 have HCP:=qh (Kt w2 x a (hx.later_ bx.below))
 have hyf:y.k=b.k/\y.key=b.key/\y.i=b.i/\y.j=b.j/\y.n=b.n/\y.s=b.s:=by cases hy with|mk b p v _ _ _=>exact ⟨rfl,rfl,rfl,rfl,rfl,rfl⟩
 have hxf:x.k=a.k/\x.i=a.i/\x.j=a.j/\x.n=a.n:=by cases hx with|mk b p v _ _ _=>exact ⟨rfl,rfl,rfl,rfl⟩
 have hbp:b.pl=0:=by cases hy with|mk b p v _ hp _=>have:=hp.len;rw [show p= [] from py] at this;exact this
 have hbs:∃q,IsSteps w w.heap.size q b.pa b.pl b.pc/\q= [] :=by cases hy with|mk b p v _ hp _=>exact ⟨p,hp,py⟩
 have HBX:=qh bx;have HYF:=qh hyf;have HXF:=qh hxf;have HS:=qh hs;have HTB:=qh ht;have HTX:=qh hT;have HBP:=qh hbp;have HBS:=qh hbs;have HPX:=qh px
 obtain ⟨c0,c1,c2,c3,c4,c5,c6,c7,c8,c9,c10,c11⟩:=row12 bx.a.at_;obtain ⟨d0,d1,d2,d3,d4,d5,d6,d7,d8,d9,d10,d11⟩:=row12 bx.b.at_;have za:=bx.a.lt;have ga:=bx.a.fr
 clear hx hy px py hs ht hT hyf hxf hbp hbs bx
 go_enter Tryz.func43,Tryz.ntmps43
 go_upto_region 1 with fail
 clear hw2
 go_wp2_with fail
 refine HCP.out.mono ?_
 rintro e w4 ⟨⟨d,rfl,hd⟩,hb4⟩
 have hbx4:=HBX.out.next hb4
 have hbx5:T2 w (setC w4 w.heap.size d) d b:=hbx4.store
 have HBX5:=qh hbx5;have HBX4:=qh hbx4
 have HD:=qh hd;have HB4:=qh hb4
 clear c0 c1 c2 c3 c4 c5 c6 c7 c8 c9 c10 c11 d0 d1 d2 d3 d4 d5 d6 d7 d8 d9 d10 d11 za ga hbx5 hd hb4 HCP
 obtain ⟨c0,c1,c2,c3,c4,c5,c6,c7,c8,c9,c10,c11⟩:=row12 hbx4.a.at_
 have za:=hbx4.a.lt;have ga:=hbx4.a.fr
 clear hbx4
 go_upto_region 2 with fail
 obtain ⟨w5,hw5⟩:∃w5,setC w4 w.heap.size d=w5:=⟨_,rfl⟩
 rw [hw5] at HBX5
 have hd5:IsComp (only (fun k=>w2.heap.size<=k) w5) w5.heap.size x d:=by
  rw [<-hw5]
  have st:=Y9 w4 w.heap.size d
  exact Qg HD.out rfl st.size fun k hk hl=>have hk':w2.heap.size<=k:=hk;⟨hk,st.block k hl (by have:=HBX.out.b.lt;omega)⟩
 have hz5:w4.heap.size<=w5.heap.size:=by rw [<-hw5];exact (Y9 w4 w.heap.size d).size
 unfold setC at hw5
 rw [hw5]
 clear hw5 c0 c1 c2 c3 c4 c5 c6 c7 c8 c9 c10 c11 za ga
 have hpx:d.pl=0:=by
  cases hd5 with
  |mk d p v _ hp _=>have:=hp.len;rw [show p= [] from HPX.out] at this;exact this
 have hdf:x.k=d.k/\x.key=d.key/\x.i=d.i/\x.j=d.j/\x.n=d.n:=by cases hd5 with|mk d p v _ _ _=>exact ⟨rfl,rfl,rfl,rfl,rfl⟩
 have hin:In64 (d.i,d.j,d.n):=by cases hd5 with|mk d p v hb _ _=>exact ⟨⟨hb.i0,hb.i1⟩,⟨hb.j0,hb.j1⟩,hb.n0,hb.n1⟩
 obtain ⟨f1,f2,f3,f4⟩:=HXF.out
 have g1:d.k=a.k:=hdf.1.symm.trans f1
 have g2:d.i=a.i:=hdf.2.2.1.symm.trans f2
 have g3:d.j=a.j:=hdf.2.2.2.1.symm.trans f3
 have g4:d.n=a.n:=hdf.2.2.2.2.symm.trans f4
 have hsq:SqB d b:=⟨by rw [g2];exact HS.out.ai,by rw [g3];exact HS.out.aj,HS.out.bi,HS.out.bj⟩
 have htb:isT d.k=true->isT b.k=true->TxB d b:=fun h1 h2=>by
  have:=HTB.out (by rw [<-g1];exact h1) h2
  exact ⟨by rw [g2];exact this.ai,by rw [g4];exact this.an,this.bi,this.bn,this.bs⟩
 obtain ⟨T,hT1,hT2,hT3,hT4⟩:=zmq left hdf HYF.out hin hsq htb
 have HBG:Hid (uP 75 #[.slice d.pa d.pl d.pc, .slice b.pa b.pl b.pc] w5 fun e w'=>e= .returned (.bool true)/\uB w5 w'):=qh (by
  obtain ⟨q,hq,rfl⟩:=HBS.out
  have h2:=hq.later_ HBX5.out.below
  have h1:IsSteps w5 w5.heap.size [] d.pa d.pl d.pc:=by
   have h0:=IsComp.sub (Zl _ _ _) hd5
   cases h0 with
   |mk d p v _ hp _=>rw [show p= [] from HPX.out] at hp;exact hp
  have:=zhk w5 [] [] _ _ _ _ _ _ h1 h2
  rwa [show eqB (([] :List St).take ([] :List St).length) [] =true from Z8 rfl] at this)
 obtain ⟨cs,hcs⟩:∃cs,besCC d b left=cs:=⟨_,rfl⟩
 have HBE:Hid (∀W,uP 78 #[.agg (uC d), .agg (uC b), .bool left] W (ShP W cs)):=qh fun W=>by
  rw [<-hcs]
  exact zkx W d b left hsq fun h1 h2 W=>HTX.out (by rw [<-g1];exact h1) h2 d g1 g2 g4 W
 obtain ⟨L,hL⟩:∃L,sameC x y left=L:=⟨_,rfl⟩
 have HLE:=qh hL
 rw [hL] at hT1;rw [hcs] at hT2
 have hpl:¬((b.pl:Int)<(d.pl:Int)):=by have:=HBP.out;omega
 have HT1:=qh hT1;have HT2:=qh hT2;have HT3:=qh hT3;have HT4:=qh hT4;have HD5:=qh hd5;have HZ5:=qh hz5
 have bx:=HBX5.out
 obtain ⟨c0,c1,c2,c3,c4,c5,c6,c7,c8,c9,c10,c11⟩:=row12 bx.a.at_;obtain ⟨d0,d1,d2,d3,d4,d5,d6,d7,d8,d9,d10,d11⟩:=row12 bx.b.at_;have za:=bx.a.lt;have ga:=bx.a.fr
 clear hT1 hT2 hT3 hT4 hL hcs hpx hdf hin f1 f2 f3 f4 g1 g2 g3 g4 hsq htb hd5 hz5
 go_wp2_with fail
 refine HBG.out.mono ?_
 rintro e w6 ⟨rfl,hb6⟩
 replace bx:=bx.next hb6
 have HB6:=qh hb6
 clear c0 c1 c2 c3 c4 c5 c6 c7 c8 c9 c10 c11 d0 d1 d2 d3 d4 d5 d6 d7 d8 d9 d10 d11 za ga hb6 HBG
 obtain ⟨c0,c1,c2,c3,c4,c5,c6,c7,c8,c9,c10,c11⟩:=row12 bx.a.at_;obtain ⟨d0,d1,d2,d3,d4,d5,d6,d7,d8,d9,d10,d11⟩:=row12 bx.b.at_;have za:=bx.a.lt;have ga:=bx.a.fr
 go_wp2_with fail
 refine (HBE.out w6).mono ?_
 rintro e w7 ⟨⟨p,c,rfl,ho⟩,hb7⟩
 have hlen:cs.length=L.length:=by rw [HT1.out,HT2.out,List.length_map,List.length_map]
 have hl2:L.length<=1000:=by rw [HT1.out,List.length_map];have:=HT4.out;omega
 have hz2:=HBX.out.b.lt
 have hz4:=HB4.out.size
 have hz5:=HZ5.out
 have hz6:=HB6.out.size
 have hrow:RowC w7 w2.heap.size (.slice p L.length c) L cs:=by
  rw [hlen] at ho
  refine ⟨?_,fun i hi hi2=> ?_⟩
  .obtain ⟨h1,h2⟩:=ho
   exact ⟨h1,h2.imp id fun ⟨b,k,l,q1,q2,q3⟩=>⟨b,k,l,q1,by omega,q3⟩⟩
  .have hiT:i<T.length:=by have:=hi2;rw [HT1.out,List.length_map] at this;exact this
   have e1:L[i] =x.t3 T[i] :=by simp [HT1.out]
   have e2:cs.getD i czero=d.t3 T[i] :=by rw [HT2.out,List.getD_eq_getElem?_getD,List.getElem?_map,List.getElem?_eq_getElem hiT];rfl
   rw [e1,e2]
   refine zgz ?_ (HT3.out _ (List.getElem_mem hiT))
   have hb57:uB w5 w7:=HB6.out.trans (hb7.mono hz6)
   refine Qg HD5.out rfl hb57.size fun k hk hl=>⟨⟨hk,fun e=> ?_⟩,hb57.block k hl⟩
   obtain ⟨_,h2⟩:=ho
   rcases h2 with ⟨e3,_⟩|⟨g,cap,cur,e3,q2,_⟩
   .rw [e3] at e;cases e
   .rw [e3] at e
    have:k=g:=by simpa [Value.ownBlock] using e
    omega
 have hwb:uB w w7:=bx.below.trans (hb7.mono bx.below.size)
 have HOW:=qh (zez w7 w2.heap.size (by omega) (by have:=hb7.size;omega) L p c cs hrow hlen hl2)
 have HWB:=qh hwb;have HL2:=qh hl2;have HW2:=qh HBX.out.below.size
 rw [hlen]
 clear c0 c1 c2 c3 c4 c5 c6 c7 c8 c9 c10 c11 d0 d1 d2 d3 d4 d5 d6 d7 d8 d9 d10 d11 za ga bx ho hb7 hlen hl2 hz2 hz4 hz5 hz6 hrow hwb
 go_wp2_with fail
 refine HOW.out.mono ?_
 rintro e w8 ⟨rfl,cs',h8⟩
 have hfin:AimPost w (sameC x y left) (.returned (.slice p L.length c)) w8:=by
  rw [HLE.out]
  exact ⟨⟨p,L.length,c,rfl,h8.row.comps h8.cen HW2.out (by have:=HL2.out;omega)⟩,HWB.out.trans (h8.below.mono HW2.out)⟩
 have HF:=qh hfin
 clear hfin h8 HOW
 go_wp2_with fail
 go_ret
 exact HF.out
def CrPost (w:World) (c d:List Cm) (e:Ending) (w':World):Prop:=
 (∃a n k a' n' k',e= .returned (.tuple #[.slice a n k, .slice a' n' k'])/\IsComps (only (fun b=>w.heap.size<=b) w') w'.heap.size c a n k/\IsComps (only (fun b=>w.heap.size<=b) w') w'.heap.size d a' n' k')/\Below w.heap.size w w'
theorem zh5 {w W:World} {S:Nat->Prop} {l:List Cm} {a:Option Addr} {n k:Nat} (h:IsComps (only S w) w.heap.size l a n k) (hb:uB w W):IsComps (only S W) W.heap.size l a n k:=(h.sub (Ze fun b hb2 hl=>⟨hb2,hb.block b hl⟩)).more hb.size
theorem zna {w:World} {lo hi:Nat} {l:List Cm} {a:Option Addr} {n k:Nat} (h:IsComps (only (fun b=>hi<=b) w) w.heap.size l a n k) (hl:lo<=hi):IsComps (only (fun b=>lo<=b) w) w.heap.size l a n k:=h.sub (Ze fun _ hb2 _=>⟨Nat.le_trans hl hb2,rfl⟩)
theorem CrPost.mk2 {w w1 w2:World} {c d:List Cm} {a a':Option Addr} {n k n' k':Nat} (hb1:uB w w1) (h1:IsComps (only (fun b=>w.heap.size<=b) w1) w1.heap.size c a n k) (hb2:uB w1 w2) (h2:IsComps (only (fun b=>w1.heap.size<=b) w2) w2.heap.size d a' n' k'):CrPost w c d (.returned (.tuple #[.slice a n k, .slice a' n' k'])) w2:=
 ⟨⟨a,n,k,a',n',k',rfl,zh5 h1 hb2,zna h2 hb1.size⟩,hb1.trans (hb2.mono hb1.size)⟩
set_option maxRecDepth 100000 in
theorem K7 (w:World) (A B:List Cm) (a a':Option Addr) (n k m k':Nat) (hA:IsComps w w.heap.size A a n k) (hB:IsComps w w.heap.size B a' m k') (hn:n<=10000) (hm:m<=10000) (h0:A= [] ∨B= []):
 uP 21 #[.slice a n k, .slice a' m k'] w (CrPost w A B):=by
 delta uP
 have l1:=hA.len;have l2:=hB.len
 have HC1:=qh (Ks w A a n k hA hn)
 have HC2:Hid (∀W,uB w W->uP 41 #[.slice a' m k'] W (AimPost W B)):=qh fun W hW=>Ks W B a' m k' (hB.later_ hW) hm
 have hz:n=0∨m=0:=by rcases h0 with rfl|rfl;exact .inl l1;exact .inr l2
 obtain ⟨q1,hq1⟩:∃q,((n:Int)==0)=q:=⟨_,rfl⟩
 obtain ⟨q2,hq2⟩:∃q,((m:Int)==0)=q:=⟨_,rfl⟩
 have hqq:q1=true∨(q1=false/\q2=true):=by
  rcases hz with rfl|rfl
  .exact .inl (by rw [<-hq1];rfl)
  .cases q1 with
   |true=>exact .inl rfl
   |false=>exact .inr ⟨rfl,by rw [<-hq2];rfl⟩
 clear h0 hz l1 l2 hA hB hn hm
 rcases hqq with rfl|⟨rfl,rfl⟩
 all_goals
  go_enter Tryz.func21,Tryz.ntmps21
  go_wp2_with fail
  refine HC1.out.mono ?_
  rintro e w1 ⟨⟨p1,n1,c1,rfl,h1⟩,hb1⟩
  have H1:=qh h1;have HB1:=qh hb1
  clear h1 hb1 HC1
  go_wp2_with fail
  refine (HC2.out _ HB1.out).mono ?_
  rintro e w2 ⟨⟨p2,n2,c2,rfl,h2⟩,hb2⟩
  have HF:=qh (CrPost.mk2 HB1.out H1.out hb2 h2)
  clear h2 hb2 HC2 H1
  go_wp2_with fail
  go_returns
  exact HF.out
set_option maxRecDepth 100000 in
theorem zij (w:World) (x y:Cm) (C D:List Cm) (a a':Option Addr) (k k':Nat) (hA:IsComps w w.heap.size [x] a 1 k) (hB:IsComps w w.heap.size [y] a' 1 k')
 (h1:∀W ca cb,uB w W->IsComp W W.heap.size x ca->IsComp W W.heap.size y cb->uP 43 #[.agg (uC ca), .agg (uC cb), .bool true] W (AimPost W C))
 (h2:∀W ca cb,uB w W->IsComp W W.heap.size x ca->IsComp W W.heap.size y cb->uP 43 #[.agg (uC cb), .agg (uC ca), .bool false] W (AimPost W D)):
 uP 21 #[.slice a 1 k, .slice a' 1 k'] w (CrPost w C D):=by
 delta uP
 obtain ⟨b1,o1,ca,_,rfl,hb1,at1,ic1⟩:=hA.get (k:=0) (by omega)
 obtain ⟨b2,o2,cb,_,rfl,hb2,at2,ic2⟩:=hB.get (k:=0) (by omega)
 have ic1:IsComp w w.heap.size x ca:=ic1
 have ic2:IsComp w w.heap.size y cb:=ic2
 rw [Nat.zero_mul,Nat.add_zero] at at1 at2
 have hr1:=Qw at1;have hr2:=Qw at2
 have H1:Hid (∀W,uB w W->uP 43 #[.agg (uC ca), .agg (uC cb), .bool true] W (AimPost W C)):=qh fun W hW=>h1 W ca cb hW (IsComp.later_ hW ic1) (IsComp.later_ hW ic2)
 have H2:Hid (∀W,uB w W->uP 43 #[.agg (uC cb), .agg (uC ca), .bool false] W (AimPost W D)):=qh fun W hW=>h2 W ca cb hW (IsComp.later_ hW ic1) (IsComp.later_ hW ic2)
 have HFB:Hid (∀W,uB w W->W.cell? ⟨b1,o1,none⟩=some (.int .u8 ca.k)/\W.cell? ⟨b1,o1+1,none⟩=some (.slice ca.pa ca.pl ca.pc)/\W.cell? ⟨b1,o1+2,none⟩=some (.string ca.key)/\W.cell? ⟨b1,o1+3,none⟩=some (.int .i64 ca.i)/\W.cell? ⟨b1,o1+4,none⟩=some (.int .i64 ca.j)/\W.cell? ⟨b1,o1+5,none⟩=some (.int .i64 ca.n)/\W.cell? ⟨b1,o1+6,none⟩=some (.int .u8 ca.v.k)/\W.cell? ⟨b1,o1+7,none⟩=some (.int .i64 ca.v.n)/\W.cell? ⟨b1,o1+8,none⟩=some (.string ca.v.s)/\W.cell? ⟨b1,o1+9,none⟩=some (.slice ca.v.la ca.v.ll ca.v.lc)/\W.cell? ⟨b1,o1+10,none⟩=some (.slice ca.v.oa ca.v.ol ca.v.oc)/\W.cell? ⟨b1,o1+11,none⟩=some (.string ca.s)/\W.cell? ⟨b2,o2,none⟩=some (.int .u8 cb.k)/\W.cell? ⟨b2,o2+1,none⟩=some (.slice cb.pa cb.pl cb.pc)/\W.cell? ⟨b2,o2+2,none⟩=some (.string cb.key)/\W.cell? ⟨b2,o2+3,none⟩=some (.int .i64 cb.i)/\W.cell? ⟨b2,o2+4,none⟩=some (.int .i64 cb.j)/\W.cell? ⟨b2,o2+5,none⟩=some (.int .i64 cb.n)/\W.cell? ⟨b2,o2+6,none⟩=some (.int .u8 cb.v.k)/\W.cell? ⟨b2,o2+7,none⟩=some (.int .i64 cb.v.n)/\W.cell? ⟨b2,o2+8,none⟩=some (.string cb.v.s)/\W.cell? ⟨b2,o2+9,none⟩=some (.slice cb.v.la cb.v.ll cb.v.lc)/\W.cell? ⟨b2,o2+10,none⟩=some (.slice cb.v.oa cb.v.ol cb.v.oc)/\W.cell? ⟨b2,o2+11,none⟩=some (.string cb.s)):=qh fun W hW=>by
  obtain ⟨p0,p1,p2,p3,p4,p5,p6,p7,p8,p9,p10,p11⟩:=row12 fun k u h=>Zb hW (hr1 k u h) hb1
  obtain ⟨q0,q1,q2,q3,q4,q5,q6,q7,q8,q9,q10,q11⟩:=row12 fun k u h=>Zb hW (hr2 k u h) hb2
  rw [Nat.add_zero] at p0 q0
  exact ⟨p0,p1,p2,p3,p4,p5,p6,p7,p8,p9,p10,p11,q0,q1,q2,q3,q4,q5,q6,q7,q8,q9,q10,q11⟩
 clear hA hB h1 h2 at1 at2 ic1 ic2 hr1 hr2 hb1 hb2
 go_enter Tryz.func21,Tryz.ntmps21
 go_upto_region 12 with fail
 have bl0:=qh (Zf w)
 refine wp_region_noPanic ?_
 go_region_held_law (fun W=>W.cell? ⟨b1,o1,none⟩=some (.int .u8 ca.k)/\W.cell? ⟨b1,o1+1,none⟩=some (.slice ca.pa ca.pl ca.pc)/\W.cell? ⟨b1,o1+2,none⟩=some (.string ca.key)/\W.cell? ⟨b1,o1+3,none⟩=some (.int .i64 ca.i)/\W.cell? ⟨b1,o1+4,none⟩=some (.int .i64 ca.j)/\W.cell? ⟨b1,o1+5,none⟩=some (.int .i64 ca.n)/\W.cell? ⟨b1,o1+6,none⟩=some (.int .u8 ca.v.k)/\W.cell? ⟨b1,o1+7,none⟩=some (.int .i64 ca.v.n)/\W.cell? ⟨b1,o1+8,none⟩=some (.string ca.v.s)/\W.cell? ⟨b1,o1+9,none⟩=some (.slice ca.v.la ca.v.ll ca.v.lc)/\W.cell? ⟨b1,o1+10,none⟩=some (.slice ca.v.oa ca.v.ol ca.v.oc)/\W.cell? ⟨b1,o1+11,none⟩=some (.string ca.s)/\W.cell? ⟨b2,o2,none⟩=some (.int .u8 cb.k)/\W.cell? ⟨b2,o2+1,none⟩=some (.slice cb.pa cb.pl cb.pc)/\W.cell? ⟨b2,o2+2,none⟩=some (.string cb.key)/\W.cell? ⟨b2,o2+3,none⟩=some (.int .i64 cb.i)/\W.cell? ⟨b2,o2+4,none⟩=some (.int .i64 cb.j)/\W.cell? ⟨b2,o2+5,none⟩=some (.int .i64 cb.n)/\W.cell? ⟨b2,o2+6,none⟩=some (.int .u8 cb.v.k)/\W.cell? ⟨b2,o2+7,none⟩=some (.int .i64 cb.v.n)/\W.cell? ⟨b2,o2+8,none⟩=some (.string cb.v.s)/\W.cell? ⟨b2,o2+9,none⟩=some (.slice cb.v.la cb.v.ll cb.v.lc)/\W.cell? ⟨b2,o2+10,none⟩=some (.slice cb.v.oa cb.v.ol cb.v.oc)/\W.cell? ⟨b2,o2+11,none⟩=some (.string cb.s))
  ((refine HFB.out _ ?_;(first|(with_reducible exact bl2.out)|(with_reducible exact bl1.out)|(with_reducible exact bl0.out))))
  (first
   |(go_at_call 43;(with_reducible refine (H1.out _ bl0.out).mono ?_);rintro e w1 ⟨⟨p1,n1,c1,rfl,h1⟩,hb1⟩;have bl1:Hid (uB w w1):=qh ((Zf w).trans hb1);have HI1:=qh h1;clear h1 hb1)
   |(go_at_call 43;(with_reducible refine (H2.out _ bl1.out).mono ?_);rintro e w2 ⟨⟨p2,n2,c2,rfl,h2⟩,hb2⟩;have bl2:Hid (uB w w2):=qh (bl1.out.trans (hb2.mono bl1.out.size));have HF:=qh (CrPost.mk2 bl1.out HI1.out hb2 h2);clear h2 hb2))
 all_goals (
  refine NoPanic.normal ?_
  go_wp2_with fail
  go_returns
  exact HF.out)
def addCC (n:Int):CC:=⟨1,none,0,0, .empty,0,0,n,vzero, .empty⟩
theorem J9 (w:World) (B:Nat) (n:Int) (h: -9223372036854775808<=n/\n<=9223372036854775807):IsComp w B (addC n) (addCC n):=
 .mk (addCC n) [] V.none ⟨by show (0:Int)<=1;decide,by show (1:Int)<256;decide,by show (-9223372036854775808:Int)<=0;decide,by show (0:Int)<=9223372036854775807;decide,by show (-9223372036854775808:Int)<=0;decide,by show (0:Int)<=9223372036854775807;decide,h.1,h.2,by show ByteArray.empty.size<=140737488355328;decide,by show ByteArray.empty.size<=140737488355328;decide⟩ (IsSteps.nil w B) (Zw w B)
theorem lits {W:World} {b:Nat} {l:List Cm} {cs:List CC} (hl:cs.length=l.length) (hb:b<W.heap.size) (hc:∀j u,(cs.flatMap ccells)[j]? =some u->W.cell? ⟨b,j,none⟩=some u) (hi:∀i (h:i<l.length),IsComp W W.heap.size l[i] (cs.getD i czero)) (hn:l.length<=1000):IsComps W W.heap.size l (some ⟨b,0,none⟩) l.length l.length:=by
 refine ⟨rfl,Nat.le_refl _,by omega,by omega,b,0,fun i=>cs.getD i czero,fun _=>⟨rfl,hb⟩,fun i h=>⟨?_,hi i h⟩⟩
 have hi2:i<cs.length:=by omega
 have e:cs.getD i czero=cs[i] :=by rw [List.getD_eq_getElem?_getD,List.getElem?_eq_getElem hi2];rfl
 have g:∀t u,(ccells (cs.getD i czero))[t]? =some u->W.cell? ⟨b,0+i*12+t,none⟩=some u:=fun t u ht=>by
  rw [Nat.zero_add]
  rw [e] at ht
  exact hc _ _ (zc6 hi2 ht)
 exact ⟨g 0 _ rfl,g 1 _ rfl,g 2 _ rfl,g 3 _ rfl,g 4 _ rfl,g 5 _ rfl,⟨g 6 _ rfl,g 7 _ rfl,g 8 _ rfl,g 9 _ rfl,g 10 _ rfl⟩,g 11 _ rfl⟩
theorem za7 {W:World} {b:Nat} {n:Int} (h:BC W b (ccells (addCC n))) (hn: -9223372036854775808<=n/\n<=9223372036854775807):IsComps W W.heap.size [addC n] (some ⟨b,0,none⟩) 1 1:=
 lits (cs:= [addCC n]) rfl h.lt (fun j u hj=>h.at_ j u (by simpa using hj)) (fun i hi=>by
  obtain rfl:i=0:=by simpa using hi
  exact J9 _ _ n hn) (by simp)
theorem zak {w:World} {n:Int} {a:Option Addr} {m k:Nat} (h:IsComps w w.heap.size [addC n] a m k):m=1/\∃b o,a=some ⟨b,o,none⟩/\b<w.heap.size/\w.cell? ⟨b,o+5,none⟩=some (.int .i64 n):=by
 obtain rfl:m=1:=h.len
 obtain ⟨b,o,f,hp,rfl,hb,hat,hic⟩:=h.get (k:=0) (by omega)
 have h5:=hat.c5
 rw [Nat.zero_mul,Nat.add_zero] at h5
 have hic:IsComp w w.heap.size (addC n) f:=hic
 have e:f.n=n:=by
  generalize hz:addC n=z at hic
  cases hic with
  |mk f p v _ _ _=>simp only [addC,Cm.mk.injEq] at hz;exact hz.2.2.2.2.2.1.symm
 rw [e] at h5
 exact ⟨rfl,b,o,rfl,hb,h5⟩
theorem zh1 (w:World) (B:Nat) (n:Int) (h: -9223372036854775808<=n/\n<=9223372036854775807):IsVal w B (kvI n) ⟨2,n, .empty,none,0,0,none,0,0⟩:=
 .mk ⟨2,n, .empty,none,0,0,none,0,0⟩ [] [] (fun _=>vzero) (fun _=>vzero) 0 0 0 0 ⟨by show (0:Int)<=2;decide,by show (2:Int)<256;decide,h.1,h.2,by show ByteArray.empty.size<=140737488355328;decide,by show (0:Nat)<=0;decide,by show (0:Nat)<=9223372036854775807;decide,by show (0:Nat)<=1466015503701;decide,by show (0:Nat)<=0;decide,by show (0:Nat)<=9223372036854775807;decide,by show (0:Nat)<=1466015503701;decide⟩ rfl rfl (fun h=>absurd h (Nat.lt_irrefl 0)) (fun h=>absurd h (Nat.lt_irrefl 0)) (fun i h=>(by cases h)) (fun i h=>(by cases h)) (fun i h=>(by cases h)) (fun i h=>(by cases h))
theorem zm5 (m n:Int) (left:Bool):sameC (addC m) (addC n) left= [addC m] :=by
 unfold sameC
 rw [if_neg (by simp [addC,isF]),if_neg (by simp [addC,isL]),if_neg (by simp [addC,isT])]
theorem zcd (w:World) (m n:Int) (a b:CC) (left:Bool) (hx:IsComp w w.heap.size (addC m) a) (hy:IsComp w w.heap.size (addC n) b):uP 43 #[.agg (uC a), .agg (uC b), .bool left] w (AimPost w [addC m]):=by
 delta uC uP
 have e:∀ {k:Int} {c:CC},IsComp w w.heap.size (addC k) c->c.k=1/\c.i=0/\c.j=0:=fun {k c} h=>by
  generalize hz:addC k=z at h
  cases h with|mk c p v _ _ _=>exact ⟨by simp only [addC,Cm.mk.injEq] at hz;exact hz.1.symm,by simp only [addC,Cm.mk.injEq] at hz;exact hz.2.2.2.1.symm,by simp only [addC,Cm.mk.injEq] at hz;exact hz.2.2.2.2.1.symm⟩
 obtain ⟨a1,a2,a3⟩:=e hx
 obtain ⟨b1,b2,b3⟩:=e hy
 have nt:isT a.k=true->False:=fun h=>by rw [a1] at h;cases h
 have:=zh2 w (addC m) (addC n) a b left hx hy rfl rfl ⟨by omega,by omega,by omega,by omega⟩ (fun h=>(nt h).elim) (fun h=>(nt h).elim)
 rwa [zm5] at this
theorem zbl:OpOk (kvI 4) [addC 1] /\doAllP (kvI 4) [addC 1] =(kvI 5,0):=by
 have hd:doP (kvI 4) (addC 1)=(kvI 5,0):=zjv 4 1 (by omega)
 exact ⟨⟨by simp [kvI,V.weight,weightL,weightO],zfw 4,by simp [addC,V.none,V.weight,weightL,weightO],by simp [addC],fun _=>trivial⟩,by rw [doAllP,hd,if_pos rfl];rfl⟩
theorem zh6:trimP [addC 1,addC (-1)] = [] :=by
 show ontoP (ontoP [] (addC 1)) (addC (-1))= []
 have h1:ontoP [] (addC 1)= [] ++ [addC 1] :=by unfold ontoP;rw [if_neg (by simp [idleB,addC])];rfl
 have h2:joinC (addC 1) (addC (-1))=some none:=by
  unfold joinC
  rw [if_neg (by simp [addC,eqB]),if_pos (show (addC (-1)).k=1 from rfl),if_pos]
  show wrap64 (1+ -1)=0
  unfold wrap64;omega
 rw [h1,K4 (by simp [idleB,addC]),h2]
set_option maxRecDepth 100000 in
theorem zm3 (w:World) (hT:Tabs w):uP 19 #[] w fun e w'=>e= .returned (.bool true)/\uB w w':=by
 delta uB uP
 obtain ⟨w1,hw1⟩:∃W,(w.alloc (.cells #[.int .u8 1, .slice none 0 0, .string { data:= #[] }, .int .i64 0, .int .i64 0, .int .i64 1, .int .u8 0, .int .i64 0, .string { data:= #[] }, .slice none 0 0, .slice none 0 0, .string { data:= #[] }] 54)).alloc (.cells #[.int .u8 1, .slice none 0 0, .string { data:= #[] }, .int .i64 0, .int .i64 0, .int .i64 2, .int .u8 0, .int .i64 0, .string { data:= #[] }, .slice none 0 0, .slice none 0 0, .string { data:= #[] }] 54)=W:=⟨_,rfl⟩
 have hx1:BC w1 w.heap.size (ccells (addCC 1))/\BC w1 (w.heap.size+1) (ccells (addCC 2))/\uB w w1:=by
  rw [<-hw1]
  obtain ⟨q1,q2,q3,q4⟩:=zc8 w #[.int .u8 1, .slice none 0 0, .string { data:= #[] }, .int .i64 0, .int .i64 0, .int .i64 1, .int .u8 0, .int .i64 0, .string { data:= #[] }, .slice none 0 0, .slice none 0 0, .string { data:= #[] }] #[.int .u8 1, .slice none 0 0, .string { data:= #[] }, .int .i64 0, .int .i64 0, .int .i64 2, .int .u8 0, .int .i64 0, .string { data:= #[] }, .slice none 0 0, .slice none 0 0, .string { data:= #[] }] 54 54
  exact ⟨q1,q2,q3⟩
 have hA:=za7 hx1.1 (by omega);have hB:=za7 hx1.2.1 (by omega)
 have HCR:=qh (zij w1 (addC 1) (addC 2) [addC 1] [addC 2] _ _ 1 1 hA hB (fun W ca cb _ h1 h2=>zcd W 1 2 ca cb true h1 h2) (fun W ca cb _ h1 h2=>zcd W 2 1 cb ca false h2 h1))
 have HX1:=qh hx1;have HT:=qh hT;have HA:=qh hA
 clear hT hA hB hx1
 go_enter Tryz.func19,Tryz.ntmps19
 go_upto_region 3 with fail
 clear hw1
 go_wp2_with fail
 refine HCR.out.mono ?_
 rintro e w2 ⟨⟨a1,n1,c1,a2,n2,c2,rfl,h1,h2⟩,hb2⟩
 have HB2:Hid (uB w w2):=qh (HX1.out.2.2.trans (hb2.mono HX1.out.2.2.size))
 obtain ⟨rfl,b1,o1,rfl,l1,k1⟩:=zak (h1.sub (Zl _ _ _))
 obtain ⟨rfl,b2,o2,rfl,l2,k2⟩:=zak (h2.sub (Zl _ _ _))
 have hv:IsVal w2 w2.heap.size (kvI 4) ⟨2,4, .empty,none,0,0,none,0,0⟩:=zh1 _ _ 4 (by omega)
 have HDO:=qh (zar w2 ⟨2,4, .empty,none,0,0,none,0,0⟩ (kvI 4) hv [addC 1] _ 1 1 (HA.out.later_ hb2) (fun _=>zbl.1) (HT.out.below HB2.out))
 rw [show opDo (kvI 4) [addC 1] =(kvI 5,0) by unfold opDo;rw [if_neg (by simp),zbl.2]] at HDO
 have K1:=qh k1;have K2:=qh k2;have L1:=qh l1;have L2:=qh l2
 clear h1 h2 hb2 hv k1 k2 l1 l2 HCR
 go_wp2_with fail
 refine HDO.out.mono ?_
 rintro e w3 ⟨⟨c,rfl,hc⟩,hb3⟩
 have hcn:c.n=5:=by
  generalize hz:kvI 5=z at hc
  cases hc with
  |mk c l o _ _ _ _=>simp only [kvI,V.mk.injEq] at hz;exact hz.2.1.symm
 obtain ⟨w4,hw4⟩:∃W,w3.alloc (.cells (uV c) 29)=W:=⟨_,rfl⟩
 have hb4:uB w3 w4:=by rw [<-hw4];exact Yw w3 _
 have hx4:BC w4 w3.heap.size (vcells c):=by rw [<-hw4];exact BC.start w3 (uV c) 29
 have hv4:=hx4.at_ 1 _ rfl
 rw [hcn] at hv4
 have hB4:uB w2 w4:=hb3.trans (hb4.mono hb3.size)
 have k1:=Zb hB4 K1.out L1.out;have k2:=Zb hB4 K2.out L2.out
 have l1:=Nat.lt_of_lt_of_le L1.out hB4.size;have l2:=Nat.lt_of_lt_of_le L2.out hB4.size
 obtain ⟨w5,hw5⟩:∃W,w4.alloc (.cells #[.int .u8 1, .slice none 0 0, .string { data:= #[] }, .int .i64 0, .int .i64 0, .int .i64 1, .int .u8 0, .int .i64 0, .string { data:= #[] }, .slice none 0 0, .slice none 0 0, .string { data:= #[] }, .int .u8 1, .slice none 0 0, .string { data:= #[] }, .int .i64 0, .int .i64 0, .int .i64 (-1), .int .u8 0, .int .i64 0, .string { data:= #[] }, .slice none 0 0, .slice none 0 0, .string { data:= #[] }] 54)=W:=⟨_,rfl⟩
 have hb5:uB w4 w5:=by rw [<-hw5];exact Yw w4 _
 have hx5:BC w5 w4.heap.size (ccells (addCC 1)++ccells (addCC (-1))):=by rw [<-hw5];exact BC.start w4 #[.int .u8 1, .slice none 0 0, .string { data:= #[] }, .int .i64 0, .int .i64 0, .int .i64 1, .int .u8 0, .int .i64 0, .string { data:= #[] }, .slice none 0 0, .slice none 0 0, .string { data:= #[] }, .int .u8 1, .slice none 0 0, .string { data:= #[] }, .int .i64 0, .int .i64 0, .int .i64 (-1), .int .u8 0, .int .i64 0, .string { data:= #[] }, .slice none 0 0, .slice none 0 0, .string { data:= #[] }] 54
 have hC:IsComps w5 w5.heap.size [addC 1,addC (-1)] (some ⟨w4.heap.size,0,none⟩) 2 2:=lits (cs:= [addCC 1,addCC (-1)]) rfl hx5.lt (fun j u hj=>hx5.at_ j u (by rw [<-hj,List.flatMap_cons,List.flatMap_cons,List.flatMap_nil,List.append_nil])) (fun i hi=>by
  match i,hi with
  |0,_=>exact J9 _ _ 1 (by omega)
  |1,_=>exact J9 _ _ (-1) (by omega)) (by simp)
 have HTR:=qh (zjd w5 [addC 1,addC (-1)] _ 2 2 hC (by omega) (by simp [sumS,addC]))
 rw [zh6] at HTR
 have hB5:uB w w5:=HB2.out.trans ((hB4.trans (hb5.mono hB4.size)).mono HB2.out.size)
 have HV:Hid (∀W,uB w5 W->W.cell? ⟨w3.heap.size,1,none⟩=some (.int .i64 5)):=qh fun W hW=>Zb (hb5.trans (hW.mono hb5.size)) hv4 hx4.lt
 have HB5:=qh hB5
 have z4:=hx4.lt
 clear hc hcn hb3 hb4 hx4 hv4 hB4 hb5 hx5 hC hB5 HDO
 go_upto_region 5 with fail
 clear hw4
 go_wp2_with (go_at_call 26;(with_reducible refine HTR.out.mono ?_);rintro e w6 ⟨⟨p,q,r,rfl,h6⟩,hb6⟩;obtain rfl:q=0:=h6.len;have hv6:=HV.out _ hb6;have HB6:=qh (HB5.out.trans (hb6.mono HB5.out.size));clear h6 hb6 hw5)
 go_ret
 exact ⟨rfl,HB6.out⟩
theorem K0 (w:World) (B:Nat):IsComps w B [] none 0 0:=⟨rfl,Nat.le_refl _,by decide,by decide,0,0,fun _=>czero,fun h=>absurd h (by decide),fun i hi=>absurd hi (Nat.not_lt_zero _)⟩
theorem zkz (w:World) (B:Nat):IsActs w B [] none 0 0:=by
 refine ⟨rfl, ?_, ?_, ?_⟩<;>first|decide|skip
 exact ⟨0,0,fun _=>⟨none,0,0,0,0,0,0, .empty,none,0,0⟩,fun h=>absurd h (by decide),fun i hi=>absurd hi (Nat.not_lt_zero _)⟩
set_option maxRecDepth 100000 in
theorem zhs (w:World) (hT:Tabs w) (l:List Tk) (a:Option Addr) (n c:Nat) (hl:IsToks w w.heap.size l a n c) (ax:List Ac) (b:Option Addr) (m k:Nat) (ha:IsActs w w.heap.size ax b m k):
 uP 7 #[.slice a n c, .slice b m k] w fun e w'=>e= .returned (.bool true)/\uB w w':=by
 delta uB uP
 have HL:=qh hl
 have HAC:=qh ha
 have HTT:=qh hT
 have HKN:Hid (∀W,uB w W->uP 19 #[] W fun e w'=>e= .returned (.bool true)/\uB W w'):=qh fun W hW=>zm3 W (hT.below hW)
 have HHV:=qh (zf8 w l a n c hl ax b m k ha [] none 0 0 (zkz _ _))
 clear hl ha hT
 go_enter Tryz.func7,Tryz.ntmps7
 go_wp2_with fail
 refine HHV.out.mono ?_
 rintro e w1 ⟨⟨h,rfl⟩,hb1⟩
 have HA1:=qh hb1
 clear hb1 HHV
 cases h with
 | true=>
   go_wp2_with fail
   refine (HKN.out _ HA1.out).mono ?_
   rintro e wk ⟨rfl,hbk⟩
   have HAk:=qh (HA1.out.trans (hbk.mono HA1.out.size))
   clear hbk
   go_wp2_with fail
   go_returns
   exact ⟨rfl,HAk.out⟩
 |false=>
 go_wp2_with fail
 refine (HKN.out _ HA1.out).mono ?_
 rintro e w3 ⟨rfl,hb3⟩
 have HA3:=qh (HA1.out.trans (hb3.mono HA1.out.size))
 clear hb3 HKN HA1
 go_wp2_with fail
 refine (Ys w3 l a n c (HL.out.later_ HA3.out)).mono ?_
 rintro e w4 ⟨⟨cv,rfl,hv4⟩,hb4⟩
 obtain ⟨V0,hV0⟩:∃V0,(oneP 6 (l.take 60)).1=V0:=⟨_,rfl⟩
 have HLT:Hid (V0.weight<=20000/\V0.sound=true):=qh (by rw [<-hV0];exact ⟨(Kr l).2.1,(Kr l).2.2.2.1⟩)
 rw [hV0] at hv4
 obtain ⟨w5,hw5⟩:∃W,w4.alloc (.cells (uV cv) 29)=W:=⟨_,rfl⟩
 have hb5:uB w4 w5:=by rw [<-hw5];exact Yw w4 _
 have hx5:BC w5 w4.heap.size (vcells cv):=by rw [<-hw5];exact BC.start w4 (uV cv) 29
 have hA5:=HA3.out.trans ((hb4.trans (hb5.mono hb4.size)).mono HA3.out.size)
 have HV5:Hid (IsVal w5 w5.heap.size V0 cv):=qh ((hv4.sub (Zl _ _ _)).later_ hb5)
 have HAM:=qh (zm6 w5 cv.k cv.n cv.s cv.la cv.ll cv.lc cv.oa cv.ol cv.oc V0 HV5.out HLT.out.1 ax b m k (HAC.out.later_ hA5) (HTT.out.below hA5))
 obtain ⟨v0,v1,v2,v3,v4⟩:=row5 hx5.at_
 have zv:=hx5.lt
 have HA5:=qh hA5;have HX5:=qh hx5
 clear hb4 hb5 hv4 hV0 HL hA5 hx5 HA3 HAC
 go_upto_region 4 with fail
 clear hw5
 go_wp2_with fail
 refine HAM.out.mono ?_
 rintro e w6 ⟨⟨xa,xn,xc,rfl,hx⟩,hb6⟩
 have hX6:IsComps w6 w6.heap.size (aimP V0 (ax.take 20)) xa xn xc:=hx.sub (Zl _ _ _)
 have hl20:(aimP V0 (ax.take 20)).length<=20:=Nat.le_trans (zgj _ _) (by rw [List.length_take];omega)
 obtain ⟨X,hX⟩:∃X,aimP V0 (ax.take 20)=X:=⟨_,rfl⟩
 rw [hX] at hX6 hl20
 have hxn:=hX6.len
 have hxn2:xn<=10000:=by omega
 have HV6:=qh (HV5.out.later_ hb6)
 have HA6:=qh (HA5.out.trans (hb6.mono HA5.out.size))
 have hx6:=HX5.out.keep hb6 HX5.out.lt
 have HX6:=qh hx6;have HXX:=qh hX6
 have HC1:=qh (K7 w6 X [] xa none xn xc 0 0 hX6 (K0 _ _) hxn2 (by decide) (.inr rfl))
 have HC2:Hid (∀W,uB w6 W->uP 21 #[.slice none 0 0, .slice xa xn xc] W (CrPost W [] X)):=qh fun W hW=>K7 W [] X none xa 0 0 xn xc (K0 _ _) (HXX.out.later_ hW) (by decide) hxn2 (.inl rfl)
 clear hx hX6 hl20 hX hxn hxn2 hb6 hx6 HAM HX5 HV5 HA5 v0 v1 v2 v3 v4 zv
 go_wp2_with fail
 refine HC1.out.mono ?_
 rintro e w7 ⟨⟨ca,cn,cc,da,dn,dc,rfl,h1,h2⟩,hb7⟩
 obtain rfl:dn=0:=h2.len
 have HP7:Hid (IsComps w7 w7.heap.size X ca cn cc):=qh (h1.sub (Zl _ _ _))
 have HB7:=qh hb7
 clear h1 h2 hb7 HC1
 go_wp2_with fail
 refine (HC2.out _ HB7.out).mono ?_
 rintro e w8 ⟨⟨ea,en,ec,fa,fn,fc,rfl,h1,h2⟩,hb8⟩
 obtain rfl:en=0:=h1.len
 have HF8:Hid (IsComps w8 w8.heap.size X fa fn fc):=qh (h2.sub (Zl _ _ _))
 have HP8:=qh (HP7.out.later_ hb8)
 have HB8:=qh (HB7.out.trans (hb8.mono HB7.out.size))
 have hx8:=HX6.out.keep HB8.out HX6.out.lt
 have hv8:=HV6.out.later_ HB8.out
 obtain ⟨v0,v1,v2,v3,v4⟩:=row5 hx8.at_
 have zv:=hx8.lt
 have HV8:=qh hv8;have HX8:=qh hx8
 have HDO:=qh (zar w8 cv V0 hv8 [] none 0 0 (K0 _ _) (fun _=>trivial) (HTT.out.below (HA6.out.trans (HB8.out.mono HA6.out.size))))
 rw [show opDo V0 [] =(V0,0) from rfl] at HDO
 clear h1 h2 hb8 HC2 HP7 HB7 hx8 hv8 HX6 HV6
 go_wp2_with fail
 refine HDO.out.mono ?_
 rintro e w9 ⟨⟨q,rfl,hq⟩,hb9⟩
 obtain ⟨wA,hwA⟩:∃W,w9.alloc (.cells (uV q) 29)=W:=⟨_,rfl⟩
 have hbA:uB w9 wA:=by rw [<-hwA];exact Yw w9 _
 have hxA:BC wA w9.heap.size (vcells q):=by rw [<-hwA];exact BC.start w9 (uV q) 29
 have hb89:=hb9.trans (hbA.mono hb9.size)
 have HQ:=qh ((hq.sub (Zl _ _ _)).later_ hbA)
 have HVA:=qh (HV8.out.later_ hb89)
 have hv9:=HX8.out.keep hb89 HX8.out.lt
 have HFA:=qh (HF8.out.later_ hb89)
 have HPA:=qh (HP8.out.later_ hb89)
 have HXA:=qh (HXX.out.later_ (HB8.out.trans (hb89.mono HB8.out.size)))
 have HAA:=qh (HA6.out.trans ((HB8.out.trans (hb89.mono HB8.out.size)).mono HA6.out.size))
 have HS1:=qh (za6 X X wA ca xa cn xn cc xc HPA.out HXA.out)
 rw [show eqB X X=true from Z8 rfl] at HS1
 have HS2:Hid (∀W,uB wA W->uP 23 #[.slice fa fn fc, .slice xa xn xc] W fun e w'=>e= .returned (.bool true)/\uB W w'):=qh fun W hW=>by
  have:=za6 X X W fa xa fn xn fc xc (HFA.out.later_ hW) (HXA.out.later_ hW)
  rw [show eqB X X=true from Z8 rfl] at this;exact this
 have HS3:Hid (∀W,uB wA W->uP 17 #[.agg (uV cv), .agg (uV q)] W fun e w'=>e= .returned (.bool true)/\uB W w'):=qh fun W hW=>by
  have:=J3 V0 V0 W cv q (HVA.out.later_ hW) (HQ.out.later_ hW)
  rw [Jc rfl] at this;exact this
 clear v0 v1 v2 v3 v4 zv
 have HXV:=qh hv9;have HXQ:=qh hxA
 clear hq hb9 hbA hb89 hv9 hxA HDO HX8 HV8 HF8 HP8 HB8
 go_upto_region 8 with fail
 clear hwA
 go_wp2_with fail
 refine HS1.out.mono ?_
 rintro e wB ⟨rfl,hbB⟩
 have HBB:=qh hbB
 clear hbB HS1
 go_wp2_with fail
 refine (HS2.out _ HBB.out).mono ?_
 rintro e wC ⟨rfl,hbC⟩
 have HBC:=qh (HBB.out.trans (hbC.mono HBB.out.size))
 have hvC:=HXV.out.keep HBC.out HXV.out.lt
 have hqC:=HXQ.out.keep HBC.out HXQ.out.lt
 obtain ⟨v0,v1,v2,v3,v4⟩:=row5 hvC.at_
 obtain ⟨q0,q1,q2,q3,q4⟩:=row5 hqC.at_
 have zv:=hvC.lt;have zq:=hqC.lt
 clear hbC HS2 HBB hvC hqC
 go_wp2_with fail
 refine (HS3.out _ HBC.out).mono ?_
 rintro e wD ⟨rfl,hbD⟩
 have HAD:=qh (HAA.out.trans ((HBC.out.trans (hbD.mono HBC.out.size)).mono HAA.out.size))
 clear hbD
 go_wp2_with fail
 go_returns
 exact ⟨rfl,HAD.out⟩
end Go.Proofs.YtbgheehjfnoiiaaGreatDoor
