/-
  Contracts of the functions that the law reaches: conciliatorref03.step: what stands one.
-/
import Derived.Test.YtbgheehjfnoiiaaGreatDoorOn6
import Derived.Deep.RegionHeldLaw
namespace Go.Proofs.YtbgheehjfnoiiaaGreatDoor
open Go.RowKit
set_option maxHeartbeats 8000000
def StepPost (w0:World) (B0:Nat) (w:World) (r:Option (V×Nat)) (e:Ending) (w':World):Prop:=
 (match r with
  |some q=>∃c:VC,e= .returned (.tuple #[.agg #[.int .u8 c.k, .int .i64 c.n, .string c.s, .slice c.la c.ll c.lc, .slice c.oa c.ol c.oc], .int .i64 (q.2:Int), .int .i64 0])/\IsVal w0 B0 q.1 c
  |none=>e= .returned (.tuple #[.agg #[.int .u8 0, .int .i64 0, .string { data:= #[] }, .slice none 0 0, .slice none 0 0], .int .i64 0, .int .i64 30]))/\Below w.heap.size w w'
theorem zb1 {tmps:Array Value} {W:World} {b:Nat} {c:VC} {x y:Value} (ht:tmps[4]? =some (.pointer (some ⟨b,0,none⟩))) (hx:tmps[5]? =some x) (hy:tmps[6]? =some y) (h:BC W b (vcells c)):
 (results Tryz.f104 tmps).run Tryz.prog W= .ok (.tuple #[.agg #[.int .u8 c.k, .int .i64 c.n, .string c.s, .slice c.la c.ll c.lc, .slice c.oa c.ol c.oc],x,y]) W:=by
 obtain ⟨r0,r1,r2,r3,r4⟩:=(⟨h.at_ 0 _ rfl,h.at_ 1 _ rfl,h.at_ 2 _ rfl,h.at_ 3 _ rfl,h.at_ 4 _ rfl⟩:W.cell? ⟨b,0,none⟩=some (.int .u8 c.k)/\W.cell? ⟨b,1,none⟩=some (.int .i64 c.n)/\W.cell? ⟨b,2,none⟩=some (.string c.s)/\W.cell? ⟨b,3,none⟩=some (.slice c.la c.ll c.lc)/\W.cell? ⟨b,4,none⟩=some (.slice c.oa c.ol c.oc))
 simp [results,Tryz.results104,go_sem,ht,hx,hy,r0,r1,r2,r3,r4]
theorem Qo {w0:World} {B0:Nat} {w W:World} {x:Act} (h:BC W (w.heap.size+1+1) (vcells vzero)) (hb:uB w W) (hd:x.defers= []) (ht:x.tmps[4]? =some (.pointer (some ⟨w.heap.size+1+1,0,none⟩))) (hx:x.tmps[5]? =some (.int .i64 0)) (hy:x.tmps[6]? =some (.int .i64 30)):
 bodyPost Tryz.prog Tryz.f104 (StepPost w0 B0 w none) .ret x W:=⟨hd,_,zb1 ht hx hy h,rfl,hb⟩
theorem zcx {w0:World} {B0:Nat} {w W:World} {x:Act} {c:VC} {v:V} {k:Nat} (h:BC W (w.heap.size+1+1) (vcells c)) (hv:IsVal w0 B0 v c) (hb:uB w W) (hd:x.defers= []) (ht:x.tmps[4]? =some (.pointer (some ⟨w.heap.size+1+1,0,none⟩))) (hx:x.tmps[5]? =some (.int .i64 (k:Int))) (hy:x.tmps[6]? =some (.int .i64 0)):
 bodyPost Tryz.prog Tryz.f104 (StepPost w0 B0 w (some (v,k))) .ret x W:=⟨hd,_,zb1 ht hx hy h,⟨c,rfl,hv⟩,hb⟩
structure SB (w W:World) (c:VC) (s:St):Prop where
 v:BC W w.heap.size (vcells c)
 s:BC W (w.heap.size+1) [.bool s.list, .int .i64 s.i, .string s.key]
 r:BC W (w.heap.size+1+1) (vcells vzero)
 below:Below w.heap.size w W
theorem SB.start (w:World) (c:VC) (s:St) (t1 t2 t3:TypeId):SB w (((w.alloc (.cells #[.int .u8 c.k, .int .i64 c.n, .string c.s, .slice c.la c.ll c.lc, .slice c.oa c.ol c.oc] t1)).alloc (.cells #[.bool s.list, .int .i64 s.i, .string s.key] t2)).alloc (.cells #[.int .u8 0, .int .i64 0, .string { data:= #[] }, .slice none 0 0, .slice none 0 0] t3)) c s:=by
 obtain ⟨w1,hw1⟩:∃w1,w.alloc (.cells (uV c) t1)=w1:=⟨_,rfl⟩
 have s1:w1.heap.size=w.heap.size+1:=by rw [<-hw1,World.size_alloc]
 have b1:uB w w1:=by rw [<-hw1];exact (Below.refl _ _).alloc (Nat.le_refl _) _
 have c1:BC w1 w.heap.size (vcells c):=by rw [<-hw1];exact BC.start w (uV c) t1
 rw [hw1]
 obtain ⟨w2,hw2⟩:∃w2,w1.alloc (.cells #[.bool s.list, .int .i64 s.i, .string s.key] t2)=w2:=⟨_,rfl⟩
 have s2:w2.heap.size=w.heap.size+1+1:=by rw [<-hw2,World.size_alloc,s1]
 have b2:uB w1 w2:=by rw [<-hw2];exact (Below.refl _ _).alloc (Nat.le_refl _) _
 have c2:=BC.start w1 #[.bool s.list, .int .i64 s.i, .string s.key] t2
 rw [hw2,s1] at c2
 rw [hw2]
 have b3:uB w2 (w2.alloc (.cells (uU 0 0 { data:= #[] } none 0 0 none 0 0) t3)):=(Below.refl _ _).alloc (Nat.le_refl _) _
 have c3:=BC.start w2 (uU 0 0 { data:= #[] } none 0 0 none 0 0) t3
 rw [s2] at c3
 exact ⟨(c1.keep b2 (by omega)).keep b3 (by omega),c2.keep b3 (by omega),c3,(b1.trans (b2.mono (by omega))).trans (b3.mono (by omega))⟩
theorem SB.next {w W W':World} {c:VC} {s:St} (h:SB w W c s) (hb:uB W W'):SB w W' c s:=
 ⟨h.v.keep hb h.v.lt,h.s.keep hb h.s.lt,h.r.keep hb h.r.lt,h.below.trans (hb.mono (Nat.le_of_lt h.v.lt))⟩
theorem SB.stored {w W:World} {c:VC} {s:St} (h:SB w W c s) (d:VC):BC (((((W.setCell ⟨w.heap.size+1+1,0,none⟩ (.int .u8 d.k)).setCell ⟨w.heap.size+1+1,1,none⟩ (.int .i64 d.n)).setCell ⟨w.heap.size+1+1,2,none⟩ (.string d.s)).setCell ⟨w.heap.size+1+1,3,none⟩ (.slice d.la d.ll d.lc)).setCell ⟨w.heap.size+1+1,4,none⟩ (.slice d.oa d.ol d.oc)) (w.heap.size+1+1) (vcells d)/\uB w (((((W.setCell ⟨w.heap.size+1+1,0,none⟩ (.int .u8 d.k)).setCell ⟨w.heap.size+1+1,1,none⟩ (.int .i64 d.n)).setCell ⟨w.heap.size+1+1,2,none⟩ (.string d.s)).setCell ⟨w.heap.size+1+1,3,none⟩ (.slice d.la d.ll d.lc)).setCell ⟨w.heap.size+1+1,4,none⟩ (.slice d.oa d.ol d.oc)):=
 ⟨Zy h.r d,h.below.trans ((Zi W (w.heap.size+1+1) 0 d).below (Nat.le_of_lt h.r.lt)|>.mono (by omega))⟩
set_option maxRecDepth 100000 in
theorem zk7 (w:World) (vk vn:Int) (vs:ByteArray) (la:Option Addr) (ll lc:Nat) (oa:Option Addr) (ol oc:Nat) (v:V) (w0:World) (B0:Nat) (hb0:Below B0 w0 w) (hB0:B0<=w.heap.size) (hv:IsVal w0 B0 v ⟨vk,vn,vs,la,ll,lc,oa,ol,oc⟩) (s:St) (hs:s.Bnd) (hl:s.list=true):
 uP 104 #[.agg (uU vk vn vs la ll lc oa ol oc), .agg #[.bool s.list, .int .i64 s.i, .string s.key]] w (StepPost w0 B0 w (stepP v s)):=by
 delta uU uP
 obtain ⟨sl,si,sk⟩:=s
 dsimp only at hl hs ⊢
 subst hl
 have hi0:=hs.i0;have hi1:=hs.i1
 dsimp only at hi0 hi1
 obtain ⟨k',n',s',l,o,rfl⟩:=v.eta
 obtain ⟨ek,en,es,hbd,hvl,hvo⟩:=hv.lists
 dsimp only at ek en es hbd hvl hvo
 subst ek en es
 have k1:=hvl.few;have k2:=hvl.max;have k3:=hvo.few;have k4:=hvo.max
 have HL:=qh hvl
 have HO:=qh hvo
 have HLN:=qh hvl.len
 have HON:=qh hvo.len
 have HB:=qh (SB.start w ⟨vk,vn,vs,la,ll,lc,oa,ol,oc⟩ ⟨true,si,sk⟩ 29 82 29)
 obtain ⟨R,hR⟩:∃R,stepP (.mk vk vn vs l o) ⟨true,si,sk⟩=R:=⟨_,rfl⟩
 rw [hR]
 clear hvl hvo hv hs hbd
 by_cases h4:vk=4
 case neg=>
  have f0:(vk !=4)=true:=by simp [h4]
  obtain rfl:R=none:=by rw [<-hR];simp [stepP,V.kd];intro h;omega
  clear hR
  go_enter Tryz.func104,Tryz.ntmps104
  generalize hQ0:bodyPost _ _ _=Q0
  have HQ:=qh hQ0
  clear hQ0
  go_wp2_with fail
  rw [<-HQ.out]
  exact Qo HB.out.r HB.out.below rfl rfl rfl rfl
 case pos=>
  cases h4
  by_cases h5:si<0
  .obtain rfl:R=none:=by rw [<-hR];simp [stepP];omega
   clear hR
   go_enter Tryz.func104,Tryz.ntmps104
   generalize hQ0:bodyPost _ _ _=Q0
   have HQ:=qh hQ0
   clear hQ0
   go_wp2_with fail
   rw [<-HQ.out]
   exact Qo HB.out.r HB.out.below rfl rfl rfl rfl
  .by_cases h6:(ll:Int)<=si
   .obtain rfl:R=none:=by rw [<-hR];simp [stepP,V.ls,V.kd];have:=HLN.out;omega
    clear hR
    go_enter Tryz.func104,Tryz.ntmps104
    generalize hQ0:bodyPost _ _ _=Q0
    have HQ:=qh hQ0
    clear hQ0
    go_wp2_with fail
    rw [<-HQ.out]
    exact Qo HB.out.r HB.out.below rfl rfl rfl rfl
   .obtain ⟨j,rfl⟩:∃j:Nat,si=j:=⟨si.toNat,by omega⟩
    have hj:j<ll:=by omega
    obtain ⟨b,q,f,hp,rfl,hbB,hvf,hI⟩:=HL.out.get hj
    have hvf:=hvf.keep hb0 hbB
    have c0:=hvf.c0;have c1:=hvf.c1;have c2:=hvf.c2;have c3:=hvf.c3;have c4:=hvf.c4
    have hbw:b<w.heap.size:=Nat.lt_of_lt_of_le hbB hB0
    obtain rfl:R=some (l[j],j):=by rw [<-hR];simp [stepP,V.ls,V.kd,hp]
    have HI:=qh hI
    clear hR hI hvf
    go_enter Tryz.func104,Tryz.ntmps104
    generalize hQ0:bodyPost _ _ _=Q0
    have HQ:=qh hQ0
    clear hQ0
    go_wp2_with fail
    have B:=HB.out
    obtain ⟨W,hW⟩:∃W,(((w.alloc (.cells (uU 4 vn vs (some ⟨b,q,none⟩) ll lc oa ol oc) 29)).alloc (.cells #[.bool true, .int .i64 j, .string sk] 82)).alloc (.cells (uU 0 0 { data:= #[] } none 0 0 none 0 0) 29))=W:=⟨_,rfl⟩
    rw [hW] at B ⊢
    clear HB
    obtain ⟨v0,v1,v2,v3,v4⟩:=row5 B.v.at_
    have s0:=B.s.at_ 0 _ rfl;have s1:=B.s.at_ 1 _ rfl;have s2:=B.s.at_ 2 _ rfl
    obtain ⟨r0,r1,r2,r3,r4⟩:=row5 B.r.at_
    have f0:=B.r.fr 0;have f1:=B.r.fr 1;have f2:=B.r.fr 2;have f3:=B.r.fr 3;have f4:=B.r.fr 4
    have zs0:=B.v.lt;have zs1:=B.s.lt;have zs2:=B.r.lt
    have hkp:∀o u,w.cell? ⟨b,o,none⟩=some u->b<w.heap.size->W.cell? ⟨b,o,none⟩=some u:=fun o u h hb=>Zb B.below h hb
    have c0:=hkp _ _ c0 hbw;have c1:=hkp _ _ c1 hbw;have c2:=hkp _ _ c2 hbw;have c3:=hkp _ _ c3 hbw;have c4:=hkp _ _ c4 hbw
    have hbw:b<W.heap.size:=by have:=B.below.size;omega
    have HBB:=qh B
    clear B hkp
    go_region
    go_wp2_with fail
    rw [<-HQ.out]
    have ST:=HBB.out.stored f
    exact zcx (k:=j) (ST.1.keep (Zf _) ST.1.lt) HI.out ST.2.drew rfl rfl rfl rfl
set_option maxRecDepth 100000 in
theorem zln (w:World) (vk vn:Int) (vs:ByteArray) (la:Option Addr) (ll lc:Nat) (oa:Option Addr) (ol oc:Nat) (v:V) (w0:World) (B0:Nat) (hb0:Below B0 w0 w) (hB0:B0<=w.heap.size) (hv:IsVal w0 B0 v ⟨vk,vn,vs,la,ll,lc,oa,ol,oc⟩) (s:St) (hs:s.Bnd) (hl:s.list=false):
 uP 104 #[.agg (uU vk vn vs la ll lc oa ol oc), .agg #[.bool s.list, .int .i64 s.i, .string s.key]] w (StepPost w0 B0 w (stepP v s)):=by
 delta uU uP
 obtain ⟨sl,si,sk⟩:=s
 dsimp only at hl hs ⊢
 subst hl
 have hi0:=hs.i0;have hi1:=hs.i1
 dsimp only at hi0 hi1
 obtain ⟨k',n',s',l,o,rfl⟩:=v.eta
 obtain ⟨ek,en,es,hbd,hvl,hvo⟩:=hv.lists
 dsimp only at ek en es hbd hvl hvo
 subst ek en es
 have k1:=hvl.few;have k2:=hvl.max;have k3:=hvo.few;have k4:=hvo.max
 have HL:=qh hvl
 have HO:=qh hvo
 have HLN:=qh hvl.len
 have HON:=qh hvo.len
 have HB:=qh (SB.start w ⟨vk,vn,vs,la,ll,lc,oa,ol,oc⟩ ⟨false,si,sk⟩ 29 82 29)
 obtain ⟨R,hR⟩:∃R,stepP (.mk vk vn vs l o) ⟨false,si,sk⟩=R:=⟨_,rfl⟩
 rw [hR]
 clear hvl hvo hv hs hbd
 have HF:Hid (∀W,uB w W->uP 103 #[.agg (uU vk vn vs la ll lc oa ol oc), .string sk] W fun e w'=>e= .returned (.tuple #[.int .i64 (fieldK o sk:Int), .bool (fieldIs o sk)])/\uB W w'):=fun W hW=>Yj W o sk vk vn vs la ll lc oa ol oc (((HO.out.keep hb0).more hB0).later_ hW)
 obtain ⟨K,hK⟩:∃K,fieldK o sk=K:=⟨_,rfl⟩
 obtain ⟨is,hi⟩:∃is,fieldIs o sk=is:=⟨_,rfl⟩
 rw [hK,hi] at HF
 by_cases h4:vk=5
 case neg=>
  have f0:(vk !=5)=true:=by simp [h4]
  clear hK hi
  obtain rfl:R=none:=by rw [<-hR];simp [stepP,V.kd,h4]
  clear hR
  go_enter Tryz.func104,Tryz.ntmps104
  generalize hQ0:bodyPost _ _ _=Q0
  have HQ:=qh hQ0
  clear hQ0
  go_wp2_with fail
  refine (HF.out _ HB.out.below).mono ?_
  rintro e W ⟨rfl,hb1⟩
  have B:=HB.out.next hb1
  obtain ⟨v0,v1,v2,v3,v4⟩:=row5 B.v.at_
  have s0:=B.s.at_ 0 _ rfl;have s1:=B.s.at_ 1 _ rfl;have s2:=B.s.at_ 2 _ rfl
  obtain ⟨r0,r1,r2,r3,r4⟩:=row5 B.r.at_
  have f0:=B.r.fr 0;have f1:=B.r.fr 1;have f2:=B.r.fr 2;have f3:=B.r.fr 3;have f4:=B.r.fr 4
  have zs0:=B.v.lt;have zs1:=B.s.lt;have zs2:=B.r.lt
  have HBB:=qh B
  clear B hb1
  go_wp2_with fail
  rw [<-HQ.out]
  have ST:=HBB.out.stored ⟨0,0, { data:= #[] },none,0,0,none,0,0⟩
  exact Qo ST.1 ST.2 rfl rfl rfl rfl
 case pos=>
  cases h4
  cases is with
  | false=>
    clear hK
    obtain rfl:R=none:=by rw [<-hR];simp [stepP,V.os,hi]
    clear hR hi
    go_enter Tryz.func104,Tryz.ntmps104
    generalize hQ0:bodyPost _ _ _=Q0
    have HQ:=qh hQ0
    clear hQ0
    go_wp2_with fail
    refine (HF.out _ HB.out.below).mono ?_
    rintro e W ⟨rfl,hb1⟩
    have B:=HB.out.next hb1
    obtain ⟨v0,v1,v2,v3,v4⟩:=row5 B.v.at_
    have s0:=B.s.at_ 0 _ rfl;have s1:=B.s.at_ 1 _ rfl;have s2:=B.s.at_ 2 _ rfl
    obtain ⟨r0,r1,r2,r3,r4⟩:=row5 B.r.at_
    have f0:=B.r.fr 0;have f1:=B.r.fr 1;have f2:=B.r.fr 2;have f3:=B.r.fr 3;have f4:=B.r.fr 4
    have zs0:=B.v.lt;have zs1:=B.s.lt;have zs2:=B.r.lt
    have HBB:=qh B
    clear B hb1
    go_wp2_with fail
    rw [<-HQ.out]
    have ST:=HBB.out.stored ⟨0,0, { data:= #[] },none,0,0,none,0,0⟩
    exact Qo ST.1 ST.2 rfl rfl rfl rfl
  | true=>
    have hj:K<ol:=by have:=Xg hi;rw [hK, <-HON.out] at this;exact this
    obtain ⟨b,q,f,hp,rfl,hbB,_,_,hvf,hI⟩:=HO.out.get hj
    obtain rfl:R=some (o[K].2,K):=by rw [<-hR];simp [stepP,V.kd,V.os,hK,hi,hp]
    have HI:=qh hI
    have HVF:=qh hvf
    clear hR hI hvf hK hi
    go_enter Tryz.func104,Tryz.ntmps104
    generalize hQ0:bodyPost _ _ _=Q0
    have HQ:=qh hQ0
    clear hQ0
    go_wp2_with fail
    refine (HF.out _ HB.out.below).mono ?_
    rintro e W ⟨rfl,hb1⟩
    have B:=HB.out.next hb1
    obtain ⟨v0,v1,v2,v3,v4⟩:=row5 B.v.at_
    have s0:=B.s.at_ 0 _ rfl;have s1:=B.s.at_ 1 _ rfl;have s2:=B.s.at_ 2 _ rfl
    obtain ⟨r0,r1,r2,r3,r4⟩:=row5 B.r.at_
    have f0:=B.r.fr 0;have f1:=B.r.fr 1;have f2:=B.r.fr 2;have f3:=B.r.fr 3;have f4:=B.r.fr 4
    have zs0:=B.v.lt;have zs1:=B.s.lt;have zs2:=B.r.lt
    have hbw:b<w.heap.size:=Nat.lt_of_lt_of_le hbB hB0
    have hvf:=((HVF.out.keep hb0 hbB).keep HB.out.below hbw).keep hb1 (by have:=HB.out.below.size;omega)
    have c0:=hvf.c0;have c1:=hvf.c1;have c2:=hvf.c2;have c3:=hvf.c3;have c4:=hvf.c4
    have hbw:b<W.heap.size:=World.block_lt_of_cell? W _ c0
    have HBB:=qh B
    clear B hb1 hvf
    go_wp2_with fail
    rw [<-HQ.out]
    have ST:=HBB.out.stored f
    exact zcx (k:=K) ST.1 HI.out ST.2 rfl rfl rfl rfl
theorem J6 (w:World) (vk vn:Int) (vs:ByteArray) (la:Option Addr) (ll lc:Nat) (oa:Option Addr) (ol oc:Nat) (v:V) (w0:World) (B0:Nat) (hb0:Below B0 w0 w) (hB0:B0<=w.heap.size) (hv:IsVal w0 B0 v ⟨vk,vn,vs,la,ll,lc,oa,ol,oc⟩) (s:St) (hs:s.Bnd):
 uP 104 #[.agg (uU vk vn vs la ll lc oa ol oc), .agg #[.bool s.list, .int .i64 s.i, .string s.key]] w (StepPost w0 B0 w (stepP v s)):=by
 delta uU uP
 cases hl:s.list with
 |true=>have:=zk7 w vk vn vs la ll lc oa ol oc v w0 B0 hb0 hB0 hv s hs hl;rw [hl] at this;exact this
 |false=>have:=zln w vk vn vs la ll lc oa ol oc v w0 B0 hb0 hB0 hv s hs hl;rw [hl] at this;exact this
def NewVal (w:World) (x:V) (e:Ending) (w':World):Prop:=
 (∃c:VC,e= .returned (.agg #[.int .u8 c.k, .int .i64 c.n, .string c.s, .slice c.la c.ll c.lc, .slice c.oa c.ol c.oc])/\IsVal (only (fun b=>w.heap.size<=b) w') w'.heap.size x c)/\Below w.heap.size w w'
def CopyIH (x:V):Prop:=∀(W:World) (c:VC),IsVal W W.heap.size x c->Calls Tryz.prog 37 #[.agg #[.int .u8 c.k, .int .i64 c.n, .string c.s, .slice c.la c.ll c.lc, .slice c.oa c.ol c.oc]] W (NewVal W x)
theorem CL.start (w:World) (c0:VC) (t1 t2:TypeId) (l:List V):CL1 w ((w.alloc (.cells #[.int .u8 c0.k, .int .i64 c0.n, .string c0.s, .slice c0.la c0.ll c0.lc, .slice c0.oa c0.ol c0.oc] t1)).alloc (.cells #[.int .u8 0, .int .i64 0, .string { data:= #[] }, .slice none 0 0, .slice none 0 0] t2)) c0 l 0 none 0 0 [] [] :=by
 refine ⟨rfl,rfl,rfl,(BC.start w (uV c0) t1).keep ((Below.refl _ _).alloc (Nat.le_refl _) _) (by simp), ?_,((Below.refl _ _).alloc (Nat.le_refl _) _).alloc (by simp) _,Row.nil _ _ _ _ _⟩
 have:=BC.start (w.alloc (.cells (uV c0) t1)) #[.int .u8 0, .int .i64 0, .string { data:= #[] }, .slice none 0 0, .slice none 0 0] t2
 rw [World.size_alloc] at this
 exact this
theorem zmz {tmps:Array Value} {W:World} {b:Nat} {c:VC} (ht:tmps[2]? =some (.pointer (some ⟨b,0,none⟩))) (h:BC W b (vcells c)):
 (results Tryz.f37 tmps).run Tryz.prog W= .ok (.agg #[.int .u8 c.k, .int .i64 c.n, .string c.s, .slice c.la c.ll c.lc, .slice c.oa c.ol c.oc]) W:=by
 obtain ⟨r0,r1,r2,r3,r4⟩:=(⟨h.at_ 0 _ rfl,h.at_ 1 _ rfl,h.at_ 2 _ rfl,h.at_ 3 _ rfl,h.at_ 4 _ rfl⟩:W.cell? ⟨b,0,none⟩=some (.int .u8 c.k)/\W.cell? ⟨b,1,none⟩=some (.int .i64 c.n)/\W.cell? ⟨b,2,none⟩=some (.string c.s)/\W.cell? ⟨b,3,none⟩=some (.slice c.la c.ll c.lc)/\W.cell? ⟨b,4,none⟩=some (.slice c.oa c.ol c.oc))
 simp [results,Tryz.results37,go_sem,ht,r0,r1,r2,r3,r4]
theorem zil {w W:World} {k n:Int} {s:ByteArray} {l:List V} {o:List (ByteArray×V)} {a:Option Addr} {m c:Nat} {a':Option Addr} {m' c':Nat} {cl:List VC} {co:List (ByteArray×VC)} {x:Act}
 (h:BC W (w.heap.size+1) (vcells ⟨k,n,s,a,m,c,a',m',c'⟩)) (hf:Fresh W w.heap.size l o a m c a' m' c' cl co) (hb:uB w W) (hd:x.defers= []) (ht:x.tmps[2]? =some (.pointer (some ⟨w.heap.size+1,0,none⟩))):
 bodyPost Tryz.prog Tryz.f37 (CopyPost w k n s l o) .ret x W:=
 ⟨hd,_,zmz ht h,⟨_,_,_,_,_,_,_,_,rfl,hf⟩,hb⟩
set_option maxRecDepth 100000 in
theorem zat (l:List V) (o:List (ByteArray×V)) (IHl:∀x ∈ l,CopyIH x) (IHo:∀x ∈ o,CopyIH x.2) (w:World) (k n:Int) (s:ByteArray) (la:Option Addr) (ll lc:Nat) (oa:Option Addr) (ol oc:Nat) (h1:IsVals w w.heap.size l la ll lc) (h2:IsFields w w.heap.size o oa ol oc):
 uP 37 #[.agg (uU k n s la ll lc oa ol oc)] w (CopyPost w k n s l o):=by
 delta uU uP
 obtain ⟨i0,hi0,hz0,hz1,hz2⟩:=info_parts Z9
 obtain ⟨j0,hj0,hy0,hy1,hy2⟩:=info_parts Ya
 have k1:=h1.few;have k2:=h1.max;have k3:=h2.few;have k4:=h2.max
 have HLN:=qh h1.len
 have HON:=qh h2.len
 have HL:=qh h1
 have HO:=qh h2
 have HIL:=qh IHl
 have HIO:=qh IHo
 have HST:=qh (CL.start w ⟨k,n,s,la,ll,lc,oa,ol,oc⟩ 29 29 l)
 clear h1 h2 IHl IHo
 go_enter Tryz.func37,Tryz.ntmps37
 generalize hQ0:bodyPost _ _ _=Q0
 have HQ:=qh hQ0
 clear hQ0
 go_wp2_with fail
 go_loopw [3,4] (fun u i wr=>∃(j:Nat) (a:Option Addr) (m c:Nat) (xs:List V) (cs:List VC),j<=ll/\i= .int .i64 j/\u= .slice a m c/\CL1 w wr ⟨k,n,s,la,ll,lc,oa,ol,oc⟩ l j a m c xs cs) (fun _ i _=>ll - (intOf i).toNat)
 case atStart=>exact ⟨0,none,0,0, [], [],Nat.zero_le _,rfl,rfl,HST.out⟩
 case round =>
  obtain ⟨j,a,m,c,xs,cs,hj,rfl,rfl,L⟩:=hrel
  obtain ⟨b0,b1,b2,b3,b4⟩:=row5 L.box.at_
  have g0:=L.box.fr 3;have g1:=L.box.fr 4
  have zs0:=L.box.lt;have zs1:=L.res.lt
  by_cases hlt:j<ll
  .obtain ⟨b,q,f,hp,rfl,hbB,hv,hI⟩:=(HL.out.keep L.below).get hlt
   have c0:=hv.c0;have c1:=hv.c1;have c2:=hv.c2;have c3:=hv.c3;have c4:=hv.c4
   have hbw:b<wr.heap.size:=World.block_lt_of_cell? wr _ c0
   have HC:Hid (uP 37 #[.agg (uV f)] wr (NewVal wr l[j])):=HIL.out l[j] (List.getElem_mem hp) wr f (hI.more L.below.size)
   have LL:=qh L
   clear L hv hI
   go_wp2_with fail
   refine HC.out.mono ?_
   rintro e w4 ⟨⟨cx,rfl,hI4⟩,hb4⟩
   have L:=LL.out
   have hrow:RowV w4 (w.heap.size+2) (.slice a m c) xs cs:=L.row.later (PV.closed xs cs) (.of_below 0 hb4) (by omega)
   have ho4:=hrow.own
   rw [L.len] at ho4
   have hsz4:=hb4.size
   have HI4:=qh hI4
   have HB4:=qh hb4
   clear L hrow hI4 hb4
   go_wp2_with (at_builtin;refine wpList_append_lies _ rfl (.tmp 14) (.tmp 21) 26 (by rfl) (w.heap.size+2) 29 i0 _ 5 80 Tryz.underlying26 hi0 hz0 hz1 hz2 rfl (by omega) (.slice a m c) j (cs.flatMap vcells) (by rfl) (ho4.alloc _) ⟨w4.heap.size,0,none⟩ 1 1 (vcells cx) (by rfl) (by rfl) (World.news_of_block (t:=29) (fr:=(0,0)) (heap_alloc_new w4 (.cells (uV cx) 29))) (by simp [vcells,Value.oneCell']) (by omega) (by unfold maxLen;omega) (by omega) (by simp;omega) (w4.heap.size+1) (by simp) ?_;intro g cap w7 hown7 hgrow7 hat7 hlt7)
   go_roundw
   case rel=>exact ⟨j+1,some ⟨g,0,none⟩,j+1,cap,xs++ [l[j]],cs++ [cx],by omega,by go_num,rfl,LL.out.round hp rfl HB4.out HI4.out ((Below.refl _ _).alloc (Nat.le_refl _) _) hown7 hgrow7 (hat7.imp_right fun e=>by omega)⟩
   case measure=>simp [intOf];omega
  .have hjn:j=ll:=by omega
   subst hjn
   obtain ⟨w1,hw1⟩:∃w1,w1=wr:=⟨_,rfl⟩
   subst hw1
   have LL:=qh L
   clear L
   go_wp2_with fail
   go_loopw [5,6] (fun u i wr=>∃(i':Nat) (a':Option Addr) (m' c':Nat) (xs':List (ByteArray×V)) (cs':List (ByteArray×VC)),i'<=ol/\i= .int .i64 i'/\u= .slice a' m' c'/\CL2 w1 wr o i' a' m' c' xs' cs') (fun _ i _=>ol - (intOf i).toNat)
   case atStart=>exact ⟨0,none,0,0, [], [],Nat.zero_le _,rfl,rfl,⟨rfl,rfl,rfl,by omega,Below.refl _ _,Row.nil _ _ _ _ _⟩⟩
   case round=>
    obtain ⟨i',a',m',c',xs',cs',hi',rfl,rfl,L⟩:=hrel
    have zs9:=LL.out.below.size
    have zs8:=LL.out.box.lt
    have zt9:=L.below.size
    have BX:=LL.out.box.keep L.below zs0
    have BR:=LL.out.res.keep L.below zs1
    obtain ⟨b0,b1,b2,b3,b4⟩:=row5 BX.at_
    obtain ⟨r0,r1,r2,r3,r4⟩:=row5 BR.at_
    have g0:=BX.fr 3;have g1:=BX.fr 4
    have f0:=BR.fr 0;have f1:=BR.fr 1;have f2:=BR.fr 2;have f3:=BR.fr 3;have f4:=BR.fr 4
    have zs0:=BX.lt;have zs1:=BR.lt
    have HBX:=qh BX
    have HBR:=qh BR
    clear BX BR
    by_cases hlt:i'<ol
    .obtain ⟨b,q,f,hp,rfl,hbB,hkey,hks,hv,hI⟩:=((HO.out.keep LL.out.below).keep (L.below.mono zs9)).get hlt
     have c0:=hv.c0;have c1:=hv.c1;have c2:=hv.c2;have c3:=hv.c3;have c4:=hv.c4
     have hbw:b<wr.heap.size:=World.block_lt_of_cell? wr _ hkey
     obtain ⟨sk,hsk⟩:∃sk,o[i'].1=sk:=⟨_,rfl⟩
     rw [hsk] at hkey hks
     have HSK:=qh hsk
     have HC:Hid (uP 37 #[.agg (uV f)] wr.drew (NewVal wr.drew o[i'].2)):=HIO.out o[i'] (List.getElem_mem hp) wr.drew f ((hI.keep ((Zf wr).mono (by omega))).more (by show w.heap.size<=wr.heap.size;omega))
     have HFO:Hid (∀W,Below wr.drew.heap.size wr.drew W->W.ownsRow w1.heap.size 62 6 (.slice a' m' c') i' (cs'.flatMap fcells)/\wr.heap.size<=W.heap.size):=by
      intro W hW
      have ho:=((L.row.later (rb:=0) (PF.closed xs' cs') (.of_below _ (Zf wr)) (by omega)).later (rb:=0) (PF.closed xs' cs') (.of_below _ hW) (by omega)).own
      rw [L.len] at ho
      exact ⟨ho,hW.size⟩
     have HFB:Hid (∀W,Below w1.heap.size wr.drew W->W.cell? ⟨w.heap.size,4,none⟩=some (.slice (some ⟨b,q,none⟩) ol oc)/\W.cell? ⟨b,q+i'*6,none⟩=some (.string sk)/\W.cell? ⟨b,q+i'*6+1,none⟩=some (.int .u8 f.k)/\W.cell? ⟨b,q+i'*6+1+1,none⟩=some (.int .i64 f.n)/\W.cell? ⟨b,q+i'*6+1+2,none⟩=some (.string f.s)/\W.cell? ⟨b,q+i'*6+1+3,none⟩=some (.slice f.la f.ll f.lc)/\W.cell? ⟨b,q+i'*6+1+4,none⟩=some (.slice f.oa f.ol f.oc)):=by
      intro W hW
      have hk:∀b o u,b<w1.heap.size->wr.cell? ⟨b,o,none⟩=some u->W.cell? ⟨b,o,none⟩=some u:=fun b o u hb h=>Zb hW (Zb (Zf wr) h (by omega)) hb
      exact ⟨hk _ _ _ zs8 b4,hk _ _ _ (by omega) hkey,hk _ _ _ (by omega) c0,hk _ _ _ (by omega) c1,hk _ _ _ (by omega) c2,hk _ _ _ (by omega) c3,hk _ _ _ (by omega) c4⟩
     have hrlt:∀g,(Value.slice a' m' c').ownBlock=some g->w1.heap.size<=g:=fun g hg=>(L.row.lt g hg).1
     have LM:=qh L
     clear L hv hI hsk
     go_wp2_with fail
     refine wp_region_noPanic ?_
     go_region_held_law (fun W=>W.cell? ⟨w.heap.size,4,none⟩=some (.slice (some ⟨b,q,none⟩) ol oc)/\W.cell? ⟨b,q+i'*6,none⟩=some (.string sk)/\W.cell? ⟨b,q+i'*6+1,none⟩=some (.int .u8 f.k)/\W.cell? ⟨b,q+i'*6+1+1,none⟩=some (.int .i64 f.n)/\W.cell? ⟨b,q+i'*6+1+2,none⟩=some (.string f.s)/\W.cell? ⟨b,q+i'*6+1+3,none⟩=some (.slice f.la f.ll f.lc)/\W.cell? ⟨b,q+i'*6+1+4,none⟩=some (.slice f.oa f.ol f.oc))
      (first|exact HFB.out _ (Below.refl _ _)|exact HFB.out _ (hb4.mono zt9)|exact HFB.out _ ((hb4.mono zt9).alloc (Nat.le_trans zt9 hb4.size) _)|exact HFB.out _ hb5)
      (first
       |(go_at_call 37;refine (HC.out).mono ?_;rintro e w4 ⟨⟨cx,rfl,hI4⟩,hb4⟩;obtain ⟨ho4,hz4⟩:=HFO.out w4 hb4)
       |(refine step_append_lies _ (by rfl) _ _ _ (by rfl) w1.heap.size 62 j0 _ 6 96 (by kernel_rfl) hj0 hy0 hy1 hy2 rfl (by omega) (.slice a' m' c') i' (cs'.flatMap fcells) (by rfl) (ho4.alloc _) ⟨w4.heap.size,0,none⟩ 1 1 (fcells (sk,cx)) (by rfl) (by rfl) (World.news_of_block (t:=62) (fr:=(0,0)) (heap_alloc_new w4 _)) (by simp [fcells,Value.oneCell']) (by omega) (by unfold maxLen;omega) (by omega) (by simp;omega) (w4.heap.size+1) (by simp) ?_;intro g cap w5 hown5 hgrow5 hat5 hlt5;have hb5:=((hb4.mono zt9).alloc (Nat.le_trans zt9 hb4.size) _).trans (Zj hgrow5 hrlt (by simp;omega))))
     all_goals
      refine NoPanic.normal ?_
      go_wp2_with fail
      go_roundw
      case rel=>exact ⟨i'+1,some ⟨g,0,none⟩,i'+1,cap,xs'++ [(sk,o[i'].2)],cs'++ [(sk,cx)],by omega,by go_num,rfl,(LM.out.behind (Zf wr)).round hp HSK.out rfl hks hb4 hI4 ((Below.refl _ _).alloc (Nat.le_refl _) _) hown5 hgrow5 (hat5.imp_right fun e=>by omega)⟩
      case measure=>simp [intOf];omega
    .have hin:i'=ol:=by omega
     subst hin
     have LM:=qh L
     clear L
     go_wp2_with fail
     rw [<-HQ.out]
     have W1:=RStep.self (W:=wr) (b:=w.heap.size) (o:=3) (x:= .slice a m c)
     have W2:=W1.trans (RStep.self (o:=4) (x:= .slice a' m' c'))
     have W3:=Zi ((wr.setCell ⟨w.heap.size,3,none⟩ (.slice a m c)).setCell ⟨w.heap.size,4,none⟩ (.slice a' m' c')) (w.heap.size+1) 0 ⟨k,n,s,a,m,c,a',m',c'⟩
     have hbw:uB w wr:=LL.out.below.trans (LM.out.below.mono zs9)
     have hfin:=Zy ((HBR.out.far (o:=3) (x:= .slice a m c) (show w.heap.size+1≠w.heap.size by omega)).far (o:=4) (x:= .slice a' m' c') (show w.heap.size+1≠w.heap.size by omega)) ⟨k,n,s,a,m,c,a',m',c'⟩
     exact zil hfin (zht LL.out LM.out (by rw [<-HLN.out];omega) (by rw [<-HON.out];omega) (by rw [<-HLN.out];omega) (by rw [<-HON.out];omega) (Nat.le_trans W2.size W3.size) (fun q hq h1 h2=>(W3.block q (Nat.lt_of_lt_of_le hq W2.size) h2).trans (W2.block q hq h1))) ((hbw.trans (W2.below (by omega)|>.mono (by omega))).trans (W3.below (by have:=W2.size;omega)|>.mono (by omega))) rfl rfl
theorem Fresh.new {w:World} {v:V} {c0:VC} (h:IsVal w w.heap.size v c0) {e:Ending} {w':World} (hc:CopyPost w c0.k c0.n c0.s v.ls v.os e w'):NewVal w v e w':=by
 obtain ⟨k,n,s,l,o,rfl⟩:=v.eta
 obtain ⟨rfl,rfl,rfl,hb,_,_⟩:=h.lists
 obtain ⟨⟨a,m,c,a',m',c',cl,co,rfl,hf⟩,hbl⟩:=hc
 exact ⟨⟨⟨c0.k,c0.n,c0.s,a,m,c,a',m',c'⟩,rfl,hf.val hb.k0 hb.k1 hb.n0 hb.n1 hb.s1⟩,hbl⟩
theorem Yz (v:V):CopyIH v:=by
 induction v using V.ind with
 | h k n s l o ihl iho=>
   intro W c h
   obtain ⟨rfl,rfl,rfl,hb,h1,h2⟩:=h.lists
   exact (zat l o ihl iho W c.k c.n c.s c.la c.ll c.lc c.oa c.ol c.oc h1 h2).mono fun e w' hc=>Fresh.new h hc
theorem Ky (w:World) (v:V) (vk vn:Int) (vs:ByteArray) (la:Option Addr) (ll lc:Nat) (oa:Option Addr) (ol oc:Nat) (h:IsVal w w.heap.size v ⟨vk,vn,vs,la,ll,lc,oa,ol,oc⟩):
 uP 37 #[.agg (uU vk vn vs la ll lc oa ol oc)] w (CopyPost w vk vn vs v.ls v.os):=by
 delta uU uP
 obtain ⟨k,n,s,l,o,rfl⟩:=v.eta
 obtain ⟨_,_,_,_,h1,h2⟩:=h.lists
 exact zat l o (fun x _=>Yz x) (fun x _=>Yz x.2) w vk vn vs la ll lc oa ol oc h1 h2
theorem _root_.Go.RowKit.Below.set_ {B b o:Nat} {a w:World} {x:Value} (h:Below B a w) (hb:B<=b):Below B a (w.setCell ⟨b,o,none⟩ x):=
 h.trans ⟨rfl,rfl,rfl,by simp,fun k hk=>heap_setCell_other _ _ _ _ (show k≠b by omega)⟩
theorem Zp (w:World) (o:Obj):Below w.heap.size w.drew (w.alloc o).drew:=(Below.refl w.heap.size w.drew).alloc (Nat.le_refl _) o
theorem Xn {w W:World} {cs:Array Value} {t:TypeId} (hb:Below (w.alloc (.cells cs t)).drew.heap.size (w.alloc (.cells cs t)).drew W):BC W w.heap.size cs.toList:=
 ((BC.start w cs t).keep (Zf _) (by simp)).keep hb (show w.heap.size<(w.alloc (.cells cs t)).heap.size by simp)
theorem _root_.Go.RowKit.Below.set5' {B b:Nat} {a w:World} (h:Below B a w) (hb:B<=b) (x0 x1 x2 x3 x4:Value):Below B a (((((w.setCell ⟨b,0,none⟩ x0).setCell ⟨b,1,none⟩ x1).setCell ⟨b,2,none⟩ x2).setCell ⟨b,3,none⟩ x3).setCell ⟨b,4,none⟩ x4):=
 ((((h.set_ hb).set_ hb).set_ hb).set_ hb).set_ hb
theorem _root_.Go.RowKit.Below.set5 {B:Nat} {a w:World} (h:Below B a w) (x0 x1 x2 x3 x4:Value):Below B a (((((w.setCell ⟨B,0,none⟩ x0).setCell ⟨B,1,none⟩ x1).setCell ⟨B,2,none⟩ x2).setCell ⟨B,3,none⟩ x3).setCell ⟨B,4,none⟩ x4):=h.set5' (Nat.le_refl _) _ _ _ _ _
theorem StepPost.gen {w0:World} {B0:Nat} {w:World} {r:Option (V×Nat)} {e:Ending} {w':World} (h:StepPost w0 B0 w r e w'):∃(d:VC) (k er:Int),e= .returned (.tuple #[.agg #[.int .u8 d.k, .int .i64 d.n, .string d.s, .slice d.la d.ll d.lc, .slice d.oa d.ol d.oc], .int .i64 k, .int .i64 er])/\Hid ((r=none/\er=30)∨∃q,r=some q/\k=(q.2:Int)/\er=0/\IsVal w0 B0 q.1 d)/\uB w w':=by
 delta uB
 obtain ⟨h1,h2⟩:=h
 cases r with
 |none=>exact ⟨vzero,0,30,h1, .inl ⟨rfl,rfl⟩,h2⟩
 | some q=>
   obtain ⟨c,h3,h4⟩:=h1
   exact ⟨c,q.2,0,h3, .inr ⟨q,rfl,rfl,rfl,h4⟩,h2⟩
theorem Zr {Q:Exit->Act->World->Prop} {a:Act} {W0:World} (P:World->Prop) (h0:P W0) (h:∀W,P W->Q .normal a W):NoPanic Q .normal a W0:=h W0 h0
theorem Q4 {w w4:World} (h:Below w.heap.size w.drew w4) (hz:w.heap.size<=w4.heap.size) (d:VC) (t:TypeId):BC (w4.alloc (.cells #[.int .u8 d.k, .int .i64 d.n, .string d.s, .slice d.la d.ll d.lc, .slice d.oa d.ol d.oc] t)) w4.heap.size (vcells d)/\Below w.heap.size w.drew (w4.alloc (.cells #[.int .u8 d.k, .int .i64 d.n, .string d.s, .slice d.la d.ll d.lc, .slice d.oa d.ol d.oc] t))/\w.heap.size<=w4.heap.size:=
 ⟨BC.start w4 (uV d) t,h.alloc hz _,hz⟩
theorem Jg {w w4:World} (h:Below w.heap.size w.drew w4) (d:VC) (x:BC w4 w.heap.size [.int .u8 0, .int .i64 0, .string { data:= #[] }, .slice none 0 0, .slice none 0 0]):BC (((((w4.setCell ⟨w.heap.size,0,none⟩ (.int .u8 d.k)).setCell ⟨w.heap.size,1,none⟩ (.int .i64 d.n)).setCell ⟨w.heap.size,2,none⟩ (.string d.s)).setCell ⟨w.heap.size,3,none⟩ (.slice d.la d.ll d.lc)).setCell ⟨w.heap.size,4,none⟩ (.slice d.oa d.ol d.oc)) w.heap.size (vcells d)/\Below w.heap.size w.drew (((((w4.setCell ⟨w.heap.size,0,none⟩ (.int .u8 d.k)).setCell ⟨w.heap.size,1,none⟩ (.int .i64 d.n)).setCell ⟨w.heap.size,2,none⟩ (.string d.s)).setCell ⟨w.heap.size,3,none⟩ (.slice d.la d.ll d.lc)).setCell ⟨w.heap.size,4,none⟩ (.slice d.oa d.ol d.oc))/\w.heap.size<=w.heap.size:=
 ⟨Zy (c0:=vzero) x d,Below.set5' h (Nat.le_refl _) _ _ _ _ _,Nat.le_refl _⟩
def GetPost (w:World) (r:Option V) (e:Ending) (w':World):Prop:=
 (match r with
  |some x=>∃c:VC,e= .returned (.tuple #[.agg #[.int .u8 c.k, .int .i64 c.n, .string c.s, .slice c.la c.ll c.lc, .slice c.oa c.ol c.oc], .int .i64 0])/\IsVal (only (fun b=>w.heap.size<=b) w') w'.heap.size x c
  |none=>e= .returned (.tuple #[.agg #[.int .u8 0, .int .i64 0, .string { data:= #[] }, .slice none 0 0, .slice none 0 0], .int .i64 30]))/\Below w.heap.size w w'
theorem zcv {tmps:Array Value} {W:World} {b:Nat} {c:VC} {x:Value} (ht:tmps[4]? =some (.pointer (some ⟨b,0,none⟩))) (hx:tmps[5]? =some x) (h:BC W b (vcells c)):
 (results Tryz.f58 tmps).run Tryz.prog W= .ok (.tuple #[.agg #[.int .u8 c.k, .int .i64 c.n, .string c.s, .slice c.la c.ll c.lc, .slice c.oa c.ol c.oc],x]) W:=by
 obtain ⟨r0,r1,r2,r3,r4⟩:=(⟨h.at_ 0 _ rfl,h.at_ 1 _ rfl,h.at_ 2 _ rfl,h.at_ 3 _ rfl,h.at_ 4 _ rfl⟩:W.cell? ⟨b,0,none⟩=some (.int .u8 c.k)/\W.cell? ⟨b,1,none⟩=some (.int .i64 c.n)/\W.cell? ⟨b,2,none⟩=some (.string c.s)/\W.cell? ⟨b,3,none⟩=some (.slice c.la c.ll c.lc)/\W.cell? ⟨b,4,none⟩=some (.slice c.oa c.ol c.oc))
 simp [results,Tryz.results58,go_sem,ht,hx,r0,r1,r2,r3,r4]
theorem zkm {w W:World} {x:Act} (h:BC W (w.heap.size+1) (vcells vzero)) (hb:uB w W) (hd:x.defers= []) (ht:x.tmps[4]? =some (.pointer (some ⟨w.heap.size+1,0,none⟩))) (hx:x.tmps[5]? =some (.int .i64 30)):
 bodyPost Tryz.prog Tryz.f58 (GetPost w none) .ret x W:=⟨hd,_,zcv ht hx h,rfl,hb⟩
theorem zjk {w W:World} {x:Act} {c:VC} {v:V} (h:BC W (w.heap.size+1) (vcells c)) (hv:IsVal (only (fun b=>w.heap.size<=b) W) W.heap.size v c) (hb:uB w W) (hd:x.defers= []) (ht:x.tmps[4]? =some (.pointer (some ⟨w.heap.size+1,0,none⟩))) (hx:x.tmps[5]? =some (.int .i64 0)):
 bodyPost Tryz.prog Tryz.f58 (GetPost w (some v)) .ret x W:=⟨hd,_,zcv ht hx h,⟨c,rfl,hv⟩,hb⟩
structure GB (w W:World) (c:VC):Prop where
 v:BC W w.heap.size (vcells c)
 r:BC W (w.heap.size+1) (vcells vzero)
 below:Below w.heap.size w W
theorem GB.start (w:World) (c:VC) (t1 t3:TypeId):GB w ((w.alloc (.cells #[.int .u8 c.k, .int .i64 c.n, .string c.s, .slice c.la c.ll c.lc, .slice c.oa c.ol c.oc] t1)).alloc (.cells #[.int .u8 0, .int .i64 0, .string { data:= #[] }, .slice none 0 0, .slice none 0 0] t3)) c:=by
 have h:=CL.start w c t1 t3 []
 exact ⟨h.box,h.res,h.below⟩
theorem GB.next {w W W':World} {c:VC} {B:Nat} (h:GB w W c) (hb:Below B W W') (hB:w.heap.size+2<=B):GB w W' c:=
 ⟨h.v.keep hb (by omega),h.r.keep hb (by omega),h.below.trans (hb.mono (by omega))⟩
theorem GB.store {w W:World} {c:VC} (h:GB w W c) (d:VC):GB w (((((W.setCell ⟨w.heap.size,0,none⟩ (.int .u8 d.k)).setCell ⟨w.heap.size,1,none⟩ (.int .i64 d.n)).setCell ⟨w.heap.size,2,none⟩ (.string d.s)).setCell ⟨w.heap.size,3,none⟩ (.slice d.la d.ll d.lc)).setCell ⟨w.heap.size,4,none⟩ (.slice d.oa d.ol d.oc)) d:=
 ⟨Zy h.v d,h.r.next (Zi W w.heap.size 0 d) (by omega),Below.set5' h.below (Nat.le_refl _) _ _ _ _ _⟩
theorem GB.result {w W:World} {c:VC} (h:GB w W c) (d:VC):BC (((((W.setCell ⟨w.heap.size+1,0,none⟩ (.int .u8 d.k)).setCell ⟨w.heap.size+1,1,none⟩ (.int .i64 d.n)).setCell ⟨w.heap.size+1,2,none⟩ (.string d.s)).setCell ⟨w.heap.size+1,3,none⟩ (.slice d.la d.ll d.lc)).setCell ⟨w.heap.size+1,4,none⟩ (.slice d.oa d.ol d.oc)) (w.heap.size+1) (vcells d)/\uB w (((((W.setCell ⟨w.heap.size+1,0,none⟩ (.int .u8 d.k)).setCell ⟨w.heap.size+1,1,none⟩ (.int .i64 d.n)).setCell ⟨w.heap.size+1,2,none⟩ (.string d.s)).setCell ⟨w.heap.size+1,3,none⟩ (.slice d.la d.ll d.lc)).setCell ⟨w.heap.size+1,4,none⟩ (.slice d.oa d.ol d.oc)):=
 ⟨Zy h.r d,Below.set5' h.below (by omega) _ _ _ _ _⟩
set_option maxRecDepth 100000 in
theorem Xt (w:World) (vk vn:Int) (vs:ByteArray) (la:Option Addr) (ll lc:Nat) (oa:Option Addr) (ol oc:Nat) (v:V) (hv:IsVal w w.heap.size v ⟨vk,vn,vs,la,ll,lc,oa,ol,oc⟩) (p:List St) (a:Option Addr) (n c:Nat) (hp:IsSteps w w.heap.size p a n c):
 uP 58 #[.agg (uU vk vn vs la ll lc oa ol oc), .slice a n c] w (GetPost w (getP v p)):=by
 delta uU uP
 have k1:=hp.few;have k2:=hp.max
 have HLN:=qh hp.len
 have HP:=qh hp
 have HV:=qh hv
 have HB:=qh (GB.start w ⟨vk,vn,vs,la,ll,lc,oa,ol,oc⟩ 29 29)
 obtain ⟨R,hR⟩:∃R,getP v p=R:=⟨_,rfl⟩
 rw [hR]
 have HR:=qh hR
 clear hp hv hR
 go_enter Tryz.func58,Tryz.ntmps58
 generalize hQ0:bodyPost _ _ _=Q0
 have HQ:=qh hQ0
 clear hQ0
 go_wp2_with fail
 go_loopw [6,7,8,9] (fun i _ _ _ wr=>∃(j:Nat) (x:V) (c:VC),j<=n/\i= .int .i64 j/\Hid (getP x (p.drop j)=R)/\Hid (IsVal w w.heap.size x c)/\GB w wr c) (fun i _ _ _ _=>n - (intOf i).toNat)
 case atStart=>exact ⟨0,v,_,Nat.zero_le _,rfl,HR,HV,HB.out⟩
 case round=>
  obtain ⟨j,x,cx,hj,rfl,HX,HXV,B⟩:=hrel
  clear HB HR HV
  obtain ⟨v0,v1,v2,v3,v4⟩:=row5 B.v.at_
  obtain ⟨r0,r1,r2,r3,r4⟩:=row5 B.r.at_
  have e0:=B.v.fr 0;have e1:=B.v.fr 1;have e2:=B.v.fr 2;have e3:=B.v.fr 3;have e4:=B.v.fr 4
  have f0:=B.r.fr 0;have f1:=B.r.fr 1;have f2:=B.r.fr 2;have f3:=B.r.fr 3;have f4:=B.r.fr 4
  have zs0:=B.v.lt;have zs1:=B.r.lt
  have HBB:=qh B
  by_cases hlt:j<n
  .obtain ⟨b,q,hpl,rfl,hbB,hs,hsb⟩:=HP.out.get hlt
   have hs:=hs.keep B.below hbB
   obtain ⟨s,hse⟩:∃s,p[j] =s:=⟨_,rfl⟩
   rw [hse] at hs hsb
   have s0:=hs.c0;have s1:=hs.c1;have s2:=hs.c2
   have hbw:b<wr.heap.size:=World.block_lt_of_cell? wr _ s0
   have hdr:p.drop j=s::p.drop (j+1):=by rw [<-hse];exact List.drop_eq_getElem_cons hpl
   have HDR:=qh hdr
   have hzs:=B.below.size
   have HC:Hid (∀W,Below wr.heap.size wr.drew W->uP 104 #[.agg (uV cx), .agg #[.bool s.list, .int .i64 s.i, .string s.key]] W (StepPost w w.heap.size W (stepP x s))):=fun W hW=>J6 W cx.k cx.n cx.s cx.la cx.ll cx.lc cx.oa cx.ol cx.oc x w w.heap.size ((HBB.out.below.trans ((Zf wr).mono hzs)).trans (hW.mono hzs)) (Nat.le_trans hzs hW.size) HXV.out s hsb
   have HFB:Hid (∀W,Below wr.heap.size wr.drew W->W.cell? ⟨w.heap.size,0,none⟩=some (.int .u8 cx.k)/\W.cell? ⟨w.heap.size,1,none⟩=some (.int .i64 cx.n)/\W.cell? ⟨w.heap.size,2,none⟩=some (.string cx.s)/\W.cell? ⟨w.heap.size,3,none⟩=some (.slice cx.la cx.ll cx.lc)/\W.cell? ⟨w.heap.size,4,none⟩=some (.slice cx.oa cx.ol cx.oc)/\W.cell? ⟨b,q+j*3,none⟩=some (.bool s.list)/\W.cell? ⟨b,q+j*3+1,none⟩=some (.int .i64 s.i)/\W.cell? ⟨b,q+j*3+2,none⟩=some (.string s.key)):=by
    intro W hW
    have hk:∀b o u,b<wr.heap.size->wr.cell? ⟨b,o,none⟩=some u->W.cell? ⟨b,o,none⟩=some u:=fun b o u hb h=>Zb hW (Zb (Zf wr) h hb) hb
    exact ⟨hk _ _ _ zs0 v0,hk _ _ _ zs0 v1,hk _ _ _ zs0 v2,hk _ _ _ zs0 v3,hk _ _ _ zs0 v4,hk _ _ _ hbw s0,hk _ _ _ hbw s1,hk _ _ _ hbw s2⟩
   have HST:=qh (show stepP x s=stepP x s from rfl)
   clear B hs hdr HST
   go_wp2_with fail
   refine wp_region_noPanic ?_
   go_region_held_law (fun W=>W.cell? ⟨w.heap.size,0,none⟩=some (.int .u8 cx.k)/\W.cell? ⟨w.heap.size,1,none⟩=some (.int .i64 cx.n)/\W.cell? ⟨w.heap.size,2,none⟩=some (.string cx.s)/\W.cell? ⟨w.heap.size,3,none⟩=some (.slice cx.la cx.ll cx.lc)/\W.cell? ⟨w.heap.size,4,none⟩=some (.slice cx.oa cx.ol cx.oc)/\W.cell? ⟨b,q+j*3,none⟩=some (.bool s.list)/\W.cell? ⟨b,q+j*3+1,none⟩=some (.int .i64 s.i)/\W.cell? ⟨b,q+j*3+2,none⟩=some (.string s.key))
    ((refine HFB.out _ ?_;(first|(with_reducible exact bl4)|(with_reducible exact Below.refl _ _)|(with_reducible exact Zp _ _)|(with_reducible exact Below.set5 bl4 _ _ _ _ _)|(with_reducible exact Below.set5' (Below.alloc bl4 bz4 _) bz4 _ _ _ _ _)|(with_reducible exact Below.alloc bl4 bz4 _))))
    (first
     |(go_at_call 104;(with_reducible refine (HC.out _ (Below.refl _ _)).mono ?_);rintro e w4 h4;obtain ⟨d,kk,er,rfl,hrel,hb4⟩:=StepPost.gen h4;clear h4;have bl4:Below wr.heap.size wr.drew w4:=hb4;have bz4:wr.heap.size<=w4.heap.size:=hb4.size)
     |(go_at_call 104;(with_reducible refine (HC.out _ (Zp _ _)).mono ?_);rintro e w4 h4;obtain ⟨d,kk,er,rfl,hrel,hb4⟩:=StepPost.gen h4;clear h4;have bl4:Below wr.heap.size wr.drew w4:=(Zp _ _).trans (hb4.mono (by simp));have bz4:wr.heap.size<=w4.heap.size:=bl4.size;have XB:=Xn hb4;obtain ⟨xc0,xc1,xc2,xc3,xc4⟩:=row5 XB.at_;have xg0:=XB.fr 0;have xg1:=XB.fr 1;have xg2:=XB.fr 2;have xg3:=XB.fr 3;have xg4:=XB.fr 4;have xl:=XB.lt))
   all_goals
    (first
     |(with_reducible refine Zr (P:=fun W=>BC W w4.heap.size (vcells d)/\Below wr.heap.size wr.drew W/\wr.heap.size<=w4.heap.size) (Q4 bl4 bz4 d _) ?_)
     |(with_reducible refine Zr (P:=fun W=>BC W wr.heap.size (vcells d)/\Below wr.heap.size wr.drew W/\wr.heap.size<=wr.heap.size) (Jg bl4 d XB) ?_))
    rintro W ⟨XF,hbW,hxb⟩
    have B2:=HBB.out.next ((Zf wr).trans hbW) (Nat.succ_le_of_lt zs1)
    clear v0 v1 v2 v3 v4 r0 r1 r2 r3 r4 e0 e1 e2 e3 e4 f0 f1 f2 f3 f4 s0 s1 s2 hb4 bl4
    obtain ⟨v0,v1,v2,v3,v4⟩:=row5 B2.v.at_
    obtain ⟨r0,r1,r2,r3,r4⟩:=row5 B2.r.at_
    have e0:=B2.v.fr 0;have e1:=B2.v.fr 1;have e2:=B2.v.fr 2;have e3:=B2.v.fr 3;have e4:=B2.v.fr 4
    have f0:=B2.r.fr 0;have f1:=B2.r.fr 1;have f2:=B2.r.fr 2;have f3:=B2.r.fr 3;have f4:=B2.r.fr 4
    obtain ⟨y0,y1,y2,y3,y4⟩:=row5 XF.at_
    have zt0:=B2.v.lt;have zt1:=B2.r.lt;have zt2:=XF.lt
    have HB2:=qh B2
    clear B2 XF hbW
    rcases hrel.out with ⟨hst,rfl⟩|⟨qq,hst,rfl,rfl,hI⟩
    .obtain rfl:R=none:=by rw [<-HX.out,HDR.out,getP,hst]
     clear hst
     go_wp2_with fail
     rw [<-HQ.out]
     have ST:=HB2.out.result ⟨0,0, { data:= #[] },none,0,0,none,0,0⟩
     exact zkm ST.1 ST.2 rfl rfl rfl
    .have hnx:getP qq.1 (p.drop (j+1))=R:=by rw [<-HX.out,HDR.out,getP,hst]
     have HNX:=qh hnx
     have HI:=qh hI
     clear hst hnx hI
     go_wp2_with fail
     go_roundw
     case rel=>exact ⟨j+1,qq.1,d,by omega,by go_num,HNX,HI,HB2.out.store d⟩
     case measure=>simp [intOf];omega
  .have hjn:j=n:=by omega
   subst hjn
   obtain rfl:R=some x:=by rw [<-HX.out,HLN.out,List.drop_length,getP]
   have HC:Hid (uP 37 #[.agg (uV cx)] wr (NewVal wr x)):=Yz x wr cx ((HXV.out.keep B.below).more B.below.size)
   clear B
   go_wp2_with fail
   refine HC.out.mono ?_
   rintro e w4 ⟨⟨d,rfl,hI4⟩,hb4⟩
   have B2:=HBB.out.next hb4 (Nat.succ_le_of_lt zs1)
   clear v0 v1 v2 v3 v4 r0 r1 r2 r3 r4 e0 e1 e2 e3 e4 f0 f1 f2 f3 f4
   obtain ⟨r0,r1,r2,r3,r4⟩:=row5 B2.r.at_
   have f0:=B2.r.fr 0;have f1:=B2.r.fr 1;have f2:=B2.r.fr 2;have f3:=B2.r.fr 3;have f4:=B2.r.fr 4
   have zt0:=B2.v.lt;have zt1:=B2.r.lt
   have HB2:=qh B2
   have HI:=qh hI4
   clear B2 hI4 hb4
   go_wp2_with fail
   rw [<-HQ.out]
   have ST:=HB2.out.result d
   exact zjk ST.1 ((Zm HI.out (Zi w4 (w.heap.size+1) 0 d) zs1).sub (Ze fun k hk _=>⟨by have:=HBB.out.below.size;omega,rfl⟩)) ST.2 rfl rfl rfl
theorem OwnRow.later_ {w W:World} {base:Nat} {a:Option Addr} {n c:Nat} {cells:List Value} (h:OwnRow w base a n c cells) (hb:uB w W):OwnRow W base a n c cells:=
 ⟨h.cap,h.max,h.none_,fun hp=>by
  obtain ⟨g,e,hg,hbc⟩:=h.row hp
  exact ⟨g,e,hg,hbc.keep hb hbc.lt⟩⟩
theorem Fresh.later_ {w W:World} {base:Nat} {l:List V} {o:List (ByteArray×V)} {a:Option Addr} {m c:Nat} {a':Option Addr} {m' c':Nat} {cl:List VC} {co:List (ByteArray×VC)} (h:Fresh w base l o a m c a' m' c' cl co) (hb:uB w W):Fresh W base l o a m c a' m' c' cl co:=by
 have hsh:Shows (only (Free2 base (.slice a m c) (.slice a' m' c')) w) (only (Free2 base (.slice a m c) (.slice a' m' c')) W) w.heap.size:=Ze fun q hq hl=>⟨hq,hb.block q hl⟩
 exact ⟨h.len,h.len',h.ll,h.lo,h.few,h.few',h.ownL.later_ hb,h.ownO.later_ hb,h.ne,fun i hi=>PV.closed _ _ _ _ _ _ i hsh hb.size (h.lv i hi),fun i hi=>PF.closed _ _ _ _ _ _ i hsh hb.size (h.ov i hi)⟩
theorem GetPost.gen {w:World} {r:Option V} {e:Ending} {w':World} (h:GetPost w r e w'):∃(d:VC) (er:Int),e= .returned (.tuple #[.agg #[.int .u8 d.k, .int .i64 d.n, .string d.s, .slice d.la d.ll d.lc, .slice d.oa d.ol d.oc], .int .i64 er])/\Hid ((r=none/\er=30)∨∃z,r=some z/\er=0/\IsVal (only (fun b=>w.heap.size<=b) w') w'.heap.size z d)/\uB w w':=by
 delta uB
 obtain ⟨h1,h2⟩:=h
 cases r with
 |none=>exact ⟨vzero,30,h1, .inl ⟨rfl,rfl⟩,h2⟩
 | some q=>
   obtain ⟨c,h3,h4⟩:=h1
   exact ⟨c,0,h3, .inr ⟨q,rfl,rfl,h4⟩,h2⟩
theorem za9 {tmps:Array Value} {W:World} {b:Nat} {c:VC} {x:Value} (ht:tmps[6]? =some (.pointer (some ⟨b,0,none⟩))) (hx:tmps[7]? =some x) (h:BC W b (vcells c)):
 (results Tryz.f66 tmps).run Tryz.prog W= .ok (.tuple #[.agg #[.int .u8 c.k, .int .i64 c.n, .string c.s, .slice c.la c.ll c.lc, .slice c.oa c.ol c.oc],x]) W:=by
 obtain ⟨r0,r1,r2,r3,r4⟩:=(⟨h.at_ 0 _ rfl,h.at_ 1 _ rfl,h.at_ 2 _ rfl,h.at_ 3 _ rfl,h.at_ 4 _ rfl⟩:W.cell? ⟨b,0,none⟩=some (.int .u8 c.k)/\W.cell? ⟨b,1,none⟩=some (.int .i64 c.n)/\W.cell? ⟨b,2,none⟩=some (.string c.s)/\W.cell? ⟨b,3,none⟩=some (.slice c.la c.ll c.lc)/\W.cell? ⟨b,4,none⟩=some (.slice c.oa c.ol c.oc))
 simp [results,Tryz.results66,go_sem,ht,hx,r0,r1,r2,r3,r4]
theorem Ji {w W:World} {x:Act} (h:BC W (w.heap.size+1+1) (vcells vzero)) (hb:uB w W) (hd:x.defers= []) (ht:x.tmps[6]? =some (.pointer (some ⟨w.heap.size+1+1,0,none⟩))) (hx:x.tmps[7]? =some (.int .i64 30)):
 bodyPost Tryz.prog Tryz.f66 (GetPost w none) .ret x W:=⟨hd,_,za9 ht hx h,rfl,hb⟩
theorem Jy {w W:World} {x:Act} {c:VC} {v:V} (h:BC W (w.heap.size+1+1) (vcells c)) (hv:IsVal (only (fun b=>w.heap.size<=b) W) W.heap.size v c) (hb:uB w W) (hd:x.defers= []) (ht:x.tmps[6]? =some (.pointer (some ⟨w.heap.size+1+1,0,none⟩))) (hx:x.tmps[7]? =some (.int .i64 0)):
 bodyPost Tryz.prog Tryz.f66 (GetPost w (some v)) .ret x W:=⟨hd,_,za9 ht hx h,⟨c,rfl,hv⟩,hb⟩
structure PB (w W:World) (c cx:VC):Prop where
 v:BC W w.heap.size (vcells c)
 x:BC W (w.heap.size+1) (vcells cx)
 r:BC W (w.heap.size+1+1) (vcells vzero)
 below:Below w.heap.size w W
theorem PB.start (w:World) (c cx:VC) (t1 t2 t3:TypeId):PB w (((w.alloc (.cells #[.int .u8 c.k, .int .i64 c.n, .string c.s, .slice c.la c.ll c.lc, .slice c.oa c.ol c.oc] t1)).alloc (.cells #[.int .u8 cx.k, .int .i64 cx.n, .string cx.s, .slice cx.la cx.ll cx.lc, .slice cx.oa cx.ol cx.oc] t2)).alloc (.cells #[.int .u8 0, .int .i64 0, .string { data:= #[] }, .slice none 0 0, .slice none 0 0] t3)) c cx:=by
 obtain ⟨w1,hw1⟩:∃w1,w.alloc (.cells (uV c) t1)=w1:=⟨_,rfl⟩
 have s1:w1.heap.size=w.heap.size+1:=by rw [<-hw1,World.size_alloc]
 have b1:uB w w1:=by rw [<-hw1];exact (Below.refl _ _).alloc (Nat.le_refl _) _
 have c1:BC w1 w.heap.size (vcells c):=by rw [<-hw1];exact BC.start w (uV c) t1
 rw [hw1]
 obtain ⟨w2,hw2⟩:∃w2,w1.alloc (.cells (uV cx) t2)=w2:=⟨_,rfl⟩
 have s2:w2.heap.size=w.heap.size+1+1:=by rw [<-hw2,World.size_alloc,s1]
 have b2:uB w1 w2:=by rw [<-hw2];exact (Below.refl _ _).alloc (Nat.le_refl _) _
 have c2:=BC.start w1 (uV cx) t2
 rw [hw2,s1] at c2
 rw [hw2]
 have b3:uB w2 (w2.alloc (.cells (uU 0 0 { data:= #[] } none 0 0 none 0 0) t3)):=(Below.refl _ _).alloc (Nat.le_refl _) _
 have c3:=BC.start w2 (uU 0 0 { data:= #[] } none 0 0 none 0 0) t3
 rw [s2] at c3
 exact ⟨(c1.keep b2 (by omega)).keep b3 (by omega),c2.keep b3 (by omega),c3,(b1.trans (b2.mono (by omega))).trans (b3.mono (by omega))⟩
theorem PB.next {w W W':World} {c cx:VC} {B:Nat} (h:PB w W c cx) (hb:Below B W W') (hB:w.heap.size+3<=B):PB w W' c cx:=
 ⟨h.v.keep hb (by omega),h.x.keep hb (by omega),h.r.keep hb (by omega),h.below.trans (hb.mono (by omega))⟩
theorem PB.result {w W:World} {c cx:VC} (h:PB w W c cx) (d:VC):BC (((((W.setCell ⟨w.heap.size+1+1,0,none⟩ (.int .u8 d.k)).setCell ⟨w.heap.size+1+1,1,none⟩ (.int .i64 d.n)).setCell ⟨w.heap.size+1+1,2,none⟩ (.string d.s)).setCell ⟨w.heap.size+1+1,3,none⟩ (.slice d.la d.ll d.lc)).setCell ⟨w.heap.size+1+1,4,none⟩ (.slice d.oa d.ol d.oc)) (w.heap.size+1+1) (vcells d)/\uB w (((((W.setCell ⟨w.heap.size+1+1,0,none⟩ (.int .u8 d.k)).setCell ⟨w.heap.size+1+1,1,none⟩ (.int .i64 d.n)).setCell ⟨w.heap.size+1+1,2,none⟩ (.string d.s)).setCell ⟨w.heap.size+1+1,3,none⟩ (.slice d.la d.ll d.lc)).setCell ⟨w.heap.size+1+1,4,none⟩ (.slice d.oa d.ol d.oc)):=
 ⟨Zy h.r d,Below.set5' h.below (by omega) _ _ _ _ _⟩
theorem zaq {w w4:World} (h:Below w.heap.size w.drew w4) (hz:w.heap.size<=w4.heap.size) (d:VC) (t:TypeId) {R:Prop} {z:V->Prop} (hr:Hid (R∨∃x,z x/\IsVal (only (fun b=>w.heap.size<=b) w4) w4.heap.size x d)):
 (BC (w4.alloc (.cells #[.int .u8 d.k, .int .i64 d.n, .string d.s, .slice d.la d.ll d.lc, .slice d.oa d.ol d.oc] t)) w4.heap.size (vcells d)/\Below w.heap.size w.drew (w4.alloc (.cells #[.int .u8 d.k, .int .i64 d.n, .string d.s, .slice d.la d.ll d.lc, .slice d.oa d.ol d.oc] t))/\w.heap.size<=w4.heap.size)/\
 Hid (R∨∃x,z x/\IsVal (only (fun b=>w.heap.size<=b) (w4.alloc (.cells #[.int .u8 d.k, .int .i64 d.n, .string d.s, .slice d.la d.ll d.lc, .slice d.oa d.ol d.oc] t))) (w4.alloc (.cells #[.int .u8 d.k, .int .i64 d.n, .string d.s, .slice d.la d.ll d.lc, .slice d.oa d.ol d.oc] t)).heap.size x d):=by
 refine ⟨Q4 h hz d t,hr.out.imp_right ?_⟩
 rintro ⟨x,hx,hI⟩
 have hb:uB w4 (w4.alloc (.cells (uV d) t)):=(Below.refl _ _).alloc (Nat.le_refl _) _
 exact ⟨x,hx,(hI.sub (Ze fun k hk hl=>⟨hk,hb.block k hl⟩)).more hb.size⟩
theorem zdb {w w4:World} (h:Below w.heap.size w.drew w4) (d:VC) (xb:BC w4 w.heap.size [.int .u8 0, .int .i64 0, .string { data:= #[] }, .slice none 0 0, .slice none 0 0]) {R:Prop} {z:V->Prop} (hr:Hid (R∨∃x,z x/\IsVal (only (fun b=>w.heap.size+1<=b) w4) w4.heap.size x d)):
 (BC (((((w4.setCell ⟨w.heap.size,0,none⟩ (.int .u8 d.k)).setCell ⟨w.heap.size,1,none⟩ (.int .i64 d.n)).setCell ⟨w.heap.size,2,none⟩ (.string d.s)).setCell ⟨w.heap.size,3,none⟩ (.slice d.la d.ll d.lc)).setCell ⟨w.heap.size,4,none⟩ (.slice d.oa d.ol d.oc)) w.heap.size (vcells d)/\Below w.heap.size w.drew (((((w4.setCell ⟨w.heap.size,0,none⟩ (.int .u8 d.k)).setCell ⟨w.heap.size,1,none⟩ (.int .i64 d.n)).setCell ⟨w.heap.size,2,none⟩ (.string d.s)).setCell ⟨w.heap.size,3,none⟩ (.slice d.la d.ll d.lc)).setCell ⟨w.heap.size,4,none⟩ (.slice d.oa d.ol d.oc))/\w.heap.size<=w.heap.size)/\
 Hid (R∨∃x,z x/\IsVal (only (fun b=>w.heap.size<=b) (((((w4.setCell ⟨w.heap.size,0,none⟩ (.int .u8 d.k)).setCell ⟨w.heap.size,1,none⟩ (.int .i64 d.n)).setCell ⟨w.heap.size,2,none⟩ (.string d.s)).setCell ⟨w.heap.size,3,none⟩ (.slice d.la d.ll d.lc)).setCell ⟨w.heap.size,4,none⟩ (.slice d.oa d.ol d.oc))) (((((w4.setCell ⟨w.heap.size,0,none⟩ (.int .u8 d.k)).setCell ⟨w.heap.size,1,none⟩ (.int .i64 d.n)).setCell ⟨w.heap.size,2,none⟩ (.string d.s)).setCell ⟨w.heap.size,3,none⟩ (.slice d.la d.ll d.lc)).setCell ⟨w.heap.size,4,none⟩ (.slice d.oa d.ol d.oc)).heap.size x d):=by
 refine ⟨Jg h d xb,hr.out.imp_right ?_⟩
 rintro ⟨x,hx,hI⟩
 have st:=Zi w4 w.heap.size 0 d
 exact ⟨x,hx,(hI.sub (Ze fun k hk hl=>⟨by omega,st.block k hl (by omega)⟩)).more st.size⟩
theorem zco {w W1 W2 w7:World} {v z:V} {vk vn:Int} {vs:ByteArray} {la:Option Addr} {ll lc:Nat} {oa:Option Addr} {ol oc:Nat} {cx dz:VC} {K g m0 c0 m1 c1:Nat} {a1:Option Addr} {cl:List VC} {co:List (ByteArray×VC)} {t:TypeId} {x:Act}
 (hv:IsVal w w.heap.size v ⟨vk,vn,vs,la,ll,lc,oa,ol,oc⟩) (hF:Fresh w7 W2.heap.size v.ls v.os (some ⟨g,0,none⟩) m0 c0 a1 m1 c1 cl co) (hB:PB w w7 ⟨vk,vn,vs,la,ll,lc,oa,ol,oc⟩ cx) (hz:IsVal (only (fun b=>W1.heap.size<=b) W2) W2.heap.size z dz) (hb7:uB W2 w7)
 (h0:w.heap.size+1+1<W1.heap.size) (h12:W1.heap.size<=W2.heap.size) (hK:K<v.ls.length) (hd:x.defers= []) (ht:x.tmps[6]? =some (.pointer (some ⟨w.heap.size+1+1,0,none⟩))) (hx:x.tmps[7]? =some (.int .i64 0)):
 bodyPost Tryz.prog Tryz.f66 (GetPost w (some (v.setL K z))) .ret x (((((((setV w7 g (K*5) dz).setCell ⟨w.heap.size+1+1,0,none⟩ (.int .u8 vk)).setCell ⟨w.heap.size+1+1,1,none⟩ (.int .i64 vn)).setCell ⟨w.heap.size+1+1,2,none⟩ (.string vs)).setCell ⟨w.heap.size+1+1,3,none⟩ (.slice (some ⟨g,0,none⟩) m0 c0)).setCell ⟨w.heap.size+1+1,4,none⟩ (.slice a1 m1 c1)).alloc (.cells #[.int .u8 vk, .int .i64 vn, .string vs, .slice (some ⟨g,0,none⟩) m0 c0, .slice a1 m1 c1] t)):=by
 obtain ⟨k,n,s,l,o,rfl⟩:=v.eta
 obtain ⟨rfl,rfl,rfl,hb,_,_⟩:=hv.lists
 obtain ⟨g',e,hgb,hbc⟩:=hF.ownL.row (.inr (by simp))
 obtain rfl:g=g':=by injection e with e;injection e
 have hglt:=hbc.lt
 have hz2:IsVal (only (fun b=>w.heap.size+1+1+1<=b/\b≠g) w7) w7.heap.size z dz:=(hz.sub (Ze fun k hk hl=>⟨⟨by omega,by omega⟩,hb7.block k hl⟩)).more hb7.size
 have hI1:=hF.setL (base':=w.heap.size+1+1+1) (by omega) hK rfl hz2 hb.k0 hb.k1 hb.n0 hb.n1 hb.s1
 have hB1:=hB.next (B:=w.heap.size+3) (((Zi w7 g (K*5) dz).below (Nat.le_of_lt hglt)).mono (by omega)) (Nat.le_refl _)
 have ST:=hB1.result ⟨vk,vn,vs,some ⟨g,0,none⟩,m0,c0,a1,m1,c1⟩
 have hI2:=Zm hI1 (Zi (setV w7 g (K*5) dz) (w.heap.size+1+1) 0 ⟨vk,vn,vs,some ⟨g,0,none⟩,m0,c0,a1,m1,c1⟩) (by omega)
 have hal:=fun (W:World) (o:Obj)=>(Below.refl W.heap.size W).alloc (Nat.le_refl _) o
 exact Jy (ST.1.keep (hal _ _) ST.1.lt) (((hI2.sub (Ze fun k hk hl=>⟨by omega,(hal _ _).block k hl⟩)).more (hal _ _).size)) (ST.2.alloc ST.2.size _) hd ht hx
theorem zbt {w W1 W2 w7:World} {v z:V} {vk vn:Int} {vs:ByteArray} {la:Option Addr} {ll lc:Nat} {oa:Option Addr} {ol oc:Nat} {cx dz:VC} {K g m0 c0 m1 c1:Nat} {a0:Option Addr} {cl:List VC} {co:List (ByteArray×VC)} {t:TypeId} {x:Act}
 (hv:IsVal w w.heap.size v ⟨vk,vn,vs,la,ll,lc,oa,ol,oc⟩) (hF:Fresh w7 W2.heap.size v.ls v.os a0 m0 c0 (some ⟨g,0,none⟩) m1 c1 cl co) (hB:PB w w7 ⟨vk,vn,vs,la,ll,lc,oa,ol,oc⟩ cx) (hz:IsVal (only (fun b=>W1.heap.size<=b) W2) W2.heap.size z dz) (hb7:uB W2 w7)
 (h0:w.heap.size+1+1<W1.heap.size) (h12:W1.heap.size<=W2.heap.size) (hK:K<v.os.length) (hd:x.defers= []) (ht:x.tmps[6]? =some (.pointer (some ⟨w.heap.size+1+1,0,none⟩))) (hx:x.tmps[7]? =some (.int .i64 0)):
 bodyPost Tryz.prog Tryz.f66 (GetPost w (some (v.setO K z))) .ret x (((((((setV w7 g (K*6+1) dz).setCell ⟨w.heap.size+1+1,0,none⟩ (.int .u8 vk)).setCell ⟨w.heap.size+1+1,1,none⟩ (.int .i64 vn)).setCell ⟨w.heap.size+1+1,2,none⟩ (.string vs)).setCell ⟨w.heap.size+1+1,3,none⟩ (.slice a0 m0 c0)).setCell ⟨w.heap.size+1+1,4,none⟩ (.slice (some ⟨g,0,none⟩) m1 c1)).alloc (.cells #[.int .u8 vk, .int .i64 vn, .string vs, .slice a0 m0 c0, .slice (some ⟨g,0,none⟩) m1 c1] t)):=by
 obtain ⟨k,n,s,l,o,rfl⟩:=v.eta
 obtain ⟨rfl,rfl,rfl,hb,_,_⟩:=hv.lists
 obtain ⟨g',e,hgb,hbc⟩:=hF.ownO.row (.inr (by simp))
 obtain rfl:g=g':=by injection e with e;injection e
 have hglt:=hbc.lt
 have hz2:IsVal (only (fun b=>w.heap.size+1+1+1<=b/\b≠g) w7) w7.heap.size z dz:=(hz.sub (Ze fun k hk hl=>⟨⟨by omega,by omega⟩,hb7.block k hl⟩)).more hb7.size
 have hI1:=hF.setO (base':=w.heap.size+1+1+1) (by omega) hK rfl hz2 hb.k0 hb.k1 hb.n0 hb.n1 hb.s1
 have hB1:=hB.next (B:=w.heap.size+3) (((Zi w7 g (K*6+1) dz).below (Nat.le_of_lt hglt)).mono (by omega)) (Nat.le_refl _)
 have ST:=hB1.result ⟨vk,vn,vs,a0,m0,c0,some ⟨g,0,none⟩,m1,c1⟩
 have hI2:=Zm hI1 (Zi (setV w7 g (K*6+1) dz) (w.heap.size+1+1) 0 ⟨vk,vn,vs,a0,m0,c0,some ⟨g,0,none⟩,m1,c1⟩) (by omega)
 have hal:=fun (W:World) (o:Obj)=>(Below.refl W.heap.size W).alloc (Nat.le_refl _) o
 exact Jy (ST.1.keep (hal _ _) ST.1.lt) (((hI2.sub (Ze fun k hk hl=>⟨by omega,(hal _ _).block k hl⟩)).more (hal _ _).size)) (ST.2.alloc ST.2.size _) hd ht hx
end Go.Proofs.YtbgheehjfnoiiaaGreatDoor
