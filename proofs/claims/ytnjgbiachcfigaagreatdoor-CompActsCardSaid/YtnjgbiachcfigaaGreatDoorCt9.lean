/-
  Contracts of the functions that the law reaches: conciliatorref03.Put: what stands in.
-/
import Derived.Test.YtnjgbiachcfigaaGreatDoorCt8
namespace Go.Proofs.YtnjgbiachcfigaaGreatDoor
open Go.RowKit
set_option maxHeartbeats 8000000
theorem OwnRow.later_ {w W:World} {base:Nat} {a:Option Addr} {n c:Nat} {cells:List Value} (h:OwnRow w base a n c cells) (hb:Below w.heap.size w W):OwnRow W base a n c cells:=
 ⟨h.cap,h.max,h.none_,fun hp=>by
  obtain ⟨g,e,hg,hbc⟩:=h.row hp
  exact ⟨g,e,hg,hbc.keep hb hbc.lt⟩⟩
theorem Fresh.later_ {w W:World} {base:Nat} {l:List V} {o:List (ByteArray×V)} {a:Option Addr} {m c:Nat} {a':Option Addr} {m' c':Nat} {cl:List VC} {co:List (ByteArray×VC)} (h:Fresh w base l o a m c a' m' c' cl co) (hb:Below w.heap.size w W):Fresh W base l o a m c a' m' c' cl co:=by
 have hsh:Shows (only (Free2 base (.slice a m c) (.slice a' m' c')) w) (only (Free2 base (.slice a m c) (.slice a' m' c')) W) w.heap.size:=Ze fun q hq hl=>⟨hq,hb.block q hl⟩
 exact ⟨h.len,h.len',h.ll,h.lo,h.few,h.few',h.ownL.later_ hb,h.ownO.later_ hb,h.ne,fun i hi=>PV.closed _ _ _ _ _ _ i hsh hb.size (h.lv i hi),fun i hi=>PF.closed _ _ _ _ _ _ i hsh hb.size (h.ov i hi)⟩
theorem GetPost.gen {w:World} {r:Option V} {e:Ending} {w':World} (h:GetPost w r e w'):∃(d:VC) (er:Int),e= .returned (.tuple #[.agg #[.int .u8 d.k, .int .i64 d.n, .string d.s, .slice d.la d.ll d.lc, .slice d.oa d.ol d.oc], .int .i64 er])/\Hid ((r=none/\er=30)∨∃z,r=some z/\er=0/\IsVal (only (fun b=>w.heap.size<=b) w') w'.heap.size z d)/\Below w.heap.size w w':=by
 obtain ⟨h1,h2⟩:=h
 cases r with
 |none=>exact ⟨vzero,30,h1, .inl ⟨rfl,rfl⟩,h2⟩
 | some q=>
   obtain ⟨c,h3,h4⟩:=h1
   exact ⟨c,0,h3, .inr ⟨q,rfl,rfl,h4⟩,h2⟩
theorem zcf {tmps:Array Value} {W:World} {b:Nat} {c:VC} {x:Value} (ht:tmps[6]? =some (.pointer (some ⟨b,0,none⟩))) (hx:tmps[7]? =some x) (h:BC W b (vcells c)):
 (results Tryz.f51 tmps).run Tryz.prog W= .ok (.tuple #[.agg #[.int .u8 c.k, .int .i64 c.n, .string c.s, .slice c.la c.ll c.lc, .slice c.oa c.ol c.oc],x]) W:=by
 obtain ⟨r0,r1,r2,r3,r4⟩:=(⟨h.at_ 0 _ rfl,h.at_ 1 _ rfl,h.at_ 2 _ rfl,h.at_ 3 _ rfl,h.at_ 4 _ rfl⟩:W.cell? ⟨b,0,none⟩=some (.int .u8 c.k)/\W.cell? ⟨b,1,none⟩=some (.int .i64 c.n)/\W.cell? ⟨b,2,none⟩=some (.string c.s)/\W.cell? ⟨b,3,none⟩=some (.slice c.la c.ll c.lc)/\W.cell? ⟨b,4,none⟩=some (.slice c.oa c.ol c.oc))
 simp [results,Tryz.results51,go_sem,ht,hx,r0,r1,r2,r3,r4]
theorem Jh {w W:World} {x:Act} (h:BC W (w.heap.size+1+1) (vcells vzero)) (hb:Below w.heap.size w W) (hd:x.defers= []) (ht:x.tmps[6]? =some (.pointer (some ⟨w.heap.size+1+1,0,none⟩))) (hx:x.tmps[7]? =some (.int .i64 30)):
 bodyPost Tryz.prog Tryz.f51 (GetPost w none) .ret x W:=⟨hd,_,zcf ht hx h,rfl,hb⟩
theorem Jw {w W:World} {x:Act} {c:VC} {v:V} (h:BC W (w.heap.size+1+1) (vcells c)) (hv:IsVal (only (fun b=>w.heap.size<=b) W) W.heap.size v c) (hb:Below w.heap.size w W) (hd:x.defers= []) (ht:x.tmps[6]? =some (.pointer (some ⟨w.heap.size+1+1,0,none⟩))) (hx:x.tmps[7]? =some (.int .i64 0)):
 bodyPost Tryz.prog Tryz.f51 (GetPost w (some v)) .ret x W:=⟨hd,_,zcf ht hx h,⟨c,rfl,hv⟩,hb⟩
structure PB (w W:World) (c cx:VC):Prop where
 v:BC W w.heap.size (vcells c)
 x:BC W (w.heap.size+1) (vcells cx)
 r:BC W (w.heap.size+1+1) (vcells vzero)
 below:Below w.heap.size w W
theorem PB.start (w:World) (c cx:VC) (t1 t2 t3:TypeId):PB w (((w.alloc (.cells #[.int .u8 c.k, .int .i64 c.n, .string c.s, .slice c.la c.ll c.lc, .slice c.oa c.ol c.oc] t1)).alloc (.cells #[.int .u8 cx.k, .int .i64 cx.n, .string cx.s, .slice cx.la cx.ll cx.lc, .slice cx.oa cx.ol cx.oc] t2)).alloc (.cells #[.int .u8 0, .int .i64 0, .string { data:= #[] }, .slice none 0 0, .slice none 0 0] t3)) c cx:=by
 obtain ⟨w1,hw1⟩:∃w1,w.alloc (.cells #[.int .u8 c.k, .int .i64 c.n, .string c.s, .slice c.la c.ll c.lc, .slice c.oa c.ol c.oc] t1)=w1:=⟨_,rfl⟩
 have s1:w1.heap.size=w.heap.size+1:=by rw [<-hw1,World.size_alloc]
 have b1:Below w.heap.size w w1:=by rw [<-hw1];exact (Below.refl _ _).alloc (Nat.le_refl _) _
 have c1:BC w1 w.heap.size (vcells c):=by rw [<-hw1];exact BC.start w #[.int .u8 c.k, .int .i64 c.n, .string c.s, .slice c.la c.ll c.lc, .slice c.oa c.ol c.oc] t1
 rw [hw1]
 obtain ⟨w2,hw2⟩:∃w2,w1.alloc (.cells #[.int .u8 cx.k, .int .i64 cx.n, .string cx.s, .slice cx.la cx.ll cx.lc, .slice cx.oa cx.ol cx.oc] t2)=w2:=⟨_,rfl⟩
 have s2:w2.heap.size=w.heap.size+1+1:=by rw [<-hw2,World.size_alloc,s1]
 have b2:Below w1.heap.size w1 w2:=by rw [<-hw2];exact (Below.refl _ _).alloc (Nat.le_refl _) _
 have c2:=BC.start w1 #[.int .u8 cx.k, .int .i64 cx.n, .string cx.s, .slice cx.la cx.ll cx.lc, .slice cx.oa cx.ol cx.oc] t2
 rw [hw2,s1] at c2
 rw [hw2]
 have b3:Below w2.heap.size w2 (w2.alloc (.cells #[.int .u8 0, .int .i64 0, .string { data:= #[] }, .slice none 0 0, .slice none 0 0] t3)):=(Below.refl _ _).alloc (Nat.le_refl _) _
 have c3:=BC.start w2 #[.int .u8 0, .int .i64 0, .string { data:= #[] }, .slice none 0 0, .slice none 0 0] t3
 rw [s2] at c3
 exact ⟨(c1.keep b2 (by omega)).keep b3 (by omega),c2.keep b3 (by omega),c3,(b1.trans (b2.mono (by omega))).trans (b3.mono (by omega))⟩
theorem PB.next {w W W':World} {c cx:VC} {B:Nat} (h:PB w W c cx) (hb:Below B W W') (hB:w.heap.size+3<=B):PB w W' c cx:=
 ⟨h.v.keep hb (by omega),h.x.keep hb (by omega),h.r.keep hb (by omega),h.below.trans (hb.mono (by omega))⟩
theorem PB.result {w W:World} {c cx:VC} (h:PB w W c cx) (d:VC):BC (((((W.setCell ⟨w.heap.size+1+1,0,none⟩ (.int .u8 d.k)).setCell ⟨w.heap.size+1+1,1,none⟩ (.int .i64 d.n)).setCell ⟨w.heap.size+1+1,2,none⟩ (.string d.s)).setCell ⟨w.heap.size+1+1,3,none⟩ (.slice d.la d.ll d.lc)).setCell ⟨w.heap.size+1+1,4,none⟩ (.slice d.oa d.ol d.oc)) (w.heap.size+1+1) (vcells d)/\Below w.heap.size w (((((W.setCell ⟨w.heap.size+1+1,0,none⟩ (.int .u8 d.k)).setCell ⟨w.heap.size+1+1,1,none⟩ (.int .i64 d.n)).setCell ⟨w.heap.size+1+1,2,none⟩ (.string d.s)).setCell ⟨w.heap.size+1+1,3,none⟩ (.slice d.la d.ll d.lc)).setCell ⟨w.heap.size+1+1,4,none⟩ (.slice d.oa d.ol d.oc)):=
 ⟨Zz h.r d,Below.set5' h.below (by omega) _ _ _ _ _⟩
theorem zb7 {w w4:World} (h:Below w.heap.size w.drew w4) (hz:w.heap.size<=w4.heap.size) (d:VC) (t:TypeId) {R:Prop} {z:V->Prop} (hr:Hid (R∨∃x,z x/\IsVal (only (fun b=>w.heap.size<=b) w4) w4.heap.size x d)):
 (BC (w4.alloc (.cells #[.int .u8 d.k, .int .i64 d.n, .string d.s, .slice d.la d.ll d.lc, .slice d.oa d.ol d.oc] t)) w4.heap.size (vcells d)/\Below w.heap.size w.drew (w4.alloc (.cells #[.int .u8 d.k, .int .i64 d.n, .string d.s, .slice d.la d.ll d.lc, .slice d.oa d.ol d.oc] t))/\w.heap.size<=w4.heap.size)/\
 Hid (R∨∃x,z x/\IsVal (only (fun b=>w.heap.size<=b) (w4.alloc (.cells #[.int .u8 d.k, .int .i64 d.n, .string d.s, .slice d.la d.ll d.lc, .slice d.oa d.ol d.oc] t))) (w4.alloc (.cells #[.int .u8 d.k, .int .i64 d.n, .string d.s, .slice d.la d.ll d.lc, .slice d.oa d.ol d.oc] t)).heap.size x d):=by
 refine ⟨Q8 h hz d t,hr.out.imp_right ?_⟩
 rintro ⟨x,hx,hI⟩
 have hb:Below w4.heap.size w4 (w4.alloc (.cells #[.int .u8 d.k, .int .i64 d.n, .string d.s, .slice d.la d.ll d.lc, .slice d.oa d.ol d.oc] t)):=(Below.refl _ _).alloc (Nat.le_refl _) _
 exact ⟨x,hx,(hI.sub (Ze fun k hk hl=>⟨hk,hb.block k hl⟩)).more hb.size⟩
theorem zbg {w w4:World} (h:Below w.heap.size w.drew w4) (d:VC) (xb:BC w4 w.heap.size [.int .u8 0, .int .i64 0, .string { data:= #[] }, .slice none 0 0, .slice none 0 0]) {R:Prop} {z:V->Prop} (hr:Hid (R∨∃x,z x/\IsVal (only (fun b=>w.heap.size+1<=b) w4) w4.heap.size x d)):
 (BC (((((w4.setCell ⟨w.heap.size,0,none⟩ (.int .u8 d.k)).setCell ⟨w.heap.size,1,none⟩ (.int .i64 d.n)).setCell ⟨w.heap.size,2,none⟩ (.string d.s)).setCell ⟨w.heap.size,3,none⟩ (.slice d.la d.ll d.lc)).setCell ⟨w.heap.size,4,none⟩ (.slice d.oa d.ol d.oc)) w.heap.size (vcells d)/\Below w.heap.size w.drew (((((w4.setCell ⟨w.heap.size,0,none⟩ (.int .u8 d.k)).setCell ⟨w.heap.size,1,none⟩ (.int .i64 d.n)).setCell ⟨w.heap.size,2,none⟩ (.string d.s)).setCell ⟨w.heap.size,3,none⟩ (.slice d.la d.ll d.lc)).setCell ⟨w.heap.size,4,none⟩ (.slice d.oa d.ol d.oc))/\w.heap.size<=w.heap.size)/\
 Hid (R∨∃x,z x/\IsVal (only (fun b=>w.heap.size<=b) (((((w4.setCell ⟨w.heap.size,0,none⟩ (.int .u8 d.k)).setCell ⟨w.heap.size,1,none⟩ (.int .i64 d.n)).setCell ⟨w.heap.size,2,none⟩ (.string d.s)).setCell ⟨w.heap.size,3,none⟩ (.slice d.la d.ll d.lc)).setCell ⟨w.heap.size,4,none⟩ (.slice d.oa d.ol d.oc))) (((((w4.setCell ⟨w.heap.size,0,none⟩ (.int .u8 d.k)).setCell ⟨w.heap.size,1,none⟩ (.int .i64 d.n)).setCell ⟨w.heap.size,2,none⟩ (.string d.s)).setCell ⟨w.heap.size,3,none⟩ (.slice d.la d.ll d.lc)).setCell ⟨w.heap.size,4,none⟩ (.slice d.oa d.ol d.oc)).heap.size x d):=by
 refine ⟨Qw h d xb,hr.out.imp_right ?_⟩
 rintro ⟨x,hx,hI⟩
 have st:=Zi w4 w.heap.size 0 d
 exact ⟨x,hx,(hI.sub (Ze fun k hk hl=>⟨by omega,st.block k hl (by omega)⟩)).more st.size⟩
theorem zac {w W1 W2 w7:World} {v z:V} {vk vn:Int} {vs:ByteArray} {la:Option Addr} {ll lc:Nat} {oa:Option Addr} {ol oc:Nat} {cx dz:VC} {K g m0 c0 m1 c1:Nat} {a1:Option Addr} {cl:List VC} {co:List (ByteArray×VC)} {t:TypeId} {x:Act}
 (hv:IsVal w w.heap.size v ⟨vk,vn,vs,la,ll,lc,oa,ol,oc⟩) (hF:Fresh w7 W2.heap.size v.ls v.os (some ⟨g,0,none⟩) m0 c0 a1 m1 c1 cl co) (hB:PB w w7 ⟨vk,vn,vs,la,ll,lc,oa,ol,oc⟩ cx) (hz:IsVal (only (fun b=>W1.heap.size<=b) W2) W2.heap.size z dz) (hb7:Below W2.heap.size W2 w7)
 (h0:w.heap.size+1+1<W1.heap.size) (h12:W1.heap.size<=W2.heap.size) (hK:K<v.ls.length) (hd:x.defers= []) (ht:x.tmps[6]? =some (.pointer (some ⟨w.heap.size+1+1,0,none⟩))) (hx:x.tmps[7]? =some (.int .i64 0)):
 bodyPost Tryz.prog Tryz.f51 (GetPost w (some (v.setL K z))) .ret x (((((((setV w7 g (K*5) dz).setCell ⟨w.heap.size+1+1,0,none⟩ (.int .u8 vk)).setCell ⟨w.heap.size+1+1,1,none⟩ (.int .i64 vn)).setCell ⟨w.heap.size+1+1,2,none⟩ (.string vs)).setCell ⟨w.heap.size+1+1,3,none⟩ (.slice (some ⟨g,0,none⟩) m0 c0)).setCell ⟨w.heap.size+1+1,4,none⟩ (.slice a1 m1 c1)).alloc (.cells #[.int .u8 vk, .int .i64 vn, .string vs, .slice (some ⟨g,0,none⟩) m0 c0, .slice a1 m1 c1] t)):=by
 obtain ⟨k,n,s,l,o,rfl⟩:=v.eta
 obtain ⟨rfl,rfl,rfl,hb,_,_⟩:=hv.lists
 obtain ⟨g',e,hgb,hbc⟩:=hF.ownL.row (.inr (by simp))
 obtain rfl:g=g':=by injection e with e;injection e
 have hglt:=hbc.lt
 have hz2:IsVal (only (fun b=>w.heap.size+1+1+1<=b/\b≠g) w7) w7.heap.size z dz:=(hz.sub (Ze fun k hk hl=>⟨⟨by omega,by omega⟩,hb7.block k hl⟩)).more hb7.size
 have hI1:=hF.setL (base':=w.heap.size+1+1+1) (by omega) hK rfl hz2 hb.k0 hb.k1 hb.n0 hb.n1 hb.s1
 have hB1:=hB.next (B:=w.heap.size+3) (((Zi w7 g (K*5) dz).below (Nat.le_of_lt hglt)).mono (by omega)) (Nat.le_refl _)
 have ST:=hB1.result ⟨vk,vn,vs,some ⟨g,0,none⟩,m0,c0,a1,m1,c1⟩
 have hI2:=Zm hI1 (Zi (setV w7 g (K*5) dz) (w.heap.size+1+1) 0 ⟨vk,vn,vs,some ⟨g,0,none⟩,m0,c0,a1,m1,c1⟩) (by omega)
 have hal:=fun (W:World) (o:Obj)=>(Below.refl W.heap.size W).alloc (Nat.le_refl _) o
 exact Jw (ST.1.keep (hal _ _) ST.1.lt) (((hI2.sub (Ze fun k hk hl=>⟨by omega,(hal _ _).block k hl⟩)).more (hal _ _).size)) (ST.2.alloc ST.2.size _) hd ht hx
theorem za4 {w W1 W2 w7:World} {v z:V} {vk vn:Int} {vs:ByteArray} {la:Option Addr} {ll lc:Nat} {oa:Option Addr} {ol oc:Nat} {cx dz:VC} {K g m0 c0 m1 c1:Nat} {a0:Option Addr} {cl:List VC} {co:List (ByteArray×VC)} {t:TypeId} {x:Act}
 (hv:IsVal w w.heap.size v ⟨vk,vn,vs,la,ll,lc,oa,ol,oc⟩) (hF:Fresh w7 W2.heap.size v.ls v.os a0 m0 c0 (some ⟨g,0,none⟩) m1 c1 cl co) (hB:PB w w7 ⟨vk,vn,vs,la,ll,lc,oa,ol,oc⟩ cx) (hz:IsVal (only (fun b=>W1.heap.size<=b) W2) W2.heap.size z dz) (hb7:Below W2.heap.size W2 w7)
 (h0:w.heap.size+1+1<W1.heap.size) (h12:W1.heap.size<=W2.heap.size) (hK:K<v.os.length) (hd:x.defers= []) (ht:x.tmps[6]? =some (.pointer (some ⟨w.heap.size+1+1,0,none⟩))) (hx:x.tmps[7]? =some (.int .i64 0)):
 bodyPost Tryz.prog Tryz.f51 (GetPost w (some (v.setO K z))) .ret x (((((((setV w7 g (K*6+1) dz).setCell ⟨w.heap.size+1+1,0,none⟩ (.int .u8 vk)).setCell ⟨w.heap.size+1+1,1,none⟩ (.int .i64 vn)).setCell ⟨w.heap.size+1+1,2,none⟩ (.string vs)).setCell ⟨w.heap.size+1+1,3,none⟩ (.slice a0 m0 c0)).setCell ⟨w.heap.size+1+1,4,none⟩ (.slice (some ⟨g,0,none⟩) m1 c1)).alloc (.cells #[.int .u8 vk, .int .i64 vn, .string vs, .slice a0 m0 c0, .slice (some ⟨g,0,none⟩) m1 c1] t)):=by
 obtain ⟨k,n,s,l,o,rfl⟩:=v.eta
 obtain ⟨rfl,rfl,rfl,hb,_,_⟩:=hv.lists
 obtain ⟨g',e,hgb,hbc⟩:=hF.ownO.row (.inr (by simp))
 obtain rfl:g=g':=by injection e with e;injection e
 have hglt:=hbc.lt
 have hz2:IsVal (only (fun b=>w.heap.size+1+1+1<=b/\b≠g) w7) w7.heap.size z dz:=(hz.sub (Ze fun k hk hl=>⟨⟨by omega,by omega⟩,hb7.block k hl⟩)).more hb7.size
 have hI1:=hF.setO (base':=w.heap.size+1+1+1) (by omega) hK rfl hz2 hb.k0 hb.k1 hb.n0 hb.n1 hb.s1
 have hB1:=hB.next (B:=w.heap.size+3) (((Zi w7 g (K*6+1) dz).below (Nat.le_of_lt hglt)).mono (by omega)) (Nat.le_refl _)
 have ST:=hB1.result ⟨vk,vn,vs,a0,m0,c0,some ⟨g,0,none⟩,m1,c1⟩
 have hI2:=Zm hI1 (Zi (setV w7 g (K*6+1) dz) (w.heap.size+1+1) 0 ⟨vk,vn,vs,a0,m0,c0,some ⟨g,0,none⟩,m1,c1⟩) (by omega)
 have hal:=fun (W:World) (o:Obj)=>(Below.refl W.heap.size W).alloc (Nat.le_refl _) o
 exact Jw (ST.1.keep (hal _ _) ST.1.lt) (((hI2.sub (Ze fun k hk hl=>⟨by omega,(hal _ _).block k hl⟩)).more (hal _ _).size)) (ST.2.alloc ST.2.size _) hd ht hx
theorem Ji {cs:List (ByteArray×VC)} {k j:Nat} {u:Value} (h:((cs.take k).flatMap fcells)[j]? =some u):(cs.flatMap fcells)[j]? =some u:=by
 have e:cs.flatMap fcells=(cs.take k).flatMap fcells++(cs.drop k).flatMap fcells:=by rw [<-List.flatMap_append,List.take_append_drop]
 rw [e,List.getElem?_append_left (List.getElem?_eq_some_iff.1 h).1];exact h
theorem Qu {cs:List (ByteArray×VC)} {k j:Nat} {u:Value} (hk:k<=cs.length) (h:((cs.drop k).flatMap fcells)[j]? =some u):(cs.flatMap fcells)[k*6+j]? =some u:=by
 have e:cs.flatMap fcells=(cs.take k).flatMap fcells++(cs.drop k).flatMap fcells:=by rw [<-List.flatMap_append,List.take_append_drop]
 have hl:((cs.take k).flatMap fcells).length=k*6:=by rw [Zl fcells 6 (fun _=>rfl),List.length_take,Nat.min_eq_left hk]
 rw [e,List.getElem?_append_right (by omega),hl,Nat.add_sub_cancel_left];exact h
theorem PF.with_ {o:List (ByteArray×V)} {cs:List (ByteArray×VC)} {W:World} {B:Nat} {key:ByteArray} {x:V} {cx:VC} {k k':Nat} (hl:cs.length=o.length) (h:∀i,i<o.length->PF o cs W B i) (hx:IsVal W B x cx) (hks:key.size<=140737488355328) (hk:k<=o.length) (hk':k'<=o.length):
 ∀i,i<(o.take k++(key,x)::o.drop k').length->PF (o.take k++(key,x)::o.drop k') (cs.take k++(key,cx)::cs.drop k') W B i:=by
 intro i _ hi
 have l1:(o.take k).length=k:=by rw [List.length_take,Nat.min_eq_left hk]
 have l2:(cs.take k).length=k:=by rw [List.length_take,Nat.min_eq_left (by omega)]
 rw [List.getD_eq_getElem?_getD]
 by_cases e1:i<k
 .have e2:(cs.take k++(key,cx)::cs.drop k')[i]? =cs[i]? :=by
   rw [List.getElem?_append_left (by omega),List.getElem?_take_of_lt e1]
  have e3:(o.take k++(key,x)::o.drop k')[i] =o[i]'(by omega):=by
   rw [List.getElem_append_left (by omega),List.getElem_take]
  rw [e2,e3, <-List.getD_eq_getElem?_getD]
  exact h i (by omega) (by omega)
 .by_cases e4:i=k
  .subst e4
   have e2:(cs.take i++(key,cx)::cs.drop k')[i]? =some (key,cx):=by
    rw [List.getElem?_append_right (by omega),l2,Nat.sub_self];rfl
   have e3:(o.take i++(key,x)::o.drop k')[i] =(key,x):=by
    rw [List.getElem_append_right (by omega)];simp [l1]
   rw [e2,e3]
   exact ⟨rfl,hks,hx⟩
  .obtain ⟨m,rfl⟩:∃m,i=k+1+m:=⟨i - k - 1,by omega⟩
   rw [List.length_append,List.length_cons,List.length_drop,l1] at hi
   have e2:(cs.take k++(key,cx)::cs.drop k')[k+1+m]? =cs[k'+m]? :=by
    rw [List.getElem?_append_right (by omega),l2,show k+1+m - k=m+1 by omega,List.getElem?_cons_succ,List.getElem?_drop]
   have e3:(o.take k++(key,x)::o.drop k')[k+1+m]'(by rw [List.length_append,List.length_cons,List.length_drop,l1];omega)=o[k'+m]'(by omega):=by
    rw [List.getElem_append_right (by omega)]
    simp only [l1,show k+1+m - k=m+1 by omega,List.getElem_cons_succ,List.getElem_drop]
   rw [e2,e3, <-List.getD_eq_getElem?_getD]
   exact h (k'+m) (by omega) (by omega)
theorem IsFields.sub {w w':World} {B:Nat} {l:List (ByteArray×V)} {a:Option Addr} {n c:Nat} (hs:Shows w w' B) (h:IsFields w B l a n c):IsFields w' B l a n c:=by
 obtain ⟨h1,h2,h3,h4,b,o,f,h5,h6⟩:=h
 refine ⟨h1,h2,h3,h4,b,o,f,h5,fun i hi=> ?_⟩
 have hB:=(h5 (by omega)).2
 obtain ⟨g1,g2,g3,g4⟩:=h6 i hi
 exact ⟨hs _ _ _ hB g1,g2,g3.sub hs hB,g4.sub hs⟩
theorem Xg (key:ByteArray) (cx:VC):∀u ∈ fcells (key,cx),u.oneCell'=true:=by simp [fcells,Value.oneCell']
theorem Yt (cs:List (ByteArray×VC)):∀u ∈ cs.flatMap fcells,u.oneCell'=true:=by
 intro u hu
 obtain ⟨c,_,hc⟩:=List.mem_flatMap.1 hu
 exact Xg c.1 c.2 u hc
set_option maxRecDepth 100000 in
theorem zhz (w:World) (B0:Nat) (hB0:B0<=w.heap.size) (o:List (ByteArray×V)) (b off ol oc:Nat) (ho:IsFields (only (fun k=>B0<=k) w) w.heap.size o (some ⟨b,off,none⟩) ol oc) (key:ByteArray) (hks:key.size<=140737488355328) (x:V) (cx:VC) (hx:IsVal (only (fun k=>B0<=k) w) w.heap.size x cx) (hpos:0<ol) (hfew:ol<=1000000) (his:fieldIs o key=false) (hke:fieldK o key<oc):
 Calls Tryz.prog 72 #[.slice (some ⟨b,off,none⟩) ol oc, .string key, .agg #[.int .u8 cx.k, .int .i64 cx.n, .string cx.s, .slice cx.la cx.ll cx.lc, .slice cx.oa cx.ol cx.oc]] w (WithPost w B0 (withF o key x)):=by
 obtain ⟨i0,hi0,hz0,hz1,hz2⟩:=info_parts Ya
 have hlen:=ho.len
 have hcap:=ho.cap
 have hmax:=ho.max
 obtain ⟨cs,b2,off2,hcl,hab,hcell,hpf⟩:=ho.cells
 have HCELL:Hid (∀W,Below w.heap.size w W->∀j u,(cs.flatMap fcells)[j]? =some u->W.cell? ⟨b,off+j,none⟩=some u):=by
  intro W hW j u hj
  have hjl:=(List.getElem?_eq_some_iff.1 hj).1
  rw [Zl fcells 6 (fun _=>rfl),hcl, <-hlen] at hjl
  obtain ⟨e,hb2⟩:=hab (by omega)
  injection e with e;injection e with e1 e2
  subst e1 e2
  exact Zb hW (Zw (hcell j u hj)).2 hb2
 obtain ⟨k,hk⟩:∃k,fieldK o key=k:=⟨_,rfl⟩
 rw [hk] at hke
 have hkl:k<=ol:=by rw [<-hk,hlen];exact Yh o key
 have hkl2:=hkl
 have hkc:k<=cs.length:=by rw [hcl, <-hlen];exact hkl
 have hkc2:k<=cs.length:=by rw [hcl, <-hlen];omega
 have HF:Hid (∀W,Below w.heap.size w W->Calls Tryz.prog 75 #[.agg #[.int .u8 0, .int .i64 0, .string { data:= #[] }, .slice none 0 0, .slice (some ⟨b,off,none⟩) ol oc], .string key] W fun e w'=>e= .returned (.tuple #[.int .i64 (k:Int), .bool false])/\Below W.heap.size W w'):=by
  intro W hW
  have hof:IsFields W W.heap.size o (some ⟨b,off,none⟩) ol oc:=(IsFields.keep (IsFields.sub (Zn (fun k=>B0<=k) w _) ho) hW).more hW.size
  have:=Yg W o key 0 0 { data:= #[] } none 0 0 (some ⟨b,off,none⟩) ol oc hof
  rw [hk,his] at this;exact this
 have hwf:withF o key x=o.take k++(key,x)::o.drop (k):=by rw [withF,his,hk];rfl
 rw [hwf]
 have HBX:=qh (BC.start w #[.int .u8 cx.k, .int .i64 cx.n, .string cx.s, .slice cx.la cx.ll cx.lc, .slice cx.oa cx.ol cx.oc] 36)
 have HAL:=qh ((Below.refl _ _).alloc (Nat.le_refl _) (.cells #[.int .u8 cx.k, .int .i64 cx.n, .string cx.s, .slice cx.la cx.ll cx.lc, .slice cx.oa cx.ol cx.oc] 36):Below w.heap.size w _)
 have HX:=qh hx
 have HPF:=qh hpf
 have HCL:=qh hcl
 have HLEN:=qh hlen
 obtain ⟨R,hR⟩:∃R,WithPost w B0 (o.take k++(key,x)::o.drop (k))=R:=⟨_,rfl⟩
 rw [hR]
 have HR:=qh hR
 obtain ⟨XA,hXA⟩:∃XA,(cs.take k).flatMap fcells=XA:=⟨_,rfl⟩
 obtain ⟨XB,hXB⟩:∃XB,(cs.drop (k)).flatMap fcells=XB:=⟨_,rfl⟩
 have hla:XA.length=k*6:=by rw [<-hXA,Zl fcells 6 (fun _=>rfl),List.length_take,Nat.min_eq_left hkc]
 have hlb:XB.length=(ol - (k))*6:=by rw [<-hXB,Zl fcells 6 (fun _=>rfl),List.length_drop,hcl, <-hlen]
 have HA1:Hid (∀u ∈ XA,u.oneCell'=true):=by unfold Hid;rw [<-hXA];exact Yt _
 have HB1:Hid (∀u ∈ XB,u.oneCell'=true):=by unfold Hid;rw [<-hXB];exact Yt _
 have HCA:Hid (∀W,Below w.heap.size w W->∀j u,XA[j]? =some u->W.cell? ((⟨b,off,none⟩:Addr).add j)=some u):=by
  intro W hW j u hj
  rw [<-hXA] at hj
  rw [Zt];exact HCELL.out W hW j u (Ji hj)
 have HCB:Hid (∀W,Below w.heap.size w W->∀j u,XB[j]? =some u->W.cell? ((⟨b,off+(k)*6,none⟩:Addr).add j)=some u):=by
  intro W hW j u hj
  rw [<-hXB] at hj
  rw [Zt,Nat.add_assoc];exact HCELL.out W hW _ u (Qu hkc2 hj)
 have HXA:=qh hXA
 have HXB:=qh hXB
 clear ho hab hcell hk his hx hpf hcl hlen hwf hR hXA hXB hkc hkc2
 go_enter Tryz.func72,Tryz.ntmps72
 go_wp2_with fail
 refine (HF.out _ HAL.out).mono ?_
 rintro e w1 ⟨rfl,hb1⟩
 have bl1:=HAL.out.trans (hb1.mono (by simp))
 have HBX1:=qh (HBX.out.keep hb1 (by simp))
 have zs1:w.heap.size<w1.heap.size:=HBX1.out.lt
 have HBL1:=qh bl1
 have ho1:w1.ownsRow (w.heap.size+1) 75 6 (.slice none 0 0) 0 [] :=⟨rfl, .inl ⟨rfl,rfl⟩⟩
 clear hb1 bl1
 go_wp2_with (first
  |(at_builtin;refine wpList_append_own _ rfl (.tmp 17) (.tmp 20) 34 (by rfl) (w.heap.size+1) 75 i0 _ 6 96 Tryz.underlying34 hi0 hz0 hz1 hz2 rfl (by omega) (.slice none 0 0) 0 [] (by rfl) ho1 ⟨b,off,none⟩ k oc XA (by rfl) hla (HCA.out _ HBL1.out) HA1.out (by unfold maxLen;omega) (by omega) (by omega) ?_;intro v1 w2 hown1 hgrow1 _;have b12:Below (w.heap.size+1) w1 w2:=Zj hgrow1 (fun k hk=>by simp [Value.ownBlock] at hk) (by omega);have BX2:=HBX1.out.keep b12 (by omega);obtain ⟨x0,x1,x2,x3,x4⟩:=row5 BX2.at_;have zs2:=BX2.lt;have HBL2:=qh (HBL1.out.trans (b12.mono (by omega)));have HO1:=qh hown1;have hrl:∀g,v1.ownBlock=some g->w.heap.size+1<=g/\g<w2.heap.size:=hown1.lt;have ho2:=hown1.alloc (.cells #[.string key, .int .u8 cx.k, .int .i64 cx.n, .string cx.s, .slice cx.la cx.ll cx.lc, .slice cx.oa cx.ol cx.oc] 75);have hnw:∀j u,(fcells (key,cx))[j]? =some u->(w2.alloc (.cells #[.string key, .int .u8 cx.k, .int .i64 cx.n, .string cx.s, .slice cx.la cx.ll cx.lc, .slice cx.oa cx.ol cx.oc] 75)).cell? ((⟨w2.heap.size,0,none⟩:Addr).add j)=some u:=World.news_of_block (t:=75) (fr:=(0,0)) (heap_alloc_new w2 (.cells #[.string key, .int .u8 cx.k, .int .i64 cx.n, .string cx.s, .slice cx.la cx.ll cx.lc, .slice cx.oa cx.ol cx.oc] 75));have HNW:=qh hnw;clear hnw hown1 hgrow1 BX2 b12)
  |(at_builtin;refine wpList_append_own _ rfl (.tmp 22) (.tmp 26) 34 (by rfl) (w.heap.size+1) 75 i0 _ 6 96 Tryz.underlying34 hi0 hz0 hz1 hz2 rfl (by omega) v1 (0+k) ([] ++XA) (by rfl) ho2 ⟨w2.heap.size,0,none⟩ 1 1 (fcells (key,cx)) (by rfl) (by rfl) HNW.out (Xg key cx) (by unfold maxLen;omega) (by omega) (by simp;omega) ?_;intro v2 w4 hown2 hgrow2 _;have b24:Below (w.heap.size+1) w2 w4:=(((Below.refl w2.heap.size w2).alloc (Nat.le_refl _) (.cells #[.string key, .int .u8 cx.k, .int .i64 cx.n, .string cx.s, .slice cx.la cx.ll cx.lc, .slice cx.oa cx.ol cx.oc] 75)).mono (by omega)).trans (Zj hgrow2 (fun k hk=>(hrl k hk).1) (by simp;omega));have HBL4:=qh (HBL2.out.trans (b24.mono (by omega)));have zs4:w.heap.size<w4.heap.size:=Nat.lt_of_lt_of_le zs2 b24.size;have hrl2:∀g,v2.ownBlock=some g->w.heap.size+1<=g/\g<w4.heap.size:=hown2.lt;have HO2:=qh hown2;clear hgrow2 b24 hown2)
  |(at_builtin;refine wpList_append_own _ rfl (.tmp 31) (.tmp 34) 34 (by rfl) (w.heap.size+1) 75 i0 _ 6 96 Tryz.underlying34 hi0 hz0 hz1 hz2 rfl (by omega) v2 (0+k+1) ([] ++XA++fcells (key,cx)) (by rfl) HO2.out ⟨b,off+(k)*6,none⟩ (ol - (k)) (oc - (k)) XB (by rfl) (by omega) (HCB.out _ HBL4.out) HB1.out (by unfold maxLen;omega) (by omega) (by omega) ?_;intro v3 w5 hown3 hgrow3 _;have b45:Below (w.heap.size+1) w4 w5:=Zj hgrow3 (fun k hk=>(hrl2 k hk).1) (by omega);have HBL5:=qh (HBL4.out.trans (b45.mono (by omega)));have HO3:=qh hown3;clear hgrow3 b45 hown3))
 rw [<-HR.out]
 have hcat: [] ++XA++fcells (key,cx)++XB=(cs.take k++(key,cx)::cs.drop (k)).flatMap fcells:=by rw [<-HXA.out, <-HXB.out];simp
 have hll:(o.take k++(key,x)::o.drop (k)).length=0+k+1+(ol - (k)):=by
  rw [List.length_append,List.length_cons,List.length_drop,List.length_take, <-HLEN.out,Nat.min_eq_left hkl];omega
 have hown:=HO3.out
 rw [hcat, <-hll] at hown
 have hlt3:=hown.lt
 have hsh:Shows (only (fun k=>B0<=k) w) (only (Free B0 v3) w5) w.heap.size:=Ze fun q hq hl=>⟨⟨hq,fun e=>by have:=(hlt3 q e.symm).1;omega⟩,HBL5.out.block q hl⟩
 obtain ⟨a,n,c,hv,hf,hz⟩:=Qf (B0:=B0) (B1:=w.heap.size+1) hown (by omega) (by rw [List.length_append,List.length_append,List.length_cons,List.length_cons,List.length_drop,List.length_drop,List.length_take,List.length_take,HCL.out])
  (PF.with_ HCL.out (fun i hi=>PF.closed o cs _ _ _ _ i hsh HBL5.out.size (HPF.out i hi)) ((HX.out.sub hsh).more HBL5.out.size) hks (by rw [<-HLEN.out];exact hkl) (by rw [<-HLEN.out];omega)) (by rw [hll];omega)
 exact ⟨⟨a,n,c,by rw [hv],hf,hz⟩,HBL5.out⟩
theorem ze3 {P:Program} (w:World) (base:Nat) (t ty e:TypeId) (i:TypeInfo) (size:Nat) (ht:P.underlying t=some (.slice e)) (hi:P.info? e=some i)
 (v:Value) (n:Nat) (xs:List Value) (hown:w.ownsRow base e size v n xs):
 (Builtin.append_ #[t,t] ty #[v, .slice none 0 0]).run P w= .ok v w:=by
 rcases hown.2 with ⟨rfl,rfl⟩|⟨g,cap,cur,rfl,hbg,hg,hnc,hcm,hcs,htake⟩
 .simp [Builtin.append_,run_underlying ht,sizeOf,typeInfo,hi,Builtin.lenOf,Builtin.firstCells]
 .simp [Builtin.append_,run_underlying ht,sizeOf,typeInfo,hi,Builtin.lenOf,Builtin.firstCells,storeCells,hnc]
theorem J2 {P:Program} (w:World) {ops:Array Oper} {rest:List Oper} {o:Oper} {a:Act} {Q:Exit->Act->World->Prop} (hgd:o.guard=none) (s x:Operand) (t:TypeId)
 (ho:o.op= .call { callee:= .builtin .append,args:= #[s,x],argTypes:= #[t,t] })
 (base:Nat) (e:TypeId) (i:TypeInfo) (size:Nat) (ht:P.underlying t=some (.slice e)) (hi:P.info? e=some i)
 (v:Value) (n:Nat) (xs:List Value) (hs:a.eval s=v) (hown:w.ownsRow base e size v n xs)
 (hx:a.eval x= .slice none 0 0)
 (h:wpList P ops Q rest (a.put o.dst v) w):wpList P ops Q (o::rest) a w:=
 wpList_plain hgd fun _ hK=>by
  have hr:=ze3 (P:=P) w base t o.type e i size ht hi v n xs hown
  unfold Oper.wp execOp
  simp only [ho,resolve,invoke,builtin,Sem.run_bind,Sem.run_pure,Result.andThen_ok,List.map_toArray,List.map_cons,List.map_nil,hs,hx,hr]
  exact hK _ _ h
def insL {α:Type} (l:List α) (i:Nat) (x:α):List α:=l.take i++x::l.drop i
def remL {α:Type} (l:List α) (i:Nat):List α:=l.take i++l.drop (i+1)
structure Piece (w:World) (a:Option Addr) (m c:Nat) (cells:List Value):Prop where
 nil:a=none->m=0/\c=0/\cells= []
 get:∀ad,a=some ad->∀j u,cells[j]? =some u->w.cell? (ad.add j)=some u
theorem Z0 {P:Program} (w:World) {ops:Array Oper} {rest:List Oper} {o:Oper} {a:Act} {Q:Exit->Act->World->Prop} (hgd:o.guard=none) (s x:Operand) (t:TypeId)
 (ho:o.op= .call { callee:= .builtin .append,args:= #[s,x],argTypes:= #[t,t] })
 (base:Nat) (e:TypeId) (i:TypeInfo) (z:Value) (size bytes:Nat) (ht:P.underlying t=some (.slice e)) (hi:P.info? e=some i) (hz:i.zero=some z)
 (hsize:i.size=size) (hby:i.bytes=bytes) (hzs:z.cells.size=size) (hsz:0<size)
 (v:Value) (n:Nat) (xs:List Value) (hs:a.eval s=v) (hown:w.ownsRow base e size v n xs)
 (sa:Option Addr) (m c:Nat) (news:List Value) (hx:a.eval x= .slice sa m c) (hp:Piece w sa m c news) (hl:news.length=m*size) (h1:∀u ∈ news,u.oneCell'=true)
 (h63:n+m<=maxLen) (hbytes:(n+m)*bytes<=140737488355328) (hbase:base<=w.heap.size)
 (h:∀v' w',w'.ownsRow base e size v' (n+m) (xs++news)->w.grownBy w' v.ownBlock->wpList P ops Q rest (a.put o.dst v') w'):wpList P ops Q (o::rest) a w:=by
 cases sa with
 | none=>
   obtain ⟨rfl,rfl,rfl⟩:=hp.nil rfl
   refine J2 w hgd s x t ho base e i size ht hi v n xs hs hown hx ?_
   exact h v w (by simpa using hown) ⟨rfl,rfl,rfl,Nat.le_refl _,fun _ _ _=>rfl⟩
 | some ad=>
   exact wpList_append_own w hgd s x t ho base e i z size bytes ht hi hz hsize hby hzs hsz v n xs hs hown ad m c news hx hl (hp.get ad rfl) h1 h63 hbytes hbase fun v' w' h2 h3 _=>h v' w' h2 h3
theorem Z1 (cs:List VC):∀u ∈ cs.flatMap vcells,u.oneCell'=true:=by
 intro u hu
 obtain ⟨c,_,hc⟩:=List.mem_flatMap.1 hu
 simp [vcells] at hc
 rcases hc with rfl|rfl|rfl|rfl|rfl<;>rfl
theorem PV.append {l1 l2:List V} {c1 c2:List VC} {W:World} {B:Nat} (hl:c1.length=l1.length) (h1:∀i,i<l1.length->PV l1 c1 W B i) (h2:∀i,i<l2.length->PV l2 c2 W B i):∀i,i<(l1++l2).length->PV (l1++l2) (c1++c2) W B i:=by
 intro i _ hi
 rw [List.getD_eq_getElem?_getD]
 by_cases e:i<l1.length
 .rw [List.getElem?_append_left (by omega),List.getElem_append_left e, <-List.getD_eq_getElem?_getD]
  exact h1 i e e
 .rw [List.length_append] at hi
  rw [List.getElem?_append_right (by omega),List.getElem_append_right (by omega),hl, <-List.getD_eq_getElem?_getD]
  exact h2 (i - l1.length) (by omega) (by omega)
theorem PV.take {l:List V} {cs:List VC} {W:World} {B:Nat} (h:∀i,i<l.length->PV l cs W B i) (k:Nat):∀i,i<(l.take k).length->PV (l.take k) (cs.take k) W B i:=by
 intro i _ hi
 rw [List.length_take] at hi
 rw [List.getD_eq_getElem?_getD,List.getElem?_take_of_lt (by omega),List.getElem_take, <-List.getD_eq_getElem?_getD]
 exact h i (by omega) (by omega)
theorem PV.drop {l:List V} {cs:List VC} {W:World} {B:Nat} (h:∀i,i<l.length->PV l cs W B i) (k:Nat):∀i,i<(l.drop k).length->PV (l.drop k) (cs.drop k) W B i:=by
 intro i _ hi
 rw [List.length_drop] at hi
 rw [List.getD_eq_getElem?_getD,List.getElem?_drop,List.getElem_drop, <-List.getD_eq_getElem?_getD]
 exact h (k+i) (by omega) (by omega)
theorem PV.cons {l:List V} {cs:List VC} {W:World} {B:Nat} {x:V} {cx:VC} (hx:IsVal W B x cx) (h:∀i,i<l.length->PV l cs W B i):∀i,i<(x::l).length->PV (x::l) (cx::cs) W B i:=by
 intro i _ hi
 cases i with
 |zero=>exact hx
 |succ i=>exact h i (by simpa using hi) (by simpa using hi)
theorem zle {cs:List VC} {k j:Nat} {u:Value} (h:((cs.take k).flatMap vcells)[j]? =some u):(cs.flatMap vcells)[j]? =some u:=by
 have e:cs.flatMap vcells=(cs.take k).flatMap vcells++(cs.drop k).flatMap vcells:=by rw [<-List.flatMap_append,List.take_append_drop]
 rw [e,List.getElem?_append_left (List.getElem?_eq_some_iff.1 h).1];exact h
theorem zeb {cs:List VC} {k j:Nat} {u:Value} (hk:k<=cs.length) (h:((cs.drop k).flatMap vcells)[j]? =some u):(cs.flatMap vcells)[k*5+j]? =some u:=by
 have e:cs.flatMap vcells=(cs.take k).flatMap vcells++(cs.drop k).flatMap vcells:=by rw [<-List.flatMap_append,List.take_append_drop]
 have hl:((cs.take k).flatMap vcells).length=k*5:=by rw [Zl vcells 5 (fun _=>rfl),List.length_take,Nat.min_eq_left hk]
 rw [e,List.getElem?_append_right (by omega),hl,Nat.add_sub_cancel_left];exact h
theorem IsVals.cells {w:World} {B:Nat} {l:List V} {a:Option Addr} {n c:Nat} (h:IsVals w B l a n c):
 ∃cs:List VC,cs.length=l.length/\(∀b off,a=some ⟨b,off,none⟩->0<n->b<B/\∀j u,(cs.flatMap vcells)[j]? =some u->w.cell? ⟨b,off+j,none⟩=some u)/\∀i,i<l.length->PV l cs w B i:=by
 obtain ⟨h1,h2,h3,h4,b,off,f,h5,h6⟩:=h
 have hget:∀i (_:i<l.length),((List.range l.length).map f)[i]? =some (f i):=by
  intro i hi
  simp [hi]
 refine ⟨(List.range l.length).map f,by simp,fun b' off' e hn=> ?_,fun i hi h=> ?_⟩
 .obtain ⟨e2,hb⟩:=h5 hn
  rw [e] at e2
  injection e2 with e2;injection e2 with e2 e3
  subst e2 e3
  refine ⟨hb,fun j u hj=> ?_⟩
  have hjl:j<l.length*5:=by
   have:=(List.getElem?_eq_some_iff.1 hj).1
   rw [Zl vcells 5 (fun _=>rfl)] at this
   simpa using this
  have hi:j / 5<l.length:=by omega
  have hd:j=j / 5*5+j % 5:=by omega
  have hm:j % 5<5:=by omega
  rw [hd,Xh vcells 5 (fun _=>rfl) _ (j / 5) (j % 5) (by simpa using hi) hm] at hj
  have he:((List.range l.length).map f)[j / 5]'(by simpa using hi)=f (j / 5):=by simp
  rw [he] at hj
  obtain ⟨g1,g2⟩:=h6 (j / 5) hi
  rw [hd, <-Nat.add_assoc]
  obtain ⟨m,hmm⟩:∃m,j % 5=m:=⟨_,rfl⟩
  rw [hmm] at hj hm ⊢
  match m,hm with
  |0,_=>rw [<-hj];exact g1.c0
  |1,_=>rw [<-hj];exact g1.c1
  |2,_=>rw [<-hj];exact g1.c2
  |3,_=>rw [<-hj];exact g1.c3
  |4,_=>rw [<-hj];exact g1.c4
 .rw [List.getD_eq_getElem?_getD,hget i hi]
  exact (h6 i hi).2
def Neat2 (a:Option Addr) (c:Nat):Prop:=(a=none/\c=0)∨∃b off,a=some ⟨b,off,none⟩
theorem Xl {w:World} {B0 B1:Nat} {v:Value} {l:List V} {cs:List VC} (hown:w.ownsRow B1 36 5 v l.length (cs.flatMap vcells)) (hB:B0<=B1) (hl:cs.length=l.length) (hels:∀i,i<l.length->PV l cs (only (Free B0 v) w) w.heap.size i) (hfew:l.length<=1466015503701):
 ∃a n c,v= .slice a n c/\IsVals (only (fun b=>B0<=b) w) w.heap.size l a n c/\Neat2 a c:=by
 have hown2:w.ownsRow B0 36 5 v l.length (cs.flatMap vcells):=by
  refine ⟨hown.1, ?_⟩
  rcases hown.2 with h|⟨g,cap,cur,h1,h2,h3⟩
  .exact .inl h
  .exact .inr ⟨g,cap,cur,h1,Nat.le_trans hB h2,h3⟩
 have hv:∃a n c,v= .slice a n c/\Neat2 a c:=by
  rcases hown.2 with ⟨h,_⟩|⟨g,cap,cur,h1,_⟩
  .exact ⟨_,_,_,h, .inl ⟨rfl,rfl⟩⟩
  .exact ⟨_,_,_,h1, .inr ⟨g,0,rfl⟩⟩
 obtain ⟨a,n,c,rfl,hz⟩:=hv
 have hrow:RowV w B0 (.slice a n c) l cs:=⟨hown2,hels⟩
 have:=(RowV.val hrow (lo:=B0) hl (Nat.le_refl _) 4 (by omega) (by omega) hfew).lists
 exact ⟨a,n,c,rfl,this.2.2.2.2.1,hz⟩
def ListPost (w:World) (B0:Nat) (l:List V) (e:Ending) (w':World):Prop:=
 (∃a n c,e= .returned (.slice a n c)/\IsVals (only (fun b=>B0<=b) w') w'.heap.size l a n c/\Neat2 a c)/\Below w.heap.size w w'
end Go.Proofs.YtnjgbiachcfigaaGreatDoor
