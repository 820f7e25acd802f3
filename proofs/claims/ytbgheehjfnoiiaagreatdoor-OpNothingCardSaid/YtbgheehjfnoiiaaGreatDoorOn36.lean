/-
  Contracts of the functions that the law reaches: conciliatorlaw06.One: a component that.
-/
import Derived.Test.YtbgheehjfnoiiaaGreatDoorOn33
import Derived.Test.YtbgheehjfnoiiaaGreatDoorOn35
namespace Go.Proofs.YtbgheehjfnoiiaaGreatDoor
open Go.RowKit
set_option maxHeartbeats 16000000
structure OZ (w w1 W:World) (R:Option Cm) (p:List St) (pa:Option Addr) (k pc yb:Nat):Prop where
 box:∃(d:CC) (x:V),R=some (cmOf p x d)/\d.pa=pa/\d.pl=k/\d.pc=pc/\d.Bnd/\BC W yb (ccells d)/\IsVal (only (fun b=>w.heap.size+3<=b) W) W.heap.size x d.v
 r:BC W (w.heap.size+1+1) (ccells czero)
 below:Below w.heap.size w W
 b1:Below w1.heap.size w1 W
theorem OZ.store {w w1 W5:World} {R:Option Cm} {p:List St} {pa:Option Addr} {k pc yb:Nat} {d c0:CC} {x:V} (hR:R=some (cmOf p x d)) (e1:d.pa=pa) (e2:d.pl=k) (e3:d.pc=pc) (hd:d.Bnd) (hc:BC W5 yb (ccells c0)) (hyb:w1.heap.size<=yb) (hlo:w.heap.size+3<=w1.heap.size) (hv:IsVal (only (fun b=>yb+1<=b) W5) W5.heap.size x d.v) (hr:BC W5 (w.heap.size+1+1) (ccells czero)) (hb:uB w W5) (hb1:uB w1 W5):OZ w w1 (setC W5 yb d) R p pa k pc yb:=by
 have st:=Y9 W5 yb d
 exact ⟨⟨d,x,hR,e1,e2,e3,hd,Zt hc d,Yc hv rfl st.size fun k hk hl=>⟨by omega,st.block k hl (by omega)⟩⟩,hr.next st (by omega),Below.setC hb (by omega) d,Below.setC hb1 (by omega) d⟩
theorem zm2 (n:Nat) (a:AC) (c:CC):(textA n a c).pa=c.pa/\(textA n a c).pl=c.pl/\(textA n a c).pc=c.pc/\(textA n a c).v=c.v:=by
 unfold textA;split<;>exact ⟨rfl,rfl,rfl,rfl⟩
theorem zkd (n:Nat) (a:AC) (bs:List UInt8) (tl:List Tk) (p:List St) (x:V) (pa:Option Addr) (k pc:Nat):cmOf p x (textA n (Ac.bare ⟨bs,a.k,a.i,a.j,a.n,a.s,tl⟩) czero)=cmOf p x (textA n a (pathC pa k pc)):=by
 unfold textA
 by_cases h:0<n/\a.k % 2=0
 .rw [if_pos h,if_pos (show 0<n/\(Ac.bare ⟨bs,a.k,a.i,a.j,a.n,a.s,tl⟩).k % 2=0 from h)];rfl
 .rw [if_neg h,if_neg (show ¬(0<n/\(Ac.bare ⟨bs,a.k,a.i,a.j,a.n,a.s,tl⟩).k % 2=0) from h)];rfl
theorem zme (n:Nat) (a:AC) (bs:List UInt8) (tl:List Tk) (p:List St) (x:V) (pa:Option Addr) (k pc:Nat) (cv:VC):cmOf p x (listA n (Ac.bare ⟨bs,a.k,a.i,a.j,a.n,a.s,tl⟩) czero vzero)=cmOf p x (listA n a (pathC pa k pc) cv):=rfl
theorem zir (o:List (ByteArray×V)) (a:AC) (bs:List UInt8) (tl:List Tk) (p:List St) (x:V) (pa:Option Addr) (k pc:Nat) (cv:VC):cmOf p x (fieldA o (Ac.bare ⟨bs,a.k,a.i,a.j,a.n,a.s,tl⟩) czero vzero)=cmOf p x (fieldA o a (pathC pa k pc) cv):=rfl
theorem zm7 (v:V) (p:List St):(xAt v p).weight<=v.weight:=by
 unfold xAt
 have h1:1<=v.weight:=by cases v;simp only [V.weight];omega
 cases h:getP v p with
 |none=>show V.none.weight<=_;rw [Kz];exact h1
 |some x=>exact Z6 p h
set_option maxRecDepth 100000 in
theorem zem (w:World) (vk vn:Int) (vs:ByteArray) (la:Option Addr) (ll lc:Nat) (oa:Option Addr) (ol oc:Nat) (v:V) (hv:IsVal w w.heap.size v ⟨vk,vn,vs,la,ll,lc,oa,ol,oc⟩) (hw:v.weight<=100000000) (a:AC) (ac:Ac) (ha:IsAct w w.heap.size ac a):
 uP 32 #[.agg (uU vk vn vs la ll lc oa ol oc), .agg (uA a)] w (OnePost w (oneC v ac)):=by
 delta uU uA uP
 cases ha with
 |mk _ bs tl hab hbs htk=>
 obtain ⟨P0,hP0⟩:∃P0,walkP v (bs.take 8)=P0:=⟨_,rfl⟩
 have HW:Hid (∀W,uB w W->uP 57 #[.agg (uU vk vn vs la ll lc oa ol oc), .slice a.pa a.pl a.pc] W (WalkPost W P0)):=fun W hW=>by rw [<-hP0];exact zia W _ _ _ _ _ _ _ _ _ v (hv.later_ hW) bs _ _ _ (hbs.later6 hW)
 have HG:Hid (∀W pa q n c,uB w W->IsSteps W W.heap.size q pa n c->uP 58 #[.agg (uU vk vn vs la ll lc oa ol oc), .slice pa n c] W (GetPost W (getP v q))):=fun W pa q n c hW hq=>Xt W _ _ _ _ _ _ _ _ _ v (hv.later_ hW) q pa n c hq
 have HB:=qh (OH0.start w ⟨vk,vn,vs,la,ll,lc,oa,ol,oc⟩ a 29 70 54)
 have HTK:=qh htk
 obtain ⟨R,hR⟩:∃R,oneC v ⟨bs,a.k,a.i,a.j,a.n,a.s,tl⟩=R:=⟨_,rfl⟩
 rw [hR]
 have HR:=qh hR
 have HP0:=qh hP0
 have HAB:=qh hab
 clear hR hP0 hv hbs htk hab
 go_enter Tryz.func32,Tryz.ntmps32
 generalize hQ0:bodyPost _ _ _=Q0
 have HQ:=qh hQ0
 clear hQ0
 go_wp2_with fail
 refine (HW.out _ HB.out.below).mono ?_
 rintro e w1 ⟨⟨pa,n,pc,rfl,hst⟩,hb1⟩
 have hst1:IsSteps (only (fun b=>w.heap.size+3<=b) w1) w1.heap.size P0 pa n pc:=Xs hst rfl (Nat.le_refl _) fun k hk _=>⟨by simpa using hk,rfl⟩
 have hlo1:w.heap.size+3<=w1.heap.size:=by have:=hb1.size;simp at this;omega
 have B1:=HB.out.next hb1 (by simp)
 obtain ⟨v0,v1,v2,v3,v4⟩:=row5 B1.v.at_
 have z0:=B1.v.lt;have z1:=B1.a.lt;have z2:=B1.r.lt
 have hcap:=hst1.cap;have hmx:=hst1.max;have hfw:=hst1.few
 have HST:=qh hst1
 have HB1:=qh B1
 clear B1 hst hst1 hb1
 go_upto_if 16 with fail
 go_cut [6] from 17 to 18 (fun p wx=>w1=wx/\∃m:Nat,m<=n/\m<=5/\p= .slice pa m pc/\(n<=5->m=n)/\(5<n->m=5))
 case first=>
  by_cases h5:5<n
  .go_wp2_with fail
   go_meet
   exact ⟨rfl,5,by omega,by omega,rfl,by omega,by omega⟩
  .go_wp2_with fail
   go_meet
   exact ⟨rfl,n,by omega,by omega,rfl,by omega,by omega⟩
 case rest=>
 obtain ⟨rfl,m,hmn,hm5,rfl,hma,hmb⟩:=hcut
 obtain ⟨P,hP⟩:∃P,P0.take m=P:=⟨_,rfl⟩
 have hwp:wayP v bs=P:=by
  have hl:=HST.out.len
  unfold wayP
  rw [HP0.out, <-hP]
  by_cases h5:5<n
  .rw [hmb h5]
  .rw [hma (by omega),List.take_of_length_le (by omega),List.take_of_length_le (by omega)]
 have hPs:IsSteps (only (fun b=>w.heap.size+3<=b) w1) w1.heap.size P pa m pc:=by rw [<-hP];exact HST.out.take m hmn
 have HPL:=qh hPs.len
 have HPS:=qh hPs
 have HWP:=qh hwp
 clear hP hPs hma hmb hwp
 go_wp2_with fail
 refine (HG.out w1 pa P m pc HB1.out.below (HPS.out.sub (Zl _ _ _))).mono ?_
 rintro e w2 h
 obtain ⟨cx,gi,rfl,hI,hb2⟩:=h.any
 clear h
 have O:=OH.start (t:=29) HB1.out hlo1 hI hb2
 have hb3:uB w1 (w2.alloc (.cells (uV cx) 29)):=hb2.alloc hb2.size _
 have hxz:w1.heap.size<=w2.heap.size:=hb2.size
 go_upto_block 0 with fail
 obtain ⟨xb,hxb⟩:∃xb,w2.heap.size=xb:=⟨_,rfl⟩
 rw [hxb] at O hxz ⊢
 generalize hw3:w2.alloc _=w3 at O hb3 ⊢
 clear hw3 hxb hI hb2 v0 v1 v2 v3 v4
 have hxx:(getP v P).getD V.none=xAt v (P.take m):=by rw [HPL.out,List.take_length];rfl
 rw [hxx] at O
 clear hxx
 have HB3:=qh hb3
 have HO:=qh O
 clear O hb3
 obtain ⟨T,hT⟩:∃T,trimN v P m=T:=⟨_,rfl⟩
 have HT:=qh hT
 clear hT
 go_cut [6] from 25 to 43 (fun p wx=>∃(k:Nat) (cy:VC),k<=m/\p= .slice pa k pc/\Hid (trimN v P k=T)/\Hid (k=T)/\Hid (uB w1 wx)/\OH w wx ⟨vk,vn,vs,la,ll,lc,oa,ol,oc⟩ a xb (xAt v (P.take k)) cy)
 case first=>
  go_wp2_with fail
  go_loopw [6] (fun p wr=>∃(k:Nat) (cy:VC),k<=m/\p= .slice pa k pc/\Hid (trimN v P k=T)/\Hid (uB w1 wr)/\OH w wr ⟨vk,vn,vs,la,ll,lc,oa,ol,oc⟩ a xb (xAt v (P.take k)) cy) (fun p _=>sliceN p)
  case atStart=>exact ⟨m,cx,Nat.le_refl _,rfl,HT,HB3,HO.out⟩
  case round=>
   obtain ⟨k,cy,hk,rfl,HTR,HBW,L⟩:=hrel
   obtain ⟨v0,v1,v2,v3,v4⟩:=row5 L.v.at_
   have x0:=L.bx.at_ 0 _ rfl
   have z0:=L.v.lt;have zx:=L.bx.lt
   have hkd:=zli L.val
   have kb:=(L.val.bnd).k0
   have HL:=qh L
   have hlo:=L.lo
   clear L
   by_cases hc:0<k/\cy.k<2
   .obtain ⟨hk0,hc2⟩:=hc
    obtain ⟨j,rfl⟩:∃j,k=j+1:=⟨k - 1,by omega⟩
    have htr:trimN v P j=T:=by
     have:=HTR.out
     rw [trimN,if_pos (by rw [hkd];exact hc2)] at this
     exact this
    have HTJ:=qh htr
    have HKD:=qh hkd
    clear htr hkd
    go_wp2_with fail
    refine (HG.out wr pa (P.take j) j pc HL.out.below (((Xs (S':=fun b=>w.heap.size+3<=b) HPS.out rfl HBW.out.size fun k hk hl=>⟨hk,HBW.out.block k hl⟩).sub (Zl _ _ _)).take j (by omega))).mono ?_
    rintro e w4 h
    obtain ⟨cz,gi2,rfl,hI4,hb4⟩:=h.any
    clear h x0 v0 v1 v2 v3 v4
    have L4:=HL.out.next hb4
    obtain ⟨x0,x1,x2,x3,x4⟩:=row5 L4.bx.at_
    have g0:=L4.bx.fr 0;have g1:=L4.bx.fr 1;have g2:=L4.bx.fr 2;have g3:=L4.bx.fr 3;have g4:=L4.bx.fr 4
    have zx4:=L4.bx.lt
    have HRD:=qh (HL.out.round hb4 hI4)
    have hBN:uB w1 (setV w4 xb 0 cz):=Below.set5' (HBW.out.trans (hb4.mono HBW.out.size)) hxz _ _ _ _ _
    have HBN:=qh hBN
    clear L4 hI4 hb4 hBN
    go_wp2_with fail
    go_roundw
    case rel=>exact ⟨j,cz,by omega,rfl,HTJ,HBN,HRD.out⟩
    case measure=>simp [sliceN]
   .have hend:k=T:=by
     rw [<-HTR.out]
     cases k with
     |zero=>rfl
     |succ j=>rw [trimN,if_neg (by rw [hkd];omega)]
    have HE:=qh hend
    clear hend hkd
    by_cases hk0:0<k
    .have hc2:¬cy.k<2:=by omega
     go_wp2_with fail
     go_meet
     exact ⟨k,cy,hk,rfl,HTR,HE,HBW,HL.out⟩
    .go_wp2_with fail
     go_meet
     exact ⟨k,cy,hk,rfl,HTR,HE,HBW,HL.out⟩
 case rest=>
 obtain ⟨k,cy,hkm,rfl,HTR,HKT,HBW,L⟩:=hcut
 obtain ⟨p,hp⟩:∃p,P.take k=p:=⟨_,rfl⟩
 have hsteps:IsSteps (only (fun b=>w.heap.size+3<=b) w1) w1.heap.size p pa k pc:=by rw [<-hp];exact HPS.out.take k hkm
 have hpath:aimPath v bs=p:=by unfold aimPath;rw [HWP.out, <-HPL.out,HT.out, <-HKT.out,hp]
 rw [hp] at L
 obtain ⟨x,hx⟩:∃x,xAt v p=x:=⟨_,rfl⟩
 rw [hx] at L
 have hxw:x.weight<=100000000:=by rw [<-hx];exact Nat.le_trans (zm7 v p) hw
 have hR2:oneX x p ⟨bs,a.k,a.i,a.j,a.n,a.s,tl⟩=R:=by
  rw [<-HR.out,oneC];dsimp only;rw [hpath,hx]
 have HST2:=qh hsteps
 clear hsteps hpath hp hx HTR HKT HT HPL HWP HPS HR HP0 HST HO HG HW
 obtain ⟨ck,cn,cs,lx,ox,rfl⟩:=x.eta
 obtain ⟨dk,dn,ds,cla,cll,clc,coa,col,coc⟩:=cy
 obtain ⟨f1,f2,f3,hbd,_,_⟩:=L.val.lists
 dsimp only at f1 f2 f3
 subst f1 f2 f3
 have kb0:=hbd.k0
 have hstr:=(V.str_weight (.mk dk dn ds lx ox)).1
 have hsz:ds.size<=1000000000000:=by have:(V.mk dk dn ds lx ox).str=ds:=rfl;rw [this] at hstr;omega
 have x0:=L.bx.at_ 0 _ rfl
 have zx:=L.bx.lt
 have HL:=qh L
 clear L hstr hbd
 go_upto_block 2 with fail
 have hal:uB wc (wc.alloc (.cells #[.int .u8 0, .slice pa k pc, .string { data:= #[] }, .int .i64 0, .int .i64 0, .int .i64 0, .int .u8 0, .int .i64 0, .string { data:= #[] }, .slice none 0 0, .slice none 0 0, .string { data:= #[] }] 54)):=(Below.refl _ _).alloc (Nat.le_refl _) _
 have Y:BC (wc.alloc (.cells #[.int .u8 0, .slice pa k pc, .string { data:= #[] }, .int .i64 0, .int .i64 0, .int .i64 0, .int .u8 0, .int .i64 0, .string { data:= #[] }, .slice none 0 0, .slice none 0 0, .string { data:= #[] }] 54)) wc.heap.size (ccells (pathC pa k pc)):=BC.start _ _ _
 have L5:=HL.out.next hal
 have hb5:uB w1 (wc.alloc (.cells #[.int .u8 0, .slice pa k pc, .string { data:= #[] }, .int .i64 0, .int .i64 0, .int .i64 0, .int .u8 0, .int .i64 0, .string { data:= #[] }, .slice none 0 0, .slice none 0 0, .string { data:= #[] }] 54)):=HBW.out.trans (hal.mono HBW.out.size)
 have hz5:(wc.alloc (.cells #[.int .u8 0, .slice pa k pc, .string { data:= #[] }, .int .i64 0, .int .i64 0, .int .i64 0, .int .u8 0, .int .i64 0, .string { data:= #[] }, .slice none 0 0, .slice none 0 0, .string { data:= #[] }] 54)).heap.size=wc.heap.size+1:=World.size_alloc _ _
 have hyb:w1.heap.size<=wc.heap.size:=HBW.out.size
 obtain ⟨yb,hyb2⟩:∃yb,wc.heap.size=yb:=⟨_,rfl⟩
 generalize hw5:wc.alloc _=w5 at L5 hb5 hz5 Y ⊢
 rw [hyb2] at Y hz5 hyb ⊢
 clear hw5 hal hyb2 x0 zx HL HBW
 obtain ⟨x0,x1,x2,x3,x4⟩:=row5 L5.bx.at_
 have a0:=L5.a.at_ 0 _ rfl;have a1:=L5.a.at_ 1 _ rfl;have a2:=L5.a.at_ 2 _ rfl;have a3:=L5.a.at_ 3 _ rfl;have a4:=L5.a.at_ 4 _ rfl;have a5:=L5.a.at_ 5 _ rfl;have a6:=L5.a.at_ 6 _ rfl
 obtain ⟨y0,y1,y2,y3,y4,y5,y6,y7,y8,y9,y10,y11⟩:=row12 Y.at_
 have f0:=Y.fr 0;have f1:=Y.fr 1;have f2:=Y.fr 2;have f3:=Y.fr 3;have f4:=Y.fr 4;have f5:=Y.fr 5;have f6:=Y.fr 6;have f7:=Y.fr 7;have f8:=Y.fr 8;have f9:=Y.fr 9;have f10:=Y.fr 10;have f11:=Y.fr 11
 have zx:=L5.bx.lt;have zy:=Y.lt;have za:=L5.a.lt
 have HLX:=qh (L5.val.sub (Zl _ _ _)).lists
 have HL5:=qh L5
 have HB5:=qh hb5
 have HY:=qh Y
 have HTK5:=qh (HTK.out.later_ L5.below)
 have HR2:=qh hR2
 clear L5 hb5 Y hR2 HTK
 go_cut [5] from 49 to 76 (fun r wx=>r= .int .i64 0/\OZ w w1 wx R p pa k pc yb)
 case first =>
  by_cases e2:dk=2
  .subst e2
   go_wp2_with fail
   go_meet
   refine ⟨rfl,⟨⟨1,pa,k,pc, .empty,0,0,a.n,vzero, .empty⟩,V.none, ?_,rfl,rfl,rfl, ?_, ?_,Zw _ _⟩, ?_, ?_, ?_⟩
   .rw [<-HR2.out];rfl
   .have hq:=HAB.out
    exact ⟨by simp,by simp,by simp,by simp,by simp,by simp,hq.n0,hq.n1,X6,X6⟩
   .exact (HY.out.set (i:=0) (x:= .int .u8 1) (by simp [ccells])).set (i:=5) (x:= .int .i64 a.n) (by simp [ccells])
   .exact (HL5.out.r.far (by omega)).far (by omega)
   .exact (HL5.out.below.set_ (by omega)).set_ (by omega)
   .exact (HB5.out.set_ hyb).set_ hyb
  .have g2 :(dk==2)=false:=by simp [e2]
   by_cases e3:dk=3
   .subst e3
    go_wp2_with fail
    refine (zl4 w5 (pathC pa k pc) a HAB.out ds.size hsz).mono ?_
    rintro e w6 ⟨rfl,hb6⟩
    clear x0 x1 x2 x3 x4 a0 a1 a2 a3 a4 a5 a6 y0 y1 y2 y3 y4 y5 y6 y7 y8 y9 y10 y11 f0 f1 f2 f3 f4 f5 f6 f7 f8 f9 f10 f11
    have Y:=HY.out.keep hb6 zy
    have f0:=Y.fr 0;have f1:=Y.fr 1;have f2:=Y.fr 2;have f3:=Y.fr 3;have f4:=Y.fr 4;have f5:=Y.fr 5;have f6:=Y.fr 6;have f7:=Y.fr 7;have f8:=Y.fr 8;have f9:=Y.fr 9;have f10:=Y.fr 10;have f11:=Y.fr 11
    obtain ⟨y0,y1,y2,y3,y4,y5,y6,y7,y8,y9,y10,y11⟩:=row12 Y.at_
    have zy6:=Y.lt
    have hdz:=zm2 ds.size a (pathC pa k pc)
    have HOZ:Hid (OZ w w1 (setC w6 yb (textA ds.size a (pathC pa k pc))) R p pa k pc yb):=qh (OZ.store (x:=V.none) (by rw [<-HR2.out];exact congrArg some (zkd _ _ _ _ _ _ _ _ _)) hdz.1 hdz.2.1 hdz.2.2.1 (zis hsz (Jm _ _ _)) Y hyb hlo1 (by rw [hdz.2.2.2];exact Zw _ _) (HL5.out.r.keep hb6 HL5.out.r.lt) (HL5.out.below.trans (hb6.mono HL5.out.below.size)) (HB5.out.trans (hb6.mono HB5.out.size)))
    clear Y hdz
    generalize textA ds.size a (pathC pa k pc)=d at HOZ ⊢
    go_wp2_with fail
    go_meet
    exact ⟨rfl,HOZ.out⟩
   .have g3:(dk==3)=false:=by simp [e3]
    by_cases e4:dk=4
    .subst e4
     obtain ⟨_,_,_,_,hvl,_⟩:=HLX.out
     dsimp only at hvl
     have hll:=hvl.len;have hfl:=hvl.few
     have hwl:=(V.str_weight (.mk 4 dn ds lx ox)).2.1
     have hln:cll<=1466015503700:=by have:(V.mk 4 dn ds lx ox).ls=lx:=rfl;rw [this] at hwl;omega
     have HLL:=qh hll
     clear hll hvl hwl
     go_wp2_with fail
     refine (zid w5 (pathC pa k pc) rfl a HAB.out cll hfl tl HTK5.out).mono ?_
     rintro e w6 ⟨⟨cv,rfl,hI6⟩,hb6⟩
     clear x0 x1 x2 x3 x4 a0 a1 a2 a3 a4 a5 a6 y0 y1 y2 y3 y4 y5 y6 y7 y8 y9 y10 y11 f0 f1 f2 f3 f4 f5 f6 f7 f8 f9 f10 f11
     have Y:=HY.out.keep hb6 zy
     have f0:=Y.fr 0;have f1:=Y.fr 1;have f2:=Y.fr 2;have f3:=Y.fr 3;have f4:=Y.fr 4;have f5:=Y.fr 5;have f6:=Y.fr 6;have f7:=Y.fr 7;have f8:=Y.fr 8;have f9:=Y.fr 9;have f10:=Y.fr 10;have f11:=Y.fr 11
     obtain ⟨y0,y1,y2,y3,y4,y5,y6,y7,y8,y9,y10,y11⟩:=row12 Y.at_
     have zy6:=Y.lt
     have HOZ:Hid (OZ w w1 (setC w6 yb (listA cll a (pathC pa k pc) cv)) R p pa k pc yb):=qh (OZ.store (x:=listV cll a.k tl) (by rw [<-HR2.out,HLL.out];exact congrArg some (zme _ _ _ _ _ _ _ _ _ _)) rfl rfl rfl (zhg hln (Jm _ _ _) _) Y hyb hlo1 (hI6.sub (Ze fun k hk _=>⟨by omega,rfl⟩)) (HL5.out.r.keep hb6 HL5.out.r.lt) (HL5.out.below.trans (hb6.mono HL5.out.below.size)) (HB5.out.trans (hb6.mono HB5.out.size)))
     clear Y hI6
     generalize listA cll a (pathC pa k pc) cv=d at HOZ ⊢
     go_wp2_with fail
     go_meet
     exact ⟨rfl,HOZ.out⟩
    .have g4:(dk==4)=false:=by simp [e4]
     by_cases e5:dk=5
     .subst e5
      obtain ⟨_,_,_,_,_,hvo⟩:=HLX.out
      dsimp only at hvo
      have HVO:=qh hvo
      clear hvo
      go_wp2_with fail
      refine (zfg w5 (pathC pa k pc) rfl a HAB.out ⟨5,dn,ds,cla,cll,clc,coa,col,coc⟩ ox HVO.out tl HTK5.out).mono ?_
      rintro e w6 ⟨⟨cv,rfl,hI6⟩,hb6⟩
      clear x0 x1 x2 x3 x4 a0 a1 a2 a3 a4 a5 a6 y0 y1 y2 y3 y4 y5 y6 y7 y8 y9 y10 y11 f0 f1 f2 f3 f4 f5 f6 f7 f8 f9 f10 f11
      have Y:=HY.out.keep hb6 zy
      have f0:=Y.fr 0;have f1:=Y.fr 1;have f2:=Y.fr 2;have f3:=Y.fr 3;have f4:=Y.fr 4;have f5:=Y.fr 5;have f6:=Y.fr 6;have f7:=Y.fr 7;have f8:=Y.fr 8;have f9:=Y.fr 9;have f10:=Y.fr 10;have f11:=Y.fr 11
      obtain ⟨y0,y1,y2,y3,y4,y5,y6,y7,y8,y9,y10,y11⟩:=row12 Y.at_
      have zy6:=Y.lt
      have HOZ:Hid (OZ w w1 (setC w6 yb (fieldA ox a (pathC pa k pc) cv)) R p pa k pc yb):=qh (OZ.store (x:=fieldV ox a tl) (by rw [<-HR2.out];exact congrArg some (zir _ _ _ _ _ _ _ _ _ _)) rfl rfl rfl (zd2 HVO.out (Jm _ _ _) _) Y hyb hlo1 (hI6.sub (Ze fun k hk _=>⟨by omega,rfl⟩)) (HL5.out.r.keep hb6 HL5.out.r.lt) (HL5.out.below.trans (hb6.mono HL5.out.below.size)) (HB5.out.trans (hb6.mono HB5.out.size)))
      clear Y hI6
      generalize fieldA ox a (pathC pa k pc) cv=d at HOZ ⊢
      go_wp2_with fail
      go_meet
      exact ⟨rfl,HOZ.out⟩
     .have g5:(dk==5)=false:=by simp [e5]
      have hRn:R=none:=by
       have hkd:(V.mk dk dn ds lx ox).kd=dk:=rfl
       rw [<-HR2.out,oneX,hkd,if_neg e2,if_neg e3,if_neg e4,if_neg e5]
      have HRN:=qh hRn
      clear hRn
      obtain ⟨r0,r1,r2,r3,r4,r5,r6,r7,r8,r9,r10,r11⟩:=row12 HL5.out.r.at_
      have rf0:=HL5.out.r.fr 0;have rf1:=HL5.out.r.fr 1;have rf2:=HL5.out.r.fr 2;have rf3:=HL5.out.r.fr 3;have rf4:=HL5.out.r.fr 4;have rf5:=HL5.out.r.fr 5;have rf6:=HL5.out.r.fr 6;have rf7:=HL5.out.r.fr 7;have rf8:=HL5.out.r.fr 8;have rf9:=HL5.out.r.fr 9;have rf10:=HL5.out.r.fr 10;have rf11:=HL5.out.r.fr 11
      have zr:=HL5.out.r.lt
      go_wp2_with fail
      rw [<-HQ.out,HRN.out]
      exact zfc (d:=pathC pa k pc) HL5.out.r (Xs (S':=fun b=>w.heap.size+3<=b) HST2.out rfl HB5.out.size fun k hk hl=>⟨hk,HB5.out.block k hl⟩) (Zw _ _) (Jm _ _ _) rfl HL5.out.below rfl rfl rfl
 case rest=>
 clear x0 x1 x2 x3 x4 a0 a1 a2 a3 a4 a5 a6 y0 y1 y2 y3 y4 y5 y6 y7 y8 y9 y10 y11 f0 f1 f2 f3 f4 f5 f6 f7 f8 f9 f10 f11
 rename_i wz
 obtain ⟨rfl,Z⟩:=hcut
 obtain ⟨d,y,hRd,e1,e2,e3,hdb,Y,hyv⟩:=Z.box
 obtain ⟨y0,y1,y2,y3,y4,y5,y6,y7,y8,y9,y10,y11⟩:=row12 Y.at_
 obtain ⟨r0,r1,r2,r3,r4,r5,r6,r7,r8,r9,r10,r11⟩:=row12 Z.r.at_
 have rf0:=Z.r.fr 0;have rf1:=Z.r.fr 1;have rf2:=Z.r.fr 2;have rf3:=Z.r.fr 3;have rf4:=Z.r.fr 4;have rf5:=Z.r.fr 5;have rf6:=Z.r.fr 6;have rf7:=Z.r.fr 7;have rf8:=Z.r.fr 8;have rf9:=Z.r.fr 9;have rf10:=Z.r.fr 10;have rf11:=Z.r.fr 11
 have zr:=Z.r.lt;have zy6:=Y.lt
 have hst:=Xs (S':=fun b=>w.heap.size+3<=b) HST2.out rfl Z.b1.size fun k hk hl=>⟨hk,Z.b1.block k hl⟩
 rw [<-e1, <-e2, <-e3] at hst
 have HS:=qh hst
 have HZ:=qh Z
 have HDB:=qh hdb
 have HYV:=qh hyv
 have HRD:=qh hRd
 clear hst Z hdb hyv Y hRd e1 e2 e3
 go_wp2_with fail
 rw [<-HQ.out,HRD.out]
 exact zml HZ.out.r HS.out HYV.out HZ.out.below HDB.out rfl rfl rfl
theorem Ko:(Tryz.prog.info? 54).map (fun i=>(i.zero,i.size,i.bytes))=some (some (.agg #[.int .u8 0, .slice none 0 0, .string { data:= #[] }, .int .i64 0, .int .i64 0, .int .i64 0, .int .u8 0, .int .i64 0, .string { data:= #[] }, .slice none 0 0, .slice none 0 0, .string { data:= #[] }]),12,168):=by kernel_rfl
structure ActAt (w:World) (b o:Nat) (c:AC):Prop where
 c0:w.cell? ⟨b,o,none⟩=some (.slice c.pa c.pl c.pc)
 c1:w.cell? ⟨b,o+1,none⟩=some (.int .u8 c.k)
 c2:w.cell? ⟨b,o+2,none⟩=some (.int .i64 c.i)
 c3:w.cell? ⟨b,o+3,none⟩=some (.int .i64 c.j)
 c4:w.cell? ⟨b,o+4,none⟩=some (.int .i64 c.n)
 c5:w.cell? ⟨b,o+5,none⟩=some (.string c.s)
 c6:w.cell? ⟨b,o+6,none⟩=some (.slice c.va c.vl c.vc)
theorem ActAt.keep {w w':World} {B b o:Nat} {c:AC} (h:ActAt w b o c) (hb:Below B w w') (hB:b<B):ActAt w' b o c:=
 ⟨Zb hb h.c0 hB,Zb hb h.c1 hB,Zb hb h.c2 hB,Zb hb h.c3 hB,Zb hb h.c4 hB,Zb hb h.c5 hB,Zb hb h.c6 hB⟩
theorem IsAct.keep {w w':World} {B:Nat} {x:Ac} {c:AC} (h:IsAct w B x c) (hb:Below B w w'):IsAct w' B x c:=by
 cases h with
 |mk c p v hbd hp hv=>exact .mk c p v hbd (hp.keep hb) (hv.keep hb)
theorem IsB.more6 {w:World} {B B':Nat} {a:Option Addr} {n c:Nat} {bs:List UInt8} (h:IsB w B a n c bs) (hB:B<=B'):IsB w B' a n c bs:=by
 obtain ⟨h1,h2,h3,b,o,h5,h6⟩:=h
 exact ⟨h1,h2,h3,b,o,fun h=>⟨(h5 h).1,Nat.lt_of_lt_of_le (h5 h).2 hB⟩,h6⟩
theorem IsAct.more {w:World} {B B':Nat} {x:Ac} {c:AC} (h:IsAct w B x c) (hB:B<=B'):IsAct w B' x c:=by
 cases h with
 |mk c p v hbd hp hv=>exact .mk c p v hbd (hp.more6 hB) (hv.more hB)
structure IsActs (w:World) (B:Nat) (l:List Ac) (a:Option Addr) (n c:Nat):Prop where
 len:n=l.length
 cap:n<=c
 max:c<=9223372036854775807
 at_:∃b o,∃f:Nat->AC,(0<n->a=some ⟨b,o,none⟩/\b<B)/\∀i (h:i<l.length),ActAt w b (o+i*7) (f i)/\IsAct w B l[i] (f i)
theorem IsActs.keep {w w':World} {B:Nat} {l:List Ac} {a:Option Addr} {n c:Nat} (h:IsActs w B l a n c) (hb:Below B w w'):IsActs w' B l a n c:=by
 obtain ⟨h1,h2,h3,b,o,f,h5,h6⟩:=h
 exact ⟨h1,h2,h3,b,o,f,h5,fun i hi=>⟨(h6 i hi).1.keep hb (h5 (by omega)).2,(h6 i hi).2.keep hb⟩⟩
theorem IsActs.later_ {w w':World} {l:List Ac} {a:Option Addr} {n c:Nat} (h:IsActs w w.heap.size l a n c) (hb:uB w w'):IsActs w' w'.heap.size l a n c:=by
 obtain ⟨h1,h2,h3,b,o,f,h5,h6⟩:=h.keep hb
 exact ⟨h1,h2,h3,b,o,f,fun hn=>⟨(h5 hn).1,Nat.lt_of_lt_of_le (h5 hn).2 hb.size⟩,fun i hi=>⟨(h6 i hi).1,(h6 i hi).2.more hb.size⟩⟩
theorem IsActs.get {w:World} {B:Nat} {l:List Ac} {a:Option Addr} {n c k:Nat} (h:IsActs w B l a n c) (hk:k<n):
 ∃b o,∃f:AC,∃hp:k<l.length,a=some ⟨b,o,none⟩/\b<B/\ActAt w b (o+k*7) f/\IsAct w B l[k] f:=by
 obtain ⟨h1,h2,h3,b,o,f,h5,h6⟩:=h
 exact ⟨b,o,f k,by omega,(h5 (by omega)).1,(h5 (by omega)).2,(h6 k (by omega)).1,(h6 k (by omega)).2⟩
def OneRes (z:Nat) (r:Option Cm) (nn:Int) (W:World) (cc:CC):Prop:=match r with
 |some x=>nn=1/\IsComp (only (fun b=>z<=b) W) W.heap.size x cc
 |none=>nn=0
theorem IsComp.more6 {w:World} {B B':Nat} {x:Cm} {c:CC} (h:IsComp w B x c) (hB:B<=B'):IsComp w B' x c:=by
 cases h with
 |mk c p v hbd hp hv=>exact .mk c p v hbd (hp.more hB) (hv.more hB)
theorem Qg {W W':World} {S S':Nat->Prop} {B:Nat} {x:Cm} {c:CC} (h:IsComp (only S W) B x c) (hB:B=W.heap.size) (hz:W.heap.size<=W'.heap.size) (hs:∀k,S k->k<W.heap.size->S' k/\W'.heap[k]? =W.heap[k]?):IsComp (only S' W') W'.heap.size x c:=by
 subst hB;exact (h.sub (Ze hs)).more6 hz
theorem OneRes.step {z z':Nat} {r:Option Cm} {nn:Int} {W W':World} {cc:CC} (h:OneRes z r nn W cc) (hz:z'<=z) (hs:W.heap.size<=W'.heap.size) (hb:∀k,z<=k->k<W.heap.size->W'.heap[k]? =W.heap[k]?):OneRes z' r nn W' cc:=by
 cases r with
 |none=>exact h
 |some x=>exact ⟨h.1,Qg h.2 rfl hs fun k hk hl=>⟨Nat.le_trans hz hk,hb k hk hl⟩⟩
theorem OnePost.any {w w':World} {r:Option Cm} {e:Ending} (h:OnePost w r e w'):∃(cc:CC) (nn:Int),e= .returned (.tuple #[.agg #[.int .u8 cc.k, .slice cc.pa cc.pl cc.pc, .string cc.key, .int .i64 cc.i, .int .i64 cc.j, .int .i64 cc.n, .int .u8 cc.v.k, .int .i64 cc.v.n, .string cc.v.s, .slice cc.v.la cc.v.ll cc.v.lc, .slice cc.v.oa cc.v.ol cc.v.oc, .string cc.s], .int .i64 nn])/\OneRes w.heap.size r nn w' cc/\uB w w':=by
 delta uB
 obtain ⟨⟨cc,hm⟩,hb⟩:=h
 cases r with
 |none=>exact ⟨cc,0,hm.1,rfl,hb⟩
 |some x=>exact ⟨cc,1,hm.1,⟨rfl,hm.2⟩,hb⟩
theorem zff {w w4:World} {r:Option Cm} {nn:Int} {z:Nat} (h:Below w.heap.size w.drew w4) (hz:w.heap.size<=w4.heap.size) (cc:CC) (t:TypeId) (ho:OneRes z r nn w4 cc) (hzz:w.heap.size<=z):BC (w4.alloc (.cells #[.int .u8 cc.k, .slice cc.pa cc.pl cc.pc, .string cc.key, .int .i64 cc.i, .int .i64 cc.j, .int .i64 cc.n, .int .u8 cc.v.k, .int .i64 cc.v.n, .string cc.v.s, .slice cc.v.la cc.v.ll cc.v.lc, .slice cc.v.oa cc.v.ol cc.v.oc, .string cc.s] t)) w4.heap.size (ccells cc)/\Below w.heap.size w.drew (w4.alloc (.cells #[.int .u8 cc.k, .slice cc.pa cc.pl cc.pc, .string cc.key, .int .i64 cc.i, .int .i64 cc.j, .int .i64 cc.n, .int .u8 cc.v.k, .int .i64 cc.v.n, .string cc.v.s, .slice cc.v.la cc.v.ll cc.v.lc, .slice cc.v.oa cc.v.ol cc.v.oc, .string cc.s] t))/\w.heap.size<=w4.heap.size/\OneRes w.heap.size r nn (w4.alloc (.cells #[.int .u8 cc.k, .slice cc.pa cc.pl cc.pc, .string cc.key, .int .i64 cc.i, .int .i64 cc.j, .int .i64 cc.n, .int .u8 cc.v.k, .int .i64 cc.v.n, .string cc.v.s, .slice cc.v.la cc.v.ll cc.v.lc, .slice cc.v.oa cc.v.ol cc.v.oc, .string cc.s] t)) cc:=by
 have hal:uB w4 (w4.alloc (.cells #[.int .u8 cc.k, .slice cc.pa cc.pl cc.pc, .string cc.key, .int .i64 cc.i, .int .i64 cc.j, .int .i64 cc.n, .int .u8 cc.v.k, .int .i64 cc.v.n, .string cc.v.s, .slice cc.v.la cc.v.ll cc.v.lc, .slice cc.v.oa cc.v.ol cc.v.oc, .string cc.s] t)):=(Below.refl _ _).alloc (Nat.le_refl _) _
 exact ⟨BC.start w4 #[.int .u8 cc.k, .slice cc.pa cc.pl cc.pc, .string cc.key, .int .i64 cc.i, .int .i64 cc.j, .int .i64 cc.n, .int .u8 cc.v.k, .int .i64 cc.v.n, .string cc.v.s, .slice cc.v.la cc.v.ll cc.v.lc, .slice cc.v.oa cc.v.ol cc.v.oc, .string cc.s] t,h.alloc hz _,hz,ho.step hzz hal.size fun k _ hl=>hal.block k hl⟩
theorem zg5 {w w4:World} {r:Option Cm} {nn:Int} {z:Nat} (h:Below w.heap.size w.drew w4) (cc:CC) (x:BC w4 w.heap.size [.int .u8 0, .slice none 0 0, .string { data:= #[] }, .int .i64 0, .int .i64 0, .int .i64 0, .int .u8 0, .int .i64 0, .string { data:= #[] }, .slice none 0 0, .slice none 0 0, .string { data:= #[] }]) (ho:OneRes z r nn w4 cc) (hzz:w.heap.size+1<=z):BC ((((((((((((w4.setCell ⟨w.heap.size,0,none⟩ (.int .u8 cc.k)).setCell ⟨w.heap.size,1,none⟩ (.slice cc.pa cc.pl cc.pc)).setCell ⟨w.heap.size,2,none⟩ (.string cc.key)).setCell ⟨w.heap.size,3,none⟩ (.int .i64 cc.i)).setCell ⟨w.heap.size,4,none⟩ (.int .i64 cc.j)).setCell ⟨w.heap.size,5,none⟩ (.int .i64 cc.n)).setCell ⟨w.heap.size,6,none⟩ (.int .u8 cc.v.k)).setCell ⟨w.heap.size,7,none⟩ (.int .i64 cc.v.n)).setCell ⟨w.heap.size,8,none⟩ (.string cc.v.s)).setCell ⟨w.heap.size,9,none⟩ (.slice cc.v.la cc.v.ll cc.v.lc)).setCell ⟨w.heap.size,10,none⟩ (.slice cc.v.oa cc.v.ol cc.v.oc)).setCell ⟨w.heap.size,11,none⟩ (.string cc.s)) w.heap.size (ccells cc)/\Below w.heap.size w.drew ((((((((((((w4.setCell ⟨w.heap.size,0,none⟩ (.int .u8 cc.k)).setCell ⟨w.heap.size,1,none⟩ (.slice cc.pa cc.pl cc.pc)).setCell ⟨w.heap.size,2,none⟩ (.string cc.key)).setCell ⟨w.heap.size,3,none⟩ (.int .i64 cc.i)).setCell ⟨w.heap.size,4,none⟩ (.int .i64 cc.j)).setCell ⟨w.heap.size,5,none⟩ (.int .i64 cc.n)).setCell ⟨w.heap.size,6,none⟩ (.int .u8 cc.v.k)).setCell ⟨w.heap.size,7,none⟩ (.int .i64 cc.v.n)).setCell ⟨w.heap.size,8,none⟩ (.string cc.v.s)).setCell ⟨w.heap.size,9,none⟩ (.slice cc.v.la cc.v.ll cc.v.lc)).setCell ⟨w.heap.size,10,none⟩ (.slice cc.v.oa cc.v.ol cc.v.oc)).setCell ⟨w.heap.size,11,none⟩ (.string cc.s))/\w.heap.size<=w.heap.size/\OneRes w.heap.size r nn ((((((((((((w4.setCell ⟨w.heap.size,0,none⟩ (.int .u8 cc.k)).setCell ⟨w.heap.size,1,none⟩ (.slice cc.pa cc.pl cc.pc)).setCell ⟨w.heap.size,2,none⟩ (.string cc.key)).setCell ⟨w.heap.size,3,none⟩ (.int .i64 cc.i)).setCell ⟨w.heap.size,4,none⟩ (.int .i64 cc.j)).setCell ⟨w.heap.size,5,none⟩ (.int .i64 cc.n)).setCell ⟨w.heap.size,6,none⟩ (.int .u8 cc.v.k)).setCell ⟨w.heap.size,7,none⟩ (.int .i64 cc.v.n)).setCell ⟨w.heap.size,8,none⟩ (.string cc.v.s)).setCell ⟨w.heap.size,9,none⟩ (.slice cc.v.la cc.v.ll cc.v.lc)).setCell ⟨w.heap.size,10,none⟩ (.slice cc.v.oa cc.v.ol cc.v.oc)).setCell ⟨w.heap.size,11,none⟩ (.string cc.s)) cc:=by
 have st:=Y9 w4 w.heap.size cc
 exact ⟨Zt (c0:=czero) x cc,Below.setC h (Nat.le_refl _) cc,Nat.le_refl _,ho.step (by omega) st.size fun k hk hl=>st.block k hl (by omega)⟩
structure AH (w wr:World) (v0:V) (l:List Ac) (j:Nat) (x:V) (cx:VC) (u:Value) (xs:List Cm) (cs:List CC):Prop where
 rd:xs++aimP x (l.drop j)=aimP v0 l
 cen:cs.length=xs.length
 few:xs.length<=j
 wt:x.weight<=20000+20100*j
 box:BC wr w.heap.size (vcells cx)
 val:IsVal (only (fun k=>k≠w.heap.size/\some k≠u.ownBlock) wr) wr.heap.size x cx
 row:RowC wr (w.heap.size+1) u xs cs
 below:Below w.heap.size w wr
theorem AH.start {w:World} {v0:V} {c:VC} {t:TypeId} (l:List Ac) (hv:IsVal w w.heap.size v0 c) (hw:v0.weight<=20000):AH w (w.alloc (.cells #[.int .u8 c.k, .int .i64 c.n, .string c.s, .slice c.la c.ll c.lc, .slice c.oa c.ol c.oc] t)) v0 l 0 v0 c (.slice none 0 0) [] [] :=by
 have hal:uB w (w.alloc (.cells #[.int .u8 c.k, .int .i64 c.n, .string c.s, .slice c.la c.ll c.lc, .slice c.oa c.ol c.oc] t)):=(Below.refl _ _).alloc (Nat.le_refl _) _
 exact ⟨rfl,rfl,Nat.le_refl _,by omega,BC.start _ _ _,(hv.sub fun b o u hb hc=>Z0 ⟨by omega,by simp [Value.ownBlock]⟩ ((World.cell?_of_block (hal.block b hb)).trans hc)).more hal.size,Row.nil _ _ _ _ _,hal⟩
theorem AH.skip {w wr W:World} {v0:V} {l:List Ac} {j:Nat} {x:V} {cx:VC} {u:Value} {xs:List Cm} {cs:List CC} (h:AH w wr v0 l j x cx u xs cs) (hb:uB wr W) (hrd:aimP x (l.drop j)=aimP x (l.drop (j+1))):AH w W v0 l (j+1) x cx u xs cs:=
 ⟨by rw [<-hrd];exact h.rd,h.cen,by have:=h.few;omega,by have:=h.wt;omega,h.box.keep hb h.box.lt,Yc h.val rfl hb.size fun k hk hl=>⟨hk,hb.block k hl⟩,h.row.later (PC.closed _ _) (.of_below w.heap.size hb) (by omega),h.below.trans (hb.mono h.below.size)⟩
structure AM (w wr W:World) (x y:V) (cm:Cm) (cy:VC) (cc:CC) (u:Value) (xs:List Cm) (cs:List CC):Prop where
 box:BC W w.heap.size (vcells cy)
 val:IsVal (only (fun k=>wr.heap.size<=k) W) W.heap.size y cy
 cmp:IsComp (only (fun k=>wr.heap.size<=k) W) W.heap.size cm cc
 row:RowC W (w.heap.size+1) u xs cs
 below:Below w.heap.size w W
theorem AH.mid {w wr W5 W6:World} {v0:V} {l:List Ac} {j:Nat} {x y:V} {cx cy:VC} {u:Value} {xs:List Cm} {cs:List CC} {cm:Cm} {cc:CC} (h:AH w wr v0 l j x cx u xs cs) (hb:uB wr W5) (hc:IsComp (only (fun k=>wr.heap.size<=k) W5) W5.heap.size cm cc) (hb6:uB W5 W6) (hy:IsVal (only (fun k=>W5.heap.size<=k) W6) W6.heap.size y cy) (o:Obj):
 AM w wr ((setV W6 w.heap.size 0 cy).alloc o) x y cm cy cc u xs cs:=by
 have st:=Zi W6 w.heap.size 0 cy
 have hal:uB (setV W6 w.heap.size 0 cy) ((setV W6 w.heap.size 0 cy).alloc o):=(Below.refl _ _).alloc (Nat.le_refl _) _
 have hlo:=h.box.lt
 have hz1:=hb.size;have hz2:=hb6.size;have hz3:=st.size;have hz4:=hal.size
 have hbA:uB wr W6:=hb.trans (hb6.mono hz1)
 have sA:RStep W6 ((setV W6 w.heap.size 0 cy).alloc o) w.heap.size:=st.trans (RStep.of_below _ hal)
 refine ⟨(Zy (h.box.keep hbA hlo) cy).keep hal (by omega),Yc hy rfl sA.size fun k hk hl=>⟨by omega,sA.block k hl (by omega)⟩,Qg hc rfl (Nat.le_trans hz2 sA.size) fun k hk hl=>⟨hk,(sA.block k (by omega) (by omega)).trans (hb6.block k hl)⟩,(h.row.later (PC.closed _ _) (.of_below w.heap.size hbA) (by omega)).later (PC.closed _ _) sA (by omega),(Below.set5' (h.below.trans (hbA.mono (by omega))) (Nat.le_refl _) _ _ _ _ _).trans (hal.mono (by omega))⟩
theorem zj3 {a b j:Nat} (h:a<=20000+20100*j) (hw:b<=a+20100):b<=20000+20100*(j+1):=by
 rw [Nat.mul_succ, <-Nat.add_assoc];exact Nat.le_trans hw (Nat.add_le_add_right h 20100)
theorem AH.round {w wr w7 w9:World} {v0:V} {l:List Ac} {j:Nat} {x y:V} {cx cy:VC} {a:Option Addr} {m c:Nat} {xs:List Cm} {cs:List CC} {cm:Cm} {cc:CC} {g cap:Nat} {t:TypeId}
 (h:AH w wr v0 l j x cx (.slice a m c) xs cs) (hm:AM w wr w7 x y cm cy cc (.slice a m c) xs cs) (hz:wr.heap.size<=w7.heap.size) (hrd:aimP x (l.drop j)=cm::aimP y (l.drop (j+1))) (hw:y.weight<=x.weight+20100)
 (hown:w9.ownsRow (w.heap.size+1) 54 12 (.slice (some ⟨g,0,none⟩) (xs.length+1) cap) (xs.length+1) (cs.flatMap ccells++ccells cc)) (hg:(w7.alloc (.cells #[.int .u8 cc.k, .slice cc.pa cc.pl cc.pc, .string cc.key, .int .i64 cc.i, .int .i64 cc.j, .int .i64 cc.n, .int .u8 cc.v.k, .int .i64 cc.v.n, .string cc.v.s, .slice cc.v.la cc.v.ll cc.v.lc, .slice cc.v.oa cc.v.ol cc.v.oc, .string cc.s] t)).grownBy w9 (Value.slice a m c).ownBlock)
 (hat:(Value.slice a m c).ownBlock=some g∨g=w7.heap.size+1):
 AH w w9 v0 l (j+1) y cy (.slice (some ⟨g,0,none⟩) (xs.length+1) cap) (xs++ [cm]) (cs++ [cc]):=by
 have hrlt:∀b,(Value.slice a m c).ownBlock=some b->w.heap.size+1<=b/\b<wr.heap.size:=h.row.lt
 have hba:uB w7 (w7.alloc (.cells #[.int .u8 cc.k, .slice cc.pa cc.pl cc.pc, .string cc.key, .int .i64 cc.i, .int .i64 cc.j, .int .i64 cc.n, .int .u8 cc.v.k, .int .i64 cc.v.n, .string cc.v.s, .slice cc.v.la cc.v.ll cc.v.lc, .slice cc.v.oa cc.v.ol cc.v.oc, .string cc.s] t)):=(Below.refl _ _).alloc (Nat.le_refl _) _
 have hgb:Below (w.heap.size+1) (w7.alloc (.cells #[.int .u8 cc.k, .slice cc.pa cc.pl cc.pc, .string cc.key, .int .i64 cc.i, .int .i64 cc.j, .int .i64 cc.n, .int .u8 cc.v.k, .int .i64 cc.v.n, .string cc.v.s, .slice cc.v.la cc.v.ll cc.v.lc, .slice cc.v.oa cc.v.ol cc.v.oc, .string cc.s] t)) w9:=Zj hg (fun b hb=>(hrlt b hb).1) (by rw [World.size_alloc];have:=h.box.lt;omega)
 have hlt:=h.box.lt
 have hb79:Below (w.heap.size+1) w7 w9:=(hba.mono (by omega)).trans hgb
 obtain ⟨s1,s2⟩:=PC.snoc (l:=xs) (cs:=cs) h.cen cm cc
 have hnew:PC (xs++ [cm]) (cs++ [cc]) (only (Free (w.heap.size+1) (.slice a m c)) w7) w7.heap.size xs.length:=s1 _ _ (hm.cmp.sub (Ze fun b hb _=>⟨⟨by omega,fun e=>by have:=(hrlt b e.symm).2;omega⟩,rfl⟩))
 have hpush:=Row.push (PC.closed (xs++ [cm]) (cs++ [cc])) hm.row hba hg (u':= .slice (some ⟨g,0,none⟩) (xs.length+1) cap) (news:=ccells cc) hown (by
  rcases hat with e|e
  .left;rw [e];rfl
  .right;intro b hb;have:g=b:=by simpa [Value.ownBlock] using hb
   omega) hnew s2
 refine ⟨?_,by simp [h.cen],by rw [List.length_append,List.length_singleton];have:=h.few;omega,zj3 h.wt hw,hm.box.keep hb79 (by omega), ?_, ?_,hm.below.trans (hb79.mono (by omega))⟩
 .rw [<-h.rd,hrd,List.append_assoc];rfl
 .refine Yc hm.val rfl hb79.size fun k hk hl=>⟨⟨by omega,fun e=> ?_⟩, ?_⟩
  .have e2:k=g:=by simpa [Value.ownBlock] using e
   rcases hat with e3|e3
   .have:=(hrlt g e3).2;omega
   .omega
  .refine (hg.block k (by simp;omega) fun e=> ?_).trans (hba.block k hl)
   have:=(hrlt k e.symm).2;omega
 .show Row _ _ _ _ _ _ _ _
  rw [Yf,List.length_append,List.length_singleton]
  exact hpush
theorem Km (w:World) (d:CC) (t:TypeId):∀j u,(ccells d)[j]? =some u->(w.alloc (.cells #[.int .u8 d.k, .slice d.pa d.pl d.pc, .string d.key, .int .i64 d.i, .int .i64 d.j, .int .i64 d.n, .int .u8 d.v.k, .int .i64 d.v.n, .string d.v.s, .slice d.v.la d.v.ll d.v.lc, .slice d.v.oa d.v.ol d.v.oc, .string d.s] t)).cell? ((⟨w.heap.size,0,none⟩:Addr).add j)=some u:=
 World.news_of_block (t:=t) (fr:=(0,0)) (heap_alloc_new w (.cells #[.int .u8 d.k, .slice d.pa d.pl d.pc, .string d.key, .int .i64 d.i, .int .i64 d.j, .int .i64 d.n, .int .u8 d.v.k, .int .i64 d.v.n, .string d.v.s, .slice d.v.la d.v.ll d.v.lc, .slice d.v.oa d.v.ol d.v.oc, .string d.s] t))
def AimPost (w:World) (l:List Cm) (e:Ending) (w':World):Prop:=
 (∃a n c,e= .returned (.slice a n c)/\IsComps (only (fun b=>w.heap.size<=b) w') w'.heap.size l a n c)/\Below w.heap.size w w'
end Go.Proofs.YtbgheehjfnoiiaaGreatDoor
