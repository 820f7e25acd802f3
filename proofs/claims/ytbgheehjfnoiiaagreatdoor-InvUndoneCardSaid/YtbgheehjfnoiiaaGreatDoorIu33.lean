/- Walks. -/
import Derived.Test.YtbgheehjfnoiiaaGreatDoorIu29
import Derived.Test.YtbgheehjfnoiiaaGreatDoorIu32
namespace Go.Proofs.YtbgheehjfnoiiaaGreatDoor
open Go.RowKit
set_option maxRecDepth 100000
set_option maxHeartbeats 16000000
structure OZ (w w1 W:World) (R:Option Cm) (p:List St) (pa:Option Addr) (k pc yb:Nat):Prop where
 box:∃(d:CC) (x:V),R=some (cmOf p x d)/\d.pa=pa/\d.pl=k/\d.pc=pc/\d.Bnd/\BC W yb (ccells d)/\IsVal (only (fun b=>w.heap.size+3<=b) W) W.heap.size x d.v
 r:BC W (w.heap.size+1+1) (ccells czero)
 below:Below w.heap.size w W
 b1:Below w1.heap.size w1 W
theorem OZ.store {w w1 W5:World} {R:Option Cm} {p:List St} {pa:Option Addr} {k pc yb:Nat} {d c0:CC} {x:V} (hR:R=some (cmOf p x d)) (e1:d.pa=pa) (e2:d.pl=k) (e3:d.pc=pc) (hd:d.Bnd) (hc:BC W5 yb (ccells c0)) (hyb:w1.heap.size<=yb) (hlo:w.heap.size+3<=w1.heap.size) (hv:IsVal (only (fun b=>yb+1<=b) W5) W5.heap.size x d.v) (hr:BC W5 (w.heap.size+1+1) (ccells czero)) (hb:uB w W5) (hb1:uB w1 W5):OZ w w1 (setC W5 yb d) R p pa k pc yb:=by have st:=Yk W5 yb d;exact ⟨⟨d,x,hR,e1,e2,e3,hd,Zp hc d,Zy hv rfl st.size fun k hk hl=>⟨by omega,st.block k hl (by omega)⟩⟩,hr.next st (by omega),Below.setC hb (by omega) d,Below.setC hb1 (by omega) d⟩
theorem zng (n:Nat) (a:AC) (c:CC):(textA n a c).pa=c.pa/\(textA n a c).pl=c.pl/\(textA n a c).pc=c.pc/\(textA n a c).v=c.v:=by unfold textA;split<;>exact ⟨rfl,rfl,rfl,rfl⟩
theorem zjg (n:Nat) (a:AC) (bs:List UInt8) (tl:List Tk) (p:List St) (x:V) (pa:Option Addr) (k pc:Nat):cmOf p x (textA n (Ac.bare ⟨bs,a.k,a.i,a.j,a.n,a.s,tl⟩) czero)=cmOf p x (textA n a (pathC pa k pc)):=by
 unfold textA;by_cases h:0<n/\a.k % 2=0
 .rw [if_pos h,if_pos (show 0<n/\(Ac.bare ⟨bs,a.k,a.i,a.j,a.n,a.s,tl⟩).k % 2=0 from h)];rfl
 .rw [if_neg h,if_neg (show ¬(0<n/\(Ac.bare ⟨bs,a.k,a.i,a.j,a.n,a.s,tl⟩).k % 2=0) from h)];rfl
theorem zf9 (n:Nat) (a:AC) (bs:List UInt8) (tl:List Tk) (p:List St) (x:V) (pa:Option Addr) (k pc:Nat) (cv:VC):cmOf p x (listA n (Ac.bare ⟨bs,a.k,a.i,a.j,a.n,a.s,tl⟩) czero vzero)=cmOf p x (listA n a (pathC pa k pc) cv):=rfl
theorem zph (o:List (ByteArray×V)) (a:AC) (bs:List UInt8) (tl:List Tk) (p:List St) (x:V) (pa:Option Addr) (k pc:Nat) (cv:VC):cmOf p x (fieldA o (Ac.bare ⟨bs,a.k,a.i,a.j,a.n,a.s,tl⟩) czero vzero)=cmOf p x (fieldA o a (pathC pa k pc) cv):=rfl
theorem znq (v:V) (p:List St):(xAt v p).weight<=v.weight:=by
 unfold xAt;have h1:1<=v.weight:=by cases v;simp only [V.weight];omega
 cases h:getP v p with
 |none=>show V.none.weight<=_;rw [Kd];exact h1
 |some x=>exact Z0 p h
theorem zg1 (w:World) (vk vn:Int) (vs:ByteArray) (la:Option Addr) (ll lc:Nat) (oa:Option Addr) (ol oc:Nat) (v:V) (hv:IsVal w w.heap.size v ⟨vk,vn,vs,la,ll,lc,oa,ol,oc⟩) (hw:v.weight<=100000000) (a:AC) (ac:Ac) (ha:IsAct w w.heap.size ac a):
 uP 32 #[.agg (uU vk vn vs la ll lc oa ol oc), .agg (uA a)] w (OnePost w (oneC v ac)):=by
 delta uU uA uP
 cases ha with
 |mk _ bs tl hab hbs htk=>
 obtain ⟨P0,hP0⟩:∃P0,walkP v (bs.take 8)=P0:=⟨_,rfl⟩;have HW:Hid (∀W,uB w W->uP 57 #[.agg (uU vk vn vs la ll lc oa ol oc), .slice a.pa a.pl a.pc] W (WalkPost W P0)):=fun W hW=>by rw [<-hP0];exact zij W _ _ _ _ _ _ _ _ _ v (hv.later_ hW) bs _ _ _ (hbs.later6 hW)
 have HG:Hid (∀W pa q n c,uB w W->IsSteps W W.heap.size q pa n c->uP 58 #[.agg (uU vk vn vs la ll lc oa ol oc), .slice pa n c] W (GetPost W (getP v q))):=fun W pa q n c hW hq=>X8 W _ _ _ _ _ _ _ _ _ v (hv.later_ hW) q pa n c hq;have HB:=qh (OH0.start w ⟨vk,vn,vs,la,ll,lc,oa,ol,oc⟩ a 29 70 54);have HTK:=qh htk;obtain ⟨R,hR⟩:∃R,oneC v ⟨bs,a.k,a.i,a.j,a.n,a.s,tl⟩=R:=⟨_,rfl⟩;rw [hR];have HR:=qh hR;have HP0:=qh hP0;have HAB:=qh hab;clear hR hP0 hv hbs htk hab;go_enter Tryz.func32,Tryz.ntmps32
 generalize hQ0:bodyPost _ _ _=Q0;have HQ:=qh hQ0;clear hQ0;go_wp2_with fail;refine (HW.out _ HB.out.below).mono ?_;rintro e w1 ⟨⟨pa,n,pc,rfl,hst⟩,hb1⟩;have hst1:IsSteps (only (fun b=>w.heap.size+3<=b) w1) w1.heap.size P0 pa n pc:=Qi hst rfl (zza _) fun k hk _=>⟨by simpa using hk,rfl⟩;have hlo1:w.heap.size+3<=w1.heap.size:=by have:=hb1.size;simp at this;omega
 have B1:=HB.out.next hb1 (by simp);obtain ⟨v0,v1,v2,v3,v4⟩:=row5 B1.v.at_;have z0:=B1.v.lt;have z1:=B1.a.lt;have z2:=B1.r.lt;have hcap:=hst1.cap;have hmx:=hst1.max;have hfw:=hst1.few;have HST:=qh hst1;have HB1:=qh B1;clear B1 hst hst1 hb1
 go_upto_if 16 with fail
 go_cut [6] from 17 to 18 (fun p wx=>w1=wx/\∃m:Nat,m<=n/\m<=5/\p= .slice pa m pc/\(n<=5->m=n)/\(5<n->m=5))
 case first=>
  by_cases h5:5<n
  .go_wp2_with fail;go_meet
   exact ⟨rfl,5,by omega,by omega,rfl,by omega,by omega⟩
  .go_wp2_with fail;go_meet
   exact ⟨rfl,n,by omega,by omega,rfl,by omega,by omega⟩
 case rest=>
 obtain ⟨rfl,m,hmn,hm5,rfl,hma,hmb⟩:=hcut;obtain ⟨P,hP⟩:∃P,P0.take m=P:=⟨_,rfl⟩;have hwp:wayP v bs=P:=by
  have hl:=HST.out.len;unfold wayP;rw [HP0.out, <-hP];by_cases h5:5<n
  .rw [hmb h5]
  .rw [hma (by omega),List.take_of_length_le (by omega),List.take_of_length_le (by omega)]
 have hPs:IsSteps (only (fun b=>w.heap.size+3<=b) w1) w1.heap.size P pa m pc:=by rw [<-hP];exact HST.out.take m hmn
 have HPL:=qh hPs.len;have HPS:=qh hPs;have HWP:=qh hwp;clear hP hPs hma hmb hwp;go_wp2_with fail;refine (HG.out w1 pa P m pc HB1.out.below (HPS.out.sub (Zl _ _ _))).mono ?_;rintro e w2 h;obtain ⟨cx,gi,rfl,hI,hb2⟩:=h.any;clear h;have O:=OH.start (t:=29) HB1.out hlo1 hI hb2;have hb3:uB w1 (w2.alloc (.cells (uV cx) 29)):=hb2.alloc hb2.size _;have hxz:w1.heap.size<=w2.heap.size:=hb2.size;go_upto_block 0 with fail
 obtain ⟨xb,hxb⟩:∃xb,w2.heap.size=xb:=⟨_,rfl⟩;rw [hxb] at O hxz ⊢;generalize hw3:w2.alloc _=w3 at O hb3 ⊢;clear hw3 hxb hI hb2 v0 v1 v2 v3 v4;have hxx:(getP v P).getD V.none=xAt v (P.take m):=by rw [HPL.out,List.take_length];rfl
 rw [hxx] at O;clear hxx;have HB3:=qh hb3;have HO:=qh O;clear O hb3;obtain ⟨T,hT⟩:∃T,trimN v P m=T:=⟨_,rfl⟩;have HT:=qh hT;clear hT
 go_cut [6] from 25 to 43 (fun p wx=>∃(k:Nat) (cy:VC),k<=m/\p= .slice pa k pc/\Hid (trimN v P k=T)/\Hid (k=T)/\Hid (uB w1 wx)/\OH w wx ⟨vk,vn,vs,la,ll,lc,oa,ol,oc⟩ a xb (xAt v (P.take k)) cy)
 case first=>
  go_wp2_with fail
  go_loopw [6] (fun p wr=>∃(k:Nat) (cy:VC),k<=m/\p= .slice pa k pc/\Hid (trimN v P k=T)/\Hid (uB w1 wr)/\OH w wr ⟨vk,vn,vs,la,ll,lc,oa,ol,oc⟩ a xb (xAt v (P.take k)) cy) (fun p _=>sliceN p)
  case atStart=>exact ⟨m,cx,zza _,rfl,HT,HB3,HO.out⟩
  case round=>
   obtain ⟨k,cy,hk,rfl,HTR,HBW,L⟩:=hrel;obtain ⟨v0,v1,v2,v3,v4⟩:=row5 L.v.at_;have x0:=L.bx.at_ 0 _ rfl;have z0:=L.v.lt;have zx:=L.bx.lt;have hkd:=zmn L.val;have kb:=(L.val.bnd).k0;have HL:=qh L;have hlo:=L.lo;clear L;by_cases hc:0<k/\cy.k<2
   .obtain ⟨hk0,hc2⟩:=hc;obtain ⟨j,rfl⟩:∃j,k=j+1:=⟨k - 1,by omega⟩;have htr:trimN v P j=T:=by have:=HTR.out;rw [trimN,if_pos (by rw [hkd];exact hc2)] at this;exact this
    have HTJ:=qh htr;have HKD:=qh hkd;clear htr hkd;go_wp2_with fail;refine (HG.out wr pa (P.take j) j pc HL.out.below (((Qi (S':=fun b=>w.heap.size+3<=b) HPS.out rfl HBW.out.size fun k hk hl=>⟨hk,HBW.out.block k hl⟩).sub (Zl _ _ _)).take j (by omega))).mono ?_;rintro e w4 h;obtain ⟨cz,gi2,rfl,hI4,hb4⟩:=h.any;clear h x0 v0 v1 v2 v3 v4;have L4:=HL.out.next hb4;obtain ⟨x0,x1,x2,x3,x4⟩:=row5 L4.bx.at_;have g0:=L4.bx.fr 0;have g1:=L4.bx.fr 1;have g2:=L4.bx.fr 2;have g3:=L4.bx.fr 3;have g4:=L4.bx.fr 4;have zx4:=L4.bx.lt;have HRD:=qh (HL.out.round hb4 hI4);have hBN:uB w1 (setV w4 xb 0 cz):=Below.set5' (HBW.out.trans (hb4.mono HBW.out.size)) hxz _ _ _ _ _;have HBN:=qh hBN;clear L4 hI4 hb4 hBN;go_wp2_with fail;go_roundw
    case rel=>exact ⟨j,cz,by omega,rfl,HTJ,HBN,HRD.out⟩
    case measure=>simp [sliceN]
   .have hend:k=T:=by
     rw [<-HTR.out]
     cases k with
     |zero=>rfl
     |succ j=>rw [trimN,if_neg (by rw [hkd];omega)]
    have HE:=qh hend;clear hend hkd;by_cases hk0:0<k
    .have hc2:¬cy.k<2:=by omega
     go_wp2_with fail;go_meet
     exact ⟨k,cy,hk,rfl,HTR,HE,HBW,HL.out⟩
    .go_wp2_with fail;go_meet
     exact ⟨k,cy,hk,rfl,HTR,HE,HBW,HL.out⟩
 case rest=>
 obtain ⟨k,cy,hkm,rfl,HTR,HKT,HBW,L⟩:=hcut;obtain ⟨p,hp⟩:∃p,P.take k=p:=⟨_,rfl⟩;have hsteps:IsSteps (only (fun b=>w.heap.size+3<=b) w1) w1.heap.size p pa k pc:=by rw [<-hp];exact HPS.out.take k hkm
 have hpath:aimPath v bs=p:=by unfold aimPath;rw [HWP.out, <-HPL.out,HT.out, <-HKT.out,hp]
 rw [hp] at L;obtain ⟨x,hx⟩:∃x,xAt v p=x:=⟨_,rfl⟩;rw [hx] at L;have hxw:x.weight<=100000000:=by rw [<-hx];exact zzl (znq v p) hw
 have hR2:oneX x p ⟨bs,a.k,a.i,a.j,a.n,a.s,tl⟩=R:=by rw [<-HR.out,oneC];dsimp only;rw [hpath,hx]
 have HST2:=qh hsteps;clear hsteps hpath hp hx HTR HKT HT HPL HWP HPS HR HP0 HST HO HG HW;obtain ⟨ck,cn,cs,lx,ox,rfl⟩:=x.eta;obtain ⟨dk,dn,ds,cla,cll,clc,coa,col,coc⟩:=cy;obtain ⟨f1,f2,f3,hbd,_,_⟩:=L.val.lists;dsimp only at f1 f2 f3;subst f1 f2 f3;have kb0:=hbd.k0;have hstr:=(V.str_weight (.mk dk dn ds lx ox)).1;have hsz:ds.size<=1000000000000:=by have:(V.mk dk dn ds lx ox).str=ds:=rfl;rw [this] at hstr;omega
 have x0:=L.bx.at_ 0 _ rfl;have zx:=L.bx.lt;have HL:=qh L;clear L hstr hbd;go_upto_block 2 with fail
 have hal:uB wc (wc.alloc (.cells #[.int .u8 0, .slice pa k pc, .string { data:= #[] }, .int .i64 0, .int .i64 0, .int .i64 0, .int .u8 0, .int .i64 0, .string { data:= #[] }, .slice none 0 0, .slice none 0 0, .string { data:= #[] }] 54)):=(zzc _ _).alloc (zza _) _;have Y:BC (wc.alloc (.cells #[.int .u8 0, .slice pa k pc, .string { data:= #[] }, .int .i64 0, .int .i64 0, .int .i64 0, .int .u8 0, .int .i64 0, .string { data:= #[] }, .slice none 0 0, .slice none 0 0, .string { data:= #[] }] 54)) wc.heap.size (ccells (pathC pa k pc)):=BC.start _ _ _;have L5:=HL.out.next hal;have hb5:uB w1 (wc.alloc (.cells #[.int .u8 0, .slice pa k pc, .string { data:= #[] }, .int .i64 0, .int .i64 0, .int .i64 0, .int .u8 0, .int .i64 0, .string { data:= #[] }, .slice none 0 0, .slice none 0 0, .string { data:= #[] }] 54)):=HBW.out.trans (hal.mono HBW.out.size);have hz5:(wc.alloc (.cells #[.int .u8 0, .slice pa k pc, .string { data:= #[] }, .int .i64 0, .int .i64 0, .int .i64 0, .int .u8 0, .int .i64 0, .string { data:= #[] }, .slice none 0 0, .slice none 0 0, .string { data:= #[] }] 54)).heap.size=wc.heap.size+1:=zzk _ _;have hyb:w1.heap.size<=wc.heap.size:=HBW.out.size;obtain ⟨yb,hyb2⟩:∃yb,wc.heap.size=yb:=⟨_,rfl⟩;generalize hw5:wc.alloc _=w5 at L5 hb5 hz5 Y ⊢;rw [hyb2] at Y hz5 hyb ⊢;clear hw5 hal hyb2 x0 zx HL HBW;obtain ⟨x0,x1,x2,x3,x4⟩:=row5 L5.bx.at_;have a0:=L5.a.at_ 0 _ rfl;have a1:=L5.a.at_ 1 _ rfl;have a2:=L5.a.at_ 2 _ rfl;have a3:=L5.a.at_ 3 _ rfl;have a4:=L5.a.at_ 4 _ rfl;have a5:=L5.a.at_ 5 _ rfl;have a6:=L5.a.at_ 6 _ rfl;obtain ⟨y0,y1,y2,y3,y4,y5,y6,y7,y8,y9,y10,y11⟩:=row12 Y.at_;have f0:=Y.fr 0;have f1:=Y.fr 1;have f2:=Y.fr 2;have f3:=Y.fr 3;have f4:=Y.fr 4;have f5:=Y.fr 5;have f6:=Y.fr 6;have f7:=Y.fr 7;have f8:=Y.fr 8;have f9:=Y.fr 9;have f10:=Y.fr 10;have f11:=Y.fr 11;have zx:=L5.bx.lt;have zy:=Y.lt;have za:=L5.a.lt;have HLX:=qh (L5.val.sub (Zl _ _ _)).lists;have HL5:=qh L5;have HB5:=qh hb5;have HY:=qh Y;have HTK5:=qh (HTK.out.later_ L5.below);have HR2:=qh hR2;clear L5 hb5 Y hR2 HTK
 go_cut [5] from 49 to 76 (fun r wx=>r= .int .i64 0/\OZ w w1 wx R p pa k pc yb)
 case first =>
  by_cases e2:dk=2
  .subst e2;go_wp2_with fail;go_meet;refine ⟨rfl,⟨⟨1,pa,k,pc, .empty,0,0,a.n,vzero, .empty⟩,V.none, ?_,rfl,rfl,rfl, ?_, ?_,Zr _ _⟩, ?_, ?_, ?_⟩
   .rw [<-HR2.out];rfl
   .have hq:=HAB.out;exact ⟨by simp,by simp,by simp,by simp,by simp,by simp,hq.n0,hq.n1,Jf,Jf⟩
   .exact (HY.out.set (i:=0) (x:= .int .u8 1) (by simp [ccells])).set (i:=5) (x:= .int .i64 a.n) (by simp [ccells])
   .exact (HL5.out.r.far (by omega)).far (by omega)
   .exact (HL5.out.below.set_ (by omega)).set_ (by omega)
   .exact (HB5.out.set_ hyb).set_ hyb
  .have g2 :(dk==2)=false:=by simp [e2]
   by_cases e3:dk=3
   .subst e3;go_wp2_with fail;refine (zf3 w5 (pathC pa k pc) a HAB.out ds.size hsz).mono ?_;rintro e w6 ⟨rfl,hb6⟩;clear x0 x1 x2 x3 x4 a0 a1 a2 a3 a4 a5 a6 y0 y1 y2 y3 y4 y5 y6 y7 y8 y9 y10 y11 f0 f1 f2 f3 f4 f5 f6 f7 f8 f9 f10 f11;have Y:=HY.out.keep hb6 zy;have f0:=Y.fr 0;have f1:=Y.fr 1;have f2:=Y.fr 2;have f3:=Y.fr 3;have f4:=Y.fr 4;have f5:=Y.fr 5;have f6:=Y.fr 6;have f7:=Y.fr 7;have f8:=Y.fr 8;have f9:=Y.fr 9;have f10:=Y.fr 10;have f11:=Y.fr 11;obtain ⟨y0,y1,y2,y3,y4,y5,y6,y7,y8,y9,y10,y11⟩:=row12 Y.at_;have zy6:=Y.lt;have hdz:=zng ds.size a (pathC pa k pc);have HOZ:Hid (OZ w w1 (setC w6 yb (textA ds.size a (pathC pa k pc))) R p pa k pc yb):=qh (OZ.store (x:=V.none) (by rw [<-HR2.out];exact congrArg some (zjg _ _ _ _ _ _ _ _ _)) hdz.1 hdz.2.1 hdz.2.2.1 (zkw hsz (Jt _ _ _)) Y hyb hlo1 (by rw [hdz.2.2.2];exact Zr _ _) (HL5.out.r.keep hb6 HL5.out.r.lt) (HL5.out.below.trans (hb6.mono HL5.out.below.size)) (HB5.out.trans (hb6.mono HB5.out.size)));clear Y hdz;generalize textA ds.size a (pathC pa k pc)=d at HOZ ⊢;go_wp2_with fail;go_meet;exact ⟨rfl,HOZ.out⟩
   .have g3:(dk==3)=false:=by simp [e3]
    by_cases e4:dk=4
    .subst e4;obtain ⟨_,_,_,_,hvl,_⟩:=HLX.out;dsimp only at hvl;have hll:=hvl.len;have hfl:=hvl.few;have hwl:=(V.str_weight (.mk 4 dn ds lx ox)).2.1;have hln:cll<=1466015503700:=by have:(V.mk 4 dn ds lx ox).ls=lx:=rfl;rw [this] at hwl;omega
     have HLL:=qh hll;clear hll hvl hwl;go_wp2_with fail;refine (zox w5 (pathC pa k pc) rfl a HAB.out cll hfl tl HTK5.out).mono ?_;rintro e w6 ⟨⟨cv,rfl,hI6⟩,hb6⟩;clear x0 x1 x2 x3 x4 a0 a1 a2 a3 a4 a5 a6 y0 y1 y2 y3 y4 y5 y6 y7 y8 y9 y10 y11 f0 f1 f2 f3 f4 f5 f6 f7 f8 f9 f10 f11;have Y:=HY.out.keep hb6 zy;have f0:=Y.fr 0;have f1:=Y.fr 1;have f2:=Y.fr 2;have f3:=Y.fr 3;have f4:=Y.fr 4;have f5:=Y.fr 5;have f6:=Y.fr 6;have f7:=Y.fr 7;have f8:=Y.fr 8;have f9:=Y.fr 9;have f10:=Y.fr 10;have f11:=Y.fr 11;obtain ⟨y0,y1,y2,y3,y4,y5,y6,y7,y8,y9,y10,y11⟩:=row12 Y.at_;have zy6:=Y.lt;have HOZ:Hid (OZ w w1 (setC w6 yb (listA cll a (pathC pa k pc) cv)) R p pa k pc yb):=qh (OZ.store (x:=listV cll a.k tl) (by rw [<-HR2.out,HLL.out];exact congrArg some (zf9 _ _ _ _ _ _ _ _ _ _)) rfl rfl rfl (zin hln (Jt _ _ _) _) Y hyb hlo1 (hI6.sub (Zc fun k hk _=>⟨by omega,rfl⟩)) (HL5.out.r.keep hb6 HL5.out.r.lt) (HL5.out.below.trans (hb6.mono HL5.out.below.size)) (HB5.out.trans (hb6.mono HB5.out.size)));clear Y hI6;generalize listA cll a (pathC pa k pc) cv=d at HOZ ⊢;go_wp2_with fail;go_meet;exact ⟨rfl,HOZ.out⟩
    .have g4:(dk==4)=false:=by simp [e4]
     by_cases e5:dk=5
     .subst e5;obtain ⟨_,_,_,_,_,hvo⟩:=HLX.out;dsimp only at hvo;have HVO:=qh hvo;clear hvo;go_wp2_with fail;refine (zog w5 (pathC pa k pc) rfl a HAB.out ⟨5,dn,ds,cla,cll,clc,coa,col,coc⟩ ox HVO.out tl HTK5.out).mono ?_;rintro e w6 ⟨⟨cv,rfl,hI6⟩,hb6⟩;clear x0 x1 x2 x3 x4 a0 a1 a2 a3 a4 a5 a6 y0 y1 y2 y3 y4 y5 y6 y7 y8 y9 y10 y11 f0 f1 f2 f3 f4 f5 f6 f7 f8 f9 f10 f11;have Y:=HY.out.keep hb6 zy;have f0:=Y.fr 0;have f1:=Y.fr 1;have f2:=Y.fr 2;have f3:=Y.fr 3;have f4:=Y.fr 4;have f5:=Y.fr 5;have f6:=Y.fr 6;have f7:=Y.fr 7;have f8:=Y.fr 8;have f9:=Y.fr 9;have f10:=Y.fr 10;have f11:=Y.fr 11;obtain ⟨y0,y1,y2,y3,y4,y5,y6,y7,y8,y9,y10,y11⟩:=row12 Y.at_;have zy6:=Y.lt;have HOZ:Hid (OZ w w1 (setC w6 yb (fieldA ox a (pathC pa k pc) cv)) R p pa k pc yb):=qh (OZ.store (x:=fieldV ox a tl) (by rw [<-HR2.out];exact congrArg some (zph _ _ _ _ _ _ _ _ _ _)) rfl rfl rfl (zl2 HVO.out (Jt _ _ _) _) Y hyb hlo1 (hI6.sub (Zc fun k hk _=>⟨by omega,rfl⟩)) (HL5.out.r.keep hb6 HL5.out.r.lt) (HL5.out.below.trans (hb6.mono HL5.out.below.size)) (HB5.out.trans (hb6.mono HB5.out.size)));clear Y hI6;generalize fieldA ox a (pathC pa k pc) cv=d at HOZ ⊢;go_wp2_with fail;go_meet;exact ⟨rfl,HOZ.out⟩
     .have g5:(dk==5)=false:=by simp [e5]
      have hRn:R=none:=by have hkd:(V.mk dk dn ds lx ox).kd=dk:=rfl;rw [<-HR2.out,oneX,hkd,if_neg e2,if_neg e3,if_neg e4,if_neg e5]
      have HRN:=qh hRn;clear hRn;obtain ⟨r0,r1,r2,r3,r4,r5,r6,r7,r8,r9,r10,r11⟩:=row12 HL5.out.r.at_;have rf0:=HL5.out.r.fr 0;have rf1:=HL5.out.r.fr 1;have rf2:=HL5.out.r.fr 2;have rf3:=HL5.out.r.fr 3;have rf4:=HL5.out.r.fr 4;have rf5:=HL5.out.r.fr 5;have rf6:=HL5.out.r.fr 6;have rf7:=HL5.out.r.fr 7;have rf8:=HL5.out.r.fr 8;have rf9:=HL5.out.r.fr 9;have rf10:=HL5.out.r.fr 10;have rf11:=HL5.out.r.fr 11;have zr:=HL5.out.r.lt;go_wp2_with fail;rw [<-HQ.out,HRN.out];exact zo9 (d:=pathC pa k pc) HL5.out.r (Qi (S':=fun b=>w.heap.size+3<=b) HST2.out rfl HB5.out.size fun k hk hl=>⟨hk,HB5.out.block k hl⟩) (Zr _ _) (Jt _ _ _) rfl HL5.out.below rfl rfl rfl
 case rest=>
 clear x0 x1 x2 x3 x4 a0 a1 a2 a3 a4 a5 a6 y0 y1 y2 y3 y4 y5 y6 y7 y8 y9 y10 y11 f0 f1 f2 f3 f4 f5 f6 f7 f8 f9 f10 f11;rename_i wz;obtain ⟨rfl,Z⟩:=hcut;obtain ⟨d,y,hRd,e1,e2,e3,hdb,Y,hyv⟩:=Z.box;obtain ⟨y0,y1,y2,y3,y4,y5,y6,y7,y8,y9,y10,y11⟩:=row12 Y.at_;obtain ⟨r0,r1,r2,r3,r4,r5,r6,r7,r8,r9,r10,r11⟩:=row12 Z.r.at_;have rf0:=Z.r.fr 0;have rf1:=Z.r.fr 1;have rf2:=Z.r.fr 2;have rf3:=Z.r.fr 3;have rf4:=Z.r.fr 4;have rf5:=Z.r.fr 5;have rf6:=Z.r.fr 6;have rf7:=Z.r.fr 7;have rf8:=Z.r.fr 8;have rf9:=Z.r.fr 9;have rf10:=Z.r.fr 10;have rf11:=Z.r.fr 11;have zr:=Z.r.lt;have zy6:=Y.lt;have hst:=Qi (S':=fun b=>w.heap.size+3<=b) HST2.out rfl Z.b1.size fun k hk hl=>⟨hk,Z.b1.block k hl⟩;rw [<-e1, <-e2, <-e3] at hst;have HS:=qh hst;have HZ:=qh Z;have HDB:=qh hdb;have HYV:=qh hyv;have HRD:=qh hRd;clear hst Z hdb hyv Y hRd e1 e2 e3;go_wp2_with fail;rw [<-HQ.out,HRD.out];exact zm0 HZ.out.r HS.out HYV.out HZ.out.below HDB.out rfl rfl rfl
end Go.Proofs.YtbgheehjfnoiiaaGreatDoor
