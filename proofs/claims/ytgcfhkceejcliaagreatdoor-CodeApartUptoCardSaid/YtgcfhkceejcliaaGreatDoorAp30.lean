/-
  Contracts of the functions that the law reaches: conciliatorlaw06.One: a component that may be done to a value. conciliatorref06.Do: an object. conciliatorref06.Do: a text.
-/
import Derived.Test.YtgcfhkceejcliaaGreatDoorAp28
import Derived.Test.YtgcfhkceejcliaaGreatDoorAp29
import Derived.Test.YtgcfhkceejcliaaGreatDoorAp4
import Derived.Test.YtgcfhkceejcliaaGreatDoorAp24
import Derived.Deep.CutBlock
namespace Go.Proofs.YtgcfhkceejcliaaGreatDoor
open Go.RowKit
structure OZ (w w1 W:World) (R:Option Cm) (p:List St) (pa:Option Addr) (k pc yb:Nat):Prop where
  box:∃(d:CC) (x:V),R=some (cmOf p x d)∧d.pa=pa∧d.pl=k∧d.pc=pc∧d.Bnd∧BC W yb (ccells d)∧IsVal (only (fun b=>w.heap.size+3≤b) W) W.heap.size x d.v
  r:BC W (w.heap.size+1+1) (ccells czero)
  below:Below w.heap.size w W
  b1:Below w1.heap.size w1 W
theorem OZ.store {w w1 W5:World} {R:Option Cm} {p:List St} {pa:Option Addr} {k pc yb:Nat} {d c0:CC} {x:V} (hR:R=some (cmOf p x d)) (e1:d.pa=pa) (e2:d.pl=k) (e3:d.pc=pc) (hd:d.Bnd) (hc:BC W5 yb (ccells c0)) (hyb:w1.heap.size≤yb) (hlo:w.heap.size+3≤w1.heap.size) (hv:IsVal (only (fun b=>yb+1≤b) W5) W5.heap.size x d.v) (hr:BC W5 (w.heap.size+1+1) (ccells czero)) (hb:Below w.heap.size w W5) (hb1:Below w1.heap.size w1 W5):OZ w w1 (setC W5 yb d) R p pa k pc yb:=by
  have st:=setC_st W5 yb d
  exact ⟨⟨d,x,hR,e1,e2,e3,hd,bc_storeC hc d,isVal_S hv rfl st.size fun k hk hl=>⟨by omega,st.block k hl (by omega)⟩⟩,hr.next st (by omega),Below.setC hb (by omega) d,Below.setC hb1 (by omega) d⟩
theorem textA_path (n:Nat) (a:AC) (c:CC):(textA n a c).pa=c.pa∧(textA n a c).pl=c.pl∧(textA n a c).pc=c.pc∧(textA n a c).v=c.v:=by
  unfold textA;split<;>exact ⟨rfl,rfl,rfl,rfl⟩
theorem textA_same (n:Nat) (a:AC) (bs:List UInt8) (tl:List Tk) (p:List St) (x:V) (pa:Option Addr) (k pc:Nat):cmOf p x (textA n (Ac.bare ⟨bs,a.k,a.i,a.j,a.n,a.s,tl⟩) czero)=cmOf p x (textA n a (pathC pa k pc)):=by
  unfold textA
  by_cases h:0<n∧a.k % 2=0
  · rw [if_pos h,if_pos (show 0<n∧(Ac.bare ⟨bs,a.k,a.i,a.j,a.n,a.s,tl⟩).k % 2=0 from h)];rfl
  · rw [if_neg h,if_neg (show ¬(0<n∧(Ac.bare ⟨bs,a.k,a.i,a.j,a.n,a.s,tl⟩).k % 2=0) from h)];rfl
theorem listA_same (n:Nat) (a:AC) (bs:List UInt8) (tl:List Tk) (p:List St) (x:V) (pa:Option Addr) (k pc:Nat) (cv:VC):cmOf p x (listA n (Ac.bare ⟨bs,a.k,a.i,a.j,a.n,a.s,tl⟩) czero vzero)=cmOf p x (listA n a (pathC pa k pc) cv):=rfl
theorem fieldA_same (o:List (ByteArray×V)) (a:AC) (bs:List UInt8) (tl:List Tk) (p:List St) (x:V) (pa:Option Addr) (k pc:Nat) (cv:VC):cmOf p x (fieldA o (Ac.bare ⟨bs,a.k,a.i,a.j,a.n,a.s,tl⟩) czero vzero)=cmOf p x (fieldA o a (pathC pa k pc) cv):=rfl
theorem xAt_weight (v:V) (p:List St):(xAt v p).weight≤v.weight:=by
  unfold xAt
  have h1:1≤v.weight:=by cases v;simp only [V.weight];omega
  cases h:getP v p with
  |none=>show V.none.weight≤_;rw [weight_none];exact h1
  |some x=>exact getP_weight p h
set_option maxHeartbeats 16000000 in
set_option maxRecDepth 100000 in
theorem one6_any (w:World) (vk vn:Int) (vs:ByteArray) (la:Option Addr) (ll lc:Nat) (oa:Option Addr) (ol oc:Nat) (v:V) (hv:IsVal w w.heap.size v ⟨vk,vn,vs,la,ll,lc,oa,ol,oc⟩) (hw:v.weight≤100000000) (a:AC) (ac:Ac) (ha:IsAct w w.heap.size ac a):
    Calls Tryz.prog 42 #[.agg #[.int .u8 vk, .int .i64 vn, .string vs, .slice la ll lc, .slice oa ol oc], .agg #[.slice a.pa a.pl a.pc, .int .u8 a.k, .int .i64 a.i, .int .i64 a.j, .int .i64 a.n, .string a.s, .slice a.va a.vl a.vc]] w (OnePost w (oneC v ac)):=by
  cases ha with
  |mk _ bs tl hab hbs htk=>
  obtain ⟨P0,hP0⟩:∃P0,walkP v (bs.take 8)=P0:=⟨_,rfl⟩
  have HW:Hid (∀W,Below w.heap.size w W→Calls Tryz.prog 77 #[.agg #[.int .u8 vk, .int .i64 vn, .string vs, .slice la ll lc, .slice oa ol oc], .slice a.pa a.pl a.pc] W (WalkPost W P0)):=fun W hW=>by rw [←hP0];exact walk_any W _ _ _ _ _ _ _ _ _ v (hv.later_ hW) bs _ _ _ (hbs.later6 hW)
  have HG:Hid (∀W pa q n c,Below w.heap.size w W→IsSteps W W.heap.size q pa n c→Calls Tryz.prog 78 #[.agg #[.int .u8 vk, .int .i64 vn, .string vs, .slice la ll lc, .slice oa ol oc], .slice pa n c] W (GetPost W (getP v q))):=fun W pa q n c hW hq=>get_any W _ _ _ _ _ _ _ _ _ v (hv.later_ hW) q pa n c hq
  have HB:=Lib.hid (OH0.start w ⟨vk,vn,vs,la,ll,lc,oa,ol,oc⟩ a 33 85 63)
  have HTK:=Lib.hid htk
  obtain ⟨R,hR⟩:∃R,oneC v ⟨bs,a.k,a.i,a.j,a.n,a.s,tl⟩=R:=⟨_,rfl⟩
  rw [hR]
  have HR:=Lib.hid hR
  have HP0:=Lib.hid hP0
  have HAB:=Lib.hid hab
  clear hR hP0 hv hbs htk hab
  go_enter Tryz.func42,Tryz.ntmps42
  generalize hQ0:bodyPost _ _ _=Q0
  have HQ:=Lib.hid hQ0
  clear hQ0
  go_wp2_with fail
  refine (HW.out _ HB.out.below).mono ?_
  rintro e w1 ⟨⟨pa,n,pc,rfl,hst⟩,hb1⟩
  have hst1:IsSteps (only (fun b=>w.heap.size+3≤b) w1) w1.heap.size P0 pa n pc:=isSteps_S hst rfl (Nat.le_refl _) fun k hk _=>⟨by simpa using hk,rfl⟩
  have hlo1:w.heap.size+3≤w1.heap.size:=by have:=hb1.size;simp at this;omega
  have B1:=HB.out.next hb1 (by simp)
  obtain ⟨v0,v1,v2,v3,v4⟩:=row5 B1.v.at_
  have z0:=B1.v.lt;have z1:=B1.a.lt;have z2:=B1.r.lt
  have hcap:=hst1.cap;have hmx:=hst1.max;have hfw:=hst1.few
  have HST:=Lib.hid hst1
  have HB1:=Lib.hid B1
  clear B1 hst hst1 hb1
  go_upto_if 16 with fail
  go_cut [6] from 17 to 18 (fun p wx=>w1=wx∧∃m:Nat,m≤n∧m≤5∧p= .slice pa m pc∧(n≤5→m=n)∧(5<n→m=5))
  case first=>
    by_cases h5:5<n
    · go_wp2_with fail
      go_meet
      exact ⟨rfl,5,by omega,by omega,rfl,by omega,by omega⟩
    · go_wp2_with fail
      go_meet
      exact ⟨rfl,n,by omega,by omega,rfl,by omega,by omega⟩
  case rest=>
  obtain ⟨rfl,m,hmn,hm5,rfl,hma,hmb⟩:=hcut
  obtain ⟨P,hP⟩:∃P,P0.take m=P:=⟨_,rfl⟩
  have hwp:wayP v bs=P:=by
    have hl:=HST.out.len
    unfold wayP
    rw [HP0.out, ←hP]
    by_cases h5:5<n
    · rw [hmb h5]
    · rw [hma (by omega),List.take_of_length_le (by omega),List.take_of_length_le (by omega)]
  have hPs:IsSteps (only (fun b=>w.heap.size+3≤b) w1) w1.heap.size P pa m pc:=by rw [←hP];exact HST.out.take m hmn
  have HPL:=Lib.hid hPs.len
  have HPS:=Lib.hid hPs
  have HWP:=Lib.hid hwp
  clear hP hPs hma hmb hwp
  go_wp2_with fail
  refine (HG.out w1 pa P m pc HB1.out.below (HPS.out.sub (shows_only _ _ _))).mono ?_
  rintro e w2 h
  obtain ⟨cx,gi,rfl,hI,hb2⟩:=h.any
  clear h
  have O:=OH.start (t:=33) HB1.out hlo1 hI hb2
  have hb3:Below w1.heap.size w1 (w2.alloc (.cells #[.int .u8 cx.k, .int .i64 cx.n, .string cx.s, .slice cx.la cx.ll cx.lc, .slice cx.oa cx.ol cx.oc] 33)):=hb2.alloc hb2.size _
  have hxz:w1.heap.size≤w2.heap.size:=hb2.size
  go_upto_block 0 with fail
  obtain ⟨xb,hxb⟩:∃xb,w2.heap.size=xb:=⟨_,rfl⟩
  rw [hxb] at O hxz ⊢
  generalize hw3:w2.alloc _=w3 at O hb3 ⊢
  clear hw3 hxb hI hb2 v0 v1 v2 v3 v4
  have hxx:(getP v P).getD V.none=xAt v (P.take m):=by rw [HPL.out,List.take_length];rfl
  rw [hxx] at O
  clear hxx
  have HB3:=Lib.hid hb3
  have HO:=Lib.hid O
  clear O hb3
  obtain ⟨T,hT⟩:∃T,trimN v P m=T:=⟨_,rfl⟩
  have HT:=Lib.hid hT
  clear hT
  go_cut [6] from 25 to 43 (fun p wx=>∃(k:Nat) (cy:VC),k≤m∧p= .slice pa k pc∧Hid (trimN v P k=T)∧Hid (k=T)∧Hid (Below w1.heap.size w1 wx)∧OH w wx ⟨vk,vn,vs,la,ll,lc,oa,ol,oc⟩ a xb (xAt v (P.take k)) cy)
  case first=>
    go_wp2_with fail
    go_loopw [6] (fun p wr=>∃(k:Nat) (cy:VC),k≤m∧p= .slice pa k pc∧Hid (trimN v P k=T)∧Hid (Below w1.heap.size w1 wr)∧OH w wr ⟨vk,vn,vs,la,ll,lc,oa,ol,oc⟩ a xb (xAt v (P.take k)) cy) (fun p _=>sliceN p)
    case atStart=>exact ⟨m,cx,Nat.le_refl _,rfl,HT,HB3,HO.out⟩
    case round=>
      obtain ⟨k,cy,hk,rfl,HTR,HBW,L⟩:=hrel
      obtain ⟨v0,v1,v2,v3,v4⟩:=row5 L.v.at_
      have x0:=L.bx.at_ 0 _ rfl
      have z0:=L.v.lt;have zx:=L.bx.lt
      have hkd:=isVal_kd L.val
      have kb:=(L.val.bnd).k0
      have HL:=Lib.hid L
      have hlo:=L.lo
      clear L
      by_cases hc:0<k∧cy.k<2
      · obtain ⟨hk0,hc2⟩:=hc
        obtain ⟨j,rfl⟩:∃j,k=j+1:=⟨k - 1,by omega⟩
        have htr:trimN v P j=T:=by
          have:=HTR.out
          rw [trimN,if_pos (by rw [hkd];exact hc2)] at this
          exact this
        have HTJ:=Lib.hid htr
        have HKD:=Lib.hid hkd
        clear htr hkd
        go_wp2_with fail
        refine (HG.out wr pa (P.take j) j pc HL.out.below (((isSteps_S (S':=fun b=>w.heap.size+3≤b) HPS.out rfl HBW.out.size fun k hk hl=>⟨hk,HBW.out.block k hl⟩).sub (shows_only _ _ _)).take j (by omega))).mono ?_
        rintro e w4 h
        obtain ⟨cz,gi2,rfl,hI4,hb4⟩:=h.any
        clear h x0 v0 v1 v2 v3 v4
        have L4:=HL.out.next hb4
        obtain ⟨x0,x1,x2,x3,x4⟩:=row5 L4.bx.at_
        have g0:=L4.bx.fr 0;have g1:=L4.bx.fr 1;have g2:=L4.bx.fr 2;have g3:=L4.bx.fr 3;have g4:=L4.bx.fr 4
        have zx4:=L4.bx.lt
        have HRD:=Lib.hid (HL.out.round hb4 hI4)
        have hBN:Below w1.heap.size w1 (setV w4 xb 0 cz):=Below.set5' (HBW.out.trans (hb4.mono HBW.out.size)) hxz _ _ _ _ _
        have HBN:=Lib.hid hBN
        clear L4 hI4 hb4 hBN
        go_wp2_with fail
        go_roundw
        case rel=>exact ⟨j,cz,by omega,rfl,HTJ,HBN,HRD.out⟩
        case measure=>simp [sliceN]
      · have hend:k=T:=by
          rw [←HTR.out]
          cases k with
          |zero=>rfl
          |succ j=>rw [trimN,if_neg (by rw [hkd];omega)]
        have HE:=Lib.hid hend
        clear hend hkd
        by_cases hk0:0<k
        · have hc2:¬cy.k<2:=by omega
          go_wp2_with fail
          go_meet
          exact ⟨k,cy,hk,rfl,HTR,HE,HBW,HL.out⟩
        · go_wp2_with fail
          go_meet
          exact ⟨k,cy,hk,rfl,HTR,HE,HBW,HL.out⟩
  case rest=>
  obtain ⟨k,cy,hkm,rfl,HTR,HKT,HBW,L⟩:=hcut
  obtain ⟨p,hp⟩:∃p,P.take k=p:=⟨_,rfl⟩
  have hsteps:IsSteps (only (fun b=>w.heap.size+3≤b) w1) w1.heap.size p pa k pc:=by rw [←hp];exact HPS.out.take k hkm
  have hpath:aimPath v bs=p:=by unfold aimPath;rw [HWP.out, ←HPL.out,HT.out, ←HKT.out,hp]
  rw [hp] at L
  obtain ⟨x,hx⟩:∃x,xAt v p=x:=⟨_,rfl⟩
  rw [hx] at L
  have hxw:x.weight≤100000000:=by rw [←hx];exact Nat.le_trans (xAt_weight v p) hw
  have hR2:oneX x p ⟨bs,a.k,a.i,a.j,a.n,a.s,tl⟩=R:=by
    rw [←HR.out,oneC];dsimp only;rw [hpath,hx]
  have HST2:=Lib.hid hsteps
  clear hsteps hpath hp hx HTR HKT HT HPL HWP HPS HR HP0 HST HO HG HW
  obtain ⟨ck,cn,cs,lx,ox,rfl⟩:=x.eta
  obtain ⟨dk,dn,ds,cla,cll,clc,coa,col,coc⟩:=cy
  obtain ⟨f1,f2,f3,hbd,_,_⟩:=L.val.lists
  dsimp only at f1 f2 f3
  subst f1 f2 f3
  have kb0:=hbd.k0
  have hstr:=(V.str_weight (.mk dk dn ds lx ox)).1
  have hsz:ds.size≤1000000000000:=by have:(V.mk dk dn ds lx ox).str=ds:=rfl;rw [this] at hstr;omega
  have x0:=L.bx.at_ 0 _ rfl
  have zx:=L.bx.lt
  have HL:=Lib.hid L
  clear L hstr hbd
  go_upto_block 2 with fail
  have hal:Below wc.heap.size wc (wc.alloc (.cells #[.int .u8 0, .slice pa k pc, .string { data:= #[] }, .int .i64 0, .int .i64 0, .int .i64 0, .int .u8 0, .int .i64 0, .string { data:= #[] }, .slice none 0 0, .slice none 0 0, .string { data:= #[] }] 63)):=(Below.refl _ _).alloc (Nat.le_refl _) _
  have Y:BC (wc.alloc (.cells #[.int .u8 0, .slice pa k pc, .string { data:= #[] }, .int .i64 0, .int .i64 0, .int .i64 0, .int .u8 0, .int .i64 0, .string { data:= #[] }, .slice none 0 0, .slice none 0 0, .string { data:= #[] }] 63)) wc.heap.size (ccells (pathC pa k pc)):=BC.start _ _ _
  have L5:=HL.out.next hal
  have hb5:Below w1.heap.size w1 (wc.alloc (.cells #[.int .u8 0, .slice pa k pc, .string { data:= #[] }, .int .i64 0, .int .i64 0, .int .i64 0, .int .u8 0, .int .i64 0, .string { data:= #[] }, .slice none 0 0, .slice none 0 0, .string { data:= #[] }] 63)):=HBW.out.trans (hal.mono HBW.out.size)
  have hz5:(wc.alloc (.cells #[.int .u8 0, .slice pa k pc, .string { data:= #[] }, .int .i64 0, .int .i64 0, .int .i64 0, .int .u8 0, .int .i64 0, .string { data:= #[] }, .slice none 0 0, .slice none 0 0, .string { data:= #[] }] 63)).heap.size=wc.heap.size+1:=World.size_alloc _ _
  have hyb:w1.heap.size≤wc.heap.size:=HBW.out.size
  obtain ⟨yb,hyb2⟩:∃yb,wc.heap.size=yb:=⟨_,rfl⟩
  generalize hw5:wc.alloc _=w5 at L5 hb5 hz5 Y ⊢
  rw [hyb2] at Y hz5 hyb ⊢
  clear hw5 hal hyb2 x0 zx HL HBW
  obtain ⟨x0,x1,x2,x3,x4⟩:=row5 L5.bx.at_
  have a0:=L5.a.at_ 0 _ rfl;have a1:=L5.a.at_ 1 _ rfl;have a2:=L5.a.at_ 2 _ rfl;have a3:=L5.a.at_ 3 _ rfl;have a4:=L5.a.at_ 4 _ rfl;have a5:=L5.a.at_ 5 _ rfl;have a6:=L5.a.at_ 6 _ rfl
  obtain ⟨y0,y1,y2,y3,y4,y5,y6,y7,y8,y9,y10,y11⟩:=row12 Y.at_
  have f0:=Y.fr 0;have f1:=Y.fr 1;have f2:=Y.fr 2;have f3:=Y.fr 3;have f4:=Y.fr 4;have f5:=Y.fr 5;have f6:=Y.fr 6;have f7:=Y.fr 7;have f8:=Y.fr 8;have f9:=Y.fr 9;have f10:=Y.fr 10;have f11:=Y.fr 11
  have zx:=L5.bx.lt;have zy:=Y.lt;have za:=L5.a.lt
  have HLX:=Lib.hid (L5.val.sub (shows_only _ _ _)).lists
  have HL5:=Lib.hid L5
  have HB5:=Lib.hid hb5
  have HY:=Lib.hid Y
  have HTK5:=Lib.hid (HTK.out.later_ L5.below)
  have HR2:=Lib.hid hR2
  clear L5 hb5 Y hR2 HTK
  go_cut [5] from 49 to 76 (fun r wx=>r= .int .i64 0∧OZ w w1 wx R p pa k pc yb)
  case first =>
    by_cases e2:dk=2
    · subst e2
      go_wp2_with fail
      go_meet
      refine ⟨rfl,⟨⟨1,pa,k,pc, .empty,0,0,a.n,vzero, .empty⟩,V.none, ?_,rfl,rfl,rfl, ?_, ?_,isVal_none _ _⟩, ?_, ?_, ?_⟩
      · rw [←HR2.out];rfl
      · have hq:=HAB.out
        exact ⟨by simp,by simp,by simp,by simp,by simp,by simp,hq.n0,hq.n1,empty_small,empty_small⟩
      · exact (HY.out.set (i:=0) (x:= .int .u8 1) (by simp [ccells])).set (i:=5) (x:= .int .i64 a.n) (by simp [ccells])
      · exact (HL5.out.r.far (by omega)).far (by omega)
      · exact (HL5.out.below.set_ (by omega)).set_ (by omega)
      · exact (HB5.out.set_ hyb).set_ hyb
    · have g2 :(dk==2)=false:=by simp [e2]
      by_cases e3:dk=3
      · subst e3
        go_wp2_with fail
        refine (atext_any w5 (pathC pa k pc) a HAB.out ds.size hsz).mono ?_
        rintro e w6 ⟨rfl,hb6⟩
        clear x0 x1 x2 x3 x4 a0 a1 a2 a3 a4 a5 a6 y0 y1 y2 y3 y4 y5 y6 y7 y8 y9 y10 y11 f0 f1 f2 f3 f4 f5 f6 f7 f8 f9 f10 f11
        have Y:=HY.out.keep hb6 zy
        have f0:=Y.fr 0;have f1:=Y.fr 1;have f2:=Y.fr 2;have f3:=Y.fr 3;have f4:=Y.fr 4;have f5:=Y.fr 5;have f6:=Y.fr 6;have f7:=Y.fr 7;have f8:=Y.fr 8;have f9:=Y.fr 9;have f10:=Y.fr 10;have f11:=Y.fr 11
        obtain ⟨y0,y1,y2,y3,y4,y5,y6,y7,y8,y9,y10,y11⟩:=row12 Y.at_
        have zy6:=Y.lt
        have hdz:=textA_path ds.size a (pathC pa k pc)
        have HOZ:Hid (OZ w w1 (setC w6 yb (textA ds.size a (pathC pa k pc))) R p pa k pc yb):=Lib.hid (OZ.store (x:=V.none) (by rw [←HR2.out];exact congrArg some (textA_same _ _ _ _ _ _ _ _ _)) hdz.1 hdz.2.1 hdz.2.2.1 (textA_bnd hsz (pathC_bnd _ _ _)) Y hyb hlo1 (by rw [hdz.2.2.2];exact isVal_none _ _) (HL5.out.r.keep hb6 HL5.out.r.lt) (HL5.out.below.trans (hb6.mono HL5.out.below.size)) (HB5.out.trans (hb6.mono HB5.out.size)))
        clear Y hdz
        generalize textA ds.size a (pathC pa k pc)=d at HOZ ⊢
        go_wp2_with fail
        go_meet
        exact ⟨rfl,HOZ.out⟩
      · have g3:(dk==3)=false:=by simp [e3]
        by_cases e4:dk=4
        · subst e4
          obtain ⟨_,_,_,_,hvl,_⟩:=HLX.out
          dsimp only at hvl
          have hll:=hvl.len;have hfl:=hvl.few
          have hwl:=(V.str_weight (.mk 4 dn ds lx ox)).2.1
          have hln:cll≤1466015503700:=by have:(V.mk 4 dn ds lx ox).ls=lx:=rfl;rw [this] at hwl;omega
          have HLL:=Lib.hid hll
          clear hll hvl hwl
          go_wp2_with fail
          refine (alist_any w5 (pathC pa k pc) rfl a HAB.out cll hfl tl HTK5.out).mono ?_
          rintro e w6 ⟨⟨cv,rfl,hI6⟩,hb6⟩
          clear x0 x1 x2 x3 x4 a0 a1 a2 a3 a4 a5 a6 y0 y1 y2 y3 y4 y5 y6 y7 y8 y9 y10 y11 f0 f1 f2 f3 f4 f5 f6 f7 f8 f9 f10 f11
          have Y:=HY.out.keep hb6 zy
          have f0:=Y.fr 0;have f1:=Y.fr 1;have f2:=Y.fr 2;have f3:=Y.fr 3;have f4:=Y.fr 4;have f5:=Y.fr 5;have f6:=Y.fr 6;have f7:=Y.fr 7;have f8:=Y.fr 8;have f9:=Y.fr 9;have f10:=Y.fr 10;have f11:=Y.fr 11
          obtain ⟨y0,y1,y2,y3,y4,y5,y6,y7,y8,y9,y10,y11⟩:=row12 Y.at_
          have zy6:=Y.lt
          have HOZ:Hid (OZ w w1 (setC w6 yb (listA cll a (pathC pa k pc) cv)) R p pa k pc yb):=Lib.hid (OZ.store (x:=listV cll a.k tl) (by rw [←HR2.out,HLL.out];exact congrArg some (listA_same _ _ _ _ _ _ _ _ _ _)) rfl rfl rfl (listA_bnd hln (pathC_bnd _ _ _) _) Y hyb hlo1 (hI6.sub (shows_step fun k hk _=>⟨by omega,rfl⟩)) (HL5.out.r.keep hb6 HL5.out.r.lt) (HL5.out.below.trans (hb6.mono HL5.out.below.size)) (HB5.out.trans (hb6.mono HB5.out.size)))
          clear Y hI6
          generalize listA cll a (pathC pa k pc) cv=d at HOZ ⊢
          go_wp2_with fail
          go_meet
          exact ⟨rfl,HOZ.out⟩
        · have g4:(dk==4)=false:=by simp [e4]
          by_cases e5:dk=5
          · subst e5
            obtain ⟨_,_,_,_,_,hvo⟩:=HLX.out
            dsimp only at hvo
            have HVO:=Lib.hid hvo
            clear hvo
            go_wp2_with fail
            refine (afield_any w5 (pathC pa k pc) rfl a HAB.out ⟨5,dn,ds,cla,cll,clc,coa,col,coc⟩ ox HVO.out tl HTK5.out).mono ?_
            rintro e w6 ⟨⟨cv,rfl,hI6⟩,hb6⟩
            clear x0 x1 x2 x3 x4 a0 a1 a2 a3 a4 a5 a6 y0 y1 y2 y3 y4 y5 y6 y7 y8 y9 y10 y11 f0 f1 f2 f3 f4 f5 f6 f7 f8 f9 f10 f11
            have Y:=HY.out.keep hb6 zy
            have f0:=Y.fr 0;have f1:=Y.fr 1;have f2:=Y.fr 2;have f3:=Y.fr 3;have f4:=Y.fr 4;have f5:=Y.fr 5;have f6:=Y.fr 6;have f7:=Y.fr 7;have f8:=Y.fr 8;have f9:=Y.fr 9;have f10:=Y.fr 10;have f11:=Y.fr 11
            obtain ⟨y0,y1,y2,y3,y4,y5,y6,y7,y8,y9,y10,y11⟩:=row12 Y.at_
            have zy6:=Y.lt
            have HOZ:Hid (OZ w w1 (setC w6 yb (fieldA ox a (pathC pa k pc) cv)) R p pa k pc yb):=Lib.hid (OZ.store (x:=fieldV ox a tl) (by rw [←HR2.out];exact congrArg some (fieldA_same _ _ _ _ _ _ _ _ _ _)) rfl rfl rfl (fieldA_bnd HVO.out (pathC_bnd _ _ _) _) Y hyb hlo1 (hI6.sub (shows_step fun k hk _=>⟨by omega,rfl⟩)) (HL5.out.r.keep hb6 HL5.out.r.lt) (HL5.out.below.trans (hb6.mono HL5.out.below.size)) (HB5.out.trans (hb6.mono HB5.out.size)))
            clear Y hI6
            generalize fieldA ox a (pathC pa k pc) cv=d at HOZ ⊢
            go_wp2_with fail
            go_meet
            exact ⟨rfl,HOZ.out⟩
          · have g5:(dk==5)=false:=by simp [e5]
            have hRn:R=none:=by
              have hkd:(V.mk dk dn ds lx ox).kd=dk:=rfl
              rw [←HR2.out,oneX,hkd,if_neg e2,if_neg e3,if_neg e4,if_neg e5]
            have HRN:=Lib.hid hRn
            clear hRn
            obtain ⟨r0,r1,r2,r3,r4,r5,r6,r7,r8,r9,r10,r11⟩:=row12 HL5.out.r.at_
            have rf0:=HL5.out.r.fr 0;have rf1:=HL5.out.r.fr 1;have rf2:=HL5.out.r.fr 2;have rf3:=HL5.out.r.fr 3;have rf4:=HL5.out.r.fr 4;have rf5:=HL5.out.r.fr 5;have rf6:=HL5.out.r.fr 6;have rf7:=HL5.out.r.fr 7;have rf8:=HL5.out.r.fr 8;have rf9:=HL5.out.r.fr 9;have rf10:=HL5.out.r.fr 10;have rf11:=HL5.out.r.fr 11
            have zr:=HL5.out.r.lt
            go_wp2_with fail
            rw [←HQ.out,HRN.out]
            exact one6_leave0 (d:=pathC pa k pc) HL5.out.r HL5.out.below rfl rfl rfl
  case rest=>
  clear x0 x1 x2 x3 x4 a0 a1 a2 a3 a4 a5 a6 y0 y1 y2 y3 y4 y5 y6 y7 y8 y9 y10 y11 f0 f1 f2 f3 f4 f5 f6 f7 f8 f9 f10 f11
  rename_i wz
  obtain ⟨rfl,Z⟩:=hcut
  obtain ⟨d,y,hRd,e1,e2,e3,hdb,Y,hyv⟩:=Z.box
  obtain ⟨y0,y1,y2,y3,y4,y5,y6,y7,y8,y9,y10,y11⟩:=row12 Y.at_
  obtain ⟨r0,r1,r2,r3,r4,r5,r6,r7,r8,r9,r10,r11⟩:=row12 Z.r.at_
  have rf0:=Z.r.fr 0;have rf1:=Z.r.fr 1;have rf2:=Z.r.fr 2;have rf3:=Z.r.fr 3;have rf4:=Z.r.fr 4;have rf5:=Z.r.fr 5;have rf6:=Z.r.fr 6;have rf7:=Z.r.fr 7;have rf8:=Z.r.fr 8;have rf9:=Z.r.fr 9;have rf10:=Z.r.fr 10;have rf11:=Z.r.fr 11
  have zr:=Z.r.lt;have zy6:=Y.lt
  have hst:=isSteps_S (S':=fun b=>w.heap.size+3≤b) HST2.out rfl Z.b1.size fun k hk hl=>⟨hk,Z.b1.block k hl⟩
  rw [←e1, ←e2, ←e3] at hst
  have HS:=Lib.hid hst
  have HZ:=Lib.hid Z
  have HDB:=Lib.hid hdb
  have HYV:=Lib.hid hyv
  have HRD:=Lib.hid hRd
  clear hst Z hdb hyv Y hRd e1 e2 e3
  go_wp2_with fail
  rw [←HQ.out,HRD.out]
  exact one6_leave HZ.out.r HS.out HYV.out HZ.out.below HDB.out rfl rfl rfl
end Go.Proofs.YtgcfhkceejcliaaGreatDoor
namespace Go.Proofs.YtgcfhkceejcliaaGreatDoor
open Go.RowKit
set_option maxHeartbeats 8000000 in
set_option maxRecDepth 100000 in
theorem do06_obj (w:World) (vk vn:Int) (vs:ByteArray) (la:Option Addr) (ll lc:Nat) (oa:Option Addr) (ol oc:Nat) (v:V) (hv:IsVal w w.heap.size v ⟨vk,vn,vs,la,ll,lc,oa,ol,oc⟩) (hw:v.weight≤100000000) (p:List St) (xv:V) (cc:CC) (hcb:cc.Bnd) (hp:IsSteps w w.heap.size p cc.pa cc.pl cc.pc) (hxv:IsVal w w.heap.size xv cc.v) (hxw:xv.weight≤100000000) (hT:Tabs w) (he:checkP v ⟨cc.k,p,cc.key,cc.i,cc.j,cc.n,xv,cc.s⟩=0) (hk:cc.k=2∨cc.k=3):
    Calls Tryz.prog 43 #[.agg #[.int .u8 vk, .int .i64 vn, .string vs, .slice la ll lc, .slice oa ol oc], .agg #[.int .u8 cc.k, .slice cc.pa cc.pl cc.pc, .string cc.key, .int .i64 cc.i, .int .i64 cc.j, .int .i64 cc.n, .int .u8 cc.v.k, .int .i64 cc.v.n, .string cc.v.s, .slice cc.v.la cc.v.ll cc.v.lc, .slice cc.v.oa cc.v.ol cc.v.oc, .string cc.s]] w (DoPost w (doP v ⟨cc.k,p,cc.key,cc.i,cc.j,cc.n,xv,cc.s⟩)):=by
  obtain ⟨_,x,hg,hkd⟩:=checkP_ok he
  dsimp only at hg hkd
  have hxw2:=getP_weight p hg
  have HCK:Hid (∀W,Below w.heap.size w W→Calls Tryz.prog 82 #[.agg #[.int .u8 vk, .int .i64 vn, .string vs, .slice la ll lc, .slice oa ol oc], .agg #[.int .u8 cc.k, .slice cc.pa cc.pl cc.pc, .string cc.key, .int .i64 cc.i, .int .i64 cc.j, .int .i64 cc.n, .int .u8 cc.v.k, .int .i64 cc.v.n, .string cc.v.s, .slice cc.v.la cc.v.ll cc.v.lc, .slice cc.v.oa cc.v.ol cc.v.oc, .string cc.s]] W fun e w'=>e= .returned (.int .i64 0)∧Below W.heap.size W w'):=fun W hW=>by
    have:=check06_any W vk vn vs la ll lc oa ol oc v (hv.later_ hW) (by omega) p xv cc hcb (hp.later_ hW) (hxv.later_ hW) (by omega) (hT.below hW)
    rw [he] at this;exact this
  have HGT:Hid (∀W,Below w.heap.size w W→Calls Tryz.prog 78 #[.agg #[.int .u8 vk, .int .i64 vn, .string vs, .slice la ll lc, .slice oa ol oc], .slice cc.pa cc.pl cc.pc] W (GetPost W (some x))):=fun W hW=>by rw [←hg];exact get_any W vk vn vs la ll lc oa ol oc v (hv.later_ hW) p cc.pa cc.pl cc.pc (hp.later_ hW)
  have HPT:Hid (∀(W:World) (y:V) (k n:Int) (s:ByteArray) (a:Option Addr) (m c:Nat) (a':Option Addr) (m' c':Nat),Below w.heap.size w W→IsVal W W.heap.size y ⟨k,n,s,a,m,c,a',m',c'⟩→Calls Tryz.prog 86 #[.agg #[.int .u8 vk, .int .i64 vn, .string vs, .slice la ll lc, .slice oa ol oc], .slice cc.pa cc.pl cc.pc, .agg #[.int .u8 k, .int .i64 n, .string s, .slice a m c, .slice a' m' c']] W (GetPost W (putP v p y))):=fun W y k n s a m c a' m' c' hW hy=>put_any y k n s a m c a' m' c' p W vk vn vs la ll lc oa ol oc v (hv.later_ hW) cc.pa cc.pl cc.pc (hp.later_ hW) hy
  have hdo:doP v ⟨cc.k,p,cc.key,cc.i,cc.j,cc.n,xv,cc.s⟩=doneQ (putP v p (doneP x ⟨cc.k,p,cc.key,cc.i,cc.j,cc.n,xv,cc.s⟩)):=doP_ok he hg
  rw [hdo]
  have HB:=Lib.hid (DB.start w ⟨vk,vn,vs,la,ll,lc,oa,ol,oc⟩ cc 33 63 33)
  have HTT:=Lib.hid hT
  have HXV:=Lib.hid hxv
  have HCB:=Lib.hid hcb
  have HKD:=Lib.hid hkd
  have hsw:=x.str_weight
  obtain ⟨kx,nx,sx,lx,ox,rfl⟩:=x.eta
  dsimp only [V.str,V.ls,V.os] at hsw
  obtain ⟨Y,hY⟩:∃Y,doneP (.mk kx nx sx lx ox) ⟨cc.k,p,cc.key,cc.i,cc.j,cc.n,xv,cc.s⟩=Y:=⟨_,rfl⟩
  rw [hY]
  obtain ⟨z,hPR⟩:=putP_some p hg Y
  rw [hPR,doneQ_some]
  have HY:=Lib.hid hY
  have HPR:=Lib.hid hPR
  clear hv hp hxv hT hcb hdo hY hPR he hg hkd
  rcases hk with hk|hk
  all_goals
    have HK:=Lib.hid hk
    clear hk
    go_enter Tryz.func43,Tryz.ntmps43
    generalize hQ0:bodyPost _ _ _=Q0
    have HQ:=Lib.hid hQ0
    clear hQ0
    go_wp2_with fail
    refine (HCK.out _ HB.out.below).mono ?_
    rintro e W ⟨rfl,hb1⟩
    have B:=HB.out.next hb1 (by simp)
    obtain ⟨v0,v1,v2,v3,v4⟩:=row5 B.v.at_
    obtain ⟨b0,b1,b2,b3,b4,b5,b6,b7,b8,b9,b10,b11⟩:=row12 B.c.at_
    obtain ⟨r0,r1,r2,r3,r4⟩:=row5 B.r.at_
    have f0:=B.r.fr 0;have f1:=B.r.fr 1;have f2:=B.r.fr 2;have f3:=B.r.fr 3;have f4:=B.r.fr 4
    have z0:=B.v.lt;have z1:=B.c.lt;have z2:=B.r.lt
    have HBW:=Lib.hid B
    clear B hb1
    go_wp2_with fail
    refine (HGT.out _ HBW.out.below).mono ?_
    rintro e W2 ⟨⟨d,rfl,hI⟩,hb2⟩
    have B2:=HBW.out.next hb2 (Nat.succ_le_of_lt z2)
    obtain ⟨e1,e2,e3,hbd,hl,ho⟩:=hI.lists
    subst e1 e2 e3
    clear v0 v1 v2 v3 v4 r0 r1 r2 r3 r4 f0 f1 f2 f3 f4 b0 b1 b2 b3 b4 b5 b6 b7 b8 b9 b10 b11
    obtain ⟨v0,v1,v2,v3,v4⟩:=row5 B2.v.at_
    obtain ⟨b0,b1,b2,b3,b4,b5,b6,b7,b8,b9,b10,b11⟩:=row12 B2.c.at_
    obtain ⟨r0,r1,r2,r3,r4⟩:=row5 B2.r.at_
    have f0:=B2.r.fr 0;have f1:=B2.r.fr 1;have f2:=B2.r.fr 2;have f3:=B2.r.fr 3;have f4:=B2.r.fr 4
    have z0:=B2.v.lt;have z1:=B2.c.lt;have z2:=B2.r.lt
    have zW:=HBW.out.below.size
    have zW2:=hb2.size
    have z22:=B2.r.lt
    have HB2:=Lib.hid B2
    have HI:=Lib.hid hI
    have HBD:=Lib.hid hbd
    have HL:=Lib.hid hl
    have HO:=Lib.hid ho
    have HAL:=Lib.hid (((Below.refl _ _).alloc (Nat.le_refl _) (.cells #[.int .u8 d.k, .int .i64 d.n, .string d.s, .slice d.la d.ll d.lc, .slice d.oa d.ol d.oc] 33)):Below W2.heap.size W2 _)
    clear B2 hI hbd hl ho hb2
    rw [HK.out] at b0
    have HFL:Hid (Calls Tryz.prog 83 #[.slice d.oa d.ol d.oc, .agg #[.int .u8 cc.k, .slice cc.pa cc.pl cc.pc, .string cc.key, .int .i64 cc.i, .int .i64 cc.j, .int .i64 cc.n, .int .u8 cc.v.k, .int .i64 cc.v.n, .string cc.v.s, .slice cc.v.la cc.v.ll cc.v.lc, .slice cc.v.oa cc.v.ol cc.v.oc, .string cc.s]] (W2.alloc (.cells #[.int .u8 d.k, .int .i64 d.n, .string d.s, .slice d.la d.ll d.lc, .slice d.oa d.ol d.oc] 33)) (FieldsPost (W2.alloc (.cells #[.int .u8 d.k, .int .i64 d.n, .string d.s, .slice d.la d.ll d.lc, .slice d.oa d.ol d.oc] 33)) (fun k=>W.heap.size≤k∧k≠W2.heap.size) (fieldsDo ox cc.key xv (cc.k==3)))):=by
      have hb3:=HB2.out.below.trans (HAL.out.mono HB2.out.below.size)
      refine fields06_any (W2.alloc (.cells #[.int .u8 d.k, .int .i64 d.n, .string d.s, .slice d.la d.ll d.lc, .slice d.oa d.ol d.oc] 33)) (fun k=>W.heap.size≤k∧k≠W2.heap.size) (fun k hk=>by rw [World.size_alloc] at hk;omega) ox d.oa d.ol d.oc ?_ cc xv (HXV.out.later_ hb3) HCB.out.key1 (by have:=HO.out.len;omega)
      exact (IsFields.sub (shows_step fun k hk hl=>⟨⟨hk,by omega⟩,HAL.out.block k hl⟩) HO.out).more HAL.out.size
    rw [HK.out] at HFL
    go_wp2_with fail
    refine HFL.out.mono ?_
    rintro e w4 ⟨⟨a4,n4,c4,rfl,hI4⟩,hb4⟩
    have hbw4:Below W2.heap.size W2 w4:=HAL.out.trans (hb4.mono (by simp))
    have B4:=HB2.out.next hbw4 (Nat.succ_le_of_lt z2)
    have X4:BC w4 W2.heap.size (vcells d):=(BC.start W2 #[.int .u8 d.k, .int .i64 d.n, .string d.s, .slice d.la d.ll d.lc, .slice d.oa d.ol d.oc] 33).keep hb4 (by simp)
    obtain ⟨x0,x1,x2,x3,x4⟩:=row5 X4.at_
    have xf0:=X4.fr 2;have xf1:=X4.fr 3;have xf2:=X4.fr 4
    have xlt:=X4.lt
    clear v0 v1 v2 v3 v4 r0 r1 r2 r3 r4 f0 f1 f2 f3 f4 b0 b1 b2 b3 b4 b5 b6 b7 b8 b9 b10 b11
    obtain ⟨v0,v1,v2,v3,v4⟩:=row5 B4.v.at_
    obtain ⟨b0,b1,b2,b3,b4,b5,b6,b7,b8,b9,b10,b11⟩:=row12 B4.c.at_
    obtain ⟨r0,r1,r2,r3,r4⟩:=row5 B4.r.at_
    have f0:=B4.r.fr 0;have f1:=B4.r.fr 1;have f2:=B4.r.fr 2;have f3:=B4.r.fr 3;have f4:=B4.r.fr 4
    have z0:=B4.v.lt;have z1:=B4.c.lt;have z2:=B4.r.lt
    have HBW4:=Lib.hid hbw4
    clear B4 X4 hb4 hbw4
    have HI4:=Lib.hid hI4
    clear hI4
    go_wp2_with fail
    have hbl4:Below W2.heap.size W2 (w4.setCell ⟨W2.heap.size,4,none⟩ (.slice a4 n4 c4)):=HBW4.out.set_ (Nat.le_refl _)
    have hx4:=(HI.out.sub (shows_only _ _ _)).later_ hbl4
    obtain ⟨_,_,_,_,hl4,ho4⟩:=hx4.lists
    have HB4:=Lib.hid (HB2.out.next hbl4 (Nat.succ_le_of_lt z22))
    have HCALL:Hid (Calls Tryz.prog 86 #[.agg #[.int .u8 vk, .int .i64 vn, .string vs, .slice la ll lc, .slice oa ol oc], .slice cc.pa cc.pl cc.pc, .agg #[.int .u8 d.k, .int .i64 d.n, .string d.s, .slice d.la d.ll d.lc, .slice a4 n4 c4]] (w4.setCell ⟨W2.heap.size,4,none⟩ (.slice a4 n4 c4)) (GetPost (w4.setCell ⟨W2.heap.size,4,none⟩ (.slice a4 n4 c4)) (some z))):=by
      have:=HPT.out (w4.setCell ⟨W2.heap.size,4,none⟩ (.slice a4 n4 c4)) Y d.k d.n d.s d.la d.ll d.lc a4 n4 c4 HB4.out.below (by
        have hYe:Y= .mk d.k d.n d.s lx (fieldsDo ox cc.key xv (cc.k==3)):=by
          rw [←HY.out,doneP,if_neg (by have:=HK.out;dsimp only;omega),if_pos (by have:=HK.out;dsimp only;omega)];rfl
        have hst:RStep w4 (w4.setCell ⟨W2.heap.size,4,none⟩ (.slice a4 n4 c4)) W2.heap.size:=RStep.self
        rw [hYe,HK.out]
        exact isVal_parts HBD.out.k0 HBD.out.k1 HBD.out.n0 HBD.out.n1 HBD.out.s1 hl4 ((IsFields.sub (fun b o u hb h=>by
          obtain ⟨hs,hc⟩:=only_cell h
          exact hst.cell hc hs.2) HI4.out).more hst.size))
      rw [HPR.out] at this;exact this
    clear hx4 hl4 ho4
    refine HCALL.out.mono ?_
    rintro e W6 ⟨⟨d6,rfl,hz⟩,hb6⟩
    have B6:=HB4.out.next hb6 (Nat.succ_le_of_lt HB4.out.r.lt)
    clear v0 v1 v2 v3 v4 r0 r1 r2 r3 r4 f0 f1 f2 f3 f4 b0 b1 b2 b3 b4 b5 b6 b7 b8 b9 b10 b11
    obtain ⟨v0,v1,v2,v3,v4⟩:=row5 B6.v.at_
    obtain ⟨b0,b1,b2,b3,b4,b5,b6,b7,b8,b9,b10,b11⟩:=row12 B6.c.at_
    obtain ⟨r0,r1,r2,r3,r4⟩:=row5 B6.r.at_
    have f0:=B6.r.fr 0;have f1:=B6.r.fr 1;have f2:=B6.r.fr 2;have f3:=B6.r.fr 3;have f4:=B6.r.fr 4
    have z0:=B6.v.lt;have z1:=B6.c.lt;have z2:=B6.r.lt
    have HB6:=Lib.hid B6
    have hz4:=HB4.out.below.size
    have hz5:=HB4.out.r.lt
    have HZ:=Lib.hid hz
    clear B6 hb6 hz
    go_wp2_with fail
    rw [←HQ.out]
    have ST:=HB6.out.result d6
    have hst:=setV_step W6 (w.heap.size+1+1) 0 d6
    exact do_leave (r:=(z,0)) ST.1 ((isVal_far (base:=w.heap.size+1+1+1) (HZ.out.sub (shows_step fun k hk _=>⟨Nat.le_trans (Nat.succ_le_of_lt hz5) hk,rfl⟩)) hst (by omega)).sub (shows_step fun k hk _=>⟨by omega,rfl⟩)) ST.2 rfl rfl rfl
end Go.Proofs.YtgcfhkceejcliaaGreatDoor
namespace Go.Proofs.YtgcfhkceejcliaaGreatDoor
open Go.RowKit
set_option maxHeartbeats 8000000 in
set_option maxRecDepth 100000 in
theorem do06_text (w:World) (vk vn:Int) (vs:ByteArray) (la:Option Addr) (ll lc:Nat) (oa:Option Addr) (ol oc:Nat) (v:V) (hv:IsVal w w.heap.size v ⟨vk,vn,vs,la,ll,lc,oa,ol,oc⟩) (hw:v.weight≤100000000) (p:List St) (xv:V) (cc:CC) (hcb:cc.Bnd) (hp:IsSteps w w.heap.size p cc.pa cc.pl cc.pc) (hxv:IsVal w w.heap.size xv cc.v) (hxw:xv.weight≤100000000) (hcs:cc.s.size≤1000000000000) (hT:Tabs w) (he:checkP v ⟨cc.k,p,cc.key,cc.i,cc.j,cc.n,xv,cc.s⟩=0) (hk:cc.k=8∨cc.k=9):
    Calls Tryz.prog 43 #[.agg #[.int .u8 vk, .int .i64 vn, .string vs, .slice la ll lc, .slice oa ol oc], .agg #[.int .u8 cc.k, .slice cc.pa cc.pl cc.pc, .string cc.key, .int .i64 cc.i, .int .i64 cc.j, .int .i64 cc.n, .int .u8 cc.v.k, .int .i64 cc.v.n, .string cc.v.s, .slice cc.v.la cc.v.ll cc.v.lc, .slice cc.v.oa cc.v.ol cc.v.oc, .string cc.s]] w (DoPost w (doP v ⟨cc.k,p,cc.key,cc.i,cc.j,cc.n,xv,cc.s⟩)):=by
  obtain ⟨_,x,hg,hkd⟩:=checkP_ok he
  dsimp only at hg hkd
  have hxw2:=getP_weight p hg
  have HCK:Hid (∀W,Below w.heap.size w W→Calls Tryz.prog 82 #[.agg #[.int .u8 vk, .int .i64 vn, .string vs, .slice la ll lc, .slice oa ol oc], .agg #[.int .u8 cc.k, .slice cc.pa cc.pl cc.pc, .string cc.key, .int .i64 cc.i, .int .i64 cc.j, .int .i64 cc.n, .int .u8 cc.v.k, .int .i64 cc.v.n, .string cc.v.s, .slice cc.v.la cc.v.ll cc.v.lc, .slice cc.v.oa cc.v.ol cc.v.oc, .string cc.s]] W fun e w'=>e= .returned (.int .i64 0)∧Below W.heap.size W w'):=fun W hW=>by
    have:=check06_any W vk vn vs la ll lc oa ol oc v (hv.later_ hW) (by omega) p xv cc hcb (hp.later_ hW) (hxv.later_ hW) (by omega) (hT.below hW)
    rw [he] at this;exact this
  have HGT:Hid (∀W,Below w.heap.size w W→Calls Tryz.prog 78 #[.agg #[.int .u8 vk, .int .i64 vn, .string vs, .slice la ll lc, .slice oa ol oc], .slice cc.pa cc.pl cc.pc] W (GetPost W (some x))):=fun W hW=>by rw [←hg];exact get_any W vk vn vs la ll lc oa ol oc v (hv.later_ hW) p cc.pa cc.pl cc.pc (hp.later_ hW)
  have HPT:Hid (∀(W:World) (y:V) (k n:Int) (s:ByteArray) (a:Option Addr) (m c:Nat) (a':Option Addr) (m' c':Nat),Below w.heap.size w W→IsVal W W.heap.size y ⟨k,n,s,a,m,c,a',m',c'⟩→Calls Tryz.prog 86 #[.agg #[.int .u8 vk, .int .i64 vn, .string vs, .slice la ll lc, .slice oa ol oc], .slice cc.pa cc.pl cc.pc, .agg #[.int .u8 k, .int .i64 n, .string s, .slice a m c, .slice a' m' c']] W (GetPost W (putP v p y))):=fun W y k n s a m c a' m' c' hW hy=>put_any y k n s a m c a' m' c' p W vk vn vs la ll lc oa ol oc v (hv.later_ hW) cc.pa cc.pl cc.pc (hp.later_ hW) hy
  have hdo:doP v ⟨cc.k,p,cc.key,cc.i,cc.j,cc.n,xv,cc.s⟩=doneQ (putP v p (doneP x ⟨cc.k,p,cc.key,cc.i,cc.j,cc.n,xv,cc.s⟩)):=doP_ok he hg
  rw [hdo]
  have HB:=Lib.hid (DB.start w ⟨vk,vn,vs,la,ll,lc,oa,ol,oc⟩ cc 33 63 33)
  have HTT:=Lib.hid hT
  have HXV:=Lib.hid hxv
  have HCB:=Lib.hid hcb
  have HKD:=Lib.hid hkd
  have hsw:=x.str_weight
  obtain ⟨kx,nx,sx,lx,ox,rfl⟩:=x.eta
  dsimp only [V.str,V.ls,V.os] at hsw
  obtain ⟨Y,hY⟩:∃Y,doneP (.mk kx nx sx lx ox) ⟨cc.k,p,cc.key,cc.i,cc.j,cc.n,xv,cc.s⟩=Y:=⟨_,rfl⟩
  rw [hY]
  obtain ⟨z,hPR⟩:=putP_some p hg Y
  rw [hPR,doneQ_some]
  have HY:=Lib.hid hY
  have HPR:=Lib.hid hPR
  clear hv hp hxv hT hcb hdo hY hPR he hg hkd
  rcases hk with hk|hk
  all_goals
    have HK:=Lib.hid hk
    clear hk
    go_enter Tryz.func43,Tryz.ntmps43
    generalize hQ0:bodyPost _ _ _=Q0
    have HQ:=Lib.hid hQ0
    clear hQ0
    go_wp2_with fail
    refine (HCK.out _ HB.out.below).mono ?_
    rintro e W ⟨rfl,hb1⟩
    have B:=HB.out.next hb1 (by simp)
    obtain ⟨v0,v1,v2,v3,v4⟩:=row5 B.v.at_
    obtain ⟨b0,b1,b2,b3,b4,b5,b6,b7,b8,b9,b10,b11⟩:=row12 B.c.at_
    obtain ⟨r0,r1,r2,r3,r4⟩:=row5 B.r.at_
    have f0:=B.r.fr 0;have f1:=B.r.fr 1;have f2:=B.r.fr 2;have f3:=B.r.fr 3;have f4:=B.r.fr 4
    have z0:=B.v.lt;have z1:=B.c.lt;have z2:=B.r.lt
    have HBW:=Lib.hid B
    clear B hb1
    go_wp2_with fail
    refine (HGT.out _ HBW.out.below).mono ?_
    rintro e W2 ⟨⟨d,rfl,hI⟩,hb2⟩
    have B2:=HBW.out.next hb2 (Nat.succ_le_of_lt z2)
    obtain ⟨e1,e2,e3,hbd,hl,ho⟩:=hI.lists
    subst e1 e2 e3
    clear v0 v1 v2 v3 v4 r0 r1 r2 r3 r4 f0 f1 f2 f3 f4 b0 b1 b2 b3 b4 b5 b6 b7 b8 b9 b10 b11
    obtain ⟨v0,v1,v2,v3,v4⟩:=row5 B2.v.at_
    obtain ⟨b0,b1,b2,b3,b4,b5,b6,b7,b8,b9,b10,b11⟩:=row12 B2.c.at_
    obtain ⟨r0,r1,r2,r3,r4⟩:=row5 B2.r.at_
    have f0:=B2.r.fr 0;have f1:=B2.r.fr 1;have f2:=B2.r.fr 2;have f3:=B2.r.fr 3;have f4:=B2.r.fr 4
    have z0:=B2.v.lt;have z1:=B2.c.lt;have z2:=B2.r.lt
    have zW:=HBW.out.below.size
    have zW2:=hb2.size
    have z22:=B2.r.lt
    have HB2:=Lib.hid B2
    have HI:=Lib.hid hI
    have HBD:=Lib.hid hbd
    have HL:=Lib.hid hl
    have HO:=Lib.hid ho
    have HAL:=Lib.hid (((Below.refl _ _).alloc (Nat.le_refl _) (.cells #[.int .u8 d.k, .int .i64 d.n, .string d.s, .slice d.la d.ll d.lc, .slice d.oa d.ol d.oc] 33)):Below W2.heap.size W2 _)
    clear B2 hI hbd hl ho hb2
    rw [HK.out] at b0
    have hts:d.s.size≤1000000000000:=by have:=hsw.1;omega
    have htc:tCheck d.s cc.k cc.i cc.n=0:=by
      have hk:=HKD.out
      rw [kindsP,if_neg (by have:=HK.out;omega),if_neg (by have:=HK.out;omega),if_pos (by have:=HK.out;omega)] at hk
      split at hk
      · omega
      · exact hk
    obtain ⟨TD,hTD⟩:∃TD,textDo d.s cc.k cc.i cc.n cc.s=TD:=⟨_,rfl⟩
    have htz:TD.size≤140737488355328:=by
      rw [←hTD]
      have:=textDo_size d.s cc.k cc.i cc.n cc.s
      omega
    have HFL:Hid (Calls Tryz.prog 84 #[.string d.s, .agg #[.int .u8 cc.k, .slice cc.pa cc.pl cc.pc, .string cc.key, .int .i64 cc.i, .int .i64 cc.j, .int .i64 cc.n, .int .u8 cc.v.k, .int .i64 cc.v.n, .string cc.v.s, .slice cc.v.la cc.v.ll cc.v.lc, .slice cc.v.oa cc.v.ol cc.v.oc, .string cc.s]] (W2.alloc (.cells #[.int .u8 d.k, .int .i64 d.n, .string d.s, .slice d.la d.ll d.lc, .slice d.oa d.ol d.oc] 33)) fun e w'=>e= .returned (.tuple #[.string TD, .int .i64 0])∧Below (W2.alloc (.cells #[.int .u8 d.k, .int .i64 d.n, .string d.s, .slice d.la d.ll d.lc, .slice d.oa d.ol d.oc] 33)).heap.size (W2.alloc (.cells #[.int .u8 d.k, .int .i64 d.n, .string d.s, .slice d.la d.ll d.lc, .slice d.oa d.ol d.oc] 33)) w'):=by
      have hb3:=HB2.out.below.trans (HAL.out.mono HB2.out.below.size)
      rw [←hTD]
      exact textDo_any (W2.alloc (.cells #[.int .u8 d.k, .int .i64 d.n, .string d.s, .slice d.la d.ll d.lc, .slice d.oa d.ol d.oc] 33)) d.s cc HCB.out hts (HTT.out.below hb3) htc
    have HTD:=Lib.hid hTD
    clear hTD htc
    rw [HK.out] at HFL
    go_wp2_with fail
    refine HFL.out.mono ?_
    rintro e w4 ⟨rfl,hb4⟩
    have hbw4:Below W2.heap.size W2 w4:=HAL.out.trans (hb4.mono (by simp))
    have B4:=HB2.out.next hbw4 (Nat.succ_le_of_lt z2)
    have X4:BC w4 W2.heap.size (vcells d):=(BC.start W2 #[.int .u8 d.k, .int .i64 d.n, .string d.s, .slice d.la d.ll d.lc, .slice d.oa d.ol d.oc] 33).keep hb4 (by simp)
    obtain ⟨x0,x1,x2,x3,x4⟩:=row5 X4.at_
    have xf0:=X4.fr 2;have xf1:=X4.fr 3;have xf2:=X4.fr 4
    have xlt:=X4.lt
    clear v0 v1 v2 v3 v4 r0 r1 r2 r3 r4 f0 f1 f2 f3 f4 b0 b1 b2 b3 b4 b5 b6 b7 b8 b9 b10 b11
    obtain ⟨v0,v1,v2,v3,v4⟩:=row5 B4.v.at_
    obtain ⟨b0,b1,b2,b3,b4,b5,b6,b7,b8,b9,b10,b11⟩:=row12 B4.c.at_
    obtain ⟨r0,r1,r2,r3,r4⟩:=row5 B4.r.at_
    have f0:=B4.r.fr 0;have f1:=B4.r.fr 1;have f2:=B4.r.fr 2;have f3:=B4.r.fr 3;have f4:=B4.r.fr 4
    have z0:=B4.v.lt;have z1:=B4.c.lt;have z2:=B4.r.lt
    have HBW4:=Lib.hid hbw4
    clear B4 X4 hb4 hbw4
    go_wp2_with fail
    have hbl4:Below W2.heap.size W2 (w4.setCell ⟨W2.heap.size,2,none⟩ (.string TD)):=HBW4.out.set_ (Nat.le_refl _)
    have hx4:=(HI.out.sub (shows_only _ _ _)).later_ hbl4
    obtain ⟨_,_,_,_,hl4,ho4⟩:=hx4.lists
    have HB4:=Lib.hid (HB2.out.next hbl4 (Nat.succ_le_of_lt z22))
    have HCALL:Hid (Calls Tryz.prog 86 #[.agg #[.int .u8 vk, .int .i64 vn, .string vs, .slice la ll lc, .slice oa ol oc], .slice cc.pa cc.pl cc.pc, .agg #[.int .u8 d.k, .int .i64 d.n, .string TD, .slice d.la d.ll d.lc, .slice d.oa d.ol d.oc]] (w4.setCell ⟨W2.heap.size,2,none⟩ (.string TD)) (GetPost (w4.setCell ⟨W2.heap.size,2,none⟩ (.string TD)) (some z))):=by
      have:=HPT.out (w4.setCell ⟨W2.heap.size,2,none⟩ (.string TD)) Y d.k d.n TD d.la d.ll d.lc d.oa d.ol d.oc HB4.out.below (by
        have hYe:Y= .mk d.k d.n TD lx ox:=by
          rw [←HY.out,doneP,if_neg (by have:=HK.out;dsimp only;omega),if_neg (by have:=HK.out;dsimp only;omega),if_pos (by have:=HK.out;dsimp only;omega), ←HTD.out];rfl
        rw [hYe]
        exact isVal_parts HBD.out.k0 HBD.out.k1 HBD.out.n0 HBD.out.n1 htz hl4 ho4)
      rw [HPR.out] at this;exact this
    clear hx4 hl4 ho4
    refine HCALL.out.mono ?_
    rintro e W6 ⟨⟨d6,rfl,hz⟩,hb6⟩
    have B6:=HB4.out.next hb6 (Nat.succ_le_of_lt HB4.out.r.lt)
    clear v0 v1 v2 v3 v4 r0 r1 r2 r3 r4 f0 f1 f2 f3 f4 b0 b1 b2 b3 b4 b5 b6 b7 b8 b9 b10 b11
    obtain ⟨v0,v1,v2,v3,v4⟩:=row5 B6.v.at_
    obtain ⟨b0,b1,b2,b3,b4,b5,b6,b7,b8,b9,b10,b11⟩:=row12 B6.c.at_
    obtain ⟨r0,r1,r2,r3,r4⟩:=row5 B6.r.at_
    have f0:=B6.r.fr 0;have f1:=B6.r.fr 1;have f2:=B6.r.fr 2;have f3:=B6.r.fr 3;have f4:=B6.r.fr 4
    have z0:=B6.v.lt;have z1:=B6.c.lt;have z2:=B6.r.lt
    have HB6:=Lib.hid B6
    have hz4:=HB4.out.below.size
    have hz5:=HB4.out.r.lt
    have HZ:=Lib.hid hz
    clear B6 hb6 hz
    go_wp2_with fail
    rw [←HQ.out]
    have ST:=HB6.out.result d6
    have hst:=setV_step W6 (w.heap.size+1+1) 0 d6
    exact do_leave (r:=(z,0)) ST.1 ((isVal_far (base:=w.heap.size+1+1+1) (HZ.out.sub (shows_step fun k hk _=>⟨Nat.le_trans (Nat.succ_le_of_lt hz5) hk,rfl⟩)) hst (by omega)).sub (shows_step fun k hk _=>⟨by omega,rfl⟩)) ST.2 rfl rfl rfl
end Go.Proofs.YtgcfhkceejcliaaGreatDoor
