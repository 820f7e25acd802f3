/-
  Contracts of the functions that the law reaches: What path.Get and path.Put hand to.
-/
import Derived.Test.YtbgheehjfnoiiaaGreatDoorOn13
namespace Go.Proofs.YtbgheehjfnoiiaaGreatDoor
open Go.RowKit
set_option maxHeartbeats 16000000
theorem IsVal.child {w:World} {B:Nat} {v x:V} {c:VC} {s:St} {k:Nat} (h:IsVal w B v c) (hs:stepP v s=some (x,k)):
 (s.list=true/\∃g q cx,c.la=some ⟨g,q,none⟩/\g<B/\ValAt w g (q+k*5) cx/\IsVal w B x cx)∨(s.list=false/\∃g q cx,c.oa=some ⟨g,q,none⟩/\g<B/\ValAt w g (q+k*6+1) cx/\IsVal w B x cx):=by
 obtain ⟨vk,vn,vs,l,ol,rfl⟩:=v.eta
 obtain ⟨rfl,rfl,rfl,hb,h1,h2⟩:=h.lists
 rcases Xm hs with ⟨hl,_,_,hk,hx⟩|⟨hl,_,_,hk,hx⟩
 .have hk:k<l.length:=hk
  have hx:l[k] =x:=hx
  obtain ⟨g,q,f,hp,ha,hgB,hfv,hfI⟩:=h1.get (k:=k) (by have:=h1.len;omega)
  exact .inl ⟨hl,g,q,f,ha,hgB,hfv,by rw [<-hx];exact hfI⟩
 .have hk:k<ol.length:=hk
  have hx:ol[k].2=x:=hx
  obtain ⟨g,q,f,hp,ha,hgB,hkey,hks,hfv,hfI⟩:=h2.get (k:=k) (by have:=h2.len;omega)
  exact .inr ⟨hl,g,q,f,ha,hgB,hfv,by rw [<-hx];exact hfI⟩
theorem zbi {w:World} {b o:Nat} {c d:VC} (h:ValAt w b o c) (g:ValAt w b o d):c=d:=by
 obtain ⟨h0,h1,h2,h3,h4⟩:=h
 obtain ⟨g0,g1,g2,g3,g4⟩:=g
 rw [h0] at g0;rw [h1] at g1;rw [h2] at g2;rw [h3] at g3;rw [h4] at g4
 obtain ⟨ck,cn,cs,cla,cll,clc,coa,col,coc⟩:=c
 obtain ⟨dk,dn,ds,dla,dll,dlc,doa,dol,doc⟩:=d
 simp only [Option.some.injEq,Value.int.injEq,Value.string.injEq,Value.slice.injEq,true_and] at g0 g1 g2 g3 g4
 simp only [VC.mk.injEq]
 exact ⟨g0,g1,g2,g3.1,g3.2.1,g3.2.2,g4.1,g4.2.1,g4.2.2⟩
theorem Way.one {w:World} {b o:Nat} {v:V} {p:List St} {b1 o1:Nat} {x:V} (h:Way w b o v p b1 o1 x):∀ {b2 o2:Nat} {y:V},Way w b o v p b2 o2 y->b1=b2/\o1=o2/\x=y:=by
 induction h with
 |nil b o v=>intro b2 o2 y g;cases g;exact ⟨rfl,rfl,rfl⟩
 | list b o v x y c s r k g q b' o' hv hi hs hl ha h ih=>
   intro b2 o2 y2 e
   cases e with
   | list _ _ _ x2 _ c2 _ _ k2 g2 q2 _ _ hv2 hi2 hs2 hl2 ha2 h2=>
     obtain rfl:=zbi hv hv2
     rw [hs] at hs2;injection hs2 with hs2;injection hs2 with e1 e2
     subst e1 e2
     rw [ha] at ha2;injection ha2 with ha2;injection ha2 with e1 e2
     subst e1 e2
     exact ih h2
   |obj _ _ _ x2 _ c2 _ _ k2 g2 q2 _ _ hv2 hi2 hs2 hl2 ha2 h2=>rw [hl] at hl2;cases hl2
 | obj b o v x y c s r k g q b' o' hv hi hs hl ha h ih=>
   intro b2 o2 y2 e
   cases e with
   | obj _ _ _ x2 _ c2 _ _ k2 g2 q2 _ _ hv2 hi2 hs2 hl2 ha2 h2=>
     obtain rfl:=zbi hv hv2
     rw [hs] at hs2;injection hs2 with hs2;injection hs2 with e1 e2
     subst e1 e2
     rw [ha] at ha2;injection ha2 with ha2;injection ha2 with e1 e2
     subst e1 e2
     exact ih h2
   |list _ _ _ x2 _ c2 _ _ k2 g2 q2 _ _ hv2 hi2 hs2 hl2 ha2 h2=>rw [hl] at hl2;cases hl2
theorem Way.snoc {w:World} {b o:Nat} {v:V} {p:List St} {b1 o1:Nat} {x:V} (h:Way w b o v p b1 o1 x):∀ {s:St} {b2 o2:Nat} {y:V},Way w b1 o1 x [s] b2 o2 y->Way w b o v (p++ [s]) b2 o2 y:=by
 induction h with
 |nil b o v=>exact fun g=>g
 |list b o v x y c s r k g q b' o' hv hi hs hl ha h ih=>exact fun e=> .list b o v x _ c s _ k g q _ _ hv hi hs hl ha (ih e)
 |obj b o v x y c s r k g q b' o' hv hi hs hl ha h ih=>exact fun e=> .obj b o v x _ c s _ k g q _ _ hv hi hs hl ha (ih e)
set_option maxRecDepth 100000 in
theorem zhz (w:World) (b o:Nat) (x:V) (c:VC) (hv:ValAt w b o c) (hI:IsVal w w.heap.size x c) (ob:Nat) (z:VC) (hz:BC w ob (vcells z)):
 uP 93 #[.pointer (some ⟨b,o,none⟩), .pointer (some ⟨ob,0,none⟩)] w fun e w'=>e= .returned (.tuple #[])/\∃(w4:World) (d:VC),Whole w4 w.heap.size x d/\uB w w4/\w'=setV w4 ob 0 d:=by
 delta uB uP
 have HC:=qh (Yt w x c hI)
 have c0:=hv.c0;have c1:=hv.c1;have c2:=hv.c2;have c3:=hv.c3;have c4:=hv.c4
 have hbw:b<w.heap.size:=World.block_lt_of_cell? w _ c0
 have HZ:=qh hz
 clear hv hI hz
 go_enter Tryz.func93,Tryz.ntmps93
 go_wp2_with fail
 refine HC.out.mono ?_
 rintro e w4 ⟨⟨d,rfl,hh⟩,hbl⟩
 have Z4:=HZ.out.keep hbl HZ.out.lt
 obtain ⟨z0,z1,z2,z3,z4⟩:=row5 Z4.at_
 have f0:=Z4.fr 0;have f1:=Z4.fr 1;have f2:=Z4.fr 2;have f3:=Z4.fr 3;have f4:=Z4.fr 4
 have zl:=Z4.lt
 have HH:=qh hh;have HB:=qh hbl
 clear Z4 hh hbl
 go_wp2_with fail
 refine ⟨rfl, .tuple #[],by simp [results,Tryz.results93,go_sem],rfl,w4,d,HH.out,HB.out,rfl⟩
set_option maxRecDepth 100000 in
theorem zl1 (w:World) (b o:Nat) (c0:VC) (hv:ValAt w b o c0) (hf:∀q,w.frozen? ⟨b,q,none⟩=false) (xb:Nat) (x:V) (c:VC) (hx:BC w xb (vcells c)) (hI:IsVal w w.heap.size x c):
 uP 118 #[.pointer (some ⟨b,o,none⟩), .pointer (some ⟨xb,0,none⟩)] w fun e w'=>e= .returned (.tuple #[])/\∃(w4:World) (d:VC),Whole w4 w.heap.size x d/\uB w w4/\w'=setV w4 b o d:=by
 delta uB uP
 have HC:=qh (Yt w x c hI)
 have hbw:b<w.heap.size:=World.block_lt_of_cell? w _ hv.c0
 obtain ⟨y0,y1,y2,y3,y4⟩:=row5 hx.at_
 have hxw:=hx.lt
 have HV:=qh hv;have HF:=qh hf
 clear hv hI hx hf
 go_enter Tryz.func118,Tryz.ntmps118
 go_wp2_with fail
 refine HC.out.mono ?_
 rintro e w4 ⟨⟨d,rfl,hh⟩,hbl⟩
 have z0:=Zb hbl HV.out.c0 hbw;have z1:=Zb hbl HV.out.c1 hbw;have z2:=Zb hbl HV.out.c2 hbw;have z3:=Zb hbl HV.out.c3 hbw;have z4:=Zb hbl HV.out.c4 hbw
 have hfr:∀q,w4.frozen? ⟨b,q,none⟩=false:=fun q=>by rw [Yq (hbl.block b hbw)];exact HF.out q
 have f0:=hfr o;have f1:=hfr (o+1);have f2:=hfr (o+2);have f3:=hfr (o+3);have f4:=hfr (o+4)
 have zl:b<w4.heap.size:=Nat.lt_of_lt_of_le hbw hbl.size
 have HH:=qh hh;have HB:=qh hbl
 clear hh hbl hfr
 go_wp2_with fail
 refine ⟨rfl, .tuple #[],by simp [results,Tryz.results118,go_sem],rfl,w4,d,HH.out,HB.out,rfl⟩
theorem ze8 (q:List St):∀(v:V) (r:List St),getP v (q++r)=(getP v q).bind fun x=>getP x r:=by
 induction q with
 |nil=>intro v r;rfl
 | cons s q ih=>
   intro v r
   simp only [List.cons_append,getP]
   cases stepP v s with
   |none=>rfl
   |some u=>exact ih u.1 r
theorem Way.get {w:World} {b o:Nat} {v:V} {p:List St} {b1 o1:Nat} {x:V} (h:Way w b o v p b1 o1 x):getP v p=some x:=by
 induction h with
 |nil b o v=>rfl
 |list b o v x y c s r k g q b' o' hv hi hs hl ha h ih=>unfold getP;rw [hs];exact ih
 |obj b o v x y c s r k g q b' o' hv hi hs hl ha h ih=>unfold getP;rw [hs];exact ih
theorem zcp {v x:V} {p:List St} {j:Nat} (hj:j<p.length) (hg:getP v (p.take j)=some x) (hs:stepP x p[j] =none):getP v p=none:=by
 have e:p=p.take j++(p[j] ::p.drop (j+1)):=by rw [<-List.drop_eq_getElem_cons hj,List.take_append_drop]
 rw [e,ze8,hg]
 show getP x _=none
 unfold getP
 rw [hs]
structure Spot (w:World) (b o:Nat) (v:V) (p:List St) (b1 o1:Nat) (x:V) (cx:VC):Prop where
 way:Way w b o v p b1 o1 x
 at_:ValAt w b1 o1 cx
 val:IsVal w w.heap.size x cx
 lt:b1<w.heap.size
theorem Spot.next {w:World} {b o:Nat} {v:V} {p:List St} {b1 o1:Nat} {x:V} {cx:VC} {s:St} {x2:V} {k g q q':Nat} (h:Spot w b o v p b1 o1 x cx) (hs:stepP x s=some (x2,k))
 (hr:(s.list=true/\cx.la=some ⟨g,q,none⟩/\q'=q+k*5)∨(s.list=false/\cx.oa=some ⟨g,q,none⟩/\q'=q+k*6+1)):∃c2,Spot w b o v (p++ [s]) g q' x2 c2:=by
 rcases h.val.child hs with ⟨hl,g2,q2,c2,ha,hgB,hfv,hfI⟩|⟨hl,g2,q2,c2,ha,hgB,hfv,hfI⟩
 .rcases hr with ⟨_,ha2,rfl⟩|⟨hl2,_⟩
  .rw [ha] at ha2;injection ha2 with ha2;injection ha2 with e1 e2
   subst e1 e2
   exact ⟨c2,h.way.snoc (.list _ _ _ x2 _ cx s [] k g2 q2 _ _ h.at_ h.val hs hl ha (.nil _ _ _)),hfv,hfI,hgB⟩
  .rw [hl] at hl2;cases hl2
 .rcases hr with ⟨hl2,_⟩|⟨_,ha2,rfl⟩
  .rw [hl] at hl2;cases hl2
  .rw [ha] at ha2;injection ha2 with ha2;injection ha2 with e1 e2
   subst e1 e2
   exact ⟨c2,h.way.snoc (.obj _ _ _ x2 _ cx s [] k g2 q2 _ _ h.at_ h.val hs hl ha (.nil _ _ _)),hfv,hfI,hgB⟩
set_option maxRecDepth 100000 in
theorem zmx (w:World) (b o:Nat) (v:V) (c:VC) (p:List St) (pa:Option Addr) (pl pc:Nat) (hv:ValAt w b o c) (hI:IsVal w w.heap.size v c) (hp:IsSteps w w.heap.size p pa pl pc) (cap:Value) (QG:World->Nat->Nat->V->VC->World->Prop)
 (HDO:Hid (∀W b1 o1 x cx,uB w W->Spot w b o v p b1 o1 x cx->uP 93 #[.pointer (some ⟨b1,o1,none⟩),cap] W fun e w'=>e= .returned (.tuple #[])/\QG W b1 o1 x cx w')):
 uP 92 #[.pointer (some ⟨b,o,none⟩), .slice pa pl pc, .func (.func 93) #[] #[cap]] w fun e w'=>(e= .returned (.int .u16 30)/\getP v p=none/\uB w w')∨(e= .returned (.int .u16 0)/\∃W b1 o1 x cx,uB w W/\Spot w b o v p b1 o1 x cx/\QG W b1 o1 x cx w'):=by
 delta uB uP
 have eg:=enters_of Tryz.func93 (by kernel_rfl) rfl
 have k1:=hp.max;have k2:=hp.few
 have HLn:=qh hp.len
 have HP:=qh hp
 have hsp:Spot w b o v (p.take 0) b o v c:=⟨.nil _ _ _,hv,hI,World.block_lt_of_cell? w _ hv.c0⟩
 have HSP:=qh hsp
 clear hv hI hp hsp
 go_enter Tryz.func92,Tryz.ntmps92
 go_wp2_with fail
 go_loopw [0,8,11] (fun u _ i wr=>∃(j b1 o1:Nat) (x:V) (cx:VC),j<=pl/\i= .int .i64 j/\u= .pointer (some ⟨b1,o1,none⟩)/\Spot w b o v (p.take j) b1 o1 x cx/\uB w wr) (fun _ _ i _=>pl - (intOf i).toNat)
 case atStart=>exact ⟨0,b,o,v,c,Nat.zero_le _,rfl,rfl,HSP.out,Below.refl _ _⟩
 case round=>
  obtain ⟨j,b1,o1,x,cx,hj,rfl,rfl,hS,hbl⟩:=hrel
  have HS:=qh hS;have HBL:=qh hbl
  clear hS hbl
  by_cases hlt:j<pl
  .have hjp:j<p.length:=by have:=HLn.out;omega
   obtain ⟨sb,so,hp2,rfl,hsb,hst,hsbnd⟩:=(HP.out.keep HBL.out).get hlt
   obtain ⟨st,hste⟩:∃st,p[j]'hjp=st:=⟨_,rfl⟩
   have hst2:StepAt wr sb (so+j*3) st:=by rw [<-hste];exact hst
   have s0:=hst2.c0;have s1:=hst2.c1;have s2:=hst2.c2
   have hsbw:sb<wr.heap.size:=World.block_lt_of_cell? wr _ s0
   have HI:Hid (∀W,uB wr W->uP 136 #[.pointer (some ⟨b1,o1,none⟩), .agg #[.bool st.list, .int .i64 st.i, .string st.key]] W (IntoPost W x cx st)):=fun W hW=>by
    have h2:=HBL.out.trans (hW.mono HBL.out.size)
    exact za1 W b1 o1 x cx st ⟨Zb h2 HS.out.at_.c0 HS.out.lt,Zb h2 HS.out.at_.c1 HS.out.lt,Zb h2 HS.out.at_.c2 HS.out.lt,Zb h2 HS.out.at_.c3 HS.out.lt,Zb h2 HS.out.at_.c4 HS.out.lt⟩ (HS.out.val.later_ h2)
   have HST:=qh hste
   clear hst hst2 hste
   go_wp2_with fail
   refine (HI.out _ ((Below.refl _ _).alloc (Nat.le_refl _) _)).mono ?_
   rintro e w5 ⟨hb5,(⟨rfl,hno⟩|⟨x2,k,g,q,q',c2,rfl,hyes,_,_,_,hr⟩)⟩
   .have hb6:uB w w5:=HBL.out.trans ((((Below.refl wr.heap.size wr).alloc (Nat.le_refl _) _).trans (hb5.mono (by simp))).mono HBL.out.size)
    have hgn:=zcp hjp HS.out.way.get (by rw [HST.out];exact hno)
    have HB6:=qh hb6;have HGN:=qh hgn
    clear hb5 hno hb6 hgn
    go_wp2_with fail
    go_returns
    exact .inl ⟨rfl,HGN.out,HB6.out⟩
   .have hb6:uB w w5:=HBL.out.trans ((((Below.refl wr.heap.size wr).alloc (Nat.le_refl _) _).trans (hb5.mono (by simp))).mono HBL.out.size)
    obtain ⟨c3,hS3⟩:=HS.out.next hyes hr
    have hS4:Spot w b o v (p.take (j+1)) g q' x2 c3:=by rw [List.take_succ_eq_append_getElem hjp,HST.out];exact hS3
    have HB6:=qh hb6;have HS4:=qh hS4
    clear hb5 hyes hr hb6 hS3 hS4
    go_wp2_with fail
    go_roundw
    case rel=>exact ⟨j+1,g,q',x2,c3,by omega,by go_num,rfl,HS4.out,HB6.out⟩
    case measure=>simp [intOf];omega
  .have hjn:p.take j=p:=List.take_of_length_le (by have:=HLn.out;omega)
   have hS2:=HS.out
   rw [hjn] at hS2
   have HC:=qh (HDO.out wr b1 o1 x cx HBL.out hS2)
   have HS2:=qh hS2
   clear hS2 hjn
   go_wp2_with fail
   refine HC.out.mono ?_
   rintro e w5 ⟨rfl,hq⟩
   have HQG:=qh hq
   clear hq
   go_wp2_with fail
   go_returns
   exact .inr ⟨rfl,wr,b1,o1,x,cx,HBL.out,HS2.out,HQG.out⟩
set_option maxRecDepth 100000 in
theorem zmk (w:World) (b o:Nat) (v:V) (c:VC) (p:List St) (pa:Option Addr) (pl pc:Nat) (hv:ValAt w b o c) (hI:IsVal w w.heap.size v c) (hp:IsSteps w w.heap.size p pa pl pc) (cap:Value) (QG:World->Nat->Nat->V->VC->World->Prop)
 (HDO:Hid (∀W b1 o1 x cx,uB w W->Spot w b o v p b1 o1 x cx->uP 118 #[.pointer (some ⟨b1,o1,none⟩),cap] W fun e w'=>e= .returned (.tuple #[])/\QG W b1 o1 x cx w')):
 uP 92 #[.pointer (some ⟨b,o,none⟩), .slice pa pl pc, .func (.func 118) #[] #[cap]] w fun e w'=>(e= .returned (.int .u16 30)/\getP v p=none/\uB w w')∨(e= .returned (.int .u16 0)/\∃W b1 o1 x cx,uB w W/\Spot w b o v p b1 o1 x cx/\QG W b1 o1 x cx w'):=by
 delta uB uP
 have eg:=enters_of Tryz.func118 (by kernel_rfl) rfl
 have k1:=hp.max;have k2:=hp.few
 have HLn:=qh hp.len
 have HP:=qh hp
 have hsp:Spot w b o v (p.take 0) b o v c:=⟨.nil _ _ _,hv,hI,World.block_lt_of_cell? w _ hv.c0⟩
 have HSP:=qh hsp
 clear hv hI hp hsp
 go_enter Tryz.func92,Tryz.ntmps92
 go_wp2_with fail
 go_loopw [0,8,11] (fun u _ i wr=>∃(j b1 o1:Nat) (x:V) (cx:VC),j<=pl/\i= .int .i64 j/\u= .pointer (some ⟨b1,o1,none⟩)/\Spot w b o v (p.take j) b1 o1 x cx/\uB w wr) (fun _ _ i _=>pl - (intOf i).toNat)
 case atStart=>exact ⟨0,b,o,v,c,Nat.zero_le _,rfl,rfl,HSP.out,Below.refl _ _⟩
 case round=>
  obtain ⟨j,b1,o1,x,cx,hj,rfl,rfl,hS,hbl⟩:=hrel
  have HS:=qh hS;have HBL:=qh hbl
  clear hS hbl
  by_cases hlt:j<pl
  .have hjp:j<p.length:=by have:=HLn.out;omega
   obtain ⟨sb,so,hp2,rfl,hsb,hst,hsbnd⟩:=(HP.out.keep HBL.out).get hlt
   obtain ⟨st,hste⟩:∃st,p[j]'hjp=st:=⟨_,rfl⟩
   have hst2:StepAt wr sb (so+j*3) st:=by rw [<-hste];exact hst
   have s0:=hst2.c0;have s1:=hst2.c1;have s2:=hst2.c2
   have hsbw:sb<wr.heap.size:=World.block_lt_of_cell? wr _ s0
   have HI:Hid (∀W,uB wr W->uP 136 #[.pointer (some ⟨b1,o1,none⟩), .agg #[.bool st.list, .int .i64 st.i, .string st.key]] W (IntoPost W x cx st)):=fun W hW=>by
    have h2:=HBL.out.trans (hW.mono HBL.out.size)
    exact za1 W b1 o1 x cx st ⟨Zb h2 HS.out.at_.c0 HS.out.lt,Zb h2 HS.out.at_.c1 HS.out.lt,Zb h2 HS.out.at_.c2 HS.out.lt,Zb h2 HS.out.at_.c3 HS.out.lt,Zb h2 HS.out.at_.c4 HS.out.lt⟩ (HS.out.val.later_ h2)
   have HST:=qh hste
   clear hst hst2 hste
   go_wp2_with fail
   refine (HI.out _ ((Below.refl _ _).alloc (Nat.le_refl _) _)).mono ?_
   rintro e w5 ⟨hb5,(⟨rfl,hno⟩|⟨x2,k,g,q,q',c2,rfl,hyes,_,_,_,hr⟩)⟩
   .have hb6:uB w w5:=HBL.out.trans ((((Below.refl wr.heap.size wr).alloc (Nat.le_refl _) _).trans (hb5.mono (by simp))).mono HBL.out.size)
    have hgn:=zcp hjp HS.out.way.get (by rw [HST.out];exact hno)
    have HB6:=qh hb6;have HGN:=qh hgn
    clear hb5 hno hb6 hgn
    go_wp2_with fail
    go_returns
    exact .inl ⟨rfl,HGN.out,HB6.out⟩
   .have hb6:uB w w5:=HBL.out.trans ((((Below.refl wr.heap.size wr).alloc (Nat.le_refl _) _).trans (hb5.mono (by simp))).mono HBL.out.size)
    obtain ⟨c3,hS3⟩:=HS.out.next hyes hr
    have hS4:Spot w b o v (p.take (j+1)) g q' x2 c3:=by rw [List.take_succ_eq_append_getElem hjp,HST.out];exact hS3
    have HB6:=qh hb6;have HS4:=qh hS4
    clear hb5 hyes hr hb6 hS3 hS4
    go_wp2_with fail
    go_roundw
    case rel=>exact ⟨j+1,g,q',x2,c3,by omega,by go_num,rfl,HS4.out,HB6.out⟩
    case measure=>simp [intOf];omega
  .have hjn:p.take j=p:=List.take_of_length_le (by have:=HLn.out;omega)
   have hS2:=HS.out
   rw [hjn] at hS2
   have HC:=qh (HDO.out wr b1 o1 x cx HBL.out hS2)
   have HS2:=qh hS2
   clear hS2 hjn
   go_wp2_with fail
   refine HC.out.mono ?_
   rintro e w5 ⟨rfl,hq⟩
   have HQG:=qh hq
   clear hq
   go_wp2_with fail
   go_returns
   exact .inr ⟨rfl,wr,b1,o1,x,cx,HBL.out,HS2.out,HQG.out⟩
theorem zaf {w:World} {b:Nat} {c:VC} (h:BC w b (vcells c)):ValAt w b 0 c:=⟨h.at_ 0 _ rfl,h.at_ 1 _ rfl,h.at_ 2 _ rfl,h.at_ 3 _ rfl,h.at_ 4 _ rfl⟩
theorem Jd (W:World) (b o:Nat) (d:VC):(setV W b o d).heap.size=W.heap.size:=by simp [setV]
def PGetPost (w:World) (v:V) (p:List St) (e:Ending) (w':World):Prop:=
 Below w.heap.size w w'/\((e= .returned (.tuple #[.agg #[.int .u8 0, .int .i64 0, .string { data:= #[] }, .slice none 0 0, .slice none 0 0], .int .u16 30])/\getP v p=none)∨∃(x:V) (d:VC),e= .returned (.tuple #[.agg #[.int .u8 d.k, .int .i64 d.n, .string d.s, .slice d.la d.ll d.lc, .slice d.oa d.ol d.oc], .int .u16 0])/\getP v p=some x/\Whole w' w.heap.size x d)
theorem zcr {tmps:Array Value} {W:World} {b:Nat} {c:VC} {x:Value} (ht:tmps[4]? =some (.pointer (some ⟨b,0,none⟩))) (hx:tmps[5]? =some x) (h:BC W b (vcells c)):
 (results Tryz.f52 tmps).run Tryz.prog W= .ok (.tuple #[.agg #[.int .u8 c.k, .int .i64 c.n, .string c.s, .slice c.la c.ll c.lc, .slice c.oa c.ol c.oc],x]) W:=by
 obtain ⟨r0,r1,r2,r3,r4⟩:=row5 h.at_
 simp [results,Tryz.results52,go_sem,ht,hx,r0,r1,r2,r3,r4]
structure PG3 (w W:World) (c d:VC):Prop where
 a:BC W w.heap.size (vcells c)
 r:BC W (w.heap.size+1) (vcells vzero)
 o:BC W (w.heap.size+2) (vcells d)
 below:Below w.heap.size w W
theorem PG3.keep {w W W':World} {c d:VC} (h:PG3 w W c d) (hb:uB W W'):PG3 w W' c d:=⟨h.a.keep hb h.a.lt,h.r.keep hb h.r.lt,h.o.keep hb h.o.lt,h.below.trans (hb.mono h.below.size)⟩
theorem PG3.start (w:World) (c:VC):PG3 w (((w.alloc (.cells #[.int .u8 c.k, .int .i64 c.n, .string c.s, .slice c.la c.ll c.lc, .slice c.oa c.ol c.oc] 29)).alloc (.cells #[.int .u8 0, .int .i64 0, .string { data:= #[] }, .slice none 0 0, .slice none 0 0] 29)).alloc (.cells #[.int .u8 0, .int .i64 0, .string { data:= #[] }, .slice none 0 0, .slice none 0 0] 29)) c vzero:=by
 have b1:uB w (w.alloc (.cells (uV c) 29)):=(Below.refl _ _).alloc (Nat.le_refl _) _
 have x1:BC (w.alloc (.cells (uV c) 29)) w.heap.size (vcells c):=BC.start w (uV c) 29
 have s1:(w.alloc (.cells (uV c) 29)).heap.size=w.heap.size+1:=World.size_alloc ..
 generalize w.alloc (.cells (uV c) 29)=w1 at b1 x1 s1 ⊢
 have b2:uB w1 (w1.alloc (.cells (uU 0 0 { data:= #[] } none 0 0 none 0 0) 29)):=(Below.refl _ _).alloc (Nat.le_refl _) _
 have x2:BC (w1.alloc (.cells (uU 0 0 { data:= #[] } none 0 0 none 0 0) 29)) w1.heap.size (vcells vzero):=BC.start w1 (uU 0 0 { data:= #[] } none 0 0 none 0 0) 29
 have s2:(w1.alloc (.cells (uU 0 0 { data:= #[] } none 0 0 none 0 0) 29)).heap.size=w1.heap.size+1:=World.size_alloc ..
 have x12:=x1.keep b2 x1.lt
 generalize w1.alloc (.cells (uU 0 0 { data:= #[] } none 0 0 none 0 0) 29)=w2 at b2 x2 s2 x12 ⊢
 have b3:uB w2 (w2.alloc (.cells (uU 0 0 { data:= #[] } none 0 0 none 0 0) 29)):=(Below.refl _ _).alloc (Nat.le_refl _) _
 have x3:BC (w2.alloc (.cells (uU 0 0 { data:= #[] } none 0 0 none 0 0) 29)) w2.heap.size (vcells vzero):=BC.start w2 (uU 0 0 { data:= #[] } none 0 0 none 0 0) 29
 have x13:=x12.keep b3 x12.lt
 have x23:=x2.keep b3 x2.lt
 rw [s1] at x23
 rw [s2,s1] at x3
 exact ⟨x13,x23,x3,(b1.trans (b2.mono (by omega))).trans (b3.mono (by omega))⟩
set_option maxRecDepth 100000 in
theorem Qp (w:World) (v:V) (c:VC) (p:List St) (pa:Option Addr) (pl pc:Nat) (hI:IsVal w w.heap.size v c) (hp:IsSteps w w.heap.size p pa pl pc):
 uP 52 #[.agg (uV c), .slice pa pl pc] w (PGetPost w v p):=by
 delta uV uP
 have HB:=qh (PG3.start w c)
 have HI:=qh hI;have HP:=qh hp
 clear hI hp
 go_enter Tryz.func52,Tryz.ntmps52
 generalize hQ0:bodyPost _ _ _=Q0
 have HQ:=qh hQ0
 clear hQ0
 go_upto_region 2 with fail
 have HBB:=HB.out
 generalize World.alloc _ _=w3 at HBB ⊢
 have HB3:=qh HBB
 have HC:Hid (uP 92 #[.pointer (some ⟨w.heap.size,0,none⟩), .slice pa pl pc, .func (.func 93) #[] #[.pointer (some ⟨w.heap.size+2,0,none⟩)]] w3 fun e w'=>(e= .returned (.int .u16 30)/\getP v p=none/\uB w3 w')∨(e= .returned (.int .u16 0)/\∃W b1 o1 x cx,uB w3 W/\Spot w3 w.heap.size 0 v p b1 o1 x cx/\(∃(w4:World) (d:VC),Whole w4 W.heap.size x d/\uB W w4/\w'=setV w4 (w.heap.size+2) 0 d))):=
  zmx w3 w.heap.size 0 v c p pa pl pc (zaf HBB.a) (HI.out.later_ HBB.below) (HP.out.later_ HBB.below) _ (fun W b1 o1 x cx w'=>∃(w4:World) (d:VC),Whole w4 W.heap.size x d/\uB W w4/\w'=setV w4 (w.heap.size+2) 0 d)
   (fun W b1 o1 x cx hW hS=>zhz W b1 o1 x cx ⟨Zb hW hS.at_.c0 hS.lt,Zb hW hS.at_.c1 hS.lt,Zb hW hS.at_.c2 hS.lt,Zb hW hS.at_.c3 hS.lt,Zb hW hS.at_.c4 hS.lt⟩ (hS.val.later_ hW) (w.heap.size+2) vzero (HB3.out.o.keep hW HB3.out.o.lt))
 clear HBB HB
 go_wp2_with fail
 refine HC.out.mono ?_
 rintro e w5 (⟨rfl,hno,hb5⟩|⟨rfl,W,b1,o1,x,cx,hW,hS,w4,d,hwh,hb4,rfl⟩)
 .have hK:=HB3.out.keep hb5
  obtain ⟨y0,y1,y2,y3,y4⟩:=row5 hK.o.at_
  obtain ⟨r0,r1,r2,r3,r4⟩:=row5 hK.r.at_
  have f0:=hK.r.fr 0;have f1:=hK.r.fr 1;have f2:=hK.r.fr 2;have f3:=hK.r.fr 3;have f4:=hK.r.fr 4
  have zo:=hK.o.lt;have zr:=hK.r.lt
  have HK:=qh hK;have HNO:=qh hno
  clear hK hno hb5
  go_wp2_with fail
  rw [<-HQ.out]
  have st:=Zi w5 (w.heap.size+1) 0 vzero
  exact ⟨rfl,_,zcr rfl rfl (Zy HK.out.r vzero),HK.out.below.trans (st.lowC (by omega) HK.out.below.size), .inl ⟨rfl,HNO.out⟩⟩
 .have hK:=(HB3.out.keep hW).keep hb4
  have st:=Zi w4 (w.heap.size+2) 0 d
  have ho:=Zy hK.o d
  have hr:=hK.r.next st (by omega)
  have hw5:Whole (setV w4 (w.heap.size+2) 0 d) W.heap.size x d:=hwh.beside st (by have:=HB3.out.o.lt;have:=hW.size;omega) (Jd _ _ _ _)
  have hb5:uB w (setV w4 (w.heap.size+2) 0 d):=hK.below.trans (st.lowC (by omega) hK.below.size)
  have hz5:w.heap.size+2<W.heap.size:=by have:=HB3.out.o.lt;have:=hW.size;omega
  have HGP:=qh hS.way.get
  obtain ⟨w6,hw6⟩:∃w6,setV w4 (w.heap.size+2) 0 d=w6:=⟨_,rfl⟩
  rw [hw6] at ho hr hw5 hb5 ⊢
  obtain ⟨y0,y1,y2,y3,y4⟩:=row5 ho.at_
  obtain ⟨r0,r1,r2,r3,r4⟩:=row5 hr.at_
  have f0:=hr.fr 0;have f1:=hr.fr 1;have f2:=hr.fr 2;have f3:=hr.fr 3;have f4:=hr.fr 4
  have zo:=ho.lt;have zr:=hr.lt
  have HR:=qh hr;have HW:=qh hw5;have HB5:=qh hb5
  clear hK st ho hr hw5 hb5 hw6 hwh hb4 hW hS
  go_wp2_with fail
  rw [<-HQ.out]
  have st:=Zi w6 (w.heap.size+1) 0 d
  exact ⟨rfl,_,zcr rfl rfl (Zy HR.out d),HB5.out.trans (st.lowC (by omega) HB5.out.size), .inr ⟨x,d,rfl,HGP.out,((HW.out.beside st (by omega) (Jd _ _ _ _)).low (by omega))⟩⟩
def PPutPost (w:World) (v:V) (p:List St) (x:V) (e:Ending) (w':World):Prop:=
 Below w.heap.size w w'/\((e= .returned (.tuple #[.agg #[.int .u8 0, .int .i64 0, .string { data:= #[] }, .slice none 0 0, .slice none 0 0], .int .u16 30])/\getP v p=none)∨∃(z:V) (d:VC),e= .returned (.tuple #[.agg #[.int .u8 d.k, .int .i64 d.n, .string d.s, .slice d.la d.ll d.lc, .slice d.oa d.ol d.oc], .int .u16 0])/\putP v p x=some z/\IsVal (only (fun b=>w.heap.size<=b) w') w'.heap.size z d)
theorem zbp {tmps:Array Value} {W:World} {b:Nat} {c:VC} {x:Value} (ht:tmps[6]? =some (.pointer (some ⟨b,0,none⟩))) (hx:tmps[7]? =some x) (h:BC W b (vcells c)):
 (results Tryz.f71 tmps).run Tryz.prog W= .ok (.tuple #[.agg #[.int .u8 c.k, .int .i64 c.n, .string c.s, .slice c.la c.ll c.lc, .slice c.oa c.ol c.oc],x]) W:=by
 obtain ⟨r0,r1,r2,r3,r4⟩:=row5 h.at_
 simp [results,Tryz.results71,go_sem,ht,hx,r0,r1,r2,r3,r4]
structure PP3 (w W:World) (c y:VC):Prop where
 a:BC W w.heap.size (vcells c)
 x:BC W (w.heap.size+1) (vcells y)
 r:BC W (w.heap.size+2) (vcells vzero)
 below:Below w.heap.size w W
theorem PP3.keep {w W W':World} {c d:VC} (h:PP3 w W c d) (hb:uB W W'):PP3 w W' c d:=⟨h.a.keep hb h.a.lt,h.x.keep hb h.x.lt,h.r.keep hb h.r.lt,h.below.trans (hb.mono h.below.size)⟩
theorem PP3.start (w:World) (c y:VC):PP3 w (((w.alloc (.cells #[.int .u8 c.k, .int .i64 c.n, .string c.s, .slice c.la c.ll c.lc, .slice c.oa c.ol c.oc] 29)).alloc (.cells #[.int .u8 y.k, .int .i64 y.n, .string y.s, .slice y.la y.ll y.lc, .slice y.oa y.ol y.oc] 29)).alloc (.cells #[.int .u8 0, .int .i64 0, .string { data:= #[] }, .slice none 0 0, .slice none 0 0] 29)) c y:=by
 have b1:uB w (w.alloc (.cells (uV c) 29)):=(Below.refl _ _).alloc (Nat.le_refl _) _
 have x1:BC (w.alloc (.cells (uV c) 29)) w.heap.size (vcells c):=BC.start w (uV c) 29
 have s1:(w.alloc (.cells (uV c) 29)).heap.size=w.heap.size+1:=World.size_alloc ..
 generalize w.alloc (.cells (uV c) 29)=w1 at b1 x1 s1 ⊢
 have b2:uB w1 (w1.alloc (.cells (uV y) 29)):=(Below.refl _ _).alloc (Nat.le_refl _) _
 have x2:BC (w1.alloc (.cells (uV y) 29)) w1.heap.size (vcells y):=BC.start w1 (uV y) 29
 have s2:(w1.alloc (.cells (uV y) 29)).heap.size=w1.heap.size+1:=World.size_alloc ..
 have x12:=x1.keep b2 x1.lt
 generalize w1.alloc (.cells (uV y) 29)=w2 at b2 x2 s2 x12 ⊢
 have b3:uB w2 (w2.alloc (.cells (uU 0 0 { data:= #[] } none 0 0 none 0 0) 29)):=(Below.refl _ _).alloc (Nat.le_refl _) _
 have x3:BC (w2.alloc (.cells (uU 0 0 { data:= #[] } none 0 0 none 0 0) 29)) w2.heap.size (vcells vzero):=BC.start w2 (uU 0 0 { data:= #[] } none 0 0 none 0 0) 29
 have x13:=x12.keep b3 x12.lt
 have x23:=x2.keep b3 x2.lt
 rw [s1] at x23
 rw [s2,s1] at x3
 exact ⟨x13,x23,x3,(b1.trans (b2.mono (by omega))).trans (b3.mono (by omega))⟩
theorem zhn {W:World} {b o:Nat} {d:VC} {k q:Nat} (h:¬(k=b/\o<=q/\q<o+5)):(setV W b o d).cell? ⟨k,q,none⟩=W.cell? ⟨k,q,none⟩:=by
 have hs:∀(W:World) (j:Nat) (x:Value),o<=j->j<o+5->(W.setCell ⟨b,j,none⟩ x).cell? ⟨k,q,none⟩=W.cell? ⟨k,q,none⟩:=fun W j x h1 h2=>World.cell?_setCell_other _ _ _ _ (by
  intro e
  injection e with e1 e2
  exact h ⟨e1.symm,by omega,by omega⟩)
 unfold setV
 rw [hs _ _ _ (by omega) (by omega),hs _ _ _ (by omega) (by omega),hs _ _ _ (by omega) (by omega),hs _ _ _ (by omega) (by omega),hs _ _ _ (by omega) (by omega)]
theorem zho {W:World} {b o:Nat} {c0:VC} (h:ValAt W b o c0) (d:VC):ValAt (setV W b o d) b o d:=by
 have g0:=h.c0;have g1:=h.c1;have g2:=h.c2;have g3:=h.c3;have g4:=h.c4
 unfold setV
 constructor<;>simp [go_sem,g0,g1,g2,g3,g4]
theorem znf {W1 W w5:World} {S:Nat->Prop} {v x y:V} {ob:Nat} {d0 cx d:VC} {p:List St} {b1 o1:Nat} (hS:SepAt W1 S v ob 0 d0) (hobw:ob<W1.heap.size) (hsp:Spot W1 ob 0 v p b1 o1 x cx) (hW:uB W1 W) (h5:uB W w5) (hy:Whole w5 W.heap.size y d):
 ∃z cz S2,putP v p y=some z/\SepAt (setV w5 b1 o1 d) S2 z ob 0 cz/\(∀k,S2 k->S k∨W.heap.size<=k)/\(b1=ob∨S b1):=by
 obtain ⟨b',o',Sx,cx',h1,h2,h3,h4,h6⟩:=zao p hS hsp.way.get
 obtain ⟨rfl,rfl,_⟩:=hsp.way.one h2
 have hb1:=hsp.lt
 have hWs:=hW.size;have h5s:=h5.size
 have st:=Zi w5 b1 o1 d
 obtain ⟨S',g1,g2,g3⟩:=(hy.beside st (by omega) (Jd _ _ _ _)).sepI
 have hva:ValAt w5 b1 o1 cx:=by
  have e:∀q u,W1.cell? ⟨b1,q,none⟩=some u->w5.cell? ⟨b1,q,none⟩=some u:=fun q u hu=>Zb h5 (Zb hW hu hb1) (by omega)
  exact ⟨e _ _ hsp.at_.c0,e _ _ hsp.at_.c1,e _ _ hsp.at_.c2,e _ _ hsp.at_.c3,e _ _ hsp.at_.c4⟩
 obtain ⟨z,cz,hz1,hz2⟩:=h6 (setV w5 b1 o1 d) S' y d (by rw [Jd];omega) (fun k q hk hn=>by
  have hkl:k<W1.heap.size:=by
   rcases hk with hk|rfl
   .exact hS.sep.bnd k hk
   .exact hobw
  rw [zhn hn]
  exact World.cell?_of_block ((h5.block k (by omega)).trans (hW.block k hkl))) ⟨zho hva d,g3,fun e=>by have:=(g1 _ e).1;omega⟩ (fun k hk=>⟨fun e=>by have h7:=hS.sep.bnd k e;have h8:=(g1 k hk).1;omega,fun e=>by have h8:=(g1 k hk).1;omega⟩)
 exact ⟨z,cz,_,hz1,hz2,fun k hk=>hk.imp (fun h=>h) (fun h=>(g1 k h).1),h3.imp (fun h=>h.1) (fun h=>h)⟩
theorem zm8 {W1:World} {S:Nat->Prop} {v x:V} {ob:Nat} {d0 cx:VC} {p:List St} {b1 o1:Nat} (hS:SepAt W1 S v ob 0 d0) (hf:Soft W1 S) (hob:∀q,W1.frozen? ⟨ob,q,none⟩=false) (hsp:Spot W1 ob 0 v p b1 o1 x cx) (q:Nat):W1.frozen? ⟨b1,q,none⟩=false:=by
 obtain ⟨b',o',Sx,cx',h1,h2,h3,_⟩:=zao p hS hsp.way.get
 obtain ⟨rfl,rfl,_⟩:=hsp.way.one h2
 rcases h3 with ⟨rfl,_⟩|h3
 .exact hob q
 .exact hf _ q h3
set_option maxRecDepth 100000 in
theorem Q6 (w:World) (v y:V) (c cy:VC) (p:List St) (pa:Option Addr) (pl pc:Nat) (hI:IsVal w w.heap.size v c) (hp:IsSteps w w.heap.size p pa pl pc) (hy:IsVal w w.heap.size y cy):
 uP 71 #[.agg (uV c), .slice pa pl pc, .agg (uV cy)] w (PPutPost w v p y):=by
 delta uV uP
 have HB:=qh (PP3.start w c cy)
 have HI:=qh hI;have HP:=qh hp;have HY:=qh hy
 clear hI hp hy
 go_enter Tryz.func71,Tryz.ntmps71
 generalize hQ0:bodyPost _ _ _=Q0
 have HQ:=qh hQ0
 clear hQ0
 go_upto_region 1 with fail
 have HBB:=HB.out
 generalize World.alloc _ _=w3 at HBB ⊢
 have HB3:=qh HBB
 obtain ⟨y0,y1,y2,y3,y4⟩:=row5 HBB.a.at_
 have za:=HBB.a.lt;have zx:=HBB.x.lt;have zr:=HBB.r.lt
 have HC:=qh (Yt w3 v c (HI.out.later_ HBB.below))
 clear HBB HB
 go_wp2_with fail
 refine HC.out.mono ?_
 rintro e w4 ⟨⟨d0,rfl,hwh⟩,hb4⟩
 have HW4:=qh hwh;have HB4:=qh hb4
 clear hwh hb4 y0 y1 y2 y3 y4 HC
 go_upto_region 2 with fail
 have hn:=BC.start w4 (uV d0) 29
 have hbn:uB w4 (w4.alloc (.cells (uV d0) 29)):=(Below.refl _ _).alloc (Nat.le_refl _) _
 generalize World.alloc _ _=W1 at hn hbn ⊢
 obtain ⟨S,i1,i2,i3⟩:=HW4.out.sepI
 have hz4:=HB4.out.size
 have hSA:SepAt W1 S v w4.heap.size 0 d0:=⟨zaf hn,i3.keep hbn.size fun k q hk=>World.cell?_of_block (hbn.block k (i1 k hk).2),fun e=>by have:=(i1 _ e).2;omega⟩
 have hsf:Soft W1 S:=fun k q hk=>by rw [Yq (hbn.block k (i1 k hk).2)];exact i2 k q hk
 have hlow:∀k,S k->w3.heap.size<=k/\k<w4.heap.size:=i1
 have h31:uB w3 W1:=HB4.out.trans (hbn.mono hz4)
 have hK1:=HB3.out.keep h31
 have HSA:=qh hSA;have HSF:=qh hsf;have HLO:=qh hlow;have HN:=qh hn;have HK1:=qh hK1;have HBN:=qh hbn
 have HD:Hid (uP 92 #[.pointer (some ⟨w4.heap.size,0,none⟩), .slice pa pl pc, .func (.func 118) #[] #[.pointer (some ⟨w.heap.size+1,0,none⟩)]] W1 fun e w'=>(e= .returned (.int .u16 30)/\getP v p=none/\uB W1 w')∨(e= .returned (.int .u16 0)/\∃W b1 o1 x cx,uB W1 W/\Spot W1 w4.heap.size 0 v p b1 o1 x cx/\(∃(w5:World) (d:VC),Whole w5 W.heap.size y d/\uB W w5/\w'=setV w5 b1 o1 d))):=
  zmk W1 w4.heap.size 0 v d0 p pa pl pc hSA.at_ (zdj hSA.sep) (HP.out.later_ hK1.below) _ (fun W b1 o1 _ _ w'=>∃(w5:World) (d:VC),Whole w5 W.heap.size y d/\uB W w5/\w'=setV w5 b1 o1 d)
   (fun W b1 o1 x cx hW hS=>zl1 W b1 o1 cx ⟨Zb hW hS.at_.c0 hS.lt,Zb hW hS.at_.c1 hS.lt,Zb hW hS.at_.c2 hS.lt,Zb hW hS.at_.c3 hS.lt,Zb hW hS.at_.c4 hS.lt⟩ (fun q=>by rw [Yq (hW.block b1 hS.lt)];exact zm8 HSA.out HSF.out HN.out.fr hS q) (w.heap.size+1) y cy (HK1.out.x.keep hW HK1.out.x.lt) (HY.out.later_ (HK1.out.below.trans (hW.mono HK1.out.below.size))))
 have hz1:W1.heap.size=w4.heap.size+1∨w4.heap.size<W1.heap.size:= .inr hn.lt
 clear hn hbn hSA hsf hlow h31 hK1 i1 i2 i3 hz1
 go_wp2_with fail
 refine HD.out.mono ?_
 rintro e w6 (⟨rfl,hno,hb6⟩|⟨rfl,W,b1,o1,x,cx,hW,hS,w5,d,hwh,hb5,rfl⟩)
 .have hK:=HK1.out.keep hb6
  obtain ⟨r0,r1,r2,r3,r4⟩:=row5 hK.r.at_
  have f0:=hK.r.fr 0;have f1:=hK.r.fr 1;have f2:=hK.r.fr 2;have f3:=hK.r.fr 3;have f4:=hK.r.fr 4
  have zr6:=hK.r.lt
  have HK:=qh hK;have HNO:=qh hno
  clear hK hno hb6
  go_wp2_with fail
  rw [<-HQ.out]
  have st:=Zi w6 (w.heap.size+2) 0 vzero
  exact ⟨rfl,_,zbp rfl rfl (Zy HK.out.r vzero),HK.out.below.trans (st.lowC (by omega) HK.out.below.size), .inl ⟨rfl,HNO.out⟩⟩
 .obtain ⟨z,cz,S2,hz1,hz2,hz3,hz4'⟩:=znf HSA.out HN.out.lt hS hW hb5 hwh
  have hz0:w.heap.size+3<=w3.heap.size:=by omega
  have hb1:w3.heap.size<=b1:=by
   rcases hz4' with rfl|h
   .exact hz4
   .exact (HLO.out _ h).1
  have hK:=(HK1.out.keep hW).keep hb5
  have st:=Zi w5 b1 o1 d
  have hr:=hK.r.next st (by omega)
  have hWz:=hW.size
  have hN1:=HN.out.lt
  have hlo2:∀k,S2 k->w.heap.size+3<=k:=fun k hk=>by
   rcases hz3 k hk with h|h
   .have:=(HLO.out k h).1;omega
   .omega
  have hb6:uB w (setV w5 b1 o1 d):=hK.below.trans (st.lowC (by omega) hK.below.size)
  generalize setV w5 b1 o1 d=w6 at hz2 hr hb6 ⊢
  have c0:=hz2.at_.c0;have c1:w6.cell? ⟨w4.heap.size,1,none⟩=_:=hz2.at_.c1;have c2:w6.cell? ⟨w4.heap.size,2,none⟩=_:=hz2.at_.c2;have c3:w6.cell? ⟨w4.heap.size,3,none⟩=_:=hz2.at_.c3;have c4:w6.cell? ⟨w4.heap.size,4,none⟩=_:=hz2.at_.c4
  obtain ⟨r0,r1,r2,r3,r4⟩:=row5 hr.at_
  have f0:=hr.fr 0;have f1:=hr.fr 1;have f2:=hr.fr 2;have f3:=hr.fr 3;have f4:=hr.fr 4
  have zr6:=hr.lt
  have zo6:w4.heap.size<w6.heap.size:=World.block_lt_of_cell? w6 _ c0
  have HZ1:=qh hz1;have HZ2:=qh hz2;have HR6:=qh hr;have HB6:=qh hb6;have HL2:=qh hlo2
  clear hz1 hz2 hr hb6 hlo2 hz3 hz4' hK st hwh hb5 hW hS
  go_wp2_with fail
  rw [<-HQ.out]
  have st:=Zi w6 (w.heap.size+2) 0 cz
  have hfin:Sep (setV w6 (w.heap.size+2) 0 cz) S2 z cz:=HZ2.out.sep.keep st.size fun k q hk=>World.cell?_of_block (st.block k (HZ2.out.sep.bnd k hk) (by have:=HL2.out k hk;omega))
  exact ⟨rfl,_,zbp rfl rfl (Zy HR6.out cz),HB6.out.trans (st.lowC (by omega) HB6.out.size), .inr ⟨z,cz,rfl,HZ1.out,hfin.isVal fun k hk=>by have:=HL2.out k hk;omega⟩⟩
end Go.Proofs.YtbgheehjfnoiiaaGreatDoor
