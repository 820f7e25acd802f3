/-
  Contracts of the functions that the law reaches: path.into: the place one step on. What.
-/
import Derived.Test.YtnjgbiachcfigaaGreatDoorCt14
namespace Go.Proofs.YtnjgbiachcfigaaGreatDoor
open Go.RowKit
set_option maxHeartbeats 8000000
def IntoPost (w:World) (v:V) (c:VC) (s:St) (e:Ending) (w':World):Prop:=
 Below w.heap.size w w'/\((e= .returned (.pointer none)/\stepP v s=none)∨∃(x:V) (k g q q':Nat) (cx:VC),e= .returned (.pointer (some ⟨g,q',none⟩))/\stepP v s=some (x,k)/\IsVal w w.heap.size x cx/\ValAt w g q' cx/\g<w.heap.size/\
  ((s.list=true/\c.la=some ⟨g,q,none⟩/\q'=q+k*5)∨(s.list=false/\c.oa=some ⟨g,q,none⟩/\q'=q+k*6+1)))
set_option maxRecDepth 100000 in
theorem zhb (w:World) (b o:Nat) (v:V) (c:VC) (s:St) (hv:ValAt w b o c) (hI:IsVal w w.heap.size v c) (hs:s.list=true):
 Calls Tryz.prog 115 #[.pointer (some ⟨b,o,none⟩), .agg #[.bool s.list, .int .i64 s.i, .string s.key]] w (IntoPost w v c s):=by
 obtain ⟨vk,vn,vs,l,ol,rfl⟩:=v.eta
 obtain ⟨rfl,rfl,rfl,hb,h1,h2⟩:=hI.lists
 have c0:=hv.c0;have c3:=hv.c3
 have hbw:b<w.heap.size:=World.block_lt_of_cell? w _ c0
 have hln:=h1.len
 have k1:=h1.max;have k2:=h1.few
 obtain ⟨R,hR⟩:∃R,IntoPost w (.mk c.k c.n c.s l ol) c s=R:=⟨_,rfl⟩
 have HR:=qh hR
 rw [hR]
 have hal:Below w.heap.size w (w.alloc (.cells #[.bool s.list, .int .i64 s.i, .string s.key] 77)):=(Below.refl _ _).alloc (Nat.le_refl _) _
 have HAL:=qh hal
 have hno:¬(c.k=4/\0<=s.i/\s.i<l.length)->stepP (.mk c.k c.n c.s l ol) s=none:=fun h=>by
  unfold stepP;rw [if_pos hs,if_neg (show ¬((V.mk c.k c.n c.s l ol).kd=4/\0<=s.i/\s.i<((V.mk c.k c.n c.s l ol).ls.length:Int)) from h)]
 have HNO:=qh hno
 have HH1:=qh h1;have HL:=qh hln;have HS:=qh hs
 clear hno hR hal h2 hI hv hb
 by_cases e1:c.k=4
 .by_cases e2:s.i<0
  .have HST:Hid (stepP (.mk c.k c.n c.s l ol) s=none):=HNO.out (fun h=>by omega)
   have f1:(c.k !=4)=false:=by simp [e1]
   have f2:decide (s.i<0)=true:=decide_eq_true e2
   rw [hs] at HAL ⊢
   clear e1 e2 hln hs
   go_enter Tryz.func115,Tryz.ntmps115
   go_wp2_with fail
   go_quiet (fail)
   go_wp2_with fail
   rw [<-HR.out]
   exact ⟨Z6 HAL.out _, .inl ⟨rfl,HST.out⟩⟩
  .have f1:(c.k !=4)=false:=by simp [e1]
   have f2:decide (s.i<0)=false:=decide_eq_false e2
   by_cases e3:s.i<(c.ll:Int)
   .obtain ⟨k,hk⟩:∃k:Nat,s.i=k:=⟨s.i.toNat,by omega⟩
    have hlt:k<c.ll:=by omega
    obtain ⟨g,q,f,hp,ha,hgB,hfv,hfI⟩:=h1.get hlt
    have HST:Hid (stepP (.mk c.k c.n c.s l ol) s=some (l[k]'hp,k)):=by
     show _=_
     unfold stepP
     have e4:(V.mk c.k c.n c.s l ol).kd=4/\0<=s.i/\s.i<((V.mk c.k c.n c.s l ol).ls.length:Int):=⟨e1,by omega,by show s.i<(l.length:Int);omega⟩
     rw [if_pos hs,if_pos e4,hk]
     show some (l.getD k V.none,k)=_
     simp [List.getD_eq_getElem?_getD,hp]
    have HFV:=qh hfv;have HFI:=qh hfI;have HA:=qh ha
    have f3:decide ((k:Int)≥(c.ll:Int))=false:=by simp;omega
    have f2':decide ((k:Int)<0)=false:=by simp
    rw [hk] at HAL
    rw [hs] at HAL ⊢
    rw [hk]
    rw [ha] at c3
    have HK:=qh hk
    clear e1 e2 e3 f2 hln hfv hfI ha hk h1 hs
    go_enter Tryz.func115,Tryz.ntmps115
    go_wp2_with fail
    go_quiet (fail)
    go_wp2_with fail
    go_quiet (fail)
    go_wp2_with fail
    rw [<-HR.out]
    exact ⟨Z6 (Z6 HAL.out _) _, .inr ⟨l[k]'hp,k,g,q,q+k*5,f,rfl,HST.out,HFI.out,HFV.out,hgB, .inl ⟨HS.out,HA.out,rfl⟩⟩⟩
   .have HST:Hid (stepP (.mk c.k c.n c.s l ol) s=none):=HNO.out (fun h=>by omega)
    have f3:decide (s.i≥(c.ll:Int))=true:=by simp;omega
    rw [hs] at HAL ⊢
    clear e1 e2 e3 hln hs
    go_enter Tryz.func115,Tryz.ntmps115
    go_wp2_with fail
    go_quiet (fail)
    go_wp2_with fail
    rw [<-HR.out]
    exact ⟨Z6 HAL.out _, .inl ⟨rfl,HST.out⟩⟩
 .have f1:(c.k !=4)=true:=by simp [e1]
  have HST:Hid (stepP (.mk c.k c.n c.s l ol) s=none):=HNO.out (fun h=>e1 h.1)
  rw [hs] at HAL ⊢
  clear e1 hs
  go_enter Tryz.func115,Tryz.ntmps115
  go_wp2_with fail
  go_quiet (fail)
  go_wp2_with fail
  rw [<-HR.out]
  exact ⟨Z6 HAL.out _, .inl ⟨rfl,HST.out⟩⟩
theorem zh7 {o:List (ByteArray×V)} {key:ByteArray} (h:fieldIs o key=true):fieldK o key<o.length:=by
 unfold fieldIs at h
 by_cases hl:fieldK o key<o.length
 .exact hl
 .rw [List.getElem?_eq_none (by omega)] at h;simp at h
set_option maxRecDepth 100000 in
theorem zh8 (w:World) (b o:Nat) (v:V) (c:VC) (s:St) (hv:ValAt w b o c) (hI:IsVal w w.heap.size v c) (hs:s.list=false):
 Calls Tryz.prog 115 #[.pointer (some ⟨b,o,none⟩), .agg #[.bool s.list, .int .i64 s.i, .string s.key]] w (IntoPost w v c s):=by
 obtain ⟨vk,vn,vs,l,ol,rfl⟩:=v.eta
 obtain ⟨rfl,rfl,rfl,hb,h1,h2⟩:=hI.lists
 have hbw:b<w.heap.size:=World.block_lt_of_cell? w _ hv.c0
 have k1:=h2.max;have k2:=h2.few
 obtain ⟨is,his⟩:∃is,fieldIs ol s.key=is:=⟨_,rfl⟩
 obtain ⟨fk,hfk⟩:∃fk,fieldK ol s.key=fk:=⟨_,rfl⟩
 have HC:Hid (∀W,Below w.heap.size w W->Calls Tryz.prog 79 #[.agg #[.int .u8 c.k, .int .i64 c.n, .string c.s, .slice c.la c.ll c.lc, .slice c.oa c.ol c.oc], .string s.key] W fun e w'=>e= .returned (.tuple #[.int .i64 (fk:Int), .bool is])/\Below W.heap.size W w'):=fun W hW=>by
  rw [<-his, <-hfk];exact X6 W ol s.key c (h2.later_ hW)
 obtain ⟨R,hR⟩:∃R,IntoPost w (.mk c.k c.n c.s l ol) c s=R:=⟨_,rfl⟩
 have HR:=qh hR
 rw [hR]
 have hno:¬(c.k=5/\is=true)->stepP (.mk c.k c.n c.s l ol) s=none:=fun h=>by
  unfold stepP
  rw [if_neg (by rw [hs];simp),if_neg (show ¬((V.mk c.k c.n c.s l ol).kd=5/\fieldIs (V.mk c.k c.n c.s l ol).os s.key=true) from fun e=>h ⟨e.1,by rw [<-his];exact e.2⟩)]
 have hyes:c.k=5/\is=true->∃(x:V) (g q:Nat) (f:VC),fk<c.ol/\stepP (.mk c.k c.n c.s l ol) s=some (x,fk)/\c.oa=some ⟨g,q,none⟩/\g<w.heap.size/\ValAt w g (q+fk*6+1) f/\IsVal w w.heap.size x f:=fun h=>by
  have hlt:fk<ol.length:=by rw [<-hfk];exact zh7 (by rw [his];exact h.2)
  obtain ⟨g,q,f,hp,ha,hgB,hkey,hks,hfv,hfI⟩:=h2.get (k:=fk) (by have:=h2.len;omega)
  refine ⟨_,g,q,f,by have:=h2.len;omega, ?_,ha,hgB,hfv,hfI⟩
  unfold stepP
  rw [if_neg (by rw [hs];simp),if_pos (show (V.mk c.k c.n c.s l ol).kd=5/\fieldIs (V.mk c.k c.n c.s l ol).os s.key=true from ⟨h.1,by rw [<-h.2, <-his];rfl⟩)]
  show some ((ol.getD (fieldK ol s.key) (.empty,V.none)).2,fieldK ol s.key)=_
  rw [hfk]
  simp [List.getD_eq_getElem?_getD,hlt]
 have hal:Below w.heap.size w (w.alloc (.cells #[.bool false, .int .i64 s.i, .string s.key] 77)):=(Below.refl _ _).alloc (Nat.le_refl _) _
 have hbx:BC (w.alloc (.cells #[.bool false, .int .i64 s.i, .string s.key] 77)) w.heap.size [.bool false, .int .i64 s.i, .string s.key] :=BC.start w #[.bool false, .int .i64 s.i, .string s.key] 77
 have hzz:(w.alloc (.cells #[.bool false, .int .i64 s.i, .string s.key] 77)).heap.size=w.heap.size+1:=World.size_alloc ..
 obtain ⟨oa,hoa⟩:∃oa,c.oa=oa:=⟨_,rfl⟩
 have HOA:=qh hoa
 have HV4:Hid (w.cell? ⟨b,o+4,none⟩=some (.slice oa c.ol c.oc)):=by show _=_;rw [<-hoa];exact hv.c4
 clear hoa
 have HNO:=qh hno;have HYES:=qh hyes;have HS:=qh hs;have HV:=qh hv
 rw [hs]
 clear hno hyes hR h1 h2 hI hv hb hs his hfk
 go_enter Tryz.func115,Tryz.ntmps115
 go_upto_region 5 with fail
 generalize World.alloc _ _=wb at hal hbx hzz ⊢
 have HFB:Hid (∀W,Below wb.heap.size wb.drew W->W.cell? ⟨w.heap.size,2,none⟩=some (.string s.key)/\W.cell? ⟨b,o,none⟩=some (.int .u8 c.k)/\W.cell? ⟨b,o+1,none⟩=some (.int .i64 c.n)/\W.cell? ⟨b,o+2,none⟩=some (.string c.s)/\W.cell? ⟨b,o+3,none⟩=some (.slice c.la c.ll c.lc)/\W.cell? ⟨b,o+4,none⟩=some (.slice oa c.ol c.oc)):=by
  intro W hW
  have h3:=(Zf wb).trans hW
  have hk:∀q u,w.cell? ⟨b,q,none⟩=some u->W.cell? ⟨b,q,none⟩=some u:=fun q u h=>Zb (hal.trans (h3.mono hal.size)) h hbw
  exact ⟨Zb h3 (hbx.at_ 2 _ rfl) hbx.lt,hk _ _ HV.out.c0,hk _ _ HV.out.c1,hk _ _ HV.out.c2,hk _ _ HV.out.c3,hk _ _ HV4.out⟩
 have HCW:Hid (∀W,Below wb.heap.size wb.drew W->Calls Tryz.prog 79 #[.agg #[.int .u8 c.k, .int .i64 c.n, .string c.s, .slice c.la c.ll c.lc, .slice oa c.ol c.oc], .string s.key] W fun e w'=>e= .returned (.tuple #[.int .i64 (fk:Int), .bool is])/\Below W.heap.size W w'):=fun W hW=>by rw [<-HOA.out];exact HC.out W (hal.trans (((Zf wb).trans hW).mono hal.size))
 have HAL:=qh hal
 clear hal hbx
 refine wp_region_noPanic ?_
 go_region_held_law (fun W=>W.cell? ⟨w.heap.size,2,none⟩=some (.string s.key)/\W.cell? ⟨b,o,none⟩=some (.int .u8 c.k)/\W.cell? ⟨b,o+1,none⟩=some (.int .i64 c.n)/\W.cell? ⟨b,o+2,none⟩=some (.string c.s)/\W.cell? ⟨b,o+3,none⟩=some (.slice c.la c.ll c.lc)/\W.cell? ⟨b,o+4,none⟩=some (.slice oa c.ol c.oc))
  ((refine HFB.out _ ?_;(first|(with_reducible exact bl4)|(with_reducible exact Below.refl _ _))))
  (first
   |(go_at_call 79;(with_reducible refine (HCW.out _ (Below.refl _ _)).mono ?_);rintro e w4 ⟨rfl,hb4⟩;have bl4:Below wb.heap.size wb.drew w4:=hb4))
 refine NoPanic.normal ?_
 have hb4:Below w.heap.size w w4:=HAL.out.trans (((Zf wb).trans bl4).mono HAL.out.size)
 have d0:=Zb hb4 HV.out.c0 hbw;have d4:=Zb hb4 HV4.out hbw
 have hbw4:b<w4.heap.size:=Nat.lt_of_lt_of_le hbw hb4.size
 have HB4:=qh hb4
 clear hb4 bl4
 by_cases e5:c.k=5
 .have f1:(c.k !=5)=false:=by simp [e5]
  cases is with
  | true=>
    obtain ⟨x,g,q,f,hlt,hst,ha,hgB,hfv,hfI⟩:=HYES.out ⟨e5,rfl⟩
    have HST:=qh hst;have HA:=qh ha;have HFV:=qh hfv;have HFI:=qh hfI
    have hoa2:oa=some ⟨g,q,none⟩:=by rw [<-HOA.out];exact ha
    subst hoa2
    clear hst ha hfv hfI e5
    go_wp2_with fail
    rw [<-HR.out]
    exact ⟨HB4.out, .inr ⟨x,fk,g,q,q+fk*6+1,f,rfl,HST.out,HFI.out,HFV.out,hgB, .inr ⟨HS.out,HA.out,rfl⟩⟩⟩
  | false=>
    have HST:Hid (stepP (.mk c.k c.n c.s l ol) s=none):=HNO.out (fun h=>by cases h.2)
    clear e5
    go_wp2_with fail
    rw [<-HR.out]
    exact ⟨HB4.out, .inl ⟨rfl,HST.out⟩⟩
 .have f1:(c.k !=5)=true:=by simp [e5]
  have HST:Hid (stepP (.mk c.k c.n c.s l ol) s=none):=HNO.out (fun h=>e5 h.1)
  clear e5
  go_wp2_with fail
  rw [<-HR.out]
  exact ⟨HB4.out, .inl ⟨rfl,HST.out⟩⟩
theorem zbv (w:World) (b o:Nat) (v:V) (c:VC) (s:St) (hv:ValAt w b o c) (hI:IsVal w w.heap.size v c):
 Calls Tryz.prog 115 #[.pointer (some ⟨b,o,none⟩), .agg #[.bool s.list, .int .i64 s.i, .string s.key]] w (IntoPost w v c s):=by
 cases hs:s.list with
 |true=>rw [<-hs];exact zhb w b o v c s hv hI hs
 |false=>rw [<-hs];exact zh8 w b o v c s hv hI hs
theorem IsVal.child {w:World} {B:Nat} {v x:V} {c:VC} {s:St} {k:Nat} (h:IsVal w B v c) (hs:stepP v s=some (x,k)):
 (s.list=true/\∃g q cx,c.la=some ⟨g,q,none⟩/\g<B/\ValAt w g (q+k*5) cx/\IsVal w B x cx)∨(s.list=false/\∃g q cx,c.oa=some ⟨g,q,none⟩/\g<B/\ValAt w g (q+k*6+1) cx/\IsVal w B x cx):=by
 obtain ⟨vk,vn,vs,l,ol,rfl⟩:=v.eta
 obtain ⟨rfl,rfl,rfl,hb,h1,h2⟩:=h.lists
 rcases Xd hs with ⟨hl,_,_,hk,hx⟩|⟨hl,_,_,hk,hx⟩
 .have hk:k<l.length:=hk
  have hx:l[k] =x:=hx
  obtain ⟨g,q,f,hp,ha,hgB,hfv,hfI⟩:=h1.get (k:=k) (by have:=h1.len;omega)
  exact .inl ⟨hl,g,q,f,ha,hgB,hfv,by rw [<-hx];exact hfI⟩
 .have hk:k<ol.length:=hk
  have hx:ol[k].2=x:=hx
  obtain ⟨g,q,f,hp,ha,hgB,hkey,hks,hfv,hfI⟩:=h2.get (k:=k) (by have:=h2.len;omega)
  exact .inr ⟨hl,g,q,f,ha,hgB,hfv,by rw [<-hx];exact hfI⟩
theorem zad {w:World} {b o:Nat} {c d:VC} (h:ValAt w b o c) (g:ValAt w b o d):c=d:=by
 obtain ⟨h0,h1,h2,h3,h4⟩:=h
 obtain ⟨g0,g1,g2,g3,g4⟩:=g
 rw [h0] at g0;rw [h1] at g1;rw [h2] at g2;rw [h3] at g3;rw [h4] at g4
 obtain ⟨ck,cn,cs,cla,cll,clc,coa,col,coc⟩:=c
 obtain ⟨dk,dn,ds,dla,dll,dlc,doa,dol,doc⟩:=d
 simp only [Option.some.injEq,Value.int.injEq,Value.string.injEq,Value.slice.injEq,true_and] at g0 g1 g2 g3 g4
 simp only [VC.mk.injEq]
 exact ⟨g0,g1,g2,g3.1,g3.2.1,g3.2.2,g4.1,g4.2.1,g4.2.2⟩
theorem Way.one {w:World} {b o:Nat} {v:V} {p:List St} {b1 o1:Nat} {x:V} (h:Way w b o v p b1 o1 x):∀ {b2 o2:Nat} {y:V},Way w b o v p b2 o2 y->b1=b2/\o1=o2/\x=y:=by
 induction h with
 |nil b o v=>intro b2 o2 y g;cases g;exact ⟨rfl,rfl,rfl⟩
 | list b o v x y c s r k g q b' o' hv hi hs hl ha h ih=>
   intro b2 o2 y2 e
   cases e with
   | list _ _ _ x2 _ c2 _ _ k2 g2 q2 _ _ hv2 hi2 hs2 hl2 ha2 h2=>
     obtain rfl:=zad hv hv2
     rw [hs] at hs2;injection hs2 with hs2;injection hs2 with e1 e2
     subst e1 e2
     rw [ha] at ha2;injection ha2 with ha2;injection ha2 with e1 e2
     subst e1 e2
     exact ih h2
   |obj _ _ _ x2 _ c2 _ _ k2 g2 q2 _ _ hv2 hi2 hs2 hl2 ha2 h2=>rw [hl] at hl2;cases hl2
 | obj b o v x y c s r k g q b' o' hv hi hs hl ha h ih=>
   intro b2 o2 y2 e
   cases e with
   | obj _ _ _ x2 _ c2 _ _ k2 g2 q2 _ _ hv2 hi2 hs2 hl2 ha2 h2=>
     obtain rfl:=zad hv hv2
     rw [hs] at hs2;injection hs2 with hs2;injection hs2 with e1 e2
     subst e1 e2
     rw [ha] at ha2;injection ha2 with ha2;injection ha2 with e1 e2
     subst e1 e2
     exact ih h2
   |list _ _ _ x2 _ c2 _ _ k2 g2 q2 _ _ hv2 hi2 hs2 hl2 ha2 h2=>rw [hl] at hl2;cases hl2
theorem Way.snoc {w:World} {b o:Nat} {v:V} {p:List St} {b1 o1:Nat} {x:V} (h:Way w b o v p b1 o1 x):∀ {s:St} {b2 o2:Nat} {y:V},Way w b1 o1 x [s] b2 o2 y->Way w b o v (p++ [s]) b2 o2 y:=by
 induction h with
 |nil b o v=>exact fun g=>g
 |list b o v x y c s r k g q b' o' hv hi hs hl ha h ih=>exact fun e=> .list b o v x _ c s _ k g q _ _ hv hi hs hl ha (ih e)
 |obj b o v x y c s r k g q b' o' hv hi hs hl ha h ih=>exact fun e=> .obj b o v x _ c s _ k g q _ _ hv hi hs hl ha (ih e)
set_option maxRecDepth 100000 in
theorem zke (w:World) (b o:Nat) (x:V) (c:VC) (hv:ValAt w b o c) (hI:IsVal w w.heap.size x c) (ob:Nat) (z:VC) (hz:BC w ob (vcells z)):
 Calls Tryz.prog 77 #[.pointer (some ⟨b,o,none⟩), .pointer (some ⟨ob,0,none⟩)] w fun e w'=>e= .returned (.tuple #[])/\∃(w4:World) (d:VC),Whole w4 w.heap.size x d/\Below w.heap.size w w4/\w'=setV w4 ob 0 d:=by
 have HC:=qh (Y2 w x c hI)
 have c0:=hv.c0;have c1:=hv.c1;have c2:=hv.c2;have c3:=hv.c3;have c4:=hv.c4
 have hbw:b<w.heap.size:=World.block_lt_of_cell? w _ c0
 have HZ:=qh hz
 clear hv hI hz
 go_enter Tryz.func77,Tryz.ntmps77
 go_wp2_with fail
 refine HC.out.mono ?_
 rintro e w4 ⟨⟨d,rfl,hh⟩,hbl⟩
 have Z4:=HZ.out.keep hbl HZ.out.lt
 obtain ⟨z0,z1,z2,z3,z4⟩:=row5 Z4.at_
 have f0:=Z4.fr 0;have f1:=Z4.fr 1;have f2:=Z4.fr 2;have f3:=Z4.fr 3;have f4:=Z4.fr 4
 have zl:=Z4.lt
 have HH:=qh hh;have HB:=qh hbl
 clear Z4 hh hbl
 go_wp2_with fail
 refine ⟨rfl, .tuple #[],by simp [results,Tryz.results77,go_sem],rfl,w4,d,HH.out,HB.out,rfl⟩
set_option maxRecDepth 100000 in
theorem ze1 (w:World) (b o:Nat) (c0:VC) (hv:ValAt w b o c0) (hf:∀q,w.frozen? ⟨b,q,none⟩=false) (xb:Nat) (x:V) (c:VC) (hx:BC w xb (vcells c)) (hI:IsVal w w.heap.size x c):
 Calls Tryz.prog 84 #[.pointer (some ⟨b,o,none⟩), .pointer (some ⟨xb,0,none⟩)] w fun e w'=>e= .returned (.tuple #[])/\∃(w4:World) (d:VC),Whole w4 w.heap.size x d/\Below w.heap.size w w4/\w'=setV w4 b o d:=by
 have HC:=qh (Y2 w x c hI)
 have hbw:b<w.heap.size:=World.block_lt_of_cell? w _ hv.c0
 obtain ⟨y0,y1,y2,y3,y4⟩:=row5 hx.at_
 have hxw:=hx.lt
 have HV:=qh hv;have HF:=qh hf
 clear hv hI hx hf
 go_enter Tryz.func84,Tryz.ntmps84
 go_wp2_with fail
 refine HC.out.mono ?_
 rintro e w4 ⟨⟨d,rfl,hh⟩,hbl⟩
 have z0:=Zb hbl HV.out.c0 hbw;have z1:=Zb hbl HV.out.c1 hbw;have z2:=Zb hbl HV.out.c2 hbw;have z3:=Zb hbl HV.out.c3 hbw;have z4:=Zb hbl HV.out.c4 hbw
 have hfr:∀q,w4.frozen? ⟨b,q,none⟩=false:=fun q=>by rw [Yj (hbl.block b hbw)];exact HF.out q
 have f0:=hfr o;have f1:=hfr (o+1);have f2:=hfr (o+2);have f3:=hfr (o+3);have f4:=hfr (o+4)
 have zl:b<w4.heap.size:=Nat.lt_of_lt_of_le hbw hbl.size
 have HH:=qh hh;have HB:=qh hbl
 clear hh hbl hfr
 go_wp2_with fail
 refine ⟨rfl, .tuple #[],by simp [results,Tryz.results84,go_sem],rfl,w4,d,HH.out,HB.out,rfl⟩
theorem zk4 (q:List St):∀(v:V) (r:List St),getP v (q++r)=(getP v q).bind fun x=>getP x r:=by
 induction q with
 |nil=>intro v r;rfl
 | cons s q ih=>
   intro v r
   simp only [List.cons_append,getP]
   cases stepP v s with
   |none=>rfl
   |some u=>exact ih u.1 r
theorem Way.get {w:World} {b o:Nat} {v:V} {p:List St} {b1 o1:Nat} {x:V} (h:Way w b o v p b1 o1 x):getP v p=some x:=by
 induction h with
 |nil b o v=>rfl
 |list b o v x y c s r k g q b' o' hv hi hs hl ha h ih=>unfold getP;rw [hs];exact ih
 |obj b o v x y c s r k g q b' o' hv hi hs hl ha h ih=>unfold getP;rw [hs];exact ih
theorem zco {v x:V} {p:List St} {j:Nat} (hj:j<p.length) (hg:getP v (p.take j)=some x) (hs:stepP x p[j] =none):getP v p=none:=by
 have e:p=p.take j++(p[j] ::p.drop (j+1)):=by rw [<-List.drop_eq_getElem_cons hj,List.take_append_drop]
 rw [e,zk4,hg]
 show getP x _=none
 unfold getP
 rw [hs]
structure Spot (w:World) (b o:Nat) (v:V) (p:List St) (b1 o1:Nat) (x:V) (cx:VC):Prop where
 way:Way w b o v p b1 o1 x
 at_:ValAt w b1 o1 cx
 val:IsVal w w.heap.size x cx
 lt:b1<w.heap.size
theorem Spot.next {w:World} {b o:Nat} {v:V} {p:List St} {b1 o1:Nat} {x:V} {cx:VC} {s:St} {x2:V} {k g q q':Nat} (h:Spot w b o v p b1 o1 x cx) (hs:stepP x s=some (x2,k))
 (hr:(s.list=true/\cx.la=some ⟨g,q,none⟩/\q'=q+k*5)∨(s.list=false/\cx.oa=some ⟨g,q,none⟩/\q'=q+k*6+1)):∃c2,Spot w b o v (p++ [s]) g q' x2 c2:=by
 rcases h.val.child hs with ⟨hl,g2,q2,c2,ha,hgB,hfv,hfI⟩|⟨hl,g2,q2,c2,ha,hgB,hfv,hfI⟩
 .rcases hr with ⟨_,ha2,rfl⟩|⟨hl2,_⟩
  .rw [ha] at ha2;injection ha2 with ha2;injection ha2 with e1 e2
   subst e1 e2
   exact ⟨c2,h.way.snoc (.list _ _ _ x2 _ cx s [] k g2 q2 _ _ h.at_ h.val hs hl ha (.nil _ _ _)),hfv,hfI,hgB⟩
  .rw [hl] at hl2;cases hl2
 .rcases hr with ⟨hl2,_⟩|⟨_,ha2,rfl⟩
  .rw [hl] at hl2;cases hl2
  .rw [ha] at ha2;injection ha2 with ha2;injection ha2 with e1 e2
   subst e1 e2
   exact ⟨c2,h.way.snoc (.obj _ _ _ x2 _ cx s [] k g2 q2 _ _ h.at_ h.val hs hl ha (.nil _ _ _)),hfv,hfI,hgB⟩
set_option maxRecDepth 100000 in
theorem zko (w:World) (b o:Nat) (v:V) (c:VC) (p:List St) (pa:Option Addr) (pl pc:Nat) (hv:ValAt w b o c) (hI:IsVal w w.heap.size v c) (hp:IsSteps w w.heap.size p pa pl pc) (cap:Value) (QG:World->Nat->Nat->V->VC->World->Prop)
 (HDO:Hid (∀W b1 o1 x cx,Below w.heap.size w W->Spot w b o v p b1 o1 x cx->Calls Tryz.prog 77 #[.pointer (some ⟨b1,o1,none⟩),cap] W fun e w'=>e= .returned (.tuple #[])/\QG W b1 o1 x cx w')):
 Calls Tryz.prog 76 #[.pointer (some ⟨b,o,none⟩), .slice pa pl pc, .func (.func 77) #[] #[cap]] w fun e w'=>(e= .returned (.int .u16 30)/\getP v p=none/\Below w.heap.size w w')∨(e= .returned (.int .u16 0)/\∃W b1 o1 x cx,Below w.heap.size w W/\Spot w b o v p b1 o1 x cx/\QG W b1 o1 x cx w'):=by
 have eg:=enters_of Tryz.func77 (by kernel_rfl) rfl
 have k1:=hp.max;have k2:=hp.few
 have HLn:=qh hp.len
 have HP:=qh hp
 have hsp:Spot w b o v (p.take 0) b o v c:=⟨.nil _ _ _,hv,hI,World.block_lt_of_cell? w _ hv.c0⟩
 have HSP:=qh hsp
 clear hv hI hp hsp
 go_enter Tryz.func76,Tryz.ntmps76
 go_wp2_with fail
 go_loopw [0,8,11] (fun u _ i wr=>∃(j b1 o1:Nat) (x:V) (cx:VC),j<=pl/\i= .int .i64 j/\u= .pointer (some ⟨b1,o1,none⟩)/\Spot w b o v (p.take j) b1 o1 x cx/\Below w.heap.size w wr) (fun _ _ i _=>pl - (intOf i).toNat)
 case atStart=>exact ⟨0,b,o,v,c,Nat.zero_le _,rfl,rfl,HSP.out,Below.refl _ _⟩
 case round=>
  obtain ⟨j,b1,o1,x,cx,hj,rfl,rfl,hS,hbl⟩:=hrel
  have HS:=qh hS;have HBL:=qh hbl
  clear hS hbl
  by_cases hlt:j<pl
  .have hjp:j<p.length:=by have:=HLn.out;omega
   obtain ⟨sb,so,hp2,rfl,hsb,hst,hsbnd⟩:=(HP.out.keep HBL.out).get hlt
   obtain ⟨st,hste⟩:∃st,p[j]'hjp=st:=⟨_,rfl⟩
   have hst2:StepAt wr sb (so+j*3) st:=by rw [<-hste];exact hst
   have s0:=hst2.c0;have s1:=hst2.c1;have s2:=hst2.c2
   have hsbw:sb<wr.heap.size:=World.block_lt_of_cell? wr _ s0
   have HI:Hid (∀W,Below wr.heap.size wr W->Calls Tryz.prog 115 #[.pointer (some ⟨b1,o1,none⟩), .agg #[.bool st.list, .int .i64 st.i, .string st.key]] W (IntoPost W x cx st)):=fun W hW=>by
    have h2:=HBL.out.trans (hW.mono HBL.out.size)
    exact zbv W b1 o1 x cx st ⟨Zb h2 HS.out.at_.c0 HS.out.lt,Zb h2 HS.out.at_.c1 HS.out.lt,Zb h2 HS.out.at_.c2 HS.out.lt,Zb h2 HS.out.at_.c3 HS.out.lt,Zb h2 HS.out.at_.c4 HS.out.lt⟩ (HS.out.val.later_ h2)
   have HST:=qh hste
   clear hst hst2 hste
   go_wp2_with fail
   refine (HI.out _ ((Below.refl _ _).alloc (Nat.le_refl _) _)).mono ?_
   rintro e w5 ⟨hb5,(⟨rfl,hno⟩|⟨x2,k,g,q,q',c2,rfl,hyes,_,_,_,hr⟩)⟩
   .have hb6:Below w.heap.size w w5:=HBL.out.trans ((((Below.refl wr.heap.size wr).alloc (Nat.le_refl _) _).trans (hb5.mono (by simp))).mono HBL.out.size)
    have hgn:=zco hjp HS.out.way.get (by rw [HST.out];exact hno)
    have HB6:=qh hb6;have HGN:=qh hgn
    clear hb5 hno hb6 hgn
    go_wp2_with fail
    go_returns
    exact .inl ⟨rfl,HGN.out,HB6.out⟩
   .have hb6:Below w.heap.size w w5:=HBL.out.trans ((((Below.refl wr.heap.size wr).alloc (Nat.le_refl _) _).trans (hb5.mono (by simp))).mono HBL.out.size)
    obtain ⟨c3,hS3⟩:=HS.out.next hyes hr
    have hS4:Spot w b o v (p.take (j+1)) g q' x2 c3:=by rw [List.take_succ_eq_append_getElem hjp,HST.out];exact hS3
    have HB6:=qh hb6;have HS4:=qh hS4
    clear hb5 hyes hr hb6 hS3 hS4
    go_wp2_with fail
    go_roundw
    case rel=>exact ⟨j+1,g,q',x2,c3,by omega,by go_num,rfl,HS4.out,HB6.out⟩
    case measure=>simp [intOf];omega
  .have hjn:p.take j=p:=List.take_of_length_le (by have:=HLn.out;omega)
   have hS2:=HS.out
   rw [hjn] at hS2
   have HC:=qh (HDO.out wr b1 o1 x cx HBL.out hS2)
   have HS2:=qh hS2
   clear hS2 hjn
   go_wp2_with fail
   refine HC.out.mono ?_
   rintro e w5 ⟨rfl,hq⟩
   have HQG:=qh hq
   clear hq
   go_wp2_with fail
   go_returns
   exact .inr ⟨rfl,wr,b1,o1,x,cx,HBL.out,HS2.out,HQG.out⟩
set_option maxRecDepth 100000 in
theorem zec (w:World) (b o:Nat) (v:V) (c:VC) (p:List St) (pa:Option Addr) (pl pc:Nat) (hv:ValAt w b o c) (hI:IsVal w w.heap.size v c) (hp:IsSteps w w.heap.size p pa pl pc) (cap:Value) (QG:World->Nat->Nat->V->VC->World->Prop)
 (HDO:Hid (∀W b1 o1 x cx,Below w.heap.size w W->Spot w b o v p b1 o1 x cx->Calls Tryz.prog 84 #[.pointer (some ⟨b1,o1,none⟩),cap] W fun e w'=>e= .returned (.tuple #[])/\QG W b1 o1 x cx w')):
 Calls Tryz.prog 76 #[.pointer (some ⟨b,o,none⟩), .slice pa pl pc, .func (.func 84) #[] #[cap]] w fun e w'=>(e= .returned (.int .u16 30)/\getP v p=none/\Below w.heap.size w w')∨(e= .returned (.int .u16 0)/\∃W b1 o1 x cx,Below w.heap.size w W/\Spot w b o v p b1 o1 x cx/\QG W b1 o1 x cx w'):=by
 have eg:=enters_of Tryz.func84 (by kernel_rfl) rfl
 have k1:=hp.max;have k2:=hp.few
 have HLn:=qh hp.len
 have HP:=qh hp
 have hsp:Spot w b o v (p.take 0) b o v c:=⟨.nil _ _ _,hv,hI,World.block_lt_of_cell? w _ hv.c0⟩
 have HSP:=qh hsp
 clear hv hI hp hsp
 go_enter Tryz.func76,Tryz.ntmps76
 go_wp2_with fail
 go_loopw [0,8,11] (fun u _ i wr=>∃(j b1 o1:Nat) (x:V) (cx:VC),j<=pl/\i= .int .i64 j/\u= .pointer (some ⟨b1,o1,none⟩)/\Spot w b o v (p.take j) b1 o1 x cx/\Below w.heap.size w wr) (fun _ _ i _=>pl - (intOf i).toNat)
 case atStart=>exact ⟨0,b,o,v,c,Nat.zero_le _,rfl,rfl,HSP.out,Below.refl _ _⟩
 case round=>
  obtain ⟨j,b1,o1,x,cx,hj,rfl,rfl,hS,hbl⟩:=hrel
  have HS:=qh hS;have HBL:=qh hbl
  clear hS hbl
  by_cases hlt:j<pl
  .have hjp:j<p.length:=by have:=HLn.out;omega
   obtain ⟨sb,so,hp2,rfl,hsb,hst,hsbnd⟩:=(HP.out.keep HBL.out).get hlt
   obtain ⟨st,hste⟩:∃st,p[j]'hjp=st:=⟨_,rfl⟩
   have hst2:StepAt wr sb (so+j*3) st:=by rw [<-hste];exact hst
   have s0:=hst2.c0;have s1:=hst2.c1;have s2:=hst2.c2
   have hsbw:sb<wr.heap.size:=World.block_lt_of_cell? wr _ s0
   have HI:Hid (∀W,Below wr.heap.size wr W->Calls Tryz.prog 115 #[.pointer (some ⟨b1,o1,none⟩), .agg #[.bool st.list, .int .i64 st.i, .string st.key]] W (IntoPost W x cx st)):=fun W hW=>by
    have h2:=HBL.out.trans (hW.mono HBL.out.size)
    exact zbv W b1 o1 x cx st ⟨Zb h2 HS.out.at_.c0 HS.out.lt,Zb h2 HS.out.at_.c1 HS.out.lt,Zb h2 HS.out.at_.c2 HS.out.lt,Zb h2 HS.out.at_.c3 HS.out.lt,Zb h2 HS.out.at_.c4 HS.out.lt⟩ (HS.out.val.later_ h2)
   have HST:=qh hste
   clear hst hst2 hste
   go_wp2_with fail
   refine (HI.out _ ((Below.refl _ _).alloc (Nat.le_refl _) _)).mono ?_
   rintro e w5 ⟨hb5,(⟨rfl,hno⟩|⟨x2,k,g,q,q',c2,rfl,hyes,_,_,_,hr⟩)⟩
   .have hb6:Below w.heap.size w w5:=HBL.out.trans ((((Below.refl wr.heap.size wr).alloc (Nat.le_refl _) _).trans (hb5.mono (by simp))).mono HBL.out.size)
    have hgn:=zco hjp HS.out.way.get (by rw [HST.out];exact hno)
    have HB6:=qh hb6;have HGN:=qh hgn
    clear hb5 hno hb6 hgn
    go_wp2_with fail
    go_returns
    exact .inl ⟨rfl,HGN.out,HB6.out⟩
   .have hb6:Below w.heap.size w w5:=HBL.out.trans ((((Below.refl wr.heap.size wr).alloc (Nat.le_refl _) _).trans (hb5.mono (by simp))).mono HBL.out.size)
    obtain ⟨c3,hS3⟩:=HS.out.next hyes hr
    have hS4:Spot w b o v (p.take (j+1)) g q' x2 c3:=by rw [List.take_succ_eq_append_getElem hjp,HST.out];exact hS3
    have HB6:=qh hb6;have HS4:=qh hS4
    clear hb5 hyes hr hb6 hS3 hS4
    go_wp2_with fail
    go_roundw
    case rel=>exact ⟨j+1,g,q',x2,c3,by omega,by go_num,rfl,HS4.out,HB6.out⟩
    case measure=>simp [intOf];omega
  .have hjn:p.take j=p:=List.take_of_length_le (by have:=HLn.out;omega)
   have hS2:=HS.out
   rw [hjn] at hS2
   have HC:=qh (HDO.out wr b1 o1 x cx HBL.out hS2)
   have HS2:=qh hS2
   clear hS2 hjn
   go_wp2_with fail
   refine HC.out.mono ?_
   rintro e w5 ⟨rfl,hq⟩
   have HQG:=qh hq
   clear hq
   go_wp2_with fail
   go_returns
   exact .inr ⟨rfl,wr,b1,o1,x,cx,HBL.out,HS2.out,HQG.out⟩
end Go.Proofs.YtnjgbiachcfigaaGreatDoor
