/-
  Contracts of the functions that the law reaches: inv.Turned. slices.Reverse of.
-/
import Derived.Test.YtnjgbiachcfigaaGreatDoorIa37
import Derived.Test.YtnjgbiachcfigaaGreatDoorIa38
namespace Go.Proofs.YtnjgbiachcfigaaGreatDoor
open Go.RowKit
set_option maxHeartbeats 16000000
structure TB (w W:World) (cv:VC) (cc:CC):Prop where
 v:BC W w.heap.size (vcells cv)
 c:BC W (w.heap.size+1) (ccells cc)
 r:BC W (w.heap.size+1+1) (ccells czero)
 below:Below w.heap.size w W
theorem TB.keep {w W W':World} {cv:VC} {cc:CC} (h:TB w W cv cc) (hb:uB W W'):TB w W' cv cc:=⟨h.v.keep hb h.v.lt,h.c.keep hb h.c.lt,h.r.keep hb h.r.lt,h.below.trans (hb.mono h.below.size)⟩
theorem TB.start (w:World) (cv:VC) (cc:CC) (t0 t1 t2:TypeId):TB w (((w.alloc (.cells #[.int .u8 cv.k, .int .i64 cv.n, .string cv.s, .slice cv.la cv.ll cv.lc, .slice cv.oa cv.ol cv.oc] t0)).alloc (.cells #[.int .u8 cc.k, .slice cc.pa cc.pl cc.pc, .string cc.key, .int .i64 cc.i, .int .i64 cc.j, .int .i64 cc.n, .int .u8 cc.v.k, .int .i64 cc.v.n, .string cc.v.s, .slice cc.v.la cc.v.ll cc.v.lc, .slice cc.v.oa cc.v.ol cc.v.oc, .string cc.s] t1)).alloc (.cells #[.int .u8 0, .slice none 0 0, .string { data:= #[] }, .int .i64 0, .int .i64 0, .int .i64 0, .int .u8 0, .int .i64 0, .string { data:= #[] }, .slice none 0 0, .slice none 0 0, .string { data:= #[] }] t2)) cv cc:=by
 obtain ⟨q1,q2,q3,q4,q5⟩:=Jp w #[.int .u8 cv.k, .int .i64 cv.n, .string cv.s, .slice cv.la cv.ll cv.lc, .slice cv.oa cv.ol cv.oc] #[.int .u8 cc.k, .slice cc.pa cc.pl cc.pc, .string cc.key, .int .i64 cc.i, .int .i64 cc.j, .int .i64 cc.n, .int .u8 cc.v.k, .int .i64 cc.v.n, .string cc.v.s, .slice cc.v.la cc.v.ll cc.v.lc, .slice cc.v.oa cc.v.ol cc.v.oc, .string cc.s] #[.int .u8 0, .slice none 0 0, .string { data:= #[] }, .int .i64 0, .int .i64 0, .int .i64 0, .int .u8 0, .int .i64 0, .string { data:= #[] }, .slice none 0 0, .slice none 0 0, .string { data:= #[] }] #[] t0 t1 t2 t0
 obtain ⟨w1,h1⟩:∃w1,(w.alloc (.cells (uV cv) t0)).alloc (.cells (uC cc) t1)=w1:=⟨_,rfl⟩
 obtain ⟨b1,b2,b3,b4⟩:=Qf w #[.int .u8 cv.k, .int .i64 cv.n, .string cv.s, .slice cv.la cv.ll cv.lc, .slice cv.oa cv.ol cv.oc] #[.int .u8 cc.k, .slice cc.pa cc.pl cc.pc, .string cc.key, .int .i64 cc.i, .int .i64 cc.j, .int .i64 cc.n, .int .u8 cc.v.k, .int .i64 cc.v.n, .string cc.v.s, .slice cc.v.la cc.v.ll cc.v.lc, .slice cc.v.oa cc.v.ol cc.v.oc, .string cc.s] t0 t1
 rw [h1] at b1 b2 b3 b4 ⊢
 have hb:=Zu w1 (.cells #[.int .u8 0, .slice none 0 0, .string { data:= #[] }, .int .i64 0, .int .i64 0, .int .i64 0, .int .u8 0, .int .i64 0, .string { data:= #[] }, .slice none 0 0, .slice none 0 0, .string { data:= #[] }] t2)
 have hr:=BC.start w1 #[.int .u8 0, .slice none 0 0, .string { data:= #[] }, .int .i64 0, .int .i64 0, .int .i64 0, .int .u8 0, .int .i64 0, .string { data:= #[] }, .slice none 0 0, .slice none 0 0, .string { data:= #[] }] t2
 rw [b4] at hr
 exact ⟨b1.keep hb b1.lt,b2.keep hb b2.lt,hr,b3.trans (hb.mono b3.size)⟩
def TdPost (k:IntKind) (w:World) (r:Cm×Int) (e:Ending) (w':World):Prop:=
 (∃d:CC,e= .returned (.tuple #[.agg #[.int .u8 d.k, .slice d.pa d.pl d.pc, .string d.key, .int .i64 d.i, .int .i64 d.j, .int .i64 d.n, .int .u8 d.v.k, .int .i64 d.v.n, .string d.v.s, .slice d.v.la d.v.ll d.v.lc, .slice d.v.oa d.v.ol d.v.oc, .string d.s], .int k r.2])/\IsComp (only (fun b=>w.heap.size<=b) w') w'.heap.size r.1 d)/\Below w.heap.size w w'
theorem J5 (w:World) (B:Nat):IsComp w B Cm.none czero:= .mk czero [] V.none ⟨by decide,by decide,by decide,by decide,by decide,by decide,by decide,by decide,by decide,by decide⟩ (IsSteps.nil w B) (Zo _ _)
theorem zbv (x:V) (c:Cm):(turnP x c).v.weight<=x.weight:=by
 have h1:V.none.weight<=x.weight:=by rw [Q6];obtain ⟨k,n,s,l,o,rfl⟩:=x.eta;simp only [V.weight];omega
 have hl:(x.ls.getD c.i.toNat V.none).weight<=x.weight:=by
  obtain ⟨k,n,s,l,o,rfl⟩:=x.eta
  show (l.getD _ _).weight<=_
  rw [List.getD_eq_getElem?_getD]
  cases hq:l[c.i.toNat]? with
  |none=>exact h1
  | some y=>
    obtain ⟨hi,rfl⟩:=List.getElem?_eq_some_iff.1 hq
    have:=Xu l _ hi
    rw [V.weight,Option.getD_some];omega
 have ho:(x.os.getD (fieldK x.os c.key) (.empty,V.none)).2.weight<=x.weight:=by
  obtain ⟨k,n,s,l,o,rfl⟩:=x.eta
  show (o.getD _ _).2.weight<=_
  rw [List.getD_eq_getElem?_getD]
  rw [show (V.mk k n s l o).os=o from rfl]
  cases hq:o[fieldK o c.key]? with
  |none=>exact h1
  | some y=>
    obtain ⟨hi,rfl⟩:=List.getElem?_eq_some_iff.1 hq
    have:=X1 o _ hi
    rw [V.weight,Option.getD_some];omega
 unfold turnP
 (repeat' split)<;>first|exact h1|exact hl|exact ho
theorem Kz {tmps:Array Value} {W:World} {b:Nat} {d:CC} {x:Value} (ht:tmps[4]? =some (.pointer (some ⟨b,0,none⟩))) (hx:tmps[5]? =some x) (h:BC W b (ccells d)):
 (results Tryz.f27 tmps).run Tryz.prog W= .ok (.tuple #[.agg #[.int .u8 d.k, .slice d.pa d.pl d.pc, .string d.key, .int .i64 d.i, .int .i64 d.j, .int .i64 d.n, .int .u8 d.v.k, .int .i64 d.v.n, .string d.v.s, .slice d.v.la d.v.ll d.v.lc, .slice d.v.oa d.v.ol d.v.oc, .string d.s],x]) W:=by
 obtain ⟨r0,r1,r2,r3,r4,r5,r6,r7,r8,r9,r10,r11⟩:=row12 h.at_
 simp [results,Tryz.results27,go_sem,ht,hx,r0,r1,r2,r3,r4,r5,r6,r7,r8,r9,r10,r11]
set_option maxRecDepth 100000 in
theorem Kl (w:World) (cv:VC) (v:V) (hv:IsVal w w.heap.size v cv) (hw:v.weight<=1000000000000) (p:List St) (xv:V) (cc:CC) (hcb:cc.Bnd) (hp:IsSteps w w.heap.size p cc.pa cc.pl cc.pc) (hxv:IsVal w w.heap.size xv cc.v) (hxw:xv.weight<=4611686018427387904) (hsz:cc.s.size<=1000000000000) (hT:Tabs w):
 uP 27 #[.agg (uV cv), .agg (uC cc)] w (TdPost .u16 w (turnedP v ⟨cc.k,p,cc.key,cc.i,cc.j,cc.n,xv,cc.s⟩)):=by
 delta uV uC uP
 have HCK:Hid (∀W,uB w W->uP 35 #[.agg (uV cv), .agg (uC cc)] W fun e w'=>e= .returned (.int .u16 (checkP v ⟨cc.k,p,cc.key,cc.i,cc.j,cc.n,xv,cc.s⟩))/\uB W w'):=qh fun W hW=>Xw W cv.k cv.n cv.s cv.la cv.ll cv.lc cv.oa cv.ol cv.oc v (hv.later_ hW) hw p xv cc hcb (hp.later_ hW) (hxv.later_ hW) hxw (hT.below hW)
 have HGT:Hid (∀x,getP v p=some x->∀W,uB w W->uP 42 #[.agg (uV cv), .slice cc.pa cc.pl cc.pc] W fun e w'=>(∃d:VC,e= .returned (.tuple #[.agg #[.int .u8 d.k, .int .i64 d.n, .string d.s, .slice d.la d.ll d.lc, .slice d.oa d.ol d.oc], .int .u16 0])/\IsVal w' w'.heap.size x d)/\uB W w'):=qh fun x hx W hW=>by
  refine (Xz W v cv p cc.pa cc.pl cc.pc (hv.later_ hW) (hp.later_ hW)).mono ?_
  rintro e w' ⟨hb,⟨_,hn⟩|⟨y,d,rfl,hy,hwh⟩⟩
  .rw [hx] at hn;cases hn
  .obtain rfl:x=y:=Option.some.inj (hx.symm.trans hy)
   exact ⟨⟨d,rfl,hwh.isVal⟩,hb⟩
 have HTN:Hid (∀x (d:VC) W,getP v p=some x->checkP v ⟨cc.k,p,cc.key,cc.i,cc.j,cc.n,xv,cc.s⟩=0->uB w W->IsVal W W.heap.size x d->uP 64 #[.agg (uV d), .agg (uC cc)] W (TNPost W (turnP x ⟨cc.k,p,cc.key,cc.i,cc.j,cc.n,xv,cc.s⟩))):=qh fun x d W hx hc hW hI=>by
  obtain ⟨hs,x',hg,hk⟩:=Zw hc
  obtain rfl:x=x':=Option.some.inj (hx.symm.trans hg)
  exact zft W x d hI p xv cc hcb (hp.later_ hW) hs hk (by show cc.s.size<=_;omega)
 have HSD:Hid (∀x (d:CC) W,x.v.weight<=v.weight->uB w W->IsComp W W.heap.size x d->uP 19 #[.agg (uC d)] W fun e w'=>e= .returned (.bool (cmSound x))/\uB W w'):=qh fun x d W hx hW hI=>zds x W (hT.below hW) d hI (by omega)
 have HB:=qh (TB.start w cv cc 36 39 39)
 obtain ⟨R,hR⟩:∃R,turnedP v ⟨cc.k,p,cc.key,cc.i,cc.j,cc.n,xv,cc.s⟩=R:=⟨_,rfl⟩
 rw [hR]
 unfold turnedP at hR
 obtain ⟨E,hE⟩:∃E,checkP v ⟨cc.k,p,cc.key,cc.i,cc.j,cc.n,xv,cc.s⟩=E:=⟨_,rfl⟩
 rw [hE] at HCK hR
 have HR:=qh hR;have HE:=qh hE
 clear hv hw hp hxv hxw hT hsz hcb hR hE
 go_enter Tryz.func27,Tryz.ntmps27
 generalize hQ0:bodyPost _ _ _=Q0
 have HQ:=qh hQ0
 clear hQ0
 go_wp2_with fail
 refine (HCK.out _ HB.out.below).mono ?_
 rintro e w1 ⟨rfl,hb1⟩
 have hB1:=HB.out.keep hb1
 have HB1:=qh hB1
 obtain ⟨v0,v1,v2,v3,v4⟩:=row5 hB1.v.at_
 obtain ⟨c0,c1,c2,c3,c4,c5,c6,c7,c8,c9,c10,c11⟩:=row12 hB1.c.at_
 obtain ⟨r0,r1,r2,r3,r4,r5,r6,r7,r8,r9,r10,r11⟩:=row12 hB1.r.at_
 have gr:=hB1.r.fr;have zv:=hB1.v.lt;have zc:=hB1.c.lt;have zr:=hB1.r.lt
 clear hB1 hb1 HCK HB
 by_cases hE0:E=0
 .subst hE0
  have hR:=HR.out
  rw [if_pos rfl] at hR
  obtain ⟨hs,x,hg,hk⟩:=Zw HE.out
  dsimp only at hg
  rw [hg,Option.getD_some] at hR
  obtain ⟨S,hS⟩:∃S,cmSound (turnP x ⟨cc.k,p,cc.key,cc.i,cc.j,cc.n,xv,cc.s⟩)=S:=⟨_,rfl⟩
  rw [hS] at hR
  have HRT:Hid (S=true->(turnP x ⟨cc.k,p,cc.key,cc.i,cc.j,cc.n,xv,cc.s⟩,0)=R):=qh fun e=>by rw [e,if_pos rfl] at hR;exact hR
  have HRF:Hid (S=false->(Cm.none,60)=R):=qh fun e=>by rw [e,if_neg (by decide)] at hR;exact hR
  have HS:=qh hS;have HG:=qh hg
  have HXW:=qh (Zy p hg)
  clear hR hs hk hS HR hg
  go_wp2_with fail
  refine (HGT.out x HG.out _ HB1.out.below).mono ?_
  rintro e w2 ⟨⟨d,rfl,hd⟩,hb2⟩
  obtain ⟨w3,hw3⟩:∃w3,w2.alloc (.cells (uV d) 36)=w3:=⟨_,rfl⟩
  have hb3:uB w2 w3:=by rw [<-hw3];exact Zu w2 _
  have hx3:BC w3 w2.heap.size (vcells d):=by rw [<-hw3];exact BC.start w2 (uV d) 36
  have hB3:=(HB1.out.keep hb2).keep hb3
  have HD3:=qh (hd.later_ hb3)
  have HB3:=qh hB3
  clear v0 v1 v2 v3 v4 c0 c1 c2 c3 c4 c5 c6 c7 c8 c9 c10 c11 r0 r1 r2 r3 r4 r5 r6 r7 r8 r9 r10 r11 gr zv zc zr
  obtain ⟨v0,v1,v2,v3,v4⟩:=row5 hx3.at_
  obtain ⟨c0,c1,c2,c3,c4,c5,c6,c7,c8,c9,c10,c11⟩:=row12 hB3.c.at_
  have zv:=hx3.lt;have zc:=hB3.c.lt
  clear hB3 hb2 hd hx3 hb3 HB1
  go_upto_region 5 with fail
  clear hw3
  go_wp2_with fail
  refine (HTN.out x d _ HG.out HE.out HB3.out.below HD3.out).mono ?_
  rintro e w4 ⟨⟨f,rfl,hf⟩,hb4⟩
  obtain ⟨w5,hw5⟩:∃w5,w4.alloc (.cells (uC f) 39)=w5:=⟨_,rfl⟩
  have hb5:uB w4 w5:=by rw [<-hw5];exact Zu w4 _
  have hx5:BC w5 w4.heap.size (ccells f):=by rw [<-hw5];exact BC.start w4 (uC f) 39
  have hB5:=(HB3.out.keep hb4).keep hb5
  have hz4:=HB3.out.r.lt
  have HF5:Hid (IsComp (only (fun k=>w.heap.size+1+1+1<=k) w5) w5.heap.size (turnP x ⟨cc.k,p,cc.key,cc.i,cc.j,cc.n,xv,cc.s⟩) f):=qh (Yk hf rfl hb5.size fun k hk hl=>⟨by omega,hb5.block k hl⟩)
  have HB5:=qh hB5;have HX5:=qh hx5
  clear v0 v1 v2 v3 v4 c0 c1 c2 c3 c4 c5 c6 c7 c8 c9 c10 c11 zv zc
  obtain ⟨f0,f1,f2,f3,f4,f5,f6,f7,f8,f9,f10,f11⟩:=row12 hx5.at_
  have zf:=hx5.lt
  clear hB5 hf hx5 hb4 hb5 hz4 HB3 HTN HGT
  go_upto_region 6 with fail
  clear hw5
  go_wp2_with fail
  refine (HSD.out _ f _ (Nat.le_trans (zbv _ _) HXW.out) HB5.out.below (HF5.out.sub (Zl _ _ _))).mono ?_
  rintro e w6 ⟨rfl,hb6⟩
  rw [HS.out]
  have hB6:=HB5.out.keep hb6
  have hx6:=HX5.out.keep hb6 HX5.out.lt
  have HF6:Hid (IsComp (only (fun k=>w.heap.size+1+1+1<=k) w6) w6.heap.size (turnP x ⟨cc.k,p,cc.key,cc.i,cc.j,cc.n,xv,cc.s⟩) f):=qh (Yk HF5.out rfl hb6.size fun k hk hl=>⟨hk,hb6.block k hl⟩)
  have HB6:=qh hB6
  clear f0 f1 f2 f3 f4 f5 f6 f7 f8 f9 f10 f11 zf
  obtain ⟨f0,f1,f2,f3,f4,f5,f6,f7,f8,f9,f10,f11⟩:=row12 hx6.at_
  obtain ⟨r0,r1,r2,r3,r4,r5,r6,r7,r8,r9,r10,r11⟩:=row12 hB6.r.at_
  have zf:=hx6.lt;have zr:=hB6.r.lt;have gr:=hB6.r.fr
  clear hB6 hx6 hb6 HX5 HF5 HB5 HSD HS
  cases S with
  | true=>
    go_wp2_with fail
    rw [<-HQ.out, <-HRT.out (by trivial)]
    exact ⟨rfl,_,Kz rfl rfl (Zm (c0:=czero) HB6.out.r f),⟨f,rfl,Ju HF6.out (by omega) (by omega) f⟩,Below.setC HB6.out.below (by omega) f⟩
  | false=>
    go_wp2_with fail
    rw [<-HQ.out, <-HRF.out (by trivial)]
    exact ⟨rfl,_,Kz rfl rfl (Zm (c0:=czero) HB6.out.r czero),⟨czero,rfl,J5 _ _⟩,Below.setC HB6.out.below (by omega) czero⟩
 .have f0:(E==0)=false:=by simpa using hE0
  go_wp2_with fail
  rw [<-HQ.out, <-HR.out,if_neg hE0]
  exact ⟨rfl,_,Kz rfl rfl (Zm (c0:=czero) HB1.out.r czero),⟨czero,rfl,J5 _ _⟩,Below.setC HB1.out.below (by omega) czero⟩
theorem zfr {W:World} {base:Nat} {e:TypeId} {g n cap:Nat} {xs:List Value} (h:W.ownsRow base e 12 (.slice (some ⟨g,0,none⟩) n cap) n xs):g<W.heap.size/\∀q,W.frozen? ⟨g,q,none⟩=false:=by
 rcases h.2 with ⟨h0,_⟩|⟨g',cap',cur,he,_,hg,_⟩
 .cases h0
 .injection he with e1 e2 e3
  injection e1 with e1
  injection e1 with e1
  subst e1
  exact ⟨(Array.getElem?_eq_some_iff.1 hg).1,fun q=>by simp [World.frozen?,hg]⟩
theorem zcu {W:World} {base:Nat} {e:TypeId} {g n cap:Nat} {cs:List CC} (h:W.ownsRow base e 12 (.slice (some ⟨g,0,none⟩) n cap) n (cs.flatMap ccells)) {i:Nat} (hi:i<cs.length) {c:CC} (hc:cs.getD i czero=c):∀j v,(ccells c)[j]? =some v->W.cell? ⟨g,i*12+j,none⟩=some v:=by
 rw [List.getD_eq_getElem?_getD,List.getElem?_eq_getElem hi,Option.getD_some] at hc
 rw [<-hc];exact zky h hi
theorem RvI.drew {w W:World} {base g n cap:Nat} {cs:List CC} {i:Nat} (h:RvI w W base g n cap cs i):RvI w W.drew base g n cap cs i:=by
 have b:=Zf W
 refine ⟨?_,h.gr.trans ⟨b.os,b.tape,b.output,b.size,fun k hk _=>b.block k hk⟩⟩
 have e:W.drew.heap=W.heap:=rfl
 have:=h.own
 unfold World.ownsRow at this ⊢
 simp only [e]
 exact this
set_option maxRecDepth 100000 in
theorem zjt (w:World) (base:Nat) (u:Value) (n:Nat) (cs:List CC) (hn:cs.length=n) (h:w.ownsRow base 39 12 u n (cs.flatMap ccells)):
 uP 60 #[u] w fun e w'=>e= .returned (.tuple #[])/\w'.ownsRow base 39 12 u n (cs.reverse.flatMap ccells)/\w.grownBy w' u.ownBlock:=by
 delta uP
 rcases h.2 with ⟨rfl,rfl⟩|⟨g,cap,cur,rfl,hbg,hg,hnc,hcm,hcs,htk⟩
 .have h0:cs= [] :=List.length_eq_zero_iff.1 hn
  subst h0
  have HO:=qh h
  clear h
  go_enter Tryz.func60,Tryz.ntmps60
  go_wp2_with fail
  go_loopw [2,3] (fun iv jv wr=>iv= .int .i64 0/\jv= .int .i64 (-1)/\wr=w) (fun _ _ _=>0)
  case atStart=>exact ⟨rfl,rfl,rfl⟩
  case round=>
   obtain ⟨rfl,rfl,rfl⟩:=hrel
   go_wp2_with fail
   exact ⟨rfl,_,by simp [results,Tryz.results60,go_sem],rfl,HO.out,World.grownBy.refl _ _⟩
 .have hmx:n<=9223372036854775807:=by unfold maxLen at hcm;omega
  have HI:Hid (RvI w w base g n cap cs 0):=qh ⟨by rw [zld];exact h,World.grownBy.refl _ _⟩
  have HN:=qh hn
  clear h hg hcs htk hn
  go_enter Tryz.func60,Tryz.ntmps60
  go_wp2_with fail
  go_loopw [2,3] (fun iv jv wr=>∃i:Nat,iv= .int .i64 (i:Int)/\jv= .int .i64 ((n:Int) - 1 - i)/\i<=n/\Hid (RvI w wr base g n cap cs i)) (fun iv _ _=>(match iv with| .int _ i=>n - i.toNat|_=>0))
  case atStart=>exact ⟨0,rfl,by simp,by omega,HI⟩
  case round=>
   obtain ⟨i,rfl,rfl,hin,HR⟩:=hrel
   by_cases hij:i+i+1<n
   .obtain ⟨J,hJ⟩:∃J,i+J+1=n:=⟨n - 1 - i,by omega⟩
    have hJ2:(n:Int) - 1 - i=(J:Int):=by omega
    rw [hJ2]
    have hl:=Xf cs i
    have hnn:=HN.out
    obtain ⟨ci,hci⟩:∃c,(swp cs i).getD i czero=c:=⟨_,rfl⟩
    obtain ⟨cj,hcj⟩:∃c,(swp cs i).getD J czero=c:=⟨_,rfl⟩
    have ai:=zcu HR.out.own (by omega) hci
    have aj:=zcu HR.out.own (by omega) hcj
    obtain ⟨hgz,hfr⟩:=zfr HR.out.own
    have HST:=qh (HR.out.step HN.out hij hJ hci hcj).drew
    obtain ⟨x0,x1,x2,x3,x4,x5,x6,x7,x8,x9,x10,x11⟩:=row12 ai
    obtain ⟨y0,y1,y2,y3,y4,y5,y6,y7,y8,y9,y10,y11⟩:=row12 aj
    rw [Nat.add_zero] at x0 y0
    have hlt:(i:Int)<(J:Int):=by omega
    have hi0:¬((i:Int)<0):=by omega
    have hj0:¬((J:Int)<0):=by omega
    have hin2:(i:Int)<(n:Int):=by omega
    have hjn:(J:Int)<(n:Int):=by omega
    have HIJ:=qh (show i+i+1<n/\i+J+1=n from ⟨hij,hJ⟩)
    clear ai aj hci hcj hl hnn hij hJ hJ2 hin HR
    go_upto_region 3 with fail
    go_region
    have hst:=HST.out
    unfold setCo at hst
    refine Zr (P:=fun W=>RvI w W base g n cap cs (i+1)) hst ?_
    clear x0 x1 x2 x3 x4 x5 x6 x7 x8 x9 x10 x11 y0 y1 y2 y3 y4 y5 y6 y7 y8 y9 y10 y11 hgz hfr HST hst hlt hi0 hj0 hin2 hjn
    intro W hW
    have HW:=qh hW
    have HW1:Hid (wrap64 ((i:Int)+1)=((i+1:Nat):Int)):=qh (by rw [X7 (by have:=HIJ.out;omega)];omega)
    have HW2:Hid (wrap64 ((J:Int) - 1)=(n:Int) - 1 - ((i+1:Nat):Int)):=qh (by rw [X7 (by have:=HIJ.out;omega)];have:=HIJ.out;omega)
    clear hW
    go_wp2_with fail
    go_roundw
    case rel=>exact ⟨i+1,by rw [HW1.out],by rw [HW2.out],by have:=HIJ.out;omega,HW⟩
    case measure=>
     have h:=HIJ.out
     have hw:=HW1.out
     clear HW1 HW2
     simp only [hw,Int.toNat_natCast]
     clear hw
     omega
   .have hlt:¬((i:Int)<(n:Int) - 1 - i):=by omega
    have HD:Hid (wr.ownsRow base 39 12 (.slice (some ⟨g,0,none⟩) n cap) n (cs.reverse.flatMap ccells)):=qh (by rw [<-zee cs i (by have:=HN.out;omega)];exact HR.out.own)
    have HG:=qh HR.out.gr
    clear hij hin HR
    go_wp2_with fail
    exact ⟨rfl,_,by simp [results,Tryz.results60,go_sem],rfl,HD.out,HG.out⟩
set_option maxRecDepth 100000 in
theorem zf2 (w:World) (b base:Nat) (a:Option Addr) (m c:Nat) (cs:List CC) (hn:cs.length=m) (hb:BC w b [.slice a m c]) (h:w.ownsRow base 39 12 (.slice a m c) m (cs.flatMap ccells)):
 CallsD Tryz.prog 59 #[.pointer (some ⟨b,0,none⟩)] .returning w fun e u' w'=>u'= .returning/\e= .returned (.tuple #[])/\w'.ownsRow base 39 12 (.slice a m c) m (cs.reverse.flatMap ccells)/\w.grownBy w' (Value.slice a m c).ownBlock:=by
 have c0:=hb.at_ 0 _ rfl
 have HR:=qh (zjt w base (.slice a m c) m cs hn h)
 clear h hb
 go_enter_d Tryz.func59,Tryz.ntmps59
 go_wp2_with fail
 refine HR.out.mono ?_
 rintro e w' ⟨rfl,ho,hg⟩
 go_wp2_with fail
 exact ⟨rfl,_,by simp [results,Tryz.results59,go_sem],rfl,ho,hg⟩
theorem RowC.rev {w w':World} {base:Nat} {u:Value} {xs:List Cm} {cs:List CC} (h:RowC w base u xs cs) (hl:cs.length=xs.length) (ho:w'.ownsRow base 39 12 u xs.length (cs.reverse.flatMap ccells)) (hg:w.grownBy w' u.ownBlock):RowC w' base u xs.reverse cs.reverse:=by
 refine ⟨by rw [List.length_reverse];exact ho,fun i hi=> ?_⟩
 rw [List.length_reverse] at hi
 intro hi2
 have h0:=h.els (xs.length - 1 - i) (by omega) (by omega)
 rw [List.getElem_reverse]
 have e:cs.reverse.getD i czero=cs.getD (xs.length - 1 - i) czero:=by
  rw [List.getD_eq_getElem?_getD,List.getD_eq_getElem?_getD,List.getElem?_reverse (by omega),hl]
 rw [e]
 exact (h0.sub (Zd fun k hk hlt=>⟨hk,hg.block k hlt (fun e=>hk.2 e)⟩)).more hg.size
theorem CompAt.cells {w:World} {b o:Nat} {c:CC} (h:CompAt w b o c):∀k u,(ccells c)[k]? =some u->w.cell? ⟨b,o+k,none⟩=some u:=fun k u hk=>by
 have hm:k<12:=by have:=(List.getElem?_eq_some_iff.1 hk).1;exact this
 match k,hm with
 |0,_=>rw [<-hk];exact h.c0
 |1,_=>rw [<-hk];exact h.c1
 |2,_=>rw [<-hk];exact h.c2
 |3,_=>rw [<-hk];exact h.c3
 |4,_=>rw [<-hk];exact h.c4
 |5,_=>rw [<-hk];exact h.c5
 |6,_=>rw [<-hk];exact h.c6.c0
 |7,_=>rw [<-hk];exact h.c6.c1
 |8,_=>rw [<-hk];exact h.c6.c2
 |9,_=>rw [<-hk];exact h.c6.c3
 |10,_=>rw [<-hk];exact h.c6.c4
 |11,_=>rw [<-hk];exact h.c11
theorem ze2 (v:V) (op:List Cm) (h:(turnsP v op).2≠0):(turnsP v op).1= [] :=by
 cases op with
 |nil=>exact absurd rfl h
 | cons c r=>
   rw [turnsP] at h ⊢
   split
   .rename_i h1
    rw [if_pos h1] at h
    split
    .rename_i h2
     rw [if_pos h2] at h;exact absurd rfl h
    .rfl
   .rfl
theorem za2 (v:V) (op:List Cm):goOn [] (turnsP v op)=turnsP v op:=by
 unfold goOn
 split
 .rename_i h;rw [List.nil_append];exact Prod.ext rfl h.symm
 .rename_i h;exact Prod.ext (ze2 v op h).symm rfl
theorem zdw {xs:List Cm} {x:V} {cm T1:Cm} {r:List Cm} (h:turnedP x cm=(T1,0)):goOn (xs++ [T1]) (turnsP (doP x cm).1 r)=goOn xs (turnsP x (cm::r)):=by
 rw [turnsP,h,if_pos rfl]
 unfold goOn
 by_cases h2:(turnsP (doP x cm).1 r).2=0
 .rw [if_pos h2,if_pos h2,if_pos rfl,List.append_assoc];rfl
 .rw [if_neg h2,if_neg h2,if_neg h2]
def AllPost (k:IntKind) (w:World) (r:List Cm×Int) (e:Ending) (w':World):Prop:=
 (∃a n c,e= .returned (.tuple #[.slice a n c, .int k r.2])/\IsComps (only (fun b=>w.heap.size<=b) w') w'.heap.size r.1 a n c)/\Below w.heap.size w w'
theorem zaq (w:World) (B:Nat):IsComps w B [] none 0 0:=⟨rfl,Nat.le_refl _,by decide,by decide,0,0,fun _=>czero,fun h=>absurd h (by decide),fun i hi=>absurd hi (by simp)⟩
theorem zbp {w W:World} {xs:List Cm} {cs:List CC} {a:Option Addr} {m c:Nat} {r:List Cm×Int} {tmps:Array Value} {e:Int} (ht:tmps[4]? =some (.pointer (some ⟨w.heap.size+1,0,none⟩))) (hx:tmps[5]? =some (.int .u16 e))
 (ho:BC W (w.heap.size+1) [.slice a m c]) (hr:RowC W (w.heap.size+2) (.slice a m c) xs cs) (hl:cs.length=xs.length) (hm:xs.length=m) (hb:uB w W) (hfew:xs.length<=1000) (h:(xs.reverse,e)=r):
 bodyPostD Tryz.prog Tryz.f23 (AllPost .u16 w r) .ret { tmps:=tmps,defers:= [{ target:= .fn (.func 59) #[.pointer (some ⟨w.heap.size+1,0,none⟩)],args:= #[] }] } W:=by
 subst hm
 refine leaves_cons (f:=59) (args:= #[.pointer (some ⟨w.heap.size+1,0,none⟩)]) (by simp) (by simp [go_sem]) ?_
 refine (zf2 W (w.heap.size+1) (w.heap.size+2) a xs.length c cs hl ho hr.own).mono ?_
 rintro e' u' w' ⟨rfl,rfl,ho',hg⟩
 have hR:=RowC.rev hr hl ho' hg
 have hb2:Below (w.heap.size+2) W w':=Zi hg (fun k hk=>(hr.lt k hk).1) (by have:=ho.lt;omega)
 have hob:=(ho.keep hb2 (by omega)).at_ 0 _ rfl
 have hc:=hR.comps (lo:=w.heap.size) (by simp [hl]) (by omega) (by rw [List.length_reverse];omega)
 subst h
 simp only [Leaves,settle]
 refine ⟨_, ?_,⟨a,_,c,rfl,hc⟩,hb.trans (hb2.mono (by omega))⟩
 simp [results,Tryz.results23,go_sem,ht,hx,hob]
set_option maxRecDepth 100000 in
theorem zcx (w:World) (cv:VC) (v:V) (hv:IsVal w w.heap.size v cv) (op:List Cm) (oa:Option Addr) (on oc:Nat) (hop:IsComps w w.heap.size op oa on oc) (hok:on<=200->OpOk v op) (hT:Tabs w):
 uP 23 #[.agg (uV cv), .slice oa on oc] w (AllPost .u16 w (allP v op)):=by
 delta uV uP
 have hmf:∀(fn:Fn) (first cap:Array Value) (w:World),(Instr.makeFunc fn first cap).run Tryz.prog w= .ok (.func fn first cap) w:=fun _ _ _ _=>rfl
 obtain ⟨i0,hi0,hz0,hz1,hz2⟩:=info_parts Jk
 have hlen:=hop.len;have hmax:=hop.max;have hcap:=hop.cap
 obtain ⟨q1,q2,q3,q4⟩:=Qf w #[.int .u8 cv.k, .int .i64 cv.n, .string cv.s, .slice cv.la cv.ll cv.lc, .slice cv.oa cv.ol cv.oc] #[.slice none 0 0] 36 53
 by_cases hn:200<on
 .have hr:allP v op=([],3):=by unfold allP;rw [if_pos (by omega)]
  have hfin:AllPost .u16 w (allP v op) (.returned (.tuple #[.slice none 0 0, .int .u16 3])) ((w.alloc (.cells (uV cv) 36)).alloc (.cells #[.slice none 0 0] 53)):=by
   rw [hr];exact ⟨⟨none,0,0,rfl,zaq _ _⟩,q3⟩
  have c0:=q2.at_ 0 _ rfl
  have HFIN:=qh hfin
  have HC0:=qh c0
  clear hfin hr c0 hok hop hv q1 q2 q3 q4 hlen
  go_enter_defers Tryz.func23,Tryz.ntmps23
  go_wp2_with fail
  exact ⟨_,by simp [results,Tryz.results23,go_sem,HC0.out],HFIN.out⟩
 .have hrp:allP v op=((turnsP v op).1.reverse,(turnsP v op).2):=by unfold allP;rw [if_neg (by omega)]
  rw [hrp]
  have HLH:Hid (LH w ((w.alloc (.cells (uV cv) 36)).alloc (.cells #[.slice none 0 0] 53)) v op 0 v cv (.slice none 0 0) [] []):=qh ⟨za2 v op,hok (by omega),rfl,rfl,q1,q2,(hv.sub fun b o u hb hc=>Z1 ⟨by omega,by omega,by simp [Value.ownBlock]⟩ ((World.cell?_of_block (q3.block b hb)).trans hc)).more q3.size,Row.nil _ _ _ _ _,q3⟩
  have HOP:=qh hop;have HT:=qh hT
  clear hop hok hv hrp q1 q2 q3 q4 hT
  go_enter_defers Tryz.func23,Tryz.ntmps23
  go_wp2_with fail
  go_loopw [16] (fun iv wr=>∃(j:Nat) (x:V) (cx:VC) (a:Option Addr) (c:Nat) (xs:List Cm) (cs:List CC),iv= .int .i64 (j:Int)/\j<=on/\Hid (LH w wr v op j x cx (.slice a xs.length c) xs cs)) (fun iv _=>(match iv with| .int _ i=>on - i.toNat|_=>0))
  case atStart=>exact ⟨0,v,cv,none,0, [], [],rfl,Nat.zero_le _,HLH⟩
  case round=>
   obtain ⟨j,x,cx,a,c,xs,cs,rfl,hj,HL⟩:=hrel
   have hlh:=HL.out
   obtain ⟨v0,v1,v2,v3,v4⟩:=row5 hlh.box.at_
   have o0:=hlh.obox.at_ 0 _ rfl
   have zv:=hlh.box.lt;have zo:=hlh.obox.lt;have gv:=hlh.box.fr;have go:=hlh.obox.fr
   clear HLH
   by_cases hlt:j<on
   .have hjl:j<op.length:=by omega
    obtain ⟨b,o,f,h5,h6⟩:=HOP.out.at_
    obtain ⟨rfl,hbB⟩:=h5 (by omega)
    obtain ⟨hat,hic⟩:=h6 j hjl
    have hat2:=hat.keep hlh.below hbB
    have hbw:=Nat.lt_of_lt_of_le hbB hlh.below.size
    obtain ⟨cc,hcc⟩:∃c,f j=c:=⟨_,rfl⟩
    rw [hcc] at hat2 hic
    obtain ⟨cm,hcm⟩:∃y,op[j] =y:=⟨_,rfl⟩
    have hdr:op.drop j=cm::op.drop (j+1):=by rw [List.drop_eq_getElem_cons hjl,hcm]
    rw [hcm] at hic
    have hok:=hlh.ok
    rw [hdr] at hok
    obtain ⟨hxw,hxs,hcw,hcs,hnx⟩:=hok
    have HTD:Hid (∀W,uB wr W->uP 27 #[.agg (uV cx), .agg (uC cc)] W (TdPost .u16 W (turnedP x cm))):=qh fun W hW=>by
     have hwW:=hlh.below.trans (hW.mono hlh.below.size)
     have hvW:IsVal W W.heap.size x cx:=(hlh.val.sub (Zl _ _ _)).later_ hW
     cases hic with
     |mk _ p xv hcb hp hxv=>exact Kl W cx x hvW (by omega) p xv cc hcb (hp.later_ hwW) (hxv.later_ hwW) hcw hcs (HT.out.below hwW)
    have HDO:Hid (∀W,uB wr W->uP 15 #[.agg (uV cx), .agg (uC cc)] W (CDoPost W (doP x cm))):=qh fun W hW=>by
     have hwW:=hlh.below.trans (hW.mono hlh.below.size)
     have hvW:IsVal W W.heap.size x cx:=(hlh.val.sub (Zl _ _ _)).later_ hW
     cases hic with
     |mk _ p xv hcb hp hxv=>exact ze1 W cx.k cx.n cx.s cx.la cx.ll cx.lc cx.oa cx.ol cx.oc x hvW hxw p xv cc hcb (hp.later_ hwW) (hxv.later_ hwW) hcw (fun y hy=>by have:=Zy _ hy;have:=y.str_weight.1;dsimp only at hcs;omega) hxs (HT.out.below hwW)
    obtain ⟨e0,e1,e2,e3,e4,e5,e6,e7,e8,e9,e10,e11⟩:=row12 hat2.cells
    rw [Nat.add_zero] at e0
    have hj0:¬((j:Int)<0):=by omega
    have hjn:(j:Int)<(on:Int):=by omega
    have HDR:=qh hdr;have HNX:=qh hnx
    obtain ⟨w1,hw1⟩:∃w1,wr.alloc (.cells (uC cc) 39)=w1:=⟨_,rfl⟩
    have hb1:uB wr w1:=by rw [<-hw1];exact Zu wr _
    have hx1:BC w1 wr.heap.size (ccells cc):=by rw [<-hw1];exact BC.start wr (uC cc) 39
    have hv1:=hlh.box.keep hb1 zv
    have HX1:=qh hx1;have HB1:=qh hb1
    have hzc:=hx1.lt;have hzv:=hv1.lt
    clear h5 h6 hat hic hat2 hcc hcm hdr hxw hxs hcw hcs hnx hlh
    go_upto_region 7 with fail
    clear hw1 v0 v1 v2 v3 v4 e0 e1 e2 e3 e4 e5 e6 e7 e8 e9 e10 e11 o0 zv zo gv go hbw
    obtain ⟨v0,v1,v2,v3,v4⟩:=row5 hv1.at_
    obtain ⟨c0,c1,c2,c3,c4,c5,c6,c7,c8,c9,c10,c11⟩:=row12 hx1.at_
    clear hv1 hx1 hb1
    go_wp2_with fail
    refine (HTD.out _ HB1.out).mono ?_
    rintro e w2 ⟨⟨d,rfl,hd⟩,hb2⟩
    obtain ⟨T,hT⟩:∃T,turnedP x cm=T:=⟨_,rfl⟩
    rw [hT] at hd
    rw [hT]
    obtain ⟨w3,hw3⟩:∃w3,w2.alloc (.cells (uC d) 39)=w3:=⟨_,rfl⟩
    have hb3:uB w2 w3:=by rw [<-hw3];exact Zu w2 _
    have hx3:BC w3 w2.heap.size (ccells d):=by rw [<-hw3];exact BC.start w2 (uC d) 39
    have hB3:uB wr w3:=HB1.out.trans ((hb2.trans (hb3.mono hb2.size)).mono HB1.out.size)
    have hc3:=(HX1.out.keep hb2 HX1.out.lt).keep hb3 (Nat.lt_of_lt_of_le HX1.out.lt hb2.size)
    have hD3:IsComp (only (fun k=>wr.heap.size<=k) w3) w3.heap.size T.1 d:=Yk hd rfl hb3.size fun k hk hl=>⟨Nat.le_trans HB1.out.size hk,hb3.block k hl⟩
    have hlh:=HL.out
    have hv3:=hlh.box.keep hB3 hlh.box.lt
    have ho3:=hlh.obox.keep hB3 hlh.obox.lt
    have HZ2:=qh (Nat.le_trans HB1.out.size hb2.size)
    have HB3:=qh hB3;have HD3:=qh hD3;have HX3:=qh hx3;have HTT:=qh hT
    have zd:=hx3.lt;have zc:=hc3.lt;have zv:=hv3.lt;have zo:=ho3.lt;have gv:=hv3.fr;have go:=ho3.fr
    clear hd hb2 hb3 hB3 hD3 hlh hT v0 v1 v2 v3 v4 c0 c1 c2 c3 c4 c5 c6 c7 c8 c9 c10 c11 hzc hzv
    obtain ⟨T1,er⟩:=T
    dsimp only at HD3 ⊢
    obtain ⟨v0,v1,v2,v3,v4⟩:=row5 hv3.at_
    obtain ⟨c0,c1,c2,c3,c4,c5,c6,c7,c8,c9,c10,c11⟩:=row12 hc3.at_
    obtain ⟨d0,d1,d2,d3,d4,d5,d6,d7,d8,d9,d10,d11⟩:=row12 hx3.at_
    have o0:=ho3.at_ 0 _ rfl
    have HO3:=qh ho3
    clear hv3 hc3 hx3 ho3
    by_cases he:er=0
    .subst he
     have hd0:(doP x cm).2=0:=by rw [Kw];exact (zcd HTT.out).1
     have hrd:goOn (xs++ [T1]) (turnsP (doP x cm).1 (op.drop (j+1)))=turnsP v op:=by rw [zdw HTT.out, <-HDR.out];exact HL.out.rd
     have hok2:=HNX.out hd0
     obtain ⟨D,hD⟩:∃D,doP x cm=D:=⟨_,rfl⟩
     rw [hD] at hrd hok2 HDO
     have HRD:=qh hrd;have HOK:=qh hok2
     clear hd0 hrd hok2 hD HNX HTT HDR
     go_wp2_with fail
     refine (HDO.out _ HB3.out).mono ?_
     rintro e w4 ⟨⟨y,rfl,hy⟩,hb4⟩
     have hlh:=HL.out
     have hz3:=HB3.out.size;have hz4:=hb4.size;have hzv:=hlh.box.lt;have hzo:=hlh.obox.lt
     have hv4:=(hlh.box.keep HB3.out hlh.box.lt).keep hb4 (by omega)
     have st:=Zh w4 w.heap.size 0 y
     have HM:Hid (LM w wr (setV w4 w.heap.size 0 y) D.1 T1 y d (.slice a xs.length c) xs cs/\BC (setV w4 w.heap.size 0 y) w2.heap.size (ccells d)/\wr.heap.size<=(setV w4 w.heap.size 0 y).heap.size):=qh ⟨hlh.mid HB3.out HD3.out hb4 hy,(HX3.out.keep hb4 HX3.out.lt).next st (by have:=HZ2.out;omega),by have:=st.size;omega⟩
     clear v0 v1 v2 v3 v4 c0 c1 c2 c3 c4 c5 c6 c7 c8 c9 c10 c11 d0 d1 d2 d3 d4 d5 d6 d7 d8 d9 d10 d11 o0 zd zc zv zo gv go
     obtain ⟨v0,v1,v2,v3,v4⟩:=row5 hv4.at_
     have zv:=hv4.lt;have gv:=hv4.fr
     clear hlh hv4 st hy hb4 hz3 hz4 hzv hzo HDO
     go_upto_region 11 with fail
     obtain ⟨w5,hw5⟩:∃w5,setV w4 w.heap.size 0 y=w5:=⟨_,rfl⟩
     rw [hw5] at HM
     simp only [setV,Nat.zero_add] at hw5
     rw [hw5]
     have hw6:=HM.out
     clear HM hw5 v0 v1 v2 v3 v4 zv gv
     obtain ⟨hm,hx5,hz5⟩:=hw6
     have hown:=hm.row.own
     have o5:=hm.obox.at_ 0 _ rfl
     obtain ⟨d0,d1,d2,d3,d4,d5,d6,d7,d8,d9,d10,d11⟩:=row12 hx5.at_
     have zd:=hx5.lt;have zo:=hm.obox.lt
     have HM:=qh hm;have HZ5:=qh hz5
     have HFX:=qh HL.out.few
     clear hm hx5 hz5
     go_wp2_with (at_builtin;refine wpList_append_lies _ rfl (.tmp 35) (.tmp 37) 53 (by rfl) (w.heap.size+2) 39 i0 _ 12 168 Tryz.underlying53 hi0 hz0 hz1 hz2 rfl (by omega) (.slice a xs.length c) xs.length (cs.flatMap ccells) (by rfl) (hown.alloc _) ⟨w5.heap.size,0,none⟩ 1 1 (ccells d) (by rfl) (by rfl) (K6 w5 d _) (by simp [ccells,Value.oneCell']) (by have:=HFX.out;omega) (by have:=HFX.out;unfold maxLen;omega) (by have:=HFX.out;omega) (by first|omega|(simp;omega)) (w5.heap.size+1) (by simp) ?_;intro g cap w9 hown9 hgrow9 hat9 hlt9;have hgb:Below (w.heap.size+2) (w5.alloc (.cells (uC d) 39)) w9:=Zi hgrow9 (fun k hk=>(HM.out.row.lt k hk).1) (by rw [World.size_alloc];omega);have ho9:=(HM.out.obox.keep (Zu w5 _) HM.out.obox.lt).keep hgb (by omega);have o9:=ho9.at_ 0 _ rfl;have g9:=ho9.fr;have z9:=ho9.lt;clear ho9 hgb)
     go_roundw
     case rel=>exact ⟨j+1,D.1,y,some ⟨g,0,none⟩,cap,xs++ [T1],cs++ [d],by go_num,by omega,qh (by rw [List.length_append,List.length_singleton];exact HL.out.round HM.out HZ5.out HRD.out HOK.out hown9 hgrow9 hat9)⟩
     case measure=>simp;omega
    .have f0:(er==0)=false:=by simpa using he
     have hlh:=HL.out
     have hts:turnsP v op=([],er):=by
      have:=hlh.rd
      rw [HDR.out,turnsP,HTT.out,if_neg he] at this
      rw [<-this];unfold goOn;rw [if_neg he]
     have hb4:uB w (w3.setCell ⟨w.heap.size+1,0,none⟩ (.slice none 0 0)):=(hlh.below.trans (HB3.out.mono hlh.below.size)).trans ((RStep.self:RStep w3 (w3.setCell ⟨w.heap.size+1,0,none⟩ (.slice none 0 0)) (w.heap.size+1)).lowC (by omega) (by have:=hlh.box.lt;have:=HB3.out.size;omega))
     have hq4:BC (w3.setCell ⟨w.heap.size+1,0,none⟩ (.slice none 0 0)) (w.heap.size+1) [.slice none 0 0] :=HO3.out.set (i:=0) (by simp)
     have HTS:=qh hts;have HB4:=qh hb4;have HQ4:=qh hq4
     clear hts hb4 hq4 hlh v0 v1 v2 v3 v4 c0 c1 c2 c3 c4 c5 c6 c7 c8 c9 c10 c11 d0 d1 d2 d3 d4 d5 d6 d7 d8 d9 d10 d11
     go_wp2_with fail
     rw [HTS.out]
     exact zbp (xs:= []) (cs:= []) rfl rfl HQ4.out (Row.nil _ _ _ _ _) rfl rfl HB4.out (by simp) rfl
   .have hjn:¬((j:Int)<(on:Int)):=by omega
    have hd0:op.drop j= [] :=List.drop_eq_nil_of_le (by omega)
    have hts:turnsP v op=(xs,0):=by
     have:=hlh.rd
     rw [hd0,turnsP] at this
     rw [<-this];unfold goOn;rw [if_pos rfl,List.append_nil]
    have HTS:=qh hts
    have hfx:=hlh.few
    subst hfx
    have st:RStep wr (wr.setCell ⟨w.heap.size+1,0,none⟩ (.slice a xs.length c)) (w.heap.size+1):=RStep.self
    have HO5:=qh (hlh.obox.set (i:=0) (x:= .slice a xs.length c) (by simp))
    have HR5:=qh (hlh.row.later (PC.closed _ _) st (by omega))
    have HB5:=qh (hlh.below.trans (st.lowC (by omega) (by have:=hlh.box.lt;omega)))
    clear hlh hd0 hts st
    go_wp2_with fail
    rw [HTS.out]
    exact zbp (xs:=xs) (cs:=cs) rfl rfl HO5.out HR5.out HL.out.cen rfl HB5.out (by omega) rfl
theorem zlw {w w4:World} {y:V} (h:Below w.heap.size w.drew w4) (hz:w.heap.size<=w4.heap.size) (d:VC) (t:TypeId) (hv:IsVal (only (fun b=>w.heap.size<=b) w4) w4.heap.size y d):BC (w4.alloc (.cells #[.int .u8 d.k, .int .i64 d.n, .string d.s, .slice d.la d.ll d.lc, .slice d.oa d.ol d.oc] t)) w4.heap.size (vcells d)/\Below w.heap.size w.drew (w4.alloc (.cells #[.int .u8 d.k, .int .i64 d.n, .string d.s, .slice d.la d.ll d.lc, .slice d.oa d.ol d.oc] t))/\w.heap.size<=w4.heap.size/\IsVal (only (fun b=>w.heap.size<=b) (w4.alloc (.cells #[.int .u8 d.k, .int .i64 d.n, .string d.s, .slice d.la d.ll d.lc, .slice d.oa d.ol d.oc] t))) (w4.alloc (.cells #[.int .u8 d.k, .int .i64 d.n, .string d.s, .slice d.la d.ll d.lc, .slice d.oa d.ol d.oc] t)).heap.size y d:=by
 have f:=Qb h hz d t
 have hal:uB w4 (w4.alloc (.cells (uV d) t)):=(Below.refl _ _).alloc (Nat.le_refl _) _
 exact ⟨f.1,f.2.1,f.2.2,Z5 hv rfl hal.size fun k hk hl=>⟨hk,hal.block k hl⟩⟩
theorem zju {w W:World} {y:V} (h:Below w.heap.size w.drew W) (d:VC) (x:BC W w.heap.size [.int .u8 0, .int .i64 0, .string { data:= #[] }, .slice none 0 0, .slice none 0 0]) (hv:IsVal (only (fun b=>w.heap.size+1<=b) W) W.heap.size y d):BC (((((W.setCell ⟨w.heap.size,0,none⟩ (.int .u8 d.k)).setCell ⟨w.heap.size,1,none⟩ (.int .i64 d.n)).setCell ⟨w.heap.size,2,none⟩ (.string d.s)).setCell ⟨w.heap.size,3,none⟩ (.slice d.la d.ll d.lc)).setCell ⟨w.heap.size,4,none⟩ (.slice d.oa d.ol d.oc)) w.heap.size (vcells d)/\Below w.heap.size w.drew (((((W.setCell ⟨w.heap.size,0,none⟩ (.int .u8 d.k)).setCell ⟨w.heap.size,1,none⟩ (.int .i64 d.n)).setCell ⟨w.heap.size,2,none⟩ (.string d.s)).setCell ⟨w.heap.size,3,none⟩ (.slice d.la d.ll d.lc)).setCell ⟨w.heap.size,4,none⟩ (.slice d.oa d.ol d.oc))/\w.heap.size<=w.heap.size/\IsVal (only (fun b=>w.heap.size<=b) (((((W.setCell ⟨w.heap.size,0,none⟩ (.int .u8 d.k)).setCell ⟨w.heap.size,1,none⟩ (.int .i64 d.n)).setCell ⟨w.heap.size,2,none⟩ (.string d.s)).setCell ⟨w.heap.size,3,none⟩ (.slice d.la d.ll d.lc)).setCell ⟨w.heap.size,4,none⟩ (.slice d.oa d.ol d.oc))) (((((W.setCell ⟨w.heap.size,0,none⟩ (.int .u8 d.k)).setCell ⟨w.heap.size,1,none⟩ (.int .i64 d.n)).setCell ⟨w.heap.size,2,none⟩ (.string d.s)).setCell ⟨w.heap.size,3,none⟩ (.slice d.la d.ll d.lc)).setCell ⟨w.heap.size,4,none⟩ (.slice d.oa d.ol d.oc)).heap.size y d:=by
 have f:=Qk h d x
 have st:=Zh W w.heap.size 0 d
 exact ⟨f.1,f.2.1,f.2.2,Z5 hv rfl st.size fun k hk hl=>⟨Nat.le_of_succ_le hk,st.block k hl (by have:w.heap.size+1<=k:=hk;omega)⟩⟩
theorem zk5:∀(l:List Ac) (v:V),v.sound=true->v.weight+20100*l.length<=100000000->OpOk v (aimP v l)/\(doAllP v (aimP v l)).1.weight<=100000000:=by
 intro l
 induction l with
 |nil=>intro v _ hw;exact ⟨trivial,by rw [aimP,doAllP];simp at hw;exact hw⟩
 | cons a r ih=>
   intro v hs hw
   rw [List.length_cons] at hw
   rw [aimP]
   cases h:oneC v a with
   |none=>exact ih v hs (by omega)
   | some c=>
     dsimp only
     split
     .rename_i h0
      have h1:=zb5 h h0
      have h2:=J8 h
      obtain ⟨i1,i2⟩:=ih (doP v c).1 (zmk hs) (by omega)
      refine ⟨⟨by omega,hs,by have:=h2.sv;omega,by have:=h2.ss;omega,fun _=>i1⟩, ?_⟩
      rw [doAllP,if_pos h0];exact i2
     .exact ih v hs (by omega)
set_option maxRecDepth 100000 in
theorem zmz (w:World) (vk vn:Int) (vs:ByteArray) (la:Option Addr) (ll lc:Nat) (oa:Option Addr) (ol oc:Nat) (v:V) (hv:IsVal w w.heap.size v ⟨vk,vn,vs,la,ll,lc,oa,ol,oc⟩) (hw:v.weight<=20000) (l:List Ac) (a:Option Addr) (n c:Nat) (hl:IsActs w w.heap.size l a n c) (hT:Tabs w):
 uP 22 #[.agg (uU vk vn vs la ll lc oa ol oc), .slice a n c] w (AimPost w (aimP v (l.take 20))):=by
 delta uU uP
 obtain ⟨i0,hi0,hz0,hz1,hz2⟩:=info_parts Jk
 have hmax:=hl.max;have hcap:=hl.cap
 have HLN:=qh hl.len
 have HAC:=qh hl
 obtain ⟨R,hR⟩:∃R,AimPost w (aimP v (l.take 20))=R:=⟨_,rfl⟩
 rw [hR]
 have HR:=qh hR
 have HS:=qh (AH.start (t:=36) (l.take 20) hv hw)
 have HT:=qh hT
 clear hl hv hR hT
 go_enter Tryz.func22,Tryz.ntmps22
 go_wp2_with fail
 go_loopg [5,6,7,8,9,10] 20 (fun gh u i _ _ _ _ wr=>∃(j:Nat) (x:V) (cx:VC) (ua:Option Addr) (m uc:Nat) (xs:List Cm) (cs:List CC),j<=n/\j<=20/\gh=20 - j/\i= .int .i64 j/\u= .slice ua m uc/\m=xs.length/\AH w wr v (l.take 20) j x cx (.slice ua m uc) xs cs)
 case atStart=>exact ⟨0,v,_,none,0,0, [], [],Nat.zero_le _,Nat.zero_le _,rfl,rfl,rfl,rfl,HS.out⟩
 case round =>
  obtain ⟨j,x,cx,ua,m,uc,xs,cs,hj,hj8,rfl,rfl,rfl,hmx,L⟩:=hrel
  obtain ⟨v0,v1,v2,v3,v4⟩:=row5 L.box.at_
  have zs:=L.box.lt
  have hfx:=L.few
  have HL:=qh L
  have HMX:=qh hmx
  clear L hmx
  by_cases hcont:j<n/\j<20
  .obtain ⟨hlt,hlt8⟩:=hcont
   obtain ⟨b,q,f,hpl,rfl,hbB,hat,hia⟩:=HAC.out.get hlt
   have hat2:=hat.keep HL.out.below hbB
   obtain ⟨act,hact⟩:∃y,l[j] =y:=⟨_,rfl⟩
   rw [hact] at hia
   have hdr:(l.take 20).drop j=act::(l.take 20).drop (j+1):=by
    have h8:j<(l.take 20).length:=by rw [List.length_take];omega
    rw [List.drop_eq_getElem_cons h8,List.getElem_take,hact]
   have HDR:=qh hdr
   have hbw:b<wr.heap.size:=World.block_lt_of_cell? wr _ hat2.c0
   have hzb:=HL.out.below.size
   obtain ⟨r,hr⟩:∃r,oneC x act=r:=⟨_,rfl⟩
   have HRR:=qh hr
   have hwx:x.weight<=20000+20100*20:=Nat.le_trans HL.out.wt (by omega)
   have hval:IsVal wr wr.heap.size x cx:=HL.out.val.sub (Zl _ _ _)
   have HC:Hid (∀W,Below wr.heap.size wr.drew W->uP 14 #[.agg (uV cx), .agg (uA f)] W (OnePost W r)):=fun W hW=>by
    have hbW:uB wr W:=(Zf wr).trans hW
    rw [<-hr]
    exact ziq W cx.k cx.n cx.s cx.la cx.ll cx.lc cx.oa cx.ol cx.oc x (hval.later_ hbW) (by omega) f act ((hia.keep (HL.out.below.trans (hbW.mono hzb))).more (Nat.le_trans hzb hbW.size))
   have HFB:Hid (∀W,Below wr.heap.size wr.drew W->W.cell? ⟨w.heap.size,0,none⟩=some (.int .u8 cx.k)/\W.cell? ⟨w.heap.size,1,none⟩=some (.int .i64 cx.n)/\W.cell? ⟨w.heap.size,2,none⟩=some (.string cx.s)/\W.cell? ⟨w.heap.size,3,none⟩=some (.slice cx.la cx.ll cx.lc)/\W.cell? ⟨w.heap.size,4,none⟩=some (.slice cx.oa cx.ol cx.oc)/\W.cell? ⟨b,q+j*7,none⟩=some (.slice f.pa f.pl f.pc)/\W.cell? ⟨b,q+j*7+1,none⟩=some (.int .u8 f.k)/\W.cell? ⟨b,q+j*7+2,none⟩=some (.int .i64 f.i)/\W.cell? ⟨b,q+j*7+3,none⟩=some (.int .i64 f.j)/\W.cell? ⟨b,q+j*7+4,none⟩=some (.int .i64 f.n)/\W.cell? ⟨b,q+j*7+5,none⟩=some (.string f.s)/\W.cell? ⟨b,q+j*7+6,none⟩=some (.slice f.va f.vl f.vc)):=by
    intro W hW
    have hk:∀b o u,b<wr.heap.size->wr.cell? ⟨b,o,none⟩=some u->W.cell? ⟨b,o,none⟩=some u:=fun b o u hb h=>Zb hW (Zb (Zf wr) h hb) hb
    exact ⟨hk _ _ _ zs v0,hk _ _ _ zs v1,hk _ _ _ zs v2,hk _ _ _ zs v3,hk _ _ _ zs v4,hk _ _ _ hbw hat2.c0,hk _ _ _ hbw hat2.c1,hk _ _ _ hbw hat2.c2,hk _ _ _ hbw hat2.c3,hk _ _ _ hbw hat2.c4,hk _ _ _ hbw hat2.c5,hk _ _ _ hbw hat2.c6⟩
   have HVAL:=qh hval
   have HWX:=qh hwx
   clear hat hat2 hia hact hdr hr hwx hval
   go_upto_region 5 with fail
   go_cut [7,8] from 11 to 44 (fun c7 c8 wx=>∃(yb:Nat) (cc:CC) (nn:Int),c7= .pointer (some ⟨yb,0,none⟩)/\c8= .int .i64 nn/\BC wx yb (ccells cc)/\Below wr.heap.size wr.drew wx/\wr.heap.size<=yb/\Hid (OneRes wr.heap.size r nn wx cc))
   case first=>
    go_wp2_with fail
    refine wp_region_noPanic ?_
    go_region_held_law (fun W=>W.cell? ⟨w.heap.size,0,none⟩=some (.int .u8 cx.k)/\W.cell? ⟨w.heap.size,1,none⟩=some (.int .i64 cx.n)/\W.cell? ⟨w.heap.size,2,none⟩=some (.string cx.s)/\W.cell? ⟨w.heap.size,3,none⟩=some (.slice cx.la cx.ll cx.lc)/\W.cell? ⟨w.heap.size,4,none⟩=some (.slice cx.oa cx.ol cx.oc)/\W.cell? ⟨b,q+j*7,none⟩=some (.slice f.pa f.pl f.pc)/\W.cell? ⟨b,q+j*7+1,none⟩=some (.int .u8 f.k)/\W.cell? ⟨b,q+j*7+2,none⟩=some (.int .i64 f.i)/\W.cell? ⟨b,q+j*7+3,none⟩=some (.int .i64 f.j)/\W.cell? ⟨b,q+j*7+4,none⟩=some (.int .i64 f.n)/\W.cell? ⟨b,q+j*7+5,none⟩=some (.string f.s)/\W.cell? ⟨b,q+j*7+6,none⟩=some (.slice f.va f.vl f.vc))
     ((refine HFB.out _ ?_;(first|(with_reducible exact bl4)|(with_reducible exact Below.refl _ _)|(with_reducible exact Zq _ _)|(with_reducible exact Below.alloc bl4 bz4 _)|(with_reducible exact Below.setC bl4 (Nat.le_refl _) cc))))
     (first
      |(go_at_call 14;(with_reducible refine (HC.out _ (Below.refl _ _)).mono ?_);rintro e w4 h4;obtain ⟨cc,nn,rfl,ho,hb4⟩:=h4.any;clear h4;have HO:=qh ho;clear ho;have bl4:Below wr.heap.size wr.drew w4:=hb4;have bz4:wr.heap.size<=w4.heap.size:=hb4.size)
      |(go_at_call 14;(with_reducible refine (HC.out _ (Zq _ _)).mono ?_);rintro e w4 h4;obtain ⟨cc,nn,rfl,ho,hb4⟩:=h4.any;clear h4;have HO:=qh ho;clear ho;have bl4:Below wr.heap.size wr.drew w4:=(Zq _ _).trans (hb4.mono (by simp));have bz4:wr.heap.size<=w4.heap.size:=bl4.size;have XB:=Y5 hb4;obtain ⟨xc0,xc1,xc2,xc3,xc4,xc5,xc6,xc7,xc8,xc9,xc10,xc11⟩:=row12 XB.at_;have xg0:=XB.fr 0;have xg1:=XB.fr 1;have xg2:=XB.fr 2;have xg3:=XB.fr 3;have xg4:=XB.fr 4;have xg5:=XB.fr 5;have xg6:=XB.fr 6;have xg7:=XB.fr 7;have xg8:=XB.fr 8;have xg9:=XB.fr 9;have xg10:=XB.fr 10;have xg11:=XB.fr 11;have xl:=XB.lt))
    all_goals
     (first
      |(with_reducible refine Zr (P:=fun W=>BC W w4.heap.size (ccells cc)/\Below wr.heap.size wr.drew W/\wr.heap.size<=w4.heap.size/\OneRes wr.heap.size r nn W cc) (zd9 bl4 bz4 cc _ HO.out (Nat.le_refl _)) ?_)
      |(with_reducible refine Zr (P:=fun W=>BC W wr.heap.size (ccells cc)/\Below wr.heap.size wr.drew W/\wr.heap.size<=wr.heap.size/\OneRes wr.heap.size r nn W cc) (zlv bl4 cc XB HO.out (by simp)) ?_))
     rintro W ⟨hbc,hbW,hyb,ho⟩
     have HO2:=qh ho
     clear ho
     go_wp2_with fail
     go_meet
     exact ⟨_,cc,nn,rfl,rfl,hbc,hbW,hyb,HO2⟩
   case rest=>
    clear v0 v1 v2 v3 v4
    obtain ⟨yb,cc,nn,rfl,rfl,Y,hb5,hyb,HO⟩:=hcut
    have hbw5:uB wr wc:=(Zf wr).trans hb5
    have LB:=HL.out.box.keep hbw5 zs
    obtain ⟨v0,v1,v2,v3,v4⟩:=row5 LB.at_
    have vf0:=LB.fr 0;have vf1:=LB.fr 1;have vf2:=LB.fr 2;have vf3:=LB.fr 3;have vf4:=LB.fr 4
    have zs5:=LB.lt
    have HB5:=qh hbw5
    clear LB hb5 hbw5
    cases r with
    | none=>
      obtain rfl:nn=0:=HO.out
      have hrd:aimP x ((l.take 20).drop j)=aimP x ((l.take 20).drop (j+1)):=by rw [HDR.out,aimP,HRR.out]
      have HSK:=qh (HL.out.skip HB5.out hrd)
      clear hrd Y
      go_wp2_with fail
      go_roundg (20 - (j+1))
      case measure=>omega
      case rel=>exact ⟨j+1,x,cx,ua,m,uc,xs,cs,by omega,by omega,rfl,by go_num,rfl,HMX.out,HSK.out⟩
    | some cm=>
      obtain ⟨hn1,hcm⟩:=HO.out
      subst hn1
      have hsm:=J8 HRR.out
      have hzc:=HB5.out.size
      obtain ⟨z,hz⟩:∃z,doP x cm=z:=⟨_,rfl⟩
      have HDO:Hid (uP 16 #[.agg (uV cx), .agg (uC cc)] wc (DoPost wc z)):=by
       rw [<-hz]
       cases hcm with
       | mk _ p xv hbd hp hxv=>
         have h1:=hsm.sv;have h2:=hsm.ss
         dsimp only at h1 h2
         exact zd1 wc cx.k cx.n cx.s cx.la cx.ll cx.lc cx.oa cx.ol cx.oc x (HVAL.out.later_ HB5.out) (by have:=HWX.out;omega) p xv cc hbd (hp.sub (Zl _ _ _)) (hxv.sub (Zl _ _ _)) (by omega) (fun y hy=>by have:=Zy _ hy;have:=y.str_weight.1;have:=HWX.out;omega) (HT.out.below (HL.out.below.trans (HB5.out.mono hzb)))
      have HCM:=qh hcm
      have HZ:=qh hz
      obtain ⟨y0,y1,y2,y3,y4,y5,y6,y7,y8,y9,y10,y11⟩:=row12 Y.at_
      have zy:=Y.lt
      have HY:=qh Y
      obtain ⟨y,er⟩:=z
      clear hsm hcm hz Y
      go_wp2_with fail
      refine HDO.out.mono ?_
      rintro e w6 ⟨⟨d,rfl,hI6⟩,hb6⟩
      have hz56:=hb6.size
      have LB:=(HL.out.box.keep HB5.out zs).keep hb6 (by omega)
      have Y:=HY.out.keep hb6 zy
      clear v0 v1 v2 v3 v4 vf0 vf1 vf2 vf3 vf4 y0 y1 y2 y3 y4 y5 y6 y7 y8 y9 y10 y11
      obtain ⟨v0,v1,v2,v3,v4⟩:=row5 LB.at_
      have vf0:=LB.fr 0;have vf1:=LB.fr 1;have vf2:=LB.fr 2;have vf3:=LB.fr 3;have vf4:=LB.fr 4
      obtain ⟨y0,y1,y2,y3,y4,y5,y6,y7,y8,y9,y10,y11⟩:=row12 Y.at_
      have zs6:=LB.lt;have zy6:=Y.lt
      have HI6:=qh hI6
      have HB6:=qh hb6
      have HY6:=qh Y
      clear LB Y hI6 hb6
      dsimp only at HI6
      have hal:uB w6 (w6.alloc (.cells (uV d) 36)):=(Below.refl _ _).alloc (Nat.le_refl _) _
      have HAL:=qh hal
      clear hal
      by_cases he:er=0
      .subst he
       have hrd:aimP x ((l.take 20).drop j)=cm::aimP y ((l.take 20).drop (j+1)):=by
        rw [HDR.out,aimP,HRR.out];dsimp only;rw [HZ.out,if_pos rfl]
       have hwy:y.weight<=x.weight+20100:=by
        have:=zb5 HRR.out (by rw [HZ.out]);rw [HZ.out] at this;exact this
       have hm:=AH.mid HL.out HB5.out HCM.out HB6.out HI6.out (.cells (uV d) 36)
       have HM:=qh hm
       have HRD:=qh hrd
       have HWY:=qh hwy
       have hal7:uB (setV w6 w.heap.size 0 d) ((setV w6 w.heap.size 0 d).alloc (.cells (uV d) 36)):=(Below.refl _ _).alloc (Nat.le_refl _) _
       have hst7:=Zh w6 w.heap.size 0 d
       have hY7:=(HY6.out.next hst7 (by omega)).keep hal7 (Nat.lt_of_lt_of_le zy6 hst7.size)
       have hz7:wr.heap.size<=((setV w6 w.heap.size 0 d).alloc (.cells (uV d) 36)).heap.size:=by have:=hst7.size;have:=hal7.size;omega
       have HY7:=qh hY7
       have HZ7:=qh hz7
       clear hm hrd hwy hY7 hz7 hal7 hst7
       obtain ⟨rfl⟩:m=xs.length:=HMX.out
       go_upto_region 10 with fail
       generalize hw7:World.alloc _ _=w7
       have hm7:AM w wr w7 x y cm d cc (.slice ua xs.length uc) xs cs:=by rw [<-hw7];exact HM.out
       have Y:BC w7 yb (ccells cc):=by rw [<-hw7];exact HY7.out
       have hz7:wr.heap.size<=w7.heap.size:=by rw [<-hw7];exact HZ7.out
       clear hw7 v0 v1 v2 v3 v4 vf0 vf1 vf2 vf3 vf4 y0 y1 y2 y3 y4 y5 y6 y7 y8 y9 y10 y11
       obtain ⟨y0,y1,y2,y3,y4,y5,y6,y7,y8,y9,y10,y11⟩:=row12 Y.at_
       have zy7:=Y.lt
       have hown:=hm7.row.own
       have HM7:=qh hm7
       clear hm7 Y
       go_wp2_with (at_builtin;refine wpList_append_lies _ rfl (.tmp 41) (.tmp 43) 53 (by rfl) (w.heap.size+1) 39 i0 _ 12 168 Tryz.underlying53 hi0 hz0 hz1 hz2 rfl (by omega) (.slice ua xs.length uc) xs.length (cs.flatMap ccells) (by rfl) (hown.alloc _) ⟨w7.heap.size,0,none⟩ 1 1 (ccells cc) (by rfl) (by rfl) (K6 w7 cc _) (by simp [ccells,Value.oneCell']) (by omega) (by unfold maxLen;omega) (by omega) (by first|omega|(simp;omega)) (w7.heap.size+1) (by simp) ?_;intro g cap w9 hown9 hgrow9 hat9 hlt9)
       go_roundg (20 - (j+1))
       case measure=>omega
       case rel=>exact ⟨j+1,y,d,some ⟨g,0,none⟩,xs.length+1,cap,xs++ [cm],cs++ [cc],by omega,by omega,rfl,by go_num,rfl,by simp,HL.out.round HM7.out hz7 HRD.out HWY.out hown9 hgrow9 hat9⟩
      .have hne:(er==0)=false:=by simp [he]
       have hrd:aimP x ((l.take 20).drop j)=aimP x ((l.take 20).drop (j+1)):=by
        rw [HDR.out,aimP,HRR.out];dsimp only;rw [HZ.out,if_neg he]
       have HSK:=qh (HL.out.skip (HB5.out.trans ((HB6.out.trans (HAL.out.mono hz56)).mono hzc)) hrd)
       clear hrd
       go_wp2_with fail
       go_roundg (20 - (j+1))
       case measure=>omega
       case rel=>exact ⟨j+1,x,cx,ua,m,uc,xs,cs,by omega,by omega,rfl,by go_num,rfl,HMX.out,HSK.out⟩
  .have hdr:(l.take 20).drop j= [] :=by
    apply List.drop_eq_nil_of_le
    rw [List.length_take, <-HLN.out];omega
   have hrd:=HL.out.rd
   rw [hdr,aimP,List.append_nil] at hrd
   have HRD:=qh hrd
   have hex:¬j<n∨(j<n/\¬j<20):=by omega
   clear hrd hdr hcont
   rcases hex with hq|⟨hq,hq8⟩
   all_goals
    go_wp2_with fail
    rw [<-HR.out, <-HRD.out,HMX.out]
    exact ⟨⟨_,_,_,rfl,RowC.comps (by rw [<-HMX.out];exact HL.out.row) HL.out.cen (by omega) (by omega)⟩,HL.out.below⟩
end Go.Proofs.YtnjgbiachcfigaaGreatDoor
