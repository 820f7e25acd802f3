/-
  Contracts of the functions that the law reaches: conciliatorref06.Do. What add, field.
-/
import Derived.Test.YtnjgbiachcfigaaGreatDoorCt35
import Derived.Test.YtnjgbiachcfigaaGreatDoorCt19
import Derived.Test.YtnjgbiachcfigaaGreatDoorCt32
import Derived.Test.YtnjgbiachcfigaaGreatDoorCt34
namespace Go.Proofs.YtnjgbiachcfigaaGreatDoor
open Go.RowKit
set_option maxHeartbeats 8000000
noncomputable def doneP (x:V) (c:Cm):V:=
 if c.k=1 then .mk x.kd (wrap64 (x.nm+c.n)) x.str x.ls x.os
 else if c.k=2∨c.k=3 then .mk x.kd x.nm x.str x.ls (fieldsDo x.os c.key c.v (c.k==3))
 else if c.k=8∨c.k=9 then .mk x.kd x.nm (textDo x.str c.k c.i c.n c.s) x.ls x.os
 else .mk x.kd x.nm x.str (listDo x.ls c.k c.i c.j c.v) x.os
def doneQ:Option V->V×Int
 |none=>(V.none,30)
 |some w=>(w,0)
theorem Y9 (z:V):doneQ (some z)=(z,0):=rfl
noncomputable def doP (v:V) (c:Cm):V×Int:=
 if checkP v c=0 then (match getP v c.path with
  |none=>(V.none,30)
  |some x=>doneQ (putP v c.path (doneP x c))) else (V.none,checkP v c)
theorem Yn {v:V} {c:Cm} {x:V} (he:checkP v c=0) (hg:getP v c.path=some x):doP v c=doneQ (putP v c.path (doneP x c)):=by
 rw [doP,if_pos he];simp only [hg]
theorem Ys (p:List St):∀ {v x:V} (_:getP v p=some x) (y:V),∃z,putP v p y=some z:=by
 induction p with
 |nil=>intro v x _ y;exact ⟨y,rfl⟩
 | cons s r ih=>
   intro v x h y
   unfold getP at h
   unfold putP
   cases hs:stepP v s with
   |none=>rw [hs] at h;cases h
   | some q=>
     rw [hs] at h
     obtain ⟨z,hz⟩:=ih h y
     simp only [hz]
     exact ⟨_,rfl⟩
theorem zcw {c:Cm} (h:cmSound c=true):1<=c.k/\c.k<=9:=by
 unfold cmSound at h
 simp only [Bool.and_eq_true] at h
 have hk:=h.1.1.1.1.1.1.1.1.1.1.1
 unfold kIs at hk
 simpa using hk
theorem zbk (s:ByteArray) (k i n:Int) (cs:ByteArray):(textDo s k i n cs).size<=s.size+s.size+cs.size:=by
 unfold textDo
 split
 .rw [ByteArray.size_append,ByteArray.size_append,ByteArray.size_extract,ByteArray.size_extract];omega
 .rw [ByteArray.size_append,ByteArray.size_extract,ByteArray.size_extract];omega
theorem IsVals.sub {w w':World} {B:Nat} {l:List V} {a:Option Addr} {n c:Nat} (hs:Shows w w' B) (h:IsVals w B l a n c):IsVals w' B l a n c:=by
 obtain ⟨h1,h2,h3,h4,b,o,f,h5,h6⟩:=h
 exact ⟨h1,h2,h3,h4,b,o,f,h5,fun i hi=>⟨(h6 i hi).1.sub hs (h5 (by omega)).2,(h6 i hi).2.sub hs⟩⟩
theorem Z8 {v:V} {c:Cm} (h:checkP v c=0):cmSound c=true/\∃x,getP v c.path=some x/\kindsP x c.k c.i c.j c.n c.key=0:=by
 unfold checkP at h
 cases hs:cmSound c with
 |false=>rw [hs,if_pos rfl] at h;omega
 | true=>
   rw [hs,if_neg (by simp)] at h
   cases hg:getP v c.path with
   |none=>rw [hg] at h;simp at h
   |some x=>rw [hg] at h;exact ⟨rfl,x,rfl,h⟩
def DoPost (w:World) (r:V×Int) (e:Ending) (w':World):Prop:=
 (∃c:VC,e= .returned (.tuple #[.agg #[.int .u8 c.k, .int .i64 c.n, .string c.s, .slice c.la c.ll c.lc, .slice c.oa c.ol c.oc], .int .i64 r.2])/\IsVal (only (fun b=>w.heap.size<=b) w') w'.heap.size r.1 c)/\Below w.heap.size w w'
theorem zjp {tmps:Array Value} {W:World} {b:Nat} {c:VC} {x:Value} (ht:tmps[4]? =some (.pointer (some ⟨b,0,none⟩))) (hx:tmps[5]? =some x) (h:BC W b (vcells c)):
 (results Tryz.f16 tmps).run Tryz.prog W= .ok (.tuple #[.agg #[.int .u8 c.k, .int .i64 c.n, .string c.s, .slice c.la c.ll c.lc, .slice c.oa c.ol c.oc],x]) W:=by
 obtain ⟨r0,r1,r2,r3,r4⟩:=(⟨h.at_ 0 _ rfl,h.at_ 1 _ rfl,h.at_ 2 _ rfl,h.at_ 3 _ rfl,h.at_ 4 _ rfl⟩:W.cell? ⟨b,0,none⟩=some (.int .u8 c.k)/\W.cell? ⟨b,1,none⟩=some (.int .i64 c.n)/\W.cell? ⟨b,2,none⟩=some (.string c.s)/\W.cell? ⟨b,3,none⟩=some (.slice c.la c.ll c.lc)/\W.cell? ⟨b,4,none⟩=some (.slice c.oa c.ol c.oc))
 simp [results,Tryz.results16,go_sem,ht,hx,r0,r1,r2,r3,r4]
theorem Qb {w W:World} {x:Act} {c:VC} {r:V×Int} (h:BC W (w.heap.size+1+1) (vcells c)) (hv:IsVal (only (fun b=>w.heap.size<=b) W) W.heap.size r.1 c) (hb:Below w.heap.size w W) (hd:x.defers= []) (ht:x.tmps[4]? =some (.pointer (some ⟨w.heap.size+1+1,0,none⟩))) (hx:x.tmps[5]? =some (.int .i64 r.2)):
 bodyPost Tryz.prog Tryz.f16 (DoPost w r) .ret x W:=⟨hd,_,zjp ht hx h,⟨c,rfl,hv⟩,hb⟩
structure DB (w W:World) (c:VC) (cc:CC):Prop where
 v:BC W w.heap.size (vcells c)
 c:BC W (w.heap.size+1) (ccells cc)
 r:BC W (w.heap.size+1+1) (vcells vzero)
 below:Below w.heap.size w W
theorem DB.next {w W W':World} {c:VC} {cc:CC} {B:Nat} (h:DB w W c cc) (hb:Below B W W') (hB:w.heap.size+3<=B):DB w W' c cc:=
 ⟨h.v.keep hb (by omega),h.c.keep hb (by omega),h.r.keep hb (by omega),h.below.trans (hb.mono (by omega))⟩
theorem DB.start (w:World) (c:VC) (cc:CC) (t1 t2 t3:TypeId):DB w (((w.alloc (.cells #[.int .u8 c.k, .int .i64 c.n, .string c.s, .slice c.la c.ll c.lc, .slice c.oa c.ol c.oc] t1)).alloc (.cells #[.int .u8 cc.k, .slice cc.pa cc.pl cc.pc, .string cc.key, .int .i64 cc.i, .int .i64 cc.j, .int .i64 cc.n, .int .u8 cc.v.k, .int .i64 cc.v.n, .string cc.v.s, .slice cc.v.la cc.v.ll cc.v.lc, .slice cc.v.oa cc.v.ol cc.v.oc, .string cc.s] t2)).alloc (.cells #[.int .u8 0, .int .i64 0, .string { data:= #[] }, .slice none 0 0, .slice none 0 0] t3)) c cc:=by
 have k:=KBk.start w c cc t1 t2
 obtain ⟨w2,hw2⟩:∃w2,((w.alloc (.cells #[.int .u8 c.k, .int .i64 c.n, .string c.s, .slice c.la c.ll c.lc, .slice c.oa c.ol c.oc] t1)).alloc (.cells #[.int .u8 cc.k, .slice cc.pa cc.pl cc.pc, .string cc.key, .int .i64 cc.i, .int .i64 cc.j, .int .i64 cc.n, .int .u8 cc.v.k, .int .i64 cc.v.n, .string cc.v.s, .slice cc.v.la cc.v.ll cc.v.lc, .slice cc.v.oa cc.v.ol cc.v.oc, .string cc.s] t2))=w2:=⟨_,rfl⟩
 have s2:w2.heap.size=w.heap.size+1+1:=by rw [<-hw2,World.size_alloc,World.size_alloc]
 rw [hw2] at k ⊢
 have b3:Below w2.heap.size w2 (w2.alloc (.cells #[.int .u8 0, .int .i64 0, .string { data:= #[] }, .slice none 0 0, .slice none 0 0] t3)):=(Below.refl _ _).alloc (Nat.le_refl _) _
 have c3:=BC.start w2 #[.int .u8 0, .int .i64 0, .string { data:= #[] }, .slice none 0 0, .slice none 0 0] t3
 rw [s2] at c3
 exact ⟨k.v.keep b3 (by omega),k.c.keep b3 (by omega),c3,k.below.trans (b3.mono (by omega))⟩
theorem DB.result {w W:World} {c:VC} {cc:CC} (h:DB w W c cc) (d:VC):BC (((((W.setCell ⟨w.heap.size+1+1,0,none⟩ (.int .u8 d.k)).setCell ⟨w.heap.size+1+1,1,none⟩ (.int .i64 d.n)).setCell ⟨w.heap.size+1+1,2,none⟩ (.string d.s)).setCell ⟨w.heap.size+1+1,3,none⟩ (.slice d.la d.ll d.lc)).setCell ⟨w.heap.size+1+1,4,none⟩ (.slice d.oa d.ol d.oc)) (w.heap.size+1+1) (vcells d)/\Below w.heap.size w (((((W.setCell ⟨w.heap.size+1+1,0,none⟩ (.int .u8 d.k)).setCell ⟨w.heap.size+1+1,1,none⟩ (.int .i64 d.n)).setCell ⟨w.heap.size+1+1,2,none⟩ (.string d.s)).setCell ⟨w.heap.size+1+1,3,none⟩ (.slice d.la d.ll d.lc)).setCell ⟨w.heap.size+1+1,4,none⟩ (.slice d.oa d.ol d.oc)):=
 ⟨Zz h.r d,Below.set5' h.below (by omega) _ _ _ _ _⟩
theorem Yi {w:World} {B:Nat} {k n:Int} {s:ByteArray} {l:List V} {o:List (ByteArray×V)} {la:Option Addr} {ll lc:Nat} {oa:Option Addr} {ol oc:Nat} (hk0:0<=k) (hk1:k<256) (hn0: -9223372036854775808<=n) (hn1:n<=9223372036854775807) (hs:s.size<=140737488355328) (h1:IsVals w B l la ll lc) (h2:IsFields w B o oa ol oc):IsVal w B (.mk k n s l o) ⟨k,n,s,la,ll,lc,oa,ol,oc⟩:=
 IsVal.of_lists (c:=⟨k,n,s,la,ll,lc,oa,ol,oc⟩) ⟨hk0,hk1,hn0,hn1,hs,h1.cap,h1.max,h1.few,h2.cap,h2.max,h2.few⟩ h1 h2
set_option maxRecDepth 100000 in
theorem zhu (w:World) (vk vn:Int) (vs:ByteArray) (la:Option Addr) (ll lc:Nat) (oa:Option Addr) (ol oc:Nat) (v:V) (hv:IsVal w w.heap.size v ⟨vk,vn,vs,la,ll,lc,oa,ol,oc⟩) (hw:v.weight<=100000000) (p:List St) (xv:V) (cc:CC) (hcb:cc.Bnd) (hp:IsSteps w w.heap.size p cc.pa cc.pl cc.pc) (hxv:IsVal w w.heap.size xv cc.v) (hxw:xv.weight<=4611686018427387904) (hT:Tabs w) (he:checkP v ⟨cc.k,p,cc.key,cc.i,cc.j,cc.n,xv,cc.s⟩≠0):
 Calls Tryz.prog 16 #[.agg #[.int .u8 vk, .int .i64 vn, .string vs, .slice la ll lc, .slice oa ol oc], .agg #[.int .u8 cc.k, .slice cc.pa cc.pl cc.pc, .string cc.key, .int .i64 cc.i, .int .i64 cc.j, .int .i64 cc.n, .int .u8 cc.v.k, .int .i64 cc.v.n, .string cc.v.s, .slice cc.v.la cc.v.ll cc.v.lc, .slice cc.v.oa cc.v.ol cc.v.oc, .string cc.s]] w (DoPost w (doP v ⟨cc.k,p,cc.key,cc.i,cc.j,cc.n,xv,cc.s⟩)):=by
 have HCK:Hid (∀W,Below w.heap.size w W->Calls Tryz.prog 34 #[.agg #[.int .u8 vk, .int .i64 vn, .string vs, .slice la ll lc, .slice oa ol oc], .agg #[.int .u8 cc.k, .slice cc.pa cc.pl cc.pc, .string cc.key, .int .i64 cc.i, .int .i64 cc.j, .int .i64 cc.n, .int .u8 cc.v.k, .int .i64 cc.v.n, .string cc.v.s, .slice cc.v.la cc.v.ll cc.v.lc, .slice cc.v.oa cc.v.ol cc.v.oc, .string cc.s]] W fun e w'=>e= .returned (.int .i64 (checkP v ⟨cc.k,p,cc.key,cc.i,cc.j,cc.n,xv,cc.s⟩))/\Below W.heap.size W w'):=fun W hW=>Xx W vk vn vs la ll lc oa ol oc v (hv.later_ hW) (by omega) p xv cc hcb (hp.later_ hW) (hxv.later_ hW) (by omega) (hT.below hW)
 have HB:=qh (DB.start w ⟨vk,vn,vs,la,ll,lc,oa,ol,oc⟩ cc 36 39 36)
 have hd:doP v ⟨cc.k,p,cc.key,cc.i,cc.j,cc.n,xv,cc.s⟩=(V.none,checkP v ⟨cc.k,p,cc.key,cc.i,cc.j,cc.n,xv,cc.s⟩):=by rw [doP,if_neg he]
 rw [hd]
 obtain ⟨E,hE⟩:∃E,checkP v ⟨cc.k,p,cc.key,cc.i,cc.j,cc.n,xv,cc.s⟩=E:=⟨_,rfl⟩
 rw [hE] at HCK he ⊢
 have fe:(E !=0)=true:=by simp [he]
 clear hv hp hxv hT hcb hd hE
 go_enter Tryz.func16,Tryz.ntmps16
 generalize hQ0:bodyPost _ _ _=Q0
 have HQ:=qh hQ0
 clear hQ0
 go_wp2_with fail
 refine (HCK.out _ HB.out.below).mono ?_
 rintro e W ⟨rfl,hb1⟩
 have B:=HB.out.next hb1 (by simp)
 have v0:=B.v.at_ 0 _ rfl;have v1:=B.v.at_ 1 _ rfl;have v2:=B.v.at_ 2 _ rfl;have v3:=B.v.at_ 3 _ rfl;have v4:=B.v.at_ 4 _ rfl
 have b0:=B.c.at_ 0 _ rfl;have b1:=B.c.at_ 1 _ rfl;have b2:=B.c.at_ 2 _ rfl;have b3:=B.c.at_ 3 _ rfl;have b4:=B.c.at_ 4 _ rfl;have b5:=B.c.at_ 5 _ rfl;have b6:=B.c.at_ 6 _ rfl;have b7:=B.c.at_ 7 _ rfl;have b8:=B.c.at_ 8 _ rfl;have b9:=B.c.at_ 9 _ rfl;have b10:=B.c.at_ 10 _ rfl;have b11:=B.c.at_ 11 _ rfl
 have r0:=B.r.at_ 0 _ rfl;have r1:=B.r.at_ 1 _ rfl;have r2:=B.r.at_ 2 _ rfl;have r3:=B.r.at_ 3 _ rfl;have r4:=B.r.at_ 4 _ rfl
 have f0:=B.r.fr 0;have f1:=B.r.fr 1;have f2:=B.r.fr 2;have f3:=B.r.fr 3;have f4:=B.r.fr 4
 have z0:=B.v.lt;have z1:=B.c.lt;have z2:=B.r.lt
 have HBW:=qh B
 clear B hb1
 go_wp2_with fail
 rw [<-HQ.out]
 have ST:=HBW.out.result ⟨0,0, { data:= #[] },none,0,0,none,0,0⟩
 exact Qb (r:=(V.none,E)) ST.1 (Zx _ _) ST.2 rfl rfl rfl
set_option maxRecDepth 100000 in
theorem zjq (w:World) (vk vn:Int) (vs:ByteArray) (la:Option Addr) (ll lc:Nat) (oa:Option Addr) (ol oc:Nat) (v:V) (hv:IsVal w w.heap.size v ⟨vk,vn,vs,la,ll,lc,oa,ol,oc⟩) (hw:v.weight<=100000000) (p:List St) (xv:V) (cc:CC) (hcb:cc.Bnd) (hp:IsSteps w w.heap.size p cc.pa cc.pl cc.pc) (hxv:IsVal w w.heap.size xv cc.v) (hxw:xv.weight<=4611686018427387904) (hT:Tabs w) (he:checkP v ⟨cc.k,p,cc.key,cc.i,cc.j,cc.n,xv,cc.s⟩=0) (hk:cc.k=1):
 Calls Tryz.prog 16 #[.agg #[.int .u8 vk, .int .i64 vn, .string vs, .slice la ll lc, .slice oa ol oc], .agg #[.int .u8 cc.k, .slice cc.pa cc.pl cc.pc, .string cc.key, .int .i64 cc.i, .int .i64 cc.j, .int .i64 cc.n, .int .u8 cc.v.k, .int .i64 cc.v.n, .string cc.v.s, .slice cc.v.la cc.v.ll cc.v.lc, .slice cc.v.oa cc.v.ol cc.v.oc, .string cc.s]] w (DoPost w (doP v ⟨cc.k,p,cc.key,cc.i,cc.j,cc.n,xv,cc.s⟩)):=by
 obtain ⟨_,x,hg,hkd⟩:=Z8 he
 dsimp only at hg hkd
 have hxw2:=Z7 p hg
 have HCK:Hid (∀W,Below w.heap.size w W->Calls Tryz.prog 34 #[.agg #[.int .u8 vk, .int .i64 vn, .string vs, .slice la ll lc, .slice oa ol oc], .agg #[.int .u8 cc.k, .slice cc.pa cc.pl cc.pc, .string cc.key, .int .i64 cc.i, .int .i64 cc.j, .int .i64 cc.n, .int .u8 cc.v.k, .int .i64 cc.v.n, .string cc.v.s, .slice cc.v.la cc.v.ll cc.v.lc, .slice cc.v.oa cc.v.ol cc.v.oc, .string cc.s]] W fun e w'=>e= .returned (.int .i64 0)/\Below W.heap.size W w'):=fun W hW=>by
  have:=Xx W vk vn vs la ll lc oa ol oc v (hv.later_ hW) (by omega) p xv cc hcb (hp.later_ hW) (hxv.later_ hW) (by omega) (hT.below hW)
  rw [he] at this;exact this
 have HGT:Hid (∀W,Below w.heap.size w W->Calls Tryz.prog 38 #[.agg #[.int .u8 vk, .int .i64 vn, .string vs, .slice la ll lc, .slice oa ol oc], .slice cc.pa cc.pl cc.pc] W (GetPost W (some x))):=fun W hW=>by rw [<-hg];exact Xo W vk vn vs la ll lc oa ol oc v (hv.later_ hW) p cc.pa cc.pl cc.pc (hp.later_ hW)
 have HPT:Hid (∀(W:World) (y:V) (k n:Int) (s:ByteArray) (a:Option Addr) (m c:Nat) (a':Option Addr) (m' c':Nat),Below w.heap.size w W->IsVal W W.heap.size y ⟨k,n,s,a,m,c,a',m',c'⟩->Calls Tryz.prog 51 #[.agg #[.int .u8 vk, .int .i64 vn, .string vs, .slice la ll lc, .slice oa ol oc], .slice cc.pa cc.pl cc.pc, .agg #[.int .u8 k, .int .i64 n, .string s, .slice a m c, .slice a' m' c']] W (GetPost W (putP v p y))):=fun W y k n s a m c a' m' c' hW hy=>Je y k n s a m c a' m' c' p W vk vn vs la ll lc oa ol oc v (hv.later_ hW) cc.pa cc.pl cc.pc (hp.later_ hW) hy
 have hdo:doP v ⟨cc.k,p,cc.key,cc.i,cc.j,cc.n,xv,cc.s⟩=doneQ (putP v p (doneP x ⟨cc.k,p,cc.key,cc.i,cc.j,cc.n,xv,cc.s⟩)):=Yn he hg
 rw [hdo]
 have HB:=qh (DB.start w ⟨vk,vn,vs,la,ll,lc,oa,ol,oc⟩ cc 36 39 36)
 have HTT:=qh hT
 have HXV:=qh hxv
 have HCB:=qh hcb
 have HKD:=qh hkd
 have hsw:=x.str_weight
 obtain ⟨kx,nx,sx,lx,ox,rfl⟩:=x.eta
 dsimp only [V.str,V.ls,V.os] at hsw
 obtain ⟨Y,hY⟩:∃Y,doneP (.mk kx nx sx lx ox) ⟨cc.k,p,cc.key,cc.i,cc.j,cc.n,xv,cc.s⟩=Y:=⟨_,rfl⟩
 rw [hY]
 obtain ⟨z,hPR⟩:=Ys p hg Y
 rw [hPR,Y9]
 have HY:=qh hY
 have HPR:=qh hPR
 clear hv hp hxv hT hcb hdo hY hPR he hg hkd
 have HK:=qh hk
 clear hk
 go_enter Tryz.func16,Tryz.ntmps16
 generalize hQ0:bodyPost _ _ _=Q0
 have HQ:=qh hQ0
 clear hQ0
 go_wp2_with fail
 refine (HCK.out _ HB.out.below).mono ?_
 rintro e W ⟨rfl,hb1⟩
 have B:=HB.out.next hb1 (by simp)
 have v0:=B.v.at_ 0 _ rfl;have v1:=B.v.at_ 1 _ rfl;have v2:=B.v.at_ 2 _ rfl;have v3:=B.v.at_ 3 _ rfl;have v4:=B.v.at_ 4 _ rfl
 have b0:=B.c.at_ 0 _ rfl;have b1:=B.c.at_ 1 _ rfl;have b2:=B.c.at_ 2 _ rfl;have b3:=B.c.at_ 3 _ rfl;have b4:=B.c.at_ 4 _ rfl;have b5:=B.c.at_ 5 _ rfl;have b6:=B.c.at_ 6 _ rfl;have b7:=B.c.at_ 7 _ rfl;have b8:=B.c.at_ 8 _ rfl;have b9:=B.c.at_ 9 _ rfl;have b10:=B.c.at_ 10 _ rfl;have b11:=B.c.at_ 11 _ rfl
 have r0:=B.r.at_ 0 _ rfl;have r1:=B.r.at_ 1 _ rfl;have r2:=B.r.at_ 2 _ rfl;have r3:=B.r.at_ 3 _ rfl;have r4:=B.r.at_ 4 _ rfl
 have f0:=B.r.fr 0;have f1:=B.r.fr 1;have f2:=B.r.fr 2;have f3:=B.r.fr 3;have f4:=B.r.fr 4
 have z0:=B.v.lt;have z1:=B.c.lt;have z2:=B.r.lt
 have HBW:=qh B
 clear B hb1
 go_wp2_with fail
 refine (HGT.out _ HBW.out.below).mono ?_
 rintro e W2 ⟨⟨d,rfl,hI⟩,hb2⟩
 have B2:=HBW.out.next hb2 (Nat.succ_le_of_lt z2)
 obtain ⟨e1,e2,e3,hbd,hl,ho⟩:=hI.lists
 subst e1 e2 e3
 clear v0 v1 v2 v3 v4 r0 r1 r2 r3 r4 f0 f1 f2 f3 f4 b0 b1 b2 b3 b4 b5 b6 b7 b8 b9 b10 b11
 have v0:=B2.v.at_ 0 _ rfl;have v1:=B2.v.at_ 1 _ rfl;have v2:=B2.v.at_ 2 _ rfl;have v3:=B2.v.at_ 3 _ rfl;have v4:=B2.v.at_ 4 _ rfl
 have b0:=B2.c.at_ 0 _ rfl;have b1:=B2.c.at_ 1 _ rfl;have b2:=B2.c.at_ 2 _ rfl;have b3:=B2.c.at_ 3 _ rfl;have b4:=B2.c.at_ 4 _ rfl;have b5:=B2.c.at_ 5 _ rfl;have b6:=B2.c.at_ 6 _ rfl;have b7:=B2.c.at_ 7 _ rfl;have b8:=B2.c.at_ 8 _ rfl;have b9:=B2.c.at_ 9 _ rfl;have b10:=B2.c.at_ 10 _ rfl;have b11:=B2.c.at_ 11 _ rfl
 have r0:=B2.r.at_ 0 _ rfl;have r1:=B2.r.at_ 1 _ rfl;have r2:=B2.r.at_ 2 _ rfl;have r3:=B2.r.at_ 3 _ rfl;have r4:=B2.r.at_ 4 _ rfl
 have f0:=B2.r.fr 0;have f1:=B2.r.fr 1;have f2:=B2.r.fr 2;have f3:=B2.r.fr 3;have f4:=B2.r.fr 4
 have z0:=B2.v.lt;have z1:=B2.c.lt;have z2:=B2.r.lt
 have zW:=HBW.out.below.size
 have zW2:=hb2.size
 have z22:=B2.r.lt
 have HB2:=qh B2
 have HI:=qh hI
 have HBD:=qh hbd
 have HL:=qh hl
 have HO:=qh ho
 have HAL:=qh (((Below.refl _ _).alloc (Nat.le_refl _) (.cells #[.int .u8 d.k, .int .i64 d.n, .string d.s, .slice d.la d.ll d.lc, .slice d.oa d.ol d.oc] 36)):Below W2.heap.size W2 _)
 clear B2 hI hbd hl ho hb2
 rw [HK.out] at b0
 obtain ⟨N,hN⟩:∃N,wrap64 (d.n+cc.n)=N:=⟨_,rfl⟩
 have hwr:IntKind.i64.wrap (d.n+cc.n)=N:=(zdw _).trans hN
 have hN0: -9223372036854775808<=N:=by rw [<-hN];exact zbo _
 have hN1:N<=9223372036854775807:=by rw [<-hN];exact Kr _
 have HN:=qh hN
 clear hN
 go_wp2_with fail
 have hbl4:Below W2.heap.size W2 (W2.alloc (.cells #[.int .u8 d.k, .int .i64 N, .string d.s, .slice d.la d.ll d.lc, .slice d.oa d.ol d.oc] 36)):=(Below.refl _ _).alloc (Nat.le_refl _) _
 have hx4:=(HI.out.sub (Zn _ _ _)).later_ hbl4
 obtain ⟨_,_,_,_,hl4,ho4⟩:=hx4.lists
 have HB4:=qh (HB2.out.next hbl4 (Nat.succ_le_of_lt z22))
 have HCALL:Hid (Calls Tryz.prog 51 #[.agg #[.int .u8 vk, .int .i64 vn, .string vs, .slice la ll lc, .slice oa ol oc], .slice cc.pa cc.pl cc.pc, .agg #[.int .u8 d.k, .int .i64 N, .string d.s, .slice d.la d.ll d.lc, .slice d.oa d.ol d.oc]] (W2.alloc (.cells #[.int .u8 d.k, .int .i64 N, .string d.s, .slice d.la d.ll d.lc, .slice d.oa d.ol d.oc] 36)) (GetPost (W2.alloc (.cells #[.int .u8 d.k, .int .i64 N, .string d.s, .slice d.la d.ll d.lc, .slice d.oa d.ol d.oc] 36)) (some z))):=by
  have:=HPT.out (W2.alloc (.cells #[.int .u8 d.k, .int .i64 N, .string d.s, .slice d.la d.ll d.lc, .slice d.oa d.ol d.oc] 36)) Y d.k N d.s d.la d.ll d.lc d.oa d.ol d.oc HB4.out.below (by
   have hYe:Y= .mk d.k N d.s lx ox:=by rw [<-HY.out,doneP,if_pos HK.out, <-HN.out];rfl
   rw [hYe]
   exact Yi HBD.out.k0 HBD.out.k1 hN0 hN1 HBD.out.s1 hl4 ho4)
  rw [HPR.out] at this;exact this
 clear hx4 hl4 ho4
 refine HCALL.out.mono ?_
 rintro e W6 ⟨⟨d6,rfl,hz⟩,hb6⟩
 have B6:=HB4.out.next hb6 (Nat.succ_le_of_lt HB4.out.r.lt)
 clear v0 v1 v2 v3 v4 r0 r1 r2 r3 r4 f0 f1 f2 f3 f4 b0 b1 b2 b3 b4 b5 b6 b7 b8 b9 b10 b11
 have v0:=B6.v.at_ 0 _ rfl;have v1:=B6.v.at_ 1 _ rfl;have v2:=B6.v.at_ 2 _ rfl;have v3:=B6.v.at_ 3 _ rfl;have v4:=B6.v.at_ 4 _ rfl
 have b0:=B6.c.at_ 0 _ rfl;have b1:=B6.c.at_ 1 _ rfl;have b2:=B6.c.at_ 2 _ rfl;have b3:=B6.c.at_ 3 _ rfl;have b4:=B6.c.at_ 4 _ rfl;have b5:=B6.c.at_ 5 _ rfl;have b6:=B6.c.at_ 6 _ rfl;have b7:=B6.c.at_ 7 _ rfl;have b8:=B6.c.at_ 8 _ rfl;have b9:=B6.c.at_ 9 _ rfl;have b10:=B6.c.at_ 10 _ rfl;have b11:=B6.c.at_ 11 _ rfl
 have r0:=B6.r.at_ 0 _ rfl;have r1:=B6.r.at_ 1 _ rfl;have r2:=B6.r.at_ 2 _ rfl;have r3:=B6.r.at_ 3 _ rfl;have r4:=B6.r.at_ 4 _ rfl
 have f0:=B6.r.fr 0;have f1:=B6.r.fr 1;have f2:=B6.r.fr 2;have f3:=B6.r.fr 3;have f4:=B6.r.fr 4
 have z0:=B6.v.lt;have z1:=B6.c.lt;have z2:=B6.r.lt
 have HB6:=qh B6
 have hz4:=HB4.out.below.size
 have hz5:=HB4.out.r.lt
 have HZ:=qh hz
 clear B6 hb6 hz
 go_wp2_with fail
 rw [<-HQ.out]
 have ST:=HB6.out.result d6
 have hst:=Zi W6 (w.heap.size+1+1) 0 d6
 exact Qb (r:=(z,0)) ST.1 ((Zm (base:=w.heap.size+1+1+1) (HZ.out.sub (Ze fun k hk _=>⟨Nat.le_trans (Nat.succ_le_of_lt hz5) hk,rfl⟩)) hst (by omega)).sub (Ze fun k hk _=>⟨by omega,rfl⟩)) ST.2 rfl rfl rfl
def MidPost (base:Nat) (W3:World) (B:Nat) (cc:CC) (y:V) (e:Ending) (w':World):Prop:=
 e= .returned (.tuple #[])/\∃d':VC,BC w' B (wcells d' cc)/\IsVal w' w'.heap.size y d'/\Below base W3 w'
structure Mid (w0 W2 W3:World) (base B:Nat) (x:V) (d:VC) (cc:CC) (xv:V):Prop where
 whole:Whole W2 base x d
 next:Below W2.heap.size W2 W3
 box:BC W3 B (wcells d cc)
 B2:W2.heap.size<=B
 b0:w0.heap.size<=base
 b1:base<=W2.heap.size
 low:Below w0.heap.size w0 W2
 xv:IsVal w0 w0.heap.size xv cc.v
theorem Whole.isVal {w:World} {base:Nat} {x:V} {d:VC} (h:Whole w base x d):IsVal w w.heap.size x d:=h.sepI.isVal.sub (Zn _ _ _)
theorem IsVal.parts {w:World} {B:Nat} {x:V} {d:VC} (h:IsVal w B x d):x.kd=d.k/\x.nm=d.n/\x.str=d.s/\d.Bnd/\IsVals w B x.ls d.la d.ll d.lc/\IsFields w B x.os d.oa d.ol d.oc:=by
 obtain ⟨kx,nx,sx,lx,ox,rfl⟩:=x.eta
 obtain ⟨e1,e2,e3,hbd,hl,ho⟩:=h.lists
 subst e1 e2 e3
 exact ⟨rfl,rfl,rfl,hbd,hl,ho⟩
theorem Mid.seen {w0 W2 W3 W:World} {base B:Nat} {x:V} {d:VC} {cc:CC} {xv:V} (h:Mid w0 W2 W3 base B x d cc xv) (hb:Below W2.heap.size W2 W):IsVal W W.heap.size x d:=(Whole.isVal h.whole).later_ hb
theorem Mid.seenv {w0 W2 W3 W:World} {base B:Nat} {x:V} {d:VC} {cc:CC} {xv:V} (h:Mid w0 W2 W3 base B x d cc xv) (hb:Below W2.heap.size W2 W):IsVal W W.heap.size xv cc.v:=h.xv.later_ (h.low.trans (hb.mono (Nat.le_trans h.b0 h.b1)))
theorem zjn (w0 W2 W3:World) (base B:Nat) (x:V) (d:VC) (p:List St) (cc:CC) (xv:V) (h:Mid w0 W2 W3 base B x d cc xv) (hk:cc.k=1):
 Calls Tryz.prog 43 #[.pointer (some ⟨B,0,none⟩)] W3 (MidPost base W3 B cc (doneP x ⟨cc.k,p,cc.key,cc.i,cc.j,cc.n,xv,cc.s⟩)):=by
 refine (zhn W3 B d cc h.box).mono ?_
 rintro e w' ⟨rfl,W,hb,rfl⟩
 have hb2:Below W2.heap.size W2 (W.setCell ⟨B,1,none⟩ (.int .i64 (wrap64 (d.n+cc.n)))):=(h.next.trans (hb.mono h.next.size)).set_ h.B2
 have hx:=h.seen hb2
 have hB:=(h.box.keep hb h.box.lt).set (i:=1) (x:= .int .i64 (wrap64 (d.n+cc.n))) (by simp [wcells,vcells])
 obtain ⟨e1,e2,e3,hbd,hl,ho⟩:=hx.parts
 refine ⟨rfl,⟨d.k,wrap64 (d.n+cc.n),d.s,d.la,d.ll,d.lc,d.oa,d.ol,d.oc⟩,hB, ?_,(hb.mono (Nat.le_trans h.b1 h.next.size)).set_ (Nat.le_trans h.b1 h.B2)⟩
 rw [doneP,if_pos hk,e1,e2,e3]
 exact Yi hbd.k0 hbd.k1 (zbo _) (Kr _) hbd.s1 hl ho
theorem zlb (w0 W2 W3:World) (base B:Nat) (x:V) (d:VC) (p:List St) (cc:CC) (xv:V) (h:Mid w0 W2 W3 base B x d cc xv) (hk:cc.k=8∨cc.k=9) (hcb:cc.Bnd) (hs:d.s.size<=1000000000000) (hcs:d.s.size+d.s.size+cc.s.size<=140737488355328) (hc:tCheck x.str cc.k cc.i cc.n=0):
 Calls Tryz.prog 46 #[.pointer (some ⟨B,0,none⟩)] W3 (MidPost base W3 B cc (doneP x ⟨cc.k,p,cc.key,cc.i,cc.j,cc.n,xv,cc.s⟩)):=by
 have hstr:x.str=d.s:=(Xc (Whole.isVal h.whole)).1
 rw [hstr] at hc
 refine (zjl W3 B d cc h.box hcb hs hc).mono ?_
 rintro e w' ⟨rfl,W,hb,rfl⟩
 have htz:(textDo d.s cc.k cc.i cc.n cc.s).size<=140737488355328:=by have:=zbk d.s cc.k cc.i cc.n cc.s;omega
 have hb2:Below W2.heap.size W2 (W.setCell ⟨B,2,none⟩ (.string (textDo d.s cc.k cc.i cc.n cc.s))):=(h.next.trans (hb.mono h.next.size)).set_ h.B2
 have hx:=h.seen hb2
 have hB:=(h.box.keep hb h.box.lt).set (i:=2) (x:= .string (textDo d.s cc.k cc.i cc.n cc.s)) (by simp [wcells,vcells])
 obtain ⟨e1,e2,e3,hbd,hl,ho⟩:=hx.parts
 refine ⟨rfl,⟨d.k,d.n,textDo d.s cc.k cc.i cc.n cc.s,d.la,d.ll,d.lc,d.oa,d.ol,d.oc⟩,hB, ?_,(hb.mono (Nat.le_trans h.b1 h.next.size)).set_ (Nat.le_trans h.b1 h.B2)⟩
 rw [doneP,if_neg (by dsimp only;omega),if_neg (by dsimp only;omega),if_pos hk,e1,e2,e3]
 exact Yi hbd.k0 hbd.k1 hbd.n0 hbd.n1 htz hl ho
theorem zfc (w0 W2 W3:World) (base B:Nat) (x:V) (d:VC) (p:List St) (cc:CC) (xv:V) (h:Mid w0 W2 W3 base B x d cc xv) (hk:4<=cc.k/\cc.k<=7) (hfew:x.ls.length<=100000000) (hc:lCheck x.ls.length cc.k cc.i cc.j=0):
 Calls Tryz.prog 45 #[.pointer (some ⟨B,0,none⟩)] W3 (MidPost base W3 B cc (doneP x ⟨cc.k,p,cc.key,cc.i,cc.j,cc.n,xv,cc.s⟩)):=by
 obtain ⟨_,_,_,_,hl3,_⟩:=(h.seen h.next).parts
 refine (zc6 W3 B d cc x.ls xv h.box ?_ hfew (h.seenv h.next) hc).mono ?_
 .exact hl3
 rintro e w' ⟨rfl,W,a,n,c,hb,rfl,hI⟩
 have hb2:Below W2.heap.size W2 (W.setCell ⟨B,3,none⟩ (.slice a n c)):=(h.next.trans (hb.mono h.next.size)).set_ h.B2
 have hx:=h.seen hb2
 have hB:=(h.box.keep hb h.box.lt).set (i:=3) (x:= .slice a n c) (by simp [wcells,vcells])
 obtain ⟨e1,e2,e3,hbd,hl,ho⟩:=hx.parts
 refine ⟨rfl,⟨d.k,d.n,d.s,a,n,c,d.oa,d.ol,d.oc⟩,hB, ?_,(hb.mono (Nat.le_trans h.b1 h.next.size)).set_ (Nat.le_trans h.b1 h.B2)⟩
 rw [doneP,if_neg (by dsimp only;omega),if_neg (by dsimp only;omega),if_neg (by dsimp only;omega),e1,e2]
 have e3':x.str=d.s:=e3
 rw [e3']
 have hst:RStep W (W.setCell ⟨B,3,none⟩ (.slice a n c)) B:=RStep.self
 exact Yi hbd.k0 hbd.k1 hbd.n0 hbd.n1 hbd.s1 ((IsVals.sub (fun b o u hb h'=>by
  obtain ⟨hs,hc⟩:=Zw h'
  exact hst.cell hc (by have:=h.box.lt;omega)) hI).more hst.size) ho
theorem zg2 (w0 W2 W3:World) (base B:Nat) (x:V) (d:VC) (p:List St) (cc:CC) (xv:V) (h:Mid w0 W2 W3 base B x d cc xv) (hk:cc.k=2∨cc.k=3) (hfew:x.ls.length<=100000000/\x.os.length<=100000000) (hr:rising x.os=true) (hks:cc.key.size<=140737488355328) (hc:cc.k=3->fieldIs x.os cc.key=true):
 Calls Tryz.prog 44 #[.pointer (some ⟨B,0,none⟩)] W3 (MidPost base W3 B cc (doneP x ⟨cc.k,p,cc.key,cc.i,cc.j,cc.n,xv,cc.s⟩)):=by
 have hS:∀k,base<=k->k<W2.heap.size->base<=k/\k≠B:=fun k h1 h2=>⟨h1,by have:=h.B2;omega⟩
 obtain ⟨co,hF2⟩:=FRow.of (S:=fun k=>base<=k/\k≠B) h.whole rfl hS
 have hL2:=h.whole.lists hS (by omega)
 have hne:(Value.slice d.oa d.ol d.oc).ownBlock≠some B:=fun e=>by have:=(hF2.own.lt _ e).2;have:=h.B2;omega
 have hF3:=hF2.later h.next
 obtain ⟨_,_,_,_,_,ho3⟩:=(h.seen h.next).parts
 have key:∀e w',WFPost W3 B base d cc (newF x.os cc.key xv (cc.k==3)) e w'->MidPost base W3 B cc (doneP x ⟨cc.k,p,cc.key,cc.i,cc.j,cc.n,xv,cc.s⟩) e w':=by
  rintro e w' ⟨rfl,a,n,c,hB,hI,hg⟩
  refine ⟨rfl,⟨d.k,d.n,d.s,d.la,d.ll,d.lc,a,n,c⟩,hB, ?_,hg.low (Nat.le_trans h.b1 h.next.size) (Nat.le_trans h.b1 h.B2) (fun k hk=>(hF2.own.lt k hk).1)⟩
  obtain ⟨_,_,_,hbd,_,_⟩:=(Whole.isVal h.whole).parts
  have hl1:=IsVals.sub (Ze (S':=fun _=>True) (w':=w') fun k hk hl=>⟨trivial,(hg.block k (Nat.lt_of_lt_of_le hl h.next.size) hk.1.2 (fun e=>hk.2 e.symm)).trans (h.next.block k hl)⟩) hL2
  have hl:IsVals w' w'.heap.size x.ls d.la d.ll d.lc:=(IsVals.sub (Zn _ _ _) hl1).more (Nat.le_trans h.next.size hg.size)
  have ho:=IsFields.sub (Zn _ _ _) hI
  have he:=h.whole.1
  rw [<-Q3 hr] at ho
  rw [doneP,if_neg (by dsimp only;omega),if_pos hk]
  have e1:x.kd=d.k:=by rw [he];rfl
  have e2:x.nm=d.n:=by rw [he];rfl
  have e3:x.str=d.s:=by rw [he];rfl
  rw [e1,e2,e3]
  exact Yi hbd.k0 hbd.k1 hbd.n0 hbd.n1 hbd.s1 hl ho
 have hw0:Below w0.heap.size w0 W3:=h.low.trans (h.next.mono (Nat.le_trans h.b0 h.b1))
 have hbB:base<=B:=Nat.le_trans h.b1 h.B2
 rcases hk with hk|hk
 .rw [hk] at key
  cases hi:fieldIs x.os cc.key with
  |true=>exact (zk8 w0 W3 B base d cc x xv co h.box hw0 h.b0 hbB ho3 hF3 hne h.xv hk hi hfew.2 hks).mono fun e w' hp=>by rw [hk];exact key e w' hp
  |false=>exact (zd3 w0 W3 B base d cc x xv co h.box hw0 h.b0 hbB ho3 hF3 hne h.xv hk hi hfew.2 hks).mono fun e w' hp=>by rw [hk];exact key e w' hp
 .rw [hk] at key
  exact (zhs w0 W3 B base d cc x xv co h.box hw0 h.b0 hbB ho3 hF3 hne h.xv hk (hc hk) hfew.2 hks).mono fun e w' hp=>by rw [hk];exact key e w' hp
end Go.Proofs.YtnjgbiachcfigaaGreatDoor
