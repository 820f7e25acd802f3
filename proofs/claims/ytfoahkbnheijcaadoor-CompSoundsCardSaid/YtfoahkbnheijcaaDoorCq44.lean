/-
  Contracts of the functions that the law reaches: conciliatorlaw06.Aim: what stands in.
-/
import Derived.Test.YtfoahkbnheijcaaDoorCq42
import Derived.Test.YtfoahkbnheijcaaDoorCq43
import Derived.Deep.LoopGhost
namespace Go.Proofs.YtfoahkbnheijcaaDoor
open Go.RowKit
set_option maxHeartbeats 8000000
structure ActAt (w:World) (b o:Nat) (c:AC):Prop where
 c0:w.cell? ⟨b,o,none⟩=some (.slice c.pa c.pl c.pc)
 c1:w.cell? ⟨b,o+1,none⟩=some (.int .u8 c.k)
 c2:w.cell? ⟨b,o+2,none⟩=some (.int .i64 c.i)
 c3:w.cell? ⟨b,o+3,none⟩=some (.int .i64 c.j)
 c4:w.cell? ⟨b,o+4,none⟩=some (.int .i64 c.n)
 c5:w.cell? ⟨b,o+5,none⟩=some (.string c.s)
 c6:w.cell? ⟨b,o+6,none⟩=some (.slice c.va c.vl c.vc)
theorem ActAt.keep {w w':World} {B b o:Nat} {c:AC} (h:ActAt w b o c) (hb:Below B w w') (hB:b<B):ActAt w' b o c:=
 ⟨Zb hb h.c0 hB,Zb hb h.c1 hB,Zb hb h.c2 hB,Zb hb h.c3 hB,Zb hb h.c4 hB,Zb hb h.c5 hB,Zb hb h.c6 hB⟩
theorem IsAct.keep {w w':World} {B:Nat} {x:Ac} {c:AC} (h:IsAct w B x c) (hb:Below B w w'):IsAct w' B x c:=by
 cases h with
 |mk c p v hbd hp hv=>exact .mk c p v hbd (hp.keep hb) (hv.keep hb)
theorem IsB.more6 {w:World} {B B':Nat} {a:Option Addr} {n c:Nat} {bs:List UInt8} (h:IsB w B a n c bs) (hB:B<=B'):IsB w B' a n c bs:=by
 obtain ⟨h1,h2,h3,b,o,h5,h6⟩:=h
 exact ⟨h1,h2,h3,b,o,fun h=>⟨(h5 h).1,Nat.lt_of_lt_of_le (h5 h).2 hB⟩,h6⟩
theorem IsAct.more {w:World} {B B':Nat} {x:Ac} {c:AC} (h:IsAct w B x c) (hB:B<=B'):IsAct w B' x c:=by
 cases h with
 |mk c p v hbd hp hv=>exact .mk c p v hbd (hp.more6 hB) (hv.more hB)
structure IsActs (w:World) (B:Nat) (l:List Ac) (a:Option Addr) (n c:Nat):Prop where
 len:n=l.length
 cap:n<=c
 max:c<=9223372036854775807
 at_:∃b o,∃f:Nat->AC,(0<n->a=some ⟨b,o,none⟩/\b<B)/\∀i (h:i<l.length),ActAt w b (o+i*7) (f i)/\IsAct w B l[i] (f i)
theorem IsActs.get {w:World} {B:Nat} {l:List Ac} {a:Option Addr} {n c k:Nat} (h:IsActs w B l a n c) (hk:k<n):
 ∃b o,∃f:AC,∃hp:k<l.length,a=some ⟨b,o,none⟩/\b<B/\ActAt w b (o+k*7) f/\IsAct w B l[k] f:=by
 obtain ⟨h1,h2,h3,b,o,f,h5,h6⟩:=h
 exact ⟨b,o,f k,by omega,(h5 (by omega)).1,(h5 (by omega)).2,(h6 k (by omega)).1,(h6 k (by omega)).2⟩
structure Ba where
 k:Int
 path:List St
 key:ByteArray
 i:Int
 j:Int
 n:Int
 s:ByteArray
 v:List Tk
structure BA where
 k:Int
 pa:Option Addr
 pl:Nat
 pc:Nat
 key:ByteArray
 i:Int
 j:Int
 n:Int
 s:ByteArray
 va:Option Addr
 vl:Nat
 vc:Nat
structure BA.Bnd (c:BA):Prop where
 k0:0<=c.k
 k1:c.k<256
 i0: -9223372036854775808<=c.i
 i1:c.i<=9223372036854775807
 j0: -9223372036854775808<=c.j
 j1:c.j<=9223372036854775807
 n0: -9223372036854775808<=c.n
 n1:c.n<=9223372036854775807
 key1:c.key.size<=140737488355328
 s1:c.s.size<=140737488355328
inductive IsBare (w:World) (B:Nat):Ba->BA->Prop
 |mk (c:BA) (p:List St) (v:List Tk) (hb:c.Bnd) (hp:IsSteps w B p c.pa c.pl c.pc) (hv:IsToks w B v c.va c.vl c.vc):IsBare w B ⟨c.k,p,c.key,c.i,c.j,c.n,c.s,v⟩ c
theorem IsBare.keep {w w':World} {B:Nat} {x:Ba} {c:BA} (h:IsBare w B x c) (hb:Below B w w'):IsBare w' B x c:=by
 cases h with
 |mk c p v hbd hp hv=>exact .mk c p v hbd (hp.keep hb) (hv.keep hb)
noncomputable def compP (b:Ba):Cm:=⟨b.k,b.path,b.key,b.i,b.j,b.n,(rawP 20 (b.v.take 60)).1,b.s⟩
theorem zex (w:World) (a1 a2:Array Value) (t1 t2:TypeId):BC ((w.alloc (.cells a1 t1)).alloc (.cells a2 t2)) w.heap.size a1.toList/\BC ((w.alloc (.cells a1 t1)).alloc (.cells a2 t2)) (w.heap.size+1) a2.toList/\Below w.heap.size w ((w.alloc (.cells a1 t1)).alloc (.cells a2 t2))/\((w.alloc (.cells a1 t1)).alloc (.cells a2 t2)).heap.size=w.heap.size+1+1:=by
 have b1:Below w.heap.size w (w.alloc (.cells a1 t1)):=(Below.refl _ _).alloc (Nat.le_refl _) _
 have b2:Below (w.alloc (.cells a1 t1)).heap.size (w.alloc (.cells a1 t1)) ((w.alloc (.cells a1 t1)).alloc (.cells a2 t2)):=(Below.refl _ _).alloc (Nat.le_refl _) _
 have c2:=BC.start (w.alloc (.cells a1 t1)) a2 t2
 rw [World.size_alloc] at c2
 exact ⟨(BC.start w a1 t1).keep b2 (by simp),c2,b1.trans (b2.mono (by simp)),by simp⟩
theorem zl6 {tmps:Array Value} {W:World} {b:Nat} {d:CC} (ht:tmps[2]? =some (.pointer (some ⟨b,0,none⟩))) (h:BC W b (ccells d)):
 (results Tryd.f11 tmps).run Tryd.prog W= .ok (.agg #[.int .u8 d.k, .slice d.pa d.pl d.pc, .string d.key, .int .i64 d.i, .int .i64 d.j, .int .i64 d.n, .int .u8 d.v.k, .int .i64 d.v.n, .string d.v.s, .slice d.v.la d.v.ll d.v.lc, .slice d.v.oa d.v.ol d.v.oc, .string d.s]) W:=by
 obtain ⟨r0,r1,r2,r3,r4,r5,r6,r7,r8,r9,r10,r11⟩:=row12 h.at_
 simp [results,Tryd.results11,go_sem,ht,r0,r1,r2,r3,r4,r5,r6,r7,r8,r9,r10,r11]
theorem zly {w:World} {B0:Nat} {Q:Nat->Prop} {p:List St} {a:Option Addr} {n c:Nat} (h:IsSteps w B0 p a n c):IsSteps (only (fun k=>k<B0∨Q k) w) B0 p a n c:=
 h.sub fun _ _ _ hb hc=>Z1 (.inl hb) hc
def CompPost (w:World) (B0:Nat) (x:Cm) (e:Ending) (w':World):Prop:=
 (∃cc:CC,e= .returned (.agg #[.int .u8 cc.k, .slice cc.pa cc.pl cc.pc, .string cc.key, .int .i64 cc.i, .int .i64 cc.j, .int .i64 cc.n, .int .u8 cc.v.k, .int .i64 cc.v.n, .string cc.v.s, .slice cc.v.la cc.v.ll cc.v.lc, .slice cc.v.oa cc.v.ol cc.v.oc, .string cc.s])/\IsComp (only (fun k=>k<B0∨w.heap.size<=k) w') w'.heap.size x cc)/\Below w.heap.size w w'
set_option maxRecDepth 100000 in
theorem zcq (w:World) (B0:Nat) (hB0:B0<=w.heap.size) (c:BA) (x:Ba) (h:IsBare w B0 x c):
 Calls Tryd.prog 11 #[.agg #[.int .u8 c.k, .slice c.pa c.pl c.pc, .string c.key, .int .i64 c.i, .int .i64 c.j, .int .i64 c.n, .string c.s, .slice c.va c.vl c.vc]] w (CompPost w B0 (compP x)):=by
 cases h with
 |mk _ p v hbd hp hv=>
 obtain ⟨R,hR⟩:∃R,CompPost w B0 (compP ⟨c.k,p,c.key,c.i,c.j,c.n,c.s,v⟩)=R:=⟨_,rfl⟩
 rw [hR]
 have HR:=qh hR
 obtain ⟨wr,hwr⟩:∃wr,((w.alloc (.cells #[.int .u8 c.k, .slice c.pa c.pl c.pc, .string c.key, .int .i64 c.i, .int .i64 c.j, .int .i64 c.n, .string c.s, .slice c.va c.vl c.vc] 25)).alloc (.cells #[.int .u8 0, .slice none 0 0, .string { data:= #[] }, .int .i64 0, .int .i64 0, .int .i64 0, .int .u8 0, .int .i64 0, .string { data:= #[] }, .slice none 0 0, .slice none 0 0, .string { data:= #[] }] 34))=wr:=⟨_,rfl⟩
 obtain ⟨d1,d2,hb,hz⟩:=zex w #[.int .u8 c.k, .slice c.pa c.pl c.pc, .string c.key, .int .i64 c.i, .int .i64 c.j, .int .i64 c.n, .string c.s, .slice c.va c.vl c.vc] #[.int .u8 0, .slice none 0 0, .string { data:= #[] }, .int .i64 0, .int .i64 0, .int .i64 0, .int .u8 0, .int .i64 0, .string { data:= #[] }, .slice none 0 0, .slice none 0 0, .string { data:= #[] }] 25 34
 rw [hwr] at d1 d2 hb hz
 have HRW:Hid (∀W,Below wr.heap.size wr.drew W->Calls Tryd.prog 30 #[.slice c.va c.vl c.vc] W fun e w'=>(∃cv:VC,e= .returned (.agg #[.int .u8 cv.k, .int .i64 cv.n, .string cv.s, .slice cv.la cv.ll cv.lc, .slice cv.oa cv.ol cv.oc])/\IsVal (only (fun b=>W.heap.size<=b) w') w'.heap.size (rawP 20 (v.take 60)).1 cv)/\Below W.heap.size W w'):=fun W hW=>zg3 W v _ _ _ ((hv.more hB0).later_ ((hb.trans ((Zf wr).mono (by omega))).trans (hW.mono (by omega))))
 have HFB:Hid (∀W,Below (w.heap.size+1) wr.drew W->W.cell? ⟨w.heap.size,0,none⟩=some (.int .u8 c.k)/\W.cell? ⟨w.heap.size,1,none⟩=some (.slice c.pa c.pl c.pc)/\W.cell? ⟨w.heap.size,2,none⟩=some (.string c.key)/\W.cell? ⟨w.heap.size,3,none⟩=some (.int .i64 c.i)/\W.cell? ⟨w.heap.size,4,none⟩=some (.int .i64 c.j)/\W.cell? ⟨w.heap.size,5,none⟩=some (.int .i64 c.n)/\W.cell? ⟨w.heap.size,6,none⟩=some (.string c.s)/\W.cell? ⟨w.heap.size,7,none⟩=some (.slice c.va c.vl c.vc)):=by
  intro W hW
  have hk:∀o u,wr.cell? ⟨w.heap.size,o,none⟩=some u->W.cell? ⟨w.heap.size,o,none⟩=some u:=fun o u h=>Zb hW (Zb (Zf wr) h (by omega)) (by omega)
  exact ⟨hk _ _ (d1.at_ 0 _ rfl),hk _ _ (d1.at_ 1 _ rfl),hk _ _ (d1.at_ 2 _ rfl),hk _ _ (d1.at_ 3 _ rfl),hk _ _ (d1.at_ 4 _ rfl),hk _ _ (d1.at_ 5 _ rfl),hk _ _ (d1.at_ 6 _ rfl),hk _ _ (d1.at_ 7 _ rfl)⟩
 have HD2:=qh (show BC wr.drew (w.heap.size+1) (ccells czero) from d2.keep (Zf wr) (by omega))
 have HB:=qh hb
 have zs:w.heap.size<wr.heap.size:=by omega
 have zt:w.heap.size+1<wr.heap.size:=by omega
 have HZ:=qh hz
 have HP:=qh hp
 have HBD:=qh hbd
 have HWR:=qh hwr
 clear hwr d1 d2 hb hz hv hp hbd hR
 go_enter Tryd.func11,Tryd.ntmps11
 generalize hQ0:bodyPost _ _ _=Q0
 have HQ:=qh hQ0
 clear hQ0
 go_upto_region 1 with fail
 rw [HWR.out]
 clear HWR
 go_wp2_with fail
 refine wp_region_noPanic ?_
 go_region_held_law (fun W=>W.cell? ⟨w.heap.size,0,none⟩=some (.int .u8 c.k)/\W.cell? ⟨w.heap.size,1,none⟩=some (.slice c.pa c.pl c.pc)/\W.cell? ⟨w.heap.size,2,none⟩=some (.string c.key)/\W.cell? ⟨w.heap.size,3,none⟩=some (.int .i64 c.i)/\W.cell? ⟨w.heap.size,4,none⟩=some (.int .i64 c.j)/\W.cell? ⟨w.heap.size,5,none⟩=some (.int .i64 c.n)/\W.cell? ⟨w.heap.size,6,none⟩=some (.string c.s)/\W.cell? ⟨w.heap.size,7,none⟩=some (.slice c.va c.vl c.vc))
  ((refine HFB.out _ ?_;(first|(with_reducible exact bl4)|(with_reducible exact Below.refl _ _)|(with_reducible exact Below.setC bl4 (Nat.le_refl _) ⟨c.k,c.pa,c.pl,c.pc,c.key,c.i,c.j,c.n,cv,c.s⟩))))
  (first|(go_at_call 30;(with_reducible refine (HRW.out _ (Below.refl _ _)).mono ?_);rintro e w4 ⟨⟨cv,rfl,hI⟩,hb4⟩;have HI:=qh hI;clear hI;have HB4:=qh hb4;have bl4:Below (w.heap.size+1) wr.drew w4:=hb4.mono (Nat.le_of_lt zt);clear hb4;have XB:=HD2.out.keep HB4.out zt;obtain ⟨xc0,xc1,xc2,xc3,xc4,xc5,xc6,xc7,xc8,xc9,xc10,xc11⟩:=row12 XB.at_;have xg0:=XB.fr 0;have xg1:=XB.fr 1;have xg2:=XB.fr 2;have xg3:=XB.fr 3;have xg4:=XB.fr 4;have xg5:=XB.fr 5;have xg6:=XB.fr 6;have xg7:=XB.fr 7;have xg8:=XB.fr 8;have xg9:=XB.fr 9;have xg10:=XB.fr 10;have xg11:=XB.fr 11;have xl:=XB.lt))
 all_goals
  refine NoPanic.normal ?_
  have HXB:=qh XB
  clear XB
  go_wp2_with fail
  rw [<-HQ.out, <-HR.out]
  have st:=Kv w4 (w.heap.size+1) ⟨c.k,c.pa,c.pl,c.pc,c.key,c.i,c.j,c.n,cv,c.s⟩
  have hbW:Below w.heap.size w w4:=(HB.out.trans ((Zf wr).mono (Nat.le_of_lt zs))).trans (HB4.out.mono (Nat.le_of_lt zs))
  have hq:=HBD.out
  have hzz:wr.heap.size<=w4.heap.size:=HB4.out.size
  refine ⟨rfl,_,zl6 rfl (Zx (c0:=czero) HXB.out ⟨c.k,c.pa,c.pl,c.pc,c.key,c.i,c.j,c.n,cv,c.s⟩),⟨⟨c.k,c.pa,c.pl,c.pc,c.key,c.i,c.j,c.n,cv,c.s⟩,rfl, ?_⟩,Below.setC hbW (by omega) ⟨c.k,c.pa,c.pl,c.pc,c.key,c.i,c.j,c.n,cv,c.s⟩⟩
  refine .mk ⟨c.k,c.pa,c.pl,c.pc,c.key,c.i,c.j,c.n,cv,c.s⟩ p _ ⟨hq.k0,hq.k1,hq.i0,hq.i1,hq.j0,hq.j1,hq.n0,hq.n1,hq.key1,hq.s1⟩ ?_ ?_
  .have h1:IsSteps (setC w4 (w.heap.size+1) ⟨c.k,c.pa,c.pl,c.pc,c.key,c.i,c.j,c.n,cv,c.s⟩) B0 p c.pa c.pl c.pc:=HP.out.keep ((Below.setC hbW (by omega) ⟨c.k,c.pa,c.pl,c.pc,c.key,c.i,c.j,c.n,cv,c.s⟩).mono hB0)
   have hz2:=st.size
   exact (zly h1).more (Nat.le_trans (by omega) hz2)
  .exact Xx HI.out rfl st.size fun k hk hl=>⟨.inr (by have:=hk;simp at this;omega),st.block k hl (by have:=hk;simp at this;omega)⟩
def SomeB (w:World) (pl:Nat) (e:Ending) (w':World):Prop:=(∃h:Bool,e= .returned (.bool h)/\(h=false->pl<=40))/\Below w.heap.size w w'
set_option maxRecDepth 100000 in
theorem Kr (w:World) (l:List Tk) (a:Option Addr) (n c:Nat) (hl:IsToks w w.heap.size l a n c) (b:BA) (v:List Tk) (hv:IsToks w w.heap.size v b.va b.vl b.vc):
 Calls Tryd.prog 8 #[.slice a n c, .agg #[.int .u8 b.k, .slice b.pa b.pl b.pc, .string b.key, .int .i64 b.i, .int .i64 b.j, .int .i64 b.n, .string b.s, .slice b.va b.vl b.vc]] w (SomeB w b.pl):=by
 have hmax:=hl.max;have hcap:=hl.cap
 have hvm:=hv.max;have hvc:=hv.cap
 have HL:=qh hl;have HV:=qh hv
 have HBX:=qh (BC.start w #[.int .u8 b.k, .slice b.pa b.pl b.pc, .string b.key, .int .i64 b.i, .int .i64 b.j, .int .i64 b.n, .string b.s, .slice b.va b.vl b.vc] 25)
 have HAL:=qh ((Below.refl _ _).alloc (Nat.le_refl _) (.cells #[.int .u8 b.k, .slice b.pa b.pl b.pc, .string b.key, .int .i64 b.i, .int .i64 b.j, .int .i64 b.n, .string b.s, .slice b.va b.vl b.vc] 25):Below w.heap.size w _)
 clear hl hv
 obtain ⟨R,hR⟩:∃R,SomeB w b.pl=R:=⟨_,rfl⟩
 rw [hR]
 have HR:=qh hR
 clear hR
 go_enter Tryd.func8,Tryd.ntmps8
 go_wp2_with fail
 go_loopg [5,6] n (fun gh z i wr=>∃(x:Int) (j:Nat),j<=n/\gh=n - j/\z= .int .i64 x/\i= .int .i64 j/\BC wr w.heap.size [.int .u8 b.k, .slice b.pa b.pl b.pc, .string b.key, .int .i64 b.i, .int .i64 b.j, .int .i64 b.n, .string b.s, .slice b.va b.vl b.vc] /\Below w.heap.size w wr)
 case atStart=>exact ⟨_,0,Nat.zero_le _,rfl,rfl,rfl,HBX.out,HAL.out⟩
 case round =>
  obtain ⟨x,j,hj,rfl,rfl,rfl,hbx,hbl⟩:=hrel
  have HBL:=qh hbl
  have HB:=qh hbx
  clear hbl hbx
  by_cases hlt:j<n
  .obtain ⟨tb,tq,hp,ha,htb,htk,_⟩:=HL.out.get hlt
   have htk1:=htk.keep HBL.out htb
   have t2:=htk1.c2
   have hbw:tb<wr.heap.size:=World.block_lt_of_cell? wr _ t2
   subst ha
   clear htk htk1
   go_wp2_with fail
   go_roundg (n - (j+1))
   case measure=>omega
   case rel=>exact ⟨_,j+1,by omega,rfl,rfl,by go_num,HB.out,HBL.out⟩
  .have b1 :=HB.out.at_ 1 _ rfl;have b2:=HB.out.at_ 2 _ rfl;have b6:=HB.out.at_ 6 _ rfl;have b7:=HB.out.at_ 7 _ rfl;have z0:=HB.out.lt
   go_wp2_with fail
   go_loopg [5,7] b.vl (fun gh z k wr=>∃(x:Int) (t:Nat),t<=b.vl/\gh=b.vl - t/\z= .int .i64 x/\k= .int .i64 t/\BC wr w.heap.size [.int .u8 b.k, .slice b.pa b.pl b.pc, .string b.key, .int .i64 b.i, .int .i64 b.j, .int .i64 b.n, .string b.s, .slice b.va b.vl b.vc] /\Below w.heap.size w wr)
   case atStart=>exact ⟨_,0,Nat.zero_le _,rfl,rfl,rfl,HB.out,HBL.out⟩
   case round=>
    obtain ⟨y,t,ht,rfl,rfl,rfl,hbx,hbl⟩:=hrel
    clear b1 b2 b6 b7 z0
    have b1:=hbx.at_ 1 _ rfl;have b2:=hbx.at_ 2 _ rfl;have b6:=hbx.at_ 6 _ rfl;have b7:=hbx.at_ 7 _ rfl;have z0:=hbx.lt
    have HBL2:=qh hbl
    have HB2:=qh hbx
    clear hbl hbx
    by_cases htl:t<b.vl
    .obtain ⟨b2,q2,hp2,hva,hb2,htk,_⟩:=HV.out.get htl
     have htk1:=htk.keep HBL2.out hb2
     have t2:=htk1.c2
     rw [hva] at b7
     have hb2w:b2<wr.heap.size:=World.block_lt_of_cell? wr _ t2
     clear htk htk1 hva
     go_wp2_with fail
     go_roundg (b.vl - (t+1))
     case measure=>omega
     case rel=>exact ⟨_,t+1,by omega,rfl,rfl,by go_num,HB2.out,HBL2.out⟩
    .go_wp2_with fail
     all_goals (
      rw [<-HR.out]
      first
       |exact ⟨⟨true,rfl,fun h=>by cases h⟩,HBL2.out⟩
       |exact ⟨⟨_,rfl,fun h=>by simp at h;omega⟩,HBL2.out⟩)
end Go.Proofs.YtfoahkbnheijcaaDoor
