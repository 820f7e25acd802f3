/-
  Contracts of the functions that the law reaches: path.Get and path.Put (the program's)..
-/
import Derived.Test.YtnjgbiachcfigaaGreatDoorIw6
import Derived.Lib.Overlaps
import Derived.Laws.Externs
import Derived.Lib.AppendZerosOnto
import Derived.Shelf.Spec.SlicesInsert
namespace Go.Proofs.YtnjgbiachcfigaaGreatDoor
open Go.RowKit
set_option maxHeartbeats 16000000
theorem zd7 {tmps:Array Value} {W:World} {b:Nat} {c:VC} {x:Value} (ht:tmps[4]? =some (.pointer (some ⟨b,0,none⟩))) (hx:tmps[5]? =some x) (h:BC W b (vcells c)):
 (results Tryz.f42 tmps).run Tryz.prog W= .ok (.tuple #[.agg #[.int .u8 c.k, .int .i64 c.n, .string c.s, .slice c.la c.ll c.lc, .slice c.oa c.ol c.oc],x]) W:=by
 obtain ⟨r0,r1,r2,r3,r4⟩:=row5 h.at_
 simp [results,Tryz.results42,go_sem,ht,hx,r0,r1,r2,r3,r4]
structure PG3 (w W:World) (c d:VC):Prop where
 a:BC W w.heap.size (vcells c)
 r:BC W (w.heap.size+1) (vcells vzero)
 o:BC W (w.heap.size+2) (vcells d)
 below:Below w.heap.size w W
theorem PG3.keep {w W W':World} {c d:VC} (h:PG3 w W c d) (hb:uB W W'):PG3 w W' c d:=⟨h.a.keep hb h.a.lt,h.r.keep hb h.r.lt,h.o.keep hb h.o.lt,h.below.trans (hb.mono h.below.size)⟩
theorem PG3.start (w:World) (c:VC):PG3 w (((w.alloc (.cells (uV c) 36)).alloc (.cells (uU 0 0 { data:= #[] } none 0 0 none 0 0) 36)).alloc (.cells (uU 0 0 { data:= #[] } none 0 0 none 0 0) 36)) c vzero:=by
 delta uV uU
 have b1:uB w (w.alloc (.cells (uV c) 36)):=(Below.refl _ _).alloc (Nat.le_refl _) _
 have x1:BC (w.alloc (.cells (uV c) 36)) w.heap.size (vcells c):=BC.start w (uV c) 36
 have s1:(w.alloc (.cells (uV c) 36)).heap.size=w.heap.size+1:=World.size_alloc ..
 generalize w.alloc (.cells (uV c) 36)=w1 at b1 x1 s1 ⊢
 have b2:uB w1 (w1.alloc (.cells (uU 0 0 { data:= #[] } none 0 0 none 0 0) 36)):=(Below.refl _ _).alloc (Nat.le_refl _) _
 have x2:BC (w1.alloc (.cells (uU 0 0 { data:= #[] } none 0 0 none 0 0) 36)) w1.heap.size (vcells vzero):=BC.start w1 (uU 0 0 { data:= #[] } none 0 0 none 0 0) 36
 have s2:(w1.alloc (.cells (uU 0 0 { data:= #[] } none 0 0 none 0 0) 36)).heap.size=w1.heap.size+1:=World.size_alloc ..
 have x12:=x1.keep b2 x1.lt
 generalize w1.alloc (.cells (uU 0 0 { data:= #[] } none 0 0 none 0 0) 36)=w2 at b2 x2 s2 x12 ⊢
 have b3:uB w2 (w2.alloc (.cells (uU 0 0 { data:= #[] } none 0 0 none 0 0) 36)):=(Below.refl _ _).alloc (Nat.le_refl _) _
 have x3:BC (w2.alloc (.cells (uU 0 0 { data:= #[] } none 0 0 none 0 0) 36)) w2.heap.size (vcells vzero):=BC.start w2 (uU 0 0 { data:= #[] } none 0 0 none 0 0) 36
 have x13:=x12.keep b3 x12.lt
 have x23:=x2.keep b3 x2.lt
 rw [s1] at x23
 rw [s2,s1] at x3
 exact ⟨x13,x23,x3,(b1.trans (b2.mono (by omega))).trans (b3.mono (by omega))⟩
set_option maxRecDepth 100000 in
theorem Qb (w:World) (v:V) (c:VC) (p:List St) (pa:Option Addr) (pl pc:Nat) (hI:IsVal w w.heap.size v c) (hp:IsSteps w w.heap.size p pa pl pc):
 uP 42 #[.agg (uV c), .slice pa pl pc] w (PGetPost w v p):=by
 delta uV uP
 have HB:=qh (PG3.start w c)
 have HI:=qh hI;have HP:=qh hp
 clear hI hp
 go_enter Tryz.func42,Tryz.ntmps42
 generalize hQ0:bodyPost _ _ _=Q0
 have HQ:=qh hQ0
 clear hQ0
 go_upto_region 2 with fail
 have HBB:=HB.out
 generalize World.alloc _ _=w3 at HBB ⊢
 have HB3:=qh HBB
 have HC:Hid (uP 76 #[.pointer (some ⟨w.heap.size,0,none⟩), .slice pa pl pc, .func (.func 77) #[] #[.pointer (some ⟨w.heap.size+2,0,none⟩)]] w3 fun e w'=>(e= .returned (.int .u16 30)/\getP v p=none/\uB w3 w')∨(e= .returned (.int .u16 0)/\∃W b1 o1 x cx,uB w3 W/\Spot w3 w.heap.size 0 v p b1 o1 x cx/\(∃(w4:World) (d:VC),Whole w4 W.heap.size x d/\uB W w4/\w'=setV w4 (w.heap.size+2) 0 d))):=
  zhp w3 w.heap.size 0 v c p pa pl pc (zeb HBB.a) (HI.out.later_ HBB.below) (HP.out.later_ HBB.below) _ (fun W b1 o1 x cx w'=>∃(w4:World) (d:VC),Whole w4 W.heap.size x d/\uB W w4/\w'=setV w4 (w.heap.size+2) 0 d)
   (fun W b1 o1 x cx hW hS=>zl8 W b1 o1 x cx ⟨Za hW hS.at_.c0 hS.lt,Za hW hS.at_.c1 hS.lt,Za hW hS.at_.c2 hS.lt,Za hW hS.at_.c3 hS.lt,Za hW hS.at_.c4 hS.lt⟩ (hS.val.later_ hW) (w.heap.size+2) vzero (HB3.out.o.keep hW HB3.out.o.lt))
 clear HBB HB
 go_wp2_with fail
 refine HC.out.mono ?_
 rintro e w5 (⟨rfl,hno,hb5⟩|⟨rfl,W,b1,o1,x,cx,hW,hS,w4,d,hwh,hb4,rfl⟩)
 .have hK:=HB3.out.keep hb5
  obtain ⟨y0,y1,y2,y3,y4⟩:=row5 hK.o.at_
  obtain ⟨r0,r1,r2,r3,r4⟩:=row5 hK.r.at_
  have f0:=hK.r.fr 0;have f1:=hK.r.fr 1;have f2:=hK.r.fr 2;have f3:=hK.r.fr 3;have f4:=hK.r.fr 4
  have zo:=hK.o.lt;have zr:=hK.r.lt
  have HK:=qh hK;have HNO:=qh hno
  clear hK hno hb5
  go_wp2_with fail
  rw [<-HQ.out]
  have st:=Zi w5 (w.heap.size+1) 0 vzero
  exact ⟨rfl,_,zd7 rfl rfl (Z5 HK.out.r vzero),HK.out.below.trans (st.lowC (by omega) HK.out.below.size), .inl ⟨rfl,HNO.out⟩⟩
 .have hK:=(HB3.out.keep hW).keep hb4
  have st:=Zi w4 (w.heap.size+2) 0 d
  have ho:=Z5 hK.o d
  have hr:=hK.r.next st (by omega)
  have hw5:Whole (setV w4 (w.heap.size+2) 0 d) W.heap.size x d:=hwh.beside st (by have:=HB3.out.o.lt;have:=hW.size;omega) (Jy _ _ _ _)
  have hb5:uB w (setV w4 (w.heap.size+2) 0 d):=hK.below.trans (st.lowC (by omega) hK.below.size)
  have hz5:w.heap.size+2<W.heap.size:=by have:=HB3.out.o.lt;have:=hW.size;omega
  have HGP:=qh hS.way.get
  obtain ⟨w6,hw6⟩:∃w6,setV w4 (w.heap.size+2) 0 d=w6:=⟨_,rfl⟩
  rw [hw6] at ho hr hw5 hb5 ⊢
  obtain ⟨y0,y1,y2,y3,y4⟩:=row5 ho.at_
  obtain ⟨r0,r1,r2,r3,r4⟩:=row5 hr.at_
  have f0:=hr.fr 0;have f1:=hr.fr 1;have f2:=hr.fr 2;have f3:=hr.fr 3;have f4:=hr.fr 4
  have zo:=ho.lt;have zr:=hr.lt
  have HR:=qh hr;have HW:=qh hw5;have HB5:=qh hb5
  clear hK st ho hr hw5 hb5 hw6 hwh hb4 hW hS
  go_wp2_with fail
  rw [<-HQ.out]
  have st:=Zi w6 (w.heap.size+1) 0 d
  exact ⟨rfl,_,zd7 rfl rfl (Z5 HR.out d),HB5.out.trans (st.lowC (by omega) HB5.out.size), .inr ⟨x,d,rfl,HGP.out,((HW.out.beside st (by omega) (Jy _ _ _ _)).low (by omega))⟩⟩
def PPutPost (w:World) (v:V) (p:List St) (x:V) (e:Ending) (w':World):Prop:=
 Below w.heap.size w w'/\((e= .returned (.tuple #[.agg #[.int .u8 0, .int .i64 0, .string { data:= #[] }, .slice none 0 0, .slice none 0 0], .int .u16 30])/\getP v p=none)∨∃(z:V) (d:VC),e= .returned (.tuple #[.agg #[.int .u8 d.k, .int .i64 d.n, .string d.s, .slice d.la d.ll d.lc, .slice d.oa d.ol d.oc], .int .u16 0])/\putP v p x=some z/\IsVal (only (fun b=>w.heap.size<=b) w') w'.heap.size z d)
theorem zfk {tmps:Array Value} {W:World} {b:Nat} {c:VC} {x:Value} (ht:tmps[6]? =some (.pointer (some ⟨b,0,none⟩))) (hx:tmps[7]? =some x) (h:BC W b (vcells c)):
 (results Tryz.f47 tmps).run Tryz.prog W= .ok (.tuple #[.agg #[.int .u8 c.k, .int .i64 c.n, .string c.s, .slice c.la c.ll c.lc, .slice c.oa c.ol c.oc],x]) W:=by
 obtain ⟨r0,r1,r2,r3,r4⟩:=row5 h.at_
 simp [results,Tryz.results47,go_sem,ht,hx,r0,r1,r2,r3,r4]
structure PP3 (w W:World) (c y:VC):Prop where
 a:BC W w.heap.size (vcells c)
 x:BC W (w.heap.size+1) (vcells y)
 r:BC W (w.heap.size+2) (vcells vzero)
 below:Below w.heap.size w W
theorem PP3.keep {w W W':World} {c d:VC} (h:PP3 w W c d) (hb:uB W W'):PP3 w W' c d:=⟨h.a.keep hb h.a.lt,h.x.keep hb h.x.lt,h.r.keep hb h.r.lt,h.below.trans (hb.mono h.below.size)⟩
theorem PP3.start (w:World) (c y:VC):PP3 w (((w.alloc (.cells (uV c) 36)).alloc (.cells (uV y) 36)).alloc (.cells (uU 0 0 { data:= #[] } none 0 0 none 0 0) 36)) c y:=by
 delta uV uU
 have b1:uB w (w.alloc (.cells (uV c) 36)):=(Below.refl _ _).alloc (Nat.le_refl _) _
 have x1:BC (w.alloc (.cells (uV c) 36)) w.heap.size (vcells c):=BC.start w (uV c) 36
 have s1:(w.alloc (.cells (uV c) 36)).heap.size=w.heap.size+1:=World.size_alloc ..
 generalize w.alloc (.cells (uV c) 36)=w1 at b1 x1 s1 ⊢
 have b2:uB w1 (w1.alloc (.cells (uV y) 36)):=(Below.refl _ _).alloc (Nat.le_refl _) _
 have x2:BC (w1.alloc (.cells (uV y) 36)) w1.heap.size (vcells y):=BC.start w1 (uV y) 36
 have s2:(w1.alloc (.cells (uV y) 36)).heap.size=w1.heap.size+1:=World.size_alloc ..
 have x12:=x1.keep b2 x1.lt
 generalize w1.alloc (.cells (uV y) 36)=w2 at b2 x2 s2 x12 ⊢
 have b3:uB w2 (w2.alloc (.cells (uU 0 0 { data:= #[] } none 0 0 none 0 0) 36)):=(Below.refl _ _).alloc (Nat.le_refl _) _
 have x3:BC (w2.alloc (.cells (uU 0 0 { data:= #[] } none 0 0 none 0 0) 36)) w2.heap.size (vcells vzero):=BC.start w2 (uU 0 0 { data:= #[] } none 0 0 none 0 0) 36
 have x13:=x12.keep b3 x12.lt
 have x23:=x2.keep b3 x2.lt
 rw [s1] at x23
 rw [s2,s1] at x3
 exact ⟨x13,x23,x3,(b1.trans (b2.mono (by omega))).trans (b3.mono (by omega))⟩
theorem zmh {W:World} {b o:Nat} {d:VC} {k q:Nat} (h:¬(k=b/\o<=q/\q<o+5)):(setV W b o d).cell? ⟨k,q,none⟩=W.cell? ⟨k,q,none⟩:=by
 have hs:∀(W:World) (j:Nat) (x:Value),o<=j->j<o+5->(W.setCell ⟨b,j,none⟩ x).cell? ⟨k,q,none⟩=W.cell? ⟨k,q,none⟩:=fun W j x h1 h2=>World.cell?_setCell_other _ _ _ _ (by
  intro e
  injection e with e1 e2
  exact h ⟨e1.symm,by omega,by omega⟩)
 unfold setV
 rw [hs _ _ _ (by omega) (by omega),hs _ _ _ (by omega) (by omega),hs _ _ _ (by omega) (by omega),hs _ _ _ (by omega) (by omega),hs _ _ _ (by omega) (by omega)]
theorem zih {W:World} {b o:Nat} {c0:VC} (h:ValAt W b o c0) (d:VC):ValAt (setV W b o d) b o d:=by
 have g0:=h.c0;have g1:=h.c1;have g2:=h.c2;have g3:=h.c3;have g4:=h.c4
 unfold setV
 constructor<;>simp [go_sem,g0,g1,g2,g3,g4]
theorem zis {W1 W w5:World} {S:Nat->Prop} {v x y:V} {ob:Nat} {d0 cx d:VC} {p:List St} {b1 o1:Nat} (hS:SepAt W1 S v ob 0 d0) (hobw:ob<W1.heap.size) (hsp:Spot W1 ob 0 v p b1 o1 x cx) (hW:uB W1 W) (h5:uB W w5) (hy:Whole w5 W.heap.size y d):
 ∃z cz S2,putP v p y=some z/\SepAt (setV w5 b1 o1 d) S2 z ob 0 cz/\(∀k,S2 k->S k∨W.heap.size<=k)/\(b1=ob∨S b1):=by
 obtain ⟨b',o',Sx,cx',h1,h2,h3,h4,h6⟩:=zbt p hS hsp.way.get
 obtain ⟨rfl,rfl,_⟩:=hsp.way.one h2
 have hb1:=hsp.lt
 have hWs:=hW.size;have h5s:=h5.size
 have st:=Zi w5 b1 o1 d
 obtain ⟨S',g1,g2,g3⟩:=(hy.beside st (by omega) (Jy _ _ _ _)).sepI
 have hva:ValAt w5 b1 o1 cx:=by
  have e:∀q u,W1.cell? ⟨b1,q,none⟩=some u->w5.cell? ⟨b1,q,none⟩=some u:=fun q u hu=>Za h5 (Za hW hu hb1) (by omega)
  exact ⟨e _ _ hsp.at_.c0,e _ _ hsp.at_.c1,e _ _ hsp.at_.c2,e _ _ hsp.at_.c3,e _ _ hsp.at_.c4⟩
 obtain ⟨z,cz,hz1,hz2⟩:=h6 (setV w5 b1 o1 d) S' y d (by rw [Jy];omega) (fun k q hk hn=>by
  have hkl:k<W1.heap.size:=by
   rcases hk with hk|rfl
   .exact hS.sep.bnd k hk
   .exact hobw
  rw [zmh hn]
  exact World.cell?_of_block ((h5.block k (by omega)).trans (hW.block k hkl))) ⟨zih hva d,g3,fun e=>by have:=(g1 _ e).1;omega⟩ (fun k hk=>⟨fun e=>by have h7:=hS.sep.bnd k e;have h8:=(g1 k hk).1;omega,fun e=>by have h8:=(g1 k hk).1;omega⟩)
 exact ⟨z,cz,_,hz1,hz2,fun k hk=>hk.imp (fun h=>h) (fun h=>(g1 k h).1),h3.imp (fun h=>h.1) (fun h=>h)⟩
theorem zj8 {W1:World} {S:Nat->Prop} {v x:V} {ob:Nat} {d0 cx:VC} {p:List St} {b1 o1:Nat} (hS:SepAt W1 S v ob 0 d0) (hf:Soft W1 S) (hob:∀q,W1.frozen? ⟨ob,q,none⟩=false) (hsp:Spot W1 ob 0 v p b1 o1 x cx) (q:Nat):W1.frozen? ⟨b1,q,none⟩=false:=by
 obtain ⟨b',o',Sx,cx',h1,h2,h3,_⟩:=zbt p hS hsp.way.get
 obtain ⟨rfl,rfl,_⟩:=hsp.way.one h2
 rcases h3 with ⟨rfl,_⟩|h3
 .exact hob q
 .exact hf _ q h3
set_option maxRecDepth 100000 in
theorem Kc (w:World) (v y:V) (c cy:VC) (p:List St) (pa:Option Addr) (pl pc:Nat) (hI:IsVal w w.heap.size v c) (hp:IsSteps w w.heap.size p pa pl pc) (hy:IsVal w w.heap.size y cy):
 uP 47 #[.agg (uV c), .slice pa pl pc, .agg (uV cy)] w (PPutPost w v p y):=by
 delta uV uP
 have HB:=qh (PP3.start w c cy)
 have HI:=qh hI;have HP:=qh hp;have HY:=qh hy
 clear hI hp hy
 go_enter Tryz.func47,Tryz.ntmps47
 generalize hQ0:bodyPost _ _ _=Q0
 have HQ:=qh hQ0
 clear hQ0
 go_upto_region 1 with fail
 have HBB:=HB.out
 generalize World.alloc _ _=w3 at HBB ⊢
 have HB3:=qh HBB
 obtain ⟨y0,y1,y2,y3,y4⟩:=row5 HBB.a.at_
 have za:=HBB.a.lt;have zx:=HBB.x.lt;have zr:=HBB.r.lt
 have HC:=qh (Xa w3 v c (HI.out.later_ HBB.below))
 clear HBB HB
 go_wp2_with fail
 refine HC.out.mono ?_
 rintro e w4 ⟨⟨d0,rfl,hwh⟩,hb4⟩
 have HW4:=qh hwh;have HB4:=qh hb4
 clear hwh hb4 y0 y1 y2 y3 y4 HC
 go_upto_region 2 with fail
 have hn:=BC.start w4 (uV d0) 36
 have hbn:uB w4 (w4.alloc (.cells (uV d0) 36)):=(Below.refl _ _).alloc (Nat.le_refl _) _
 generalize World.alloc _ _=W1 at hn hbn ⊢
 obtain ⟨S,i1,i2,i3⟩:=HW4.out.sepI
 have hz4:=HB4.out.size
 have hSA:SepAt W1 S v w4.heap.size 0 d0:=⟨zeb hn,i3.keep hbn.size fun k q hk=>World.cell?_of_block (hbn.block k (i1 k hk).2),fun e=>by have:=(i1 _ e).2;omega⟩
 have hsf:Soft W1 S:=fun k q hk=>by rw [Y0 (hbn.block k (i1 k hk).2)];exact i2 k q hk
 have hlow:∀k,S k->w3.heap.size<=k/\k<w4.heap.size:=i1
 have h31:uB w3 W1:=HB4.out.trans (hbn.mono hz4)
 have hK1:=HB3.out.keep h31
 have HSA:=qh hSA;have HSF:=qh hsf;have HLO:=qh hlow;have HN:=qh hn;have HK1:=qh hK1;have HBN:=qh hbn
 have HD:Hid (uP 76 #[.pointer (some ⟨w4.heap.size,0,none⟩), .slice pa pl pc, .func (.func 84) #[] #[.pointer (some ⟨w.heap.size+1,0,none⟩)]] W1 fun e w'=>(e= .returned (.int .u16 30)/\getP v p=none/\uB W1 w')∨(e= .returned (.int .u16 0)/\∃W b1 o1 x cx,uB W1 W/\Spot W1 w4.heap.size 0 v p b1 o1 x cx/\(∃(w5:World) (d:VC),Whole w5 W.heap.size y d/\uB W w5/\w'=setV w5 b1 o1 d))):=
  zof W1 w4.heap.size 0 v d0 p pa pl pc hSA.at_ (zdl hSA.sep) (HP.out.later_ hK1.below) _ (fun W b1 o1 _ _ w'=>∃(w5:World) (d:VC),Whole w5 W.heap.size y d/\uB W w5/\w'=setV w5 b1 o1 d)
   (fun W b1 o1 x cx hW hS=>zj2 W b1 o1 cx ⟨Za hW hS.at_.c0 hS.lt,Za hW hS.at_.c1 hS.lt,Za hW hS.at_.c2 hS.lt,Za hW hS.at_.c3 hS.lt,Za hW hS.at_.c4 hS.lt⟩ (fun q=>by rw [Y0 (hW.block b1 hS.lt)];exact zj8 HSA.out HSF.out HN.out.fr hS q) (w.heap.size+1) y cy (HK1.out.x.keep hW HK1.out.x.lt) (HY.out.later_ (HK1.out.below.trans (hW.mono HK1.out.below.size))))
 have hz1:W1.heap.size=w4.heap.size+1∨w4.heap.size<W1.heap.size:= .inr hn.lt
 clear hn hbn hSA hsf hlow h31 hK1 i1 i2 i3 hz1
 go_wp2_with fail
 refine HD.out.mono ?_
 rintro e w6 (⟨rfl,hno,hb6⟩|⟨rfl,W,b1,o1,x,cx,hW,hS,w5,d,hwh,hb5,rfl⟩)
 .have hK:=HK1.out.keep hb6
  obtain ⟨r0,r1,r2,r3,r4⟩:=row5 hK.r.at_
  have f0:=hK.r.fr 0;have f1:=hK.r.fr 1;have f2:=hK.r.fr 2;have f3:=hK.r.fr 3;have f4:=hK.r.fr 4
  have zr6:=hK.r.lt
  have HK:=qh hK;have HNO:=qh hno
  clear hK hno hb6
  go_wp2_with fail
  rw [<-HQ.out]
  have st:=Zi w6 (w.heap.size+2) 0 vzero
  exact ⟨rfl,_,zfk rfl rfl (Z5 HK.out.r vzero),HK.out.below.trans (st.lowC (by omega) HK.out.below.size), .inl ⟨rfl,HNO.out⟩⟩
 .obtain ⟨z,cz,S2,hz1,hz2,hz3,hz4'⟩:=zis HSA.out HN.out.lt hS hW hb5 hwh
  have hz0:w.heap.size+3<=w3.heap.size:=by omega
  have hb1:w3.heap.size<=b1:=by
   rcases hz4' with rfl|h
   .exact hz4
   .exact (HLO.out _ h).1
  have hK:=(HK1.out.keep hW).keep hb5
  have st:=Zi w5 b1 o1 d
  have hr:=hK.r.next st (by omega)
  have hWz:=hW.size
  have hN1:=HN.out.lt
  have hlo2:∀k,S2 k->w.heap.size+3<=k:=fun k hk=>by
   rcases hz3 k hk with h|h
   .have:=(HLO.out k h).1;omega
   .omega
  have hb6:uB w (setV w5 b1 o1 d):=hK.below.trans (st.lowC (by omega) hK.below.size)
  generalize setV w5 b1 o1 d=w6 at hz2 hr hb6 ⊢
  have c0:=hz2.at_.c0;have c1:w6.cell? ⟨w4.heap.size,1,none⟩=_:=hz2.at_.c1;have c2:w6.cell? ⟨w4.heap.size,2,none⟩=_:=hz2.at_.c2;have c3:w6.cell? ⟨w4.heap.size,3,none⟩=_:=hz2.at_.c3;have c4:w6.cell? ⟨w4.heap.size,4,none⟩=_:=hz2.at_.c4
  obtain ⟨r0,r1,r2,r3,r4⟩:=row5 hr.at_
  have f0:=hr.fr 0;have f1:=hr.fr 1;have f2:=hr.fr 2;have f3:=hr.fr 3;have f4:=hr.fr 4
  have zr6:=hr.lt
  have zo6:w4.heap.size<w6.heap.size:=World.block_lt_of_cell? w6 _ c0
  have HZ1:=qh hz1;have HZ2:=qh hz2;have HR6:=qh hr;have HB6:=qh hb6;have HL2:=qh hlo2
  clear hz1 hz2 hr hb6 hlo2 hz3 hz4' hK st hwh hb5 hW hS
  go_wp2_with fail
  rw [<-HQ.out]
  have st:=Zi w6 (w.heap.size+2) 0 cz
  have hfin:Sep (setV w6 (w.heap.size+2) 0 cz) S2 z cz:=HZ2.out.sep.keep st.size fun k q hk=>World.cell?_of_block (st.block k (HZ2.out.sep.bnd k hk) (by have:=HL2.out k hk;omega))
  exact ⟨rfl,_,zfk rfl rfl (Z5 HR6.out cz),HB6.out.trans (st.lowC (by omega) HB6.out.size), .inr ⟨z,cz,rfl,HZ1.out,hfin.isVal fun k hk=>by have:=HL2.out k hk;omega⟩⟩
set_option maxRecDepth 100000 in
theorem zoi (w:World) (base g n c i vb:Nat) (cur:Array Value) (tv:TypeId) (vs:List Value) (xs:List Value) (hbg:base<=g) (hg:w.heap[g]? =some (.cells cur 36 (0,0))) (hcur:cur.size=c*5) (hi:i<n) (hroom:n+1<=c) (hc:c<=maxLen)
 (hvb:w.heap[vb]? =some (.cells vs.toArray tv (0,0))) (hne:vb≠g) (hvl:vs.length=5) (h1v:∀v ∈ vs,v.oneCell'=true) (hxs:cur.toList.take (n*5)=xs) (h1:∀v ∈ xs,v.oneCell'=true):
 uP 122 #[.slice (some ⟨g,0,none⟩) n c, .int .i64 (i:Int), .slice (some ⟨vb,0,none⟩) 1 1] w (RowPost w base 36 5 (.slice (some ⟨g,0,none⟩) n c) (n+1) (xs.take (i*5)++vs++xs.drop (i*5))):=by
 delta uP
 obtain ⟨i0,hi0,hz0,hzs,hzb⟩:=info_parts Yh
 have hsz:(Tryz.prog.info? 36).map (·.size)=some 5:=by rw [hi0];simp [hzs]
 have hc63:c<=9223372036854775807:=by unfold maxLen at hc;omega
 have hz2:¬((i:Int)=(n:Int)):=by omega
 have hz3:¬((c:Int)<(n:Int)+1):=by omega
 have hcl:cur.toList.length=c*5:=by simpa using hcur
 have hxl:xs.length=n*5:=by rw [<-hxs,List.length_take,hcl];omega
 have hfz:∀k,w.frozen? ⟨vb,k,none⟩=false:=fun k=>by simp [World.frozen?,hvb]
 have hov:∀lb cb,(callFunc 136 #[.slice (some ⟨vb,0,none⟩) 1 1, .slice (some ⟨g,(i+1)*5,none⟩) lb cb]).run Tryz.prog w= .ok (.value (.bool false)) w:=fun lb cb=>by
  rw [run_callFunc_extern Tryz.func136 (by kernel_rfl) (by kernel_rfl) (by kernel_rfl) (e:=Extern.SlicesOverlaps.overlaps #[33,33] #[4]) (by kernel_rfl),
   Lib.run_overlaps_apart w 33 4 36 Tryz.underlying33 5 (fun w=>by simp [sizeOf,typeInfo,hi0,hzs]) ⟨vb,0,none⟩ ⟨g,(i+1)*5,none⟩ 1 1 lb cb hne tv 36 vs.length (c*5) (by simp [World.shape?,hvb]) (by simp [World.shape?,hg,hcur]) (by omega) (hfz _) (hfz _)]
  rfl
 have hdl:(xs.drop (i*5)).length=(n - i)*5:=by rw [List.length_drop,hxl];omega
 have hcp1:∀W,W.heap=w.heap->∀ty dc sc,(Builtin.copy_ #[33,33] ty #[.slice (some ⟨g,(i+1)*5,none⟩) (n - i) dc, .slice (some ⟨g,i*5,none⟩) (n+1 - i) sc]).run Tryz.prog W= .ok (goInt ((n - i:Nat))) (W.setRow g (cur.toList.take ((i+1)*5)++xs.drop (i*5)++cur.toList.drop ((i+1)*5+(xs.drop (i*5)).length)).toArray):=fun W hW ty dc sc=>
  X1 W _ _ ty 36 5 g ((i+1)*5) (n - i) dc ⟨g,i*5,none⟩ (n+1 - i) sc cur 36 (xs.drop (i*5)) Tryz.underlying33 hsz (by rw [hW];exact hg) (n - i) (by simp only [Nat.min_def];split<;>omega) hdl
   (fun j v hj=>by
    rw [Addr.add_lit]
    simp only [World.cell?,hW,hg]
    rw [List.getElem?_drop, <-hxs,List.getElem?_take] at hj
    split at hj
    .simpa using hj
    .cases hj)
   (by rw [hdl,hcur];omega) (fun v hv=>h1 v (List.mem_of_mem_drop hv))
 obtain ⟨C1,hC1⟩:∃C1,C1=(cur.toList.take ((i+1)*5)++xs.drop (i*5)++cur.toList.drop ((i+1)*5+(xs.drop (i*5)).length)).toArray:=⟨_,rfl⟩
 rw [<-hC1] at hcp1
 have hC1s:C1.size=c*5:=by rw [hC1];simp only [List.size_toArray,List.length_append,List.length_take,List.length_drop,hcl,hxl];omega
 have hcp2:∀W,W.heap[g]? =some (.cells C1 36 (0,0))->W.heap[vb]? =some (.cells vs.toArray tv (0,0))->∀ty dc,(Builtin.copy_ #[33,33] ty #[.slice (some ⟨g,i*5,none⟩) (n+1 - i) dc, .slice (some ⟨vb,0,none⟩) 1 1]).run Tryz.prog W= .ok (goInt (1:Nat)) (W.setRow g (C1.toList.take (i*5)++vs++C1.toList.drop (i*5+vs.length)).toArray):=fun W hWg hWv ty dc=>
  X1 W _ _ ty 36 5 g (i*5) (n+1 - i) dc ⟨vb,0,none⟩ 1 1 C1 36 vs Tryz.underlying33 hsz hWg 1 (by simp only [Nat.min_def];split<;>omega) (by omega)
   (fun j v hj=>by rw [Addr.add_lit];simp only [World.cell?,hWv];simpa using hj)
   (by omega) h1v
 have hfin:(C1.toList.take (i*5)++vs++C1.toList.drop (i*5+vs.length)).take ((n+1)*5)=xs.take (i*5)++vs++xs.drop (i*5):=by
  have h:=zej cur.toList vs (i*5) (n*5) (by omega) (by omega)
  rw [hxs] at h
  rw [hC1]
  rw [hdl,show (i+1)*5+(n - i)*5=n*5+vs.length by omega,show (i+1)*5=i*5+vs.length by omega,show (n+1)*5=n*5+vs.length by omega]
  exact h
 have hfs:(C1.toList.take (i*5)++vs++C1.toList.drop (i*5+vs.length)).toArray.size=c*5:=by
  have:C1.toList.length=c*5:=by simpa using hC1s
  simp only [List.size_toArray,List.length_append,List.length_take,List.length_drop,this];omega
 have hC2g:(w.drew.setRow g C1).heap[g]? =some (.cells C1 36 (0,0)):=setRow_heap w.drew g cur C1 36 (0,0) hg
 have hC2v:(w.drew.setRow g C1).heap[vb]? =some (.cells vs.toArray tv (0,0)):=(setRow_other w.drew g vb C1 hne).trans hvb
 have HF:=qh hfin;have HS:=qh hfs;have HG2:=qh hC2g;have HL:=qh hxl;have HV:=qh hvl
 obtain ⟨R,hR⟩:∃R,RowPost w base 36 5 (.slice (some ⟨g,0,none⟩) n c) (n+1) (xs.take (i*5)++vs++xs.drop (i*5))=R:=⟨_,rfl⟩
 have HR:=qh hR
 rw [hR]
 have hw1:IntKind.i64.wrap ((i:Int)+(1:Int))=(i:Int)+(1:Int):=by rw [IntKind.wrap_i64];omega
 have hb1:(0:Int)<=(i:Int)+(1:Int):=by omega
 have hin:i<=n:=by omega
 have htn:((i:Int)+(1:Int)).toNat=i+1:=by omega
 have hb2:¬(c=i+1):=by omega
 have hb3:(i:Int)<=(n:Int)+(1:Int):=by omega
 have hb4:¬(c=i):=by omega
 clear hR hfin hfs hC1s hC1 hxs hvl hdl hxl hcl
 have mixed:Tryz.prog.follows .mixedOrders=true:=by kernel_rfl
 go_enter Tryz.func122,Tryz.ntmps122
 go_wp2_with (simp only [hov])
 go_region_law_o (refine step_copy_runI rfl _ _ 33 33 rfl (.slice (some ⟨g,(i+1)*5,none⟩) (n - i) (c - (i+1))) (.slice (some ⟨g,i*5,none⟩) (n+1 - i) (c - i)) (by simp [Act.eval,Act.put]) (by simp [Act.eval,Act.put]) (hcp1 w.drew rfl _ _ _) ?_)
 obtain ⟨W1,hW1⟩:∃W1,w.drew.setRow g C1=W1:=⟨_,rfl⟩
 rw [hW1] at hC2g hC2v ⊢
 go_wp2_with (at_builtin;refine wpList_copy_runI _ rfl _ _ 33 33 rfl _ _ rfl rfl (hcp2 _ hC2g hC2v _ _) ?_)
 rw [<-HR.out, <-List.append_assoc]
 exact ⟨_,rfl,⟨by simp only [List.length_append,List.length_take,List.length_drop,HL.out,HV.out];omega, .inr ⟨g,c,_,rfl,hbg,setRow_heap W1 g C1 _ 36 (0,0) hC2g,hroom,hc,HS.out,HF.out⟩⟩,
  by subst hW1;exact ⟨rfl,rfl,rfl,by simp,fun k hk hne=>(setRow_other _ g k _ (fun e=>hne (by rw [e];rfl))).trans (setRow_other w.drew g k _ (fun e=>hne (by rw [e];rfl)))⟩, .inl rfl⟩
set_option maxRecDepth 100000 in
theorem zga (w:World) (base n vb:Nat) (tv:TypeId) (u:Value) (vs:List Value) (xs:List Value) (hown:w.ownsRow base 36 5 u n xs) (hB:base<=w.heap.size) (hn:n+1<=1466015503701)
 (hvb:w.heap[vb]? =some (.cells vs.toArray tv (0,0))) (hvl:vs.length=5) (h1v:∀v ∈ vs,v.oneCell'=true):
 uP 122 #[u, .int .i64 (n:Int), .slice (some ⟨vb,0,none⟩) 1 1] w (RowPost w base 36 5 u (n+1) (xs.take (n*5)++vs++xs.drop (n*5))):=by
 delta uP
 obtain ⟨i0,hi0,hz0,hzs,hzb⟩:=info_parts Yh
 have hxl:xs.length=n*5:=hown.1
 rw [List.take_of_length_le (by omega),List.drop_eq_nil_of_le (by omega),List.append_nil]
 have hnews:∀j v,vs[j]? =some v->w.cell? ((⟨vb,0,none⟩:Addr).add j)=some v:=fun j v hj=>by
  rw [Addr.add_lit];simp only [World.cell?,hvb];simpa using hj
 obtain ⟨R,hR⟩:∃R,RowPost w base 36 5 u (n+1) (xs++vs)=R:=⟨_,rfl⟩
 have HR:=qh hR
 rw [hR]
 have HO:=qh hown
 have hf:∃(ba:Option Addr) (cc:Nat),u= .slice ba n cc/\n<=cc/\cc<=maxLen/\∀z,ba=some z->z.spot=none:=by
  rcases hown.2 with ⟨rfl,rfl⟩|⟨g,cap,cur,rfl,_,_,h3,h4,_⟩
  .exact ⟨none,0,rfl,Nat.le_refl _,Nat.zero_le _,fun z hz=>by cases hz⟩
  .exact ⟨_,cap,rfl,h3,h4,fun z hz=>by cases hz;rfl⟩
 obtain ⟨ba,cc,rfl,hcc,hcm,hsp⟩:=hf
 have hcc63:cc<=9223372036854775807:=by unfold maxLen at hcm;omega
 have mixed:Tryz.prog.follows .mixedOrders=true:=by kernel_rfl
 clear hR hown hxl
 have hfin:∀v' w',w'.ownsRow base 36 5 v' (n+1) (xs++vs)->w.grownBy w' (Value.slice ba n cc).ownBlock->(v'.ownBlock=(Value.slice ba n cc).ownBlock∨v'.ownBlock=some w.heap.size)->R (.returned v') w':=fun v' w' h1 h2 h3=>by
  rw [<-HR.out];exact ⟨v',rfl,h1,h2,h3⟩
 have HFIN:=qh hfin
 clear hfin
 have hd:n*5 - n*5=0:=by omega
 rcases ba with _|⟨g,o,sp⟩
 .go_enter Tryz.func122,Tryz.ntmps122
  go_wp2_with (at_builtin;refine wpList_append_own_at _ rfl (.tmp 23) (.tmp 24) 33 (by rfl) base 36 i0 _ 5 80 Tryz.underlying33 hi0 hz0 hzs hzb rfl (by omega) _ n xs (by rfl) HO.out ⟨vb,0,none⟩ 1 1 vs (by rfl) (by omega) hnews h1v (by unfold maxLen;omega) (by omega) hB ?_;intro v' w1 hown' hgrow _ hat)
  exact HFIN.out _ _ hown' hgrow hat
 .obtain rfl:sp=none:=hsp _ rfl
  go_enter Tryz.func122,Tryz.ntmps122
  go_wp2_with (at_builtin;refine wpList_append_own_at _ rfl (.tmp 23) (.tmp 24) 33 (by rfl) base 36 i0 _ 5 80 Tryz.underlying33 hi0 hz0 hzs hzb rfl (by omega) _ n xs (by rfl) HO.out ⟨vb,0,none⟩ 1 1 vs (by rfl) (by omega) hnews h1v (by unfold maxLen;omega) (by omega) hB ?_;intro v' w1 hown' hgrow _ hat)
  all_goals exact HFIN.out _ _ hown' hgrow hat
set_option maxRecDepth 100000 in
theorem zfz (w:World) (base g n c i vb:Nat) (cur:Array Value) (tv:TypeId) (vs:List Value) (xs:List Value) (hB:base<=w.heap.size) (hg:w.heap[g]? =some (.cells cur 36 (0,0))) (hcur:cur.size=c*5) (hi:i<n) (hnc:n<=c) (hroom:c<n+1) (hn:n+1<=1466015503701)
 (hvb:w.heap[vb]? =some (.cells vs.toArray tv (0,0))) (hvl:vs.length=5) (h1v:∀v ∈ vs,v.oneCell'=true) (hxs:cur.toList.take (n*5)=xs) (h1:∀v ∈ xs,v.oneCell'=true):
 uP 122 #[.slice (some ⟨g,0,none⟩) n c, .int .i64 (i:Int), .slice (some ⟨vb,0,none⟩) 1 1] w (RowPost w base 36 5 (.slice (some ⟨g,0,none⟩) n c) (n+1) (xs.take (i*5)++vs++xs.drop (i*5))):=by
 delta uP
 obtain ⟨i0,hi0,hz0,hzs,hzb⟩:=info_parts Yh
 have hsz:(Tryz.prog.info? 36).map (·.size)=some 5:=by rw [hi0];simp [hzs]
 have hcl:cur.toList.length=c*5:=by simpa using hcur
 have hxl:xs.length=n*5:=by rw [<-hxs,List.length_take,hcl];omega
 have hgw:g<w.heap.size:=(Array.getElem?_eq_some_iff.1 hg).1
 have hvw:vb<w.heap.size:=(Array.getElem?_eq_some_iff.1 hvb).1
 have hcell:∀j v,xs[j]? =some v->cur[j]? =some v:=fun j v hj=>by
  rw [<-hxs,List.getElem?_take] at hj
  split at hj
  .simpa using hj
  .cases hj
 have hold:(Builtin.firstCells i0.size i (.slice (some ⟨g,0,none⟩) i c)).run Tryz.prog w.drew= .ok (xs.take (i*5)).toArray w.drew:=by
  rw [hzs]
  exact run_firstCells_some w.drew 5 i ⟨g,0,none⟩ i c (xs.take (i*5)) (by rw [List.length_take];omega) (fun j v hj=>by
   rw [Addr.add_lit]
   rw [List.getElem?_take] at hj
   split at hj
   .have:=hcell j v hj
    simp only [World.cell?,show w.drew.heap=w.heap from rfl,hg];simpa using this
   .cases hj)
 have hkk:(n:Int)+(1:Int) - (i:Int)=((n+1 - i:Nat):Int):=by omega
 have hik:i+(n+1 - i)=n+1:=by omega
 obtain ⟨z,hzz⟩:∃z,i0.zero=some z/\z.cells.size=5:=⟨_,hz0,rfl⟩
 have hrz:∀ty,(Builtin.append_ #[33,3] ty #[.slice (some ⟨g,0,none⟩) i c, .int .i64 ((n:Int)+(1:Int) - (i:Int))]).run Tryz.prog w=
  .ok (.slice (some ⟨w.heap.size,0,none⟩) (n+1) (grownCap w (n+1) c 36)) (w.drew.alloc (.cells ((xs.take (i*5)).toArray++Builtin.zeroCells z.cells (n+1 - i)++Builtin.zeroCells z.cells (grownCap w (n+1) c 36 - (n+1))) 36)):=fun ty=>by
  have h:=Lib.run_append_grow_zeros w 33 3 ty 36 i0 _ .i64 .i64 Tryz.underlying33 Tryz.underlying3 hi0 hzz.1 (some ⟨g,0,none⟩) i c (xs.take (i*5)) hold (n+1 - i) (by omega) (by omega) (by omega) (by omega) (by rw [hzb];omega) (by rw [hzb,hik];exact growslice_fits hroom (by omega))
  rw [hik] at h
  rw [hkk]
  exact h
 obtain ⟨G,hG⟩:∃G,G=grownCap w (n+1) c 36:=⟨_,rfl⟩
 have hGn:n+1<=G:=by rw [hG];exact grownCap_ge w _ _ _
 have hGm:G<=maxLen:=by rw [hG];exact grownCap_le_maxLen w (n+1) c 36 (by unfold maxLen;omega)
 have hG63:G<=9223372036854775807:=by unfold maxLen at hGm;omega
 obtain ⟨ROW,hROW⟩:∃ROW:Array Value,ROW=(xs.take (i*5)).toArray++Builtin.zeroCells z.cells (n+1 - i)++Builtin.zeroCells z.cells (G - (n+1)):=⟨_,rfl⟩
 rw [<-hG] at hrz
 rw [<-hROW] at hrz
 have hRs:ROW.size=G*5:=by
  rw [hROW]
  simp only [Array.size_append,size_zeroCells,List.size_toArray,List.length_take,hxl,hzz.2]
  omega
 have hRt:ROW.toList.take (i*5)=xs.take (i*5):=by
  rw [hROW]
  simp only [Array.toList_append,List.append_assoc]
  rw [List.take_left' (by rw [List.length_take];omega)]
 obtain ⟨N,hN⟩:∃N,w.heap.size=N:=⟨_,rfl⟩
 rw [hN] at hrz hgw hvw hB
 have hcpA:∀W,W.heap[N]? =some (.cells ROW 36 (0,0))->W.heap[vb]? =some (.cells vs.toArray tv (0,0))->∀ty dc,(Builtin.copy_ #[33,33] ty #[.slice (some ⟨N,i*5,none⟩) (n+1 - i) dc, .slice (some ⟨vb,0,none⟩) 1 1]).run Tryz.prog W= .ok (goInt (1:Nat)) (W.setRow N (ROW.toList.take (i*5)++vs++ROW.toList.drop (i*5+vs.length)).toArray):=fun W hWg hWv ty dc=>
  X1 W _ _ ty 36 5 N (i*5) (n+1 - i) dc ⟨vb,0,none⟩ 1 1 ROW 36 vs Tryz.underlying33 hsz hWg 1 (by simp only [Nat.min_def];split<;>omega) (by omega)
   (fun j v hj=>by rw [Addr.add_lit];simp only [World.cell?,hWv];simpa using hj)
   (by omega) h1v
 obtain ⟨C1,hC1⟩:∃C1,C1=(ROW.toList.take (i*5)++vs++ROW.toList.drop (i*5+vs.length)).toArray:=⟨_,rfl⟩
 rw [<-hC1] at hcpA
 have hRl:ROW.toList.length=G*5:=by simpa using hRs
 have hC1s:C1.size=G*5:=by rw [hC1];simp only [List.size_toArray,List.length_append,List.length_take,List.length_drop,hRl];omega
 have hdl:(xs.drop (i*5)).length=(n - i)*5:=by rw [List.length_drop,hxl];omega
 have hcpB:∀W,W.heap[N]? =some (.cells C1 36 (0,0))->W.heap[g]? =some (.cells cur 36 (0,0))->∀ty dc sc,(Builtin.copy_ #[33,33] ty #[.slice (some ⟨N,(i+1)*5,none⟩) (n - i) dc, .slice (some ⟨g,i*5,none⟩) (n - i) sc]).run Tryz.prog W= .ok (goInt ((n - i:Nat))) (W.setRow N (C1.toList.take ((i+1)*5)++xs.drop (i*5)++C1.toList.drop ((i+1)*5+(xs.drop (i*5)).length)).toArray):=fun W hWn hWg ty dc sc=>
  X1 W _ _ ty 36 5 N ((i+1)*5) (n - i) dc ⟨g,i*5,none⟩ (n - i) sc C1 36 (xs.drop (i*5)) Tryz.underlying33 hsz hWn (n - i) (by simp only [Nat.min_def];split<;>omega) hdl
   (fun j v hj=>by
    rw [Addr.add_lit]
    simp only [World.cell?,hWg]
    rw [List.getElem?_drop] at hj
    have:=hcell _ v hj
    simpa using this)
   (by rw [hdl,hC1s];omega) (fun v hv=>h1 v (List.mem_of_mem_drop hv))
 have hfin:(C1.toList.take ((i+1)*5)++xs.drop (i*5)++C1.toList.drop ((i+1)*5+(xs.drop (i*5)).length)).take ((n+1)*5)=xs.take (i*5)++vs++xs.drop (i*5):=by
  have h:=zdo ROW.toList vs xs (i*5) (by omega) hRt (by omega)
  rw [hC1,show (i+1)*5=i*5+vs.length by omega,show (n+1)*5=xs.length+vs.length by omega]
  exact h
 have hfs:(C1.toList.take ((i+1)*5)++xs.drop (i*5)++C1.toList.drop ((i+1)*5+(xs.drop (i*5)).length)).toArray.size=G*5:=by
  have:C1.toList.length=G*5:=by simpa using hC1s
  simp only [List.size_toArray,List.length_append,List.length_take,this,hdl];rw [List.length_drop,this];omega
 have HF:=qh hfin;have HS:=qh hfs;have HL:=qh hxl;have HV:=qh hvl
 obtain ⟨R,hR⟩:∃R,RowPost w base 36 5 (.slice (some ⟨g,0,none⟩) n c) (n+1) (xs.take (i*5)++vs++xs.drop (i*5))=R:=⟨_,rfl⟩
 have HR:=qh hR
 rw [hR]
 have hz2:¬((i:Int)=(n:Int)):=by omega
 have hz3:(c:Int)<(n:Int)+(1:Int):=by omega
 have hw1:IntKind.i64.wrap ((i:Int)+(1:Int))=(i:Int)+(1:Int):=by rw [IntKind.wrap_i64];omega
 have hb1:(0:Int)<=(i:Int)+(1:Int):=by omega
 have hin:i<=n:=by omega
 have htn:((i:Int)+(1:Int)).toNat=i+1:=by omega
 have hb3:(i:Int)<=(n:Int):=by omega
 have hGi:¬(G=i):=by omega
 have hGim:¬(G=i+1):=by omega
 have hci:¬(c=i):=by omega
 have hc63:c<=9223372036854775807:=by omega
 have mixed:Tryz.prog.follows .mixedOrders=true:=by kernel_rfl
 have HN:=qh hN
 have ha1:(w.drew.alloc (.cells ROW 36)).heap[N]? =some (.cells ROW 36 (0,0)):=by rw [<-hN];exact heap_alloc_new w.drew _
 have ha2:(w.drew.alloc (.cells ROW 36)).heap[vb]? =some (.cells vs.toArray tv (0,0)):=(heap_alloc_old w.drew _ (by rw [<-hN] at hvw;exact hvw)).trans hvb
 have ha3:(w.drew.alloc (.cells ROW 36)).heap[g]? =some (.cells cur 36 (0,0)):=(heap_alloc_old w.drew _ (by rw [<-hN] at hgw;exact hgw)).trans hg
 have hW1:w.grownBy (w.drew.alloc (.cells ROW 36)) (some N):=⟨rfl,rfl,rfl,by simp,fun k hk hne=>heap_alloc_old w.drew _ hk⟩
 obtain ⟨W1,hW⟩:∃W1,w.drew.alloc (.cells ROW 36)=W1:=⟨_,rfl⟩
 rw [hW] at hrz ha1 ha2 ha3 hW1
 have hb1':(W1.setRow N C1).heap[N]? =some (.cells C1 36 (0,0)):=setRow_heap W1 N ROW C1 36 (0,0) ha1
 have hb3':(W1.setRow N C1).heap[g]? =some (.cells cur 36 (0,0)):=(setRow_other W1 N g C1 (by omega)).trans ha3
 have HW1:=qh hW1;have HB1:=qh hb1';have HB3:=qh hb3'
 clear hkk hik hold hROW hG hRl hRs hRt hC1 hC1s hR hfin hfs hdl hxl hcl hvl hN hcell hzz ha3 hW1 hb1' hb3' hW hxs
 go_enter Tryz.func122,Tryz.ntmps122
 go_wp2_with (at_builtin;refine Lib.wpList_append_run _ rfl _ _ _ _ rfl _ _ rfl rfl _ _ (hrz _) ?_)
 go_region_law_o (refine step_copy_runI rfl _ _ 33 33 rfl (.slice (some ⟨N,(i+1)*5,none⟩) (n - i) (G - (i+1))) (.slice (some ⟨g,i*5,none⟩) (n - i) (c - i)) (by simp [Act.eval,Act.put]) (by simp [Act.eval,Act.put]) (hcpB (W1.setRow N C1).drew HB1.out HB3.out _ _ _) ?_)
 go_wp2_with fail
 rw [<-HR.out, <-List.append_assoc]
 exact ⟨_,rfl,⟨by simp only [List.length_append,List.length_take,List.length_drop,HL.out,HV.out];omega, .inr ⟨N,G,_,rfl,hB,setRow_heap (W1.setRow N C1).drew N C1 _ 36 (0,0) HB1.out,hGn,hGm,by have h:=HS.out;rwa [List.length_drop] at h,by have h:=HF.out;rwa [List.length_drop] at h⟩⟩,
  ⟨HW1.out.os,HW1.out.tape,HW1.out.output,by simpa using HW1.out.size,fun k hk hne=>(setRow_other _ N k _ (by rw [HN.out] at hk;omega)).trans ((setRow_other W1 N k _ (by rw [HN.out] at hk;omega)).trans (HW1.out.block k hk (by rw [HN.out] at hk;simp;omega)))⟩, .inr (by rw [HN.out];rfl)⟩
theorem zfd (w:World) (base n i vb:Nat) (tv:TypeId) (u:Value) (vs:List Value) (xs:List Value) (hown:w.ownsRow base 36 5 u n xs) (hB:base<=w.heap.size) (hi:i<=n) (hn:n+1<=1466015503701)
 (hvb:w.heap[vb]? =some (.cells vs.toArray tv (0,0))) (hne:u.ownBlock≠some vb) (hvl:vs.length=5) (h1v:∀v ∈ vs,v.oneCell'=true) (h1:∀v ∈ xs,v.oneCell'=true):
 uP 122 #[u, .int .i64 (i:Int), .slice (some ⟨vb,0,none⟩) 1 1] w (RowPost w base 36 5 u (n+1) (xs.take (i*5)++vs++xs.drop (i*5))):=by
 delta uP
 by_cases h:i=n
 .subst h
  exact zga w base i vb tv u vs xs hown hB hn hvb hvl h1v
 .rcases hown.2 with ⟨rfl,h0⟩|⟨g,c,cur,rfl,hbg,hg,hnc,hcm,hcs,htk⟩
  .omega
  .by_cases hroom:n+1<=c
   .exact zoi w base g n c i vb cur tv vs xs hbg hg hcs (by omega) hroom hcm hvb (fun e=>hne (by rw [e];rfl)) hvl h1v htk h1
   .exact zfz w base g n c i vb cur tv vs xs hB hg hcs (by omega) hnc (by omega) hn hvb hvl h1v htk h1
set_option maxRecDepth 100000 in
theorem zk6 (w:World) (base g n c i vb:Nat) (cur:Array Value) (tv:TypeId) (vs:List Value) (xs:List Value) (hbg:base<=g) (hg:w.heap[g]? =some (.cells cur 75 (0,0))) (hcur:cur.size=c*6) (hi:i<n) (hroom:n+1<=c) (hc:c<=maxLen)
 (hvb:w.heap[vb]? =some (.cells vs.toArray tv (0,0))) (hne:vb≠g) (hvl:vs.length=6) (h1v:∀v ∈ vs,v.oneCell'=true) (hxs:cur.toList.take (n*6)=xs) (h1:∀v ∈ xs,v.oneCell'=true):
 uP 81 #[.slice (some ⟨g,0,none⟩) n c, .int .i64 (i:Int), .slice (some ⟨vb,0,none⟩) 1 1] w (RowPost w base 75 6 (.slice (some ⟨g,0,none⟩) n c) (n+1) (xs.take (i*6)++vs++xs.drop (i*6))):=by
 delta uP
 obtain ⟨i0,hi0,hz0,hzs,hzb⟩:=info_parts Yj
 have hsz:(Tryz.prog.info? 75).map (·.size)=some 6:=by rw [hi0];simp [hzs]
 have hc63:c<=9223372036854775807:=by unfold maxLen at hc;omega
 have hz2:¬((i:Int)=(n:Int)):=by omega
 have hz3:¬((c:Int)<(n:Int)+1):=by omega
 have hcl:cur.toList.length=c*6:=by simpa using hcur
 have hxl:xs.length=n*6:=by rw [<-hxs,List.length_take,hcl];omega
 have hfz:∀k,w.frozen? ⟨vb,k,none⟩=false:=fun k=>by simp [World.frozen?,hvb]
 have hov:∀lb cb,(callFunc 120 #[.slice (some ⟨vb,0,none⟩) 1 1, .slice (some ⟨g,(i+1)*6,none⟩) lb cb]).run Tryz.prog w= .ok (.value (.bool false)) w:=fun lb cb=>by
  rw [run_callFunc_extern Tryz.func120 (by kernel_rfl) (by kernel_rfl) (by kernel_rfl) (e:=Extern.SlicesOverlaps.overlaps #[34,34] #[4]) (by kernel_rfl),
   Lib.run_overlaps_apart w 34 4 75 Tryz.underlying34 6 (fun w=>by simp [sizeOf,typeInfo,hi0,hzs]) ⟨vb,0,none⟩ ⟨g,(i+1)*6,none⟩ 1 1 lb cb hne tv 75 vs.length (c*6) (by simp [World.shape?,hvb]) (by simp [World.shape?,hg,hcur]) (by omega) (hfz _) (hfz _)]
  rfl
 have hdl:(xs.drop (i*6)).length=(n - i)*6:=by rw [List.length_drop,hxl];omega
 have hcp1:∀W,W.heap=w.heap->∀ty dc sc,(Builtin.copy_ #[34,34] ty #[.slice (some ⟨g,(i+1)*6,none⟩) (n - i) dc, .slice (some ⟨g,i*6,none⟩) (n+1 - i) sc]).run Tryz.prog W= .ok (goInt ((n - i:Nat))) (W.setRow g (cur.toList.take ((i+1)*6)++xs.drop (i*6)++cur.toList.drop ((i+1)*6+(xs.drop (i*6)).length)).toArray):=fun W hW ty dc sc=>
  X1 W _ _ ty 75 6 g ((i+1)*6) (n - i) dc ⟨g,i*6,none⟩ (n+1 - i) sc cur 75 (xs.drop (i*6)) Tryz.underlying34 hsz (by rw [hW];exact hg) (n - i) (by simp only [Nat.min_def];split<;>omega) hdl
   (fun j v hj=>by
    rw [Addr.add_lit]
    simp only [World.cell?,hW,hg]
    rw [List.getElem?_drop, <-hxs,List.getElem?_take] at hj
    split at hj
    .simpa using hj
    .cases hj)
   (by rw [hdl,hcur];omega) (fun v hv=>h1 v (List.mem_of_mem_drop hv))
 obtain ⟨C1,hC1⟩:∃C1,C1=(cur.toList.take ((i+1)*6)++xs.drop (i*6)++cur.toList.drop ((i+1)*6+(xs.drop (i*6)).length)).toArray:=⟨_,rfl⟩
 rw [<-hC1] at hcp1
 have hC1s:C1.size=c*6:=by rw [hC1];simp only [List.size_toArray,List.length_append,List.length_take,List.length_drop,hcl,hxl];omega
 have hcp2:∀W,W.heap[g]? =some (.cells C1 75 (0,0))->W.heap[vb]? =some (.cells vs.toArray tv (0,0))->∀ty dc,(Builtin.copy_ #[34,34] ty #[.slice (some ⟨g,i*6,none⟩) (n+1 - i) dc, .slice (some ⟨vb,0,none⟩) 1 1]).run Tryz.prog W= .ok (goInt (1:Nat)) (W.setRow g (C1.toList.take (i*6)++vs++C1.toList.drop (i*6+vs.length)).toArray):=fun W hWg hWv ty dc=>
  X1 W _ _ ty 75 6 g (i*6) (n+1 - i) dc ⟨vb,0,none⟩ 1 1 C1 75 vs Tryz.underlying34 hsz hWg 1 (by simp only [Nat.min_def];split<;>omega) (by omega)
   (fun j v hj=>by rw [Addr.add_lit];simp only [World.cell?,hWv];simpa using hj)
   (by omega) h1v
 have hfin:(C1.toList.take (i*6)++vs++C1.toList.drop (i*6+vs.length)).take ((n+1)*6)=xs.take (i*6)++vs++xs.drop (i*6):=by
  have h:=zej cur.toList vs (i*6) (n*6) (by omega) (by omega)
  rw [hxs] at h
  rw [hC1]
  rw [hdl,show (i+1)*6+(n - i)*6=n*6+vs.length by omega,show (i+1)*6=i*6+vs.length by omega,show (n+1)*6=n*6+vs.length by omega]
  exact h
 have hfs:(C1.toList.take (i*6)++vs++C1.toList.drop (i*6+vs.length)).toArray.size=c*6:=by
  have:C1.toList.length=c*6:=by simpa using hC1s
  simp only [List.size_toArray,List.length_append,List.length_take,List.length_drop,this];omega
 have hC2g:(w.drew.setRow g C1).heap[g]? =some (.cells C1 75 (0,0)):=setRow_heap w.drew g cur C1 75 (0,0) hg
 have hC2v:(w.drew.setRow g C1).heap[vb]? =some (.cells vs.toArray tv (0,0)):=(setRow_other w.drew g vb C1 hne).trans hvb
 have HF:=qh hfin;have HS:=qh hfs;have HG2:=qh hC2g;have HL:=qh hxl;have HV:=qh hvl
 obtain ⟨R,hR⟩:∃R,RowPost w base 75 6 (.slice (some ⟨g,0,none⟩) n c) (n+1) (xs.take (i*6)++vs++xs.drop (i*6))=R:=⟨_,rfl⟩
 have HR:=qh hR
 rw [hR]
 have hw1:IntKind.i64.wrap ((i:Int)+(1:Int))=(i:Int)+(1:Int):=by rw [IntKind.wrap_i64];omega
 have hb1:(0:Int)<=(i:Int)+(1:Int):=by omega
 have hin:i<=n:=by omega
 have htn:((i:Int)+(1:Int)).toNat=i+1:=by omega
 have hb2:¬(c=i+1):=by omega
 have hb3:(i:Int)<=(n:Int)+(1:Int):=by omega
 have hb4:¬(c=i):=by omega
 clear hR hfin hfs hC1s hC1 hxs hvl hdl hxl hcl
 have mixed:Tryz.prog.follows .mixedOrders=true:=by kernel_rfl
 go_enter Tryz.func81,Tryz.ntmps81
 go_wp2_with (simp only [hov])
 go_region_law_o (refine step_copy_runI rfl _ _ 34 34 rfl (.slice (some ⟨g,(i+1)*6,none⟩) (n - i) (c - (i+1))) (.slice (some ⟨g,i*6,none⟩) (n+1 - i) (c - i)) (by simp [Act.eval,Act.put]) (by simp [Act.eval,Act.put]) (hcp1 w.drew rfl _ _ _) ?_)
 obtain ⟨W1,hW1⟩:∃W1,w.drew.setRow g C1=W1:=⟨_,rfl⟩
 rw [hW1] at hC2g hC2v ⊢
 go_wp2_with (at_builtin;refine wpList_copy_runI _ rfl _ _ 34 34 rfl _ _ rfl rfl (hcp2 _ hC2g hC2v _ _) ?_)
 rw [<-HR.out, <-List.append_assoc]
 exact ⟨_,rfl,⟨by simp only [List.length_append,List.length_take,List.length_drop,HL.out,HV.out];omega, .inr ⟨g,c,_,rfl,hbg,setRow_heap W1 g C1 _ 75 (0,0) hC2g,hroom,hc,HS.out,HF.out⟩⟩,
  by subst hW1;exact ⟨rfl,rfl,rfl,by simp,fun k hk hne=>(setRow_other _ g k _ (fun e=>hne (by rw [e];rfl))).trans (setRow_other w.drew g k _ (fun e=>hne (by rw [e];rfl)))⟩, .inl rfl⟩
set_option maxRecDepth 100000 in
theorem zm7 (w:World) (base n vb:Nat) (tv:TypeId) (u:Value) (vs:List Value) (xs:List Value) (hown:w.ownsRow base 75 6 u n xs) (hB:base<=w.heap.size) (hn:n+1<=1466015503701)
 (hvb:w.heap[vb]? =some (.cells vs.toArray tv (0,0))) (hvl:vs.length=6) (h1v:∀v ∈ vs,v.oneCell'=true):
 uP 81 #[u, .int .i64 (n:Int), .slice (some ⟨vb,0,none⟩) 1 1] w (RowPost w base 75 6 u (n+1) (xs.take (n*6)++vs++xs.drop (n*6))):=by
 delta uP
 obtain ⟨i0,hi0,hz0,hzs,hzb⟩:=info_parts Yj
 have hxl:xs.length=n*6:=hown.1
 rw [List.take_of_length_le (by omega),List.drop_eq_nil_of_le (by omega),List.append_nil]
 have hnews:∀j v,vs[j]? =some v->w.cell? ((⟨vb,0,none⟩:Addr).add j)=some v:=fun j v hj=>by
  rw [Addr.add_lit];simp only [World.cell?,hvb];simpa using hj
 obtain ⟨R,hR⟩:∃R,RowPost w base 75 6 u (n+1) (xs++vs)=R:=⟨_,rfl⟩
 have HR:=qh hR
 rw [hR]
 have HO:=qh hown
 have hf:∃(ba:Option Addr) (cc:Nat),u= .slice ba n cc/\n<=cc/\cc<=maxLen/\∀z,ba=some z->z.spot=none:=by
  rcases hown.2 with ⟨rfl,rfl⟩|⟨g,cap,cur,rfl,_,_,h3,h4,_⟩
  .exact ⟨none,0,rfl,Nat.le_refl _,Nat.zero_le _,fun z hz=>by cases hz⟩
  .exact ⟨_,cap,rfl,h3,h4,fun z hz=>by cases hz;rfl⟩
 obtain ⟨ba,cc,rfl,hcc,hcm,hsp⟩:=hf
 have hcc63:cc<=9223372036854775807:=by unfold maxLen at hcm;omega
 have mixed:Tryz.prog.follows .mixedOrders=true:=by kernel_rfl
 clear hR hown hxl
 have hfin:∀v' w',w'.ownsRow base 75 6 v' (n+1) (xs++vs)->w.grownBy w' (Value.slice ba n cc).ownBlock->(v'.ownBlock=(Value.slice ba n cc).ownBlock∨v'.ownBlock=some w.heap.size)->R (.returned v') w':=fun v' w' h1 h2 h3=>by
  rw [<-HR.out];exact ⟨v',rfl,h1,h2,h3⟩
 have HFIN:=qh hfin
 clear hfin
 have hd:n*6 - n*6=0:=by omega
 rcases ba with _|⟨g,o,sp⟩
 .go_enter Tryz.func81,Tryz.ntmps81
  go_wp2_with (at_builtin;refine wpList_append_own_at _ rfl (.tmp 23) (.tmp 24) 34 (by rfl) base 75 i0 _ 6 96 Tryz.underlying34 hi0 hz0 hzs hzb rfl (by omega) _ n xs (by rfl) HO.out ⟨vb,0,none⟩ 1 1 vs (by rfl) (by omega) hnews h1v (by unfold maxLen;omega) (by omega) hB ?_;intro v' w1 hown' hgrow _ hat)
  exact HFIN.out _ _ hown' hgrow hat
 .obtain rfl:sp=none:=hsp _ rfl
  go_enter Tryz.func81,Tryz.ntmps81
  go_wp2_with (at_builtin;refine wpList_append_own_at _ rfl (.tmp 23) (.tmp 24) 34 (by rfl) base 75 i0 _ 6 96 Tryz.underlying34 hi0 hz0 hzs hzb rfl (by omega) _ n xs (by rfl) HO.out ⟨vb,0,none⟩ 1 1 vs (by rfl) (by omega) hnews h1v (by unfold maxLen;omega) (by omega) hB ?_;intro v' w1 hown' hgrow _ hat)
  all_goals exact HFIN.out _ _ hown' hgrow hat
set_option maxRecDepth 100000 in
theorem zq4 (w:World) (base g n c i vb:Nat) (cur:Array Value) (tv:TypeId) (vs:List Value) (xs:List Value) (hB:base<=w.heap.size) (hg:w.heap[g]? =some (.cells cur 75 (0,0))) (hcur:cur.size=c*6) (hi:i<n) (hnc:n<=c) (hroom:c<n+1) (hn:n+1<=1466015503701)
 (hvb:w.heap[vb]? =some (.cells vs.toArray tv (0,0))) (hvl:vs.length=6) (h1v:∀v ∈ vs,v.oneCell'=true) (hxs:cur.toList.take (n*6)=xs) (h1:∀v ∈ xs,v.oneCell'=true):
 uP 81 #[.slice (some ⟨g,0,none⟩) n c, .int .i64 (i:Int), .slice (some ⟨vb,0,none⟩) 1 1] w (RowPost w base 75 6 (.slice (some ⟨g,0,none⟩) n c) (n+1) (xs.take (i*6)++vs++xs.drop (i*6))):=by
 delta uP
 obtain ⟨i0,hi0,hz0,hzs,hzb⟩:=info_parts Yj
 have hsz:(Tryz.prog.info? 75).map (·.size)=some 6:=by rw [hi0];simp [hzs]
 have hcl:cur.toList.length=c*6:=by simpa using hcur
 have hxl:xs.length=n*6:=by rw [<-hxs,List.length_take,hcl];omega
 have hgw:g<w.heap.size:=(Array.getElem?_eq_some_iff.1 hg).1
 have hvw:vb<w.heap.size:=(Array.getElem?_eq_some_iff.1 hvb).1
 have hcell:∀j v,xs[j]? =some v->cur[j]? =some v:=fun j v hj=>by
  rw [<-hxs,List.getElem?_take] at hj
  split at hj
  .simpa using hj
  .cases hj
 have hold:(Builtin.firstCells i0.size i (.slice (some ⟨g,0,none⟩) i c)).run Tryz.prog w.drew= .ok (xs.take (i*6)).toArray w.drew:=by
  rw [hzs]
  exact run_firstCells_some w.drew 6 i ⟨g,0,none⟩ i c (xs.take (i*6)) (by rw [List.length_take];omega) (fun j v hj=>by
   rw [Addr.add_lit]
   rw [List.getElem?_take] at hj
   split at hj
   .have:=hcell j v hj
    simp only [World.cell?,show w.drew.heap=w.heap from rfl,hg];simpa using this
   .cases hj)
 have hkk:(n:Int)+(1:Int) - (i:Int)=((n+1 - i:Nat):Int):=by omega
 have hik:i+(n+1 - i)=n+1:=by omega
 obtain ⟨z,hzz⟩:∃z,i0.zero=some z/\z.cells.size=6:=⟨_,hz0,rfl⟩
 have hrz:∀ty,(Builtin.append_ #[34,3] ty #[.slice (some ⟨g,0,none⟩) i c, .int .i64 ((n:Int)+(1:Int) - (i:Int))]).run Tryz.prog w=
  .ok (.slice (some ⟨w.heap.size,0,none⟩) (n+1) (grownCap w (n+1) c 75)) (w.drew.alloc (.cells ((xs.take (i*6)).toArray++Builtin.zeroCells z.cells (n+1 - i)++Builtin.zeroCells z.cells (grownCap w (n+1) c 75 - (n+1))) 75)):=fun ty=>by
  have h:=Lib.run_append_grow_zeros w 34 3 ty 75 i0 _ .i64 .i64 Tryz.underlying34 Tryz.underlying3 hi0 hzz.1 (some ⟨g,0,none⟩) i c (xs.take (i*6)) hold (n+1 - i) (by omega) (by omega) (by omega) (by omega) (by rw [hzb];omega) (by rw [hzb,hik];exact growslice_fits hroom (by omega))
  rw [hik] at h
  rw [hkk]
  exact h
 obtain ⟨G,hG⟩:∃G,G=grownCap w (n+1) c 75:=⟨_,rfl⟩
 have hGn:n+1<=G:=by rw [hG];exact grownCap_ge w _ _ _
 have hGm:G<=maxLen:=by rw [hG];exact grownCap_le_maxLen w (n+1) c 75 (by unfold maxLen;omega)
 have hG63:G<=9223372036854775807:=by unfold maxLen at hGm;omega
 obtain ⟨ROW,hROW⟩:∃ROW:Array Value,ROW=(xs.take (i*6)).toArray++Builtin.zeroCells z.cells (n+1 - i)++Builtin.zeroCells z.cells (G - (n+1)):=⟨_,rfl⟩
 rw [<-hG] at hrz
 rw [<-hROW] at hrz
 have hRs:ROW.size=G*6:=by
  rw [hROW]
  simp only [Array.size_append,size_zeroCells,List.size_toArray,List.length_take,hxl,hzz.2]
  omega
 have hRt:ROW.toList.take (i*6)=xs.take (i*6):=by
  rw [hROW]
  simp only [Array.toList_append,List.append_assoc]
  rw [List.take_left' (by rw [List.length_take];omega)]
 obtain ⟨N,hN⟩:∃N,w.heap.size=N:=⟨_,rfl⟩
 rw [hN] at hrz hgw hvw hB
 have hcpA:∀W,W.heap[N]? =some (.cells ROW 75 (0,0))->W.heap[vb]? =some (.cells vs.toArray tv (0,0))->∀ty dc,(Builtin.copy_ #[34,34] ty #[.slice (some ⟨N,i*6,none⟩) (n+1 - i) dc, .slice (some ⟨vb,0,none⟩) 1 1]).run Tryz.prog W= .ok (goInt (1:Nat)) (W.setRow N (ROW.toList.take (i*6)++vs++ROW.toList.drop (i*6+vs.length)).toArray):=fun W hWg hWv ty dc=>
  X1 W _ _ ty 75 6 N (i*6) (n+1 - i) dc ⟨vb,0,none⟩ 1 1 ROW 75 vs Tryz.underlying34 hsz hWg 1 (by simp only [Nat.min_def];split<;>omega) (by omega)
   (fun j v hj=>by rw [Addr.add_lit];simp only [World.cell?,hWv];simpa using hj)
   (by omega) h1v
 obtain ⟨C1,hC1⟩:∃C1,C1=(ROW.toList.take (i*6)++vs++ROW.toList.drop (i*6+vs.length)).toArray:=⟨_,rfl⟩
 rw [<-hC1] at hcpA
 have hRl:ROW.toList.length=G*6:=by simpa using hRs
 have hC1s:C1.size=G*6:=by rw [hC1];simp only [List.size_toArray,List.length_append,List.length_take,List.length_drop,hRl];omega
 have hdl:(xs.drop (i*6)).length=(n - i)*6:=by rw [List.length_drop,hxl];omega
 have hcpB:∀W,W.heap[N]? =some (.cells C1 75 (0,0))->W.heap[g]? =some (.cells cur 75 (0,0))->∀ty dc sc,(Builtin.copy_ #[34,34] ty #[.slice (some ⟨N,(i+1)*6,none⟩) (n - i) dc, .slice (some ⟨g,i*6,none⟩) (n - i) sc]).run Tryz.prog W= .ok (goInt ((n - i:Nat))) (W.setRow N (C1.toList.take ((i+1)*6)++xs.drop (i*6)++C1.toList.drop ((i+1)*6+(xs.drop (i*6)).length)).toArray):=fun W hWn hWg ty dc sc=>
  X1 W _ _ ty 75 6 N ((i+1)*6) (n - i) dc ⟨g,i*6,none⟩ (n - i) sc C1 75 (xs.drop (i*6)) Tryz.underlying34 hsz hWn (n - i) (by simp only [Nat.min_def];split<;>omega) hdl
   (fun j v hj=>by
    rw [Addr.add_lit]
    simp only [World.cell?,hWg]
    rw [List.getElem?_drop] at hj
    have:=hcell _ v hj
    simpa using this)
   (by rw [hdl,hC1s];omega) (fun v hv=>h1 v (List.mem_of_mem_drop hv))
 have hfin:(C1.toList.take ((i+1)*6)++xs.drop (i*6)++C1.toList.drop ((i+1)*6+(xs.drop (i*6)).length)).take ((n+1)*6)=xs.take (i*6)++vs++xs.drop (i*6):=by
  have h:=zdo ROW.toList vs xs (i*6) (by omega) hRt (by omega)
  rw [hC1,show (i+1)*6=i*6+vs.length by omega,show (n+1)*6=xs.length+vs.length by omega]
  exact h
 have hfs:(C1.toList.take ((i+1)*6)++xs.drop (i*6)++C1.toList.drop ((i+1)*6+(xs.drop (i*6)).length)).toArray.size=G*6:=by
  have:C1.toList.length=G*6:=by simpa using hC1s
  simp only [List.size_toArray,List.length_append,List.length_take,this,hdl];rw [List.length_drop,this];omega
 have HF:=qh hfin;have HS:=qh hfs;have HL:=qh hxl;have HV:=qh hvl
 obtain ⟨R,hR⟩:∃R,RowPost w base 75 6 (.slice (some ⟨g,0,none⟩) n c) (n+1) (xs.take (i*6)++vs++xs.drop (i*6))=R:=⟨_,rfl⟩
 have HR:=qh hR
 rw [hR]
 have hz2:¬((i:Int)=(n:Int)):=by omega
 have hz3:(c:Int)<(n:Int)+(1:Int):=by omega
 have hw1:IntKind.i64.wrap ((i:Int)+(1:Int))=(i:Int)+(1:Int):=by rw [IntKind.wrap_i64];omega
 have hb1:(0:Int)<=(i:Int)+(1:Int):=by omega
 have hin:i<=n:=by omega
 have htn:((i:Int)+(1:Int)).toNat=i+1:=by omega
 have hb3:(i:Int)<=(n:Int):=by omega
 have hGi:¬(G=i):=by omega
 have hGim:¬(G=i+1):=by omega
 have hci:¬(c=i):=by omega
 have hc63:c<=9223372036854775807:=by omega
 have mixed:Tryz.prog.follows .mixedOrders=true:=by kernel_rfl
 have HN:=qh hN
 have ha1:(w.drew.alloc (.cells ROW 75)).heap[N]? =some (.cells ROW 75 (0,0)):=by rw [<-hN];exact heap_alloc_new w.drew _
 have ha2:(w.drew.alloc (.cells ROW 75)).heap[vb]? =some (.cells vs.toArray tv (0,0)):=(heap_alloc_old w.drew _ (by rw [<-hN] at hvw;exact hvw)).trans hvb
 have ha3:(w.drew.alloc (.cells ROW 75)).heap[g]? =some (.cells cur 75 (0,0)):=(heap_alloc_old w.drew _ (by rw [<-hN] at hgw;exact hgw)).trans hg
 have hW1:w.grownBy (w.drew.alloc (.cells ROW 75)) (some N):=⟨rfl,rfl,rfl,by simp,fun k hk hne=>heap_alloc_old w.drew _ hk⟩
 obtain ⟨W1,hW⟩:∃W1,w.drew.alloc (.cells ROW 75)=W1:=⟨_,rfl⟩
 rw [hW] at hrz ha1 ha2 ha3 hW1
 have hb1':(W1.setRow N C1).heap[N]? =some (.cells C1 75 (0,0)):=setRow_heap W1 N ROW C1 75 (0,0) ha1
 have hb3':(W1.setRow N C1).heap[g]? =some (.cells cur 75 (0,0)):=(setRow_other W1 N g C1 (by omega)).trans ha3
 have HW1:=qh hW1;have HB1:=qh hb1';have HB3:=qh hb3'
 clear hkk hik hold hROW hG hRl hRs hRt hC1 hC1s hR hfin hfs hdl hxl hcl hvl hN hcell hzz ha3 hW1 hb1' hb3' hW hxs
 go_enter Tryz.func81,Tryz.ntmps81
 go_wp2_with (at_builtin;refine Lib.wpList_append_run _ rfl _ _ _ _ rfl _ _ rfl rfl _ _ (hrz _) ?_)
 go_region_law_o (refine step_copy_runI rfl _ _ 34 34 rfl (.slice (some ⟨N,(i+1)*6,none⟩) (n - i) (G - (i+1))) (.slice (some ⟨g,i*6,none⟩) (n - i) (c - i)) (by simp [Act.eval,Act.put]) (by simp [Act.eval,Act.put]) (hcpB (W1.setRow N C1).drew HB1.out HB3.out _ _ _) ?_)
 go_wp2_with fail
 rw [<-HR.out, <-List.append_assoc]
 exact ⟨_,rfl,⟨by simp only [List.length_append,List.length_take,List.length_drop,HL.out,HV.out];omega, .inr ⟨N,G,_,rfl,hB,setRow_heap (W1.setRow N C1).drew N C1 _ 75 (0,0) HB1.out,hGn,hGm,by have h:=HS.out;rwa [List.length_drop] at h,by have h:=HF.out;rwa [List.length_drop] at h⟩⟩,
  ⟨HW1.out.os,HW1.out.tape,HW1.out.output,by simpa using HW1.out.size,fun k hk hne=>(setRow_other _ N k _ (by rw [HN.out] at hk;omega)).trans ((setRow_other W1 N k _ (by rw [HN.out] at hk;omega)).trans (HW1.out.block k hk (by rw [HN.out] at hk;simp;omega)))⟩, .inr (by rw [HN.out];rfl)⟩
theorem zhq (w:World) (base n i vb:Nat) (tv:TypeId) (u:Value) (vs:List Value) (xs:List Value) (hown:w.ownsRow base 75 6 u n xs) (hB:base<=w.heap.size) (hi:i<=n) (hn:n+1<=1466015503701)
 (hvb:w.heap[vb]? =some (.cells vs.toArray tv (0,0))) (hne:u.ownBlock≠some vb) (hvl:vs.length=6) (h1v:∀v ∈ vs,v.oneCell'=true) (h1:∀v ∈ xs,v.oneCell'=true):
 uP 81 #[u, .int .i64 (i:Int), .slice (some ⟨vb,0,none⟩) 1 1] w (RowPost w base 75 6 u (n+1) (xs.take (i*6)++vs++xs.drop (i*6))):=by
 delta uP
 by_cases h:i=n
 .subst h
  exact zm7 w base i vb tv u vs xs hown hB hn hvb hvl h1v
 .rcases hown.2 with ⟨rfl,h0⟩|⟨g,c,cur,rfl,hbg,hg,hnc,hcm,hcs,htk⟩
  .omega
  .by_cases hroom:n+1<=c
   .exact zk6 w base g n c i vb cur tv vs xs hbg hg hcs (by omega) hroom hcm hvb (fun e=>hne (by rw [e];rfl)) hvl h1v htk h1
   .exact zq4 w base g n c i vb cur tv vs xs hB hg hcs (by omega) hnc (by omega) hn hvb hvl h1v htk h1
theorem zpg {z:Array Value} (hz:0<z.size) (h:∀k,k<z.size->(z[k]!).oneCell'=true) (n:Nat):∀v ∈ (Builtin.zeroCells z n).toList,v.oneCell'=true:=by
 intro v hv
 simp only [Builtin.zeroCells,Array.toList_map,List.mem_map] at hv
 obtain ⟨k,_,rfl⟩:=hv
 exact h _ (Nat.mod_lt _ hz)
theorem zdm {α:Type} (L zs M:List α) (p q r:Nat) (hp:p<=q) (hq:q<=r) (hr:r<=L.length):
 (((L.take p++(L.take r).drop q++L.drop (p+((L.take r).drop q).length)).take (p+(r - q))++zs++M).take (p+(r - q)))=(L.take r).take p++(L.take r).drop q:=by
 have h1:(L.take p++(L.take r).drop q++L.drop (p+((L.take r).drop q).length)).take (p+(r - q))=L.take p++(L.take r).drop q:=by
  rw [List.take_left' (by simp;omega)]
 rw [h1,List.append_assoc,List.take_left' (by simp;omega),List.take_take,Nat.min_eq_left (by omega)]
theorem zcc {P:Program} {ops:Array Oper} {o:Oper} {a:Act} {w:World} {K:Act->World->Prop} {Q:Exit->Act->World->Prop} {E:Prop}
 (hg:o.guard=none) (s x:Operand) (t:TypeId) (hop:o.op=Op.call { callee:=Callee.builtin Builtin.append,args:= #[s,x],argTypes:= #[t,t] })
 (v u:Value) (hs:a.eval s=v) (hx:a.eval x=u) {v':Value} {w':World} (hr:(Builtin.append_ #[t,t] o.type #[v,u]).run P w= .ok v' w') (hK:K (a.put o.dst v') w'):
 if Region.wanted o (yielded ops a.tmps)=true then Oper.wp P o a w K Q else E:=by
 have hw:Region.wanted o (yielded ops a.tmps)=true:=by simp [Region.wanted,hg]
 rw [if_pos hw]
 unfold Oper.wp
 simp [execOp,hop,resolve,invoke,builtin,hs,hx,hr,Result.andThen]
 exact hK
theorem zc4 {P:Program} (w:World) (t e ty:TypeId) (z:Value) (ht:P.underlying t=some (.slice e)) (hv:∀w,(zeroValue e).run P w= .ok z w) (g o n c:Nat) (cur:Array Value) (tc:TypeId) (hn:0<n) (hg:w.heap[g]? =some (.cells cur tc (0,0)))
 (hz:0<z.cells.size) (h1:∀k,k<z.cells.size->(z.cells[k]!).oneCell'=true) (hfit:o+n*z.cells.size<=cur.size):
 (Builtin.clear_ #[t] ty #[.slice (some ⟨g,o,none⟩) n c]).run P w= .ok (.tuple #[]) (w.setRow g (cur.toList.take o++(Builtin.zeroCells z.cells n).toList++cur.toList.drop (o+(Builtin.zeroCells z.cells n).toList.length)).toArray):=by
 have hst:=run_storeCells_at P g o tc (Builtin.zeroCells z.cells n).toList 0 cur w hg (by rw [Array.length_toList,size_zeroCells];simpa using hfit) (zpg hz h1 n)
 simp only [Nat.add_zero] at hst
 obtain ⟨m,rfl⟩:∃m,n=m+1:=⟨n - 1,by omega⟩
 simp [Builtin.clear_,run_underlying ht,hv,hst]
end Go.Proofs.YtnjgbiachcfigaaGreatDoor
