/-
  Contracts of the functions that the law reaches: path.Get and path.Put (the program's).
-/
import Derived.Test.YtnjgbiachcfigaaGreatDoorCt15
namespace Go.Proofs.YtnjgbiachcfigaaGreatDoor
open Go.RowKit
set_option maxHeartbeats 16000000
theorem Ks {w:World} {b:Nat} {c:VC} (h:BC w b (vcells c)):ValAt w b 0 c:=⟨h.at_ 0 _ rfl,h.at_ 1 _ rfl,h.at_ 2 _ rfl,h.at_ 3 _ rfl,h.at_ 4 _ rfl⟩
theorem Jo (W:World) (b o:Nat) (d:VC):(setV W b o d).heap.size=W.heap.size:=by simp [setV]
def PGetPost (w:World) (v:V) (p:List St) (e:Ending) (w':World):Prop:=
 Below w.heap.size w w'/\((e= .returned (.tuple #[.agg #[.int .u8 0, .int .i64 0, .string { data:= #[] }, .slice none 0 0, .slice none 0 0], .int .u16 30])/\getP v p=none)∨∃(x:V) (d:VC),e= .returned (.tuple #[.agg #[.int .u8 d.k, .int .i64 d.n, .string d.s, .slice d.la d.ll d.lc, .slice d.oa d.ol d.oc], .int .u16 0])/\getP v p=some x/\Whole w' w.heap.size x d)
theorem Kp {tmps:Array Value} {W:World} {b:Nat} {c:VC} {x:Value} (ht:tmps[4]? =some (.pointer (some ⟨b,0,none⟩))) (hx:tmps[5]? =some x) (h:BC W b (vcells c)):
 (results Tryz.f42 tmps).run Tryz.prog W= .ok (.tuple #[.agg #[.int .u8 c.k, .int .i64 c.n, .string c.s, .slice c.la c.ll c.lc, .slice c.oa c.ol c.oc],x]) W:=by
 obtain ⟨r0,r1,r2,r3,r4⟩:=row5 h.at_
 simp [results,Tryz.results42,go_sem,ht,hx,r0,r1,r2,r3,r4]
structure PG3 (w W:World) (c d:VC):Prop where
 a:BC W w.heap.size (vcells c)
 r:BC W (w.heap.size+1) (vcells vzero)
 o:BC W (w.heap.size+2) (vcells d)
 below:Below w.heap.size w W
theorem PG3.keep {w W W':World} {c d:VC} (h:PG3 w W c d) (hb:Below W.heap.size W W'):PG3 w W' c d:=⟨h.a.keep hb h.a.lt,h.r.keep hb h.r.lt,h.o.keep hb h.o.lt,h.below.trans (hb.mono h.below.size)⟩
theorem PG3.start (w:World) (c:VC):PG3 w (((w.alloc (.cells #[.int .u8 c.k, .int .i64 c.n, .string c.s, .slice c.la c.ll c.lc, .slice c.oa c.ol c.oc] 36)).alloc (.cells #[.int .u8 0, .int .i64 0, .string { data:= #[] }, .slice none 0 0, .slice none 0 0] 36)).alloc (.cells #[.int .u8 0, .int .i64 0, .string { data:= #[] }, .slice none 0 0, .slice none 0 0] 36)) c vzero:=by
 have b1:Below w.heap.size w (w.alloc (.cells #[.int .u8 c.k, .int .i64 c.n, .string c.s, .slice c.la c.ll c.lc, .slice c.oa c.ol c.oc] 36)):=(Below.refl _ _).alloc (Nat.le_refl _) _
 have x1:BC (w.alloc (.cells #[.int .u8 c.k, .int .i64 c.n, .string c.s, .slice c.la c.ll c.lc, .slice c.oa c.ol c.oc] 36)) w.heap.size (vcells c):=BC.start w #[.int .u8 c.k, .int .i64 c.n, .string c.s, .slice c.la c.ll c.lc, .slice c.oa c.ol c.oc] 36
 have s1:(w.alloc (.cells #[.int .u8 c.k, .int .i64 c.n, .string c.s, .slice c.la c.ll c.lc, .slice c.oa c.ol c.oc] 36)).heap.size=w.heap.size+1:=World.size_alloc ..
 generalize w.alloc (.cells #[.int .u8 c.k, .int .i64 c.n, .string c.s, .slice c.la c.ll c.lc, .slice c.oa c.ol c.oc] 36)=w1 at b1 x1 s1 ⊢
 have b2:Below w1.heap.size w1 (w1.alloc (.cells #[.int .u8 0, .int .i64 0, .string { data:= #[] }, .slice none 0 0, .slice none 0 0] 36)):=(Below.refl _ _).alloc (Nat.le_refl _) _
 have x2:BC (w1.alloc (.cells #[.int .u8 0, .int .i64 0, .string { data:= #[] }, .slice none 0 0, .slice none 0 0] 36)) w1.heap.size (vcells vzero):=BC.start w1 #[.int .u8 0, .int .i64 0, .string { data:= #[] }, .slice none 0 0, .slice none 0 0] 36
 have s2:(w1.alloc (.cells #[.int .u8 0, .int .i64 0, .string { data:= #[] }, .slice none 0 0, .slice none 0 0] 36)).heap.size=w1.heap.size+1:=World.size_alloc ..
 have x12:=x1.keep b2 x1.lt
 generalize w1.alloc (.cells #[.int .u8 0, .int .i64 0, .string { data:= #[] }, .slice none 0 0, .slice none 0 0] 36)=w2 at b2 x2 s2 x12 ⊢
 have b3:Below w2.heap.size w2 (w2.alloc (.cells #[.int .u8 0, .int .i64 0, .string { data:= #[] }, .slice none 0 0, .slice none 0 0] 36)):=(Below.refl _ _).alloc (Nat.le_refl _) _
 have x3:BC (w2.alloc (.cells #[.int .u8 0, .int .i64 0, .string { data:= #[] }, .slice none 0 0, .slice none 0 0] 36)) w2.heap.size (vcells vzero):=BC.start w2 #[.int .u8 0, .int .i64 0, .string { data:= #[] }, .slice none 0 0, .slice none 0 0] 36
 have x13:=x12.keep b3 x12.lt
 have x23:=x2.keep b3 x2.lt
 rw [s1] at x23
 rw [s2,s1] at x3
 exact ⟨x13,x23,x3,(b1.trans (b2.mono (by omega))).trans (b3.mono (by omega))⟩
set_option maxRecDepth 100000 in
theorem Qj (w:World) (v:V) (c:VC) (p:List St) (pa:Option Addr) (pl pc:Nat) (hI:IsVal w w.heap.size v c) (hp:IsSteps w w.heap.size p pa pl pc):
 Calls Tryz.prog 42 #[.agg #[.int .u8 c.k, .int .i64 c.n, .string c.s, .slice c.la c.ll c.lc, .slice c.oa c.ol c.oc], .slice pa pl pc] w (PGetPost w v p):=by
 have HB:=qh (PG3.start w c)
 have HI:=qh hI;have HP:=qh hp
 clear hI hp
 go_enter Tryz.func42,Tryz.ntmps42
 generalize hQ0:bodyPost _ _ _=Q0
 have HQ:=qh hQ0
 clear hQ0
 go_upto_region 2 with fail
 have HBB:=HB.out
 generalize World.alloc _ _=w3 at HBB ⊢
 have HB3:=qh HBB
 have HC:Hid (Calls Tryz.prog 76 #[.pointer (some ⟨w.heap.size,0,none⟩), .slice pa pl pc, .func (.func 77) #[] #[.pointer (some ⟨w.heap.size+2,0,none⟩)]] w3 fun e w'=>(e= .returned (.int .u16 30)/\getP v p=none/\Below w3.heap.size w3 w')∨(e= .returned (.int .u16 0)/\∃W b1 o1 x cx,Below w3.heap.size w3 W/\Spot w3 w.heap.size 0 v p b1 o1 x cx/\(∃(w4:World) (d:VC),Whole w4 W.heap.size x d/\Below W.heap.size W w4/\w'=setV w4 (w.heap.size+2) 0 d))):=
  zko w3 w.heap.size 0 v c p pa pl pc (Ks HBB.a) (HI.out.later_ HBB.below) (HP.out.later_ HBB.below) _ (fun W b1 o1 x cx w'=>∃(w4:World) (d:VC),Whole w4 W.heap.size x d/\Below W.heap.size W w4/\w'=setV w4 (w.heap.size+2) 0 d)
   (fun W b1 o1 x cx hW hS=>zke W b1 o1 x cx ⟨Zb hW hS.at_.c0 hS.lt,Zb hW hS.at_.c1 hS.lt,Zb hW hS.at_.c2 hS.lt,Zb hW hS.at_.c3 hS.lt,Zb hW hS.at_.c4 hS.lt⟩ (hS.val.later_ hW) (w.heap.size+2) vzero (HB3.out.o.keep hW HB3.out.o.lt))
 clear HBB HB
 go_wp2_with fail
 refine HC.out.mono ?_
 rintro e w5 (⟨rfl,hno,hb5⟩|⟨rfl,W,b1,o1,x,cx,hW,hS,w4,d,hwh,hb4,rfl⟩)
 .have hK:=HB3.out.keep hb5
  obtain ⟨y0,y1,y2,y3,y4⟩:=row5 hK.o.at_
  obtain ⟨r0,r1,r2,r3,r4⟩:=row5 hK.r.at_
  have f0:=hK.r.fr 0;have f1:=hK.r.fr 1;have f2:=hK.r.fr 2;have f3:=hK.r.fr 3;have f4:=hK.r.fr 4
  have zo:=hK.o.lt;have zr:=hK.r.lt
  have HK:=qh hK;have HNO:=qh hno
  clear hK hno hb5
  go_wp2_with fail
  rw [<-HQ.out]
  have st:=Zi w5 (w.heap.size+1) 0 vzero
  exact ⟨rfl,_,Kp rfl rfl (Zz HK.out.r vzero),HK.out.below.trans (st.lowC (by omega) HK.out.below.size), .inl ⟨rfl,HNO.out⟩⟩
 .have hK:=(HB3.out.keep hW).keep hb4
  have st:=Zi w4 (w.heap.size+2) 0 d
  have ho:=Zz hK.o d
  have hr:=hK.r.next st (by omega)
  have hw5:Whole (setV w4 (w.heap.size+2) 0 d) W.heap.size x d:=hwh.beside st (by have:=HB3.out.o.lt;have:=hW.size;omega) (Jo _ _ _ _)
  have hb5:Below w.heap.size w (setV w4 (w.heap.size+2) 0 d):=hK.below.trans (st.lowC (by omega) hK.below.size)
  have hz5:w.heap.size+2<W.heap.size:=by have:=HB3.out.o.lt;have:=hW.size;omega
  have HGP:=qh hS.way.get
  obtain ⟨w6,hw6⟩:∃w6,setV w4 (w.heap.size+2) 0 d=w6:=⟨_,rfl⟩
  rw [hw6] at ho hr hw5 hb5 ⊢
  obtain ⟨y0,y1,y2,y3,y4⟩:=row5 ho.at_
  obtain ⟨r0,r1,r2,r3,r4⟩:=row5 hr.at_
  have f0:=hr.fr 0;have f1:=hr.fr 1;have f2:=hr.fr 2;have f3:=hr.fr 3;have f4:=hr.fr 4
  have zo:=ho.lt;have zr:=hr.lt
  have HR:=qh hr;have HW:=qh hw5;have HB5:=qh hb5
  clear hK st ho hr hw5 hb5 hw6 hwh hb4 hW hS
  go_wp2_with fail
  rw [<-HQ.out]
  have st:=Zi w6 (w.heap.size+1) 0 d
  exact ⟨rfl,_,Kp rfl rfl (Zz HR.out d),HB5.out.trans (st.lowC (by omega) HB5.out.size), .inr ⟨x,d,rfl,HGP.out,((HW.out.beside st (by omega) (Jo _ _ _ _)).low (by omega))⟩⟩
def PPutPost (w:World) (v:V) (p:List St) (x:V) (e:Ending) (w':World):Prop:=
 Below w.heap.size w w'/\((e= .returned (.tuple #[.agg #[.int .u8 0, .int .i64 0, .string { data:= #[] }, .slice none 0 0, .slice none 0 0], .int .u16 30])/\getP v p=none)∨∃(z:V) (d:VC),e= .returned (.tuple #[.agg #[.int .u8 d.k, .int .i64 d.n, .string d.s, .slice d.la d.ll d.lc, .slice d.oa d.ol d.oc], .int .u16 0])/\putP v p x=some z/\IsVal (only (fun b=>w.heap.size<=b) w') w'.heap.size z d)
theorem zbm {tmps:Array Value} {W:World} {b:Nat} {c:VC} {x:Value} (ht:tmps[6]? =some (.pointer (some ⟨b,0,none⟩))) (hx:tmps[7]? =some x) (h:BC W b (vcells c)):
 (results Tryz.f47 tmps).run Tryz.prog W= .ok (.tuple #[.agg #[.int .u8 c.k, .int .i64 c.n, .string c.s, .slice c.la c.ll c.lc, .slice c.oa c.ol c.oc],x]) W:=by
 obtain ⟨r0,r1,r2,r3,r4⟩:=row5 h.at_
 simp [results,Tryz.results47,go_sem,ht,hx,r0,r1,r2,r3,r4]
structure PP3 (w W:World) (c y:VC):Prop where
 a:BC W w.heap.size (vcells c)
 x:BC W (w.heap.size+1) (vcells y)
 r:BC W (w.heap.size+2) (vcells vzero)
 below:Below w.heap.size w W
theorem PP3.keep {w W W':World} {c d:VC} (h:PP3 w W c d) (hb:Below W.heap.size W W'):PP3 w W' c d:=⟨h.a.keep hb h.a.lt,h.x.keep hb h.x.lt,h.r.keep hb h.r.lt,h.below.trans (hb.mono h.below.size)⟩
theorem PP3.start (w:World) (c y:VC):PP3 w (((w.alloc (.cells #[.int .u8 c.k, .int .i64 c.n, .string c.s, .slice c.la c.ll c.lc, .slice c.oa c.ol c.oc] 36)).alloc (.cells #[.int .u8 y.k, .int .i64 y.n, .string y.s, .slice y.la y.ll y.lc, .slice y.oa y.ol y.oc] 36)).alloc (.cells #[.int .u8 0, .int .i64 0, .string { data:= #[] }, .slice none 0 0, .slice none 0 0] 36)) c y:=by
 have b1:Below w.heap.size w (w.alloc (.cells #[.int .u8 c.k, .int .i64 c.n, .string c.s, .slice c.la c.ll c.lc, .slice c.oa c.ol c.oc] 36)):=(Below.refl _ _).alloc (Nat.le_refl _) _
 have x1:BC (w.alloc (.cells #[.int .u8 c.k, .int .i64 c.n, .string c.s, .slice c.la c.ll c.lc, .slice c.oa c.ol c.oc] 36)) w.heap.size (vcells c):=BC.start w #[.int .u8 c.k, .int .i64 c.n, .string c.s, .slice c.la c.ll c.lc, .slice c.oa c.ol c.oc] 36
 have s1:(w.alloc (.cells #[.int .u8 c.k, .int .i64 c.n, .string c.s, .slice c.la c.ll c.lc, .slice c.oa c.ol c.oc] 36)).heap.size=w.heap.size+1:=World.size_alloc ..
 generalize w.alloc (.cells #[.int .u8 c.k, .int .i64 c.n, .string c.s, .slice c.la c.ll c.lc, .slice c.oa c.ol c.oc] 36)=w1 at b1 x1 s1 ⊢
 have b2:Below w1.heap.size w1 (w1.alloc (.cells #[.int .u8 y.k, .int .i64 y.n, .string y.s, .slice y.la y.ll y.lc, .slice y.oa y.ol y.oc] 36)):=(Below.refl _ _).alloc (Nat.le_refl _) _
 have x2:BC (w1.alloc (.cells #[.int .u8 y.k, .int .i64 y.n, .string y.s, .slice y.la y.ll y.lc, .slice y.oa y.ol y.oc] 36)) w1.heap.size (vcells y):=BC.start w1 #[.int .u8 y.k, .int .i64 y.n, .string y.s, .slice y.la y.ll y.lc, .slice y.oa y.ol y.oc] 36
 have s2:(w1.alloc (.cells #[.int .u8 y.k, .int .i64 y.n, .string y.s, .slice y.la y.ll y.lc, .slice y.oa y.ol y.oc] 36)).heap.size=w1.heap.size+1:=World.size_alloc ..
 have x12:=x1.keep b2 x1.lt
 generalize w1.alloc (.cells #[.int .u8 y.k, .int .i64 y.n, .string y.s, .slice y.la y.ll y.lc, .slice y.oa y.ol y.oc] 36)=w2 at b2 x2 s2 x12 ⊢
 have b3:Below w2.heap.size w2 (w2.alloc (.cells #[.int .u8 0, .int .i64 0, .string { data:= #[] }, .slice none 0 0, .slice none 0 0] 36)):=(Below.refl _ _).alloc (Nat.le_refl _) _
 have x3:BC (w2.alloc (.cells #[.int .u8 0, .int .i64 0, .string { data:= #[] }, .slice none 0 0, .slice none 0 0] 36)) w2.heap.size (vcells vzero):=BC.start w2 #[.int .u8 0, .int .i64 0, .string { data:= #[] }, .slice none 0 0, .slice none 0 0] 36
 have x13:=x12.keep b3 x12.lt
 have x23:=x2.keep b3 x2.lt
 rw [s1] at x23
 rw [s2,s1] at x3
 exact ⟨x13,x23,x3,(b1.trans (b2.mono (by omega))).trans (b3.mono (by omega))⟩
theorem zjf {W:World} {b o:Nat} {d:VC} {k q:Nat} (h:¬(k=b/\o<=q/\q<o+5)):(setV W b o d).cell? ⟨k,q,none⟩=W.cell? ⟨k,q,none⟩:=by
 have hs:∀(W:World) (j:Nat) (x:Value),o<=j->j<o+5->(W.setCell ⟨b,j,none⟩ x).cell? ⟨k,q,none⟩=W.cell? ⟨k,q,none⟩:=fun W j x h1 h2=>World.cell?_setCell_other _ _ _ _ (by
  intro e
  injection e with e1 e2
  exact h ⟨e1.symm,by omega,by omega⟩)
 unfold setV
 rw [hs _ _ _ (by omega) (by omega),hs _ _ _ (by omega) (by omega),hs _ _ _ (by omega) (by omega),hs _ _ _ (by omega) (by omega),hs _ _ _ (by omega) (by omega)]
theorem zga {W:World} {b o:Nat} {c0:VC} (h:ValAt W b o c0) (d:VC):ValAt (setV W b o d) b o d:=by
 have g0:=h.c0;have g1:=h.c1;have g2:=h.c2;have g3:=h.c3;have g4:=h.c4
 unfold setV
 constructor<;>simp [go_sem,g0,g1,g2,g3,g4]
theorem zjz {W1 W w5:World} {S:Nat->Prop} {v x y:V} {ob:Nat} {d0 cx d:VC} {p:List St} {b1 o1:Nat} (hS:SepAt W1 S v ob 0 d0) (hobw:ob<W1.heap.size) (hsp:Spot W1 ob 0 v p b1 o1 x cx) (hW:Below W1.heap.size W1 W) (h5:Below W.heap.size W w5) (hy:Whole w5 W.heap.size y d):
 ∃z cz S2,putP v p y=some z/\SepAt (setV w5 b1 o1 d) S2 z ob 0 cz/\(∀k,S2 k->S k∨W.heap.size<=k)/\(b1=ob∨S b1):=by
 obtain ⟨b',o',Sx,cx',h1,h2,h3,h4,h6⟩:=zag p hS hsp.way.get
 obtain ⟨rfl,rfl,_⟩:=hsp.way.one h2
 have hb1:=hsp.lt
 have hWs:=hW.size;have h5s:=h5.size
 have st:=Zi w5 b1 o1 d
 obtain ⟨S',g1,g2,g3⟩:=(hy.beside st (by omega) (Jo _ _ _ _)).sepI
 have hva:ValAt w5 b1 o1 cx:=by
  have e:∀q u,W1.cell? ⟨b1,q,none⟩=some u->w5.cell? ⟨b1,q,none⟩=some u:=fun q u hu=>Zb h5 (Zb hW hu hb1) (by omega)
  exact ⟨e _ _ hsp.at_.c0,e _ _ hsp.at_.c1,e _ _ hsp.at_.c2,e _ _ hsp.at_.c3,e _ _ hsp.at_.c4⟩
 obtain ⟨z,cz,hz1,hz2⟩:=h6 (setV w5 b1 o1 d) S' y d (by rw [Jo];omega) (fun k q hk hn=>by
  have hkl:k<W1.heap.size:=by
   rcases hk with hk|rfl
   .exact hS.sep.bnd k hk
   .exact hobw
  rw [zjf hn]
  exact World.cell?_of_block ((h5.block k (by omega)).trans (hW.block k hkl))) ⟨zga hva d,g3,fun e=>by have:=(g1 _ e).1;omega⟩ (fun k hk=>⟨fun e=>by have h7:=hS.sep.bnd k e;have h8:=(g1 k hk).1;omega,fun e=>by have h8:=(g1 k hk).1;omega⟩)
 exact ⟨z,cz,_,hz1,hz2,fun k hk=>hk.imp (fun h=>h) (fun h=>(g1 k h).1),h3.imp (fun h=>h.1) (fun h=>h)⟩
theorem zij {W1:World} {S:Nat->Prop} {v x:V} {ob:Nat} {d0 cx:VC} {p:List St} {b1 o1:Nat} (hS:SepAt W1 S v ob 0 d0) (hf:Soft W1 S) (hob:∀q,W1.frozen? ⟨ob,q,none⟩=false) (hsp:Spot W1 ob 0 v p b1 o1 x cx) (q:Nat):W1.frozen? ⟨b1,q,none⟩=false:=by
 obtain ⟨b',o',Sx,cx',h1,h2,h3,_⟩:=zag p hS hsp.way.get
 obtain ⟨rfl,rfl,_⟩:=hsp.way.one h2
 rcases h3 with ⟨rfl,_⟩|h3
 .exact hob q
 .exact hf _ q h3
set_option maxRecDepth 100000 in
theorem Jg (w:World) (v y:V) (c cy:VC) (p:List St) (pa:Option Addr) (pl pc:Nat) (hI:IsVal w w.heap.size v c) (hp:IsSteps w w.heap.size p pa pl pc) (hy:IsVal w w.heap.size y cy):
 Calls Tryz.prog 47 #[.agg #[.int .u8 c.k, .int .i64 c.n, .string c.s, .slice c.la c.ll c.lc, .slice c.oa c.ol c.oc], .slice pa pl pc, .agg #[.int .u8 cy.k, .int .i64 cy.n, .string cy.s, .slice cy.la cy.ll cy.lc, .slice cy.oa cy.ol cy.oc]] w (PPutPost w v p y):=by
 have HB:=qh (PP3.start w c cy)
 have HI:=qh hI;have HP:=qh hp;have HY:=qh hy
 clear hI hp hy
 go_enter Tryz.func47,Tryz.ntmps47
 generalize hQ0:bodyPost _ _ _=Q0
 have HQ:=qh hQ0
 clear hQ0
 go_upto_region 1 with fail
 have HBB:=HB.out
 generalize World.alloc _ _=w3 at HBB ⊢
 have HB3:=qh HBB
 obtain ⟨y0,y1,y2,y3,y4⟩:=row5 HBB.a.at_
 have za:=HBB.a.lt;have zx:=HBB.x.lt;have zr:=HBB.r.lt
 have HC:=qh (Y2 w3 v c (HI.out.later_ HBB.below))
 clear HBB HB
 go_wp2_with fail
 refine HC.out.mono ?_
 rintro e w4 ⟨⟨d0,rfl,hwh⟩,hb4⟩
 have HW4:=qh hwh;have HB4:=qh hb4
 clear hwh hb4 y0 y1 y2 y3 y4 HC
 go_upto_region 2 with fail
 have hn:=BC.start w4 #[.int .u8 d0.k, .int .i64 d0.n, .string d0.s, .slice d0.la d0.ll d0.lc, .slice d0.oa d0.ol d0.oc] 36
 have hbn:Below w4.heap.size w4 (w4.alloc (.cells #[.int .u8 d0.k, .int .i64 d0.n, .string d0.s, .slice d0.la d0.ll d0.lc, .slice d0.oa d0.ol d0.oc] 36)):=(Below.refl _ _).alloc (Nat.le_refl _) _
 generalize World.alloc _ _=W1 at hn hbn ⊢
 obtain ⟨S,i1,i2,i3⟩:=HW4.out.sepI
 have hz4:=HB4.out.size
 have hSA:SepAt W1 S v w4.heap.size 0 d0:=⟨Ks hn,i3.keep hbn.size fun k q hk=>World.cell?_of_block (hbn.block k (i1 k hk).2),fun e=>by have:=(i1 _ e).2;omega⟩
 have hsf:Soft W1 S:=fun k q hk=>by rw [Yj (hbn.block k (i1 k hk).2)];exact i2 k q hk
 have hlow:∀k,S k->w3.heap.size<=k/\k<w4.heap.size:=i1
 have h31:Below w3.heap.size w3 W1:=HB4.out.trans (hbn.mono hz4)
 have hK1:=HB3.out.keep h31
 have HSA:=qh hSA;have HSF:=qh hsf;have HLO:=qh hlow;have HN:=qh hn;have HK1:=qh hK1;have HBN:=qh hbn
 have HD:Hid (Calls Tryz.prog 76 #[.pointer (some ⟨w4.heap.size,0,none⟩), .slice pa pl pc, .func (.func 84) #[] #[.pointer (some ⟨w.heap.size+1,0,none⟩)]] W1 fun e w'=>(e= .returned (.int .u16 30)/\getP v p=none/\Below W1.heap.size W1 w')∨(e= .returned (.int .u16 0)/\∃W b1 o1 x cx,Below W1.heap.size W1 W/\Spot W1 w4.heap.size 0 v p b1 o1 x cx/\(∃(w5:World) (d:VC),Whole w5 W.heap.size y d/\Below W.heap.size W w5/\w'=setV w5 b1 o1 d))):=
  zec W1 w4.heap.size 0 v d0 p pa pl pc hSA.at_ (zaa hSA.sep) (HP.out.later_ hK1.below) _ (fun W b1 o1 _ _ w'=>∃(w5:World) (d:VC),Whole w5 W.heap.size y d/\Below W.heap.size W w5/\w'=setV w5 b1 o1 d)
   (fun W b1 o1 x cx hW hS=>ze1 W b1 o1 cx ⟨Zb hW hS.at_.c0 hS.lt,Zb hW hS.at_.c1 hS.lt,Zb hW hS.at_.c2 hS.lt,Zb hW hS.at_.c3 hS.lt,Zb hW hS.at_.c4 hS.lt⟩ (fun q=>by rw [Yj (hW.block b1 hS.lt)];exact zij HSA.out HSF.out HN.out.fr hS q) (w.heap.size+1) y cy (HK1.out.x.keep hW HK1.out.x.lt) (HY.out.later_ (HK1.out.below.trans (hW.mono HK1.out.below.size))))
 have hz1:W1.heap.size=w4.heap.size+1∨w4.heap.size<W1.heap.size:= .inr hn.lt
 clear hn hbn hSA hsf hlow h31 hK1 i1 i2 i3 hz1
 go_wp2_with fail
 refine HD.out.mono ?_
 rintro e w6 (⟨rfl,hno,hb6⟩|⟨rfl,W,b1,o1,x,cx,hW,hS,w5,d,hwh,hb5,rfl⟩)
 .have hK:=HK1.out.keep hb6
  obtain ⟨r0,r1,r2,r3,r4⟩:=row5 hK.r.at_
  have f0:=hK.r.fr 0;have f1:=hK.r.fr 1;have f2:=hK.r.fr 2;have f3:=hK.r.fr 3;have f4:=hK.r.fr 4
  have zr6:=hK.r.lt
  have HK:=qh hK;have HNO:=qh hno
  clear hK hno hb6
  go_wp2_with fail
  rw [<-HQ.out]
  have st:=Zi w6 (w.heap.size+2) 0 vzero
  exact ⟨rfl,_,zbm rfl rfl (Zz HK.out.r vzero),HK.out.below.trans (st.lowC (by omega) HK.out.below.size), .inl ⟨rfl,HNO.out⟩⟩
 .obtain ⟨z,cz,S2,hz1,hz2,hz3,hz4'⟩:=zjz HSA.out HN.out.lt hS hW hb5 hwh
  have hz0:w.heap.size+3<=w3.heap.size:=by omega
  have hb1:w3.heap.size<=b1:=by
   rcases hz4' with rfl|h
   .exact hz4
   .exact (HLO.out _ h).1
  have hK:=(HK1.out.keep hW).keep hb5
  have st:=Zi w5 b1 o1 d
  have hr:=hK.r.next st (by omega)
  have hWz:=hW.size
  have hN1:=HN.out.lt
  have hlo2:∀k,S2 k->w.heap.size+3<=k:=fun k hk=>by
   rcases hz3 k hk with h|h
   .have:=(HLO.out k h).1;omega
   .omega
  have hb6:Below w.heap.size w (setV w5 b1 o1 d):=hK.below.trans (st.lowC (by omega) hK.below.size)
  generalize setV w5 b1 o1 d=w6 at hz2 hr hb6 ⊢
  have c0:=hz2.at_.c0;have c1:w6.cell? ⟨w4.heap.size,1,none⟩=_:=hz2.at_.c1;have c2:w6.cell? ⟨w4.heap.size,2,none⟩=_:=hz2.at_.c2;have c3:w6.cell? ⟨w4.heap.size,3,none⟩=_:=hz2.at_.c3;have c4:w6.cell? ⟨w4.heap.size,4,none⟩=_:=hz2.at_.c4
  obtain ⟨r0,r1,r2,r3,r4⟩:=row5 hr.at_
  have f0:=hr.fr 0;have f1:=hr.fr 1;have f2:=hr.fr 2;have f3:=hr.fr 3;have f4:=hr.fr 4
  have zr6:=hr.lt
  have zo6:w4.heap.size<w6.heap.size:=World.block_lt_of_cell? w6 _ c0
  have HZ1:=qh hz1;have HZ2:=qh hz2;have HR6:=qh hr;have HB6:=qh hb6;have HL2:=qh hlo2
  clear hz1 hz2 hr hb6 hlo2 hz3 hz4' hK st hwh hb5 hW hS
  go_wp2_with fail
  rw [<-HQ.out]
  have st:=Zi w6 (w.heap.size+2) 0 cz
  have hfin:Sep (setV w6 (w.heap.size+2) 0 cz) S2 z cz:=HZ2.out.sep.keep st.size fun k q hk=>World.cell?_of_block (st.block k (HZ2.out.sep.bnd k hk) (by have:=HL2.out k hk;omega))
  exact ⟨rfl,_,zbm rfl rfl (Zz HR6.out cz),HB6.out.trans (st.lowC (by omega) HB6.out.size), .inr ⟨z,cz,rfl,HZ1.out,hfin.isVal fun k hk=>by have:=HL2.out k hk;omega⟩⟩
end Go.Proofs.YtnjgbiachcfigaaGreatDoor
