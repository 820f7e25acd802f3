/-
  Contracts of the functions that the law reaches: one: what stands in memory while it.
-/
import Derived.Test.YtbgheehjfnoiiaaGreatDoorOn11
import Derived.Deep.LoopGhost
namespace Go.Proofs.YtbgheehjfnoiiaaGreatDoor
open Go.RowKit
set_option maxHeartbeats 8000000
theorem QR.start2 (w:World) (t:Tk) (c:VC) (t1 t2 t3:TypeId) (W:World) (hW:W=((w.alloc (.cells #[.int .u8 0, .int .i64 0, .string { data:= #[] }, .slice none 0 0, .slice none 0 0] t1)).alloc (.cells #[.int .u8 t.k, .int .i64 t.n, .string t.s, .int .u8 t.m] t2)).alloc (.cells #[.int .u8 c.k, .int .i64 c.n, .string c.s, .slice c.la c.ll c.lc, .slice c.oa c.ol c.oc] t3)):
 QR w W t c/\W.heap.size=w.heap.size+3:=by
 obtain ⟨w1,hw1⟩:∃w1,w.alloc (.cells (uU 0 0 { data:= #[] } none 0 0 none 0 0) t1)=w1:=⟨_,rfl⟩
 have s1:w1.heap.size=w.heap.size+1:=by rw [<-hw1,World.size_alloc]
 have b1:uB w w1:=by rw [<-hw1];exact (Below.refl _ _).alloc (Nat.le_refl _) _
 have c1:BC w1 w.heap.size [.int .u8 0, .int .i64 0, .string { data:= #[] }, .slice none 0 0, .slice none 0 0] :=by rw [<-hw1];exact BC.start w (uU 0 0 { data:= #[] } none 0 0 none 0 0) t1
 rw [hw1] at hW
 obtain ⟨w2,hw2⟩:∃w2,w1.alloc (.cells #[.int .u8 t.k, .int .i64 t.n, .string t.s, .int .u8 t.m] t2)=w2:=⟨_,rfl⟩
 have s2:w2.heap.size=w.heap.size+2:=by rw [<-hw2,World.size_alloc,s1]
 have b2:uB w1 w2:=by rw [<-hw2];exact (Below.refl _ _).alloc (Nat.le_refl _) _
 have c2:=BC.start w1 #[.int .u8 t.k, .int .i64 t.n, .string t.s, .int .u8 t.m] t2
 rw [hw2,s1] at c2
 rw [hw2] at hW
 subst hW
 have b3:uB w2 (w2.alloc (.cells (uV c) t3)):=(Below.refl _ _).alloc (Nat.le_refl _) _
 have c3:=BC.start w2 (uV c) t3
 rw [s2] at c3
 exact ⟨⟨(c1.keep b2 (by omega)).keep b3 (by omega),c2.keep b3 (by omega),c3,(b1.trans (b2.mono (by omega))).trans (b3.mono (by omega))⟩,by rw [World.size_alloc,s2]⟩
theorem zgv {tmps:Array Value} {W:World} {b:Nat} {c:VC} {x:Value} (ht:tmps[4]? =some (.pointer (some ⟨b,0,none⟩))) (ht':tmps[5]? =some x) (h:BC W b (vcells c)):
 (results Tryz.f31 tmps).run Tryz.prog W= .ok (.tuple #[.agg #[.int .u8 c.k, .int .i64 c.n, .string c.s, .slice c.la c.ll c.lc, .slice c.oa c.ol c.oc],x]) W:=by
 obtain ⟨r0,r1,r2,r3,r4⟩:=(⟨h.at_ 0 _ rfl,h.at_ 1 _ rfl,h.at_ 2 _ rfl,h.at_ 3 _ rfl,h.at_ 4 _ rfl⟩:W.cell? ⟨b,0,none⟩=some (.int .u8 c.k)/\W.cell? ⟨b,1,none⟩=some (.int .i64 c.n)/\W.cell? ⟨b,2,none⟩=some (.string c.s)/\W.cell? ⟨b,3,none⟩=some (.slice c.la c.ll c.lc)/\W.cell? ⟨b,4,none⟩=some (.slice c.oa c.ol c.oc))
 simp [results,Tryz.results31,go_sem,ht,ht',r0,r1,r2,r3,r4]
theorem Y3 {w W:World} {c:VC} {r:V×Nat} {a:Act} (h:BC W w.heap.size (vcells c)) (hb:uB w W) (hv:IsVal (only (fun b=>w.heap.size<=b) W) W.heap.size r.1 c) (hd:a.defers= []) (ht:a.tmps[4]? =some (.pointer (some ⟨w.heap.size,0,none⟩))) (ht':a.tmps[5]? =some (.int .i64 (r.2:Int))):
 bodyPost Tryz.prog Tryz.f31 (RawPost w r) .ret a W:=
 ⟨hd,_,zgv ht ht' h,⟨c,rfl,hv⟩,hb⟩
structure BLL (w wr:World) (d:Nat) (l:List Tk) (t:Tk) (j:Nat) (a:Option Addr) (m c:Nat) (xs:List V) (cs:List VC) (u:Nat):Prop where
 rd:bL (oneP d) l j=(xs,u)
 len:xs.length=j
 cen:cs.length=j
 box:QR w wr t ⟨4,0, .empty,a,m,c,none,0,0⟩
 row:RowV wr (w.heap.size+3) (.slice a m c) xs cs
theorem BLL.round {w wr w4 w6 w7:World} {d:Nat} {l:List Tk} {t:Tk} {j:Nat} {a:Option Addr} {m c:Nat} {xs:List V} {cs:List VC} {u:Nat} {x:V} {q:Nat} {cx:VC} {g cap:Nat}
 (h:BLL w wr d l t j a m c xs cs u) (hx:oneP d (l.drop u)=(x,q)) (hb4:uB wr w4) (hI:IsVal (only (fun b=>wr.heap.size<=b) w4) w4.heap.size x cx) (hb6:uB w4 w6)
 (hown:w7.ownsRow (w.heap.size+3) 29 5 (.slice (some ⟨g,0,none⟩) (j+1) cap) (j+1) (cs.flatMap vcells++vcells cx)) (hg:w6.grownBy w7 (Value.slice a m c).ownBlock)
 (hat:(Value.slice a m c).ownBlock=some g∨w4.heap.size<=g):
 BLL w (w7.setCell ⟨w.heap.size+2,3,none⟩ (.slice (some ⟨g,0,none⟩) (j+1) cap)) d l t (j+1) (some ⟨g,0,none⟩) (j+1) cap (xs++ [x]) (cs++ [cx]) (u+q):=by
 have hrow:=h.row.later (PV.closed xs cs) (.of_below 0 hb4) (by omega)
 have hrlt:∀b,(Value.slice a m c).ownBlock=some b->w.heap.size+3<=b/\b<wr.heap.size:=h.row.lt
 have hsz:=h.box.val.lt
 have hsz4:=hb4.size
 have hsz6:=hb6.size
 have hgb:Below (w.heap.size+3) w6 w7:=Zj hg (fun b hb=>(hrlt b hb).1) (by omega)
 have hb67:Below (w.heap.size+3) w4 w7:=(hb6.mono (by omega)).trans hgb
 obtain ⟨s1,s2⟩:=PV.snoc (l:=xs) (cs:=cs) (by rw [h.len,h.cen]) x cx
 have hnew:PV (xs++ [x]) (cs++ [cx]) (only (Free (w.heap.size+3) (.slice a m c)) w4) w4.heap.size xs.length:=s1 _ _ (hI.sub (Ze fun b hb _=>⟨⟨by omega,fun e=>by have:=(hrlt b e.symm).2;omega⟩,rfl⟩))
 have hpush:=Row.push (PV.closed (xs++ [x]) (cs++ [cx])) hrow hb6 hg (u':= .slice (some ⟨g,0,none⟩) (j+1) cap) (news:=vcells cx) (by rw [h.len];exact hown) (by
  rcases hat with e|e
  .left;rw [e];rfl
  .right;intro b hb;have:g=b:=by simpa [Value.ownBlock] using hb
   omega) hnew s2
 have hbox:=(h.box.next hb4).below_ hb67 (Nat.le_refl _)
 refine ⟨?_,by simp [h.len],by simp [h.cen], ?_, ?_⟩
 .rw [bL,h.rd]
  dsimp only
  rw [hx]
 .exact ⟨hbox.res.far (by omega),hbox.tok.far (by omega),hbox.val.set (i:=3) (x:= .slice (some ⟨g,0,none⟩) (j+1) cap) (by simp [vcells]),hbox.below.trans ((RStep.self (b:=w.heap.size+2) (o:=3)).below (by have:=hbox.val.lt;omega)|>.mono (by omega))⟩
 .have hr2:RowV w7 (w.heap.size+3) (.slice (some ⟨g,0,none⟩) (j+1) cap) (xs++ [x]) (cs++ [cx]):=by
   show Row _ _ _ _ _ _ _ _
   rw [Yf,List.length_append,List.length_singleton]
   exact hpush
  exact hr2.set (PV.closed (xs++ [x]) (cs++ [cx])) (by omega)
structure BLO (w wr:World) (d:Nat) (l:List Tk) (t:Tk) (j:Nat) (a:Option Addr) (m c:Nat) (o:List (ByteArray×V)) (u:Nat):Prop where
 rd:bO (oneP d) l j=(o,u)
 box:QR w wr t ⟨5,0, .empty,none,0,0,a,m,c⟩
 neat:Neat a m c
 fld:IsFields (only (fun k=>w.heap.size+3<=k) wr) wr.heap.size o a m c
theorem IsFields.far {W W':World} {b base:Nat} {l:List (ByteArray×V)} {a:Option Addr} {n c:Nat} (h:IsFields (only (fun k=>base<=k) W) W.heap.size l a n c) (s:RStep W W' b) (hb:b<base):IsFields (only (fun k=>base<=k) W') W'.heap.size l a n c:=
 (IsFields.sub (Ze fun k hk hl=>⟨hk,s.block k hl (by omega)⟩) h).more s.size
theorem IsFields.behind {W W':World} {base:Nat} {l:List (ByteArray×V)} {a:Option Addr} {n c:Nat} (h:IsFields (only (fun k=>base<=k) W) W.heap.size l a n c) (hb:uB W W'):IsFields (only (fun k=>base<=k) W') W'.heap.size l a n c:=
 (IsFields.sub (Ze fun k hk hl=>⟨hk,hb.block k hl⟩) h).more hb.size
theorem BLO.round {w wr w5 w6:World} {d:Nat} {l:List Tk} {t:Tk} {j:Nat} {a:Option Addr} {m c:Nat} {o:List (ByteArray×V)} {u:Nat} {x:V} {q:Nat} {a':Option Addr} {m' c':Nat} {key:ByteArray}
 (h:BLO w wr d l t j a m c o u) (hx:oneP d (l.drop u)=(x,q)) (hk:keyP l u=key) (hb5:uB wr w5) (hb6:uB w5 w6)
 (hf:IsFields (only (fun b=>w.heap.size+3<=b) w6) w6.heap.size (withF o key x) a' m' c') (hne:Neat a' m' c'):
 BLO w (w6.setCell ⟨w.heap.size+2,4,none⟩ (.slice a' m' c')) d l t (j+1) a' m' c' (withF o key x) (u+q):=by
 have hbox:=(h.box.next hb5).next hb6
 have hsz:=hbox.val.lt
 refine ⟨?_, ?_,hne,hf.far (RStep.self (b:=w.heap.size+2) (o:=4)) (by omega)⟩
 .rw [bO,h.rd]
  dsimp only
  rw [hx,hk]
 .exact ⟨hbox.res.far (by omega),hbox.tok.far (by omega),hbox.val.set (i:=4) (x:= .slice a' m' c') (by simp [vcells]),hbox.below.trans ((RStep.self (b:=w.heap.size+2) (o:=4)).below (by omega)|>.mono (by omega))⟩
theorem zhf {w:World} {B:Nat} {o:List (ByteArray×V)} {a:Option Addr} {n c:Nat} (h:IsFields w B o a n c) (k:Int) (hk0:0<=k) (hk1:k<256):IsVal w B (.mk k 0 .empty [] o) ⟨k,0, .empty,none,0,0,a,n,c⟩:=
 IsVal.of_lists (c:=⟨k,0, .empty,none,0,0,a,n,c⟩) (l:= []) ⟨hk0,hk1,(by decide:(-9223372036854775808:Int)<=0),(by decide:(0:Int)<=9223372036854775807),(by decide:ByteArray.empty.size<=140737488355328),(by decide:(0:Nat)<=0),(by decide:(0:Nat)<=9223372036854775807),(by decide:(0:Nat)<=1466015503701),h.cap,h.max,h.few⟩ ⟨rfl,(by decide:(0:Nat)<=0),(by decide:(0:Nat)<=9223372036854775807),(by decide:(0:Nat)<=1466015503701),0,0,fun _=>vzero,fun h=>absurd h (Nat.lt_irrefl 0),fun i h=>absurd h (by simp)⟩ h
theorem ziw (w:World) (B:Nat):IsFields w B [] none 0 0:=
 ⟨rfl,Nat.le_refl _,by omega,by omega,0,0,fun _=>vzero,fun h=>absurd h (by omega),fun i h=>absurd h (by simp)⟩
theorem zgo (x:Int):bits BinOp.and IntKind.i64 x 1=x % 2:=by
 have h:bits BinOp.and IntKind.i64 x 1=IntKind.i64.wrap (((BitVec.ofInt 64 x &&& BitVec.ofInt 64 1).toNat:Nat):Int):=rfl
 have e:(BitVec.ofInt 64 1).toNat=1:=by decide
 rw [h,BitVec.toNat_and,e,Nat.and_one_is_mod,BitVec.toNat_ofInt,IntKind.wrap_i64]
 have e2:((2 ^ 64:Nat):Int)=18446744073709551616:=by decide
 rw [e2]
 omega
set_option maxRecDepth 100000 in
theorem zbo (w:World) (dd:Int) (a:Option Addr) (c:Nat):
 uP 31 #[.slice a 0 c, .int .i64 dd] w (RawPost w (V.none,0)):=by
 delta uP
 go_enter Tryz.func31,Tryz.ntmps31
 generalize hQ0:bodyPost _ _ _=Q0
 have HQ:=qh hQ0
 clear hQ0
 go_wp2_with fail
 rw [<-HQ.out]
 exact Y3 (c:=vzero) (BC.start w (uU 0 0 { data:= #[] } none 0 0 none 0 0) _) ((Below.refl _ _).alloc (Nat.le_refl _) _) (Zw _ _) rfl rfl rfl
set_option maxRecDepth 100000 in
theorem zfq (w:World) (dd:Int) (t:Tk) (r:List Tk) (a:Option Addr) (n c:Nat) (h:IsToks w w.heap.size (t::r) a n c) (hk:t.k % 6=0):
 uP 31 #[.slice a n c, .int .i64 dd] w (RawPost w (leafP t,1)):=by
 delta uP
 obtain ⟨b,o,hp,rfl,hb,htk,hbd⟩:=h.get (k:=0) (by have:=h.len;rw [this];simp)
 have ht:TkAt w b o t:=by simpa using htk
 replace hbd:t.Bnd:=by simpa using hbd
 have c0:=ht.c0;have c1:=ht.c1;have c2:=ht.c2;have c3:=ht.c3
 have b2:=hbd.m0;have b3:=hbd.m1
 have hnp:0<n:=by rw [h.len];simp
 have hne:((n:Int)==0)=false:=by simp;omega
 have hk2:Int.tmod t.k 6=0:=by rw [Int.tmod_eq_emod_of_nonneg hbd.k0];exact hk
 have HBD:=qh hbd
 have hR:leafP t=V.none:=by rw [leafP];simp [hk]
 have HR:=qh hR
 have hz:=BC.start w (uU 0 0 { data:= #[] } none 0 0 none 0 0) 29
 have hb2:uB w (w.alloc (.cells (uU 0 0 { data:= #[] } none 0 0 none 0 0) 29)):=(Below.refl _ _).alloc (Nat.le_refl _) _
 have HZ:=qh hz
 have HB2:=qh hb2
 rw [hR]
 clear h ht htk hp hbd hk hR hz hb2
 go_enter Tryz.func31,Tryz.ntmps31
 generalize hQ0:bodyPost _ _ _=Q0
 have HQ:=qh hQ0
 clear hQ0
 go_wp2_with fail
 rw [<-HQ.out]
 have A:=BC.start w (uU 0 0 { data:= #[] } none 0 0 none 0 0) 29
 have B1:uB w (w.alloc (.cells (uU 0 0 { data:= #[] } none 0 0 none 0 0) 29)):=(Below.refl _ _).alloc (Nat.le_refl _) _
 exact Y3 (c:=⟨0,0, .empty,none,0,0,none,0,0⟩) (A.keep ((Below.refl _ _).alloc (Nat.le_refl _) _) A.lt) (B1.alloc B1.size _) (Zw _ _) rfl rfl rfl
set_option maxRecDepth 100000 in
theorem zik (w:World) (dd:Int) (t:Tk) (r:List Tk) (a:Option Addr) (n c:Nat) (h:IsToks w w.heap.size (t::r) a n c) (hk:t.k % 6=1):
 uP 31 #[.slice a n c, .int .i64 dd] w (RawPost w (leafP t,1)):=by
 delta uP
 obtain ⟨b,o,hp,rfl,hb,htk,hbd⟩:=h.get (k:=0) (by have:=h.len;rw [this];simp)
 have ht:TkAt w b o t:=by simpa using htk
 replace hbd:t.Bnd:=by simpa using hbd
 have c0:=ht.c0;have c1:=ht.c1;have c2:=ht.c2;have c3:=ht.c3
 have b2:=hbd.m0;have b3:=hbd.m1
 have hnp:0<n:=by rw [h.len];simp
 have hne:((n:Int)==0)=false:=by simp;omega
 have hk2:Int.tmod t.k 6=1:=by rw [Int.tmod_eq_emod_of_nonneg hbd.k0];exact hk
 have HBD:=qh hbd
 have hR:leafP t=V.mk 1 (t.n % 2) .empty [] [] :=by rw [leafP];simp [hk]
 have HR:=qh hR
 have hz:=BC.start w (uU 0 0 { data:= #[] } none 0 0 none 0 0) 29
 have hb2:uB w (w.alloc (.cells (uU 0 0 { data:= #[] } none 0 0 none 0 0) 29)):=(Below.refl _ _).alloc (Nat.le_refl _) _
 have HZ:=qh hz
 have HB2:=qh hb2
 rw [hR]
 clear h ht htk hp hbd hk hR hz hb2
 go_enter Tryz.func31,Tryz.ntmps31
 generalize hQ0:bodyPost _ _ _=Q0
 have HQ:=qh hQ0
 clear hQ0
 go_wp2_with fail
 rw [zgo]
 rw [<-HQ.out]
 have A:=BC.start w (uU 1 (t.n % 2) { data:= #[] } none 0 0 none 0 0) 29
 have B1:uB w (w.alloc (.cells (uU 1 (t.n % 2) { data:= #[] } none 0 0 none 0 0) 29)):=(Below.refl _ _).alloc (Nat.le_refl _) _
 exact Y3 (c:=⟨1,t.n % 2, .empty,none,0,0,none,0,0⟩) (A.keep ((Below.refl _ _).alloc (Nat.le_refl _) _) A.lt) (B1.alloc B1.size _) (Qc _ _ _ _ _ (by omega) (by omega) (by omega) (by omega) (by decide)) rfl rfl rfl
set_option maxRecDepth 100000 in
theorem zj8 (w:World) (dd:Int) (t:Tk) (r:List Tk) (a:Option Addr) (n c:Nat) (h:IsToks w w.heap.size (t::r) a n c) (hk:t.k % 6=2):
 uP 31 #[.slice a n c, .int .i64 dd] w (RawPost w (leafP t,1)):=by
 delta uP
 obtain ⟨b,o,hp,rfl,hb,htk,hbd⟩:=h.get (k:=0) (by have:=h.len;rw [this];simp)
 have ht:TkAt w b o t:=by simpa using htk
 replace hbd:t.Bnd:=by simpa using hbd
 have c0:=ht.c0;have c1:=ht.c1;have c2:=ht.c2;have c3:=ht.c3
 have b2:=hbd.m0;have b3:=hbd.m1
 have hnp:0<n:=by rw [h.len];simp
 have hne:((n:Int)==0)=false:=by simp;omega
 have hk2:Int.tmod t.k 6=2:=by rw [Int.tmod_eq_emod_of_nonneg hbd.k0];exact hk
 have HBD:=qh hbd
 have hR:leafP t=V.mk 2 t.n .empty [] [] :=by rw [leafP];simp [hk]
 have HR:=qh hR
 have hz:=BC.start w (uU 0 0 { data:= #[] } none 0 0 none 0 0) 29
 have hb2:uB w (w.alloc (.cells (uU 0 0 { data:= #[] } none 0 0 none 0 0) 29)):=(Below.refl _ _).alloc (Nat.le_refl _) _
 have HZ:=qh hz
 have HB2:=qh hb2
 rw [hR]
 clear h ht htk hp hbd hk hR hz hb2
 go_enter Tryz.func31,Tryz.ntmps31
 generalize hQ0:bodyPost _ _ _=Q0
 have HQ:=qh hQ0
 clear hQ0
 go_wp2_with fail
 rw [<-HQ.out]
 have A:=BC.start w (uU 2 t.n { data:= #[] } none 0 0 none 0 0) 29
 have B1:uB w (w.alloc (.cells (uU 2 t.n { data:= #[] } none 0 0 none 0 0) 29)):=(Below.refl _ _).alloc (Nat.le_refl _) _
 exact Y3 (c:=⟨2,t.n, .empty,none,0,0,none,0,0⟩) (A.keep ((Below.refl _ _).alloc (Nat.le_refl _) _) A.lt) (B1.alloc B1.size _) (Qc _ _ _ _ _ (by omega) (by omega) HBD.out.n0 HBD.out.n1 (by decide)) rfl rfl rfl
set_option maxRecDepth 100000 in
theorem zex (w:World) (dd:Int) (t:Tk) (r:List Tk) (a:Option Addr) (n c:Nat) (h:IsToks w w.heap.size (t::r) a n c) (hk:t.k % 6=3):
 uP 31 #[.slice a n c, .int .i64 dd] w (RawPost w (leafP t,1)):=by
 delta uP
 obtain ⟨b,o,hp,rfl,hb,htk,hbd⟩:=h.get (k:=0) (by have:=h.len;rw [this];simp)
 have ht:TkAt w b o t:=by simpa using htk
 replace hbd:t.Bnd:=by simpa using hbd
 have c0:=ht.c0;have c1:=ht.c1;have c2:=ht.c2;have c3:=ht.c3
 have b2:=hbd.m0;have b3:=hbd.m1
 have hnp:0<n:=by rw [h.len];simp
 have hne:((n:Int)==0)=false:=by simp;omega
 have hk2:Int.tmod t.k 6=3:=by rw [Int.tmod_eq_emod_of_nonneg hbd.k0];exact hk
 have HBD:=qh hbd
 have hR:leafP t=V.mk 3 0 (plainS t.s) [] [] :=by rw [leafP];simp [hk]
 have HR:=qh hR
 have hz:=BC.start w (uU 0 0 { data:= #[] } none 0 0 none 0 0) 29
 have hb2:uB w (w.alloc (.cells (uU 0 0 { data:= #[] } none 0 0 none 0 0) 29)):=(Below.refl _ _).alloc (Nat.le_refl _) _
 have HZ:=qh hz
 have HB2:=qh hb2
 rw [hR]
 have HA:=qh (hb2.alloc hb2.size (.cells #[.int .u8 t.k, .int .i64 t.n, .string t.s, .int .u8 t.m] 59))
 have HK:=qh (hz.keep ((Below.refl _ _).alloc (Nat.le_refl _) (.cells #[.int .u8 t.k, .int .i64 t.n, .string t.s, .int .u8 t.m] 59)) hz.lt)
 clear h ht htk hp hbd hk hR hz hb2
 go_enter Tryz.func31,Tryz.ntmps31
 generalize hQ0:bodyPost _ _ _=Q0
 have HQ:=qh hQ0
 clear hQ0
 go_wp2_with fail
 refine (zan _ t.s HBD.out.s1).mono ?_
 rintro e w3 ⟨rfl,hb3⟩
 have D:=HK.out.keep hb3 (by simp;omega)
 obtain ⟨r0,r1,r2,r3,r4⟩:=row5 D.at_
 have g0:=D.fr 0;have g1:=D.fr 1;have g2:=D.fr 2;have g3:=D.fr 3;have g4:=D.fr 4
 have zs3:w.heap.size<w3.heap.size:=D.lt
 have HD3:=qh D
 have HB3:=qh (HA.out.trans (hb3.mono (by simp;omega)))
 obtain ⟨ps,hps,hpz⟩:∃ps,plainS t.s=ps/\ps.size<=140737488355328:=⟨_,rfl,Nat.le_trans (Y5 _) (by omega)⟩
 have HPS:=qh hpz
 rw [hps] at HQ ⊢
 clear D hb3 hps hpz
 go_wp2_with fail
 rw [<-HQ.out]
 have s1:RStep w3 (((((w3.setCell ⟨w.heap.size,0,none⟩ (.int .u8 3)).setCell ⟨w.heap.size,1,none⟩ (.int .i64 0)).setCell ⟨w.heap.size,2,none⟩ (.string ps)).setCell ⟨w.heap.size,3,none⟩ (.slice none 0 0)).setCell ⟨w.heap.size,4,none⟩ (.slice none 0 0)) w.heap.size:=(((RStep.self.trans RStep.self).trans RStep.self).trans RStep.self).trans RStep.self
 have hbc:BC (((((w3.setCell ⟨w.heap.size,0,none⟩ (.int .u8 3)).setCell ⟨w.heap.size,1,none⟩ (.int .i64 0)).setCell ⟨w.heap.size,2,none⟩ (.string ps)).setCell ⟨w.heap.size,3,none⟩ (.slice none 0 0)).setCell ⟨w.heap.size,4,none⟩ (.slice none 0 0)) w.heap.size (vcells ⟨3,0,ps,none,0,0,none,0,0⟩):=((((HD3.out.set (i:=0) (x:= .int .u8 3) (by simp)).set (i:=1) (x:= .int .i64 0) (by simp)).set (i:=2) (x:= .string ps) (by simp)).set (i:=3) (x:= .slice none 0 0) (by simp)).set (i:=4) (x:= .slice none 0 0) (by simp)
 exact Y3 (c:=⟨3,0,ps,none,0,0,none,0,0⟩) hbc (HB3.out.trans (s1.below (by omega))) (Qc _ _ 3 0 ps (by omega) (by omega) (by omega) (by omega) HPS.out) rfl rfl rfl
set_option maxRecDepth 100000 in
theorem zm4 (w:World) (dd:Int) (hd0:0<=dd) (hd:dd<=5) (d:Nat) (t:Tk) (r:List Tk) (a:Option Addr) (n c:Nat) (h:IsToks w w.heap.size (t::r) a n c) (IH:∀(W:World) (l:List Tk) (a:Option Addr) (n c:Nat),IsToks W W.heap.size l a n c->uP 31 #[.slice a n c, .int .i64 (dd+1)] W (RawPost W (oneP d l))) (hk:t.k % 6=4):
 uP 31 #[.slice a n c, .int .i64 dd] w (RawPost w (oneP (d+1) (t::r))):=by
 delta uP
 obtain ⟨i0,hi0,hz0,hz1,hz2⟩:=info_parts Z9
 have hw1:IntKind.i64.wrap (dd+1)=dd+1:=IntWalk.i64_in _ (by omega)
 obtain ⟨b,o,hp,rfl,hb,htk,hbd⟩:=h.get (k:=0) (by have:=h.len;rw [this];simp)
 have ht:TkAt w b o t:=by simpa using htk
 replace hbd:t.Bnd:=by simpa using hbd
 have c0:=ht.c0;have c1:=ht.c1;have c2:=ht.c2;have c3:=ht.c3
 have b0:=hbd.k0;have b1:=hbd.k1;have b2:=hbd.m0;have b3:=hbd.m1
 have hlen:=h.len
 have hcap:=h.cap
 have hmax:=h.max
 have hnp:0<n:=by rw [hlen];simp
 have hne:((n:Int)==0)=false:=by simp;omega
 obtain ⟨K,hK⟩:∃K:Nat,(t.m % 4).toNat=K:=⟨_,rfl⟩
 have hK1:t.m % 4=(K:Int):=by omega
 have hK2:Int.tmod t.m 4=(K:Int):=by rw [Int.tmod_eq_emod_of_nonneg b2];exact hK1
 have hK3:K<=3:=by omega
 have hk2:Int.tmod t.k 6=4:=by rw [Int.tmod_eq_emod_of_nonneg b0];exact hk
 have HI:=qh h
 have HQR:=qh (QR.start2 w t ⟨4,0, .empty,none,0,0,none,0,0⟩ 29 59 29)
 have HBD:=qh hbd
 have IHH:=qh IH
 have HLEN:=qh hlen
 have HKK:=qh hK
 have HK:=qh hk
 clear h ht htk hp hbd IH hlen hK hk
 go_enter Tryz.func31,Tryz.ntmps31
 generalize hQ0:bodyPost _ _ _=Q0
 have HQ:=qh hQ0
 clear hQ0
 go_wp2_with fail
 go_loopw [7,9,10,11] (fun u i _ _ wr=>∃(j:Nat) (a':Option Addr) (m c':Nat) (xs:List V) (cs:List VC) (un:Nat),j<=K/\u= .int .i64 un/\i= .int .u8 j/\BLL w wr d (t::r) t j a' m c' xs cs un) (fun _ i _ _ _=>K - (intOf i).toNat)
 case atStart=>exact ⟨0,none,0,0, [], [],1,Nat.zero_le _,rfl,rfl,⟨rfl,rfl,rfl,(HQR.out _ rfl).1,Row.nil _ _ _ _ _⟩⟩
 case round=>
  obtain ⟨j,a',m,c',xs,cs,un,hj,rfl,rfl,L⟩:=hrel
  have k0:=L.box.tok.at_ 0 _ rfl;have k3:=L.box.tok.at_ 3 _ rfl
  obtain ⟨v0,v1,v2,v3,v4⟩:=row5 L.box.val.at_
  have p0:=L.box.val.fr 3
  obtain ⟨r0,r1,r2,r3,r4⟩:=row5 L.box.res.at_
  have g0:=L.box.res.fr 0;have g1:=L.box.res.fr 1;have g2:=L.box.res.fr 2;have g3:=L.box.res.fr 3;have g4:=L.box.res.fr 4
  have zs2:=L.box.val.lt;have zs1:=L.box.tok.lt;have zs0:=L.box.res.lt
  obtain ⟨hu1,hu2,hol⟩:1<=un/\un<=n/\xs.length=j:=by
   have:=zck (Qs d) (l:=t::r) (by simp) j
   rw [L.rd] at this
   exact ⟨this.1,by rw [HLEN.out];exact this.2.1,this.2.2⟩
  by_cases hlt:j<K
  .have hz9:c=un->n - un=0:=by omega
   obtain ⟨⟨x,q⟩,hx⟩:∃p,oneP d ((t::r).drop un)=p:=⟨_,rfl⟩
   have hq2:un+q<=n:=by have:=Qs d ((t::r).drop un);rw [hx,List.length_drop] at this;have:=HLEN.out;dsimp only at*;omega
   have HX:=qh hx
   have HC:Hid (∀W,uB w W->uP 31 #[if c=un then .slice (some ⟨b,o,none⟩) 0 0 else .slice (some ⟨b,o+un*4,none⟩) (n - un) (c - un), .int .i64 (dd+1)] W (RawPost W (x,q))):=by
    intro W hW
    have HIW:=(HI.out.later_ hW).drop un hu2
    rw [<-HX.out]
    by_cases hc:c=un
    .rw [if_pos hc];exact IHH.out W _ _ _ _ (HIW.none_left (hz9 hc))
    .rw [if_neg hc];rw [Option.map_some,Zv] at HIW;exact IHH.out W _ _ _ _ HIW
   have LL:=qh L
   clear L hx
   by_cases hc:c=un
   .replace HC:=HC.out
    simp only [if_pos hc] at HC
    replace HC:=qh HC
    have hz:=hz9 hc
    clear hz9
    subst hc
    go_wp2_with fail
    refine (HC.out _ LL.out.box.below).mono ?_
    rintro e w4 ⟨⟨cx,rfl,hI4⟩,hb4⟩
    have L:=LL.out
    have B4:=L.box.next hb4
    have k0:=B4.tok.at_ 0 _ rfl;have k3:=B4.tok.at_ 3 _ rfl
    obtain ⟨v0,v1,v2,v3,v4⟩:=row5 B4.val.at_
    have p0:=B4.val.fr 3
    obtain ⟨r0,r1,r2,r3,r4⟩:=row5 B4.res.at_
    have g0:=B4.res.fr 0;have g1:=B4.res.fr 1;have g2:=B4.res.fr 2;have g3:=B4.res.fr 3;have g4:=B4.res.fr 4
    have zt2:=B4.val.lt;have zt1:=B4.tok.lt;have zt0:=B4.res.lt
    have hrow:RowV w4 (w.heap.size+3) (.slice a' m c') xs cs:=L.row.later (PV.closed xs cs) (.of_below 0 hb4) (by omega)
    have hne2:(Value.slice a' m c').ownBlock≠some (w.heap.size+2):=fun e=>by have:=(L.row.lt _ e).1;omega
    have ho4:=hrow.own
    rw [L.len] at ho4
    have hu3:(c:Int)+q<=9223372036854775807:=by omega
    have HI4:=qh hI4
    have HB4:=qh hb4
    have hnw:∀jj u,(vcells cx)[jj]? =some u->((w4.alloc (.cells (uV cx) 29)).alloc (.cells (uV cx) 29)).cell? ((⟨w4.heap.size+1,0,none⟩:Addr).add jj)=some u:=by
     have:=World.news_of_block (t:=29) (fr:=(0,0)) (heap_alloc_new (w4.alloc (.cells (uV cx) 29)) (.cells (uV cx) 29))
     intro jj u hu
     simpa using this jj u (by simpa [vcells] using hu)
    have HNW:=qh hnw
    have HB44:=qh B4
    clear L B4 hrow hI4 hb4 hnw
    go_wp2_with (at_builtin;refine wpList_append_lies _ rfl (.tmp 71) (.tmp 73) 26 (by rfl) (w.heap.size+3) 29 i0 _ 5 80 Tryz.underlying26 hi0 hz0 hz1 hz2 rfl (by omega) (.slice a' m c') j (cs.flatMap vcells) (by rfl) ((ho4.alloc _).alloc _) ⟨w4.heap.size+1,0,none⟩ 1 1 (vcells cx) (by rfl) (by rfl) HNW.out (by simp [vcells,Value.oneCell']) (by omega) (by unfold maxLen;omega) (by omega) (by simp;omega) (w4.heap.size+1+1) (by simp) ?_;intro g cap w7 hown7 hgrow7 hat7 hlt7;have hc7:w7.cell? ⟨w.heap.size+2,3,none⟩=some (.slice a' m c'):=(hgrow7.cell_far ⟨w.heap.size+2,3,none⟩ (by simp;omega) (Ne.symm hne2)).trans (Zb ((Below.refl _ _).alloc (by simp) _) (Zb ((Below.refl _ _).alloc (Nat.le_refl _) _) (HB44.out.val.at_ 3 _ rfl) zt2) zt2);have hf7:w7.frozen? ⟨w.heap.size+2,3,none⟩=false:=(hgrow7.frozen_far ⟨w.heap.size+2,3,none⟩ (by simp;omega) (Ne.symm hne2)).trans ((((Below.refl _ _).alloc (by simp) _:Below w4.heap.size (w4.alloc _) ((w4.alloc _).alloc _)).frozen (p:=⟨w.heap.size+2,3,none⟩) zt2).trans ((((Below.refl _ _).alloc (Nat.le_refl _) _:uB w4 (w4.alloc _)).frozen (p:=⟨w.heap.size+2,3,none⟩) zt2).trans (HB44.out.val.fr 3))))
    go_roundw
    case rel=>exact ⟨j+1,some ⟨g,0,none⟩,j+1,cap,xs++ [x],cs++ [cx],c+q,by omega,by go_num,by go_num,LL.out.round HX.out HB4.out HI4.out (((Below.refl _ _).alloc (Nat.le_refl _) _).alloc (by simp) _) hown7 hgrow7 (hat7.imp_right fun e=>by omega)⟩
    case measure=>simp [intOf];omega
   .replace HC:=HC.out
    simp only [if_neg hc] at HC
    replace HC:=qh HC
    have huc:un<c:=by omega
    clear hz9 hc
    go_wp2_with fail
    refine (HC.out _ LL.out.box.below).mono ?_
    rintro e w4 ⟨⟨cx,rfl,hI4⟩,hb4⟩
    have L:=LL.out
    have B4:=L.box.next hb4
    have k0:=B4.tok.at_ 0 _ rfl;have k3:=B4.tok.at_ 3 _ rfl
    obtain ⟨v0,v1,v2,v3,v4⟩:=row5 B4.val.at_
    have p0:=B4.val.fr 3
    obtain ⟨r0,r1,r2,r3,r4⟩:=row5 B4.res.at_
    have g0:=B4.res.fr 0;have g1:=B4.res.fr 1;have g2:=B4.res.fr 2;have g3:=B4.res.fr 3;have g4:=B4.res.fr 4
    have zt2:=B4.val.lt;have zt1:=B4.tok.lt;have zt0:=B4.res.lt
    have hrow:RowV w4 (w.heap.size+3) (.slice a' m c') xs cs:=L.row.later (PV.closed xs cs) (.of_below 0 hb4) (by omega)
    have hne2:(Value.slice a' m c').ownBlock≠some (w.heap.size+2):=fun e=>by have:=(L.row.lt _ e).1;omega
    have ho4:=hrow.own
    rw [L.len] at ho4
    have hu3:(un:Int)+q<=9223372036854775807:=by omega
    have HI4:=qh hI4
    have HB4:=qh hb4
    have hnw:∀jj u,(vcells cx)[jj]? =some u->((w4.alloc (.cells (uV cx) 29)).alloc (.cells (uV cx) 29)).cell? ((⟨w4.heap.size+1,0,none⟩:Addr).add jj)=some u:=by
     have:=World.news_of_block (t:=29) (fr:=(0,0)) (heap_alloc_new (w4.alloc (.cells (uV cx) 29)) (.cells (uV cx) 29))
     intro jj u hu
     simpa using this jj u (by simpa [vcells] using hu)
    have HNW:=qh hnw
    have HB44:=qh B4
    clear L B4 hrow hI4 hb4 hnw
    go_wp2_with (at_builtin;refine wpList_append_lies _ rfl (.tmp 71) (.tmp 73) 26 (by rfl) (w.heap.size+3) 29 i0 _ 5 80 Tryz.underlying26 hi0 hz0 hz1 hz2 rfl (by omega) (.slice a' m c') j (cs.flatMap vcells) (by rfl) ((ho4.alloc _).alloc _) ⟨w4.heap.size+1,0,none⟩ 1 1 (vcells cx) (by rfl) (by rfl) HNW.out (by simp [vcells,Value.oneCell']) (by omega) (by unfold maxLen;omega) (by omega) (by simp;omega) (w4.heap.size+1+1) (by simp) ?_;intro g cap w7 hown7 hgrow7 hat7 hlt7;have hc7:w7.cell? ⟨w.heap.size+2,3,none⟩=some (.slice a' m c'):=(hgrow7.cell_far ⟨w.heap.size+2,3,none⟩ (by simp;omega) (Ne.symm hne2)).trans (Zb ((Below.refl _ _).alloc (by simp) _) (Zb ((Below.refl _ _).alloc (Nat.le_refl _) _) (HB44.out.val.at_ 3 _ rfl) zt2) zt2);have hf7:w7.frozen? ⟨w.heap.size+2,3,none⟩=false:=(hgrow7.frozen_far ⟨w.heap.size+2,3,none⟩ (by simp;omega) (Ne.symm hne2)).trans ((((Below.refl _ _).alloc (by simp) _:Below w4.heap.size (w4.alloc _) ((w4.alloc _).alloc _)).frozen (p:=⟨w.heap.size+2,3,none⟩) zt2).trans ((((Below.refl _ _).alloc (Nat.le_refl _) _:uB w4 (w4.alloc _)).frozen (p:=⟨w.heap.size+2,3,none⟩) zt2).trans (HB44.out.val.fr 3))))
    go_roundw
    case rel=>exact ⟨j+1,some ⟨g,0,none⟩,j+1,cap,xs++ [x],cs++ [cx],un+q,by omega,by go_num,by go_num,LL.out.round HX.out HB4.out HI4.out (((Below.refl _ _).alloc (Nat.le_refl _) _).alloc (by simp) _) hown7 hgrow7 (hat7.imp_right fun e=>by omega)⟩
    case measure=>simp [intOf];omega
  .have hjn:j=K:=by omega
   subst hjn
   have hR:oneP (d+1) (t::r)=(.mk 4 0 .empty xs [],un):=by
    rw [oneP,if_pos HK.out,HKK.out,L.rd]
   have hv:=RowV.val L.row (lo:=w.heap.size+3) (by rw [L.len,L.cen]) (Nat.le_refl _) 4 (by omega) (by omega) (by rw [L.len];omega)
   have HV:=qh hv
   have HR:=qh hR
   have LB:=qh L.box
   clear L hv hR
   go_wp2_with fail
   have ST:=LB.out.stored ⟨4,0, .empty,a',m,c',none,0,0⟩
   rw [<-HQ.out,HR.out]
   exact Y3 (c:=⟨4,0, .empty,a',m,c',none,0,0⟩) ST.1 ST.2.1 ((Zm HV.out ST.2.2 (by omega)).sub (Ze fun k hk _=>⟨by omega,rfl⟩)) rfl rfl rfl
def IntoPost (w:World) (v:V) (c:VC) (s:St) (e:Ending) (w':World):Prop:=
 Below w.heap.size w w'/\((e= .returned (.pointer none)/\stepP v s=none)∨∃(x:V) (k g q q':Nat) (cx:VC),e= .returned (.pointer (some ⟨g,q',none⟩))/\stepP v s=some (x,k)/\IsVal w w.heap.size x cx/\ValAt w g q' cx/\g<w.heap.size/\
  ((s.list=true/\c.la=some ⟨g,q,none⟩/\q'=q+k*5)∨(s.list=false/\c.oa=some ⟨g,q,none⟩/\q'=q+k*6+1)))
set_option maxRecDepth 100000 in
theorem zf4 (w:World) (b o:Nat) (v:V) (c:VC) (s:St) (hv:ValAt w b o c) (hI:IsVal w w.heap.size v c) (hs:s.list=true):
 uP 136 #[.pointer (some ⟨b,o,none⟩), .agg #[.bool s.list, .int .i64 s.i, .string s.key]] w (IntoPost w v c s):=by
 delta uP
 obtain ⟨vk,vn,vs,l,ol,rfl⟩:=v.eta
 obtain ⟨rfl,rfl,rfl,hb,h1,h2⟩:=hI.lists
 have c0:=hv.c0;have c3:=hv.c3
 have hbw:b<w.heap.size:=World.block_lt_of_cell? w _ c0
 have hln:=h1.len
 have k1:=h1.max;have k2:=h1.few
 obtain ⟨R,hR⟩:∃R,IntoPost w (.mk c.k c.n c.s l ol) c s=R:=⟨_,rfl⟩
 have HR:=qh hR
 rw [hR]
 have hal:uB w (w.alloc (.cells #[.bool s.list, .int .i64 s.i, .string s.key] 82)):=(Below.refl _ _).alloc (Nat.le_refl _) _
 have HAL:=qh hal
 have hno:¬(c.k=4/\0<=s.i/\s.i<l.length)->stepP (.mk c.k c.n c.s l ol) s=none:=fun h=>by
  unfold stepP;rw [if_pos hs,if_neg (show ¬((V.mk c.k c.n c.s l ol).kd=4/\0<=s.i/\s.i<((V.mk c.k c.n c.s l ol).ls.length:Int)) from h)]
 have HNO:=qh hno
 have HH1:=qh h1;have HL:=qh hln;have HS:=qh hs
 clear hno hR hal h2 hI hv hb
 by_cases e1:c.k=4
 .by_cases e2:s.i<0
  .have HST:Hid (stepP (.mk c.k c.n c.s l ol) s=none):=HNO.out (fun h=>by omega)
   have f1:(c.k !=4)=false:=by simp [e1]
   have f2:decide (s.i<0)=true:=decide_eq_true e2
   rw [hs] at HAL ⊢
   clear e1 e2 hln hs
   go_enter Tryz.func136,Tryz.ntmps136
   go_wp2_with fail
   go_quiet (fail)
   go_wp2_with fail
   rw [<-HR.out]
   exact ⟨Z7 HAL.out _, .inl ⟨rfl,HST.out⟩⟩
  .have f1:(c.k !=4)=false:=by simp [e1]
   have f2:decide (s.i<0)=false:=decide_eq_false e2
   by_cases e3:s.i<(c.ll:Int)
   .obtain ⟨k,hk⟩:∃k:Nat,s.i=k:=⟨s.i.toNat,by omega⟩
    have hlt:k<c.ll:=by omega
    obtain ⟨g,q,f,hp,ha,hgB,hfv,hfI⟩:=h1.get hlt
    have HST:Hid (stepP (.mk c.k c.n c.s l ol) s=some (l[k]'hp,k)):=by
     show _=_
     unfold stepP
     have e4:(V.mk c.k c.n c.s l ol).kd=4/\0<=s.i/\s.i<((V.mk c.k c.n c.s l ol).ls.length:Int):=⟨e1,by omega,by show s.i<(l.length:Int);omega⟩
     rw [if_pos hs,if_pos e4,hk]
     show some (l.getD k V.none,k)=_
     simp [List.getD_eq_getElem?_getD,hp]
    have HFV:=qh hfv;have HFI:=qh hfI;have HA:=qh ha
    have f3:decide ((k:Int)≥(c.ll:Int))=false:=by simp;omega
    have f2':decide ((k:Int)<0)=false:=by simp
    rw [hk] at HAL
    rw [hs] at HAL ⊢
    rw [hk]
    rw [ha] at c3
    have HK:=qh hk
    clear e1 e2 e3 f2 hln hfv hfI ha hk h1 hs
    go_enter Tryz.func136,Tryz.ntmps136
    go_wp2_with fail
    go_quiet (fail)
    go_wp2_with fail
    go_quiet (fail)
    go_wp2_with fail
    rw [<-HR.out]
    exact ⟨Z7 (Z7 HAL.out _) _, .inr ⟨l[k]'hp,k,g,q,q+k*5,f,rfl,HST.out,HFI.out,HFV.out,hgB, .inl ⟨HS.out,HA.out,rfl⟩⟩⟩
   .have HST:Hid (stepP (.mk c.k c.n c.s l ol) s=none):=HNO.out (fun h=>by omega)
    have f3:decide (s.i≥(c.ll:Int))=true:=by simp;omega
    rw [hs] at HAL ⊢
    clear e1 e2 e3 hln hs
    go_enter Tryz.func136,Tryz.ntmps136
    go_wp2_with fail
    go_quiet (fail)
    go_wp2_with fail
    rw [<-HR.out]
    exact ⟨Z7 HAL.out _, .inl ⟨rfl,HST.out⟩⟩
 .have f1:(c.k !=4)=true:=by simp [e1]
  have HST:Hid (stepP (.mk c.k c.n c.s l ol) s=none):=HNO.out (fun h=>e1 h.1)
  rw [hs] at HAL ⊢
  clear e1 hs
  go_enter Tryz.func136,Tryz.ntmps136
  go_wp2_with fail
  go_quiet (fail)
  go_wp2_with fail
  rw [<-HR.out]
  exact ⟨Z7 HAL.out _, .inl ⟨rfl,HST.out⟩⟩
theorem zhj {o:List (ByteArray×V)} {key:ByteArray} (h:fieldIs o key=true):fieldK o key<o.length:=by
 unfold fieldIs at h
 by_cases hl:fieldK o key<o.length
 .exact hl
 .rw [List.getElem?_eq_none (by omega)] at h;simp at h
set_option maxRecDepth 100000 in
theorem zif (w:World) (b o:Nat) (v:V) (c:VC) (s:St) (hv:ValAt w b o c) (hI:IsVal w w.heap.size v c) (hs:s.list=false):
 uP 136 #[.pointer (some ⟨b,o,none⟩), .agg #[.bool s.list, .int .i64 s.i, .string s.key]] w (IntoPost w v c s):=by
 delta uP
 obtain ⟨vk,vn,vs,l,ol,rfl⟩:=v.eta
 obtain ⟨rfl,rfl,rfl,hb,h1,h2⟩:=hI.lists
 have hbw:b<w.heap.size:=World.block_lt_of_cell? w _ hv.c0
 have k1:=h2.max;have k2:=h2.few
 obtain ⟨is,his⟩:∃is,fieldIs ol s.key=is:=⟨_,rfl⟩
 obtain ⟨fk,hfk⟩:∃fk,fieldK ol s.key=fk:=⟨_,rfl⟩
 have HC:Hid (∀W,uB w W->uP 113 #[.agg (uV c), .string s.key] W fun e w'=>e= .returned (.tuple #[.int .i64 (fk:Int), .bool is])/\uB W w'):=fun W hW=>by
  rw [<-his, <-hfk];exact Jo W ol s.key c (h2.later_ hW)
 obtain ⟨R,hR⟩:∃R,IntoPost w (.mk c.k c.n c.s l ol) c s=R:=⟨_,rfl⟩
 have HR:=qh hR
 rw [hR]
 have hno:¬(c.k=5/\is=true)->stepP (.mk c.k c.n c.s l ol) s=none:=fun h=>by
  unfold stepP
  rw [if_neg (by rw [hs];simp),if_neg (show ¬((V.mk c.k c.n c.s l ol).kd=5/\fieldIs (V.mk c.k c.n c.s l ol).os s.key=true) from fun e=>h ⟨e.1,by rw [<-his];exact e.2⟩)]
 have hyes:c.k=5/\is=true->∃(x:V) (g q:Nat) (f:VC),fk<c.ol/\stepP (.mk c.k c.n c.s l ol) s=some (x,fk)/\c.oa=some ⟨g,q,none⟩/\g<w.heap.size/\ValAt w g (q+fk*6+1) f/\IsVal w w.heap.size x f:=fun h=>by
  have hlt:fk<ol.length:=by rw [<-hfk];exact zhj (by rw [his];exact h.2)
  obtain ⟨g,q,f,hp,ha,hgB,hkey,hks,hfv,hfI⟩:=h2.get (k:=fk) (by have:=h2.len;omega)
  refine ⟨_,g,q,f,by have:=h2.len;omega, ?_,ha,hgB,hfv,hfI⟩
  unfold stepP
  rw [if_neg (by rw [hs];simp),if_pos (show (V.mk c.k c.n c.s l ol).kd=5/\fieldIs (V.mk c.k c.n c.s l ol).os s.key=true from ⟨h.1,by rw [<-h.2, <-his];rfl⟩)]
  show some ((ol.getD (fieldK ol s.key) (.empty,V.none)).2,fieldK ol s.key)=_
  rw [hfk]
  simp [List.getD_eq_getElem?_getD,hlt]
 have hal:uB w (w.alloc (.cells #[.bool false, .int .i64 s.i, .string s.key] 82)):=(Below.refl _ _).alloc (Nat.le_refl _) _
 have hbx:BC (w.alloc (.cells #[.bool false, .int .i64 s.i, .string s.key] 82)) w.heap.size [.bool false, .int .i64 s.i, .string s.key] :=BC.start w #[.bool false, .int .i64 s.i, .string s.key] 82
 have hzz:(w.alloc (.cells #[.bool false, .int .i64 s.i, .string s.key] 82)).heap.size=w.heap.size+1:=World.size_alloc ..
 obtain ⟨oa,hoa⟩:∃oa,c.oa=oa:=⟨_,rfl⟩
 have HOA:=qh hoa
 have HV4:Hid (w.cell? ⟨b,o+4,none⟩=some (.slice oa c.ol c.oc)):=by show _=_;rw [<-hoa];exact hv.c4
 clear hoa
 have HNO:=qh hno;have HYES:=qh hyes;have HS:=qh hs;have HV:=qh hv
 rw [hs]
 clear hno hyes hR h1 h2 hI hv hb hs his hfk
 go_enter Tryz.func136,Tryz.ntmps136
 go_upto_region 5 with fail
 generalize World.alloc _ _=wb at hal hbx hzz ⊢
 have HFB:Hid (∀W,Below wb.heap.size wb.drew W->W.cell? ⟨w.heap.size,2,none⟩=some (.string s.key)/\W.cell? ⟨b,o,none⟩=some (.int .u8 c.k)/\W.cell? ⟨b,o+1,none⟩=some (.int .i64 c.n)/\W.cell? ⟨b,o+2,none⟩=some (.string c.s)/\W.cell? ⟨b,o+3,none⟩=some (.slice c.la c.ll c.lc)/\W.cell? ⟨b,o+4,none⟩=some (.slice oa c.ol c.oc)):=by
  intro W hW
  have h3:=(Zf wb).trans hW
  have hk:∀q u,w.cell? ⟨b,q,none⟩=some u->W.cell? ⟨b,q,none⟩=some u:=fun q u h=>Zb (hal.trans (h3.mono hal.size)) h hbw
  exact ⟨Zb h3 (hbx.at_ 2 _ rfl) hbx.lt,hk _ _ HV.out.c0,hk _ _ HV.out.c1,hk _ _ HV.out.c2,hk _ _ HV.out.c3,hk _ _ HV4.out⟩
 have HCW:Hid (∀W,Below wb.heap.size wb.drew W->uP 113 #[.agg (uU c.k c.n c.s c.la c.ll c.lc oa c.ol c.oc), .string s.key] W fun e w'=>e= .returned (.tuple #[.int .i64 (fk:Int), .bool is])/\uB W w'):=fun W hW=>by rw [<-HOA.out];exact HC.out W (hal.trans (((Zf wb).trans hW).mono hal.size))
 have HAL:=qh hal
 clear hal hbx
 refine wp_region_noPanic ?_
 go_region_held_law (fun W=>W.cell? ⟨w.heap.size,2,none⟩=some (.string s.key)/\W.cell? ⟨b,o,none⟩=some (.int .u8 c.k)/\W.cell? ⟨b,o+1,none⟩=some (.int .i64 c.n)/\W.cell? ⟨b,o+2,none⟩=some (.string c.s)/\W.cell? ⟨b,o+3,none⟩=some (.slice c.la c.ll c.lc)/\W.cell? ⟨b,o+4,none⟩=some (.slice oa c.ol c.oc))
  ((refine HFB.out _ ?_;(first|(with_reducible exact bl4)|(with_reducible exact Below.refl _ _))))
  (first
   |(go_at_call 113;(with_reducible refine (HCW.out _ (Below.refl _ _)).mono ?_);rintro e w4 ⟨rfl,hb4⟩;have bl4:Below wb.heap.size wb.drew w4:=hb4))
 refine NoPanic.normal ?_
 have hb4:uB w w4:=HAL.out.trans (((Zf wb).trans bl4).mono HAL.out.size)
 have d0:=Zb hb4 HV.out.c0 hbw;have d4:=Zb hb4 HV4.out hbw
 have hbw4:b<w4.heap.size:=Nat.lt_of_lt_of_le hbw hb4.size
 have HB4:=qh hb4
 clear hb4 bl4
 by_cases e5:c.k=5
 .have f1:(c.k !=5)=false:=by simp [e5]
  cases is with
  | true=>
    obtain ⟨x,g,q,f,hlt,hst,ha,hgB,hfv,hfI⟩:=HYES.out ⟨e5,rfl⟩
    have HST:=qh hst;have HA:=qh ha;have HFV:=qh hfv;have HFI:=qh hfI
    have hoa2:oa=some ⟨g,q,none⟩:=by rw [<-HOA.out];exact ha
    subst hoa2
    clear hst ha hfv hfI e5
    go_wp2_with fail
    rw [<-HR.out]
    exact ⟨HB4.out, .inr ⟨x,fk,g,q,q+fk*6+1,f,rfl,HST.out,HFI.out,HFV.out,hgB, .inr ⟨HS.out,HA.out,rfl⟩⟩⟩
  | false=>
    have HST:Hid (stepP (.mk c.k c.n c.s l ol) s=none):=HNO.out (fun h=>by cases h.2)
    clear e5
    go_wp2_with fail
    rw [<-HR.out]
    exact ⟨HB4.out, .inl ⟨rfl,HST.out⟩⟩
 .have f1:(c.k !=5)=true:=by simp [e5]
  have HST:Hid (stepP (.mk c.k c.n c.s l ol) s=none):=HNO.out (fun h=>e5 h.1)
  clear e5
  go_wp2_with fail
  rw [<-HR.out]
  exact ⟨HB4.out, .inl ⟨rfl,HST.out⟩⟩
theorem za1 (w:World) (b o:Nat) (v:V) (c:VC) (s:St) (hv:ValAt w b o c) (hI:IsVal w w.heap.size v c):
 uP 136 #[.pointer (some ⟨b,o,none⟩), .agg #[.bool s.list, .int .i64 s.i, .string s.key]] w (IntoPost w v c s):=by
 delta uP
 cases hs:s.list with
 |true=>rw [<-hs];exact zf4 w b o v c s hv hI hs
 |false=>rw [<-hs];exact zif w b o v c s hv hI hs
end Go.Proofs.YtbgheehjfnoiiaaGreatDoor
