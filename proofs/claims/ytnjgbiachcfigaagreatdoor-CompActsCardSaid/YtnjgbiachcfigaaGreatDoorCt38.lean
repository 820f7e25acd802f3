/-
  Contracts of the functions that the law reaches: What may be done to a value, as choices.
-/
import Derived.Test.YtnjgbiachcfigaaGreatDoorCt37
import Derived.Test.YtnjgbiachcfigaaGreatDoorCt21
namespace Go.Proofs.YtnjgbiachcfigaaGreatDoor
open Go.RowKit
set_option maxHeartbeats 8000000
structure Ac where
 path:List UInt8
 k:Int
 i:Int
 j:Int
 n:Int
 s:ByteArray
 v:List Tk
structure AC where
 pa:Option Addr
 pl:Nat
 pc:Nat
 k:Int
 i:Int
 j:Int
 n:Int
 s:ByteArray
 va:Option Addr
 vl:Nat
 vc:Nat
structure AC.Bnd (c:AC):Prop where
 k0:0<=c.k
 k1:c.k<256
 i0: -9223372036854775808<=c.i
 i1:c.i<=9223372036854775807
 j0: -9223372036854775808<=c.j
 j1:c.j<=9223372036854775807
 n0: -9223372036854775808<=c.n
 n1:c.n<=9223372036854775807
 s1:c.s.size<=140737488355328
inductive IsAct (w:World) (B:Nat):Ac->AC->Prop
 |mk (c:AC) (p:List UInt8) (v:List Tk) (hb:c.Bnd) (hp:IsB w B c.pa c.pl c.pc p) (hv:IsToks w B v c.va c.vl c.vc):IsAct w B ⟨p,c.k,c.i,c.j,c.n,c.s,v⟩ c
def acells (c:AC):List Value:= [.slice c.pa c.pl c.pc, .int .u8 c.k, .int .i64 c.i, .int .i64 c.j, .int .i64 c.n, .string c.s, .slice c.va c.vl c.vc]
theorem Zy {W:World} {b:Nat} {c0:CC} (h:BC W b (ccells c0)) (d:CC):BC ((((((((((((W.setCell ⟨b,0,none⟩ (.int .u8 d.k)).setCell ⟨b,1,none⟩ (.slice d.pa d.pl d.pc)).setCell ⟨b,2,none⟩ (.string d.key)).setCell ⟨b,3,none⟩ (.int .i64 d.i)).setCell ⟨b,4,none⟩ (.int .i64 d.j)).setCell ⟨b,5,none⟩ (.int .i64 d.n)).setCell ⟨b,6,none⟩ (.int .u8 d.v.k)).setCell ⟨b,7,none⟩ (.int .i64 d.v.n)).setCell ⟨b,8,none⟩ (.string d.v.s)).setCell ⟨b,9,none⟩ (.slice d.v.la d.v.ll d.v.lc)).setCell ⟨b,10,none⟩ (.slice d.v.oa d.v.ol d.v.oc)).setCell ⟨b,11,none⟩ (.string d.s)) b (ccells d):=
 ((((((((((((h.set (i:=0) (x:= .int .u8 d.k) (by simp [ccells])).set (i:=1) (x:= .slice d.pa d.pl d.pc) (by simp [ccells])).set (i:=2) (x:= .string d.key) (by simp [ccells])).set (i:=3) (x:= .int .i64 d.i) (by simp [ccells])).set (i:=4) (x:= .int .i64 d.j) (by simp [ccells])).set (i:=5) (x:= .int .i64 d.n) (by simp [ccells])).set (i:=6) (x:= .int .u8 d.v.k) (by simp [ccells])).set (i:=7) (x:= .int .i64 d.v.n) (by simp [ccells])).set (i:=8) (x:= .string d.v.s) (by simp [ccells])).set (i:=9) (x:= .slice d.v.la d.v.ll d.v.lc) (by simp [ccells])).set (i:=10) (x:= .slice d.v.oa d.v.ol d.v.oc) (by simp [ccells])).set (i:=11) (x:= .string d.s) (by simp [ccells]))
theorem _root_.Go.RowKit.Below.setC {B b:Nat} {a W:World} (h:Below B a W) (hb:B<=b) (d:CC):Below B a ((((((((((((W.setCell ⟨b,0,none⟩ (.int .u8 d.k)).setCell ⟨b,1,none⟩ (.slice d.pa d.pl d.pc)).setCell ⟨b,2,none⟩ (.string d.key)).setCell ⟨b,3,none⟩ (.int .i64 d.i)).setCell ⟨b,4,none⟩ (.int .i64 d.j)).setCell ⟨b,5,none⟩ (.int .i64 d.n)).setCell ⟨b,6,none⟩ (.int .u8 d.v.k)).setCell ⟨b,7,none⟩ (.int .i64 d.v.n)).setCell ⟨b,8,none⟩ (.string d.v.s)).setCell ⟨b,9,none⟩ (.slice d.v.la d.v.ll d.v.lc)).setCell ⟨b,10,none⟩ (.slice d.v.oa d.v.ol d.v.oc)).setCell ⟨b,11,none⟩ (.string d.s)):=
 ((((((((((((h.set_ hb).set_ hb).set_ hb).set_ hb).set_ hb).set_ hb).set_ hb).set_ hb).set_ hb).set_ hb).set_ hb).set_ hb)
structure AB (w W:World) (c:CC) (a:AC) (d:CC:=czero):Prop where
 c:BC W w.heap.size (ccells c)
 a:BC W (w.heap.size+1) (acells a)
 r:BC W (w.heap.size+1+1) (ccells d)
 below:Below w.heap.size w W
theorem AB.startd (w:World) (c:CC) (a:AC) (d:CC) (t1 t2 t3:TypeId):AB w (((w.alloc (.cells #[.int .u8 c.k, .slice c.pa c.pl c.pc, .string c.key, .int .i64 c.i, .int .i64 c.j, .int .i64 c.n, .int .u8 c.v.k, .int .i64 c.v.n, .string c.v.s, .slice c.v.la c.v.ll c.v.lc, .slice c.v.oa c.v.ol c.v.oc, .string c.s] t1)).alloc (.cells #[.slice a.pa a.pl a.pc, .int .u8 a.k, .int .i64 a.i, .int .i64 a.j, .int .i64 a.n, .string a.s, .slice a.va a.vl a.vc] t2)).alloc (.cells #[.int .u8 d.k, .slice d.pa d.pl d.pc, .string d.key, .int .i64 d.i, .int .i64 d.j, .int .i64 d.n, .int .u8 d.v.k, .int .i64 d.v.n, .string d.v.s, .slice d.v.la d.v.ll d.v.lc, .slice d.v.oa d.v.ol d.v.oc, .string d.s] t3)) c a d:=by
 obtain ⟨w1,hw1⟩:∃w1,w.alloc (.cells #[.int .u8 c.k, .slice c.pa c.pl c.pc, .string c.key, .int .i64 c.i, .int .i64 c.j, .int .i64 c.n, .int .u8 c.v.k, .int .i64 c.v.n, .string c.v.s, .slice c.v.la c.v.ll c.v.lc, .slice c.v.oa c.v.ol c.v.oc, .string c.s] t1)=w1:=⟨_,rfl⟩
 have s1:w1.heap.size=w.heap.size+1:=by rw [<-hw1,World.size_alloc]
 have b1:Below w.heap.size w w1:=by rw [<-hw1];exact (Below.refl _ _).alloc (Nat.le_refl _) _
 have c1:BC w1 w.heap.size (ccells c):=by rw [<-hw1];exact BC.start w #[.int .u8 c.k, .slice c.pa c.pl c.pc, .string c.key, .int .i64 c.i, .int .i64 c.j, .int .i64 c.n, .int .u8 c.v.k, .int .i64 c.v.n, .string c.v.s, .slice c.v.la c.v.ll c.v.lc, .slice c.v.oa c.v.ol c.v.oc, .string c.s] t1
 rw [hw1]
 obtain ⟨w2,hw2⟩:∃w2,w1.alloc (.cells #[.slice a.pa a.pl a.pc, .int .u8 a.k, .int .i64 a.i, .int .i64 a.j, .int .i64 a.n, .string a.s, .slice a.va a.vl a.vc] t2)=w2:=⟨_,rfl⟩
 have s2:w2.heap.size=w.heap.size+1+1:=by rw [<-hw2,World.size_alloc,s1]
 have b2:Below w1.heap.size w1 w2:=by rw [<-hw2];exact (Below.refl _ _).alloc (Nat.le_refl _) _
 have c2:=BC.start w1 #[.slice a.pa a.pl a.pc, .int .u8 a.k, .int .i64 a.i, .int .i64 a.j, .int .i64 a.n, .string a.s, .slice a.va a.vl a.vc] t2
 rw [hw2,s1] at c2
 rw [hw2]
 have b3:Below w2.heap.size w2 (w2.alloc (.cells #[.int .u8 d.k, .slice d.pa d.pl d.pc, .string d.key, .int .i64 d.i, .int .i64 d.j, .int .i64 d.n, .int .u8 d.v.k, .int .i64 d.v.n, .string d.v.s, .slice d.v.la d.v.ll d.v.lc, .slice d.v.oa d.v.ol d.v.oc, .string d.s] t3)):=(Below.refl _ _).alloc (Nat.le_refl _) _
 have c3:=BC.start w2 #[.int .u8 d.k, .slice d.pa d.pl d.pc, .string d.key, .int .i64 d.i, .int .i64 d.j, .int .i64 d.n, .int .u8 d.v.k, .int .i64 d.v.n, .string d.v.s, .slice d.v.la d.v.ll d.v.lc, .slice d.v.oa d.v.ol d.v.oc, .string d.s] t3
 rw [s2] at c3
 exact ⟨(c1.keep b2 (by omega)).keep b3 (by omega),c2.keep b3 (by omega),c3,(b1.trans (b2.mono (by omega))).trans (b3.mono (by omega))⟩
theorem AB.start (w:World) (c:CC) (a:AC) (t1 t2 t3:TypeId):AB w (((w.alloc (.cells #[.int .u8 c.k, .slice c.pa c.pl c.pc, .string c.key, .int .i64 c.i, .int .i64 c.j, .int .i64 c.n, .int .u8 c.v.k, .int .i64 c.v.n, .string c.v.s, .slice c.v.la c.v.ll c.v.lc, .slice c.v.oa c.v.ol c.v.oc, .string c.s] t1)).alloc (.cells #[.slice a.pa a.pl a.pc, .int .u8 a.k, .int .i64 a.i, .int .i64 a.j, .int .i64 a.n, .string a.s, .slice a.va a.vl a.vc] t2)).alloc (.cells #[.int .u8 0, .slice none 0 0, .string { data:= #[] }, .int .i64 0, .int .i64 0, .int .i64 0, .int .u8 0, .int .i64 0, .string { data:= #[] }, .slice none 0 0, .slice none 0 0, .string { data:= #[] }] t3)) c a:=
 AB.startd w c a czero t1 t2 t3
theorem AB.next {w W W':World} {c d:CC} {a:AC} {B:Nat} (h:AB w W c a d) (hb:Below B W W') (hB:w.heap.size+3<=B):AB w W' c a d:=
 ⟨h.c.keep hb (by omega),h.a.keep hb (by omega),h.r.keep hb (by omega),h.below.trans (hb.mono (by omega))⟩
theorem AB.facts {w W:World} {c d:CC} {a:AC} (B:AB w W c a d):W.cell? ⟨w.heap.size,0,none⟩=some (.int .u8 c.k)/\W.cell? ⟨w.heap.size,1,none⟩=some (.slice c.pa c.pl c.pc)/\W.cell? ⟨w.heap.size,2,none⟩=some (.string c.key)/\W.cell? ⟨w.heap.size,3,none⟩=some (.int .i64 c.i)/\W.cell? ⟨w.heap.size,4,none⟩=some (.int .i64 c.j)/\W.cell? ⟨w.heap.size,5,none⟩=some (.int .i64 c.n)/\W.cell? ⟨w.heap.size,6,none⟩=some (.int .u8 c.v.k)/\W.cell? ⟨w.heap.size,7,none⟩=some (.int .i64 c.v.n)/\W.cell? ⟨w.heap.size,8,none⟩=some (.string c.v.s)/\W.cell? ⟨w.heap.size,9,none⟩=some (.slice c.v.la c.v.ll c.v.lc)/\W.cell? ⟨w.heap.size,10,none⟩=some (.slice c.v.oa c.v.ol c.v.oc)/\W.cell? ⟨w.heap.size,11,none⟩=some (.string c.s)/\W.cell? ⟨w.heap.size+1,0,none⟩=some (.slice a.pa a.pl a.pc)/\W.cell? ⟨w.heap.size+1,1,none⟩=some (.int .u8 a.k)/\W.cell? ⟨w.heap.size+1,2,none⟩=some (.int .i64 a.i)/\W.cell? ⟨w.heap.size+1,3,none⟩=some (.int .i64 a.j)/\W.cell? ⟨w.heap.size+1,4,none⟩=some (.int .i64 a.n)/\W.cell? ⟨w.heap.size+1,5,none⟩=some (.string a.s)/\W.cell? ⟨w.heap.size+1,6,none⟩=some (.slice a.va a.vl a.vc)/\W.cell? ⟨w.heap.size+1+1,0,none⟩=some (.int .u8 d.k)/\W.cell? ⟨w.heap.size+1+1,1,none⟩=some (.slice d.pa d.pl d.pc)/\W.cell? ⟨w.heap.size+1+1,2,none⟩=some (.string d.key)/\W.cell? ⟨w.heap.size+1+1,3,none⟩=some (.int .i64 d.i)/\W.cell? ⟨w.heap.size+1+1,4,none⟩=some (.int .i64 d.j)/\W.cell? ⟨w.heap.size+1+1,5,none⟩=some (.int .i64 d.n)/\W.cell? ⟨w.heap.size+1+1,6,none⟩=some (.int .u8 d.v.k)/\W.cell? ⟨w.heap.size+1+1,7,none⟩=some (.int .i64 d.v.n)/\W.cell? ⟨w.heap.size+1+1,8,none⟩=some (.string d.v.s)/\W.cell? ⟨w.heap.size+1+1,9,none⟩=some (.slice d.v.la d.v.ll d.v.lc)/\W.cell? ⟨w.heap.size+1+1,10,none⟩=some (.slice d.v.oa d.v.ol d.v.oc)/\W.cell? ⟨w.heap.size+1+1,11,none⟩=some (.string d.s)/\W.frozen? ⟨w.heap.size,0,none⟩=false/\W.frozen? ⟨w.heap.size,1,none⟩=false/\W.frozen? ⟨w.heap.size,2,none⟩=false/\W.frozen? ⟨w.heap.size,3,none⟩=false/\W.frozen? ⟨w.heap.size,4,none⟩=false/\W.frozen? ⟨w.heap.size,5,none⟩=false/\W.frozen? ⟨w.heap.size,6,none⟩=false/\W.frozen? ⟨w.heap.size,7,none⟩=false/\W.frozen? ⟨w.heap.size,8,none⟩=false/\W.frozen? ⟨w.heap.size,9,none⟩=false/\W.frozen? ⟨w.heap.size,10,none⟩=false/\W.frozen? ⟨w.heap.size,11,none⟩=false/\W.frozen? ⟨w.heap.size+1+1,0,none⟩=false/\W.frozen? ⟨w.heap.size+1+1,1,none⟩=false/\W.frozen? ⟨w.heap.size+1+1,2,none⟩=false/\W.frozen? ⟨w.heap.size+1+1,3,none⟩=false/\W.frozen? ⟨w.heap.size+1+1,4,none⟩=false/\W.frozen? ⟨w.heap.size+1+1,5,none⟩=false/\W.frozen? ⟨w.heap.size+1+1,6,none⟩=false/\W.frozen? ⟨w.heap.size+1+1,7,none⟩=false/\W.frozen? ⟨w.heap.size+1+1,8,none⟩=false/\W.frozen? ⟨w.heap.size+1+1,9,none⟩=false/\W.frozen? ⟨w.heap.size+1+1,10,none⟩=false/\W.frozen? ⟨w.heap.size+1+1,11,none⟩=false/\w.heap.size<W.heap.size/\w.heap.size+1<W.heap.size/\w.heap.size+1+1<W.heap.size:=
 ⟨B.c.at_ 0 _ rfl,B.c.at_ 1 _ rfl,B.c.at_ 2 _ rfl,B.c.at_ 3 _ rfl,B.c.at_ 4 _ rfl,B.c.at_ 5 _ rfl,B.c.at_ 6 _ rfl,B.c.at_ 7 _ rfl,B.c.at_ 8 _ rfl,B.c.at_ 9 _ rfl,B.c.at_ 10 _ rfl,B.c.at_ 11 _ rfl,B.a.at_ 0 _ rfl,B.a.at_ 1 _ rfl,B.a.at_ 2 _ rfl,B.a.at_ 3 _ rfl,B.a.at_ 4 _ rfl,B.a.at_ 5 _ rfl,B.a.at_ 6 _ rfl,B.r.at_ 0 _ rfl,B.r.at_ 1 _ rfl,B.r.at_ 2 _ rfl,B.r.at_ 3 _ rfl,B.r.at_ 4 _ rfl,B.r.at_ 5 _ rfl,B.r.at_ 6 _ rfl,B.r.at_ 7 _ rfl,B.r.at_ 8 _ rfl,B.r.at_ 9 _ rfl,B.r.at_ 10 _ rfl,B.r.at_ 11 _ rfl,B.c.fr 0,B.c.fr 1,B.c.fr 2,B.c.fr 3,B.c.fr 4,B.c.fr 5,B.c.fr 6,B.c.fr 7,B.c.fr 8,B.c.fr 9,B.c.fr 10,B.c.fr 11,B.r.fr 0,B.r.fr 1,B.r.fr 2,B.r.fr 3,B.r.fr 4,B.r.fr 5,B.r.fr 6,B.r.fr 7,B.r.fr 8,B.r.fr 9,B.r.fr 10,B.r.fr 11,B.c.lt,B.a.lt,B.r.lt⟩
theorem X0 {tmps:Array Value} {W:World} {b:Nat} {d:CC} (ht:tmps[6]? =some (.pointer (some ⟨b,0,none⟩))) (h:BC W b (ccells d)):
 (results Tryz.f40 tmps).run Tryz.prog W= .ok (.agg #[.int .u8 d.k, .slice d.pa d.pl d.pc, .string d.key, .int .i64 d.i, .int .i64 d.j, .int .i64 d.n, .int .u8 d.v.k, .int .i64 d.v.n, .string d.v.s, .slice d.v.la d.v.ll d.v.lc, .slice d.v.oa d.v.ol d.v.oc, .string d.s]) W:=by
 obtain ⟨r0,r1,r2,r3,r4,r5,r6,r7,r8,r9,r10,r11⟩:=row12 h.at_
 simp [results,Tryz.results40,go_sem,ht,r0,r1,r2,r3,r4,r5,r6,r7,r8,r9,r10,r11]
theorem Y4 (W:World) (b:Nat) (d:CC):RStep W ((((((((((((W.setCell ⟨b,0,none⟩ (.int .u8 d.k)).setCell ⟨b,1,none⟩ (.slice d.pa d.pl d.pc)).setCell ⟨b,2,none⟩ (.string d.key)).setCell ⟨b,3,none⟩ (.int .i64 d.i)).setCell ⟨b,4,none⟩ (.int .i64 d.j)).setCell ⟨b,5,none⟩ (.int .i64 d.n)).setCell ⟨b,6,none⟩ (.int .u8 d.v.k)).setCell ⟨b,7,none⟩ (.int .i64 d.v.n)).setCell ⟨b,8,none⟩ (.string d.v.s)).setCell ⟨b,9,none⟩ (.slice d.v.la d.v.ll d.v.lc)).setCell ⟨b,10,none⟩ (.slice d.v.oa d.v.ol d.v.oc)).setCell ⟨b,11,none⟩ (.string d.s)) b:=(((((((((((RStep.self.trans RStep.self).trans RStep.self).trans RStep.self).trans RStep.self).trans RStep.self).trans RStep.self).trans RStep.self).trans RStep.self).trans RStep.self).trans RStep.self).trans RStep.self)
def listK (n:Nat) (k:Int):Int:=if n=0 then 4 else 4+k % 4
def listA (n:Nat) (a:AC) (c:CC) (cv:VC):CC:=
 { c with k:=listK n a.k,i:=if listK n a.k=4 then max a.i 0 % ((n:Int)+1) else max a.i 0 % n,j:=if listK n a.k=7 then max a.j 0 % n else c.j,v:=cv }
noncomputable def listV (n:Nat) (k:Int) (l:List Tk):V:=if listK n k=4∨listK n k=6 then (oneP 6 (l.take 60)).1 else V.none
def ListAPost (w:World) (n:Nat) (a:AC) (c:CC) (l:List Tk) (e:Ending) (w':World):Prop:=
 (∃cv:VC,e= .returned (.agg #[.int .u8 (listA n a c cv).k, .slice (listA n a c cv).pa (listA n a c cv).pl (listA n a c cv).pc, .string (listA n a c cv).key, .int .i64 (listA n a c cv).i, .int .i64 (listA n a c cv).j, .int .i64 (listA n a c cv).n, .int .u8 (listA n a c cv).v.k, .int .i64 (listA n a c cv).v.n, .string (listA n a c cv).v.s, .slice (listA n a c cv).v.la (listA n a c cv).v.ll (listA n a c cv).v.lc, .slice (listA n a c cv).v.oa (listA n a c cv).v.ol (listA n a c cv).v.oc, .string (listA n a c cv).s])/\IsVal (only (fun b=>w.heap.size<=b) w') w'.heap.size (listV n a.k l) cv)/\Below w.heap.size w w'
set_option maxRecDepth 100000 in
theorem zgt (w:World) (c:CC) (hcv:c.v=vzero) (a:AC) (ha:a.Bnd) (l:List Tk) (hv:IsToks w w.heap.size l a.va a.vl a.vc):
 Calls Tryz.prog 40 #[.agg #[.int .u8 c.k, .slice c.pa c.pl c.pc, .string c.key, .int .i64 c.i, .int .i64 c.j, .int .i64 c.n, .int .u8 c.v.k, .int .i64 c.v.n, .string c.v.s, .slice c.v.la c.v.ll c.v.lc, .slice c.v.oa c.v.ol c.v.oc, .string c.s], .agg #[.slice a.pa a.pl a.pc, .int .u8 a.k, .int .i64 a.i, .int .i64 a.j, .int .i64 a.n, .string a.s, .slice a.va a.vl a.vc], .int .i64 0] w (ListAPost w 0 a c l):=by
 have HBD:Hid (∀W,Below w.heap.size w W->Calls Tryz.prog 13 #[.slice a.va a.vl a.vc] W fun e w'=>(∃cv:VC,e= .returned (.agg #[.int .u8 cv.k, .int .i64 cv.n, .string cv.s, .slice cv.la cv.ll cv.lc, .slice cv.oa cv.ol cv.oc])/\IsVal (only (fun b=>W.heap.size<=b) w') w'.heap.size (oneP 6 (l.take 60)).1 cv)/\Below W.heap.size W w'):=fun W hW=>Yp W l _ _ _ (hv.later_ hW)
 have HB:=qh (AB.start w { c with k:=4,i:=0 } a 39 25 39)
 have hK:listK 0 a.k=4:=by simp [listK]
 have hA:listA 0 a c=fun cv=> { c with k:=4,i:=0,v:=cv } :=by funext cv;rw [listA,hK];simp
 have hV:listV 0 a.k l=(oneP 6 (l.take 60)).1:=by rw [listV,hK];simp
 obtain ⟨PP,hPP⟩:∃PP,ListAPost w 0 a c l=PP:=⟨_,rfl⟩
 have HPP:=qh hPP
 have HA:=qh hA;have HV:=qh hV;have HCV:=qh hcv
 rw [hPP]
 have i0:=ha.i0;have i1:=ha.i1;have j0:=ha.j0;have j1:=ha.j1;have k0:=ha.k0
 clear hPP hA hV hcv hK ha hv
 go_enter Tryz.func40,Tryz.ntmps40
 generalize hQ0:bodyPost _ _ _=Q0
 have HQ:=qh hQ0
 clear hQ0
 go_wp2_with fail
 refine (HBD.out _ HB.out.below).mono ?_
 rintro e w1 ⟨⟨cv,rfl,hv1⟩,hb1⟩
 have B:=HB.out.next hb1 (by simp)
 obtain ⟨b0,b1,b2,b3,b4,b5,b6,b7,b8,b9,b10,b11,a0,a1,a2,a3,a4,a5,a6,r0,r1,r2,r3,r4,r5,r6,r7,r8,r9,r10,r11,bf0,bf1,bf2,bf3,bf4,bf5,bf6,bf7,bf8,bf9,bf10,bf11,rf0,rf1,rf2,rf3,rf4,rf5,rf6,rf7,rf8,rf9,rf10,rf11,z0,z1,z2⟩:=B.facts
 have HBW:=qh B
 have hz1:w.heap.size+1+1+1<=w1.heap.size:=by omega
 have hv2:=Zm (Zm hv1 (Zi w1 w.heap.size 6 cv) (by simp;try omega)) (Y4 _ (w.heap.size+1+1) { c with k:=4,i:=0,v:=cv }) (by simp)
 have h2:=Zy (((((HBW.out.r.far (o:=6) (x:= .int .u8 cv.k) (show w.heap.size+1+1≠w.heap.size by omega)).far (o:=7) (x:= .int .i64 cv.n) (show w.heap.size+1+1≠w.heap.size by omega)).far (o:=8) (x:= .string cv.s) (show w.heap.size+1+1≠w.heap.size by omega)).far (o:=9) (x:= .slice cv.la cv.ll cv.lc) (show w.heap.size+1+1≠w.heap.size by omega)).far (o:=10) (x:= .slice cv.oa cv.ol cv.oc) (show w.heap.size+1+1≠w.heap.size by omega)) { c with k:=4,i:=0,v:=cv }
 have h3:=Below.setC (((((HBW.out.below.set_ (o:=6) (x:= .int .u8 cv.k) (Nat.le_refl _)).set_ (o:=7) (x:= .int .i64 cv.n) (Nat.le_refl _)).set_ (o:=8) (x:= .string cv.s) (Nat.le_refl _)).set_ (o:=9) (x:= .slice cv.la cv.ll cv.lc) (Nat.le_refl _)).set_ (o:=10) (x:= .slice cv.oa cv.ol cv.oc) (Nat.le_refl _)) (show w.heap.size<=w.heap.size+1+1 by omega) { c with k:=4,i:=0,v:=cv }
 dsimp only at h2 h3 hv2
 have H2:=qh h2
 have H3:=qh h3
 have HV2:=qh hv2
 clear h2 h3 hv1 hv2 B hb1
 go_wp2_with fail
 rw [<-HQ.out]
 generalize hA:({ tmps:=_,defers:=_ } :Act)=A
 have h4:A.tmps[6]? =some (.pointer (some ⟨w.heap.size+1+1,0,none⟩)):=by rw [<-hA];rfl
 have h5:A.defers= [] :=by rw [<-hA]
 clear hA
 rw [<-HPP.out]
 refine ⟨h5,_,X0 h4 H2.out, ?_⟩
 exact ⟨⟨cv,by rw [HA.out],by rw [HV.out];exact HV2.out.sub (Ze fun k hk _=>⟨by simp at hk;omega,rfl⟩)⟩,H3.out⟩
set_option maxRecDepth 100000 in
theorem zdl (w:World) (c:CC) (hcv:c.v=vzero) (a:AC) (ha:a.Bnd) (n:Nat) (hn:n<=1466015503701) (hn0:0<n) (hk:a.k % 4=0) (l:List Tk) (hv:IsToks w w.heap.size l a.va a.vl a.vc):
 Calls Tryz.prog 40 #[.agg #[.int .u8 c.k, .slice c.pa c.pl c.pc, .string c.key, .int .i64 c.i, .int .i64 c.j, .int .i64 c.n, .int .u8 c.v.k, .int .i64 c.v.n, .string c.v.s, .slice c.v.la c.v.ll c.v.lc, .slice c.v.oa c.v.ol c.v.oc, .string c.s], .agg #[.slice a.pa a.pl a.pc, .int .u8 a.k, .int .i64 a.i, .int .i64 a.j, .int .i64 a.n, .string a.s, .slice a.va a.vl a.vc], .int .i64 n] w (ListAPost w n a c l):=by
 have HBD:Hid (∀W,Below w.heap.size w W->Calls Tryz.prog 13 #[.slice a.va a.vl a.vc] W fun e w'=>(∃cv:VC,e= .returned (.agg #[.int .u8 cv.k, .int .i64 cv.n, .string cv.s, .slice cv.la cv.ll cv.lc, .slice cv.oa cv.ol cv.oc])/\IsVal (only (fun b=>W.heap.size<=b) w') w'.heap.size (oneP 6 (l.take 60)).1 cv)/\Below W.heap.size W w'):=fun W hW=>Yp W l _ _ _ (hv.later_ hW)
 have HB:=qh (AB.start w { c with k:=4,i:=max a.i 0 % ((n:Int)+1) } a 39 25 39)
 have hK:listK n a.k=4:=by rw [listK,if_neg (by omega)];omega
 have hA:listA n a c=fun cv=> { c with k:=4,i:=max a.i 0 % ((n:Int)+1),v:=cv } :=by funext cv;rw [listA,hK];simp
 have hV:listV n a.k l=(oneP 6 (l.take 60)).1:=by rw [listV,hK];simp
 obtain ⟨PP,hPP⟩:∃PP,ListAPost w n a c l=PP:=⟨_,rfl⟩
 have HPP:=qh hPP
 have HA:=qh hA;have HV:=qh hV;have HCV:=qh hcv
 rw [hPP]
 have i0:=ha.i0;have i1:=ha.i1;have j0:=ha.j0;have j1:=ha.j1;have k0:=ha.k0
 clear hPP hA hV hcv hK ha hv
 have hI0:0<=max a.i 0 % (n:Int):=Int.emod_nonneg _ (by omega)
 have hI1:max a.i 0 % (n:Int)<n:=Int.emod_lt_of_pos _ (by omega)
 have hJ0:0<=max a.j 0 % (n:Int):=Int.emod_nonneg _ (by omega)
 have hJ1:max a.j 0 % (n:Int)<n:=Int.emod_lt_of_pos _ (by omega)
 go_enter Tryz.func40,Tryz.ntmps40
 generalize hQ0:bodyPost _ _ _=Q0
 have HQ:=qh hQ0
 clear hQ0
 go_wp2_with fail
 refine (HBD.out _ HB.out.below).mono ?_
 rintro e w1 ⟨⟨cv,rfl,hv1⟩,hb1⟩
 have B:=HB.out.next hb1 (by simp)
 obtain ⟨b0,b1,b2,b3,b4,b5,b6,b7,b8,b9,b10,b11,a0,a1,a2,a3,a4,a5,a6,r0,r1,r2,r3,r4,r5,r6,r7,r8,r9,r10,r11,bf0,bf1,bf2,bf3,bf4,bf5,bf6,bf7,bf8,bf9,bf10,bf11,rf0,rf1,rf2,rf3,rf4,rf5,rf6,rf7,rf8,rf9,rf10,rf11,z0,z1,z2⟩:=B.facts
 have HBW:=qh B
 have hz1:w.heap.size+1+1+1<=w1.heap.size:=by omega
 have hv2:=Zm (Zm hv1 (Zi w1 w.heap.size 6 cv) (by simp;try omega)) (Y4 _ (w.heap.size+1+1) { c with k:=4,i:=max a.i 0 % ((n:Int)+1),v:=cv }) (by simp)
 have h2:=Zy (((((HBW.out.r.far (o:=6) (x:= .int .u8 cv.k) (show w.heap.size+1+1≠w.heap.size by omega)).far (o:=7) (x:= .int .i64 cv.n) (show w.heap.size+1+1≠w.heap.size by omega)).far (o:=8) (x:= .string cv.s) (show w.heap.size+1+1≠w.heap.size by omega)).far (o:=9) (x:= .slice cv.la cv.ll cv.lc) (show w.heap.size+1+1≠w.heap.size by omega)).far (o:=10) (x:= .slice cv.oa cv.ol cv.oc) (show w.heap.size+1+1≠w.heap.size by omega)) { c with k:=4,i:=max a.i 0 % ((n:Int)+1),v:=cv }
 have h3:=Below.setC (((((HBW.out.below.set_ (o:=6) (x:= .int .u8 cv.k) (Nat.le_refl _)).set_ (o:=7) (x:= .int .i64 cv.n) (Nat.le_refl _)).set_ (o:=8) (x:= .string cv.s) (Nat.le_refl _)).set_ (o:=9) (x:= .slice cv.la cv.ll cv.lc) (Nat.le_refl _)).set_ (o:=10) (x:= .slice cv.oa cv.ol cv.oc) (Nat.le_refl _)) (show w.heap.size<=w.heap.size+1+1 by omega) { c with k:=4,i:=max a.i 0 % ((n:Int)+1),v:=cv }
 dsimp only at h2 h3 hv2
 have H2:=qh h2
 have H3:=qh h3
 have HV2:=qh hv2
 clear h2 h3 hv1 hv2 B hb1
 go_wp2_with fail
 rw [<-HQ.out]
 generalize hA:({ tmps:=_,defers:=_ } :Act)=A
 have h4:A.tmps[6]? =some (.pointer (some ⟨w.heap.size+1+1,0,none⟩)):=by rw [<-hA];rfl
 have h5:A.defers= [] :=by rw [<-hA]
 clear hA
 rw [<-HPP.out]
 refine ⟨h5,_,X0 h4 H2.out, ?_⟩
 exact ⟨⟨cv,by rw [HA.out],by rw [HV.out];exact HV2.out.sub (Ze fun k hk _=>⟨by simp at hk;omega,rfl⟩)⟩,H3.out⟩
set_option maxRecDepth 100000 in
theorem zha (w:World) (c:CC) (hcv:c.v=vzero) (a:AC) (ha:a.Bnd) (n:Nat) (hn:n<=1466015503701) (hn0:0<n) (hk:a.k % 4=1) (l:List Tk) (hv:IsToks w w.heap.size l a.va a.vl a.vc):
 Calls Tryz.prog 40 #[.agg #[.int .u8 c.k, .slice c.pa c.pl c.pc, .string c.key, .int .i64 c.i, .int .i64 c.j, .int .i64 c.n, .int .u8 c.v.k, .int .i64 c.v.n, .string c.v.s, .slice c.v.la c.v.ll c.v.lc, .slice c.v.oa c.v.ol c.v.oc, .string c.s], .agg #[.slice a.pa a.pl a.pc, .int .u8 a.k, .int .i64 a.i, .int .i64 a.j, .int .i64 a.n, .string a.s, .slice a.va a.vl a.vc], .int .i64 n] w (ListAPost w n a c l):=by
 have HBD:Hid (∀W,Below w.heap.size w W->Calls Tryz.prog 13 #[.slice a.va a.vl a.vc] W fun e w'=>(∃cv:VC,e= .returned (.agg #[.int .u8 cv.k, .int .i64 cv.n, .string cv.s, .slice cv.la cv.ll cv.lc, .slice cv.oa cv.ol cv.oc])/\IsVal (only (fun b=>W.heap.size<=b) w') w'.heap.size (oneP 6 (l.take 60)).1 cv)/\Below W.heap.size W w'):=fun W hW=>Yp W l _ _ _ (hv.later_ hW)
 have HB:=qh (AB.startd w { c with k:=5,i:=max a.i 0 % (n:Int) } a { c with k:=5,i:=max a.i 0 % (n:Int) } 39 25 39)
 have hK:listK n a.k=5:=by rw [listK,if_neg (by omega)];omega
 have hA:listA n a c=fun cv=> { c with k:=5,i:=max a.i 0 % (n:Int),v:=cv } :=by funext cv;rw [listA,hK];simp
 have hV:listV n a.k l=V.none:=by rw [listV,hK];simp
 obtain ⟨PP,hPP⟩:∃PP,ListAPost w n a c l=PP:=⟨_,rfl⟩
 have HPP:=qh hPP
 have HA:=qh hA;have HV:=qh hV;have HCV:=qh hcv
 rw [hPP]
 have i0:=ha.i0;have i1:=ha.i1;have j0:=ha.j0;have j1:=ha.j1;have k0:=ha.k0
 clear hPP hA hV hcv hK ha hv
 have hI0:0<=max a.i 0 % (n:Int):=Int.emod_nonneg _ (by omega)
 have hI1:max a.i 0 % (n:Int)<n:=Int.emod_lt_of_pos _ (by omega)
 have hJ0:0<=max a.j 0 % (n:Int):=Int.emod_nonneg _ (by omega)
 have hJ1:max a.j 0 % (n:Int)<n:=Int.emod_lt_of_pos _ (by omega)
 go_enter Tryz.func40,Tryz.ntmps40
 generalize hQ0:bodyPost _ _ _=Q0
 have HQ:=qh hQ0
 clear hQ0
 go_wp2_with fail
 have H2:=qh HB.out.r
 have H3:=qh HB.out.below
 rw [<-HQ.out]
 generalize hA:({ tmps:=_,defers:=_ } :Act)=A
 have h4:A.tmps[6]? =some (.pointer (some ⟨w.heap.size+1+1,0,none⟩)):=by rw [<-hA];rfl
 have h5:A.defers= [] :=by rw [<-hA]
 clear hA
 rw [<-HPP.out]
 refine ⟨h5,_,X0 h4 H2.out, ?_⟩
 exact ⟨⟨c.v,by rw [HA.out],by rw [HV.out,HCV.out];exact Zx _ _⟩,H3.out⟩
set_option maxRecDepth 100000 in
theorem zd9 (w:World) (c:CC) (hcv:c.v=vzero) (a:AC) (ha:a.Bnd) (n:Nat) (hn:n<=1466015503701) (hn0:0<n) (hk:a.k % 4=2) (l:List Tk) (hv:IsToks w w.heap.size l a.va a.vl a.vc):
 Calls Tryz.prog 40 #[.agg #[.int .u8 c.k, .slice c.pa c.pl c.pc, .string c.key, .int .i64 c.i, .int .i64 c.j, .int .i64 c.n, .int .u8 c.v.k, .int .i64 c.v.n, .string c.v.s, .slice c.v.la c.v.ll c.v.lc, .slice c.v.oa c.v.ol c.v.oc, .string c.s], .agg #[.slice a.pa a.pl a.pc, .int .u8 a.k, .int .i64 a.i, .int .i64 a.j, .int .i64 a.n, .string a.s, .slice a.va a.vl a.vc], .int .i64 n] w (ListAPost w n a c l):=by
 have HBD:Hid (∀W,Below w.heap.size w W->Calls Tryz.prog 13 #[.slice a.va a.vl a.vc] W fun e w'=>(∃cv:VC,e= .returned (.agg #[.int .u8 cv.k, .int .i64 cv.n, .string cv.s, .slice cv.la cv.ll cv.lc, .slice cv.oa cv.ol cv.oc])/\IsVal (only (fun b=>W.heap.size<=b) w') w'.heap.size (oneP 6 (l.take 60)).1 cv)/\Below W.heap.size W w'):=fun W hW=>Yp W l _ _ _ (hv.later_ hW)
 have HB:=qh (AB.start w { c with k:=6,i:=max a.i 0 % (n:Int) } a 39 25 39)
 have hK:listK n a.k=6:=by rw [listK,if_neg (by omega)];omega
 have hA:listA n a c=fun cv=> { c with k:=6,i:=max a.i 0 % (n:Int),v:=cv } :=by funext cv;rw [listA,hK];simp
 have hV:listV n a.k l=(oneP 6 (l.take 60)).1:=by rw [listV,hK];simp
 obtain ⟨PP,hPP⟩:∃PP,ListAPost w n a c l=PP:=⟨_,rfl⟩
 have HPP:=qh hPP
 have HA:=qh hA;have HV:=qh hV;have HCV:=qh hcv
 rw [hPP]
 have i0:=ha.i0;have i1:=ha.i1;have j0:=ha.j0;have j1:=ha.j1;have k0:=ha.k0
 clear hPP hA hV hcv hK ha hv
 have hI0:0<=max a.i 0 % (n:Int):=Int.emod_nonneg _ (by omega)
 have hI1:max a.i 0 % (n:Int)<n:=Int.emod_lt_of_pos _ (by omega)
 have hJ0:0<=max a.j 0 % (n:Int):=Int.emod_nonneg _ (by omega)
 have hJ1:max a.j 0 % (n:Int)<n:=Int.emod_lt_of_pos _ (by omega)
 go_enter Tryz.func40,Tryz.ntmps40
 generalize hQ0:bodyPost _ _ _=Q0
 have HQ:=qh hQ0
 clear hQ0
 go_wp2_with fail
 refine (HBD.out _ HB.out.below).mono ?_
 rintro e w1 ⟨⟨cv,rfl,hv1⟩,hb1⟩
 have B:=HB.out.next hb1 (by simp)
 obtain ⟨b0,b1,b2,b3,b4,b5,b6,b7,b8,b9,b10,b11,a0,a1,a2,a3,a4,a5,a6,r0,r1,r2,r3,r4,r5,r6,r7,r8,r9,r10,r11,bf0,bf1,bf2,bf3,bf4,bf5,bf6,bf7,bf8,bf9,bf10,bf11,rf0,rf1,rf2,rf3,rf4,rf5,rf6,rf7,rf8,rf9,rf10,rf11,z0,z1,z2⟩:=B.facts
 have HBW:=qh B
 have hz1:w.heap.size+1+1+1<=w1.heap.size:=by omega
 have hv2:=Zm (Zm hv1 (Zi w1 w.heap.size 6 cv) (by simp;try omega)) (Y4 _ (w.heap.size+1+1) { c with k:=6,i:=max a.i 0 % (n:Int),v:=cv }) (by simp)
 have h2:=Zy (((((HBW.out.r.far (o:=6) (x:= .int .u8 cv.k) (show w.heap.size+1+1≠w.heap.size by omega)).far (o:=7) (x:= .int .i64 cv.n) (show w.heap.size+1+1≠w.heap.size by omega)).far (o:=8) (x:= .string cv.s) (show w.heap.size+1+1≠w.heap.size by omega)).far (o:=9) (x:= .slice cv.la cv.ll cv.lc) (show w.heap.size+1+1≠w.heap.size by omega)).far (o:=10) (x:= .slice cv.oa cv.ol cv.oc) (show w.heap.size+1+1≠w.heap.size by omega)) { c with k:=6,i:=max a.i 0 % (n:Int),v:=cv }
 have h3:=Below.setC (((((HBW.out.below.set_ (o:=6) (x:= .int .u8 cv.k) (Nat.le_refl _)).set_ (o:=7) (x:= .int .i64 cv.n) (Nat.le_refl _)).set_ (o:=8) (x:= .string cv.s) (Nat.le_refl _)).set_ (o:=9) (x:= .slice cv.la cv.ll cv.lc) (Nat.le_refl _)).set_ (o:=10) (x:= .slice cv.oa cv.ol cv.oc) (Nat.le_refl _)) (show w.heap.size<=w.heap.size+1+1 by omega) { c with k:=6,i:=max a.i 0 % (n:Int),v:=cv }
 dsimp only at h2 h3 hv2
 have H2:=qh h2
 have H3:=qh h3
 have HV2:=qh hv2
 clear h2 h3 hv1 hv2 B hb1
 go_wp2_with fail
 rw [<-HQ.out]
 generalize hA:({ tmps:=_,defers:=_ } :Act)=A
 have h4:A.tmps[6]? =some (.pointer (some ⟨w.heap.size+1+1,0,none⟩)):=by rw [<-hA];rfl
 have h5:A.defers= [] :=by rw [<-hA]
 clear hA
 rw [<-HPP.out]
 refine ⟨h5,_,X0 h4 H2.out, ?_⟩
 exact ⟨⟨cv,by rw [HA.out],by rw [HV.out];exact HV2.out.sub (Ze fun k hk _=>⟨by simp at hk;omega,rfl⟩)⟩,H3.out⟩
set_option maxRecDepth 100000 in
theorem ze5 (w:World) (c:CC) (hcv:c.v=vzero) (a:AC) (ha:a.Bnd) (n:Nat) (hn:n<=1466015503701) (hn0:0<n) (hk:a.k % 4=3) (l:List Tk) (hv:IsToks w w.heap.size l a.va a.vl a.vc):
 Calls Tryz.prog 40 #[.agg #[.int .u8 c.k, .slice c.pa c.pl c.pc, .string c.key, .int .i64 c.i, .int .i64 c.j, .int .i64 c.n, .int .u8 c.v.k, .int .i64 c.v.n, .string c.v.s, .slice c.v.la c.v.ll c.v.lc, .slice c.v.oa c.v.ol c.v.oc, .string c.s], .agg #[.slice a.pa a.pl a.pc, .int .u8 a.k, .int .i64 a.i, .int .i64 a.j, .int .i64 a.n, .string a.s, .slice a.va a.vl a.vc], .int .i64 n] w (ListAPost w n a c l):=by
 have HBD:Hid (∀W,Below w.heap.size w W->Calls Tryz.prog 13 #[.slice a.va a.vl a.vc] W fun e w'=>(∃cv:VC,e= .returned (.agg #[.int .u8 cv.k, .int .i64 cv.n, .string cv.s, .slice cv.la cv.ll cv.lc, .slice cv.oa cv.ol cv.oc])/\IsVal (only (fun b=>W.heap.size<=b) w') w'.heap.size (oneP 6 (l.take 60)).1 cv)/\Below W.heap.size W w'):=fun W hW=>Yp W l _ _ _ (hv.later_ hW)
 have HB:=qh (AB.startd w { c with k:=7,i:=max a.i 0 % (n:Int),j:=max a.j 0 % (n:Int) } a { c with k:=7,i:=max a.i 0 % (n:Int),j:=max a.j 0 % (n:Int) } 39 25 39)
 have hK:listK n a.k=7:=by rw [listK,if_neg (by omega)];omega
 have hA:listA n a c=fun cv=> { c with k:=7,i:=max a.i 0 % (n:Int),j:=max a.j 0 % (n:Int),v:=cv } :=by funext cv;rw [listA,hK];simp
 have hV:listV n a.k l=V.none:=by rw [listV,hK];simp
 obtain ⟨PP,hPP⟩:∃PP,ListAPost w n a c l=PP:=⟨_,rfl⟩
 have HPP:=qh hPP
 have HA:=qh hA;have HV:=qh hV;have HCV:=qh hcv
 rw [hPP]
 have i0:=ha.i0;have i1:=ha.i1;have j0:=ha.j0;have j1:=ha.j1;have k0:=ha.k0
 clear hPP hA hV hcv hK ha hv
 have hI0:0<=max a.i 0 % (n:Int):=Int.emod_nonneg _ (by omega)
 have hI1:max a.i 0 % (n:Int)<n:=Int.emod_lt_of_pos _ (by omega)
 have hJ0:0<=max a.j 0 % (n:Int):=Int.emod_nonneg _ (by omega)
 have hJ1:max a.j 0 % (n:Int)<n:=Int.emod_lt_of_pos _ (by omega)
 go_enter Tryz.func40,Tryz.ntmps40
 generalize hQ0:bodyPost _ _ _=Q0
 have HQ:=qh hQ0
 clear hQ0
 go_wp2_with fail
 have H2:=qh HB.out.r
 have H3:=qh HB.out.below
 rw [<-HQ.out]
 generalize hA:({ tmps:=_,defers:=_ } :Act)=A
 have h4:A.tmps[6]? =some (.pointer (some ⟨w.heap.size+1+1,0,none⟩)):=by rw [<-hA];rfl
 have h5:A.defers= [] :=by rw [<-hA]
 clear hA
 rw [<-HPP.out]
 refine ⟨h5,_,X0 h4 H2.out, ?_⟩
 exact ⟨⟨c.v,by rw [HA.out],by rw [HV.out,HCV.out];exact Zx _ _⟩,H3.out⟩
theorem zen (w:World) (c:CC) (hcv:c.v=vzero) (a:AC) (ha:a.Bnd) (n:Nat) (hn:n<=1466015503701) (l:List Tk) (hv:IsToks w w.heap.size l a.va a.vl a.vc):
 Calls Tryz.prog 40 #[.agg #[.int .u8 c.k, .slice c.pa c.pl c.pc, .string c.key, .int .i64 c.i, .int .i64 c.j, .int .i64 c.n, .int .u8 c.v.k, .int .i64 c.v.n, .string c.v.s, .slice c.v.la c.v.ll c.v.lc, .slice c.v.oa c.v.ol c.v.oc, .string c.s], .agg #[.slice a.pa a.pl a.pc, .int .u8 a.k, .int .i64 a.i, .int .i64 a.j, .int .i64 a.n, .string a.s, .slice a.va a.vl a.vc], .int .i64 n] w (ListAPost w n a c l):=by
 by_cases hn0:0<n
 .have h4:a.k % 4=0∨a.k % 4=1∨a.k % 4=2∨a.k % 4=3:=by omega
  rcases h4 with h|h|h|h
  .exact zdl w c hcv a ha n hn hn0 h l hv
  .exact zha w c hcv a ha n hn hn0 h l hv
  .exact zd9 w c hcv a ha n hn hn0 h l hv
  .exact ze5 w c hcv a ha n hn hn0 h l hv
 .obtain rfl:n=0:=by omega
  exact zgt w c hcv a ha l hv
end Go.Proofs.YtnjgbiachcfigaaGreatDoor
