/-
  Contracts of the functions that the law reaches: Texts: what two changes of one text come.
-/
import Derived.Test.YtbgheehjfnoiiaaGreatDoorOn34
import Derived.Test.YtbgheehjfnoiiaaGreatDoorOn37
namespace Go.Proofs.YtbgheehjfnoiiaaGreatDoor
open Go.RowKit
set_option maxHeartbeats 16000000
def txtO (ka ia na kb ib nb mb:Int) (left:Bool):List (Int×Int):=
 if ka=8 then
  if kb=8 then [(if ib<ia∨(ib=ia/\left=false) then ia+mb else ia,na)]
  else [(if ib+nb<=ia then ia - nb else if ib<ia then ib else ia,na)]
 else if kb=8 then
  if ib<=ia then [(ia+mb,na)] else if ia+na<=ib then [(ia,na)] else [(ia,ib - ia),(ia+mb,na - (ib - ia))]
 else if na=max (min (ia+na) (ib+nb) - max ia ib) 0 then []
 else [(ia - max (min ia (ib+nb) - ib) 0,na - max (min (ia+na) (ib+nb) - max ia ib) 0)]
def lessI (k o:Int):Int:=if o<k then k - 1 else k
def upI (o k:Int) (same:Bool):Int:=if o<k∨(o=k/\same=true) then k+1 else k
def atI (m k i j:Int):Option Int:=
 if k=4 then some (upI i m true)
 else if k=5 then (if i=m then none else some (lessI m i))
 else if k=6 then (if i=m then none else some m)
 else if i=m then some j else some (upI j (lessI m i) true)
def tgtI (ia ja kb ib jb:Int) (left:Bool):Int:=
 if kb=4 then upI (lessI ib ia) ja (!left)
 else if kb=5 then lessI ja (lessI ib ia)
 else if kb=7 then upI (lessI jb (lessI ia ib)) (lessI ja (lessI ib ia)) (!left)
 else ja
def seqO (ka ia ja kb ib jb:Int) (left:Bool):Option (Int×Int):=
 if ka=4 then some (if kb=4 then upI ib ia (!left) else if kb=5 then lessI ia ib else if kb=7 then upI jb (lessI ia ib) (!left) else ia,ja)
 else if ka=7 then
  if ia=ib/\kb=5 then none
  else if ia=ib/\kb=7 then (if left=true then some (jb,ja) else none)
  else some (if kb=4 then upI ib ia true else if kb=5 then lessI ia ib else if kb=6 then ia else upI jb (lessI ia ib) true,tgtI ia ja kb ib jb left)
 else if kb=6/\ia=ib then (if ka=5∨left=true then some (ia,ja) else none)
 else if kb=4 then some (upI ib ia true,ja)
 else if kb=5∨kb=6 then (if ib=ia then none else some (if kb=5 then lessI ia ib else ia,ja))
 else some (if ib=ia then jb else upI jb (lessI ia ib) true,ja)
def lenL (n:Nat) (k:Int):Nat:=if k=4 then n+1 else if k=5 then n - 1 else n
theorem zmn {k:Int} (h0:4<=k) (h1:k<=7):k=4∨k=5∨k=6∨k=7:=by omega
def kA:ByteArray:= { data:= #[97] }
def kvI (n:Int):V:= .mk 2 n .empty [] []
theorem zfw (n:Int):(kvI n).sound=true:=K5.2 ⟨by simp [plainB,ByteArray.toList_eq],by rfl,(fun v h=>by cases h),(fun f h=>by cases h)⟩
def kc2:Cm:=⟨1, [⟨false,0,kA⟩], .empty,0,0,2,V.none, .empty⟩
theorem zc8 (w:World) (a1 a2:Array Value) (t1 t2:TypeId):BC ((w.alloc (.cells a1 t1)).alloc (.cells a2 t2)) w.heap.size a1.toList/\BC ((w.alloc (.cells a1 t1)).alloc (.cells a2 t2)) (w.heap.size+1) a2.toList/\uB w ((w.alloc (.cells a1 t1)).alloc (.cells a2 t2))/\((w.alloc (.cells a1 t1)).alloc (.cells a2 t2)).heap.size=w.heap.size+1+1:=by
 delta uB
 have b1:uB w (w.alloc (.cells a1 t1)):=(Below.refl _ _).alloc (Nat.le_refl _) _
 have b2:uB (w.alloc (.cells a1 t1)) ((w.alloc (.cells a1 t1)).alloc (.cells a2 t2)):=(Below.refl _ _).alloc (Nat.le_refl _) _
 have c2:=BC.start (w.alloc (.cells a1 t1)) a2 t2
 rw [World.size_alloc] at c2
 exact ⟨(BC.start w a1 t1).keep b2 (by simp),c2,b1.trans (b2.mono (by simp)),by simp⟩
def Cm.none:Cm:=⟨0, [], .empty,0,0,0,V.none, .empty⟩
noncomputable def turnedP (v:V) (c:Cm):Cm×Int:=
 if checkP v c=0 then (if cmSound (turnP ((getP v c.path).getD V.none) c)=true then (turnP ((getP v c.path).getD V.none) c,0) else (Cm.none,60)) else (Cm.none,checkP v c)
noncomputable def turnsP:V->List Cm->List Cm×Int
 |_, [] =>([],0)
 |v,c::r=>if (turnedP v c).2=0 then (if (turnsP (doP v c).1 r).2=0 then ((turnedP v c).1::(turnsP (doP v c).1 r).1,0) else ([],(turnsP (doP v c).1 r).2)) else ([],(turnedP v c).2)
noncomputable def doAllP:V->List Cm->V×Int
 |v, [] =>(v,0)
 |v,c::r=>if (doP v c).2=0 then doAllP (doP v c).1 r else (V.none,(doP v c).2)
def idleB (c:Cm):Bool:=(c.k==1 && c.n==0)||(c.k==7 && c.i==c.j)
noncomputable def joinC (z c:Cm):Option (Option Cm):=
 if z.k≠c.k∨eqB z.path c.path=false then none
 else if c.k=1 then (if wrap64 (z.n+c.n)=0 then some none else some (some { z with n:=wrap64 (z.n+c.n) }))
 else if c.k=2/\z.key=c.key then some (some c)
 else if c.k=8/\c.i=wrap64 (z.i+textN z.s) then some (some { z with s:=z.s++c.s })
 else none
noncomputable def ontoP (l:List Cm) (c:Cm):List Cm:=
 if idleB c=true then l else match l.getLast? with
  |none=>l++ [c]
  | some z=>match joinC z c with
    |none=>l++ [c]
    |some none=>l.dropLast
    |some (some m)=>l.dropLast++ [m]
noncomputable def trimP (l:List Cm):List Cm:=l.foldl ontoP []
theorem zlo (cs:List CC) (k:Nat) (hk:k<cs.length) (z:CC):((((((((((((cs.flatMap ccells).set (k*12) (.int .u8 z.k)).set (k*12+1) (.slice z.pa z.pl z.pc)).set (k*12+2) (.string z.key)).set (k*12+3) (.int .i64 z.i)).set (k*12+4) (.int .i64 z.j)).set (k*12+5) (.int .i64 z.n)).set (k*12+6) (.int .u8 z.v.k)).set (k*12+7) (.int .i64 z.v.n)).set (k*12+8) (.string z.v.s)).set (k*12+9) (.slice z.v.la z.v.ll z.v.lc)).set (k*12+10) (.slice z.v.oa z.v.ol z.v.oc)).set (k*12+11) (.string z.s)=(cs.set k z).flatMap ccells:=by
 induction cs generalizing k with
 |nil=>cases hk
 | cons c r ih=>
   cases k with
   |zero=>simp [ccells]
   | succ k=>
     have e:∀t,(k+1)*12+t=(ccells c).length+(k*12+t):=fun t=>by show _=12+_;omega
     have e0:(k+1)*12=(ccells c).length+(k*12):=by show _=12+_;omega
     rw [e 1,e 2,e 3,e 4,e 5,e 6,e 7,e 8,e 9,e 10,e 11,e0]
     simp only [List.flatMap_cons,List.set_cons_succ]
     rw [<-ih k (by simpa using hk)]
     simp only [List.set_append_right _ _ (Nat.le_add_right _ _),Nat.add_sub_cancel_left]
def setCo (W:World) (b o:Nat) (z:CC):World:=((((((((((((W).setCell ⟨b,o,none⟩ (.int .u8 z.k)).setCell ⟨b,o+1,none⟩ (.slice z.pa z.pl z.pc)).setCell ⟨b,o+2,none⟩ (.string z.key)).setCell ⟨b,o+3,none⟩ (.int .i64 z.i)).setCell ⟨b,o+4,none⟩ (.int .i64 z.j)).setCell ⟨b,o+5,none⟩ (.int .i64 z.n)).setCell ⟨b,o+6,none⟩ (.int .u8 z.v.k)).setCell ⟨b,o+7,none⟩ (.int .i64 z.v.n)).setCell ⟨b,o+8,none⟩ (.string z.v.s)).setCell ⟨b,o+9,none⟩ (.slice z.v.la z.v.ll z.v.lc)).setCell ⟨b,o+10,none⟩ (.slice z.v.oa z.v.ol z.v.oc)).setCell ⟨b,o+11,none⟩ (.string z.s)
theorem zaj (W:World) (b o:Nat) (z:CC):RStep W (setCo W b o z) b:=((((((((((RStep.self.trans RStep.self).trans RStep.self).trans RStep.self).trans RStep.self).trans RStep.self).trans RStep.self).trans RStep.self).trans RStep.self).trans RStep.self).trans RStep.self).trans RStep.self
theorem zbq {W:World} {base:Nat} {e:TypeId} {g n cap:Nat} {cs:List CC} (h:W.ownsRow base e 12 (.slice (some ⟨g,0,none⟩) n cap) n (cs.flatMap ccells)) {k:Nat} (hk:k<cs.length) (z:CC):
 (setCo W g (k*12) z).ownsRow base e 12 (.slice (some ⟨g,0,none⟩) n cap) n ((cs.set k z).flatMap ccells):=by
 have h0:=(h.stored (k*12) (.int .u8 z.k)).1
 have h1:=(h0.stored (k*12+1) (.slice z.pa z.pl z.pc)).1
 have h2:=(h1.stored (k*12+2) (.string z.key)).1
 have h3:=(h2.stored (k*12+3) (.int .i64 z.i)).1
 have h4:=(h3.stored (k*12+4) (.int .i64 z.j)).1
 have h5:=(h4.stored (k*12+5) (.int .i64 z.n)).1
 have h6:=(h5.stored (k*12+6) (.int .u8 z.v.k)).1
 have h7:=(h6.stored (k*12+7) (.int .i64 z.v.n)).1
 have h8:=(h7.stored (k*12+8) (.string z.v.s)).1
 have h9:=(h8.stored (k*12+9) (.slice z.v.la z.v.ll z.v.lc)).1
 have h10:=(h9.stored (k*12+10) (.slice z.v.oa z.v.ol z.v.oc)).1
 have h11:=(h10.stored (k*12+11) (.string z.s)).1
 rw [zlo cs k hk z] at h11
 exact h11
theorem zc6 {cs:List CC} {i:Nat} (hi:i<cs.length) {j:Nat} {v:Value} (h:(ccells cs[i])[j]? =some v):(cs.flatMap ccells)[i*12+j]? =some v:=by
 induction cs generalizing i with
 |nil=>cases hi
 | cons c r ih=>
   cases i with
   | zero=>
     have h:(ccells c)[j]? =some v:=h
     rw [Nat.zero_mul,Nat.zero_add,List.flatMap_cons,List.getElem?_append_left (List.getElem?_eq_some_iff.1 h).1];exact h
   | succ i=>
     have e:(i+1)*12+j=(ccells c).length+(i*12+j):=by show _=12+_;omega
     rw [e,List.flatMap_cons,List.getElem?_append_right (by omega),Nat.add_sub_cancel_left]
     exact ih (by simpa using hi) h
theorem Qv {W:World} {base:Nat} {e:TypeId} {g n cap:Nat} {cs:List CC} (h:W.ownsRow base e 12 (.slice (some ⟨g,0,none⟩) n cap) n (cs.flatMap ccells)) {i:Nat} (hi:i<cs.length):∀j v,(ccells cs[i])[j]? =some v->W.cell? ⟨g,i*12+j,none⟩=some v:=fun j v hj=>by
 have:=h.cells (g:=g) rfl (i*12+j) v (zc6 hi hj)
 rw [Addr.add_lit,Nat.zero_add] at this;exact this
def OpOk:V->List Cm->Prop
 |_, [] =>True
 |v,c::r=>v.weight<=100000000/\v.sound=true/\c.v.weight<=4611686018427387904/\c.s.size<=1000000000000/\((doP v c).2=0->OpOk (doP v c).1 r)
structure LM (w wr W:World) (y:V) (cm:Cm) (cy:VC) (cc:CC) (u:Value) (xs:List Cm) (cs:List CC):Prop where
 box:BC W w.heap.size (vcells cy)
 obox:BC W (w.heap.size+1) [u]
 val:IsVal (only (fun k=>wr.heap.size<=k) W) W.heap.size y cy
 cmp:IsComp (only (fun k=>wr.heap.size<=k) W) W.heap.size cm cc
 row:RowC W (w.heap.size+2) u xs cs
 below:Below w.heap.size w W
def sumS (l:List Cm):Nat:=(l.map fun c=>c.s.size).sum
theorem Qr (a b:List Cm):sumS (a++b)=sumS a+sumS b:=by simp [sumS]
theorem Q9 (c:Cm):sumS [c] =c.s.size:=by simp [sumS]
theorem zng (l:List Cm) (c:Cm):(ontoP l c).length<=l.length+1:=by
 unfold ontoP
 split
 .omega
 .split
  .simp
  .split<;>simp<;>omega
theorem zhr:∀(r l:List Cm),(r.foldl ontoP l).length<=l.length+r.length:=by
 intro r
 induction r with
 |nil=>intro l;exact Nat.le_refl _
 |cons c r ih=>intro l;have h1:=ih (ontoP l c);have h2:=zng l c;rw [List.foldl_cons,List.length_cons];omega
def isF (k:Int):Bool:=k==2||k==3
def isL (k:Int):Bool:=decide (4<=k) && decide (k<=7)
def isT (k:Int):Bool:=k==8||k==9
def Cm.to (a:Cm) (i j n:Int):Cm:=⟨a.k,a.path,a.key,i,j,n,a.v,a.s⟩
noncomputable def sameC (a b:Cm) (left:Bool):List Cm:=
 if isF a.k=true/\isF b.k=true/\a.key=b.key then (if a.k=2/\(b.k=3∨left=true) then [a] else [])
 else if isL a.k=true/\isL b.k=true then (match seqO a.k a.i a.j b.k b.i b.j left with
  |none=> []
  |some p=> [a.to p.1 p.2 a.n])
 else if isT a.k=true/\isT b.k=true then (txtO a.k a.i a.n b.k b.i b.n (textN b.s) left).map fun p=>a.to p.1 a.j p.2
 else [a]
theorem zmh {k:Int} :isF k=true↔k=2∨k=3:=by unfold isF;simp
theorem Q2 {k:Int} :isL k=true↔4<=k/\k<=7:=by unfold isL;simp
theorem zdv {k:Int} :isT k=true↔k=8∨k=9:=by unfold isT;simp
theorem Xe {k:IntKind} {a b:Int} (h:a=b):Ending.returned (.int k a)= .returned (.int k b):=by rw [h]
theorem zcw {a b:Bool} (h:a=b):Ending.returned (.bool a)= .returned (.bool b):=by rw [h]
theorem zmv {k:IntKind} {a b:Int} {x y:Bool} (h:a=b/\x=y):Ending.returned (.tuple #[.int k a, .bool x])= .returned (.tuple #[.int k b, .bool y]):=by rw [h.1,h.2]
structure T1 (w W:World) (a:CC):Prop where
 a:BC W w.heap.size (ccells a)
 below:Below w.heap.size w W
structure T2 (w W:World) (a b:CC):Prop where
 a:BC W w.heap.size (ccells a)
 b:BC W (w.heap.size+1) (ccells b)
 below:Below w.heap.size w W
theorem T1.start (w:World) (a:CC) (t:TypeId):T1 w (w.alloc (.cells #[.int .u8 a.k, .slice a.pa a.pl a.pc, .string a.key, .int .i64 a.i, .int .i64 a.j, .int .i64 a.n, .int .u8 a.v.k, .int .i64 a.v.n, .string a.v.s, .slice a.v.la a.v.ll a.v.lc, .slice a.v.oa a.v.ol a.v.oc, .string a.s] t)) a:=⟨BC.start w (uC a) t,(Below.refl _ _).alloc (Nat.le_refl _) _⟩
theorem T2.start (w:World) (a b:CC) (t t2:TypeId):T2 w ((w.alloc (.cells #[.int .u8 a.k, .slice a.pa a.pl a.pc, .string a.key, .int .i64 a.i, .int .i64 a.j, .int .i64 a.n, .int .u8 a.v.k, .int .i64 a.v.n, .string a.v.s, .slice a.v.la a.v.ll a.v.lc, .slice a.v.oa a.v.ol a.v.oc, .string a.s] t)).alloc (.cells #[.int .u8 b.k, .slice b.pa b.pl b.pc, .string b.key, .int .i64 b.i, .int .i64 b.j, .int .i64 b.n, .int .u8 b.v.k, .int .i64 b.v.n, .string b.v.s, .slice b.v.la b.v.ll b.v.lc, .slice b.v.oa b.v.ol b.v.oc, .string b.s] t2)) a b:=by
 have h2:=BC.start (w.alloc (.cells (uC a) t)) #[.int .u8 b.k, .slice b.pa b.pl b.pc, .string b.key, .int .i64 b.i, .int .i64 b.j, .int .i64 b.n, .int .u8 b.v.k, .int .i64 b.v.n, .string b.v.s, .slice b.v.la b.v.ll b.v.lc, .slice b.v.oa b.v.ol b.v.oc, .string b.s] t2
 rw [World.size_alloc] at h2
 exact ⟨(BC.start w (uC a) t).keep ((Below.refl _ _).alloc (Nat.le_refl _) _) (by simp),h2,((Below.refl _ _).alloc (Nat.le_refl _) _).alloc (by simp) _⟩
theorem T1.next {w W W':World} {a:CC} (h:T1 w W a) (hb:uB W W'):T1 w W' a:=⟨h.a.keep hb h.a.lt,h.below.trans (hb.mono h.below.size)⟩
theorem T2.next {w W W':World} {a b:CC} (h:T2 w W a b) (hb:uB W W'):T2 w W' a b:=⟨h.a.keep hb h.a.lt,h.b.keep hb h.b.lt,h.below.trans (hb.mono h.below.size)⟩
def famP (k:Int):Int:=if k=1 then 2 else if isF k=true then 5 else if isL k=true then 4 else if isT k=true then 3 else 0
set_option maxRecDepth 100000 in
theorem zcu (w:World) (c:CC):uP 121 #[.agg (uC c)] w fun e w'=>e= .returned (.int .u8 (famP c.k))/\uB w w':=by
 delta uC uB uP
 have hb:uB w (w.alloc (.cells (uC c) 54)):=(Below.refl _ _).alloc (Nat.le_refl _) _
 have c0:=(BC.start w (uC c) 54).at_ 0 _ rfl
 have HB:=qh hb
 obtain ⟨R,hR⟩:∃R,famP c.k=R:=⟨_,rfl⟩
 rw [hR]
 obtain ⟨K,hK⟩:∃K,c.k=K:=⟨_,rfl⟩
 rw [hK] at hR c0
 have HR:=qh hR;have HK:=qh hK
 clear hb hR hK
 go_enter Tryz.func121,Tryz.ntmps121
 go_wp2_with fail
 all_goals (go_ret;refine ⟨Xe ?_,HB.out⟩;rw [<-HR.out];clear HR HB HK c0;simp only [famP,isF,isL,isT];grind)
def belowP (a b:Int):Int:=if a<b then 1 else 0
def uptoP (a b:Int) (s:Bool):Int:=if a=b/\s=true then 1 else belowP a b
theorem Xc (w:World) (a b:Int):uP 159 #[.int .i64 a, .int .i64 b] w fun e w'=>e= .returned (.int .i64 (belowP a b))/\uB w w':=by
 delta uB uP
 go_enter Tryz.func159,Tryz.ntmps159
 go_wp2_with fail
 all_goals (go_ret;exact ⟨Xe (by unfold belowP;grind),Below.refl _ _⟩)
theorem Qt (w:World) (a b:Int) (s:Bool):uP 158 #[.int .i64 a, .int .i64 b, .bool s] w fun e w'=>e= .returned (.int .i64 (uptoP a b s))/\uB w w':=by
 delta uB uP
 go_enter Tryz.func158,Tryz.ntmps158
 go_wp2_with (go_at_call 159;(with_reducible refine (Xc _ _ _).mono ?_);rintro e w1 ⟨rfl,hb1⟩)
 all_goals (go_ret;refine ⟨Xe ?_,by first|assumption|exact Below.refl _ _⟩;unfold uptoP;grind)
theorem zcl {n:Int} (h: -9223372036854775808<=n/\n<=9223372036854775807):wrap64 n=n:=by unfold wrap64;omega
theorem Yx {k o:Int} (h: -4611686018427387904<=k/\k<=4611686018427387904):wrap64 (k - belowP o k)=lessI k o:=by
 rw [zcl (by unfold belowP;split<;>omega)]
 unfold belowP lessI
 split<;>omega
theorem K3 {k o:Int} (h: -4611686018427387904<=k/\k<=4611686018427387904): -4611686018427387905<=lessI k o/\lessI k o<=4611686018427387905:=by unfold lessI;split<;>omega
theorem bnd1 {k:Int} (h: -4611686018427387904<=k/\k<=4611686018427387904): -4611686018427387905<=k/\k<=4611686018427387905:=by omega
theorem upW {k o:Int} {s:Bool} (h: -4611686018427387905<=k/\k<=4611686018427387905):wrap64 (k+uptoP o k s)=upI o k s:=by
 rw [zcl (by unfold uptoP belowP;repeat' split;all_goals omega)]
 unfold uptoP upI belowP
 grind
def atR (m k i j:Int):Int×Bool:=match atI m k i j with
 |none=>(0,false)
 |some x=>(x,true)
set_option maxRecDepth 100000 in
theorem zcy (w:World) (m:Int) (c:CC) (hm: -4611686018427387904<=m/\m<=4611686018427387904) (hk:isL c.k=true):uP 122 #[.int .i64 m, .agg (uC c)] w fun e w'=>e= .returned (.tuple #[.int .i64 (atR m c.k c.i c.j).1, .bool (atR m c.k c.i c.j).2])/\uB w w':=by
 delta uC uB uP
 have bx:=T1.start w c 54
 obtain ⟨w1,hw1⟩:∃W,w.alloc (.cells (uC c) 54)=W:=⟨_,rfl⟩
 rw [hw1] at bx
 obtain ⟨R,hR⟩:∃R,atR m c.k c.i c.j=R:=⟨_,rfl⟩
 rw [hR]
 have HR:=qh hR;have HM:=qh hm;have HK:=qh (Q2.1 hk)
 have c0:=bx.a.at_ 0 _ rfl;have c3:=bx.a.at_ 3 _ rfl;have c4:=bx.a.at_ 4 _ rfl
 clear hR hm hk
 go_enter Tryz.func122,Tryz.ntmps122
 go_upto_region 1 with fail
 clear hw1
 go_wp2_with (first|(go_at_call 158;(with_reducible refine (Qt _ _ _ _).mono ?_);rintro e w2 ⟨rfl,hb2⟩;replace bx:=bx.next hb2;clear hb2;have c0:=bx.a.at_ 0 _ rfl;have c3:=bx.a.at_ 3 _ rfl;have c4:=bx.a.at_ 4 _ rfl)|(go_at_call 159;(with_reducible refine (Xc _ _ _).mono ?_);rintro e w2 ⟨rfl,hb2⟩;replace bx:=bx.next hb2;clear hb2;have c0:=bx.a.at_ 0 _ rfl;have c3:=bx.a.at_ 3 _ rfl;have c4:=bx.a.at_ 4 _ rfl))
 all_goals (go_returns;refine ⟨zmv ?_,bx.below⟩;rw [<-HR.out];have hk:=HK.out;have hm:=HM.out;clear c0 c3 c4 bx HR HK HM;simp only [Yx hm,upW (bnd1 hm),upW (K3 hm),atR,atI];grind)
noncomputable def opDo (v:V) (op:List Cm):V×Int:=if 200<op.length then (V.none,3) else doAllP v op
theorem Qw {w:World} {b o:Nat} {c:CC} (h:CompAt w b o c):∀k u,(ccells c)[k]? =some u->w.cell? ⟨b,o+k,none⟩=some u:=fun k u hk=>by
 have hm:k<12:=by have:=(List.getElem?_eq_some_iff.1 hk).1;exact this
 match k,hm with
 |0,_=>rw [<-hk];exact h.c0
 |1,_=>rw [<-hk];exact h.c1
 |2,_=>rw [<-hk];exact h.c2
 |3,_=>rw [<-hk];exact h.c3
 |4,_=>rw [<-hk];exact h.c4
 |5,_=>rw [<-hk];exact h.c5
 |6,_=>rw [<-hk];exact h.c6.c0
 |7,_=>rw [<-hk];exact h.c6.c1
 |8,_=>rw [<-hk];exact h.c6.c2
 |9,_=>rw [<-hk];exact h.c6.c3
 |10,_=>rw [<-hk];exact h.c6.c4
 |11,_=>rw [<-hk];exact h.c11
theorem Yw (w:World) (o:Obj):uB w (w.alloc o):=(Below.refl _ _).alloc (Nat.le_refl _) o
theorem zfb {tmps:Array Value} {W:World} {b:Nat} {c:VC} {x:Value} (ht:tmps[4]? =some (.pointer (some ⟨b,0,none⟩))) (hx:tmps[5]? =some x) (h:BC W b (vcells c)):
 (results Tryz.f24 tmps).run Tryz.prog W= .ok (.tuple #[.agg #[.int .u8 c.k, .int .i64 c.n, .string c.s, .slice c.la c.ll c.lc, .slice c.oa c.ol c.oc],x]) W:=by
 obtain ⟨r0,r1,r2,r3,r4⟩:=row5 h.at_
 simp [results,Tryz.results24,go_sem,ht,hx,r0,r1,r2,r3,r4]
theorem Kn {w W:World} {x:Act} {c:VC} {r:V×Int} (h:BC W (w.heap.size+1) (vcells c)) (hv:IsVal (only (fun b=>w.heap.size<=b) W) W.heap.size r.1 c) (hb:uB w W) (hd:x.defers= []) (ht:x.tmps[4]? =some (.pointer (some ⟨w.heap.size+1,0,none⟩))) (hx:x.tmps[5]? =some (.int .u16 r.2)):
 bodyPost Tryz.prog Tryz.f24 (CDoPost w r) .ret x W:=⟨hd,_,zfb ht hx h,⟨c,rfl,hv⟩,hb⟩
structure LO (w wr:World) (op:List Cm) (R:V×Int) (j:Nat) (x:V) (cx:VC):Prop where
 rd:doAllP x (op.drop j)=R
 ok:OpOk x (op.drop j)
 box:GB w wr cx
 res:BC wr (w.heap.size+1) (vcells vzero)
 val:IsVal (only (fun k=>w.heap.size+2<=k) wr) wr.heap.size x cx
theorem zba (w:World) (B:Nat):IsVal w B V.none vzero:=Zw w B
set_option maxRecDepth 100000 in
theorem zar (w:World) (cv:VC) (v:V) (hv:IsVal w w.heap.size v cv) (op:List Cm) (oa:Option Addr) (on oc:Nat) (hop:IsComps w w.heap.size op oa on oc) (hok:on<=200->OpOk v op) (hT:Tabs w):
 uP 24 #[.agg (uV cv), .slice oa on oc] w (CDoPost w (opDo v op)):=by
 delta uV uP
 have hlen:=hop.len;have hmax:=hop.max;have hcap:=hop.cap
 obtain ⟨w2,hw2⟩:∃W,(w.alloc (.cells (uV cv) 29)).alloc (.cells (uU 0 0 { data:= #[] } none 0 0 none 0 0) 29)=W:=⟨_,rfl⟩
 have B2:GB w w2 cv:=by rw [<-hw2];exact GB.start w cv 29 29
 have hz2:BC w2 (w.heap.size+1) (vcells vzero):=by rw [<-hw2];have:=BC.start (w.alloc (.cells (uV cv) 29)) #[.int .u8 0, .int .i64 0, .string { data:= #[] }, .slice none 0 0, .slice none 0 0] 29;rw [World.size_alloc] at this;exact this
 obtain ⟨v0,v1,v2,v3,v4⟩:=row5 B2.v.at_
 obtain ⟨r0,r1,r2,r3,r4⟩:=row5 hz2.at_
 have zs:=B2.v.lt;have zr:=B2.r.lt;have gr:=hz2.fr;have gv:=B2.v.fr
 by_cases hn:200<on
 .have hr:opDo v op=(V.none,3):=by unfold opDo;rw [if_pos (by omega)]
  have HST:=qh (B2.result vzero)
  rw [hr]
  clear hop hok hv hT hr B2 hz2 hlen
  go_enter Tryz.func24,Tryz.ntmps24
  generalize hQ0:bodyPost _ _ _=Q0
  have HQ:=qh hQ0
  clear hQ0
  go_upto_region 1 with fail
  clear hw2
  go_wp2_with fail
  rw [<-HQ.out]
  exact Kn HST.out.1 (zba _ _) HST.out.2 rfl rfl rfl
 .obtain ⟨R,hR⟩:∃R,doAllP v op=R:=⟨_,rfl⟩
  have hr:opDo v op=R:=by unfold opDo;rw [if_neg (by omega),hR]
  rw [hr]
  have HOP:=qh hop;have HT:=qh hT;have HOK:=qh (hok (by omega));have HR:=qh hR
  have HCP:Hid (uP 46 #[.agg (uV cv)] w2 fun e w'=>(∃c,e= .returned (.agg #[.int .u8 c.k, .int .i64 c.n, .string c.s, .slice c.la c.ll c.lc, .slice c.oa c.ol c.oc])/\IsVal (only (fun b=>w2.heap.size<=b) w') w'.heap.size v c)/\uB w2 w'):=qh ((Yt w2 v cv (hv.later_ B2.below)).mono fun e w' ⟨⟨c,he,hW⟩,hb⟩=>⟨⟨c,he,hW.sepI.isVal⟩,hb⟩)
  have HB2:=qh B2;have HZ2:=qh hz2
  clear hop hT hok hr hR hv B2 hz2
  go_enter Tryz.func24,Tryz.ntmps24
  generalize hQ0:bodyPost _ _ _=Q0
  have HQ:=qh hQ0
  clear hQ0
  go_upto_region 1 with fail
  clear hw2
  go_wp2_with fail
  refine HCP.out.mono ?_
  rintro e w3 ⟨⟨d,rfl,hI3⟩,hb3⟩
  have B3:=HB2.out.next hb3 (Nat.succ_le_of_lt zr)
  have hz3:=HZ2.out.keep hb3 zr
  have st3:=Zi w3 w.heap.size 0 d
  have HLO:Hid (LO w (setV w3 w.heap.size 0 d) op R 0 v d):=qh ⟨HR.out,HOK.out,B3.store d,hz3.next st3 (by omega),by
   have hz:=HB2.out.r.lt
   exact Yc hI3 rfl st3.size fun k hk hl=>have hk':w2.heap.size<=k:=hk;⟨by omega,st3.block k hl (by omega)⟩⟩
  clear v0 v1 v2 v3 v4 r0 r1 r2 r3 r4 zs zr gr gv
  obtain ⟨v0,v1,v2,v3,v4⟩:=row5 B3.v.at_
  have zs:=B3.v.lt;have gv:=B3.v.fr
  clear B3 hz3 st3 hI3 hb3 HCP HOK HB2 HZ2 HR
  go_wp2_with fail
  clear v0 v1 v2 v3 v4 zs gv
  go_loopw [17] (fun iv wr=>∃(j:Nat) (x:V) (cx:VC),iv= .int .i64 (j:Int)/\j<=on/\Hid (LO w wr op R j x cx)) (fun iv _=>(match iv with| .int _ i=>on - i.toNat|_=>0))
  case atStart=>exact ⟨0,v,d,rfl,Nat.zero_le _,HLO⟩
  case round=>
   obtain ⟨j,x,cx,rfl,hj,HL⟩:=hrel
   have hlh:=HL.out
   clear HLO
   obtain ⟨v0,v1,v2,v3,v4⟩:=row5 hlh.box.v.at_
   obtain ⟨r0,r1,r2,r3,r4⟩:=row5 hlh.res.at_
   have zv:=hlh.box.v.lt;have gv:=hlh.box.v.fr;have zr:=hlh.res.lt;have gr:=hlh.res.fr
   by_cases hlt:j<on
   .have hjl:j<op.length:=by omega
    obtain ⟨b,o,f,h5,h6⟩:=HOP.out.at_
    obtain ⟨rfl,hbB⟩:=h5 (by omega)
    obtain ⟨hat,hic⟩:=h6 j hjl
    have hat2:=hat.keep hlh.box.below hbB
    have hbw:=Nat.lt_of_lt_of_le hbB hlh.box.below.size
    obtain ⟨cc,hcc⟩:∃c,f j=c:=⟨_,rfl⟩
    rw [hcc] at hat2 hic
    obtain ⟨cm,hcm⟩:∃y,op[j] =y:=⟨_,rfl⟩
    have hdr:op.drop j=cm::op.drop (j+1):=by rw [List.drop_eq_getElem_cons hjl,hcm]
    rw [hcm] at hic
    have hok:=hlh.ok;have hrd:=hlh.rd
    rw [hdr] at hok hrd
    obtain ⟨hxw,hxs,hcw,hcs,hnx⟩:=hok
    rw [doAllP] at hrd
    obtain ⟨D,hD⟩:∃D,doP x cm=D:=⟨_,rfl⟩
    have HDO:Hid (∀W,uB wr W->uP 36 #[.agg (uV cx), .agg (uC cc)] W (CDoPost W D)):=qh fun W hW=>by
     have hwW:=hlh.box.below.trans (hW.mono hlh.box.below.size)
     have hvW:IsVal W W.heap.size x cx:=(hlh.val.sub (Zl _ _ _)).later_ hW
     rw [<-hD]
     cases hic with
     |mk _ p xv hcb hp hxv=>exact zh4 W cx.k cx.n cx.s cx.la cx.ll cx.lc cx.oa cx.ol cx.oc x hvW hxw p xv cc hcb (hp.later_ hwW) (hxv.later_ hwW) hcw (fun y hy=>by have:=Z6 _ hy;have:=y.str_weight.1;dsimp only at hcs;omega) hxs (HT.out.below hwW)
    rw [hD] at hrd hnx
    obtain ⟨e0,e1,e2,e3,e4,e5,e6,e7,e8,e9,e10,e11⟩:=row12 (Qw hat2)
    rw [Nat.add_zero] at e0
    have hj0:¬((j:Int)<0):=by omega
    have hjn:(j:Int)<(on:Int):=by omega
    have HRD:=qh hrd;have HNX:=qh hnx
    obtain ⟨w1,hw1⟩:∃w1,wr.alloc (.cells (uC cc) 54)=w1:=⟨_,rfl⟩
    have hb1:uB wr w1:=by rw [<-hw1];exact Yw wr _
    have hx1:BC w1 wr.heap.size (ccells cc):=by rw [<-hw1];exact BC.start wr (uC cc) 54
    have hv1:=hlh.box.v.keep hb1 zv;have hr1:=hlh.res.keep hb1 zr
    have HB1:=qh hb1
    clear h5 h6 hat hic hat2 hcc hcm hdr hxw hxs hcw hcs hnx hlh hrd hD
    go_upto_region 7 with fail
    clear hw1 v0 v1 v2 v3 v4 r0 r1 r2 r3 r4 e0 e1 e2 e3 e4 e5 e6 e7 e8 e9 e10 e11 zv gv zr gr hbw
    obtain ⟨v0,v1,v2,v3,v4⟩:=row5 hv1.at_
    obtain ⟨c0,c1,c2,c3,c4,c5,c6,c7,c8,c9,c10,c11⟩:=row12 hx1.at_
    have zv:=hv1.lt;have gv:=hv1.fr;have zc:=hx1.lt
    clear hv1 hx1 hb1 hr1
    go_wp2_with fail
    refine (HDO.out _ HB1.out).mono ?_
    rintro e w4 ⟨⟨y,rfl,hy⟩,hb4⟩
    have hlh:=HL.out
    have hB4:uB wr w4:=HB1.out.trans (hb4.mono HB1.out.size)
    have B4:=hlh.box.next hB4 (by have:=hlh.box.r.lt;omega)
    have hr4:=hlh.res.keep hB4 hlh.res.lt
    have st:=Zi w4 w.heap.size 0 y
    have hr5:=hr4.next st (by omega)
    have B5:GB w (setV w4 w.heap.size 0 y) y:=B4.store y
    clear v0 v1 v2 v3 v4 c0 c1 c2 c3 c4 c5 c6 c7 c8 c9 c10 c11 zv gv zc
    obtain ⟨v0,v1,v2,v3,v4⟩:=row5 B4.v.at_
    have zv:=B4.v.lt;have gv:=B4.v.fr
    have hzz:=hlh.box.r.lt;have hzs:=HB1.out.size
    have HI5:Hid (IsVal (only (fun k=>w.heap.size+2<=k) (setV w4 w.heap.size 0 y)) (setV w4 w.heap.size 0 y).heap.size D.1 y):=qh (Yc hy rfl st.size fun k hk hl=>have hk':w1.heap.size<=k:=hk;⟨by omega,st.block k hl (by omega)⟩)
    have HB5:=qh B5;have HR5:=qh hr5
    clear hlh hB4 B4 hr4 st hr5 B5 hy hb4 hzz hzs HDO
    obtain ⟨D1,er⟩:=D
    dsimp only at HRD HNX HI5 ⊢
    by_cases he:er=0
    .subst he
     have hrd:=HRD.out
     rw [if_pos rfl] at hrd
     have HLO:Hid (LO w (setV w4 w.heap.size 0 y) op R (j+1) D1 y):=qh ⟨hrd,HNX.out rfl,HB5.out,HR5.out,HI5.out⟩
     clear hrd HRD HNX HB5 HR5 HI5
     go_wp2_with fail
     go_roundw
     case rel=>exact ⟨j+1,D1,y,by go_num,by omega,HLO⟩
     case measure=>simp;omega
    .have hrd:=HRD.out
     rw [if_neg he] at hrd
     have HFR:=qh hrd
     clear hrd HRD HNX HI5
     go_upto_region 9 with fail
     obtain ⟨w5,hw5⟩:∃w5,setV w4 w.heap.size 0 y=w5:=⟨_,rfl⟩
     rw [hw5] at HB5 HR5
     simp only [setV,Nat.zero_add] at hw5
     rw [hw5]
     clear hw5 v0 v1 v2 v3 v4 zv gv
     have hr5:=HR5.out
     obtain ⟨r0,r1,r2,r3,r4⟩:=row5 hr5.at_
     have zr:=hr5.lt;have gr:=hr5.fr
     clear hr5
     go_wp2_with fail
     rw [<-HQ.out]
     have ST:=HB5.out.result vzero
     exact Kn ST.1 (by rw [<-HFR.out];exact zba _ _) ST.2 rfl rfl (by rw [<-HFR.out];rfl)
   .have hjn:j=on:=by omega
    subst hjn
    have hrx:R=(x,0):=by
     have:=hlh.rd
     rw [List.drop_eq_nil_of_le (by omega),doAllP] at this
     exact this.symm
    subst hrx
    have ST:=hlh.box.result cx
    have hI:IsVal (only (fun b=>w.heap.size<=b) (setV wr (w.heap.size+1) 0 cx)) (setV wr (w.heap.size+1) 0 cx).heap.size x cx:=by
     have st:=Zi wr (w.heap.size+1) 0 cx
     exact Yc hlh.val rfl st.size fun k hk hl=>have hk':w.heap.size+2<=k:=hk;⟨by omega,st.block k hl (by omega)⟩
    have HI:=qh hI;have HST:=qh ST
    clear hlh ST hI
    go_wp2_with fail
    rw [<-HQ.out]
    exact Kn HST.out.1 HI.out HST.out.2 rfl rfl rfl
def addC (n:Int):Cm:=⟨1, [], .empty,0,0,n,V.none, .empty⟩
theorem zgf (n:Int):cmSound (addC n)=true:=zh9 rfl rfl rfl rfl rfl (Int.le_refl 0) (Int.le_refl 0) (fun e=>absurd (show (1:Int)=8 from e) (by decide)) (fun e=>absurd (show (1:Int)=9 from e) (by decide)) zi6 (by have:=zfa;simp [addC];omega) (by have:=Kz;simp [addC];omega)
theorem zjv (m n:Int) (h: -9223372036854775808<=m+n/\m+n<=9223372036854775807):doP (kvI m) (addC n)=(kvI (m+n),0):=by
 have hc:checkP (kvI m) (addC n)=0:=zjs (zgf n) (by rfl) (by simp [kindsP,addC,kvI,V.kd])
 rw [Ym hc (x:=kvI m) rfl]
 have hd:doneP (kvI m) (addC n)=kvI (m+n):=by
  rw [doneP,if_pos (show (addC n).k=1 from rfl)]
  have:wrap64 (m+n)=m+n:=by unfold wrap64;omega
  show V.mk 2 (wrap64 (m+n)) .empty [] [] = .mk 2 (m+n) .empty [] []
  rw [this]
 rw [hd];rfl
end Go.Proofs.YtbgheehjfnoiiaaGreatDoor
