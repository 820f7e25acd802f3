/-
  Contracts of the functions that the law reaches: What is done to a sound value by a.
-/
import Derived.Test.YtbgheehjfnoiiaaGreatDoorOn30
import Derived.Test.YtbgheehjfnoiiaaGreatDoorOn31
import Derived.Test.YtbgheehjfnoiiaaGreatDoorOn32
namespace Go.Proofs.YtbgheehjfnoiiaaGreatDoor
open Go.RowKit
set_option maxHeartbeats 8000000
theorem K5 {k n:Int} {s:ByteArray} {l:List V} {o:List (ByteArray×V)} :V.sound (.mk k n s l o)=true↔plainB k n s l.length o.length=true/\rising o=true/\(∀v ∈ l,v.sound=true)/\(∀f ∈ o,Lib.validD f.1.data.toList=true/\f.2.sound=true):=by
 simp only [V.sound,Bool.and_eq_true,Jr,Jb,and_assoc]
theorem zi6:V.none.sound=true:=by simp [V.none,V.sound,soundL,soundO,rising,plainB,ByteArray.toList_eq]
theorem zk2 {v:V} {s:St} {x:V} {k:Nat} (hv:v.sound=true) (h:stepP v s=some (x,k)):x.sound=true:=by
 obtain ⟨kk,n,t,l,o,rfl⟩:=v.eta
 obtain ⟨_,_,h3,h4⟩:=K5.1 hv
 rcases Xm h with ⟨_,_,_,hk,rfl⟩|⟨_,_,_,hk,rfl⟩
 .exact h3 _ (List.getElem_mem (l:=l) hk)
 .exact (h4 _ (List.getElem_mem (l:=o) hk)).2
theorem zk1 (p:List St):∀ {v x:V},v.sound=true->getP v p=some x->x.sound=true:=by
 induction p with
 |nil=>intro v x hv h;injection h with h;exact h ▸ hv
 | cons s r ih=>
   intro v x hv h
   unfold getP at h
   cases hs:stepP v s with
   |none=>rw [hs] at h;cases h
   | some q=>
     obtain ⟨y,k⟩:=q
     rw [hs] at h
     exact ih (zk2 hv hs) h
theorem K8 {a b:ByteArray} (h:a.toList=b.toList):a=b:=by
 rw [ByteArray.toList_eq,ByteArray.toList_eq] at h
 cases a;cases b;congr;exact Array.ext' h
def partT (s:ByteArray) (i n:Int):ByteArray:=s.extract ((cuts s).getD i.toNat 0) ((cuts s).getD (i+n).toNat 0)
noncomputable def turnP (x:V) (c:Cm):Cm:=
 if c.k=1 then ⟨1,c.path, .empty,0,0,wrap64 (-c.n),V.none, .empty⟩
 else if c.k=2∨c.k=3 then (if fieldIs x.os c.key=true then ⟨2,c.path,c.key,0,0,0,(x.os.getD (fieldK x.os c.key) (.empty,V.none)).2, .empty⟩ else ⟨3,c.path,c.key,0,0,0,V.none, .empty⟩)
 else if c.k=4 then ⟨5,c.path, .empty,c.i,0,0,V.none, .empty⟩
 else if c.k=5 then ⟨4,c.path, .empty,c.i,0,0,x.ls.getD c.i.toNat V.none, .empty⟩
 else if c.k=6 then ⟨6,c.path, .empty,c.i,0,0,x.ls.getD c.i.toNat V.none, .empty⟩
 else if c.k=7 then ⟨7,c.path, .empty,c.j,c.i,0,V.none, .empty⟩
 else if c.k=8 then ⟨9,c.path, .empty,c.i,0,(textN c.s:Int),V.none, .empty⟩
 else ⟨8,c.path, .empty,c.i,0,0,V.none,partT x.str c.i c.n⟩
theorem zh9 {c:Cm} (hk:kIs c.k=true) (hb:c.bare=⟨c.k,c.path, .empty,0,0,0,V.none, .empty⟩) (hp:pathSound c.path=true) (h1:Lib.validD c.key.data.toList=true) (h2:Lib.validD c.s.data.toList=true) (hi:0<=c.i) (hj:0<=c.j) (h8:c.k=8->c.s.toList≠ []) (h9:c.k=9->1<=c.n) (hv:c.v.sound=true) (hd:c.path.length+1+c.v.deep<=16) (hw:c.v.weight<=20000):cmSound c=true:=by
 unfold cmSound
 rw [hk,Z8 hb,hp,h1,h2,decide_eq_true hi,decide_eq_true hj,hv,decide_eq_true hd,decide_eq_true hw]
 have e8:(c.k==8 && c.s.toList.isEmpty)=false:=by
  by_cases e:c.k=8
  .have:=h8 e
   cases hq:c.s.toList with
   |nil=>exact absurd hq this
   |cons a b=>simp
  .simp [e]
 have e9:(c.k==9 && decide (c.n<1))=false:=by
  by_cases e:c.k=9
  .have:=h9 e;simp;omega
  .simp [e]
 rw [e8,e9];rfl
theorem zfa:V.none.deep<=1:=by simp [V.none,V.deep,deepL,deepO]
theorem zjs {v x:V} {c:Cm} (hs:cmSound c=true) (hg:getP v c.path=some x) (hk:kindsP x c.k c.i c.j c.n c.key=0):checkP v c=0:=by
 unfold checkP
 rw [hs,if_neg (by simp)]
 simp only [hg]
 exact hk
theorem zmb (w:World) (l:List V) (a:Option Addr) (n c:Nat) (hl:IsVals w w.heap.size l a n c) (hfew:n<=100000000) (cc:CC) (x:V) (hx:IsVal w w.heap.size x cc.v) (hc:lCheck n cc.k cc.i cc.j=0):
 uP 116 #[.slice a n c, .agg (uC cc)] w (SeqPost w (listDo l cc.k cc.i cc.j x)):=by
 delta uC uP
 obtain ⟨h4,h7,_⟩:=Yi hc
 by_cases k4:cc.k=4
 .exact zjl w l a n c hl hfew cc x hx hc k4
 by_cases k5:cc.k=5
 .exact zh7 w l a n c hl hfew cc x hc k5
 by_cases k6:cc.k=6
 .exact zg9 w l a n c hl hfew cc x hx hc k6
 exact zhc w l a n c hl hfew cc x hc (by omega)
set_option maxRecDepth 100000 in
theorem zkj (w:World) (B:Nat) (d:VC) (cc:CC) (l:List V) (xv:V) (hB:BC w B (wcells d cc)) (hl:IsVals w w.heap.size l d.la d.ll d.lc) (hfew:l.length<=100000000) (hx:IsVal w w.heap.size xv cc.v) (hc:lCheck l.length cc.k cc.i cc.j=0):
 uP 69 #[.pointer (some ⟨B,0,none⟩)] w fun e w'=>e= .returned (.tuple #[])/\∃W a n c,uB w W/\w'=W.setCell ⟨B,3,none⟩ (.slice a n c)/\IsVals (only (fun b=>w.heap.size<=b) W) W.heap.size (listDo l cc.k cc.i cc.j xv) a n c:=by
 delta uB uP
 have hlen:=hl.len
 have HTD:Hid (∀W,uB w W->uP 116 #[.slice d.la d.ll d.lc, .agg (uC cc)] W fun e w'=>(∃a n c,e= .returned (.tuple #[.slice a n c, .int .u16 0])/\IsVals (only (fun b=>W.heap.size<=b) w') w'.heap.size (listDo l cc.k cc.i cc.j xv) a n c)/\uB W w'):=qh fun W hW=>zmb W l d.la d.ll d.lc (hl.later_ hW) (by omega) cc xv (hx.later_ hW) (by rw [hlen];exact hc)
 have HB:=qh hB
 have HBD:=qh (Zf w)
 have c3:=hB.at_ 3 _ rfl;have f3:=hB.fr 3
 have c5:=hB.at_ 5 _ rfl;have c6:=hB.at_ 6 _ rfl;have c7:=hB.at_ 7 _ rfl;have c8:=hB.at_ 8 _ rfl;have c9:=hB.at_ 9 _ rfl;have c10:=hB.at_ 10 _ rfl;have c11:=hB.at_ 11 _ rfl;have c12:=hB.at_ 12 _ rfl;have c13:=hB.at_ 13 _ rfl;have c14:=hB.at_ 14 _ rfl;have c15:=hB.at_ 15 _ rfl;have c16:=hB.at_ 16 _ rfl
 have zs:=hB.lt
 have mixed:Tryz.prog.follows .mixedOrders=true:=by kernel_rfl
 obtain ⟨TD,hTD⟩:∃TD,listDo l cc.k cc.i cc.j xv=TD:=⟨_,rfl⟩
 rw [hTD] at HTD ⊢
 clear hB hTD hc hfew hl hlen hx
 go_enter Tryz.func69,Tryz.ntmps69
 go_wp2_with fail
 go_region_with (go_simp;go_at_call 116;(with_reducible refine (HTD.out _ HBD.out).mono ?_);rintro e w4 ⟨⟨a4,n4,m4,rfl,hI⟩,hb4⟩;have B4:=HB.out.keep ((Zf w).trans hb4) HB.out.lt;have g3:=B4.at_ 3 _ rfl;have f3':=B4.fr 3;have z4:=B4.lt;have HB4:=qh ((Zf w).trans hb4);have HI:=qh hI;clear hb4 B4 hI)
 all_goals (go_wp2_with fail;exact ⟨rfl, .tuple #[],by simp [results,Tryz.results69,go_sem],rfl,w4,a4,n4,m4,HB4.out,rfl,HI.out⟩)
def MidPost (base:Nat) (W3:World) (B:Nat) (cc:CC) (y:V) (e:Ending) (w':World):Prop:=
 e= .returned (.tuple #[])/\∃d':VC,BC w' B (wcells d' cc)/\IsVal w' w'.heap.size y d'/\Below base W3 w'
structure Mid (w0 W2 W3:World) (base B:Nat) (x:V) (d:VC) (cc:CC) (xv:V):Prop where
 whole:Whole W2 base x d
 next:Below W2.heap.size W2 W3
 box:BC W3 B (wcells d cc)
 B2:W2.heap.size<=B
 b0:w0.heap.size<=base
 b1:base<=W2.heap.size
 low:Below w0.heap.size w0 W2
 xv:IsVal w0 w0.heap.size xv cc.v
theorem Whole.isVal {w:World} {base:Nat} {x:V} {d:VC} (h:Whole w base x d):IsVal w w.heap.size x d:=h.sepI.isVal.sub (Zl _ _ _)
theorem IsVal.parts {w:World} {B:Nat} {x:V} {d:VC} (h:IsVal w B x d):x.kd=d.k/\x.nm=d.n/\x.str=d.s/\d.Bnd/\IsVals w B x.ls d.la d.ll d.lc/\IsFields w B x.os d.oa d.ol d.oc:=by
 obtain ⟨kx,nx,sx,lx,ox,rfl⟩:=x.eta
 obtain ⟨e1,e2,e3,hbd,hl,ho⟩:=h.lists
 subst e1 e2 e3
 exact ⟨rfl,rfl,rfl,hbd,hl,ho⟩
theorem Mid.seen {w0 W2 W3 W:World} {base B:Nat} {x:V} {d:VC} {cc:CC} {xv:V} (h:Mid w0 W2 W3 base B x d cc xv) (hb:uB W2 W):IsVal W W.heap.size x d:=(Whole.isVal h.whole).later_ hb
theorem Mid.seenv {w0 W2 W3 W:World} {base B:Nat} {x:V} {d:VC} {cc:CC} {xv:V} (h:Mid w0 W2 W3 base B x d cc xv) (hb:uB W2 W):IsVal W W.heap.size xv cc.v:=h.xv.later_ (h.low.trans (hb.mono (Nat.le_trans h.b0 h.b1)))
theorem zmg (w0 W2 W3:World) (base B:Nat) (x:V) (d:VC) (p:List St) (cc:CC) (xv:V) (h:Mid w0 W2 W3 base B x d cc xv) (hk:cc.k=1):
 uP 67 #[.pointer (some ⟨B,0,none⟩)] W3 (MidPost base W3 B cc (doneP x ⟨cc.k,p,cc.key,cc.i,cc.j,cc.n,xv,cc.s⟩)):=by
 delta uP
 refine (zlb W3 B d cc h.box).mono ?_
 rintro e w' ⟨rfl,W,hb,rfl⟩
 have hb2:uB W2 (W.setCell ⟨B,1,none⟩ (.int .i64 (wrap64 (d.n+cc.n)))):=(h.next.trans (hb.mono h.next.size)).set_ h.B2
 have hx:=h.seen hb2
 have hB:=(h.box.keep hb h.box.lt).set (i:=1) (x:= .int .i64 (wrap64 (d.n+cc.n))) (by simp [wcells,vcells])
 obtain ⟨e1,e2,e3,hbd,hl,ho⟩:=hx.parts
 refine ⟨rfl,⟨d.k,wrap64 (d.n+cc.n),d.s,d.la,d.ll,d.lc,d.oa,d.ol,d.oc⟩,hB, ?_,(hb.mono (Nat.le_trans h.b1 h.next.size)).set_ (Nat.le_trans h.b1 h.B2)⟩
 rw [doneP,if_pos hk,e1,e2,e3]
 exact Xh hbd.k0 hbd.k1 (zc4 _) (zay _) hbd.s1 hl ho
theorem zg3 (w0 W2 W3:World) (base B:Nat) (x:V) (d:VC) (p:List St) (cc:CC) (xv:V) (h:Mid w0 W2 W3 base B x d cc xv) (hk:cc.k=8∨cc.k=9) (hcb:cc.Bnd) (hs:d.s.size<=1000000000000) (hcs:d.s.size+d.s.size+cc.s.size<=140737488355328) (hc:tCheck x.str cc.k cc.i cc.n=0):
 uP 70 #[.pointer (some ⟨B,0,none⟩)] W3 (MidPost base W3 B cc (doneP x ⟨cc.k,p,cc.key,cc.i,cc.j,cc.n,xv,cc.s⟩)):=by
 delta uP
 have hstr:x.str=d.s:=(Xj (Whole.isVal h.whole)).1
 rw [hstr] at hc
 refine (zkt W3 B d cc h.box hcb hs hc).mono ?_
 rintro e w' ⟨rfl,W,hb,rfl⟩
 have htz:(textDo d.s cc.k cc.i cc.n cc.s).size<=140737488355328:=by have:=zch d.s cc.k cc.i cc.n cc.s;omega
 have hb2:uB W2 (W.setCell ⟨B,2,none⟩ (.string (textDo d.s cc.k cc.i cc.n cc.s))):=(h.next.trans (hb.mono h.next.size)).set_ h.B2
 have hx:=h.seen hb2
 have hB:=(h.box.keep hb h.box.lt).set (i:=2) (x:= .string (textDo d.s cc.k cc.i cc.n cc.s)) (by simp [wcells,vcells])
 obtain ⟨e1,e2,e3,hbd,hl,ho⟩:=hx.parts
 refine ⟨rfl,⟨d.k,d.n,textDo d.s cc.k cc.i cc.n cc.s,d.la,d.ll,d.lc,d.oa,d.ol,d.oc⟩,hB, ?_,(hb.mono (Nat.le_trans h.b1 h.next.size)).set_ (Nat.le_trans h.b1 h.B2)⟩
 rw [doneP,if_neg (by dsimp only;omega),if_neg (by dsimp only;omega),if_pos hk,e1,e2,e3]
 exact Xh hbd.k0 hbd.k1 hbd.n0 hbd.n1 htz hl ho
theorem zjf (w0 W2 W3:World) (base B:Nat) (x:V) (d:VC) (p:List St) (cc:CC) (xv:V) (h:Mid w0 W2 W3 base B x d cc xv) (hk:4<=cc.k/\cc.k<=7) (hfew:x.ls.length<=100000000) (hc:lCheck x.ls.length cc.k cc.i cc.j=0):
 uP 69 #[.pointer (some ⟨B,0,none⟩)] W3 (MidPost base W3 B cc (doneP x ⟨cc.k,p,cc.key,cc.i,cc.j,cc.n,xv,cc.s⟩)):=by
 delta uP
 obtain ⟨_,_,_,_,hl3,_⟩:=(h.seen h.next).parts
 refine (zkj W3 B d cc x.ls xv h.box ?_ hfew (h.seenv h.next) hc).mono ?_
 .exact hl3
 rintro e w' ⟨rfl,W,a,n,c,hb,rfl,hI⟩
 have hb2:uB W2 (W.setCell ⟨B,3,none⟩ (.slice a n c)):=(h.next.trans (hb.mono h.next.size)).set_ h.B2
 have hx:=h.seen hb2
 have hB:=(h.box.keep hb h.box.lt).set (i:=3) (x:= .slice a n c) (by simp [wcells,vcells])
 obtain ⟨e1,e2,e3,hbd,hl,ho⟩:=hx.parts
 refine ⟨rfl,⟨d.k,d.n,d.s,a,n,c,d.oa,d.ol,d.oc⟩,hB, ?_,(hb.mono (Nat.le_trans h.b1 h.next.size)).set_ (Nat.le_trans h.b1 h.B2)⟩
 rw [doneP,if_neg (by dsimp only;omega),if_neg (by dsimp only;omega),if_neg (by dsimp only;omega),e1,e2]
 have e3':x.str=d.s:=e3
 rw [e3']
 have hst:RStep W (W.setCell ⟨B,3,none⟩ (.slice a n c)) B:=RStep.self
 exact Xh hbd.k0 hbd.k1 hbd.n0 hbd.n1 hbd.s1 ((IsVals.sub (fun b o u hb h'=>by
  obtain ⟨hs,hc⟩:=Z1 h'
  exact hst.cell hc (by have:=h.box.lt;omega)) hI).more hst.size) ho
theorem zie (w0 W2 W3:World) (base B:Nat) (x:V) (d:VC) (p:List St) (cc:CC) (xv:V) (h:Mid w0 W2 W3 base B x d cc xv) (hk:cc.k=2∨cc.k=3) (hfew:x.ls.length<=100000000/\x.os.length<=100000000) (hr:rising x.os=true) (hks:cc.key.size<=140737488355328) (hc:cc.k=3->fieldIs x.os cc.key=true):
 uP 68 #[.pointer (some ⟨B,0,none⟩)] W3 (MidPost base W3 B cc (doneP x ⟨cc.k,p,cc.key,cc.i,cc.j,cc.n,xv,cc.s⟩)):=by
 delta uP
 have hS:∀k,base<=k->k<W2.heap.size->base<=k/\k≠B:=fun k h1 h2=>⟨h1,by have:=h.B2;omega⟩
 obtain ⟨co,hF2⟩:=FRow.of (S:=fun k=>base<=k/\k≠B) h.whole rfl hS
 have hL2:=h.whole.lists hS (by omega)
 have hne:(Value.slice d.oa d.ol d.oc).ownBlock≠some B:=fun e=>by have:=(hF2.own.lt _ e).2;have:=h.B2;omega
 have hF3:=hF2.later h.next
 obtain ⟨_,_,_,_,_,ho3⟩:=(h.seen h.next).parts
 have key:∀e w',WFPost W3 B base d cc (newF x.os cc.key xv (cc.k==3)) e w'->MidPost base W3 B cc (doneP x ⟨cc.k,p,cc.key,cc.i,cc.j,cc.n,xv,cc.s⟩) e w':=by
  rintro e w' ⟨rfl,a,n,c,hB,hI,hg⟩
  refine ⟨rfl,⟨d.k,d.n,d.s,d.la,d.ll,d.lc,a,n,c⟩,hB, ?_,hg.low (Nat.le_trans h.b1 h.next.size) (Nat.le_trans h.b1 h.B2) (fun k hk=>(hF2.own.lt k hk).1)⟩
  obtain ⟨_,_,_,hbd,_,_⟩:=(Whole.isVal h.whole).parts
  have hl1:=IsVals.sub (Ze (S':=fun _=>True) (w':=w') fun k hk hl=>⟨trivial,(hg.block k (Nat.lt_of_lt_of_le hl h.next.size) hk.1.2 (fun e=>hk.2 e.symm)).trans (h.next.block k hl)⟩) hL2
  have hl:IsVals w' w'.heap.size x.ls d.la d.ll d.lc:=(IsVals.sub (Zl _ _ _) hl1).more (Nat.le_trans h.next.size hg.size)
  have ho:=IsFields.sub (Zl _ _ _) hI
  have he:=h.whole.1
  rw [<-zfz hr] at ho
  rw [doneP,if_neg (by dsimp only;omega),if_pos hk]
  have e1:x.kd=d.k:=by rw [he];rfl
  have e2:x.nm=d.n:=by rw [he];rfl
  have e3:x.str=d.s:=by rw [he];rfl
  rw [e1,e2,e3]
  exact Xh hbd.k0 hbd.k1 hbd.n0 hbd.n1 hbd.s1 hl ho
 have hw0:uB w0 W3:=h.low.trans (h.next.mono (Nat.le_trans h.b0 h.b1))
 have hbB:base<=B:=Nat.le_trans h.b1 h.B2
 rcases hk with hk|hk
 .rw [hk] at key
  cases hi:fieldIs x.os cc.key with
  |true=>exact (zal w0 W3 B base d cc x xv co h.box hw0 h.b0 hbB ho3 hF3 hne h.xv hk hfew.2 hks).mono fun e w' hp=>by rw [hk];exact key e w' hp
  |false=>exact (zal w0 W3 B base d cc x xv co h.box hw0 h.b0 hbB ho3 hF3 hne h.xv hk hfew.2 hks).mono fun e w' hp=>by rw [hk];exact key e w' hp
 .rw [hk] at key
  exact (zjn w0 W3 B base d cc x xv co h.box hw0 h.b0 hbB ho3 hF3 hne h.xv hk (hc hk) hfew.2 hks).mono fun e w' hp=>by rw [hk];exact key e w' hp
theorem PGetPost.gen {w:World} {v:V} {p:List St} {e:Ending} {w':World} (h:PGetPost w v p e w'):∃(d:VC) (er:Int),e= .returned (.tuple #[.agg #[.int .u8 d.k, .int .i64 d.n, .string d.s, .slice d.la d.ll d.lc, .slice d.oa d.ol d.oc], .int .u16 er])/\Hid ((getP v p=none/\er=30)∨∃x,getP v p=some x/\er=0/\Whole w' w.heap.size x d)/\uB w w':=by
 delta uB
 obtain ⟨hb,⟨rfl,hn⟩|⟨x,d,rfl,hg,hW⟩⟩:=h
 .exact ⟨vzero,30,rfl,qh (.inl ⟨hn,rfl⟩),hb⟩
 .exact ⟨d,0,rfl,qh (.inr ⟨x,hg,rfl,hW⟩),hb⟩
set_option maxRecDepth 100000 in
theorem X2 (w:World) (vk vn:Int) (vs:ByteArray) (la:Option Addr) (ll lc:Nat) (oa:Option Addr) (ol oc:Nat) (v:V) (hv:IsVal w w.heap.size v ⟨vk,vn,vs,la,ll,lc,oa,ol,oc⟩) (hw:v.weight<=1000000000000) (p:List St) (xv:V) (cc:CC) (hcb:cc.Bnd) (hp:IsSteps w w.heap.size p cc.pa cc.pl cc.pc) (hxv:IsVal w w.heap.size xv cc.v) (hxw:xv.weight<=4611686018427387904) (hT:Tabs w):
 uP 51 #[.agg (uU vk vn vs la ll lc oa ol oc), .agg (uC cc)] w fun e w'=>e= .returned (.int .u16 (checkP v ⟨cc.k,p,cc.key,cc.i,cc.j,cc.n,xv,cc.s⟩))/\uB w w':=by
 delta uU uC uB uP
 have HSD:Hid (∀W,uB w W->uP 54 #[.agg (uC cc)] W fun e w'=>e= .returned (.bool (cmSound ⟨cc.k,p,cc.key,cc.i,cc.j,cc.n,xv,cc.s⟩))/\uB W w'):=fun W hW=>zeo _ W (hT.below hW) cc (.mk cc p xv hcb (hp.later_ hW) (hxv.later_ hW)) (by show xv.weight<=_;omega)
 have HGT:Hid (∀W,uB w W->uP 52 #[.agg (uU vk vn vs la ll lc oa ol oc), .slice cc.pa cc.pl cc.pc] W (PGetPost W v p)):=fun W hW=>Qp W v ⟨vk,vn,vs,la,ll,lc,oa,ol,oc⟩ p cc.pa cc.pl cc.pc (hv.later_ hW) (hp.later_ hW)
 have HKD:Hid (∀W x (d:VC),uB w W->IsVal W W.heap.size x d->getP v p=some x->uP 91 #[.agg (uV d), .agg (uC cc)] W fun e w'=>e= .returned (.int .u16 (kindsP x cc.k cc.i cc.j cc.n cc.key))/\uB W w'):=fun W x d hW hI hg=>by
  have h1:=Z6 p hg
  have h2:=x.str_weight.1
  have h3:=(Xj hI).1
  exact zhq W d.k d.n d.s d.la d.ll d.lc d.oa d.ol d.oc x hI (by rw [<-h3];omega) cc hcb
 obtain ⟨sd,hsd⟩:∃sd,cmSound ⟨cc.k,p,cc.key,cc.i,cc.j,cc.n,xv,cc.s⟩=sd:=⟨_,rfl⟩
 rw [hsd] at HSD
 obtain ⟨R,hR⟩:∃R,checkP v ⟨cc.k,p,cc.key,cc.i,cc.j,cc.n,xv,cc.s⟩=R:=⟨_,rfl⟩
 rw [hR]
 simp only [checkP,hsd] at hR
 have HR:=qh hR
 have HB:=qh (KBk.start w ⟨vk,vn,vs,la,ll,lc,oa,ol,oc⟩ cc 29 54)
 clear hR hsd hv hp hxv hxw hw hT hcb
 go_enter Tryz.func51,Tryz.ntmps51
 go_wp2_with fail
 refine (HSD.out _ HB.out.below).mono ?_
 rintro e W ⟨rfl,hb1⟩
 have B:=HB.out.next hb1 (by simp)
 obtain ⟨v0,v1,v2,v3,v4⟩:=row5 B.v.at_
 obtain ⟨b0,b1,b2,b3,b4,b5,b6,b7,b8,b9,b10,b11⟩:=row12 B.c.at_
 have z0:=B.v.lt;have z1:=B.c.lt
 have HBW:=qh B
 clear B hb1
 cases sd with
 | false=>
   obtain rfl:R=60:=by rw [<-HR.out];rfl
   go_wp2_with fail
   go_returns
   exact ⟨rfl,HBW.out.below⟩
 | true=>
   go_wp2_with fail
   refine (HGT.out _ HBW.out.below).mono ?_
   rintro e W2 h2
   obtain ⟨d,er,rfl,hrel,hb2⟩:=PGetPost.gen h2
   clear h2
   have B2:=HBW.out.next hb2 (Nat.succ_le_of_lt z1)
   clear v0 v1 v2 v3 v4 b0 b1 b2 b3 b4 b5 b6 b7 b8 b9 b10 b11
   obtain ⟨v0,v1,v2,v3,v4⟩:=row5 B2.v.at_
   obtain ⟨b0,b1,b2,b3,b4,b5,b6,b7,b8,b9,b10,b11⟩:=row12 B2.c.at_
   have z0:=B2.v.lt;have z1:=B2.c.lt
   have hbl2:=B2.below
   have HB2:=qh (hbl2.alloc hbl2.size (.cells (uV d) 29))
   clear hb2 B2
   rcases hrel.out with ⟨hg,rfl⟩|⟨x,hg,rfl,hI⟩
   .obtain rfl:R=30:=by rw [<-HR.out,hg];rfl
    clear hg hbl2
    go_wp2_with fail
    go_returns
    exact ⟨rfl,HB2.out⟩
   .have HK:Hid (uP 91 #[.agg (uV d), .agg (uC cc)] (W2.alloc (.cells (uV d) 29)) fun e w'=>e= .returned (.int .u16 (kindsP x cc.k cc.i cc.j cc.n cc.key))/\uB (W2.alloc (.cells (uV d) 29)) w'):=HKD.out _ x d HB2.out ((hI.sepI.isVal.sub (Zl _ _ _)).later_ ((Below.refl _ _).alloc (Nat.le_refl _) _)) hg
    obtain rfl:R=kindsP x cc.k cc.i cc.j cc.n cc.key:=by rw [<-HR.out,hg];rfl
    clear hg hI hrel hbl2
    go_wp2_with fail
    refine HK.out.mono ?_
    rintro e W3 ⟨rfl,hb3⟩
    go_wp2_with fail
    go_returns
    exact ⟨rfl,HB2.out.trans (hb3.mono HB2.out.size)⟩
def sliceN:Value->Nat
 | .slice _ n _=>n
 |_=>0
theorem IsSteps.take {w:World} {B:Nat} {l:List St} {a:Option Addr} {n c:Nat} (h:IsSteps w B l a n c) (k:Nat) (hk:k<=n):IsSteps w B (l.take k) a k c:=by
 obtain ⟨h1,h2,h3,h4,b,o,h5,h6⟩:=h
 refine ⟨by rw [List.length_take];omega,by omega,h3,by omega,b,o,fun hn=>h5 (by omega),fun i hi=> ?_⟩
 rw [List.length_take] at hi
 rw [List.getElem_take];exact h6 i (by omega)
theorem Xs {W W':World} {S S':Nat->Prop} {B:Nat} {p:List St} {a:Option Addr} {n c:Nat} (h:IsSteps (only S W) B p a n c) (hB:B=W.heap.size) (hz:W.heap.size<=W'.heap.size) (hs:∀k,S k->k<W.heap.size->S' k/\W'.heap[k]? =W.heap[k]?):IsSteps (only S' W') W'.heap.size p a n c:=by
 subst hB;exact (h.sub (Ze hs)).more hz
theorem Yc {W W':World} {S S':Nat->Prop} {B:Nat} {x:V} {c:VC} (h:IsVal (only S W) B x c) (hB:B=W.heap.size) (hz:W.heap.size<=W'.heap.size) (hs:∀k,S k->k<W.heap.size->S' k/\W'.heap[k]? =W.heap[k]?):IsVal (only S' W') W'.heap.size x c:=by
 subst hB;exact (h.sub (Ze hs)).more hz
theorem GetPost.any {w w':World} {r:Option V} {e:Ending} (h:GetPost w r e w'):∃(c:VC) (i:Int),e= .returned (.tuple #[.agg #[.int .u8 c.k, .int .i64 c.n, .string c.s, .slice c.la c.ll c.lc, .slice c.oa c.ol c.oc], .int .i64 i])/\IsVal (only (fun b=>w.heap.size<=b) w') w'.heap.size (r.getD V.none) c/\uB w w':=by
 delta uB
 obtain ⟨h1,h2⟩:=h
 cases r with
 |none=>exact ⟨vzero,30,h1,Zw _ _,h2⟩
 |some x=>obtain ⟨c,e,hI⟩:=h1;exact ⟨c,0,e,hI,h2⟩
structure OH (w wr:World) (c:VC) (a:AC) (xb:Nat) (x:V) (cx:VC):Prop where
 v:BC wr w.heap.size (vcells c)
 a:BC wr (w.heap.size+1) (acells a)
 r:BC wr (w.heap.size+1+1) (ccells czero)
 bx:BC wr xb (vcells cx)
 val:IsVal (only (fun b=>b≠xb) wr) wr.heap.size x cx
 lo:w.heap.size+3<=xb
 below:Below w.heap.size w wr
structure OH0 (w W:World) (c:VC) (a:AC):Prop where
 v:BC W w.heap.size (vcells c)
 a:BC W (w.heap.size+1) (acells a)
 r:BC W (w.heap.size+1+1) (ccells czero)
 below:Below w.heap.size w W
theorem OH0.next {w W W':World} {c:VC} {a:AC} {B:Nat} (h:OH0 w W c a) (hb:Below B W W') (hB:w.heap.size+3<=B):OH0 w W' c a:=
 ⟨h.v.keep hb (by omega),h.a.keep hb (by omega),h.r.keep hb (by omega),h.below.trans (hb.mono (by omega))⟩
theorem OH0.start (w:World) (x:VC) (a:AC) (t1 t2 t3:TypeId):OH0 w (((w.alloc (.cells #[.int .u8 x.k, .int .i64 x.n, .string x.s, .slice x.la x.ll x.lc, .slice x.oa x.ol x.oc] t1)).alloc (.cells #[.slice a.pa a.pl a.pc, .int .u8 a.k, .int .i64 a.i, .int .i64 a.j, .int .i64 a.n, .string a.s, .slice a.va a.vl a.vc] t2)).alloc (.cells #[.int .u8 0, .slice none 0 0, .string { data:= #[] }, .int .i64 0, .int .i64 0, .int .i64 0, .int .u8 0, .int .i64 0, .string { data:= #[] }, .slice none 0 0, .slice none 0 0, .string { data:= #[] }] t3)) x a:=by
 obtain ⟨w1,hw1⟩:∃w1,w.alloc (.cells (uV x) t1)=w1:=⟨_,rfl⟩
 have s1:w1.heap.size=w.heap.size+1:=by rw [<-hw1,World.size_alloc]
 have b1:uB w w1:=by rw [<-hw1];exact (Below.refl _ _).alloc (Nat.le_refl _) _
 have c1:BC w1 w.heap.size (vcells x):=by rw [<-hw1];exact BC.start w (uV x) t1
 rw [hw1]
 obtain ⟨w2,hw2⟩:∃w2,w1.alloc (.cells (uA a) t2)=w2:=⟨_,rfl⟩
 have s2:w2.heap.size=w.heap.size+1+1:=by rw [<-hw2,World.size_alloc,s1]
 have b2:uB w1 w2:=by rw [<-hw2];exact (Below.refl _ _).alloc (Nat.le_refl _) _
 have c2:=BC.start w1 (uA a) t2
 rw [hw2,s1] at c2
 rw [hw2]
 have b3:uB w2 (w2.alloc (.cells #[.int .u8 0, .slice none 0 0, .string { data:= #[] }, .int .i64 0, .int .i64 0, .int .i64 0, .int .u8 0, .int .i64 0, .string { data:= #[] }, .slice none 0 0, .slice none 0 0, .string { data:= #[] }] t3)):=(Below.refl _ _).alloc (Nat.le_refl _) _
 have c3:=BC.start w2 #[.int .u8 0, .slice none 0 0, .string { data:= #[] }, .int .i64 0, .int .i64 0, .int .i64 0, .int .u8 0, .int .i64 0, .string { data:= #[] }, .slice none 0 0, .slice none 0 0, .string { data:= #[] }] t3
 rw [s2] at c3
 exact ⟨(c1.keep b2 (by omega)).keep b3 (by omega),c2.keep b3 (by omega),c3,(b1.trans (b2.mono (by omega))).trans (b3.mono (by omega))⟩
theorem OH.start {w W W':World} {c:VC} {a:AC} {x:V} {cx:VC} {t:TypeId} (h:OH0 w W c a) (hz:w.heap.size+3<=W.heap.size) (hI:IsVal (only (fun b=>W.heap.size<=b) W') W'.heap.size x cx) (hb:uB W W'):OH w (W'.alloc (.cells #[.int .u8 cx.k, .int .i64 cx.n, .string cx.s, .slice cx.la cx.ll cx.lc, .slice cx.oa cx.ol cx.oc] t)) c a W'.heap.size x cx:=by
 have h1:=h.next hb hz
 have hb2:uB W' (W'.alloc (.cells (uV cx) t)):=(Below.refl _ _).alloc (Nat.le_refl _) _
 have h2:=h1.next hb2 (by have:=hb.size;omega)
 exact ⟨h2.v,h2.a,h2.r,BC.start _ _ _,Yc hI rfl hb2.size fun k _ hl=>⟨by omega,hb2.block k hl⟩,by have:=hb.size;omega,h2.below⟩
theorem OH.next {w W W':World} {c:VC} {a:AC} {xb:Nat} {x:V} {cx:VC} (h:OH w W c a xb x cx) (hb:uB W W'):OH w W' c a xb x cx:=
 ⟨h.v.keep hb h.v.lt,h.a.keep hb h.a.lt,h.r.keep hb h.r.lt,h.bx.keep hb h.bx.lt,Yc h.val rfl hb.size fun k hk hl=>⟨hk,hb.block k hl⟩,h.lo,h.below.trans (hb.mono h.below.size)⟩
theorem OH.round {w W W':World} {c:VC} {a:AC} {xb:Nat} {x y:V} {cx cy:VC} (h:OH w W c a xb x cx) (hb:uB W W') (hI:IsVal (only (fun b=>W.heap.size<=b) W') W'.heap.size y cy):OH w (setV W' xb 0 cy) c a xb y cy:=by
 have h1:=h.next hb
 have hl:=h.lo
 have hxl:=h.bx.lt
 have st:=Zi W' xb 0 cy
 exact ⟨h1.v.next st (by omega),h1.a.next st (by omega),h1.r.next st (by omega),Zy h1.bx cy,Yc hI rfl st.size fun k hk hl=>⟨by omega,st.block k hl (by omega)⟩,hl,Below.set5' h1.below (by omega) _ _ _ _ _⟩
def setC (W:World) (b:Nat) (d:CC):World:=((((((((((((W.setCell ⟨b,0,none⟩ (.int .u8 d.k)).setCell ⟨b,1,none⟩ (.slice d.pa d.pl d.pc)).setCell ⟨b,2,none⟩ (.string d.key)).setCell ⟨b,3,none⟩ (.int .i64 d.i)).setCell ⟨b,4,none⟩ (.int .i64 d.j)).setCell ⟨b,5,none⟩ (.int .i64 d.n)).setCell ⟨b,6,none⟩ (.int .u8 d.v.k)).setCell ⟨b,7,none⟩ (.int .i64 d.v.n)).setCell ⟨b,8,none⟩ (.string d.v.s)).setCell ⟨b,9,none⟩ (.slice d.v.la d.v.ll d.v.lc)).setCell ⟨b,10,none⟩ (.slice d.v.oa d.v.ol d.v.oc)).setCell ⟨b,11,none⟩ (.string d.s))
theorem Y9 (W:World) (b:Nat) (d:CC):RStep W (setC W b d) b:=Xf W b d
def OnePost (w:World) (r:Option Cm) (e:Ending) (w':World):Prop:=
 (∃cc:CC,match r with
   |some x=>e= .returned (.tuple #[.agg #[.int .u8 cc.k, .slice cc.pa cc.pl cc.pc, .string cc.key, .int .i64 cc.i, .int .i64 cc.j, .int .i64 cc.n, .int .u8 cc.v.k, .int .i64 cc.v.n, .string cc.v.s, .slice cc.v.la cc.v.ll cc.v.lc, .slice cc.v.oa cc.v.ol cc.v.oc, .string cc.s], .int .i64 1])/\IsComp (only (fun b=>w.heap.size<=b) w') w'.heap.size x cc
   |none=>e= .returned (.tuple #[.agg #[.int .u8 cc.k, .slice cc.pa cc.pl cc.pc, .string cc.key, .int .i64 cc.i, .int .i64 cc.j, .int .i64 cc.n, .int .u8 cc.v.k, .int .i64 cc.v.n, .string cc.v.s, .slice cc.v.la cc.v.ll cc.v.lc, .slice cc.v.oa cc.v.ol cc.v.oc, .string cc.s], .int .i64 0])/\∃x:Cm,x.v.weight<=1/\x.s.size=0/\IsComp (only (fun b=>w.heap.size<=b) w') w'.heap.size x cc)/\Below w.heap.size w w'
theorem zax {tmps:Array Value} {W:World} {b:Nat} {d:CC} {y:Value} (ht:tmps[4]? =some (.pointer (some ⟨b,0,none⟩))) (hy:tmps[5]? =some y) (h:BC W b (ccells d)):
 (results Tryz.f32 tmps).run Tryz.prog W= .ok (.tuple #[.agg #[.int .u8 d.k, .slice d.pa d.pl d.pc, .string d.key, .int .i64 d.i, .int .i64 d.j, .int .i64 d.n, .int .u8 d.v.k, .int .i64 d.v.n, .string d.v.s, .slice d.v.la d.v.ll d.v.lc, .slice d.v.oa d.v.ol d.v.oc, .string d.s],y]) W:=by
 obtain ⟨r0,r1,r2,r3,r4,r5,r6,r7,r8,r9,r10,r11⟩:=row12 h.at_
 simp [results,Tryz.results32,go_sem,ht,hy,r0,r1,r2,r3,r4,r5,r6,r7,r8,r9,r10,r11]
theorem zml {w W:World} {d:CC} {p:List St} {x:V} {A:Act} (hr:BC W (w.heap.size+1+1) (ccells czero)) (hp:IsSteps (only (fun b=>w.heap.size+3<=b) W) W.heap.size p d.pa d.pl d.pc) (hx:IsVal (only (fun b=>w.heap.size+3<=b) W) W.heap.size x d.v) (hb:uB w W) (hd:d.Bnd) (ht:A.tmps[4]? =some (.pointer (some ⟨w.heap.size+1+1,0,none⟩))) (hy:A.tmps[5]? =some (.int .i64 1)) (hA:A.defers= []):
 bodyPost Tryz.prog Tryz.f32 (OnePost w (some (cmOf p x d))) .ret A (setC W (w.heap.size+1+1) d):=by
 have st:=Y9 W (w.heap.size+1+1) d
 refine ⟨hA,_,zax ht hy (Zt hr d),⟨d,rfl, ?_⟩,Below.setC hb (by omega) d⟩
 exact .mk d p x hd (Xs hp rfl st.size fun k hk hl=>⟨by omega,st.block k hl (by omega)⟩) (Yc hx rfl st.size fun k hk hl=>⟨by omega,st.block k hl (by omega)⟩)
theorem zfc {w W:World} {d:CC} {p:List St} {A:Act} (hr:BC W (w.heap.size+1+1) (ccells czero)) (hp:IsSteps (only (fun b=>w.heap.size+3<=b) W) W.heap.size p d.pa d.pl d.pc) (hx:IsVal (only (fun b=>w.heap.size+3<=b) W) W.heap.size V.none d.v) (hd:d.Bnd) (hs:d.s.size=0) (hb:uB w W) (ht:A.tmps[4]? =some (.pointer (some ⟨w.heap.size+1+1,0,none⟩))) (hy:A.tmps[5]? =some (.int .i64 0)) (hA:A.defers= []):
 bodyPost Tryz.prog Tryz.f32 (OnePost w none) .ret A (setC W (w.heap.size+1+1) d):=by
 have st:=Y9 W (w.heap.size+1+1) d
 refine ⟨hA,_,zax ht hy (Zt hr d),⟨d,rfl,cmOf p V.none d,by simp [cmOf,V.none,V.weight,weightL,weightO],hs, ?_⟩,Below.setC hb (by omega) d⟩
 exact .mk d p V.none hd (Xs hp rfl st.size fun k hk hl=>⟨by omega,st.block k hl (by omega)⟩) (Yc hx rfl st.size fun k hk hl=>⟨by omega,st.block k hl (by omega)⟩)
theorem IsB.later6 {w w':World} {a:Option Addr} {n c:Nat} {bs:List UInt8} (h:IsB w w.heap.size a n c bs) (hb:uB w w'):IsB w' w'.heap.size a n c bs:=by
 obtain ⟨h1,h2,h3,b,o,h5,h6⟩:=h.keep hb
 exact ⟨h1,h2,h3,b,o,fun h=>⟨(h5 h).1,Nat.lt_of_lt_of_le (h5 h).2 hb.size⟩,h6⟩
theorem zli {w:World} {B:Nat} {v:V} {c:VC} (h:IsVal w B v c):v.kd=c.k:=by
 obtain ⟨k,n,s,l,o,rfl⟩:=v.eta
 exact h.lists.1.symm
def pathC (pa:Option Addr) (k pc:Nat):CC:=⟨0,pa,k,pc, .empty,0,0,0,vzero, .empty⟩
theorem X6:ByteArray.empty.size<=140737488355328:=by decide
theorem Jm (pa:Option Addr) (k pc:Nat):(pathC pa k pc).Bnd:=
 ⟨by simp [pathC],by simp [pathC],by simp [pathC],by simp [pathC],by simp [pathC],by simp [pathC],by simp [pathC],by simp [pathC],X6,X6⟩
theorem Xx (x:Int) (n:Nat) (hn:n<=1466015503701) (h0:0<n):0<=max x 0 % (n:Int)/\max x 0 % (n:Int)<n:=⟨Int.emod_nonneg _ (by omega),Int.emod_lt_of_pos _ (by omega)⟩
theorem zis {n:Nat} (hn:n<=1000000000000) {a:AC} {c:CC} (hc:c.Bnd):(textA n a c).Bnd:=by
 obtain ⟨k0,k1,i0,i1,j0,j1,n0,n1,ks,ss⟩:=hc
 unfold textA
 split
 .rename_i h
  have hi:=Xx a.i n (by omega) h.1
  have hj0:0<=max a.j 0 % ((n:Int) - max a.i 0 % n):=Int.emod_nonneg _ (by omega)
  have hj1:max a.j 0 % ((n:Int) - max a.i 0 % n)<(n:Int) - max a.i 0 % n:=Int.emod_lt_of_pos _ (by omega)
  exact ⟨by dsimp only;omega,by dsimp only;omega,by dsimp only;omega,by dsimp only;omega,j0,j1,by dsimp only;omega,by dsimp only;omega,ks,X6⟩
 .have hi:=Xx a.i (n+1) (by omega) (by omega)
  push_cast at hi
  have h1:=Y5 a.s
  refine ⟨by dsimp only;omega,by dsimp only;omega,by dsimp only;omega,by dsimp only;omega,j0,j1,n0,n1,ks, ?_⟩
  show ({ data:= #[120] } ++plainS a.s:ByteArray).size<=_
  rw [ByteArray.size_append]
  have:({ data:= #[120] } :ByteArray).size=1:=rfl
  omega
theorem zfy {n:Nat} {k:Int} :4<=listK n k/\listK n k<=7:=by
 unfold listK;split<;>omega
theorem zhg {n:Nat} (hn:n<=1466015503700) {a:AC} {c:CC} (hc:c.Bnd) (cv:VC):(listA n a c cv).Bnd:=by
 obtain ⟨k0,k1,i0,i1,j0,j1,n0,n1,ks,ss⟩:=hc
 have hk:=zfy (n:=n) (k:=a.k)
 unfold listA
 have hi: -9223372036854775808<=(if listK n a.k=4 then max a.i 0 % ((n:Int)+1) else max a.i 0 % n)/\(if listK n a.k=4 then max a.i 0 % ((n:Int)+1) else max a.i 0 % n)<=9223372036854775807:=by
  split
  .have:=Xx a.i (n+1) (by omega) (by omega);push_cast at this;omega
  .rename_i h
   have hn0:0<n:=by
    rcases Nat.eq_zero_or_pos n with h0|h0
    .exact absurd (by rw [listK,if_pos h0]) h
    .exact h0
   have:=Xx a.i n (by omega) hn0;omega
 have hj: -9223372036854775808<=(if listK n a.k=7 then max a.j 0 % (n:Int) else c.j)/\(if listK n a.k=7 then max a.j 0 % (n:Int) else c.j)<=9223372036854775807:=by
  split
  .rename_i h
   have hn0:0<n:=by
    rcases Nat.eq_zero_or_pos n with h0|h0
    .rw [listK,if_pos h0] at h;omega
    .exact h0
   have:=Xx a.j n (by omega) hn0;omega
  .exact ⟨j0,j1⟩
 exact ⟨by dsimp only;omega,by dsimp only;omega,hi.1,hi.2,hj.1,hj.2,n0,n1,ks,ss⟩
theorem zd2 {w:World} {B:Nat} {o:List (ByteArray×V)} {oa:Option Addr} {ol oc:Nat} (ho:IsFields w B o oa ol oc) {a:AC} {c:CC} (hc:c.Bnd) (cv:VC):(fieldA o a c cv).Bnd:=by
 obtain ⟨k0,k1,i0,i1,j0,j1,n0,n1,ks,ss⟩:=hc
 have hp:=Y5 a.s
 have hk:(fieldKey o a).size<=140737488355328:=by
  unfold fieldKey
  split
  .rename_i h
   have hi:=Xx a.i o.length (by have:=ho.few;have:=ho.len;omega) h.1
   have hlt:(max a.i 0 % (o.length:Int)).toNat<ol:=by rw [ho.len];omega
   obtain ⟨_,_,_,hq,_,_,_,hs,_,_⟩:=ho.get hlt
   simp only [List.getD_eq_getElem?_getD,List.getElem?_eq_getElem hq,Option.getD_some]
   exact hs
  .omega
 unfold fieldA
 refine ⟨?_, ?_,i0,i1,j0,j1,n0,n1,hk,ss⟩
 .dsimp only;split<;>omega
 .dsimp only;split<;>omega
theorem zfd (w:World) (vk vn:Int) (vs:ByteArray) (la:Option Addr) (ll lc:Nat) (oa:Option Addr) (ol oc:Nat) (v:V) (hv:IsVal w w.heap.size v ⟨vk,vn,vs,la,ll,lc,oa,ol,oc⟩) (hw:v.weight<=100000000) (p:List St) (xv:V) (cc:CC) (hcb:cc.Bnd) (hp:IsSteps w w.heap.size p cc.pa cc.pl cc.pc) (hxv:IsVal w w.heap.size xv cc.v) (hxw:xv.weight<=4611686018427387904) (hcs:∀y,getP v p=some y->y.str.size+y.str.size+cc.s.size<=140737488355328) (hT:Tabs w):
 uP 33 #[.agg (uU vk vn vs la ll lc oa ol oc), .agg (uC cc)] w (DoPost w (doP v ⟨cc.k,p,cc.key,cc.i,cc.j,cc.n,xv,cc.s⟩)):=by
 delta uU uC uP
 by_cases he:checkP v ⟨cc.k,p,cc.key,cc.i,cc.j,cc.n,xv,cc.s⟩=0
 .obtain ⟨hs,x,_,hkd⟩:=Yl he
  have hk1:=J8 hs
  dsimp only at hk1
  by_cases e1:cc.k=1
  .exact zd0 w vk vn vs la ll lc oa ol oc v hv hw p xv cc hcb hp hxv hxw hT he e1
  by_cases e2:cc.k=2∨cc.k=3
  .exact zee w vk vn vs la ll lc oa ol oc v hv hw p xv cc hcb hp hxv hxw hT he e2
  by_cases e3:cc.k=8∨cc.k=9
  .exact zen w vk vn vs la ll lc oa ol oc v hv hw p xv cc hcb hp hxv hxw hcs hT he e3
  .exact zlz w vk vn vs la ll lc oa ol oc v hv hw p xv cc hcb hp hxv hxw hT he (by omega)
 .exact zhl w vk vn vs la ll lc oa ol oc v hv hw p xv cc hcb hp hxv hxw hT he
end Go.Proofs.YtbgheehjfnoiiaaGreatDoor
