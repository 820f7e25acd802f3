/-
  Contracts of the functions that the law reaches: conciliatorref06.Sound..
-/
import Derived.Test.YtbgheehjfnoiiaaGreatDoorOn15
import Derived.Test.YtbgheehjfnoiiaaGreatDoorOn23
import Derived.Test.YtbgheehjfnoiiaaGreatDoorOn24
import Derived.Test.YtbgheehjfnoiiaaGreatDoorOn25
namespace Go.Proofs.YtbgheehjfnoiiaaGreatDoor
open Go.RowKit
set_option maxHeartbeats 8000000
theorem zfu (x:Cm) (w:World) (hT:Tabs w) (c:CC) (hx:IsComp w w.heap.size x c) (hw:x.v.weight<=4611686018427387904):
 uP 106 #[.agg (uC c)] w fun e w'=>e= .returned (.bool (cmSound x))/\uB w w':=by
 delta uC uB uP
 obtain ⟨_,_,_,_,_,_,_,_,_,_,_,_,h⟩:=zlp x w hT c hx hw
 by_cases e1:c.k=1
 .exact zl3 w c h e1
 by_cases e2:c.k=2
 .exact zno w c h e2
 by_cases e3:c.k=3
 .exact zft w c h e3
 by_cases e4:c.k=4
 .exact zi1 w c h e4
 by_cases e5:c.k=5
 .exact zd3 w c h e5
 by_cases e6:c.k=6
 .exact zlf w c h e6
 by_cases e7:c.k=7
 .exact zjx w c h e7
 by_cases e8:c.k=8
 .exact zdx w c h e8
 by_cases e9:c.k=9
 .exact zgd w c h e9
 exact zhu w c h (by simp only [kIs,Bool.and_eq_false_iff,decide_eq_false_iff_not];omega)
noncomputable def checkP (v:V) (c:Cm):Int:=
 if cmSound c=false then 60 else match getP v c.path with
  |none=>30
  |some x=>kindsP x c.k c.i c.j c.n c.key
theorem zev {v:V} {s:St} {x:V} {k:Nat} (h:stepP v s=some (x,k)):x.weight<v.weight:=by
 obtain ⟨kk,n,t,l,o,rfl⟩:=v.eta
 rcases Xm h with ⟨_,_,_,hk,e⟩|⟨_,_,_,hk,e⟩
 .have h:=Qd l k hk
  have e2:l[k]'hk=x:=e
  rw [e2] at h
  simp only [V.weight];omega
 .have h:=Qj o k hk
  have e2:(o[k]'hk).2=x:=e
  rw [e2] at h
  simp only [V.weight];omega
theorem Z6 (p:List St):∀ {v x:V},getP v p=some x->x.weight<=v.weight:=by
 induction p with
 |nil=>intro v x h;injection h with h;subst h;exact Nat.le_refl _
 | cons s r ih=>
   intro v x h
   unfold getP at h
   cases hs:stepP v s with
   |none=>rw [hs] at h;cases h
   | some q=>
     rw [hs] at h
     have:=zev (x:=q.1) (k:=q.2) hs
     have:=ih h
     omega
theorem V.str_weight (v:V):v.str.size<v.weight/\v.ls.length<v.weight/\v.os.length<v.weight:=by
 obtain ⟨kk,n,t,l,o,rfl⟩:=v.eta
 have hp:∀v:V,1<=v.weight:=fun v=>by cases v;simp only [V.weight];omega
 have h1:l.length<=weightL l:=by
  induction l with
  |nil=>simp
  |cons a r ih=>have:=hp a;simp only [List.length_cons,weightL];omega
 have h2:o.length<=weightO o:=by
  induction o with
  |nil=>simp
  |cons a r ih=>have:=hp a.2;simp only [List.length_cons,weightO,Yg];omega
 simp only [V.str,V.ls,V.os,V.weight];omega
set_option maxRecDepth 100000 in
theorem Qq (w:World) (vk vn:Int) (vs:ByteArray) (la:Option Addr) (ll lc:Nat) (oa:Option Addr) (ol oc:Nat) (v:V) (hv:IsVal w w.heap.size v ⟨vk,vn,vs,la,ll,lc,oa,ol,oc⟩) (hw:v.weight<=1000000000000) (p:List St) (xv:V) (cc:CC) (hcb:cc.Bnd) (hp:IsSteps w w.heap.size p cc.pa cc.pl cc.pc) (hxv:IsVal w w.heap.size xv cc.v) (hxw:xv.weight<=4611686018427387904) (hT:Tabs w):
 uP 62 #[.agg (uU vk vn vs la ll lc oa ol oc), .agg (uC cc)] w fun e w'=>e= .returned (.int .i64 (checkP v ⟨cc.k,p,cc.key,cc.i,cc.j,cc.n,xv,cc.s⟩))/\uB w w':=by
 delta uU uC uB uP
 have HSD:Hid (∀W,uB w W->uP 106 #[.agg (uC cc)] W fun e w'=>e= .returned (.bool (cmSound ⟨cc.k,p,cc.key,cc.i,cc.j,cc.n,xv,cc.s⟩))/\uB W w'):=fun W hW=>zfu _ W (hT.below hW) cc (.mk cc p xv hcb (hp.later_ hW) (hxv.later_ hW)) (by show xv.weight<=_;omega)
 have HGT:Hid (∀W,uB w W->uP 58 #[.agg (uU vk vn vs la ll lc oa ol oc), .slice cc.pa cc.pl cc.pc] W (GetPost W (getP v p))):=fun W hW=>Xt W vk vn vs la ll lc oa ol oc v (hv.later_ hW) p cc.pa cc.pl cc.pc (hp.later_ hW)
 have HKD:Hid (∀W x (d:VC),uB w W->IsVal W W.heap.size x d->getP v p=some x->uP 107 #[.agg (uV d), .agg (uC cc)] W fun e w'=>e= .returned (.int .i64 (kindsP x cc.k cc.i cc.j cc.n cc.key))/\uB W w'):=fun W x d hW hI hg=>by
  have h1:=Z6 p hg
  have h2:=x.str_weight.1
  have h3:=(Xj hI).1
  exact zip W d.k d.n d.s d.la d.ll d.lc d.oa d.ol d.oc x hI (by rw [<-h3];omega) cc hcb (hT.below hW)
 obtain ⟨sd,hsd⟩:∃sd,cmSound ⟨cc.k,p,cc.key,cc.i,cc.j,cc.n,xv,cc.s⟩=sd:=⟨_,rfl⟩
 rw [hsd] at HSD
 obtain ⟨R,hR⟩:∃R,checkP v ⟨cc.k,p,cc.key,cc.i,cc.j,cc.n,xv,cc.s⟩=R:=⟨_,rfl⟩
 rw [hR]
 simp only [checkP,hsd] at hR
 have HR:=qh hR
 have HB:=qh (KBk.start w ⟨vk,vn,vs,la,ll,lc,oa,ol,oc⟩ cc 29 54)
 clear hR hsd hv hp hxv hxw hw hT hcb
 go_enter Tryz.func62,Tryz.ntmps62
 go_wp2_with fail
 refine (HSD.out _ HB.out.below).mono ?_
 rintro e W ⟨rfl,hb1⟩
 have B:=HB.out.next hb1 (by simp)
 obtain ⟨v0,v1,v2,v3,v4⟩:=row5 B.v.at_
 obtain ⟨b0,b1,b2,b3,b4,b5,b6,b7,b8,b9,b10,b11⟩:=row12 B.c.at_
 have z0:=B.v.lt;have z1:=B.c.lt
 have HBW:=qh B
 clear B hb1
 cases sd with
 | false=>
   obtain rfl:R=60:=by rw [<-HR.out];rfl
   go_wp2_with fail
   go_returns
   exact ⟨rfl,HBW.out.below⟩
 | true=>
   go_wp2_with fail
   refine (HGT.out _ HBW.out.below).mono ?_
   rintro e W2 h2
   obtain ⟨d,er,rfl,hrel,hb2⟩:=GetPost.gen h2
   clear h2
   have B2:=HBW.out.next hb2 (Nat.succ_le_of_lt z1)
   clear v0 v1 v2 v3 v4 b0 b1 b2 b3 b4 b5 b6 b7 b8 b9 b10 b11
   obtain ⟨v0,v1,v2,v3,v4⟩:=row5 B2.v.at_
   obtain ⟨b0,b1,b2,b3,b4,b5,b6,b7,b8,b9,b10,b11⟩:=row12 B2.c.at_
   have z0:=B2.v.lt;have z1:=B2.c.lt
   have hbl2:=B2.below
   have HB2:=qh (hbl2.alloc hbl2.size (.cells (uV d) 29))
   clear hb2 B2
   rcases hrel.out with ⟨hg,rfl⟩|⟨x,hg,rfl,hI⟩
   .obtain rfl:R=30:=by rw [<-HR.out,hg];rfl
    clear hg hbl2
    go_wp2_with fail
    go_returns
    exact ⟨rfl,HB2.out⟩
   .have HK:Hid (uP 107 #[.agg (uV d), .agg (uC cc)] (W2.alloc (.cells (uV d) 29)) fun e w'=>e= .returned (.int .i64 (kindsP x cc.k cc.i cc.j cc.n cc.key))/\uB (W2.alloc (.cells (uV d) 29)) w'):=HKD.out _ x d HB2.out ((hI.sub (Zl _ _ _)).later_ ((Below.refl _ _).alloc (Nat.le_refl _) _)) hg
    obtain rfl:R=kindsP x cc.k cc.i cc.j cc.n cc.key:=by rw [<-HR.out,hg];rfl
    clear hg hI hrel hbl2
    go_wp2_with fail
    refine HK.out.mono ?_
    rintro e W3 ⟨rfl,hb3⟩
    go_wp2_with fail
    go_returns
    exact ⟨rfl,HB2.out.trans (hb3.mono HB2.out.size)⟩
def fldStep (key:ByteArray) (v:V) (s:List (ByteArray×V)×Bool) (f:ByteArray×V):List (ByteArray×V)×Bool:=
 if s.2=false/\Op.bytesLess f.1.toList key.toList=false then (if f.1.toList=key.toList then (s.1++ [(key,v)],true) else (s.1++ [(key,v)] ++ [f],true))
 else if f.1.toList=key.toList then s else (s.1++ [f],s.2)
def fieldsDo (o:List (ByteArray×V)) (key:ByteArray) (v:V) (del:Bool):List (ByteArray×V):=
 if (o.foldl (fldStep key v) ([],del)).2=false then (o.foldl (fldStep key v) ([],del)).1++ [(key,v)] else (o.foldl (fldStep key v) ([],del)).1
theorem zkc {α β:Type} (f:β->α->β) (b:β) (l:List α) (k:Nat) (h:k<l.length):(l.take (k+1)).foldl f b=f ((l.take k).foldl f b) l[k] :=by
 rw [Z2 l k h,List.foldl_append];rfl
theorem PF.snoc1 {l:List (ByteArray×V)} {cs:List (ByteArray×VC)} {W:World} {B:Nat} (hl:cs.length=l.length) (h:∀i,i<l.length->PF l cs W B i) {s:ByteArray} (hs:s.size<=140737488355328) {x:V} {c:VC} (hx:IsVal W B x c):∀i,i<(l++ [(s,x)]).length->PF (l++ [(s,x)]) (cs++ [(s,c)]) W B i:=by
 obtain ⟨s1,s2⟩:=PF.snoc (l:=l) (cs:=cs) hl s hs x c
 intro i hi
 by_cases e:i<l.length
 .exact s2 W B i e (h i e)
 .rw [List.length_append,List.length_singleton] at hi
  obtain rfl:i=l.length:=by omega
  exact s1 W B hx
theorem zb0 {w:World} {B1:Nat} {S:Nat->Prop} {v:Value} {l:List (ByteArray×V)} {cs:List (ByteArray×VC)} (hown:w.ownsRow B1 62 6 v l.length (cs.flatMap fcells)) (hS:∀k,B1<=k->S k) (hl:cs.length=l.length) (hels:∀i,i<l.length->PF l cs (only S w) w.heap.size i) (hfew:l.length<=1466015503701):
 ∃a n c,v= .slice a n c/\IsFields (only S w) w.heap.size l a n c/\(a=none->c=0):=by
 obtain ⟨a,c,hv,hr⟩:=OwnRow.of (base':=B1) hown (Nat.le_refl _)
 have hI:=X0 (w:=only S w) (B:=w.heap.size) (k:=0) (n:=0) (s:= .empty) (l:= []) (o:=l) (a:=none) (m:=0) (c:=0) (a':=a) (m':=l.length) (c':=c) (cl:= []) (co:=cs) (by omega) (by omega) (by omega) (by omega) (by decide) rfl rfl rfl hl (by simp) hfew (by omega) (by omega) hr.cap hr.max (fun h=>absurd h (by omega)) (fun hp=>by
  obtain ⟨g,e,hg,hbc⟩:=hr.row (.inl hp)
  exact ⟨g,e,hbc.lt,fun i hi=>⟨Z0 (hS g hg) (Z3 hbc hi).1,Yh (hS g hg) (Z3 hbc hi).2⟩⟩) (fun i h=>absurd h (by simp)) hels
 refine ⟨a,l.length,c,hv,hI.lists.2.2.2.2.2,fun ha=> ?_⟩
 by_cases hn:l.length=0
 .exact hr.none_ hn ha
 .obtain ⟨g,e,_⟩:=hr.row (.inl (by omega))
  rw [ha] at e;cases e
def FieldsPost (w:World) (S:Nat->Prop) (l:List (ByteArray×V)) (e:Ending) (w':World):Prop:=
 (∃a n c,e= .returned (.slice a n c)/\IsFields (only S w') w'.heap.size l a n c)/\Below w.heap.size w w'
structure FH (W1 wr:World) (S:Nat->Prop) (o:List (ByteArray×V)) (key:ByteArray) (v:V) (del:Bool) (j:Nat) (u:Value) (xs:List (ByteArray×V)) (cs:List (ByteArray×VC)) (done:Bool):Prop where
 rd:(o.take j).foldl (fldStep key v) ([],del)=(xs,done)
 few:xs.length<=2*j
 cen:cs.length=xs.length
 own:wr.ownsRow W1.heap.size 62 6 u xs.length (cs.flatMap fcells)
 els:∀i,i<xs.length->PF xs cs (only S W1) W1.heap.size i
 below:Below W1.heap.size W1 wr
theorem Yn {w:World} {base:Nat} {T:TypeId} {sz:Nat} {u:Value} {n:Nat} {cells:List Value} (h:w.ownsRow base T sz u n cells) (k:Nat):(w.drewN k).ownsRow base T sz u n cells:=
 h.kept (row:=none) ⟨rfl,rfl,rfl,Nat.le_refl _,fun _ _ _=>rfl⟩ (by cases u.ownBlock<;>simp)
theorem Zu (w:World) (n:Nat) (o:Obj):((w.drewN n).alloc o).heap.size=w.heap.size+1:=World.size_alloc (w.drewN n) o
theorem Xa (w:World) (n:Nat):uB w (w.drewN n):=Z7 (Below.refl _ _) n
theorem Qe (w:World) (n:Nat) (s:ByteArray) (d:VC) (t:TypeId):∀j u,(fcells (s,d))[j]? =some u->((w.drewN n).alloc (.cells #[.string s, .int .u8 d.k, .int .i64 d.n, .string d.s, .slice d.la d.ll d.lc, .slice d.oa d.ol d.oc] t)).cell? ((⟨w.heap.size,0,none⟩:Addr).add j)=some u:=
 World.news_of_block (t:=t) (fr:=(0,0)) (heap_alloc_new (w.drewN n) (.cells #[.string s, .int .u8 d.k, .int .i64 d.n, .string d.s, .slice d.la d.ll d.lc, .slice d.oa d.ol d.oc] t))
theorem Xr {W1 wr w0 w7:World} {S:Nat->Prop} {u u':Value} {xs:List (ByteArray×V)} {cs:List (ByteArray×VC)} {s:ByteArray} {x:V} {cx:VC}
 (hlt:∀b,u.ownBlock=some b->W1.heap.size<=b) (cen:cs.length=xs.length) (els:∀i,i<xs.length->PF xs cs (only S W1) W1.heap.size i) (below:uB W1 wr)
 (hs:s.size<=140737488355328) (hx:IsVal (only S W1) W1.heap.size x cx) (hb:uB wr w0)
 (hown:w7.ownsRow W1.heap.size 62 6 u' (xs.length+1) (cs.flatMap fcells++fcells (s,cx))) (hg:w0.grownBy w7 u.ownBlock):
 (cs++ [(s,cx)]).length=(xs++ [(s,x)]).length/\w7.ownsRow W1.heap.size 62 6 u' (xs++ [(s,x)]).length ((cs++ [(s,cx)]).flatMap fcells)/\(∀i,i<(xs++ [(s,x)]).length->PF (xs++ [(s,x)]) (cs++ [(s,cx)]) (only S W1) W1.heap.size i)/\uB W1 w7:=by
 delta uB
 refine ⟨by simp [cen], ?_,PF.snoc1 cen els hs hx,(below.trans (hb.mono below.size)).trans (Zj hg hlt (Nat.le_trans below.size hb.size))⟩
 rw [Yf,List.length_append,List.length_singleton]
 exact hown
theorem zll {w w4:World} (h:Below w.heap.size w.drew w4) (hz:w.heap.size<=w4.heap.size) (s:ByteArray) (d:VC) (t:TypeId):BC (w4.alloc (.cells #[.string s, .int .u8 d.k, .int .i64 d.n, .string d.s, .slice d.la d.ll d.lc, .slice d.oa d.ol d.oc] t)) w4.heap.size (fcells (s,d))/\Below w.heap.size w.drew (w4.alloc (.cells #[.string s, .int .u8 d.k, .int .i64 d.n, .string d.s, .slice d.la d.ll d.lc, .slice d.oa d.ol d.oc] t))/\w.heap.size<=w4.heap.size:=
 ⟨BC.start w4 #[.string s, .int .u8 d.k, .int .i64 d.n, .string d.s, .slice d.la d.ll d.lc, .slice d.oa d.ol d.oc] t,h.alloc hz _,hz⟩
theorem zlw {w w4:World} (h:Below w.heap.size w.drew w4) (s:ByteArray) (d:VC) (x:BC w4 w.heap.size [.string { data:= #[] }, .int .u8 0, .int .i64 0, .string { data:= #[] }, .slice none 0 0, .slice none 0 0]):
 BC ((((((w4.setCell ⟨w.heap.size,0,none⟩ (.string s)).setCell ⟨w.heap.size,1,none⟩ (.int .u8 d.k)).setCell ⟨w.heap.size,2,none⟩ (.int .i64 d.n)).setCell ⟨w.heap.size,3,none⟩ (.string d.s)).setCell ⟨w.heap.size,4,none⟩ (.slice d.la d.ll d.lc)).setCell ⟨w.heap.size,5,none⟩ (.slice d.oa d.ol d.oc)) w.heap.size (fcells (s,d))/\Below w.heap.size w.drew ((((((w4.setCell ⟨w.heap.size,0,none⟩ (.string s)).setCell ⟨w.heap.size,1,none⟩ (.int .u8 d.k)).setCell ⟨w.heap.size,2,none⟩ (.int .i64 d.n)).setCell ⟨w.heap.size,3,none⟩ (.string d.s)).setCell ⟨w.heap.size,4,none⟩ (.slice d.la d.ll d.lc)).setCell ⟨w.heap.size,5,none⟩ (.slice d.oa d.ol d.oc))/\w.heap.size<=w.heap.size:=
 ⟨(((((x.set (i:=0) (x:= .string s) (by simp)).set (i:=1) (x:= .int .u8 d.k) (by simp)).set (i:=2) (x:= .int .i64 d.n) (by simp)).set (i:=3) (x:= .string d.s) (by simp)).set (i:=4) (x:= .slice d.la d.ll d.lc) (by simp)).set (i:=5) (x:= .slice d.oa d.ol d.oc) (by simp),
  (((((h.set_ (Nat.le_refl _)).set_ (Nat.le_refl _)).set_ (Nat.le_refl _)).set_ (Nat.le_refl _)).set_ (Nat.le_refl _)).set_ (Nat.le_refl _),Nat.le_refl _⟩
theorem _root_.Go.RowKit.Below.set6 {B b:Nat} {a w:World} (h:Below B a w) (hb:B<=b) (x0 x1 x2 x3 x4 x5:Value):Below B a ((((((w.setCell ⟨b,0,none⟩ x0).setCell ⟨b,1,none⟩ x1).setCell ⟨b,2,none⟩ x2).setCell ⟨b,3,none⟩ x3).setCell ⟨b,4,none⟩ x4).setCell ⟨b,5,none⟩ x5):=
 (((((h.set_ hb).set_ hb).set_ hb).set_ hb).set_ hb).set_ hb
theorem zls {w w4:World} (h:Below w.heap.size w.drew w4) (hz:w.heap.size<=w4.heap.size) (s:ByteArray) (d:VC) (t:TypeId) {x:V} (hx:IsVal (only (fun b=>w.heap.size<=b) w4) w4.heap.size x d):
 (BC (w4.alloc (.cells #[.string s, .int .u8 d.k, .int .i64 d.n, .string d.s, .slice d.la d.ll d.lc, .slice d.oa d.ol d.oc] t)) w4.heap.size (fcells (s,d))/\Below w.heap.size w.drew (w4.alloc (.cells #[.string s, .int .u8 d.k, .int .i64 d.n, .string d.s, .slice d.la d.ll d.lc, .slice d.oa d.ol d.oc] t))/\w.heap.size<=w4.heap.size)/\Hid (IsVal (only (fun b=>w.heap.size<=b) (w4.alloc (.cells #[.string s, .int .u8 d.k, .int .i64 d.n, .string d.s, .slice d.la d.ll d.lc, .slice d.oa d.ol d.oc] t))) (w4.alloc (.cells #[.string s, .int .u8 d.k, .int .i64 d.n, .string d.s, .slice d.la d.ll d.lc, .slice d.oa d.ol d.oc] t)).heap.size x d):=by
 have hb:uB w4 (w4.alloc (.cells #[.string s, .int .u8 d.k, .int .i64 d.n, .string d.s, .slice d.la d.ll d.lc, .slice d.oa d.ol d.oc] t)):=(Below.refl _ _).alloc (Nat.le_refl _) _
 exact ⟨zll h hz s d t,(hx.sub (Ze fun k hk hl=>⟨hk,hb.block k hl⟩)).more hb.size⟩
theorem zms {w w4:World} (h:Below w.heap.size w.drew w4) (s:ByteArray) (d:VC) (xb:BC w4 w.heap.size [.string { data:= #[] }, .int .u8 0, .int .i64 0, .string { data:= #[] }, .slice none 0 0, .slice none 0 0]) {x:V} (hx:IsVal (only (fun b=>w.heap.size+1<=b) w4) w4.heap.size x d):
 (BC ((((((w4.setCell ⟨w.heap.size,0,none⟩ (.string s)).setCell ⟨w.heap.size,1,none⟩ (.int .u8 d.k)).setCell ⟨w.heap.size,2,none⟩ (.int .i64 d.n)).setCell ⟨w.heap.size,3,none⟩ (.string d.s)).setCell ⟨w.heap.size,4,none⟩ (.slice d.la d.ll d.lc)).setCell ⟨w.heap.size,5,none⟩ (.slice d.oa d.ol d.oc)) w.heap.size (fcells (s,d))/\Below w.heap.size w.drew ((((((w4.setCell ⟨w.heap.size,0,none⟩ (.string s)).setCell ⟨w.heap.size,1,none⟩ (.int .u8 d.k)).setCell ⟨w.heap.size,2,none⟩ (.int .i64 d.n)).setCell ⟨w.heap.size,3,none⟩ (.string d.s)).setCell ⟨w.heap.size,4,none⟩ (.slice d.la d.ll d.lc)).setCell ⟨w.heap.size,5,none⟩ (.slice d.oa d.ol d.oc))/\w.heap.size<=w.heap.size)/\Hid (IsVal (only (fun b=>w.heap.size<=b) ((((((w4.setCell ⟨w.heap.size,0,none⟩ (.string s)).setCell ⟨w.heap.size,1,none⟩ (.int .u8 d.k)).setCell ⟨w.heap.size,2,none⟩ (.int .i64 d.n)).setCell ⟨w.heap.size,3,none⟩ (.string d.s)).setCell ⟨w.heap.size,4,none⟩ (.slice d.la d.ll d.lc)).setCell ⟨w.heap.size,5,none⟩ (.slice d.oa d.ol d.oc))) ((((((w4.setCell ⟨w.heap.size,0,none⟩ (.string s)).setCell ⟨w.heap.size,1,none⟩ (.int .u8 d.k)).setCell ⟨w.heap.size,2,none⟩ (.int .i64 d.n)).setCell ⟨w.heap.size,3,none⟩ (.string d.s)).setCell ⟨w.heap.size,4,none⟩ (.slice d.la d.ll d.lc)).setCell ⟨w.heap.size,5,none⟩ (.slice d.oa d.ol d.oc)).heap.size x d):=by
 have st:RStep w4 ((((((w4.setCell ⟨w.heap.size,0,none⟩ (.string s)).setCell ⟨w.heap.size,1,none⟩ (.int .u8 d.k)).setCell ⟨w.heap.size,2,none⟩ (.int .i64 d.n)).setCell ⟨w.heap.size,3,none⟩ (.string d.s)).setCell ⟨w.heap.size,4,none⟩ (.slice d.la d.ll d.lc)).setCell ⟨w.heap.size,5,none⟩ (.slice d.oa d.ol d.oc)) w.heap.size:=((((RStep.self.trans RStep.self).trans RStep.self).trans RStep.self).trans RStep.self).trans RStep.self
 exact ⟨zlw h s d xb,(hx.sub (Ze fun k hk hl=>⟨by omega,st.block k hl (by omega)⟩)).more st.size⟩
def remF (o:List (ByteArray×V)) (key:ByteArray):List (ByteArray×V):=o.take (fieldK o key)++o.drop (if fieldIs o key=true then fieldK o key+1 else fieldK o key)
def newF (o:List (ByteArray×V)) (key:ByteArray) (v:V) (del:Bool):List (ByteArray×V):=if del=true then remF o key else withF o key v
def finF (key:ByteArray) (v:V) (s:List (ByteArray×V)×Bool):List (ByteArray×V):=if s.2=false then s.1++ [(key,v)] else s.1
theorem zhe {f:ByteArray×V} :∀ {r:List (ByteArray×V)},rising (f::r)=true->(∀g ∈ r,Op.bytesLess f.1.toList g.1.toList=true)/\rising r=true:=by
 intro r
 induction r generalizing f with
 |nil=>intro _;exact ⟨fun g hg=>by simp at hg,rfl⟩
 | cons b r ih=>
   intro h
   simp only [rising,Bool.and_eq_true] at h
   obtain ⟨h1,h2⟩:=ih h.2
   refine ⟨fun g hg=> ?_,h.2⟩
   rcases List.mem_cons.1 hg with rfl|hg
   .exact h.1
   .exact zkn h.1 (h1 g hg)
theorem Ja (key:ByteArray) (v:V):∀(o acc:List (ByteArray×V)),(∀f ∈ o,f.1.toList≠key.toList)->o.foldl (fldStep key v) (acc,true)=(acc++o,true):=by
 intro o
 induction o with
 |nil=>intro acc _;simp
 | cons f r ih=>
   intro acc h
   rw [List.foldl_cons]
   have h1:fldStep key v (acc,true) f=(acc++ [f],true):=by
    unfold fldStep
    rw [if_neg (by simp),if_neg (h f (List.mem_cons_self ..))]
   rw [h1,ih _ (fun g hg=>h g (List.mem_cons_of_mem _ hg))]
   simp
theorem zj6 (key:ByteArray) (v:V) (del:Bool):∀(o acc:List (ByteArray×V)),rising o=true->finF key v (o.foldl (fldStep key v) (acc,del))=acc++newF o key v del:=by
 intro o
 induction o with
 |nil=>intro acc _;cases del<;>simp [finF,newF,remF,withF]
 | cons f r ih=>
   intro acc h
   obtain ⟨ha,hr⟩:=zhe h
   rw [List.foldl_cons]
   by_cases hf:Op.bytesLess f.1.toList key.toList=true
   .have hne:f.1.toList≠key.toList:=(Kb _ _ hf).2
    have h1:fldStep key v (acc,del) f=(acc++ [f],del):=by
     unfold fldStep
     rw [if_neg (by rw [hf];simp),if_neg hne]
    have hk:fieldK (f::r) key=fieldK r key+1:=by
     unfold fieldK;rw [List.takeWhile_cons,if_pos hf,List.length_cons]
    have hi:fieldIs (f::r) key=fieldIs r key:=by
     unfold fieldIs;rw [hk,List.getElem?_cons_succ]
    rw [h1,ih _ hr]
    have:newF (f::r) key v del=f::newF r key v del:=by
     unfold newF remF withF
     rw [hk,hi]
     have e:(if fieldIs r key=true then fieldK r key+1+1 else fieldK r key+1)=(if fieldIs r key=true then fieldK r key+1 else fieldK r key)+1:=by split<;>rfl
     rw [e,List.drop_succ_cons,List.take_succ_cons]
     cases del<;>simp
    rw [this];simp
   .have hf':Op.bytesLess f.1.toList key.toList=false:=by simpa using hf
    have hne:∀g ∈ r,g.1.toList≠key.toList:=fun g hg e=>by
     have:=ha g hg
     rw [e,hf'] at this;cases this
    have hk:fieldK (f::r) key=0:=by
     unfold fieldK;rw [List.takeWhile_cons,if_neg hf];rfl
    have hi:fieldIs (f::r) key=(f.1.toList==key.toList):=by
     unfold fieldIs;rw [hk];rfl
    unfold newF remF withF
    rw [hk,hi]
    by_cases he:f.1.toList=key.toList
    .cases del with
     | true=>
       have h1:fldStep key v (acc,true) f=(acc,true):=by
        unfold fldStep
        rw [if_neg (by simp),if_pos he]
       rw [h1,Ja key v r acc hne]
       simp [finF,he]
     | false=>
       have h1:fldStep key v (acc,false) f=(acc++ [(key,v)],true):=by
        unfold fldStep
        rw [if_pos ⟨rfl,hf'⟩,if_pos he]
       rw [h1,Ja key v r _ hne]
       simp [finF,he]
    .have heb:(f.1.toList==key.toList)=false:=by simpa using he
     cases del with
     | true=>
       have h1:fldStep key v (acc,true) f=(acc++ [f],true):=by
        unfold fldStep
        rw [if_neg (by simp),if_neg he]
       rw [h1,Ja key v r _ hne]
       simp [finF,heb]
     | false=>
       have h1:fldStep key v (acc,false) f=(acc++ [(key,v)] ++ [f],true):=by
        unfold fldStep
        rw [if_pos ⟨rfl,hf'⟩,if_neg he]
       rw [h1,Ja key v r _ hne]
       simp [finF,heb]
theorem zfz {o:List (ByteArray×V)} (h:rising o=true) (key:ByteArray) (v:V) (del:Bool):fieldsDo o key v del=newF o key v del:=by
 have:=zj6 key v del o [] h
 rw [List.nil_append] at this
 rw [<-this];rfl
theorem zmd (o:List (ByteArray×V)) (key:ByteArray) (v:V):(remF o key).take (fieldK o key)++(key,v)::(remF o key).drop (fieldK o key)=withF o key v:=by
 have hl:(o.take (fieldK o key)).length=fieldK o key:=by rw [List.length_take,Nat.min_eq_left (Yo o key)]
 unfold remF withF
 rw [List.take_left' hl,List.drop_left' hl]
theorem zcm (co:List (ByteArray×VC)):∀i,(co.flatMap fcells).take (i*6)=(co.take i).flatMap fcells:=by
 induction co with
 |nil=>intro i;simp
 | cons c r ih=>
   intro i
   cases i with
   |zero=>simp
   | succ i=>
     rw [List.flatMap_cons,List.take_succ_cons,List.flatMap_cons, <-ih i,List.take_append,List.take_of_length_le (by simp [fcells];omega),show (i+1)*6 - (fcells c).length=i*6 by simp [fcells];omega]
theorem zac (co:List (ByteArray×VC)):∀i,(co.flatMap fcells).drop (i*6)=(co.drop i).flatMap fcells:=by
 induction co with
 |nil=>intro i;simp
 | cons c r ih=>
   intro i
   cases i with
   |zero=>simp
   | succ i=>
     rw [List.flatMap_cons,List.drop_succ_cons, <-ih i,List.drop_append,List.drop_eq_nil_of_le (by simp [fcells];omega),List.nil_append,show (i+1)*6 - (fcells c).length=i*6 by simp [fcells];omega]
theorem znj {w:World} {B1:Nat} {S:Nat->Prop} {v:Value} {l:List V} {cs:List VC} (hown:w.ownsRow B1 29 5 v l.length (cs.flatMap vcells)) (hS:∀g,v.ownBlock=some g->S g) (hl:cs.length=l.length) (hels:∀i,i<l.length->PV l cs (only S w) w.heap.size i) (hfew:l.length<=1466015503701):
 ∃a n c,v= .slice a n c/\IsVals (only S w) w.heap.size l a n c/\(a=none->c=0):=by
 obtain ⟨a,c,hv,hr⟩:=OwnRow.of (base':=B1) hown (Nat.le_refl _)
 have hI:=X0 (w:=only S w) (B:=w.heap.size) (k:=0) (n:=0) (s:= .empty) (l:=l) (o:= []) (a:=a) (m:=l.length) (c:=c) (a':=none) (m':=0) (c':=0) (cl:=cs) (co:= []) (by omega) (by omega) (by omega) (by omega) (by decide) rfl rfl hl rfl hfew (by simp) hr.cap hr.max (by omega) (by omega) (fun hp=>by
  obtain ⟨g,e,hg,hbc⟩:=hr.row (.inl hp)
  have hSg:=hS g (by rw [hv,e];rfl)
  exact ⟨g,e,hbc.lt,fun i hi=>Yh hSg (Yp hbc hi)⟩) (fun h=>absurd h (by omega)) hels (fun i h=>absurd h (by simp))
 refine ⟨a,l.length,c,hv,hI.lists.2.2.2.2.1,fun ha=> ?_⟩
 by_cases hn:l.length=0
 .exact hr.none_ hn ha
 .obtain ⟨g,e,_⟩:=hr.row (.inl (by omega))
  rw [ha] at e;cases e
theorem zly {w:World} {B1:Nat} {S:Nat->Prop} {v:Value} {l:List (ByteArray×V)} {cs:List (ByteArray×VC)} (hown:w.ownsRow B1 62 6 v l.length (cs.flatMap fcells)) (hS:∀g,v.ownBlock=some g->S g) (hl:cs.length=l.length) (hels:∀i,i<l.length->PF l cs (only S w) w.heap.size i) (hfew:l.length<=1466015503701):
 ∃a n c,v= .slice a n c/\IsFields (only S w) w.heap.size l a n c/\(a=none->c=0):=by
 obtain ⟨a,c,hv,hr⟩:=OwnRow.of (base':=B1) hown (Nat.le_refl _)
 have hI:=X0 (w:=only S w) (B:=w.heap.size) (k:=0) (n:=0) (s:= .empty) (l:= []) (o:=l) (a:=none) (m:=0) (c:=0) (a':=a) (m':=l.length) (c':=c) (cl:= []) (co:=cs) (by omega) (by omega) (by omega) (by omega) (by decide) rfl rfl rfl hl (by simp) hfew (by omega) (by omega) hr.cap hr.max (fun h=>absurd h (by omega)) (fun hp=>by
  obtain ⟨g,e,hg,hbc⟩:=hr.row (.inl hp)
  have hSg:=hS g (by rw [hv,e];rfl)
  exact ⟨g,e,hbc.lt,fun i hi=>⟨Z0 hSg (Z3 hbc hi).1,Yh hSg (Z3 hbc hi).2⟩⟩) (fun i h=>absurd h (by simp)) hels
 refine ⟨a,l.length,c,hv,hI.lists.2.2.2.2.2,fun ha=> ?_⟩
 by_cases hn:l.length=0
 .exact hr.none_ hn ha
 .obtain ⟨g,e,_⟩:=hr.row (.inl (by omega))
  rw [ha] at e;cases e
structure FRow (w:World) (base:Nat) (S:Nat->Prop) (u:Value) (o:List (ByteArray×V)) (co:List (ByteArray×VC)):Prop where
 len:co.length=o.length
 own:w.ownsRow base 62 6 u o.length (co.flatMap fcells)
 keys:∀i (h:i<o.length) (h':i<co.length),co[i].1=o[i].1/\o[i].1.size<=140737488355328
 els:∀i (h:i<o.length) (h':i<co.length),IsVal (only (fun k=>S k/\u.ownBlock≠some k) w) w.heap.size o[i].2 co[i].2
theorem FRow.of {w:World} {base:Nat} {S:Nat->Prop} {o:List (ByteArray×V)} {d:VC} {x:V} (h:Whole w base x d) (hx:x.os=o) (hS:∀k,base<=k->k<w.heap.size->S k):∃co,FRow w base S (.slice d.oa d.ol d.oc) o co:=by
 obtain ⟨h1,h2,cl,co,s,W0,h3⟩:=h
 subst hx
 refine ⟨co,h3.lenO,h3.rowO,h3.keys,fun i hi hi'=> ?_⟩
 obtain ⟨T,t1,_,t3⟩:=h3.elsO i hi hi' (by omega)
 refine t3.isVal fun k hk=> ?_
 have h0:=h3.mono 0 (x.ls.length+i) (Nat.zero_le _) (by omega)
 have:=t1 k hk
 have hb:=t3.bnd k hk
 exact ⟨hS k (by have:=h3.s0;omega) hb,fun e=>by have:=h3.loO k e;omega⟩
theorem Whole.lists {w:World} {base:Nat} {S:Nat->Prop} {d:VC} {x:V} (h:Whole w base x d) (hS:∀k,base<=k->k<w.heap.size->S k) (hfew:x.ls.length<=1466015503701):
 IsVals (only (fun k=>S k/\(Value.slice d.oa d.ol d.oc).ownBlock≠some k) w) w.heap.size x.ls d.la d.ll d.lc:=by
 obtain ⟨h1,h2,cl,co,s,W0,h3⟩:=h
 have h:=znj (S:=fun k=>S k/\(Value.slice d.oa d.ol d.oc).ownBlock≠some k) h3.rowL (fun g hg=>⟨hS g (h3.rowL.lt g hg).1 (h3.rowL.lt g hg).2,h3.apart g hg⟩) h3.lenL (fun i hi hi'=> ?_) hfew
 .obtain ⟨a,n,c,e,hI,_⟩:=h
  injection e with e1 e2 e3
  rw [e1,e2,e3];exact hI
 .have e:cl.getD i vzero=cl[i]'(by have:=h3.lenL;omega):=by rw [List.getD_eq_getElem?_getD,List.getElem?_eq_getElem (by have:=h3.lenL;omega)];rfl
  rw [e]
  obtain ⟨T,t1,_,t3⟩:=h3.elsL i hi (by have:=h3.lenL;omega) (by omega)
  refine t3.isVal fun k hk=> ?_
  have h0:=h3.mono 0 i (Nat.zero_le _) (by omega)
  have:=t1 k hk
  have hb:=t3.bnd k hk
  exact ⟨hS k (by have:=h3.s0;omega) hb,fun e=>by have:=h3.loO k e;omega⟩
theorem FRow.later {w w':World} {base:Nat} {S:Nat->Prop} {u:Value} {o:List (ByteArray×V)} {co:List (ByteArray×VC)} (h:FRow w base S u o co) (hb:uB w w'):FRow w' base S u o co:=
 ⟨h.len,h.own.kept (row:=none) ⟨hb.os,hb.tape,hb.output,hb.size,fun k hk _=>hb.block k hk⟩ (by cases hv:u.ownBlock<;>simp),h.keys,fun i hi hi'=>((h.els i hi hi').sub (Ze fun k hk hl=>⟨hk,hb.block k hl⟩)).more hb.size⟩
theorem zcg {w w':World} {S:Nat->Prop} {u u':Value} (hg:w.grownBy w' u.ownBlock) (hu:u'.ownBlock=u.ownBlock∨u'.ownBlock=some w.heap.size):Shows (only (fun k=>S k/\u.ownBlock≠some k) w) (only (fun k=>S k/\u'.ownBlock≠some k) w') w.heap.size:=
 Ze fun k hk hl=>⟨⟨hk.1,fun e=>by
  rcases hu with hu|hu
  .exact hk.2 (hu ▸ e)
  .rw [hu] at e;injection e with e;omega⟩,hg.block k hl (fun e=>hk.2 e.symm)⟩
theorem FRow.ins {w w':World} {base i:Nat} {S:Nat->Prop} {u u':Value} {o:List (ByteArray×V)} {co:List (ByteArray×VC)} {key:ByteArray} {x:V} {cx:VC} (h:FRow w base S u o co) (hi:i<=o.length) (hks:key.size<=140737488355328) (hx:IsVal (only (fun k=>S k/\u.ownBlock≠some k) w) w.heap.size x cx)
 (ho:w'.ownsRow base 62 6 u' (o.length+1) ((co.flatMap fcells).take (i*6)++fcells (key,cx)++(co.flatMap fcells).drop (i*6))) (hg:w.grownBy w' u.ownBlock) (hu:u'.ownBlock=u.ownBlock∨u'.ownBlock=some w.heap.size):
 FRow w' base S u' (o.take i++(key,x)::o.drop i) (co.take i++(key,cx)::co.drop i):=by
 have hl:=h.len
 have mv:∀ {y:V} {c:VC},IsVal (only (fun k=>S k/\u.ownBlock≠some k) w) w.heap.size y c->IsVal (only (fun k=>S k/\u'.ownBlock≠some k) w') w'.heap.size y c:=fun hy=>(hy.sub (zcg hg hu)).more hg.size
 have e:(o.take i++(key,x)::o.drop i).length=o.length+1:=by simp;omega
 have els:∀k (hk:k<(o.take i++(key,x)::o.drop i).length) (hk':k<(co.take i++(key,cx)::co.drop i).length),((co.take i++(key,cx)::co.drop i)[k].1=(o.take i++(key,x)::o.drop i)[k].1/\(o.take i++(key,x)::o.drop i)[k].1.size<=140737488355328)/\IsVal (only (fun k=>S k/\u'.ownBlock≠some k) w') w'.heap.size (o.take i++(key,x)::o.drop i)[k].2 (co.take i++(key,cx)::co.drop i)[k].2:=by
  intro k hk hk'
  by_cases h1:k<i
  .rw [List.getElem_append_left (by rw [List.length_take];omega),List.getElem_append_left (by rw [List.length_take];omega),List.getElem_take,List.getElem_take]
   exact ⟨h.keys k (by omega) (by omega),mv (h.els k (by omega) (by omega))⟩
  .rw [List.getElem_append_right (by rw [List.length_take];omega),List.getElem_append_right (by rw [List.length_take];omega)]
   have e1:k - (o.take i).length=k - i:=by rw [List.length_take];omega
   have e2:k - (co.take i).length=k - i:=by rw [List.length_take];omega
   simp only [e1,e2]
   rw [e] at hk
   by_cases h2:k - i=0
   .rw [List.getElem_cons,List.getElem_cons,dif_pos h2,dif_pos h2]
    exact ⟨⟨rfl,hks⟩,mv hx⟩
   .rw [List.getElem_cons,List.getElem_cons,dif_neg h2,dif_neg h2,List.getElem_drop,List.getElem_drop]
    exact ⟨h.keys (i+(k - i - 1)) (by omega) (by omega),mv (h.els (i+(k - i - 1)) (by omega) (by omega))⟩
 refine ⟨by simp [hl], ?_,fun k hk hk'=>(els k hk hk').1,fun k hk hk'=>(els k hk hk').2⟩
 rw [zcm,zac] at ho
 rw [e,List.flatMap_append,List.flatMap_cons, <-List.append_assoc]
 exact ho
theorem FRow.rem {w w':World} {base i:Nat} {S:Nat->Prop} {u u':Value} {o:List (ByteArray×V)} {co:List (ByteArray×VC)} (h:FRow w base S u o co) (hi:i<o.length)
 (ho:w'.ownsRow base 62 6 u' (o.length - 1) ((co.flatMap fcells).take (i*6)++(co.flatMap fcells).drop ((i+1)*6))) (hg:w.grownBy w' u.ownBlock) (hu:u'.ownBlock=u.ownBlock∨u'.ownBlock=some w.heap.size):
 FRow w' base S u' (o.take i++o.drop (i+1)) (co.take i++co.drop (i+1)):=by
 have hl:=h.len
 have mv:∀ {y:V} {c:VC},IsVal (only (fun k=>S k/\u.ownBlock≠some k) w) w.heap.size y c->IsVal (only (fun k=>S k/\u'.ownBlock≠some k) w') w'.heap.size y c:=fun hy=>(hy.sub (zcg hg hu)).more hg.size
 have e:(o.take i++o.drop (i+1)).length=o.length - 1:=by simp;omega
 have els:∀k (hk:k<(o.take i++o.drop (i+1)).length) (hk':k<(co.take i++co.drop (i+1)).length),((co.take i++co.drop (i+1))[k].1=(o.take i++o.drop (i+1))[k].1/\(o.take i++o.drop (i+1))[k].1.size<=140737488355328)/\IsVal (only (fun k=>S k/\u'.ownBlock≠some k) w') w'.heap.size (o.take i++o.drop (i+1))[k].2 (co.take i++co.drop (i+1))[k].2:=by
  intro k hk hk'
  rw [e] at hk
  by_cases h1:k<i
  .rw [List.getElem_append_left (by rw [List.length_take];omega),List.getElem_append_left (by rw [List.length_take];omega),List.getElem_take,List.getElem_take]
   exact ⟨h.keys k (by omega) (by omega),mv (h.els k (by omega) (by omega))⟩
  .rw [List.getElem_append_right (by rw [List.length_take];omega),List.getElem_append_right (by rw [List.length_take];omega)]
   have e1:k - (o.take i).length=k - i:=by rw [List.length_take];omega
   have e2:k - (co.take i).length=k - i:=by rw [List.length_take];omega
   simp only [e1,e2,List.getElem_drop]
   exact ⟨h.keys (i+1+(k - i)) (by omega) (by omega),mv (h.els (i+1+(k - i)) (by omega) (by omega))⟩
 refine ⟨by simp [hl], ?_,fun k hk hk'=>(els k hk hk').1,fun k hk hk'=>(els k hk hk').2⟩
 rw [zcm,zac] at ho
 rw [e,List.flatMap_append]
 exact ho
theorem FRow.flds {w:World} {base:Nat} {S:Nat->Prop} {u:Value} {o:List (ByteArray×V)} {co:List (ByteArray×VC)} (h:FRow w base S u o co) (hS:∀g,u.ownBlock=some g->S g) (hfew:o.length<=1466015503701):∃a n c,u= .slice a n c/\IsFields (only S w) w.heap.size o a n c/\(a=none->c=0):=by
 refine zly h.own hS h.len (fun i hi=> ?_) hfew
 intro hi'
 have e:co.getD i fzero=co[i]'(by have:=h.len;omega):=by rw [List.getD_eq_getElem?_getD,List.getElem?_eq_getElem (by have:=h.len;omega)];rfl
 rw [e]
 obtain ⟨k1,k2⟩:=h.keys i hi (by have:=h.len;omega)
 exact ⟨k1,k2,(h.els i hi (by have:=h.len;omega)).sub (Ze fun k hk _=>⟨hk.1,rfl⟩)⟩
theorem BC.grown {w w':World} {b:Nat} {u:Option Nat} {cs:List Value} (h:BC w b cs) (hg:w.grownBy w' u) (hne:u≠some b):BC w' b cs:=by
 have hb:=hg.block b h.lt (fun e=>hne e.symm)
 exact ⟨fun j x hj=>(World.cell?_of_block hb).trans (h.at_ j x hj),fun j=>(Yq hb).trans (h.fr j),Nat.lt_of_lt_of_le h.lt hg.size⟩
theorem VRow.vals {w:World} {base:Nat} {u:Value} {l:List V} {cl:List VC} (h:VRow w base u l cl) (hfew:l.length<=1466015503701):∃a n c,u= .slice a n c/\IsVals (only (fun b=>base<=b) w) w.heap.size l a n c/\Neat2 a c:=by
 refine Xz h.own (Nat.le_refl _) h.len (fun i hi=> ?_) hfew
 intro hi'
 have e:cl.getD i vzero=cl[i]'(by have:=h.len;omega):=by rw [List.getD_eq_getElem?_getD,List.getElem?_eq_getElem (by have:=h.len;omega)];rfl
 rw [e]
 exact (h.els i hi (by have:=h.len;omega)).sub (Ze fun k hk _=>⟨⟨hk.1,fun e=>hk.2 e.symm⟩,rfl⟩)
theorem Jq (w:World) (l:List V) (a:Option Addr) (n c:Nat) (hl:IsVals w w.heap.size l a n c):
 uP 46 #[.agg (uU 0 0 { data:= #[] } a n c none 0 0)] w fun e w'=>(∃(d:VC) (cl:List VC),e= .returned (.agg #[.int .u8 d.k, .int .i64 d.n, .string d.s, .slice d.la d.ll d.lc, .slice d.oa d.ol d.oc])/\VRow w' w.heap.size (.slice d.la d.ll d.lc) l cl)/\uB w w':=by
 delta uU uB uP
 have hv:IsVal w w.heap.size (.mk 0 0 .empty l []) ⟨0,0, .empty,a,n,c,none,0,0⟩:=
  IsVal.of_lists (c:=⟨0,0, .empty,a,n,c,none,0,0⟩) ⟨by show (0:Int)<=0;decide,by show (0:Int)<256;decide,by show (-9223372036854775808:Int)<=0;decide,by show (0:Int)<=9223372036854775807;decide,by show ByteArray.empty.size<=140737488355328;decide,hl.cap,hl.max,hl.few,by show (0:Nat)<=0;decide,by show (0:Nat)<=9223372036854775807;decide,by show (0:Nat)<=1466015503701;decide⟩ hl (za5 w _)
 refine (Yt w (.mk 0 0 .empty l []) ⟨0,0, .empty,a,n,c,none,0,0⟩ hv).mono ?_
 rintro e w' ⟨⟨d,rfl,hW⟩,hb⟩
 obtain ⟨cl,h⟩:=VRow.of hW (l:=l) rfl
 exact ⟨⟨d,cl,rfl,h⟩,hb⟩
def SeqPost (w:World) (r:List V) (e:Ending) (w':World):Prop:=
 (∃a n c,e= .returned (.tuple #[.slice a n c, .int .u16 0])/\IsVals (only (fun b=>w.heap.size<=b) w') w'.heap.size r a n c)/\Below w.heap.size w w'
theorem IsVals.cut {w:World} {B:Nat} {l:List V} {a:Option Addr} {n c:Nat} (h:IsVals w B l a n c):IsVals w B l a n n:=⟨h.len,Nat.le_refl _,Nat.le_trans h.cap h.max,h.few,h.at_⟩
set_option maxRecDepth 100000 in
theorem zh7 (w:World) (l:List V) (a:Option Addr) (n c:Nat) (hl:IsVals w w.heap.size l a n c) (hfew:n<=100000000) (cc:CC) (x:V) (hc:lCheck n cc.k cc.i cc.j=0) (hk:cc.k=5):
 uP 116 #[.slice a n c, .agg #[.int .u8 cc.k, .slice cc.pa cc.pl cc.pc, .string cc.key, .int .i64 cc.i, .int .i64 cc.j, .int .i64 cc.n, .int .u8 cc.v.k, .int .i64 cc.v.n, .string cc.v.s, .slice cc.v.la cc.v.ll cc.v.lc, .slice cc.v.oa cc.v.ol cc.v.oc, .string cc.s]] w (SeqPost w (listDo l cc.k cc.i cc.j x)):=by
 delta uP
 have hmax:=hl.max
 have hlen:=hl.len
 obtain ⟨_,_,hi0,hi1,hi2,hj⟩:=Yi hc
 have HCK:Hid (∀W,uP 134 #[.int .i64 n, .agg #[.int .u8 cc.k, .slice cc.pa cc.pl cc.pc, .string cc.key, .int .i64 cc.i, .int .i64 cc.j, .int .i64 cc.n, .int .u8 cc.v.k, .int .i64 cc.v.n, .string cc.v.s, .slice cc.v.la cc.v.ll cc.v.lc, .slice cc.v.oa cc.v.ol cc.v.oc, .string cc.s]] W fun e w'=>e= .returned (.int .u16 0)/\uB W w'):=fun W=>by
  have:=X3 W n (by omega) cc
  rw [hc] at this;exact this
 have HOW:Hid (∀W,uB w W->uP 46 #[.agg #[.int .u8 0, .int .i64 0, .string { data:= #[] }, .slice a n c, .slice none 0 0]] W fun e w'=>(∃(d:VC) (cl:List VC),e= .returned (.agg #[.int .u8 d.k, .int .i64 d.n, .string d.s, .slice d.la d.ll d.lc, .slice d.oa d.ol d.oc])/\VRow w' W.heap.size (.slice d.la d.ll d.lc) l cl)/\uB W w'):=fun W hW=>Jq W l a n c (hl.later_ hW)
 have HBX:=qh (BC.start w #[.int .u8 cc.k, .slice cc.pa cc.pl cc.pc, .string cc.key, .int .i64 cc.i, .int .i64 cc.j, .int .i64 cc.n, .int .u8 cc.v.k, .int .i64 cc.v.n, .string cc.v.s, .slice cc.v.la cc.v.ll cc.v.lc, .slice cc.v.oa cc.v.ol cc.v.oc, .string cc.s] 54)
 have HAL:=qh ((Below.refl _ _).alloc (Nat.le_refl _) (.cells #[.int .u8 cc.k, .slice cc.pa cc.pl cc.pc, .string cc.key, .int .i64 cc.i, .int .i64 cc.j, .int .i64 cc.n, .int .u8 cc.v.k, .int .i64 cc.v.n, .string cc.v.s, .slice cc.v.la cc.v.ll cc.v.lc, .slice cc.v.oa cc.v.ol cc.v.oc, .string cc.s] 54):uB w _)
 obtain ⟨R,hR⟩:∃R,listDo l cc.k cc.i cc.j x=R:=⟨_,rfl⟩
 rw [hR]
 rw [listDo,hk] at hR
 have HL:=qh hlen
 obtain ⟨i,hi⟩:∃i:Nat,cc.i=i:=⟨cc.i.toNat,by omega⟩
 rw [hi] at hR hi1 hi2
 rw [hk,hi] at HCK HBX HAL ⊢
 rw [Int.toNat_natCast] at hR
 have hil:i<n:=by have:=hi2 (by omega);omega
 have hw1:IntKind.i64.wrap ((i:Int)+1)=(i:Int)+1:=IntWalk.i64_in _ (by omega)
 obtain rfl:R=remL l i:=by rw [<-hR];rfl
 clear hl hc hlen hR hi hi0 hj hi1 hi2
 go_enter Tryz.func116,Tryz.ntmps116
 go_wp2_with fail
 refine (HCK.out _).mono ?_
 rintro e w1 ⟨rfl,hb1⟩
 have HD1:=qh (HBX.out.keep hb1 (by simp))
 have HBL1:=qh (HAL.out.trans (hb1.mono (by simp)))
 clear hb1
 go_wp2_with fail
 refine (HOW.out _ HBL1.out).mono ?_
 rintro e w2 ⟨⟨d,cl,rfl,hV⟩,hb2⟩
 have D2:=HD1.out.keep hb2 HD1.out.lt
 obtain ⟨b0,b1,b2,b3,b4,b5,b6,b7,b8,b9,b10,b11⟩:=row12 D2.at_
 have zs2:=D2.lt
 have HBL2:=qh (HBL1.out.trans (hb2.mono HBL1.out.size))
 have HW12:=qh hb2.size
 have HV:=qh hV
 have hfld:=Xd w2 d.k d.n d.s d.la d.ll d.lc d.oa d.ol d.oc
 have HDL:=qh (zci w2 w1.heap.size l.length i (.slice d.la d.ll d.lc) (cl.flatMap vcells) hV.own (by have:=HL.out;omega) (Z5 cl))
 clear hb2 hV D2
 go_wp2_with fail
 refine HDL.out.mono ?_
 rintro e w3 ⟨v',rfl,ho,hg,hu⟩
 have hV3:=HV.out.rem (by have:=HL.out;omega) ho hg hu
 have hlr:(remL l i).length<=1466015503701:=by have:=HL.out;simp [remL];omega
 obtain ⟨a3,n3,c3,rfl,hI,hz⟩:=hV3.vals hlr
 have HB3:=qh (HBL2.out.trans ((Zj hg (fun k hk=>(HV.out.own.lt k hk).1) (by have:=HW12.out;omega)).mono HBL1.out.size))
 have hcap:=hI.cap;have hmx:=hI.max
 have HI:=qh (Y7 hI HBL1.out.size (Below.refl _ _)).cut
 clear ho hg hu hV3 hI hlr
 rcases hz with ⟨rfl,rfl⟩|⟨b3',off3,rfl⟩
 .obtain rfl:n3=0:=by omega
  go_wp2_with fail
  go_returns
  exact ⟨⟨_,_,_,rfl,HI.out⟩,HB3.out⟩
 .go_wp2_with fail
  go_returns
  exact ⟨⟨_,_,_,rfl,HI.out⟩,HB3.out⟩
end Go.Proofs.YtbgheehjfnoiiaaGreatDoor
