/-
  Contracts of the functions that the law reaches: conciliatorref06.Check..
-/
import Derived.Test.YtnjgbiachcfigaaGreatDoorCt24
import Derived.Test.YtnjgbiachcfigaaGreatDoorCt28
import Derived.Test.YtnjgbiachcfigaaGreatDoorCt12
namespace Go.Proofs.YtnjgbiachcfigaaGreatDoor
open Go.RowKit
set_option maxHeartbeats 8000000
noncomputable def checkP (v:V) (c:Cm):Int:=
 if cmSound c=false then 60 else match getP v c.path with
  |none=>30
  |some x=>kindsP x c.k c.i c.j c.n c.key
theorem zie {v:V} {s:St} {x:V} {k:Nat} (h:stepP v s=some (x,k)):x.weight<v.weight:=by
 obtain ⟨kk,n,t,l,o,rfl⟩:=v.eta
 rcases Xd h with ⟨_,_,_,hk,e⟩|⟨_,_,_,hk,e⟩
 .have h:=Qh l k hk
  have e2:l[k]'hk=x:=e
  rw [e2] at h
  simp only [V.weight];omega
 .have h:=Qi o k hk
  have e2:(o[k]'hk).2=x:=e
  rw [e2] at h
  simp only [V.weight];omega
theorem Z7 (p:List St):∀ {v x:V},getP v p=some x->x.weight<=v.weight:=by
 induction p with
 |nil=>intro v x h;injection h with h;subst h;exact Nat.le_refl _
 | cons s r ih=>
   intro v x h
   unfold getP at h
   cases hs:stepP v s with
   |none=>rw [hs] at h;cases h
   | some q=>
     rw [hs] at h
     have:=zie (x:=q.1) (k:=q.2) hs
     have:=ih h
     omega
theorem V.str_weight (v:V):v.str.size<v.weight/\v.ls.length<v.weight/\v.os.length<v.weight:=by
 obtain ⟨kk,n,t,l,o,rfl⟩:=v.eta
 have hp:∀v:V,1<=v.weight:=fun v=>by cases v;simp only [V.weight];omega
 have h1:l.length<=weightL l:=by
  induction l with
  |nil=>simp
  |cons a r ih=>have:=hp a;simp only [List.length_cons,weightL];omega
 have h2:o.length<=weightO o:=by
  induction o with
  |nil=>simp
  |cons a r ih=>have:=hp a.2;simp only [List.length_cons,weightO,Xn];omega
 simp only [V.str,V.ls,V.os,V.weight];omega
set_option maxRecDepth 100000 in
theorem Xx (w:World) (vk vn:Int) (vs:ByteArray) (la:Option Addr) (ll lc:Nat) (oa:Option Addr) (ol oc:Nat) (v:V) (hv:IsVal w w.heap.size v ⟨vk,vn,vs,la,ll,lc,oa,ol,oc⟩) (hw:v.weight<=1000000000000) (p:List St) (xv:V) (cc:CC) (hcb:cc.Bnd) (hp:IsSteps w w.heap.size p cc.pa cc.pl cc.pc) (hxv:IsVal w w.heap.size xv cc.v) (hxw:xv.weight<=4611686018427387904) (hT:Tabs w):
 Calls Tryz.prog 34 #[.agg #[.int .u8 vk, .int .i64 vn, .string vs, .slice la ll lc, .slice oa ol oc], .agg #[.int .u8 cc.k, .slice cc.pa cc.pl cc.pc, .string cc.key, .int .i64 cc.i, .int .i64 cc.j, .int .i64 cc.n, .int .u8 cc.v.k, .int .i64 cc.v.n, .string cc.v.s, .slice cc.v.la cc.v.ll cc.v.lc, .slice cc.v.oa cc.v.ol cc.v.oc, .string cc.s]] w fun e w'=>e= .returned (.int .i64 (checkP v ⟨cc.k,p,cc.key,cc.i,cc.j,cc.n,xv,cc.s⟩))/\Below w.heap.size w w':=by
 have HSD:Hid (∀W,Below w.heap.size w W->Calls Tryz.prog 66 #[.agg #[.int .u8 cc.k, .slice cc.pa cc.pl cc.pc, .string cc.key, .int .i64 cc.i, .int .i64 cc.j, .int .i64 cc.n, .int .u8 cc.v.k, .int .i64 cc.v.n, .string cc.v.s, .slice cc.v.la cc.v.ll cc.v.lc, .slice cc.v.oa cc.v.ol cc.v.oc, .string cc.s]] W fun e w'=>e= .returned (.bool (cmSound ⟨cc.k,p,cc.key,cc.i,cc.j,cc.n,xv,cc.s⟩))/\Below W.heap.size W w'):=fun W hW=>zk7 _ W (hT.below hW) cc (.mk cc p xv hcb (hp.later_ hW) (hxv.later_ hW)) (by show xv.weight<=_;omega)
 have HGT:Hid (∀W,Below w.heap.size w W->Calls Tryz.prog 38 #[.agg #[.int .u8 vk, .int .i64 vn, .string vs, .slice la ll lc, .slice oa ol oc], .slice cc.pa cc.pl cc.pc] W (GetPost W (getP v p))):=fun W hW=>Xo W vk vn vs la ll lc oa ol oc v (hv.later_ hW) p cc.pa cc.pl cc.pc (hp.later_ hW)
 have HKD:Hid (∀W x (d:VC),Below w.heap.size w W->IsVal W W.heap.size x d->getP v p=some x->Calls Tryz.prog 69 #[.agg #[.int .u8 d.k, .int .i64 d.n, .string d.s, .slice d.la d.ll d.lc, .slice d.oa d.ol d.oc], .agg #[.int .u8 cc.k, .slice cc.pa cc.pl cc.pc, .string cc.key, .int .i64 cc.i, .int .i64 cc.j, .int .i64 cc.n, .int .u8 cc.v.k, .int .i64 cc.v.n, .string cc.v.s, .slice cc.v.la cc.v.ll cc.v.lc, .slice cc.v.oa cc.v.ol cc.v.oc, .string cc.s]] W fun e w'=>e= .returned (.int .i64 (kindsP x cc.k cc.i cc.j cc.n cc.key))/\Below W.heap.size W w'):=fun W x d hW hI hg=>by
  have h1:=Z7 p hg
  have h2:=x.str_weight.1
  have h3:=(Xc hI).1
  exact zfh W d.k d.n d.s d.la d.ll d.lc d.oa d.ol d.oc x hI (by rw [<-h3];omega) cc hcb (hT.below hW)
 obtain ⟨sd,hsd⟩:∃sd,cmSound ⟨cc.k,p,cc.key,cc.i,cc.j,cc.n,xv,cc.s⟩=sd:=⟨_,rfl⟩
 rw [hsd] at HSD
 obtain ⟨R,hR⟩:∃R,checkP v ⟨cc.k,p,cc.key,cc.i,cc.j,cc.n,xv,cc.s⟩=R:=⟨_,rfl⟩
 rw [hR]
 simp only [checkP,hsd] at hR
 have HR:=qh hR
 have HB:=qh (KBk.start w ⟨vk,vn,vs,la,ll,lc,oa,ol,oc⟩ cc 36 39)
 clear hR hsd hv hp hxv hxw hw hT hcb
 go_enter Tryz.func34,Tryz.ntmps34
 go_wp2_with fail
 refine (HSD.out _ HB.out.below).mono ?_
 rintro e W ⟨rfl,hb1⟩
 have B:=HB.out.next hb1 (by simp)
 have v0:=B.v.at_ 0 _ rfl;have v1:=B.v.at_ 1 _ rfl;have v2:=B.v.at_ 2 _ rfl;have v3:=B.v.at_ 3 _ rfl;have v4:=B.v.at_ 4 _ rfl
 have b0:=B.c.at_ 0 _ rfl;have b1:=B.c.at_ 1 _ rfl;have b2:=B.c.at_ 2 _ rfl;have b3:=B.c.at_ 3 _ rfl;have b4:=B.c.at_ 4 _ rfl;have b5:=B.c.at_ 5 _ rfl;have b6:=B.c.at_ 6 _ rfl;have b7:=B.c.at_ 7 _ rfl;have b8:=B.c.at_ 8 _ rfl;have b9:=B.c.at_ 9 _ rfl;have b10:=B.c.at_ 10 _ rfl;have b11:=B.c.at_ 11 _ rfl
 have z0:=B.v.lt;have z1:=B.c.lt
 have HBW:=qh B
 clear B hb1
 cases sd with
 | false=>
   obtain rfl:R=60:=by rw [<-HR.out];rfl
   go_wp2_with fail
   go_returns
   exact ⟨rfl,HBW.out.below⟩
 | true=>
   go_wp2_with fail
   refine (HGT.out _ HBW.out.below).mono ?_
   rintro e W2 h2
   obtain ⟨d,er,rfl,hrel,hb2⟩:=GetPost.gen h2
   clear h2
   have B2:=HBW.out.next hb2 (Nat.succ_le_of_lt z1)
   clear v0 v1 v2 v3 v4 b0 b1 b2 b3 b4 b5 b6 b7 b8 b9 b10 b11
   have v0:=B2.v.at_ 0 _ rfl;have v1:=B2.v.at_ 1 _ rfl;have v2:=B2.v.at_ 2 _ rfl;have v3:=B2.v.at_ 3 _ rfl;have v4:=B2.v.at_ 4 _ rfl
   have b0:=B2.c.at_ 0 _ rfl;have b1:=B2.c.at_ 1 _ rfl;have b2:=B2.c.at_ 2 _ rfl;have b3:=B2.c.at_ 3 _ rfl;have b4:=B2.c.at_ 4 _ rfl;have b5:=B2.c.at_ 5 _ rfl;have b6:=B2.c.at_ 6 _ rfl;have b7:=B2.c.at_ 7 _ rfl;have b8:=B2.c.at_ 8 _ rfl;have b9:=B2.c.at_ 9 _ rfl;have b10:=B2.c.at_ 10 _ rfl;have b11:=B2.c.at_ 11 _ rfl
   have z0:=B2.v.lt;have z1:=B2.c.lt
   have hbl2:=B2.below
   have HB2:=qh (hbl2.alloc hbl2.size (.cells #[.int .u8 d.k, .int .i64 d.n, .string d.s, .slice d.la d.ll d.lc, .slice d.oa d.ol d.oc] 36))
   clear hb2 B2
   rcases hrel.out with ⟨hg,rfl⟩|⟨x,hg,rfl,hI⟩
   .obtain rfl:R=30:=by rw [<-HR.out,hg];rfl
    clear hg hbl2
    go_wp2_with fail
    go_returns
    exact ⟨rfl,HB2.out⟩
   .have HK:Hid (Calls Tryz.prog 69 #[.agg #[.int .u8 d.k, .int .i64 d.n, .string d.s, .slice d.la d.ll d.lc, .slice d.oa d.ol d.oc], .agg #[.int .u8 cc.k, .slice cc.pa cc.pl cc.pc, .string cc.key, .int .i64 cc.i, .int .i64 cc.j, .int .i64 cc.n, .int .u8 cc.v.k, .int .i64 cc.v.n, .string cc.v.s, .slice cc.v.la cc.v.ll cc.v.lc, .slice cc.v.oa cc.v.ol cc.v.oc, .string cc.s]] (W2.alloc (.cells #[.int .u8 d.k, .int .i64 d.n, .string d.s, .slice d.la d.ll d.lc, .slice d.oa d.ol d.oc] 36)) fun e w'=>e= .returned (.int .i64 (kindsP x cc.k cc.i cc.j cc.n cc.key))/\Below (W2.alloc (.cells #[.int .u8 d.k, .int .i64 d.n, .string d.s, .slice d.la d.ll d.lc, .slice d.oa d.ol d.oc] 36)).heap.size (W2.alloc (.cells #[.int .u8 d.k, .int .i64 d.n, .string d.s, .slice d.la d.ll d.lc, .slice d.oa d.ol d.oc] 36)) w'):=HKD.out _ x d HB2.out ((hI.sub (Zn _ _ _)).later_ ((Below.refl _ _).alloc (Nat.le_refl _) _)) hg
    obtain rfl:R=kindsP x cc.k cc.i cc.j cc.n cc.key:=by rw [<-HR.out,hg];rfl
    clear hg hI hrel hbl2
    go_wp2_with fail
    refine HK.out.mono ?_
    rintro e W3 ⟨rfl,hb3⟩
    go_wp2_with fail
    go_returns
    exact ⟨rfl,HB2.out.trans (hb3.mono HB2.out.size)⟩
def fldStep (key:ByteArray) (v:V) (s:List (ByteArray×V)×Bool) (f:ByteArray×V):List (ByteArray×V)×Bool:=
 if s.2=false/\Op.bytesLess f.1.toList key.toList=false then (if f.1.toList=key.toList then (s.1++ [(key,v)],true) else (s.1++ [(key,v)] ++ [f],true))
 else if f.1.toList=key.toList then s else (s.1++ [f],s.2)
def fieldsDo (o:List (ByteArray×V)) (key:ByteArray) (v:V) (del:Bool):List (ByteArray×V):=
 if (o.foldl (fldStep key v) ([],del)).2=false then (o.foldl (fldStep key v) ([],del)).1++ [(key,v)] else (o.foldl (fldStep key v) ([],del)).1
theorem zhy {α β:Type} (f:β->α->β) (b:β) (l:List α) (k:Nat) (h:k<l.length):(l.take (k+1)).foldl f b=f ((l.take k).foldl f b) l[k] :=by
 rw [Z5 l k h,List.foldl_append];rfl
theorem PF.snoc1 {l:List (ByteArray×V)} {cs:List (ByteArray×VC)} {W:World} {B:Nat} (hl:cs.length=l.length) (h:∀i,i<l.length->PF l cs W B i) {s:ByteArray} (hs:s.size<=140737488355328) {x:V} {c:VC} (hx:IsVal W B x c):∀i,i<(l++ [(s,x)]).length->PF (l++ [(s,x)]) (cs++ [(s,c)]) W B i:=by
 obtain ⟨s1,s2⟩:=PF.snoc (l:=l) (cs:=cs) hl s hs x c
 intro i hi
 by_cases e:i<l.length
 .exact s2 W B i e (h i e)
 .rw [List.length_append,List.length_singleton] at hi
  obtain rfl:i=l.length:=by omega
  exact s1 W B hx
theorem za1 {w:World} {B1:Nat} {S:Nat->Prop} {v:Value} {l:List (ByteArray×V)} {cs:List (ByteArray×VC)} (hown:w.ownsRow B1 75 6 v l.length (cs.flatMap fcells)) (hS:∀k,B1<=k->S k) (hl:cs.length=l.length) (hels:∀i,i<l.length->PF l cs (only S w) w.heap.size i) (hfew:l.length<=1466015503701):
 ∃a n c,v= .slice a n c/\IsFields (only S w) w.heap.size l a n c/\(a=none->c=0):=by
 obtain ⟨a,c,hv,hr⟩:=OwnRow.of (base':=B1) hown (Nat.le_refl _)
 have hI:=Xq (w:=only S w) (B:=w.heap.size) (k:=0) (n:=0) (s:= .empty) (l:= []) (o:=l) (a:=none) (m:=0) (c:=0) (a':=a) (m':=l.length) (c':=c) (cl:= []) (co:=cs) (by omega) (by omega) (by omega) (by omega) (by decide) rfl rfl rfl hl (by simp) hfew (by omega) (by omega) hr.cap hr.max (fun h=>absurd h (by omega)) (fun hp=>by
  obtain ⟨g,e,hg,hbc⟩:=hr.row (.inl hp)
  exact ⟨g,e,hbc.lt,fun i hi=>⟨Z3 (hS g hg) (Z2 hbc hi).1,Yd (hS g hg) (Z2 hbc hi).2⟩⟩) (fun i h=>absurd h (by simp)) hels
 refine ⟨a,l.length,c,hv,hI.lists.2.2.2.2.2,fun ha=> ?_⟩
 by_cases hn:l.length=0
 .exact hr.none_ hn ha
 .obtain ⟨g,e,_⟩:=hr.row (.inl (by omega))
  rw [ha] at e;cases e
def FieldsPost (w:World) (S:Nat->Prop) (l:List (ByteArray×V)) (e:Ending) (w':World):Prop:=
 (∃a n c,e= .returned (.slice a n c)/\IsFields (only S w') w'.heap.size l a n c)/\Below w.heap.size w w'
structure FH (W1 wr:World) (S:Nat->Prop) (o:List (ByteArray×V)) (key:ByteArray) (v:V) (del:Bool) (j:Nat) (u:Value) (xs:List (ByteArray×V)) (cs:List (ByteArray×VC)) (done:Bool):Prop where
 rd:(o.take j).foldl (fldStep key v) ([],del)=(xs,done)
 few:xs.length<=2*j
 cen:cs.length=xs.length
 own:wr.ownsRow W1.heap.size 75 6 u xs.length (cs.flatMap fcells)
 els:∀i,i<xs.length->PF xs cs (only S W1) W1.heap.size i
 below:Below W1.heap.size W1 wr
theorem Yq {w:World} {base:Nat} {T:TypeId} {sz:Nat} {u:Value} {n:Nat} {cells:List Value} (h:w.ownsRow base T sz u n cells) (k:Nat):(w.drewN k).ownsRow base T sz u n cells:=
 h.kept (row:=none) ⟨rfl,rfl,rfl,Nat.le_refl _,fun _ _ _=>rfl⟩ (by cases u.ownBlock<;>simp)
theorem Zr (w:World) (n:Nat) (o:Obj):((w.drewN n).alloc o).heap.size=w.heap.size+1:=World.size_alloc (w.drewN n) o
theorem Y8 (w:World) (n:Nat):Below w.heap.size w (w.drewN n):=Z6 (Below.refl _ _) n
theorem Qa (w:World) (n:Nat) (s:ByteArray) (d:VC) (t:TypeId):∀j u,(fcells (s,d))[j]? =some u->((w.drewN n).alloc (.cells #[.string s, .int .u8 d.k, .int .i64 d.n, .string d.s, .slice d.la d.ll d.lc, .slice d.oa d.ol d.oc] t)).cell? ((⟨w.heap.size,0,none⟩:Addr).add j)=some u:=
 World.news_of_block (t:=t) (fr:=(0,0)) (heap_alloc_new (w.drewN n) (.cells #[.string s, .int .u8 d.k, .int .i64 d.n, .string d.s, .slice d.la d.ll d.lc, .slice d.oa d.ol d.oc] t))
theorem Xk {W1 wr w0 w7:World} {S:Nat->Prop} {u u':Value} {xs:List (ByteArray×V)} {cs:List (ByteArray×VC)} {s:ByteArray} {x:V} {cx:VC}
 (hlt:∀b,u.ownBlock=some b->W1.heap.size<=b) (cen:cs.length=xs.length) (els:∀i,i<xs.length->PF xs cs (only S W1) W1.heap.size i) (below:Below W1.heap.size W1 wr)
 (hs:s.size<=140737488355328) (hx:IsVal (only S W1) W1.heap.size x cx) (hb:Below wr.heap.size wr w0)
 (hown:w7.ownsRow W1.heap.size 75 6 u' (xs.length+1) (cs.flatMap fcells++fcells (s,cx))) (hg:w0.grownBy w7 u.ownBlock):
 (cs++ [(s,cx)]).length=(xs++ [(s,x)]).length/\w7.ownsRow W1.heap.size 75 6 u' (xs++ [(s,x)]).length ((cs++ [(s,cx)]).flatMap fcells)/\(∀i,i<(xs++ [(s,x)]).length->PF (xs++ [(s,x)]) (cs++ [(s,cx)]) (only S W1) W1.heap.size i)/\Below W1.heap.size W1 w7:=by
 refine ⟨by simp [cen], ?_,PF.snoc1 cen els hs hx,(below.trans (hb.mono below.size)).trans (Zj hg hlt (Nat.le_trans below.size hb.size))⟩
 rw [Xv,List.length_append,List.length_singleton]
 exact hown
theorem zjy {w w4:World} (h:Below w.heap.size w.drew w4) (hz:w.heap.size<=w4.heap.size) (s:ByteArray) (d:VC) (t:TypeId):BC (w4.alloc (.cells #[.string s, .int .u8 d.k, .int .i64 d.n, .string d.s, .slice d.la d.ll d.lc, .slice d.oa d.ol d.oc] t)) w4.heap.size (fcells (s,d))/\Below w.heap.size w.drew (w4.alloc (.cells #[.string s, .int .u8 d.k, .int .i64 d.n, .string d.s, .slice d.la d.ll d.lc, .slice d.oa d.ol d.oc] t))/\w.heap.size<=w4.heap.size:=
 ⟨BC.start w4 #[.string s, .int .u8 d.k, .int .i64 d.n, .string d.s, .slice d.la d.ll d.lc, .slice d.oa d.ol d.oc] t,h.alloc hz _,hz⟩
theorem zg1 {w w4:World} (h:Below w.heap.size w.drew w4) (s:ByteArray) (d:VC) (x:BC w4 w.heap.size [.string { data:= #[] }, .int .u8 0, .int .i64 0, .string { data:= #[] }, .slice none 0 0, .slice none 0 0]):
 BC ((((((w4.setCell ⟨w.heap.size,0,none⟩ (.string s)).setCell ⟨w.heap.size,1,none⟩ (.int .u8 d.k)).setCell ⟨w.heap.size,2,none⟩ (.int .i64 d.n)).setCell ⟨w.heap.size,3,none⟩ (.string d.s)).setCell ⟨w.heap.size,4,none⟩ (.slice d.la d.ll d.lc)).setCell ⟨w.heap.size,5,none⟩ (.slice d.oa d.ol d.oc)) w.heap.size (fcells (s,d))/\Below w.heap.size w.drew ((((((w4.setCell ⟨w.heap.size,0,none⟩ (.string s)).setCell ⟨w.heap.size,1,none⟩ (.int .u8 d.k)).setCell ⟨w.heap.size,2,none⟩ (.int .i64 d.n)).setCell ⟨w.heap.size,3,none⟩ (.string d.s)).setCell ⟨w.heap.size,4,none⟩ (.slice d.la d.ll d.lc)).setCell ⟨w.heap.size,5,none⟩ (.slice d.oa d.ol d.oc))/\w.heap.size<=w.heap.size:=
 ⟨(((((x.set (i:=0) (x:= .string s) (by simp)).set (i:=1) (x:= .int .u8 d.k) (by simp)).set (i:=2) (x:= .int .i64 d.n) (by simp)).set (i:=3) (x:= .string d.s) (by simp)).set (i:=4) (x:= .slice d.la d.ll d.lc) (by simp)).set (i:=5) (x:= .slice d.oa d.ol d.oc) (by simp),
  (((((h.set_ (Nat.le_refl _)).set_ (Nat.le_refl _)).set_ (Nat.le_refl _)).set_ (Nat.le_refl _)).set_ (Nat.le_refl _)).set_ (Nat.le_refl _),Nat.le_refl _⟩
theorem _root_.Go.RowKit.Below.set6 {B b:Nat} {a w:World} (h:Below B a w) (hb:B<=b) (x0 x1 x2 x3 x4 x5:Value):Below B a ((((((w.setCell ⟨b,0,none⟩ x0).setCell ⟨b,1,none⟩ x1).setCell ⟨b,2,none⟩ x2).setCell ⟨b,3,none⟩ x3).setCell ⟨b,4,none⟩ x4).setCell ⟨b,5,none⟩ x5):=
 (((((h.set_ hb).set_ hb).set_ hb).set_ hb).set_ hb).set_ hb
theorem zdg {w w4:World} (h:Below w.heap.size w.drew w4) (hz:w.heap.size<=w4.heap.size) (s:ByteArray) (d:VC) (t:TypeId) {x:V} (hx:IsVal (only (fun b=>w.heap.size<=b) w4) w4.heap.size x d):
 (BC (w4.alloc (.cells #[.string s, .int .u8 d.k, .int .i64 d.n, .string d.s, .slice d.la d.ll d.lc, .slice d.oa d.ol d.oc] t)) w4.heap.size (fcells (s,d))/\Below w.heap.size w.drew (w4.alloc (.cells #[.string s, .int .u8 d.k, .int .i64 d.n, .string d.s, .slice d.la d.ll d.lc, .slice d.oa d.ol d.oc] t))/\w.heap.size<=w4.heap.size)/\Hid (IsVal (only (fun b=>w.heap.size<=b) (w4.alloc (.cells #[.string s, .int .u8 d.k, .int .i64 d.n, .string d.s, .slice d.la d.ll d.lc, .slice d.oa d.ol d.oc] t))) (w4.alloc (.cells #[.string s, .int .u8 d.k, .int .i64 d.n, .string d.s, .slice d.la d.ll d.lc, .slice d.oa d.ol d.oc] t)).heap.size x d):=by
 have hb:Below w4.heap.size w4 (w4.alloc (.cells #[.string s, .int .u8 d.k, .int .i64 d.n, .string d.s, .slice d.la d.ll d.lc, .slice d.oa d.ol d.oc] t)):=(Below.refl _ _).alloc (Nat.le_refl _) _
 exact ⟨zjy h hz s d t,(hx.sub (Ze fun k hk hl=>⟨hk,hb.block k hl⟩)).more hb.size⟩
theorem zlh {w w4:World} (h:Below w.heap.size w.drew w4) (s:ByteArray) (d:VC) (xb:BC w4 w.heap.size [.string { data:= #[] }, .int .u8 0, .int .i64 0, .string { data:= #[] }, .slice none 0 0, .slice none 0 0]) {x:V} (hx:IsVal (only (fun b=>w.heap.size+1<=b) w4) w4.heap.size x d):
 (BC ((((((w4.setCell ⟨w.heap.size,0,none⟩ (.string s)).setCell ⟨w.heap.size,1,none⟩ (.int .u8 d.k)).setCell ⟨w.heap.size,2,none⟩ (.int .i64 d.n)).setCell ⟨w.heap.size,3,none⟩ (.string d.s)).setCell ⟨w.heap.size,4,none⟩ (.slice d.la d.ll d.lc)).setCell ⟨w.heap.size,5,none⟩ (.slice d.oa d.ol d.oc)) w.heap.size (fcells (s,d))/\Below w.heap.size w.drew ((((((w4.setCell ⟨w.heap.size,0,none⟩ (.string s)).setCell ⟨w.heap.size,1,none⟩ (.int .u8 d.k)).setCell ⟨w.heap.size,2,none⟩ (.int .i64 d.n)).setCell ⟨w.heap.size,3,none⟩ (.string d.s)).setCell ⟨w.heap.size,4,none⟩ (.slice d.la d.ll d.lc)).setCell ⟨w.heap.size,5,none⟩ (.slice d.oa d.ol d.oc))/\w.heap.size<=w.heap.size)/\Hid (IsVal (only (fun b=>w.heap.size<=b) ((((((w4.setCell ⟨w.heap.size,0,none⟩ (.string s)).setCell ⟨w.heap.size,1,none⟩ (.int .u8 d.k)).setCell ⟨w.heap.size,2,none⟩ (.int .i64 d.n)).setCell ⟨w.heap.size,3,none⟩ (.string d.s)).setCell ⟨w.heap.size,4,none⟩ (.slice d.la d.ll d.lc)).setCell ⟨w.heap.size,5,none⟩ (.slice d.oa d.ol d.oc))) ((((((w4.setCell ⟨w.heap.size,0,none⟩ (.string s)).setCell ⟨w.heap.size,1,none⟩ (.int .u8 d.k)).setCell ⟨w.heap.size,2,none⟩ (.int .i64 d.n)).setCell ⟨w.heap.size,3,none⟩ (.string d.s)).setCell ⟨w.heap.size,4,none⟩ (.slice d.la d.ll d.lc)).setCell ⟨w.heap.size,5,none⟩ (.slice d.oa d.ol d.oc)).heap.size x d):=by
 have st:RStep w4 ((((((w4.setCell ⟨w.heap.size,0,none⟩ (.string s)).setCell ⟨w.heap.size,1,none⟩ (.int .u8 d.k)).setCell ⟨w.heap.size,2,none⟩ (.int .i64 d.n)).setCell ⟨w.heap.size,3,none⟩ (.string d.s)).setCell ⟨w.heap.size,4,none⟩ (.slice d.la d.ll d.lc)).setCell ⟨w.heap.size,5,none⟩ (.slice d.oa d.ol d.oc)) w.heap.size:=((((RStep.self.trans RStep.self).trans RStep.self).trans RStep.self).trans RStep.self).trans RStep.self
 exact ⟨zg1 h s d xb,(hx.sub (Ze fun k hk hl=>⟨by omega,st.block k hl (by omega)⟩)).more st.size⟩
def lightB (v:V):Bool:=v.sound && decide (v.deep<=16) && decide (v.weight<=20000)
theorem K3 (b:UInt8):(low b).toNat<128:=by
 unfold low;rw [UInt8.toNat_ofNat'];omega
theorem Qk {l:List UInt8} (h:∀b ∈ l,b.toNat<128):Lib.validD l=true:=by
 have:=Lib.validD_ascii l.length l (fun b hb=>h b (List.mem_of_mem_take hb))
 rw [this,List.drop_length];rfl
theorem Jy (s:ByteArray):Lib.validD (plainS s).data.toList=true:=by
 refine Qk fun b hb=> ?_
 have:b ∈ plainL s.data.toList:=by simpa [plainS] using hb
 obtain ⟨c,_,rfl⟩:=List.mem_map.1 this
 exact K3 c
theorem zkt (l:List Tk) (u:Nat):Lib.validD (keyP l u).data.toList=true:=by
 unfold keyP
 split
 .exact Jy _
 .rfl
theorem zkb (o:List (ByteArray×V)) (key:ByteArray):∀i a,o[i]? =some a->i<fieldK o key->Op.bytesLess a.1.toList key.toList=true:=by
 unfold fieldK
 induction o with
 |nil=>intro i a h;simp at h
 | cons f o ih=>
   intro i a h hi
   by_cases hf:Op.bytesLess f.1.toList key.toList=true
   .rw [List.takeWhile_cons,if_pos hf,List.length_cons] at hi
    cases i with
    |zero=>simp at h;subst h;exact hf
    |succ i=>exact ih i a (by simpa using h) (by omega)
   .rw [List.takeWhile_cons,if_neg hf] at hi
    simp at hi
theorem zfx (o:List (ByteArray×V)) (key:ByteArray):∀a,o[fieldK o key]? =some a->Op.bytesLess a.1.toList key.toList=false:=by
 unfold fieldK
 induction o with
 |nil=>intro a h;simp at h
 | cons f o ih=>
   intro a h
   by_cases hf:Op.bytesLess f.1.toList key.toList=true
   .rw [List.takeWhile_cons,if_pos hf,List.length_cons] at h
    exact ih a (by simpa using h)
   .rw [List.takeWhile_cons,if_neg hf] at h
    simp at h;subst h
    cases hq:Op.bytesLess f.1.toList key.toList with
    |true=>exact absurd hq hf
    |false=>rfl
theorem Jt {x y z:List UInt8} (h:Op.bytesLess x y=true) (g:Op.bytesLess y z=true):Op.bytesLess x z=true:=by
 simp only [bytesLess_eq,decide_eq_true_eq] at*
 exact List.lt_trans h g
theorem Xj {o:List (ByteArray×V)} :rising o=true↔∀i a b,o[i]? =some a->o[i+1]? =some b->Op.bytesLess a.1.toList b.1.toList=true:=by
 rw [Qs]
 constructor
 .intro h i a b ha hb
  have hb1:=(List.getElem?_eq_some_iff.1 hb).1
  have:=h i hb1
  rw [List.getElem?_eq_getElem (by omega)] at ha
  rw [List.getElem?_eq_getElem hb1] at hb
  injection ha with ha;injection hb with hb
  rw [<-ha, <-hb];exact this
 .intro h i hi
  exact h i _ _ (List.getElem?_eq_getElem (by omega)) (List.getElem?_eq_getElem hi)
theorem zak {o:List (ByteArray×V)} (key:ByteArray) (x:V) (h:rising o=true):rising (withF o key x)=true:=by
 rw [Xj] at h ⊢
 obtain ⟨k,hk⟩:∃k,fieldK o key=k:=⟨_,rfl⟩
 have hkl:=Yh o key
 have hlt:=zkb o key
 have hst:=zfx o key
 obtain ⟨k',hk'⟩:∃k',(if fieldIs o key=true then fieldK o key+1 else fieldK o key)=k':=⟨_,rfl⟩
 have hnext:∀b,o[k']? =some b->Op.bytesLess key.toList b.1.toList=true:=by
  intro b hb
  by_cases e:fieldIs o key=true
  .rw [if_pos e,hk] at hk'
   unfold fieldIs at e
   rw [hk] at e
   cases hf:o[k]? with
   |none=>rw [hf] at e;cases e
   | some f=>
     rw [hf] at e
     have e:f.1.toList=key.toList:=by simpa using e
     rw [<-e]
     rw [<-hk'] at hb
     exact h k f b hf hb
  .rw [if_neg e,hk] at hk'
   unfold fieldIs at e
   rw [<-hk'] at hb
   have h1:=hst b (by rw [hk];exact hb)
   rw [hk,hb] at e
   rcases Ki b.1.toList key.toList with h2|h2|h2
   .rw [h1] at h2;cases h2
   .exact absurd (by simpa using h2) e
   .exact h2
 rw [hk] at hkl hlt
 have hw:withF o key x=o.take k++(key,x)::o.drop k':=by rw [withF,hk',hk]
 rw [hw]
 have l1:(o.take k).length=k:=by rw [List.length_take,Nat.min_eq_left hkl]
 have g1:∀i,i<k->(o.take k++(key,x)::o.drop k')[i]? =o[i]? :=fun i hi=>by
  rw [List.getElem?_append_left (by omega),List.getElem?_take_of_lt hi]
 have g2:(o.take k++(key,x)::o.drop k')[k]? =some (key,x):=by
  rw [List.getElem?_append_right (by omega),l1,Nat.sub_self];rfl
 have g3:∀m,(o.take k++(key,x)::o.drop k')[k+1+m]? =o[k'+m]? :=fun m=>by
  rw [List.getElem?_append_right (by omega),l1,show k+1+m - k=m+1 by omega,List.getElem?_cons_succ,List.getElem?_drop]
 intro i a b ha hb
 by_cases e1:i+1<k
 .rw [g1 _ (by omega)] at ha
  rw [g1 _ e1] at hb
  exact h i a b ha hb
 .by_cases e2:i+1=k
  .rw [g1 _ (by omega)] at ha
   rw [e2,g2] at hb
   injection hb with hb;subst hb
   exact hlt i a ha (by omega)
  .by_cases e3:i=k
   .subst e3
    rw [g2] at ha
    injection ha with ha;subst ha
    have:=g3 0
    rw [Nat.add_zero,Nat.add_zero] at this
    rw [this] at hb
    exact hnext b hb
   .obtain ⟨m,rfl⟩:∃m,i=k+1+m:=⟨i - k - 1,by omega⟩
    rw [g3] at ha
    rw [show k+1+m+1=k+1+(m+1) by omega,g3] at hb
    exact h (k'+m) a b ha hb
theorem J5 {o:List (ByteArray×V)} {key:ByteArray} {x:V} {f:ByteArray×V} (h:f ∈ withF o key x):f ∈ o∨f=(key,x):=by
 unfold withF at h
 rcases List.mem_append.1 h with h|h
 .exact .inl (List.mem_of_mem_take h)
 .rcases List.mem_cons.1 h with h|h
  .exact .inr h
  .exact .inl (List.mem_of_mem_drop h)
theorem zbi (g:ByteArray×V->Nat) (o:List (ByteArray×V)) (key:ByteArray) (x:V):((withF o key x).map g).sum<=(o.map g).sum+g (key,x):=by
 have hd:∀n,((o.drop (n+1)).map g).sum<=((o.drop n).map g).sum:=fun n=>by
  rw [<-List.drop_drop,List.drop_one]
  cases o.drop n with
  |nil=>simp
  |cons a r=>simp
 have ht:((o.take (fieldK o key)).map g).sum+((o.drop (fieldK o key)).map g).sum=(o.map g).sum:=by
  rw [<-List.sum_append, <-List.map_append,List.take_append_drop]
 unfold withF
 rw [List.map_append,List.map_cons,List.sum_append,List.sum_cons]
 split
 .have:=hd (fieldK o key);omega
 .omega
theorem zap (o:List (ByteArray×V)):weightO o=(o.map fun f=>f.1.size+f.2.weight).sum:=by
 induction o with
 |nil=>rfl
 |cons f r ih=>rw [weightO,Xn,ih,List.map_cons,List.sum_cons]
theorem Kx (o:List (ByteArray×V)):(encO o).length=(o.map fun f=>(encF f).length).sum:=by
 induction o with
 |nil=>rfl
 |cons f r ih=>rw [encO,List.length_append,ih,List.map_cons,List.sum_cons]
theorem zjv {l:List V} {n:Nat} (h:∀v ∈ l,v.deep+1<=n):deepL l<=n:=by
 induction l with
 |nil=>simp [deepL]
 | cons v r ih=>
   rw [deepL]
   have h1:=h v (by simp)
   have h2:=ih fun x hx=>h x (by simp [hx])
   omega
theorem zkc {o:List (ByteArray×V)} {n:Nat} (h:∀f ∈ o,f.2.deep+1<=n):deepO o<=n:=by
 induction o with
 |nil=>simp [deepO]
 | cons v r ih=>
   rw [deepO,Qp]
   have h1:=h v (by simp)
   have h2:=ih fun x hx=>h x (by simp [hx])
   omega
structure Built (d:Nat) (v:V) (u:Nat):Prop where
 sound:v.sound=true
 deep:v.deep<=d
 wt:v.weight+40<=81*(3*u+1)
 len:(encV v).length+44<=90*(3*u+1)
theorem Ke (d:Nat):Built d V.none 0:=⟨by simp [V.none,V.sound,plainB,rising,soundL,soundO],by simp [V.none,V.deep,deepL,deepO],by simp [V.none,V.weight,weightL,weightO],by simp [V.none,encV,Ye]⟩
theorem Built.more {d u u':Nat} {v:V} (h:Built d v u) (hu:u<=u'):Built d v u':=⟨h.sound,h.deep,by have:=h.wt;omega,by have:=h.len;omega⟩
theorem zaq (d:Nat) (t:Tk):Built d (leafP t) 1:=by
 have hp:=Yr t.s
 have hv:=Jy t.s
 unfold leafP
 split
 .have:t.n % 2=0∨t.n % 2=1:=by omega
  refine ⟨?_,by simp [V.deep,deepL,deepO],by simp [V.weight,weightL,weightO],by simp [encV,Ye]⟩
  rcases this with h|h<;>simp [h,V.sound,plainB,rising,soundL,soundO]
 .split
  .exact ⟨by simp [V.sound,plainB,rising,soundL,soundO],by simp [V.deep,deepL,deepO],by simp [V.weight,weightL,weightO],by simp [encV,Ye]⟩
  .split
   .exact ⟨by simp [V.sound,plainB,rising,soundL,soundO,hv],by simp [V.deep,deepL,deepO],by simp [V.weight,weightL,weightO];omega,by simp [encV,Ye,zce];omega⟩
   .split
    .exact ⟨by simp [V.sound,plainB,rising,soundL,soundO],by simp [V.deep,deepL,deepO],by simp [V.weight,weightL,weightO],by simp [encV,encL,Ye]⟩
    .split
     .exact ⟨by simp [V.sound,plainB,rising,soundL,soundO],by simp [V.deep,deepL,deepO],by simp [V.weight,weightL,weightO],by simp [encV,encO,Ye]⟩
     .exact (Ke d).more (by omega)
theorem zf7 {d:Nat} {f:List Tk->V×Nat} (hf:∀l,Built d (f l).1 (f l).2) (l:List Tk):∀j,(∀v ∈ (bL f l j).1,v.sound=true/\v.deep<=d)/\1<=(bL f l j).2/\weightL (bL f l j).1+40*j<=81*(3*((bL f l j).2 - 1)+j)/\(encL (bL f l j).1).length+44*j<=90*(3*((bL f l j).2 - 1)+j):=by
 intro j
 induction j with
 |zero=>exact ⟨by simp [bL],by simp [bL],by simp [bL,weightL],by simp [bL,encL]⟩
 | succ j ih=>
   obtain ⟨h1,h2,h3,h4⟩:=ih
   rw [bL]
   have hb:=hf (l.drop (bL f l j).2)
   have hw:=hb.wt
   have hn:=hb.len
   dsimp only
   rw [Km,zhq,List.length_append]
   simp only [weightL,encL,List.append_nil]
   refine ⟨fun v hv=> ?_,by omega,by omega,by omega⟩
   rcases List.mem_append.1 hv with hv|hv
   .exact h1 v hv
   .rw [List.mem_singleton] at hv;subst hv;exact ⟨hb.sound,hb.deep⟩
theorem zhe {d:Nat} {f:List Tk->V×Nat} (hf:∀l,Built d (f l).1 (f l).2) (l:List Tk):∀j,(∀g ∈ (bO f l j).1,Lib.validD g.1.data.toList=true/\g.2.sound=true/\g.2.deep<=d)/\rising (bO f l j).1=true/\1<=(bO f l j).2/\weightO (bO f l j).1<=81*(3*((bO f l j).2 - 1)+j)/\(encO (bO f l j).1).length<=90*(3*((bO f l j).2 - 1)+j):=by
 intro j
 induction j with
 |zero=>exact ⟨by simp [bO],by simp [bO,rising],by simp [bO],by simp [bO,weightO],by simp [bO,encO]⟩
 | succ j ih=>
   obtain ⟨h1,h5,h2,h3,h4⟩:=ih
   rw [bO]
   have hb:=hf (l.drop (bO f l j).2)
   have hw:=hb.wt
   have hn:=hb.len
   have hk:=zbj l (bO f l j).2
   have s1:=zbi (fun f=>f.1.size+f.2.weight) (bO f l j).1 (keyP l (bO f l j).2) (f (l.drop (bO f l j).2)).1
   have s2:=zbi (fun f=>(encF f).length) (bO f l j).1 (keyP l (bO f l j).2) (f (l.drop (bO f l j).2)).1
   rw [<-zap, <-zap] at s1
   rw [<-Kx, <-Kx] at s2
   rw [zhk,List.length_append,zce] at s2
   dsimp only at*
   refine ⟨fun v hv=> ?_,zak _ _ h5,by omega,by omega,by omega⟩
   rcases J5 hv with hv|hv
   .exact h1 v hv
   .subst hv;exact ⟨zkt _ _,hb.sound,hb.deep⟩
theorem zi1 (d:Nat):∀l,Built d (oneP d l).1 (oneP d l).2:=by
 induction d with
 | zero=>
   intro l
   cases l with
   |nil=>exact Ke 0
   |cons t r=>exact zaq 0 t
 | succ d ih=>
   intro l
   cases l with
   |nil=>exact Ke _
   | cons t r=>
     have hK:(t.m % 4).toNat<=3:=by omega
     obtain ⟨K,hk⟩:∃K,(t.m % 4).toNat=K:=⟨_,rfl⟩
     rw [oneP,hk]
     rw [hk] at hK
     split
     .obtain ⟨h1,h2,h3,h4⟩:=zf7 ih (t::r) K
      obtain ⟨p,hp⟩:∃p,bL (oneP d) (t::r) K=p:=⟨_,rfl⟩
      rw [hp] at h1 h2 h3 h4 ⊢
      refine ⟨?_, ?_, ?_, ?_⟩
      .simp only [V.sound,Bool.and_eq_true]
       exact ⟨⟨⟨by simp [plainB],rfl⟩,(Jd _).2 fun v hv=>(h1 v hv).1⟩,rfl⟩
      .simp only [V.deep,deepO]
       have:=zjv (n:=d+1) fun v hv=>by have:=(h1 v hv).2;omega
       omega
      .simp only [V.weight,weightO,show ByteArray.empty.size=0 from rfl];omega
      .rw [encV,if_neg (by omega),if_neg (by omega),if_pos rfl,List.length_append,List.length_append,Ye,Ye];omega
     .split
      .obtain ⟨h1,h5,h2,h3,h4⟩:=zhe ih (t::r) K
       obtain ⟨p,hp⟩:∃p,bO (oneP d) (t::r) K=p:=⟨_,rfl⟩
       rw [hp] at h1 h5 h2 h3 h4 ⊢
       refine ⟨?_, ?_, ?_, ?_⟩
       .simp only [V.sound,Bool.and_eq_true]
        exact ⟨⟨⟨by simp [plainB],h5⟩,rfl⟩,(Jb _).2 fun v hv=>⟨(h1 v hv).1,(h1 v hv).2.1⟩⟩
       .simp only [V.deep,deepL]
        have:=zkc (n:=d+1) fun v hv=>by have:=(h1 v hv).2.2;omega
        omega
       .simp only [V.weight,weightL,show ByteArray.empty.size=0 from rfl];omega
       .rw [encV,if_neg (by omega),if_neg (by omega),if_neg (by omega),if_pos rfl,List.length_append,List.length_append,Ye,Ye];omega
      .exact zaq _ t
theorem Jn (l:List Tk):lightB (oneP 6 (l.take 60)).1=true/\(oneP 6 (l.take 60)).1.weight<=20000/\(oneP 6 (l.take 60)).1.deep<=6/\(oneP 6 (l.take 60)).1.sound=true/\(encV (oneP 6 (l.take 60)).1).length<=60000:=by
 have hb:=zi1 6 (l.take 60)
 have hu:=Qm 6 (l.take 60)
 rw [List.length_take] at hu
 have h1:=hb.wt
 have h2:=hb.len
 have h3:=hb.deep
 refine ⟨?_,by omega,h3,hb.sound,by omega⟩
 rw [lightB,hb.sound,decide_eq_true (by omega:(oneP 6 (l.take 60)).1.deep<=16),decide_eq_true (by omega:(oneP 6 (l.take 60)).1.weight<=20000)];rfl
end Go.Proofs.YtnjgbiachcfigaaGreatDoor
