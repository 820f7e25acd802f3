/- Walks. -/
import Derived.Test.YtbgheehjfnoiiaaGreatDoorIu7
namespace Go.Proofs.YtbgheehjfnoiiaaGreatDoor
open Go.RowKit
set_option maxRecDepth 100000
set_option maxHeartbeats 8000000
def insL {α:Type} (l:List α) (i:Nat) (x:α):List α:=l.take i++x::l.drop i
def remL {α:Type} (l:List α) (i:Nat):List α:=l.take i++l.drop (i+1)
structure Piece (w:World) (a:Option Addr) (m c:Nat) (cells:List Value):Prop where
 nil:a=none->m=0/\c=0/\cells= []
 get:∀ad,a=some ad->∀j u,cells[j]? =some u->w.cell? (ad.add j)=some u
theorem Z1 {P:Program} (w:World) {ops:Array Oper} {rest:List Oper} {o:Oper} {a:Act} {Q:Exit->Act->World->Prop} (hgd:o.guard=none) (s x:Operand) (t:TypeId)
 (ho:o.op= .call { callee:= .builtin .append,args:= #[s,x],argTypes:= #[t,t] })
 (base:Nat) (e:TypeId) (i:TypeInfo) (z:Value) (size bytes:Nat) (ht:P.underlying t=some (.slice e)) (hi:P.info? e=some i) (hz:i.zero=some z)
 (hsize:i.size=size) (hby:i.bytes=bytes) (hzs:z.cells.size=size) (hsz:0<size)
 (v:Value) (n:Nat) (xs:List Value) (hs:a.eval s=v) (hown:w.ownsRow base e size v n xs)
 (sa:Option Addr) (m c:Nat) (news:List Value) (hx:a.eval x= .slice sa m c) (hp:Piece w sa m c news) (hl:news.length=m*size) (h1:∀u ∈ news,u.oneCell'=true)
 (h63:n+m<=maxLen) (hbytes:(n+m)*bytes<=140737488355328) (hbase:base<=w.heap.size)
 (h:∀v' w',w'.ownsRow base e size v' (n+m) (xs++news)->w.grownBy w' v.ownBlock->wpList P ops Q rest (a.put o.dst v') w'):wpList P ops Q (o::rest) a w:=by
 cases sa with
 | none=>obtain ⟨rfl,rfl,rfl⟩:=hp.nil rfl;refine zar w hgd s x t ho base e i size ht hi v n xs hs hown hx ?_;exact h v w (by simpa using hown) ⟨rfl,rfl,rfl,zza _,fun _ _ _=>rfl⟩
 | some ad=>exact wpList_append_own w hgd s x t ho base e i z size bytes ht hi hz hsize hby hzs hsz v n xs hs hown ad m c news hx hl (hp.get ad rfl) h1 h63 hbytes hbase fun v' w' h2 h3 _=>h v' w' h2 h3
theorem Z9 (cs:List VC):∀u ∈ cs.flatMap vcells,u.oneCell'=true:=by intro u hu;obtain ⟨c,_,hc⟩:=List.mem_flatMap.1 hu;simp [vcells] at hc;rcases hc with rfl|rfl|rfl|rfl|rfl<;>rfl
theorem PV.append {l1 l2:List V} {c1 c2:List VC} {W:World} {B:Nat} (hl:c1.length=l1.length) (h1:∀i,i<l1.length->PV l1 c1 W B i) (h2:∀i,i<l2.length->PV l2 c2 W B i):∀i,i<(l1++l2).length->PV (l1++l2) (c1++c2) W B i:=by
 intro i _ hi;rw [zzb];by_cases e:i<l1.length
 .rw [List.getElem?_append_left (by omega),List.getElem_append_left e, <-zzb];exact h1 i e e
 .rw [zze] at hi;rw [List.getElem?_append_right (by omega),List.getElem_append_right (by omega),hl, <-zzb];exact h2 (i - l1.length) (by omega) (by omega)
theorem PV.take {l:List V} {cs:List VC} {W:World} {B:Nat} (h:∀i,i<l.length->PV l cs W B i) (k:Nat):∀i,i<(l.take k).length->PV (l.take k) (cs.take k) W B i:=by intro i _ hi;rw [zzd] at hi;rw [zzb,List.getElem?_take_of_lt (by omega),List.getElem_take, <-zzb];exact h i (by omega) (by omega)
theorem PV.drop {l:List V} {cs:List VC} {W:World} {B:Nat} (h:∀i,i<l.length->PV l cs W B i) (k:Nat):∀i,i<(l.drop k).length->PV (l.drop k) (cs.drop k) W B i:=by intro i _ hi;rw [zzf] at hi;rw [zzb,List.getElem?_drop,List.getElem_drop, <-zzb];exact h (k+i) (by omega) (by omega)
theorem PV.cons {l:List V} {cs:List VC} {W:World} {B:Nat} {x:V} {cx:VC} (hx:IsVal W B x cx) (h:∀i,i<l.length->PV l cs W B i):∀i,i<(x::l).length->PV (x::l) (cx::cs) W B i:=by
 intro i _ hi
 cases i with
 |zero=>exact hx
 |succ i=>exact h i (by simpa using hi) (by simpa using hi)
theorem zgz {cs:List VC} {k j:Nat} {u:Value} (h:((cs.take k).flatMap vcells)[j]? =some u):(cs.flatMap vcells)[j]? =some u:=by
 have e:cs.flatMap vcells=(cs.take k).flatMap vcells++(cs.drop k).flatMap vcells:=by rw [<-List.flatMap_append,List.take_append_drop]
 rw [e,List.getElem?_append_left (List.getElem?_eq_some_iff.1 h).1];exact h
theorem zoa {cs:List VC} {k j:Nat} {u:Value} (hk:k<=cs.length) (h:((cs.drop k).flatMap vcells)[j]? =some u):(cs.flatMap vcells)[k*5+j]? =some u:=by
 have e:cs.flatMap vcells=(cs.take k).flatMap vcells++(cs.drop k).flatMap vcells:=by rw [<-List.flatMap_append,List.take_append_drop]
 have hl:((cs.take k).flatMap vcells).length=k*5:=by rw [Zk vcells 5 (fun _=>rfl),zzd,Nat.min_eq_left hk]
 rw [e,List.getElem?_append_right (by omega),hl,Nat.add_sub_cancel_left];exact h
theorem IsVals.cells {w:World} {B:Nat} {l:List V} {a:Option Addr} {n c:Nat} (h:IsVals w B l a n c):
 ∃cs:List VC,cs.length=l.length/\(∀b off,a=some ⟨b,off,none⟩->0<n->b<B/\∀j u,(cs.flatMap vcells)[j]? =some u->w.cell? ⟨b,off+j,none⟩=some u)/\∀i,i<l.length->PV l cs w B i:=by
 obtain ⟨h1,h2,h3,h4,b,off,f,h5,h6⟩:=h;have hget:∀i (_:i<l.length),((List.range l.length).map f)[i]? =some (f i):=by intro i hi;simp [hi]
 refine ⟨(List.range l.length).map f,by simp,fun b' off' e hn=> ?_,fun i hi h=> ?_⟩
 .obtain ⟨e2,hb⟩:=h5 hn;rw [e] at e2;injection e2 with e2;injection e2 with e2 e3;subst e2 e3;refine ⟨hb,fun j u hj=> ?_⟩;have hjl:j<l.length*5:=by have:=(List.getElem?_eq_some_iff.1 hj).1;rw [Zk vcells 5 (fun _=>rfl)] at this;simpa using this
  have hi:j / 5<l.length:=by omega
  have hd:j=j / 5*5+j % 5:=by omega
  have hm:j % 5<5:=by omega
  rw [hd,Yx vcells 5 (fun _=>rfl) _ (j / 5) (j % 5) (by simpa using hi) hm] at hj;have he:((List.range l.length).map f)[j / 5]'(by simpa using hi)=f (j / 5):=by simp
  rw [he] at hj;obtain ⟨g1,g2⟩:=h6 (j / 5) hi;rw [hd, <-Nat.add_assoc];obtain ⟨m,hmm⟩:∃m,j % 5=m:=⟨_,rfl⟩;rw [hmm] at hj hm ⊢
  match m,hm with
  |0,_=>rw [<-hj];exact g1.c0
  |1,_=>rw [<-hj];exact g1.c1
  |2,_=>rw [<-hj];exact g1.c2
  |3,_=>rw [<-hj];exact g1.c3
  |4,_=>rw [<-hj];exact g1.c4
 .rw [zzb,hget i hi];exact (h6 i hi).2
def Neat2 (a:Option Addr) (c:Nat):Prop:=(a=none/\c=0)∨∃b off,a=some ⟨b,off,none⟩
theorem Qf {w:World} {B0 B1:Nat} {v:Value} {l:List V} {cs:List VC} (hown:w.ownsRow B1 29 5 v l.length (cs.flatMap vcells)) (hB:B0<=B1) (hl:cs.length=l.length) (hels:∀i,i<l.length->PV l cs (only (Free B0 v) w) w.heap.size i) (hfew:l.length<=1466015503701):
 ∃a n c,v= .slice a n c/\IsVals (only (fun b=>B0<=b) w) w.heap.size l a n c/\Neat2 a c:=by
 have hown2:w.ownsRow B0 29 5 v l.length (cs.flatMap vcells):=by
  refine ⟨hown.1, ?_⟩;rcases hown.2 with h|⟨g,cap,cur,h1,h2,h3⟩
  .exact .inl h
  .exact .inr ⟨g,cap,cur,h1,zzl hB h2,h3⟩
 have hv:∃a n c,v= .slice a n c/\Neat2 a c:=by
  rcases hown.2 with ⟨h,_⟩|⟨g,cap,cur,h1,_⟩
  .exact ⟨_,_,_,h, .inl ⟨rfl,rfl⟩⟩
  .exact ⟨_,_,_,h1, .inr ⟨g,0,rfl⟩⟩
 obtain ⟨a,n,c,rfl,hz⟩:=hv;have hrow:RowV w B0 (.slice a n c) l cs:=⟨hown2,hels⟩;have:=(RowV.val hrow (lo:=B0) hl (zza _) 4 (by omega) (by omega) hfew).lists;exact ⟨a,n,c,rfl,this.2.2.2.2.1,hz⟩
def ListPost (w:World) (B0:Nat) (l:List V) (e:Ending) (w':World):Prop:=
 (∃a n c,e= .returned (.slice a n c)/\IsVals (only (fun b=>B0<=b) w') w'.heap.size l a n c/\Neat2 a c)/\Below w.heap.size w w'
def ezero:EC:=⟨0,0,0,vzero,none,0,0⟩
def ecells (c:EC):List Value:= [.int .u8 c.k, .int .u32 c.src, .int .u32 c.seq, .int .u8 c.v.k, .int .i64 c.v.n, .string c.v.s, .slice c.v.la c.v.ll c.v.lc, .slice c.v.oa c.v.ol c.v.oc, .slice c.oa c.ol c.oc]
def PC (l:List Cm) (cs:List CC):World->Nat->Nat->Prop:=fun W B i=>∀h:i<l.length,IsComp W B l[i] (cs.getD i czero)
theorem PC.closed (l:List Cm) (cs:List CC):Closed (PC l cs):=fun _ _ _ _ _ hs hB h hi=>((h hi).sub hs).more hB
theorem PC.snoc {l:List Cm} {cs:List CC} (hl:cs.length=l.length) (x:Cm) (c:CC):(∀W B,IsComp W B x c->PC (l++ [x]) (cs++ [c]) W B l.length)/\∀W B i,i<l.length->PC l cs W B i->PC (l++ [x]) (cs++ [c]) W B i:=by
 constructor
 .intro W B h hi;simpa [List.getD_eq_getElem?_getD, <-hl] using h
 .intro W B i hi h hi2;have h:=h hi;have e:(cs++ [c]).getD i czero=cs.getD i czero:=by simp [List.getD_eq_getElem?_getD,List.getElem?_append_left (show i<cs.length by omega)]
  rw [List.getElem_append_left hi,e];exact h
abbrev RowC (w:World) (base:Nat) (u:Value) (l:List Cm) (cs:List CC):Prop:=Row 54 12 w base u l.length (cs.flatMap ccells) (PC l cs)
theorem RowC.comps {w:World} {base lo:Nat} {l:List Cm} {cs:List CC} {a:Option Addr} {n cap:Nat} (h:RowC w base (.slice a n cap) l cs) (hl:cs.length=l.length) (hlo:lo<=base) (hfew:l.length<=1466015503701):
 IsComps (only (fun b=>lo<=b) w) w.heap.size l a n cap:=by
 obtain ⟨h1,h2⟩:=Row.shows (PC.closed l cs) h hlo;have hown:=h.own;have hlt:=h.lt;rcases hown.2 with ⟨e,hn⟩|⟨g,cap',cur,e,hbg,hg,hnc,hcm,hcs,htake⟩
 .injection e with e1 e2 e3;subst e1 e2 e3;have:l= [] :=List.length_eq_zero_iff.1 hn;subst this;exact .nil _ _
 .injection e with e1 e2 e3;subst e1 e2 e3;refine ⟨rfl,hnc,by simpa [maxLen] using hcm,hfew,g,0,fun i=>cs.getD i czero,fun _=>⟨rfl,(hlt g rfl).2⟩,fun i hi=>⟨?_,h2 i hi hi⟩⟩;have hi':i<cs.length:=by omega
  have hc:∀t x,t<12->(ccells cs[i])[t]? =some x->(only (fun b=>lo<=b) w).cell? ⟨g,0+i*12+t,none⟩=some x:=fun t x ht hx=>by rw [Nat.zero_add];exact h1 g rfl (i*12+t) x ((Yx ccells 12 (fun _=>rfl) cs i t hi' ht).trans hx)
  have he:cs.getD i czero=cs[i] :=by simp [List.getD_eq_getElem?_getD,hi']
  simp only [he];exact ⟨hc 0 _ (by omega) rfl,hc 1 _ (by omega) rfl,hc 2 _ (by omega) rfl,hc 3 _ (by omega) rfl,hc 4 _ (by omega) rfl,hc 5 _ (by omega) rfl,⟨hc 6 _ (by omega) rfl,hc 7 _ (by omega) rfl,hc 8 _ (by omega) rfl,hc 9 _ (by omega) rfl,hc 10 _ (by omega) rfl⟩,hc 11 _ (by omega) rfl⟩
structure EB (w W:World) (rb eb:Nat) (r:List UInt8) (v:V) (l:List Cm) (c:EC):Prop where
 rdr:Rdr W rb r 0
 st:RStep w W rb
 res:BC W w.heap.size (ecells ezero)
 box:BC W eb (ecells c)
 val:IsVal (only (fun b=>eb+1<=b) W) W.heap.size v c.v
 ops:IsComps (only (fun b=>eb+1<=b) W) W.heap.size l c.oa c.ol c.oc
 lo:w.heap.size+1<=eb
 lt:rb<w.heap.size
theorem zm6 (w:World) (B0:Nat) (hB0:B0<=w.heap.size) (o:List (ByteArray×V)) (b off ol oc:Nat) (ho:IsFields (only (fun k=>B0<=k) w) w.heap.size o (some ⟨b,off,none⟩) ol oc) (key:ByteArray) (hks:key.size<=140737488355328) (x:V) (cx:VC) (hx:IsVal (only (fun k=>B0<=k) w) w.heap.size x cx) (hpos:0<ol) (hfew:ol<=1000000) (his:fieldIs o key=false) (hke:fieldK o key=oc):
 uP 56 #[.slice (some ⟨b,off,none⟩) ol oc, .string key, .agg (uV cx)] w (WithPost w B0 (withF o key x)):=by
 delta uV uP;obtain ⟨i0,hi0,hz0,hz1,hz2⟩:=info_parts Yn;have hlen:=ho.len;have hcap:=ho.cap;have hmax:=ho.max;obtain ⟨cs,b2,off2,hcl,hab,hcell,hpf⟩:=ho.cells;have HCELL:Hid (∀W,uB w W->∀j u,(cs.flatMap fcells)[j]? =some u->W.cell? ⟨b,off+j,none⟩=some u):=by intro W hW j u hj;have hjl:=(List.getElem?_eq_some_iff.1 hj).1;rw [Zk fcells 6 (fun _=>rfl),hcl, <-hlen] at hjl;obtain ⟨e,hb2⟩:=hab (by omega);injection e with e;injection e with e1 e2;subst e1 e2;exact Zb hW (Z7 (hcell j u hj)).2 hb2
 obtain ⟨k,hk⟩:∃k,fieldK o key=k:=⟨_,rfl⟩;rw [hk] at hke;have hkl:k<=ol:=by rw [<-hk,hlen];exact Yb o key
 have hkl2:=hkl;have hkc:k<=cs.length:=by rw [hcl, <-hlen];exact hkl
 have hkc2:k<=cs.length:=by rw [hcl, <-hlen];omega
 have HF:Hid (∀W,uB w W->uP 103 #[.agg (uU 0 0 { data:= #[] } none 0 0 (some ⟨b,off,none⟩) ol oc), .string key] W fun e w'=>e= .returned (.tuple #[.int .i64 (k:Int), .bool false])/\uB W w'):=by intro W hW;have hof:IsFields W W.heap.size o (some ⟨b,off,none⟩) ol oc:=(IsFields.keep (IsFields.sub (Zl (fun k=>B0<=k) w _) ho) hW).more hW.size;have:=Yu W o key 0 0 { data:= #[] } none 0 0 (some ⟨b,off,none⟩) ol oc hof;rw [hk,his] at this;exact this
 have hwf:withF o key x=o.take k++(key,x)::o.drop (k):=by rw [withF,his,hk];rfl
 rw [hwf];have HBX:=qh (BC.start w (uV cx) 29);have HAL:=qh ((zzc _ _).alloc (zza _) (.cells (uV cx) 29):uB w _);have HX:=qh hx;have HPF:=qh hpf;have HCL:=qh hcl;have HLEN:=qh hlen;obtain ⟨R,hR⟩:∃R,WithPost w B0 (o.take k++(key,x)::o.drop (k))=R:=⟨_,rfl⟩;rw [hR];have HR:=qh hR;obtain ⟨XA,hXA⟩:∃XA,(cs.take k).flatMap fcells=XA:=⟨_,rfl⟩;obtain ⟨XB,hXB⟩:∃XB,(cs.drop (k)).flatMap fcells=XB:=⟨_,rfl⟩;have hla:XA.length=k*6:=by rw [<-hXA,Zk fcells 6 (fun _=>rfl),zzd,Nat.min_eq_left hkc]
 have hlb:XB.length=(ol - (k))*6:=by rw [<-hXB,Zk fcells 6 (fun _=>rfl),zzf,hcl, <-hlen]
 have HA1:Hid (∀u ∈ XA,u.oneCell'=true):=by unfold Hid;rw [<-hXA];exact Y6 _
 have HB1:Hid (∀u ∈ XB,u.oneCell'=true):=by unfold Hid;rw [<-hXB];exact Y6 _
 have HCA:Hid (∀W,uB w W->∀j u,XA[j]? =some u->W.cell? ((⟨b,off,none⟩:Addr).add j)=some u):=by intro W hW j u hj;rw [<-hXA] at hj;rw [Zz];exact HCELL.out W hW j u (Kh hj)
 have HCB:Hid (∀W,uB w W->∀j u,XB[j]? =some u->W.cell? ((⟨b,off+(k)*6,none⟩:Addr).add j)=some u):=by intro W hW j u hj;rw [<-hXB] at hj;rw [Zz,Nat.add_assoc];exact HCELL.out W hW _ u (Ko hkc2 hj)
 have HXA:=qh hXA;have HXB:=qh hXB;clear ho hab hcell hk his hx hpf hcl hlen hwf hR hXA hXB hkc hkc2;have hol:ol=k:=by omega
 have hoc:oc=k:=by omega
 cases hol;cases hoc
 go_enter Tryz.func56,Tryz.ntmps56
 go_wp2_with fail;refine (HF.out _ HAL.out).mono ?_
 rintro e w1 ⟨rfl,hb1⟩;have bl1:=HAL.out.trans (hb1.mono (by simp));have HBX1:=qh (HBX.out.keep hb1 (by simp));have zs1:w.heap.size<w1.heap.size:=HBX1.out.lt;have HBL1:=qh bl1;have ho1:w1.ownsRow (w.heap.size+1) 62 6 (.slice none 0 0) 0 [] :=⟨rfl, .inl ⟨rfl,rfl⟩⟩;clear hb1 bl1;go_wp2_with (first
  |(at_builtin;refine wpList_append_own _ rfl (.tmp 17) (.tmp 20) 27 (by rfl) (w.heap.size+1) 62 i0 _ 6 96 Tryz.underlying27 hi0 hz0 hz1 hz2 rfl (by omega) (.slice none 0 0) 0 [] (by rfl) ho1 ⟨b,off,none⟩ ol (ol) XA (by rfl) hla (HCA.out _ HBL1.out) HA1.out (by unfold maxLen;omega) (by omega) (by omega) ?_;intro v1 w2 hown1 hgrow1 _;have b12:Below (w.heap.size+1) w1 w2:=Zi hgrow1 (fun ol hk=>by simp [Value.ownBlock] at hk) (by omega);have BX2:=HBX1.out.keep b12 (by omega);obtain ⟨x0,x1,x2,x3,x4⟩:=row5 BX2.at_;have zs2:=BX2.lt;have HBL2:=qh (HBL1.out.trans (b12.mono (by omega)));have HO1:=qh hown1;have hrl:∀g,v1.ownBlock=some g->w.heap.size+1<=g/\g<w2.heap.size:=hown1.lt;have ho2:=hown1.alloc (.cells #[.string key, .int .u8 cx.k, .int .i64 cx.n, .string cx.s, .slice cx.la cx.ll cx.lc, .slice cx.oa cx.ol cx.oc] 62);have hnw:∀j u,(fcells (key,cx))[j]? =some u->(w2.alloc (.cells #[.string key, .int .u8 cx.k, .int .i64 cx.n, .string cx.s, .slice cx.la cx.ll cx.lc, .slice cx.oa cx.ol cx.oc] 62)).cell? ((⟨w2.heap.size,0,none⟩:Addr).add j)=some u:=World.news_of_block (t:=62) (fr:=(0,0)) (heap_alloc_new w2 (.cells #[.string key, .int .u8 cx.k, .int .i64 cx.n, .string cx.s, .slice cx.la cx.ll cx.lc, .slice cx.oa cx.ol cx.oc] 62));have HNW:=qh hnw;clear hnw hown1 hgrow1 BX2 b12)
  |(at_builtin;refine wpList_append_own _ rfl (.tmp 22) (.tmp 26) 27 (by rfl) (w.heap.size+1) 62 i0 _ 6 96 Tryz.underlying27 hi0 hz0 hz1 hz2 rfl (by omega) v1 (0+ol) ([] ++XA) (by rfl) ho2 ⟨w2.heap.size,0,none⟩ 1 1 (fcells (key,cx)) (by rfl) (by rfl) HNW.out (Xz key cx) (by unfold maxLen;omega) (by omega) (by simp;omega) ?_;intro v2 w4 hown2 hgrow2 _;have b24:Below (w.heap.size+1) w2 w4:=(((zzc w2.heap.size w2).alloc (zza _) (.cells #[.string key, .int .u8 cx.k, .int .i64 cx.n, .string cx.s, .slice cx.la cx.ll cx.lc, .slice cx.oa cx.ol cx.oc] 62)).mono (by omega)).trans (Zi hgrow2 (fun ol hk=>(hrl ol hk).1) (by simp;omega));have HBL4:=qh (HBL2.out.trans (b24.mono (by omega)));have zs4:w.heap.size<w4.heap.size:=zzj zs2 b24.size;have hrl2:∀g,v2.ownBlock=some g->w.heap.size+1<=g/\g<w4.heap.size:=hown2.lt;have HO2:=qh hown2;clear hgrow2 b24 hown2)
  |(at_builtin;refine wpList_append_own _ rfl (.tmp 31) (.tmp 34) 27 (by rfl) (w.heap.size+1) 62 i0 _ 6 96 Tryz.underlying27 hi0 hz0 hz1 hz2 rfl (by omega) v2 (0+ol+1) ([] ++XA++fcells (key,cx)) (by rfl) HO2.out ⟨b,off,none⟩ 0 0 XB (by rfl) (by omega) (fun j u hj=>by rw [List.getElem?_eq_none (by omega)] at hj;cases hj) HB1.out (by unfold maxLen;omega) (by omega) (by omega) ?_;intro v3 w5 hown3 hgrow3 _;have b45:Below (w.heap.size+1) w4 w5:=Zi hgrow3 (fun ol hk=>(hrl2 ol hk).1) (by omega);have HBL5:=qh (HBL4.out.trans (b45.mono (by omega)));have HO3:=qh hown3;clear hgrow3 b45 hown3))
 rw [<-HR.out];have hcat: [] ++XA++fcells (key,cx)++XB=(cs.take ol++(key,cx)::cs.drop (ol)).flatMap fcells:=by rw [<-HXA.out, <-HXB.out];simp
 have hll:(o.take ol++(key,x)::o.drop (ol)).length=0+ol+1+0:=by rw [zze,List.length_cons,zzf,zzd, <-HLEN.out,Nat.min_eq_left hkl];omega
 have hown:=HO3.out;rw [hcat, <-hll] at hown;have hlt3:=hown.lt;have hsh:Shows (only (fun ol=>B0<=ol) w) (only (Free B0 v3) w5) w.heap.size:=Zc fun q hq hl=>⟨⟨hq,fun e=>by have:=(hlt3 q e.symm).1;omega⟩,HBL5.out.block q hl⟩;obtain ⟨a,n,c,hv,hf,hz⟩:=Q9 (B0:=B0) (B1:=w.heap.size+1) hown (by omega) (by rw [zze,zze,List.length_cons,List.length_cons,zzf,zzf,zzd,zzd,HCL.out])
  (PF.with_ HCL.out (fun i hi=>PF.closed o cs _ _ _ _ i hsh HBL5.out.size (HPF.out i hi)) ((HX.out.sub hsh).more HBL5.out.size) hks (by rw [<-HLEN.out];exact hkl) (by rw [<-HLEN.out];omega)) (by rw [hll];omega)
 exact ⟨⟨a,n,c,by rw [hv],hf,hz⟩,HBL5.out⟩
def Neat (oa:Option Addr) (ol oc:Nat):Prop:=(oa=none/\ol=0/\oc=0)∨0<ol
theorem zcg (o:List (ByteArray×V)) (key:ByteArray) (x:V):0<(withF o key x).length/\(withF o key x).length<=o.length+1:=by
 have:=Yb o key;unfold withF;rw [zze,List.length_cons,zzf,zzd,Nat.min_eq_left this];refine ⟨by omega, ?_⟩;split
 .rename_i h;have:=Yf h;omega
 .omega
def WithPost2 (w:World) (B0:Nat) (l:List (ByteArray×V)) (e:Ending) (w':World):Prop:=
 (∃a n c,e= .returned (.slice a n c)/\IsFields (only (fun b=>B0<=b) w') w'.heap.size l a n c/\Neat a n c)/\Below w.heap.size w w'
theorem za3 (w:World) (B0:Nat) (hB0:B0<=w.heap.size) (o:List (ByteArray×V)) (oa:Option Addr) (ol oc:Nat) (ho:IsFields (only (fun k=>B0<=k) w) w.heap.size o oa ol oc) (hne:Neat oa ol oc) (key:ByteArray) (hks:key.size<=140737488355328) (x:V) (xk xn:Int) (xs:ByteArray) (xa:Option Addr) (xl xc:Nat) (ya:Option Addr) (yl yc:Nat) (hx:IsVal (only (fun k=>B0<=k) w) w.heap.size x ⟨xk,xn,xs,xa,xl,xc,ya,yl,yc⟩) (hfew:ol<=1000000):
 uP 56 #[.slice oa ol oc, .string key, .agg (uU xk xn xs xa xl xc ya yl yc)] w (WithPost2 w B0 (withF o key x)):=by
 delta uU uP;have go:uP 56 #[.slice oa ol oc, .string key, .agg (uU xk xn xs xa xl xc ya yl yc)] w (WithPost w B0 (withF o key x)):=by
  rcases hne with ⟨rfl,rfl,rfl⟩|hp
  .have:o= [] :=List.eq_nil_of_length_eq_zero ho.len.symm;subst this;exact zh0 w B0 hB0 key hks x ⟨xk,xn,xs,xa,xl,xc,ya,yl,yc⟩ hx
  .obtain ⟨cs,b,off,_,hab,_,_⟩:=ho.cells;obtain ⟨rfl,hb⟩:=hab hp;have hlen:=ho.len;have hcap:=ho.cap;have hkl:=Yb o key
   cases his:fieldIs o key with
   | false=>
     by_cases hk:fieldK o key=oc
     .exact zm6 w B0 hB0 o b off ol oc ho key hks x ⟨xk,xn,xs,xa,xl,xc,ya,yl,yc⟩ hx hp hfew his hk
     .exact zim w B0 hB0 o b off ol oc ho key hks x ⟨xk,xn,xs,xa,xl,xc,ya,yl,yc⟩ hx hp hfew his (by omega)
   | true=>
     have hlt:=Yf his;by_cases hk:fieldK o key+1=oc
     .exact zir w B0 hB0 o b off ol oc ho key hks x ⟨xk,xn,xs,xa,xl,xc,ya,yl,yc⟩ hx hp hfew his hk
     .exact zg8 w B0 hB0 o b off ol oc ho key hks x ⟨xk,xn,xs,xa,xl,xc,ya,yl,yc⟩ hx hp hfew his (by omega)
 refine go.mono ?_;rintro e w' ⟨⟨a,n,c,rfl,h1,h2⟩,h3⟩;exact ⟨⟨a,n,c,rfl,h1, .inr (by rw [h1.len];exact (zcg o key x).1)⟩,h3⟩
def keyP (l:List Tk) (u:Nat):ByteArray:=match l[u]? with
 |some t=>plainS t.s
 |none=> .empty
def bL (f:List Tk->V×Nat) (l:List Tk):Nat->List V×Nat
 |0=>([],1)
 |i+1=>((bL f l i).1++ [(f (l.drop (bL f l i).2)).1],(bL f l i).2+(f (l.drop (bL f l i).2)).2)
def bO (f:List Tk->V×Nat) (l:List Tk):Nat->List (ByteArray×V)×Nat
 |0=>([],1)
 |i+1=>(withF (bO f l i).1 (keyP l (bO f l i).2) (f (l.drop (bO f l i).2)).1,(bO f l i).2+(f (l.drop (bO f l i).2)).2)
def leafP (t:Tk):V:=if t.k % 6=1 then .mk 1 (t.n % 2) .empty [] [] else if t.k % 6=2 then .mk 2 t.n .empty [] [] else if t.k % 6=3 then .mk 3 0 (plainS t.s) [] []
 else if t.k % 6=4 then .mk 4 0 .empty [] [] else if t.k % 6=5 then .mk 5 0 .empty [] [] else V.none
def oneP:Nat->List Tk->V×Nat
 |_, [] =>(V.none,0)
 |0,t::_=>(leafP t,1)
 | d+1,t::r=>if t.k % 6=4 then (.mk 4 0 .empty (bL (oneP d) (t::r) (t.m % 4).toNat).1 [],(bL (oneP d) (t::r) (t.m % 4).toNat).2)
   else if t.k % 6=5 then (.mk 5 0 .empty [] (bO (oneP d) (t::r) (t.m % 4).toNat).1,(bO (oneP d) (t::r) (t.m % 4).toNat).2)
   else (leafP t,1)
theorem zea {f:List Tk->V×Nat} (hf:∀l,(f l).2<=l.length) {l:List Tk} (hl:1<=l.length) (j:Nat):1<=(bL f l j).2/\(bL f l j).2<=l.length/\(bL f l j).1.length=j:=by
 induction j with
 |zero=>exact ⟨zza _,hl,rfl⟩
 | succ j ih=>have:=hf (l.drop (bL f l j).2);rw [zzf] at this;rw [bL];refine ⟨by dsimp only;omega,by dsimp only;omega,by dsimp only;rw [zze,List.length_singleton];omega⟩
theorem zfa {f:List Tk->V×Nat} (hf:∀l,(f l).2<=l.length) {l:List Tk} (hl:1<=l.length) (j:Nat):1<=(bO f l j).2/\(bO f l j).2<=l.length/\(bO f l j).1.length<=j:=by
 induction j with
 |zero=>exact ⟨zza _,hl,zza _⟩
 | succ j ih=>have:=hf (l.drop (bO f l j).2);rw [zzf] at this;rw [bO];refine ⟨by dsimp only;omega,by dsimp only;omega, ?_⟩;have:=(zcg (bO f l j).1 (keyP l (bO f l j).2) (f (l.drop (bO f l j).2)).1).2;dsimp only;omega
theorem Qr (d:Nat):∀l,(oneP d l).2<=l.length:=by
 induction d with
 | zero=>
   intro l
   cases l with
   |nil=>simp [oneP]
   |cons t r=>simp [oneP]
 | succ d ih=>
   intro l
   cases l with
   |nil=>simp [oneP]
   | cons t r=>
     rw [oneP];split
     .exact (zea ih (by simp) _).2.1
     .split
      .exact (zfa ih (by simp) _).2.1
      .simp
theorem Xl (s:ByteArray):(plainS s).size<=40:=by show (plainL s.data.toList).toArray.size<=40;simp [plainL];omega
theorem zb6 (l:List Tk) (u:Nat):(keyP l u).size<=40:=by
 unfold keyP;split
 .exact Xl _
 .decide
theorem ziy (w:World) (s key:ByteArray) (c:VC) (kb:Nat) (hk:w.cell? ⟨kb,0,none⟩=some (.string key)):
 uP 152 #[.agg #[.string s, .int .u8 c.k, .int .i64 c.n, .string c.s, .slice c.la c.ll c.lc, .slice c.oa c.ol c.oc], .pointer (some ⟨kb,0,none⟩)] w fun e w'=>e= .returned (.bool (!Op.bytesLess s.toList key.toList))/\uB w w':=by
 delta uB uP;have hkb:kb<w.heap.size:=zzi w _ hk;go_enter Tryz.func152,Tryz.ntmps152
 go_wp2_with fail;go_returns
 exact ⟨rfl,(zzc _ _).alloc (zza _) _⟩
def fieldAt (o:List (ByteArray×V)) (key:ByteArray):Int:=if fieldK o key<o.length then (fieldK o key:Int) else -1
theorem zjy (w:World) (o:List (ByteArray×V)) (key:ByteArray) (a:Option Addr) (n c:Nat) (h:IsFields w w.heap.size o a n c) (kb:Nat) (hk:w.cell? ⟨kb,0,none⟩=some (.string key)):
 uP 151 #[.slice a n c, .func (.func 152) #[] #[.pointer (some ⟨kb,0,none⟩)]] w fun e w'=>e= .returned (.int .i64 (fieldAt o key))/\uB w w':=by
 delta uB uP;have hkb:kb<w.heap.size:=zzi w _ hk;have k1:=h.max;have k2:=h.few;have HLn:=qh h.len;have HI:=qh h;have HK:=qh hk;have eg:=enters_of Tryz.func152 (by kernel_rfl) rfl;clear h hk;obtain ⟨R,hR⟩:∃R,fieldAt o key=R:=⟨_,rfl⟩;rw [hR];have HR:=qh hR;clear hR;go_enter Tryz.func151,Tryz.ntmps151
 go_wp2_with fail
 go_loopw [5,8] (fun _ i wr=>∃j:Nat,j<=n/\i= .int .i64 j/\Hid (∀i (hi:i<o.length),i<j->Op.bytesLess (o[i]'hi).1.toList key.toList=true)/\uB w wr) (fun _ i _=>n - (intOf i).toNat)
 case atStart=>exact ⟨0,Nat.zero_le _,rfl,qh (fun i hi hj=>by omega),zzc _ _⟩
 case round=>
  obtain ⟨j,hj,rfl,hall,hbl⟩:=hrel;have HBL:=qh hbl;by_cases hlt:j<n
  .obtain ⟨b,o',f,hp,rfl,hbB,hkey,hks,hv,_⟩:=(HI.out.keep hbl).get hlt;have c0:=hv.c0;have c1:=hv.c1;have c2:=hv.c2;have c3:=hv.c3;have c4:=hv.c4;have hbw:b<wr.heap.size:=zzi wr _ hkey;obtain ⟨nb,hnb⟩:∃nb,(!Op.bytesLess (o[j]'hp).1.toList key.toList)=nb:=⟨_,rfl⟩;have HC:Hid (uP 152 #[.agg #[.string (o[j]'hp).1, .int .u8 f.k, .int .i64 f.n, .string f.s, .slice f.la f.ll f.lc, .slice f.oa f.ol f.oc], .pointer (some ⟨kb,0,none⟩)] wr fun e w'=>e= .returned (.bool nb)/\uB wr w'):=by rw [<-hnb];exact ziy wr _ key f kb (Zb hbl HK.out hkb)
   cases nb with
   | false=>
     have hlb:Op.bytesLess (o[j]'hp).1.toList key.toList=true:=by simpa using hnb
     have HLB:=qh hlb;clear hbl hlb hv hnb;go_wp2_with fail;refine HC.out.mono ?_;rintro e w' ⟨rfl,hb'⟩;go_wp2_with fail;go_roundw
     case rel=>exact ⟨j+1,by omega,by go_num,qh (fun i hi hij=>by
      by_cases e:i=j
      .subst e;exact HLB.out
      .exact hall.out i hi (by omega)),HBL.out.on hb' HBL.out.size⟩
     case measure=>simp [intOf];omega
   | true=>
     have hlb:Op.bytesLess (o[j]'hp).1.toList key.toList=false:=by simpa using hnb
     have hf:fieldK o key=j:=Q6 o key j hall.out (by omega) (.inr ⟨hp,hlb⟩);have HF:=qh hf;clear hbl hlb hv hf hnb;go_wp2_with fail;refine HC.out.mono ?_;rintro e w' ⟨rfl,hb'⟩;go_wp2_with fail;go_ret
     exact ⟨by rw [<-HR.out,fieldAt,HF.out,if_pos hp];rfl,HBL.out.on hb' HBL.out.size⟩
  .have hj2:j=n:=by omega
   have hf:fieldK o key=n:=Q6 o key n (fun i hi hin=>hall.out i hi (by omega)) (by rw [HLn.out];exact zza _) (.inl HLn.out);have HF:=qh hf;clear hbl hf hj2;go_wp2_with fail;go_ret
   exact ⟨by rw [<-HR.out,fieldAt,HF.out,if_neg (by have:=HLn.out;omega)];rfl,HBL.out⟩
theorem zp4 (o:List (ByteArray×V)) (key:ByteArray):fieldK o key<=o.length:=by unfold fieldK;exact (List.takeWhile_sublist _).length_le
theorem Q3 (w:World) (o:List (ByteArray×V)) (key:ByteArray) (c:VC) (h:IsFields w w.heap.size o c.oa c.ol c.oc):
 uP 113 #[.agg (uV c), .string key] w fun e w'=>e= .returned (.tuple #[.int .i64 (fieldK o key:Int), .bool (fieldIs o key)])/\uB w w':=by
 delta uV uB uP;have k1:=h.max;have k2:=h.few;have HL:=qh h.len;have HI:=qh h;have hal:uB w ((w.alloc (.cells (uV c) 29)).alloc (.cells #[.string key] 9)):=((zzc _ _).alloc (zza _) _).alloc (by simp) _;have hbc:=(BC.start w (uV c) 29).keep ((zzc _ _).alloc (zza _) (.cells #[.string key] 9)) (by simp);have hbk:=BC.start (w.alloc (.cells (uV c) 29)) #[.string key] 9;rw [zzk] at hbk;obtain ⟨w1,hw1⟩:∃w1,(w.alloc (.cells (uV c) 29)).alloc (.cells #[.string key] 9)=w1:=⟨_,rfl⟩;rw [hw1] at hal hbc hbk;have HW1:=qh hw1;obtain ⟨k,hk⟩:∃k,fieldK o key=k:=⟨_,rfl⟩;obtain ⟨is,his⟩:∃is,fieldIs o key=is:=⟨_,rfl⟩;have hC:=zjy w1 o key c.oa c.ol c.oc ((HI.out.keep hal).more hal.size) (w.heap.size+1) (hbk.at_ 0 _ rfl);rw [fieldAt,hk] at hC;rw [hk,his];have HC:=qh hC;have HK:=qh hk;have HIS:=qh his;have hkl:=zp4 o key;rw [hk, <-HL.out] at hkl;have b0:=hbc.at_ 4 _ rfl;have b1:=hbk.at_ 0 _ rfl;have HAL:=qh hal;have HBC:=qh hbc;have HBK:=qh hbk;clear hw1 hC hk his hal hbc hbk h;go_enter Tryz.func113,Tryz.ntmps113
 go_wp2_with fail;rw [HW1.out]
 refine HC.out.mono ?_;rintro e w' ⟨rfl,hb'⟩;have D:=HBC.out.keep hb' HBC.out.lt;have D2:=HBK.out.keep hb' HBK.out.lt;have q4:=D.at_ 4 _ rfl;have q0:=D2.at_ 0 _ rfl;have z1:=D.lt;have z2:=D2.lt;have HB':=qh (HAL.out.trans (hb'.mono HAL.out.size));clear D D2 b0 b1;by_cases hlt:k<o.length
 .rw [if_pos hlt];obtain ⟨b,o',f,hp,hoa,hbB,hkey,hks,hv,_⟩:=(HI.out.keep HB'.out).get (k:=k) (by have:=HL.out;omega);rw [hoa] at q4;have hbw:b<w'.heap.size:=zzi w' _ hkey;obtain ⟨eb,heb⟩:∃eb,((o[k]'hp).1.toList==key.toList)=eb:=⟨_,rfl⟩;have hi:is=eb:=by rw [<-HIS.out,fieldIs,HK.out,zzg hp];exact heb
  have HII:=qh hi;have hlt2:k<c.ol:=by have:=HL.out;omega
  clear hi hv;go_wp2_with fail
  go_quiet (fail)
  go_wp2_with fail;go_returns
  exact ⟨by rw [HII.out];rfl,Ye HB'.out _⟩
 .rw [if_neg hlt];have hkn:k=c.ol:=by have:=HL.out;omega
  have hi:is=false:=by rw [<-HIS.out,fieldIs,HK.out,List.getElem?_eq_none (by omega)]
  have HKN:=qh hkn;have HII:=qh hi;clear hkn hi;go_wp2_with fail;go_returns;exact ⟨by rw [HKN.out,HII.out];rfl,HB'.out⟩
theorem zcj (cl:List VC):∀i,(cl.flatMap vcells).take (i*5)=(cl.take i).flatMap vcells:=by
 induction cl with
 |nil=>intro i;simp
 | cons c r ih=>
   intro i
   cases i with
   |zero=>simp
   | succ i=>rw [List.flatMap_cons,List.take_succ_cons,List.flatMap_cons, <-ih i,List.take_append,List.take_of_length_le (by simp [vcells];omega),show (i+1)*5 - (vcells c).length=i*5 by simp [vcells];omega]
theorem za7 (cl:List VC):∀i,(cl.flatMap vcells).drop (i*5)=(cl.drop i).flatMap vcells:=by
 induction cl with
 |nil=>intro i;simp
 | cons c r ih=>
   intro i
   cases i with
   |zero=>simp
   | succ i=>rw [List.flatMap_cons,List.drop_succ_cons, <-ih i,List.drop_append,List.drop_eq_nil_of_le (by simp [vcells];omega),List.nil_append,show (i+1)*5 - (vcells c).length=i*5 by simp [vcells];omega]
structure VRow (w:World) (base:Nat) (u:Value) (l:List V) (cl:List VC):Prop where
 len:cl.length=l.length
 own:w.ownsRow base 29 5 u l.length (cl.flatMap vcells)
 els:∀i (h:i<l.length) (h':i<cl.length),IsVal (only (fun k=>base<=k/\u.ownBlock≠some k) w) w.heap.size l[i] cl[i]
theorem VRow.of {w:World} {base:Nat} {l:List V} {d:VC} {x:V} (h:Whole w base x d) (hx:x.ls=l):∃cl,VRow w base (.slice d.la d.ll d.lc) l cl:=by obtain ⟨h1,h2,cl,co,S,W0,h3⟩:=h;subst hx;refine ⟨cl,h3.lenL,h3.rowL,fun i hi hi'=> ?_⟩;obtain ⟨T,t1,_,t3⟩:=h3.elsL i hi hi' (by omega);refine t3.isVal fun k hk=> ?_;have h0:=h3.mono 0 i (Nat.zero_le _) (by omega);have:=t1 k hk;exact ⟨by have:=h3.s0;omega,fun e=>by have:=h3.loL k e;omega⟩
theorem IsVal.rowed {w w':World} {base:Nat} {u u':Value} {x:V} {c:VC} (h:IsVal (only (fun k=>base<=k/\u.ownBlock≠some k) w) w.heap.size x c) (hg:w.grownBy w' u.ownBlock) (hu:u'.ownBlock=u.ownBlock∨u'.ownBlock=some w.heap.size):
 IsVal (only (fun k=>base<=k/\u'.ownBlock≠some k) w') w'.heap.size x c:=
 (h.sub (Zc fun k hk hl=>⟨⟨hk.1,fun e=>by
  rcases hu with hu|hu
  .exact hk.2 (hu ▸ e)
  .rw [hu] at e;injection e with e;omega⟩,hg.block k hl (fun e=>hk.2 e.symm)⟩)).more hg.size
theorem VRow.ins {w w':World} {base i:Nat} {u u':Value} {l:List V} {cl:List VC} {x:V} {cx:VC} (h:VRow w base u l cl) (hi:i<=l.length) (hx:IsVal (only (fun k=>base<=k/\u.ownBlock≠some k) w) w.heap.size x cx)
 (ho:w'.ownsRow base 29 5 u' (l.length+1) ((cl.flatMap vcells).take (i*5)++vcells cx++(cl.flatMap vcells).drop (i*5))) (hg:w.grownBy w' u.ownBlock) (hu:u'.ownBlock=u.ownBlock∨u'.ownBlock=some w.heap.size):
 VRow w' base u' (insL l i x) (cl.take i++cx::cl.drop i):=by
 have hl:=h.len;refine ⟨by simp [insL,hl], ?_,fun k hk hk'=> ?_⟩
 .rw [zcj,za7] at ho;have e:(insL l i x).length=l.length+1:=by simp [insL];omega
  rw [e,List.flatMap_append,List.flatMap_cons, <-List.append_assoc];exact ho
 .simp only [insL] at hk ⊢;by_cases h1:k<i
  .rw [List.getElem_append_left (by rw [zzd];omega),List.getElem_append_left (by rw [zzd];omega),List.getElem_take,List.getElem_take];exact (h.els k (by omega) (by omega)).rowed hg hu
  .rw [List.getElem_append_right (by rw [zzd];omega),List.getElem_append_right (by rw [zzd];omega)];have e1:k - (l.take i).length=k - i:=by rw [zzd];omega
   have e2:k - (cl.take i).length=k - i:=by rw [zzd];omega
   simp only [e1,e2];rw [zze,List.length_cons,zzd,zzf] at hk;by_cases h2:k - i=0
   .rw [List.getElem_cons,List.getElem_cons,dif_pos h2,dif_pos h2];exact hx.rowed hg hu
   .rw [List.getElem_cons,List.getElem_cons,dif_neg h2,dif_neg h2,List.getElem_drop,List.getElem_drop];exact (h.els (i+(k - i - 1)) (by omega) (by omega)).rowed hg hu
theorem VRow.rem {w w':World} {base i:Nat} {u u':Value} {l:List V} {cl:List VC} (h:VRow w base u l cl) (hi:i<l.length)
 (ho:w'.ownsRow base 29 5 u' (l.length - 1) ((cl.flatMap vcells).take (i*5)++(cl.flatMap vcells).drop ((i+1)*5))) (hg:w.grownBy w' u.ownBlock) (hu:u'.ownBlock=u.ownBlock∨u'.ownBlock=some w.heap.size):
 VRow w' base u' (remL l i) (cl.take i++cl.drop (i+1)):=by
 have hl:=h.len;refine ⟨by simp [remL,hl], ?_,fun k hk hk'=> ?_⟩
 .rw [zcj,za7] at ho;have e:(remL l i).length=l.length - 1:=by simp [remL];omega
  rw [e,List.flatMap_append];exact ho
 .simp only [remL] at hk ⊢;rw [zze,zzd,zzf] at hk;by_cases h1:k<i
  .rw [List.getElem_append_left (by rw [zzd];omega),List.getElem_append_left (by rw [zzd];omega),List.getElem_take,List.getElem_take];exact (h.els k (by omega) (by omega)).rowed hg hu
  .rw [List.getElem_append_right (by rw [zzd];omega),List.getElem_append_right (by rw [zzd];omega)];have e1:k - (l.take i).length=k - i:=by rw [zzd];omega
   have e2:k - (cl.take i).length=k - i:=by rw [zzd];omega
   simp only [e1,e2,List.getElem_drop];exact (h.els (i+1+(k - i)) (by omega) (by omega)).rowed hg hu
theorem zk2 {cl:List VC} {i:Nat} (hi:i<cl.length) {j:Nat} {v:Value} (h:(vcells cl[i])[j]? =some v):(cl.flatMap vcells)[i*5+j]? =some v:=by rw [<-List.getElem?_drop,za7,List.drop_eq_getElem_cons hi,List.flatMap_cons,List.getElem?_append_left (List.getElem?_eq_some_iff.1 h).1];exact h
theorem VRow.at_ {w:World} {base i:Nat} {u:Value} {l:List V} {cl:List VC} (h:VRow w base u l cl) (hi:i<l.length) (hi':i<cl.length):
 ∃g cap,u= .slice (some ⟨g,0,none⟩) l.length cap/\base<=g/\g<w.heap.size/\l.length<=cap/\cap<=maxLen/\ValAt w g (i*5) cl[i] /\∀q,w.frozen? ⟨g,q,none⟩=false:=by
 rcases h.own.2 with ⟨rfl,h0⟩|⟨g,cap,cur,rfl,hbg,hg,hnc,hcm,hcs,htk⟩
 .omega
 .have hc:∀j v,(vcells cl[i])[j]? =some v->w.cell? ⟨g,i*5+j,none⟩=some v:=fun j v hj=>by have:=h.own.cells (g:=g) rfl (i*5+j) v (zk2 hi' hj);rw [Addr.add_lit,Nat.zero_add] at this;exact this
  refine ⟨g,cap,rfl,hbg,(Array.getElem?_eq_some_iff.1 hg).1,hnc,hcm,⟨hc 0 _ rfl,hc 1 _ rfl,hc 2 _ rfl,hc 3 _ rfl,hc 4 _ rfl⟩,fun q=>by simp [World.frozen?,hg]⟩
theorem VRow.set {w:World} {base g i cap:Nat} {l:List V} {cl:List VC} {x:V} {cx:VC} (h:VRow w base (.slice (some ⟨g,0,none⟩) l.length cap) l cl) (hi:i<l.length) (hx:IsVal (only (fun k=>base<=k/\(Value.slice (some ⟨g,0,none⟩) l.length cap).ownBlock≠some k) w) w.heap.size x cx):
 VRow (setV w g (i*5) cx) base (.slice (some ⟨g,0,none⟩) l.length cap) (l.set i x) (cl.set i cx):=by
 have hl:=h.len;have st:=Zh w g (i*5) cx;have mv:∀ {y:V} {c:VC},IsVal (only (fun k=>base<=k/\(Value.slice (some ⟨g,0,none⟩) l.length cap).ownBlock≠some k) w) w.heap.size y c->IsVal (only (fun k=>base<=k/\(Value.slice (some ⟨g,0,none⟩) l.length cap).ownBlock≠some k) (setV w g (i*5) cx)) (setV w g (i*5) cx).heap.size y c:=fun hy=>
  hy.rowed (u:= .slice (some ⟨g,0,none⟩) l.length cap) (u':= .slice (some ⟨g,0,none⟩) l.length cap) st.grown (.inl rfl)
 refine ⟨by simp [hl],by rw [List.length_set];exact zdv h.own (by omega) cx,fun k hk hk'=> ?_⟩;rw [List.length_set] at hk hk';by_cases e:i=k
 .subst e;rw [List.getElem_set_self,List.getElem_set_self];exact mv hx
 .rw [List.getElem_set_ne e,List.getElem_set_ne e];exact mv (h.els k hk hk')
end Go.Proofs.YtbgheehjfnoiiaaGreatDoor
