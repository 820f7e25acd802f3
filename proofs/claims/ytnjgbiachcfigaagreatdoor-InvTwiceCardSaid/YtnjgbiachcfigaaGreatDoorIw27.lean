/-
  Contracts of the functions that the law reaches: Steps, components and entries in memory..
-/
import Derived.Test.YtnjgbiachcfigaaGreatDoorIw4
import Derived.Test.YtnjgbiachcfigaaGreatDoorIw23
namespace Go.Proofs.YtnjgbiachcfigaaGreatDoor
open Go.RowKit
set_option maxHeartbeats 8000000
structure EC where
 k:Int
 src:Int
 seq:Int
 v:VC
 oa:Option Addr
 ol:Nat
 oc:Nat
structure Rdr (w:World) (rb:Nat) (bs:List UInt8) (d:Int):Prop where
 at_:∃a n c,w.cell? ⟨rb,0,none⟩=some (.slice a n c)/\IsB w rb a n c bs
 deep:w.cell? ⟨rb,1,none⟩=some (.int .i64 d)
 f0:w.frozen? ⟨rb,0,none⟩=false
 f1:w.frozen? ⟨rb,1,none⟩=false
theorem zpl (x:Int):IntKind.i64.wrap x=wrap64 x:=by
 rw [IntKind.wrap_i64,wrap64]
theorem zqc {W:World} {g:Nat} {cl:List VC} (h:BC W g (cl.flatMap vcells)) {k:Nat} (hk:k<cl.length) (z:VC):BC (setV W g (k*5) z) g ((cl.set k z).flatMap vcells):=by
 have hl:(cl.flatMap vcells).length=cl.length*5:=Zn vcells 5 (fun _=>rfl) cl
 rw [<-zc1 cl k hk z]
 exact ((((h.set (by omega)).set (by simp only [List.length_set];omega)).set (by simp only [List.length_set];omega)).set (by simp only [List.length_set];omega)).set (by simp only [List.length_set];omega)
theorem zl0 {W:World} {g:Nat} {co:List (ByteArray×VC)} (h:BC W g (co.flatMap fcells)) {k:Nat} (hk:k<co.length) (z:VC):BC (setV W g (k*6+1) z) g ((co.set k (co[k].1,z)).flatMap fcells):=by
 have hl:(co.flatMap fcells).length=co.length*6:=Zn fcells 6 (fun _=>rfl) co
 rw [<-zew co k hk z]
 exact ((((h.set (by omega)).set (by simp only [List.length_set];omega)).set (by simp only [List.length_set];omega)).set (by simp only [List.length_set];omega)).set (by simp only [List.length_set];omega)
theorem J7 {a:Option Addr} {n c g:Nat} (e:a=some ⟨g,0,none⟩):(Value.slice a n c).ownBlock=some g:=by subst e;rfl
theorem PV.set {l:List V} {cl:List VC} {W:World} {B:Nat} (hl:cl.length=l.length) (h:∀i,i<l.length->PV l cl W B i) {z:V} {cz:VC} (hz:IsVal W B z cz) (k:Nat):∀i,i<(l.set k z).length->PV (l.set k z) (cl.set k cz) W B i:=by
 intro i hi hi2
 rw [List.length_set] at hi
 rw [List.getD_eq_getElem?_getD]
 by_cases e:k=i
 .subst e
  rw [List.getElem?_set_self (by omega),List.getElem_set_self]
  exact hz
 .rw [List.getElem?_set_ne e,List.getElem_set_ne e, <-List.getD_eq_getElem?_getD]
  exact h i hi hi
theorem PF.put {o:List (ByteArray×V)} {co:List (ByteArray×VC)} {W:World} {B:Nat} (h:∀i,i<o.length->PF o co W B i) {z:V} {cz:VC} (hz:IsVal W B z cz) (k:Nat) (hk:k<co.length):∀i,i<(putO o k z).length->PF (putO o k z) (co.set k (co[k].1,cz)) W B i:=by
 intro i hi hi2
 unfold putO at hi hi2 ⊢
 rw [List.length_set] at hi
 rw [List.getD_eq_getElem?_getD]
 by_cases e:k=i
 .subst e
  rw [List.getElem?_set_self (by omega)]
  simp only [List.getElem_set_self]
  obtain ⟨p1,p2,_⟩:=h k hi hi
  have he:co.getD k fzero=co[k] :=by simp [List.getD_eq_getElem?_getD,hk]
  have he2:o.getD k (.empty,V.none)=o[k] :=by simp [List.getD_eq_getElem?_getD,hi]
  rw [he] at p1
  rw [he2]
  exact ⟨p1,p2,hz⟩
 .rw [List.getElem?_set_ne e, <-List.getD_eq_getElem?_getD]
  simp only [List.getElem_set_ne e]
  exact h i hi hi
theorem za0 (o:List (ByteArray×V)) (k:Nat) (z:V):(putO o k z).length=o.length:=List.length_set
section
variable {w:World} {base base':Nat} {l:List V} {o:List (ByteArray×V)} {a:Option Addr} {m c:Nat} {a':Option Addr} {m' c':Nat} {cl:List VC} {co:List (ByteArray×VC)}
theorem Fresh.setL (h:Fresh w base l o a m c a' m' c' cl co) (hB:base'<=base) {kk:Nat} (hkk:kk<l.length) {z:V} {cz:VC} {g:Nat} (hg:a=some ⟨g,0,none⟩)
 (hz:IsVal (only (fun b=>base'<=b/\b≠g) w) w.heap.size z cz) {k n:Int} {s:ByteArray} (hk0:0<=k) (hk1:k<256) (hn0: -9223372036854775808<=n) (hn1:n<=9223372036854775807) (hs:s.size<=140737488355328):
 IsVal (only (fun b=>base'<=b) (setV w g (kk*5) cz)) (setV w g (kk*5) cz).heap.size (.mk k n s (l.set kk z) o) ⟨k,n,s,a,m,c,a',m',c'⟩:=by
 obtain ⟨g',e,hgb,hbc⟩:=h.ownL.row (.inr (by rw [hg];simp))
 obtain rfl:g=g':=by rw [hg] at e;injection e with e;injection e
 have st:=Zi w g (kk*5) cz
 have hu:(Value.slice a m c).ownBlock=some g:=J7 hg
 have hsh:Shows (only (Free2 base (.slice a m c) (.slice a' m' c')) w) (only (fun b=>base'<=b) (setV w g (kk*5) cz)) w.heap.size:=Zd fun q hq hl=>⟨Nat.le_trans hB hq.1,st.block q hl (fun e=>hq.2.1 (by rw [e,hu]))⟩
 have hsz:Shows (only (fun b=>base'<=b/\b≠g) w) (only (fun b=>base'<=b) (setV w g (kk*5) cz)) w.heap.size:=Zd fun q hq hl=>⟨hq.1,st.block q hl hq.2⟩
 refine Qy hk0 hk1 hn0 hn1 hs (by rw [List.length_set];exact h.len) h.len' (cl:=cl.set kk cz) (co:=co) (by simp [h.ll]) h.lo (by rw [List.length_set];exact h.few) h.few' h.ownL.cap h.ownL.max h.ownO.cap h.ownO.max (fun hp=> ?_) (fun hp=> ?_) (PV.set h.ll (fun i hi=>PV.closed _ _ _ _ _ _ i hsh st.size (h.lv i hi)) ((hz.sub hsz).more st.size) kk) (fun i hi=>PF.closed _ _ _ _ _ _ i hsh st.size (h.ov i hi))
 .exact ⟨g,hg,Nat.lt_of_lt_of_le hbc.lt st.size,fun i hi=>Yw (Nat.le_trans hB hgb) (Y2 (zqc hbc (by rw [h.ll];exact hkk) cz) hi)⟩
 .obtain ⟨q,e,hq,hbo⟩:=h.ownO.row (.inl hp)
  have hne:q≠g:=fun e2=>h.ne g hu (by rw [J7 e,e2])
  have hbo':=hbo.next st hne
  exact ⟨q,e,hbo'.lt,fun i hi=>⟨Z3 (Nat.le_trans hB hq) (Yd hbo' hi).1,Yw (Nat.le_trans hB hq) (Yd hbo' hi).2⟩⟩
theorem Fresh.setO (h:Fresh w base l o a m c a' m' c' cl co) (hB:base'<=base) {kk:Nat} (hkk:kk<o.length) {z:V} {cz:VC} {g:Nat} (hg:a'=some ⟨g,0,none⟩)
 (hz:IsVal (only (fun b=>base'<=b/\b≠g) w) w.heap.size z cz) {k n:Int} {s:ByteArray} (hk0:0<=k) (hk1:k<256) (hn0: -9223372036854775808<=n) (hn1:n<=9223372036854775807) (hs:s.size<=140737488355328):
 IsVal (only (fun b=>base'<=b) (setV w g (kk*6+1) cz)) (setV w g (kk*6+1) cz).heap.size (.mk k n s l (putO o kk z)) ⟨k,n,s,a,m,c,a',m',c'⟩:=by
 obtain ⟨g',e,hgb,hbc⟩:=h.ownO.row (.inr (by rw [hg];simp))
 obtain rfl:g=g':=by rw [hg] at e;injection e with e;injection e
 have st:=Zi w g (kk*6+1) cz
 have hu:(Value.slice a' m' c').ownBlock=some g:=J7 hg
 have hsh:Shows (only (Free2 base (.slice a m c) (.slice a' m' c')) w) (only (fun b=>base'<=b) (setV w g (kk*6+1) cz)) w.heap.size:=Zd fun q hq hl=>⟨Nat.le_trans hB hq.1,st.block q hl (fun e=>hq.2.2 (by rw [e,hu]))⟩
 have hsz:Shows (only (fun b=>base'<=b/\b≠g) w) (only (fun b=>base'<=b) (setV w g (kk*6+1) cz)) w.heap.size:=Zd fun q hq hl=>⟨hq.1,st.block q hl hq.2⟩
 refine Qy hk0 hk1 hn0 hn1 hs h.len (by rw [za0];exact h.len') (cl:=cl) (co:=co.set kk ((co[kk]'(by rw [h.lo];exact hkk)).1,cz)) h.ll (by rw [za0];simp [h.lo]) h.few (by rw [za0];exact h.few') h.ownL.cap h.ownL.max h.ownO.cap h.ownO.max (fun hp=> ?_) (fun hp=> ?_) (fun i hi=>PV.closed _ _ _ _ _ _ i hsh st.size (h.lv i hi)) (PF.put (fun i hi=>PF.closed _ _ _ _ _ _ i hsh st.size (h.ov i hi)) ((hz.sub hsz).more st.size) kk (by rw [h.lo];exact hkk))
 .obtain ⟨q,e,hq,hbo⟩:=h.ownL.row (.inl hp)
  have hne:q≠g:=fun e2=>h.ne q (J7 e) (by rw [hu,e2])
  have hbo':=hbo.next st hne
  exact ⟨q,e,hbo'.lt,fun i hi=>Yw (Nat.le_trans hB hq) (Y2 hbo' hi)⟩
 .have hb2:=zl0 hbc (k:=kk) (by rw [h.lo];exact hkk) cz
  exact ⟨g,hg,hb2.lt,fun i hi=>⟨Z3 (Nat.le_trans hB hgb) (Yd hb2 hi).1,Yw (Nat.le_trans hB hgb) (Yd hb2 hi).2⟩⟩
end
theorem zbk (w:World) (v:V) (vk vn:Int) (vs:ByteArray) (la:Option Addr) (ll lc:Nat) (oa:Option Addr) (ol oc:Nat) (h:IsVal w w.heap.size v ⟨vk,vn,vs,la,ll,lc,oa,ol,oc⟩):
 uP 30 #[.agg (uU vk vn vs la ll lc oa ol oc)] w (CopyPost w vk vn vs v.ls v.os):=by
 delta uU uP
 obtain ⟨k,n,s,l,o,rfl⟩:=v.eta
 obtain ⟨_,_,_,_,h1,h2⟩:=h.lists
 exact zfo l o (fun x _=>Yp x) (fun x _=>Yp x.2) w vk vn vs la ll lc oa ol oc h1 h2
theorem OwnRow.later_ {w W:World} {base:Nat} {a:Option Addr} {n c:Nat} {cells:List Value} (h:OwnRow w base a n c cells) (hb:uB w W):OwnRow W base a n c cells:=
 ⟨h.cap,h.max,h.none_,fun hp=>by
  obtain ⟨g,e,hg,hbc⟩:=h.row hp
  exact ⟨g,e,hg,hbc.keep hb hbc.lt⟩⟩
theorem Fresh.later_ {w W:World} {base:Nat} {l:List V} {o:List (ByteArray×V)} {a:Option Addr} {m c:Nat} {a':Option Addr} {m' c':Nat} {cl:List VC} {co:List (ByteArray×VC)} (h:Fresh w base l o a m c a' m' c' cl co) (hb:uB w W):Fresh W base l o a m c a' m' c' cl co:=by
 have hsh:Shows (only (Free2 base (.slice a m c) (.slice a' m' c')) w) (only (Free2 base (.slice a m c) (.slice a' m' c')) W) w.heap.size:=Zd fun q hq hl=>⟨hq,hb.block q hl⟩
 exact ⟨h.len,h.len',h.ll,h.lo,h.few,h.few',h.ownL.later_ hb,h.ownO.later_ hb,h.ne,fun i hi=>PV.closed _ _ _ _ _ _ i hsh hb.size (h.lv i hi),fun i hi=>PF.closed _ _ _ _ _ _ i hsh hb.size (h.ov i hi)⟩
theorem zdy {tmps:Array Value} {W:World} {b:Nat} {c:VC} {x:Value} (ht:tmps[6]? =some (.pointer (some ⟨b,0,none⟩))) (hx:tmps[7]? =some x) (h:BC W b (vcells c)):
 (results Tryz.f51 tmps).run Tryz.prog W= .ok (.tuple #[.agg #[.int .u8 c.k, .int .i64 c.n, .string c.s, .slice c.la c.ll c.lc, .slice c.oa c.ol c.oc],x]) W:=by
 obtain ⟨r0,r1,r2,r3,r4⟩:=(⟨h.at_ 0 _ rfl,h.at_ 1 _ rfl,h.at_ 2 _ rfl,h.at_ 3 _ rfl,h.at_ 4 _ rfl⟩:W.cell? ⟨b,0,none⟩=some (.int .u8 c.k)/\W.cell? ⟨b,1,none⟩=some (.int .i64 c.n)/\W.cell? ⟨b,2,none⟩=some (.string c.s)/\W.cell? ⟨b,3,none⟩=some (.slice c.la c.ll c.lc)/\W.cell? ⟨b,4,none⟩=some (.slice c.oa c.ol c.oc))
 simp [results,Tryz.results51,go_sem,ht,hx,r0,r1,r2,r3,r4]
theorem Km {w W:World} {x:Act} (h:BC W (w.heap.size+1+1) (vcells vzero)) (hb:uB w W) (hd:x.defers= []) (ht:x.tmps[6]? =some (.pointer (some ⟨w.heap.size+1+1,0,none⟩))) (hx:x.tmps[7]? =some (.int .i64 30)):
 bodyPost Tryz.prog Tryz.f51 (GetPost w none) .ret x W:=⟨hd,_,zdy ht hx h,rfl,hb⟩
theorem zbe {w W:World} {x:Act} {c:VC} {v:V} (h:BC W (w.heap.size+1+1) (vcells c)) (hv:IsVal (only (fun b=>w.heap.size<=b) W) W.heap.size v c) (hb:uB w W) (hd:x.defers= []) (ht:x.tmps[6]? =some (.pointer (some ⟨w.heap.size+1+1,0,none⟩))) (hx:x.tmps[7]? =some (.int .i64 0)):
 bodyPost Tryz.prog Tryz.f51 (GetPost w (some v)) .ret x W:=⟨hd,_,zdy ht hx h,⟨c,rfl,hv⟩,hb⟩
structure PB (w W:World) (c cx:VC):Prop where
 v:BC W w.heap.size (vcells c)
 x:BC W (w.heap.size+1) (vcells cx)
 r:BC W (w.heap.size+1+1) (vcells vzero)
 below:Below w.heap.size w W
theorem PB.start (w:World) (c cx:VC) (t1 t2 t3:TypeId):PB w (((w.alloc (.cells (uV c) t1)).alloc (.cells (uV cx) t2)).alloc (.cells (uU 0 0 { data:= #[] } none 0 0 none 0 0) t3)) c cx:=by
 delta uV uU
 obtain ⟨w1,hw1⟩:∃w1,w.alloc (.cells (uV c) t1)=w1:=⟨_,rfl⟩
 have s1:w1.heap.size=w.heap.size+1:=by rw [<-hw1,World.size_alloc]
 have b1:uB w w1:=by rw [<-hw1];exact (Below.refl _ _).alloc (Nat.le_refl _) _
 have c1:BC w1 w.heap.size (vcells c):=by rw [<-hw1];exact BC.start w (uV c) t1
 rw [hw1]
 obtain ⟨w2,hw2⟩:∃w2,w1.alloc (.cells (uV cx) t2)=w2:=⟨_,rfl⟩
 have s2:w2.heap.size=w.heap.size+1+1:=by rw [<-hw2,World.size_alloc,s1]
 have b2:uB w1 w2:=by rw [<-hw2];exact (Below.refl _ _).alloc (Nat.le_refl _) _
 have c2:=BC.start w1 (uV cx) t2
 rw [hw2,s1] at c2
 rw [hw2]
 have b3:uB w2 (w2.alloc (.cells (uU 0 0 { data:= #[] } none 0 0 none 0 0) t3)):=(Below.refl _ _).alloc (Nat.le_refl _) _
 have c3:=BC.start w2 (uU 0 0 { data:= #[] } none 0 0 none 0 0) t3
 rw [s2] at c3
 exact ⟨(c1.keep b2 (by omega)).keep b3 (by omega),c2.keep b3 (by omega),c3,(b1.trans (b2.mono (by omega))).trans (b3.mono (by omega))⟩
theorem PB.next {w W W':World} {c cx:VC} {B:Nat} (h:PB w W c cx) (hb:Below B W W') (hB:w.heap.size+3<=B):PB w W' c cx:=
 ⟨h.v.keep hb (by omega),h.x.keep hb (by omega),h.r.keep hb (by omega),h.below.trans (hb.mono (by omega))⟩
theorem PB.result {w W:World} {c cx:VC} (h:PB w W c cx) (d:VC):BC (((((W.setCell ⟨w.heap.size+1+1,0,none⟩ (.int .u8 d.k)).setCell ⟨w.heap.size+1+1,1,none⟩ (.int .i64 d.n)).setCell ⟨w.heap.size+1+1,2,none⟩ (.string d.s)).setCell ⟨w.heap.size+1+1,3,none⟩ (.slice d.la d.ll d.lc)).setCell ⟨w.heap.size+1+1,4,none⟩ (.slice d.oa d.ol d.oc)) (w.heap.size+1+1) (vcells d)/\uB w (((((W.setCell ⟨w.heap.size+1+1,0,none⟩ (.int .u8 d.k)).setCell ⟨w.heap.size+1+1,1,none⟩ (.int .i64 d.n)).setCell ⟨w.heap.size+1+1,2,none⟩ (.string d.s)).setCell ⟨w.heap.size+1+1,3,none⟩ (.slice d.la d.ll d.lc)).setCell ⟨w.heap.size+1+1,4,none⟩ (.slice d.oa d.ol d.oc)):=
 ⟨Z5 h.r d,Below.set5' h.below (by omega) _ _ _ _ _⟩
theorem zfa {w w4:World} (h:Below w.heap.size w.drew w4) (hz:w.heap.size<=w4.heap.size) (d:VC) (t:TypeId) {R:Prop} {z:V->Prop} (hr:Hid (R∨∃x,z x/\IsVal (only (fun b=>w.heap.size<=b) w4) w4.heap.size x d)):
 (BC (w4.alloc (.cells (uV d) t)) w4.heap.size (vcells d)/\Below w.heap.size w.drew (w4.alloc (.cells (uV d) t))/\w.heap.size<=w4.heap.size)/\
 Hid (R∨∃x,z x/\IsVal (only (fun b=>w.heap.size<=b) (w4.alloc (.cells (uV d) t))) (w4.alloc (.cells (uV d) t)).heap.size x d):=by
 delta uV
 refine ⟨Ja h hz d t,hr.out.imp_right ?_⟩
 rintro ⟨x,hx,hI⟩
 have hb:uB w4 (w4.alloc (.cells (uV d) t)):=(Below.refl _ _).alloc (Nat.le_refl _) _
 exact ⟨x,hx,(hI.sub (Zd fun k hk hl=>⟨hk,hb.block k hl⟩)).more hb.size⟩
theorem ze4 {w w4:World} (h:Below w.heap.size w.drew w4) (d:VC) (xb:BC w4 w.heap.size [.int .u8 0, .int .i64 0, .string { data:= #[] }, .slice none 0 0, .slice none 0 0]) {R:Prop} {z:V->Prop} (hr:Hid (R∨∃x,z x/\IsVal (only (fun b=>w.heap.size+1<=b) w4) w4.heap.size x d)):
 (BC (((((w4.setCell ⟨w.heap.size,0,none⟩ (.int .u8 d.k)).setCell ⟨w.heap.size,1,none⟩ (.int .i64 d.n)).setCell ⟨w.heap.size,2,none⟩ (.string d.s)).setCell ⟨w.heap.size,3,none⟩ (.slice d.la d.ll d.lc)).setCell ⟨w.heap.size,4,none⟩ (.slice d.oa d.ol d.oc)) w.heap.size (vcells d)/\Below w.heap.size w.drew (((((w4.setCell ⟨w.heap.size,0,none⟩ (.int .u8 d.k)).setCell ⟨w.heap.size,1,none⟩ (.int .i64 d.n)).setCell ⟨w.heap.size,2,none⟩ (.string d.s)).setCell ⟨w.heap.size,3,none⟩ (.slice d.la d.ll d.lc)).setCell ⟨w.heap.size,4,none⟩ (.slice d.oa d.ol d.oc))/\w.heap.size<=w.heap.size)/\
 Hid (R∨∃x,z x/\IsVal (only (fun b=>w.heap.size<=b) (((((w4.setCell ⟨w.heap.size,0,none⟩ (.int .u8 d.k)).setCell ⟨w.heap.size,1,none⟩ (.int .i64 d.n)).setCell ⟨w.heap.size,2,none⟩ (.string d.s)).setCell ⟨w.heap.size,3,none⟩ (.slice d.la d.ll d.lc)).setCell ⟨w.heap.size,4,none⟩ (.slice d.oa d.ol d.oc))) (((((w4.setCell ⟨w.heap.size,0,none⟩ (.int .u8 d.k)).setCell ⟨w.heap.size,1,none⟩ (.int .i64 d.n)).setCell ⟨w.heap.size,2,none⟩ (.string d.s)).setCell ⟨w.heap.size,3,none⟩ (.slice d.la d.ll d.lc)).setCell ⟨w.heap.size,4,none⟩ (.slice d.oa d.ol d.oc)).heap.size x d):=by
 refine ⟨Jr h d xb,hr.out.imp_right ?_⟩
 rintro ⟨x,hx,hI⟩
 have st:=Zi w4 w.heap.size 0 d
 exact ⟨x,hx,(hI.sub (Zd fun k hk hl=>⟨by omega,st.block k hl (by omega)⟩)).more st.size⟩
theorem zcs {w W1 W2 w7:World} {v z:V} {vk vn:Int} {vs:ByteArray} {la:Option Addr} {ll lc:Nat} {oa:Option Addr} {ol oc:Nat} {cx dz:VC} {K g m0 c0 m1 c1:Nat} {a1:Option Addr} {cl:List VC} {co:List (ByteArray×VC)} {t:TypeId} {x:Act}
 (hv:IsVal w w.heap.size v ⟨vk,vn,vs,la,ll,lc,oa,ol,oc⟩) (hF:Fresh w7 W2.heap.size v.ls v.os (some ⟨g,0,none⟩) m0 c0 a1 m1 c1 cl co) (hB:PB w w7 ⟨vk,vn,vs,la,ll,lc,oa,ol,oc⟩ cx) (hz:IsVal (only (fun b=>W1.heap.size<=b) W2) W2.heap.size z dz) (hb7:uB W2 w7)
 (h0:w.heap.size+1+1<W1.heap.size) (h12:W1.heap.size<=W2.heap.size) (hK:K<v.ls.length) (hd:x.defers= []) (ht:x.tmps[6]? =some (.pointer (some ⟨w.heap.size+1+1,0,none⟩))) (hx:x.tmps[7]? =some (.int .i64 0)):
 bodyPost Tryz.prog Tryz.f51 (GetPost w (some (v.setL K z))) .ret x (((((((setV w7 g (K*5) dz).setCell ⟨w.heap.size+1+1,0,none⟩ (.int .u8 vk)).setCell ⟨w.heap.size+1+1,1,none⟩ (.int .i64 vn)).setCell ⟨w.heap.size+1+1,2,none⟩ (.string vs)).setCell ⟨w.heap.size+1+1,3,none⟩ (.slice (some ⟨g,0,none⟩) m0 c0)).setCell ⟨w.heap.size+1+1,4,none⟩ (.slice a1 m1 c1)).alloc (.cells (uU vk vn vs (some ⟨g,0,none⟩) m0 c0 a1 m1 c1) t)):=by
 delta uU
 obtain ⟨k,n,s,l,o,rfl⟩:=v.eta
 obtain ⟨rfl,rfl,rfl,hb,_,_⟩:=hv.lists
 obtain ⟨g',e,hgb,hbc⟩:=hF.ownL.row (.inr (by simp))
 obtain rfl:g=g':=by injection e with e;injection e
 have hglt:=hbc.lt
 have hz2:IsVal (only (fun b=>w.heap.size+1+1+1<=b/\b≠g) w7) w7.heap.size z dz:=(hz.sub (Zd fun k hk hl=>⟨⟨by omega,by omega⟩,hb7.block k hl⟩)).more hb7.size
 have hI1:=hF.setL (base':=w.heap.size+1+1+1) (by omega) hK rfl hz2 hb.k0 hb.k1 hb.n0 hb.n1 hb.s1
 have hB1:=hB.next (B:=w.heap.size+3) (((Zi w7 g (K*5) dz).below (Nat.le_of_lt hglt)).mono (by omega)) (Nat.le_refl _)
 have ST:=hB1.result ⟨vk,vn,vs,some ⟨g,0,none⟩,m0,c0,a1,m1,c1⟩
 have hI2:=Zm hI1 (Zi (setV w7 g (K*5) dz) (w.heap.size+1+1) 0 ⟨vk,vn,vs,some ⟨g,0,none⟩,m0,c0,a1,m1,c1⟩) (by omega)
 have hal:=fun (W:World) (o:Obj)=>(Below.refl W.heap.size W).alloc (Nat.le_refl _) o
 exact zbe (ST.1.keep (hal _ _) ST.1.lt) (((hI2.sub (Zd fun k hk hl=>⟨by omega,(hal _ _).block k hl⟩)).more (hal _ _).size)) (ST.2.alloc ST.2.size _) hd ht hx
theorem ze9 {w W1 W2 w7:World} {v z:V} {vk vn:Int} {vs:ByteArray} {la:Option Addr} {ll lc:Nat} {oa:Option Addr} {ol oc:Nat} {cx dz:VC} {K g m0 c0 m1 c1:Nat} {a0:Option Addr} {cl:List VC} {co:List (ByteArray×VC)} {t:TypeId} {x:Act}
 (hv:IsVal w w.heap.size v ⟨vk,vn,vs,la,ll,lc,oa,ol,oc⟩) (hF:Fresh w7 W2.heap.size v.ls v.os a0 m0 c0 (some ⟨g,0,none⟩) m1 c1 cl co) (hB:PB w w7 ⟨vk,vn,vs,la,ll,lc,oa,ol,oc⟩ cx) (hz:IsVal (only (fun b=>W1.heap.size<=b) W2) W2.heap.size z dz) (hb7:uB W2 w7)
 (h0:w.heap.size+1+1<W1.heap.size) (h12:W1.heap.size<=W2.heap.size) (hK:K<v.os.length) (hd:x.defers= []) (ht:x.tmps[6]? =some (.pointer (some ⟨w.heap.size+1+1,0,none⟩))) (hx:x.tmps[7]? =some (.int .i64 0)):
 bodyPost Tryz.prog Tryz.f51 (GetPost w (some (v.setO K z))) .ret x (((((((setV w7 g (K*6+1) dz).setCell ⟨w.heap.size+1+1,0,none⟩ (.int .u8 vk)).setCell ⟨w.heap.size+1+1,1,none⟩ (.int .i64 vn)).setCell ⟨w.heap.size+1+1,2,none⟩ (.string vs)).setCell ⟨w.heap.size+1+1,3,none⟩ (.slice a0 m0 c0)).setCell ⟨w.heap.size+1+1,4,none⟩ (.slice (some ⟨g,0,none⟩) m1 c1)).alloc (.cells (uU vk vn vs a0 m0 c0 (some ⟨g,0,none⟩) m1 c1) t)):=by
 delta uU
 obtain ⟨k,n,s,l,o,rfl⟩:=v.eta
 obtain ⟨rfl,rfl,rfl,hb,_,_⟩:=hv.lists
 obtain ⟨g',e,hgb,hbc⟩:=hF.ownO.row (.inr (by simp))
 obtain rfl:g=g':=by injection e with e;injection e
 have hglt:=hbc.lt
 have hz2:IsVal (only (fun b=>w.heap.size+1+1+1<=b/\b≠g) w7) w7.heap.size z dz:=(hz.sub (Zd fun k hk hl=>⟨⟨by omega,by omega⟩,hb7.block k hl⟩)).more hb7.size
 have hI1:=hF.setO (base':=w.heap.size+1+1+1) (by omega) hK rfl hz2 hb.k0 hb.k1 hb.n0 hb.n1 hb.s1
 have hB1:=hB.next (B:=w.heap.size+3) (((Zi w7 g (K*6+1) dz).below (Nat.le_of_lt hglt)).mono (by omega)) (Nat.le_refl _)
 have ST:=hB1.result ⟨vk,vn,vs,a0,m0,c0,some ⟨g,0,none⟩,m1,c1⟩
 have hI2:=Zm hI1 (Zi (setV w7 g (K*6+1) dz) (w.heap.size+1+1) 0 ⟨vk,vn,vs,a0,m0,c0,some ⟨g,0,none⟩,m1,c1⟩) (by omega)
 have hal:=fun (W:World) (o:Obj)=>(Below.refl W.heap.size W).alloc (Nat.le_refl _) o
 exact zbe (ST.1.keep (hal _ _) ST.1.lt) (((hI2.sub (Zd fun k hk hl=>⟨by omega,(hal _ _).block k hl⟩)).more (hal _ _).size)) (ST.2.alloc ST.2.size _) hd ht hx
theorem PV.append {l1 l2:List V} {c1 c2:List VC} {W:World} {B:Nat} (hl:c1.length=l1.length) (h1:∀i,i<l1.length->PV l1 c1 W B i) (h2:∀i,i<l2.length->PV l2 c2 W B i):∀i,i<(l1++l2).length->PV (l1++l2) (c1++c2) W B i:=by
 intro i _ hi
 rw [List.getD_eq_getElem?_getD]
 by_cases e:i<l1.length
 .rw [List.getElem?_append_left (by omega),List.getElem_append_left e, <-List.getD_eq_getElem?_getD]
  exact h1 i e e
 .rw [List.length_append] at hi
  rw [List.getElem?_append_right (by omega),List.getElem_append_right (by omega),hl, <-List.getD_eq_getElem?_getD]
  exact h2 (i - l1.length) (by omega) (by omega)
theorem PV.take {l:List V} {cs:List VC} {W:World} {B:Nat} (h:∀i,i<l.length->PV l cs W B i) (k:Nat):∀i,i<(l.take k).length->PV (l.take k) (cs.take k) W B i:=by
 intro i _ hi
 rw [List.length_take] at hi
 rw [List.getD_eq_getElem?_getD,List.getElem?_take_of_lt (by omega),List.getElem_take, <-List.getD_eq_getElem?_getD]
 exact h i (by omega) (by omega)
theorem PV.drop {l:List V} {cs:List VC} {W:World} {B:Nat} (h:∀i,i<l.length->PV l cs W B i) (k:Nat):∀i,i<(l.drop k).length->PV (l.drop k) (cs.drop k) W B i:=by
 intro i _ hi
 rw [List.length_drop] at hi
 rw [List.getD_eq_getElem?_getD,List.getElem?_drop,List.getElem_drop, <-List.getD_eq_getElem?_getD]
 exact h (k+i) (by omega) (by omega)
theorem PV.cons {l:List V} {cs:List VC} {W:World} {B:Nat} {x:V} {cx:VC} (hx:IsVal W B x cx) (h:∀i,i<l.length->PV l cs W B i):∀i,i<(x::l).length->PV (x::l) (cx::cs) W B i:=by
 intro i _ hi
 cases i with
 |zero=>exact hx
 |succ i=>exact h i (by simpa using hi) (by simpa using hi)
theorem zgq {cs:List VC} {k j:Nat} {u:Value} (h:((cs.take k).flatMap vcells)[j]? =some u):(cs.flatMap vcells)[j]? =some u:=by
 have e:cs.flatMap vcells=(cs.take k).flatMap vcells++(cs.drop k).flatMap vcells:=by rw [<-List.flatMap_append,List.take_append_drop]
 rw [e,List.getElem?_append_left (List.getElem?_eq_some_iff.1 h).1];exact h
theorem zq6 {cs:List VC} {k j:Nat} {u:Value} (hk:k<=cs.length) (h:((cs.drop k).flatMap vcells)[j]? =some u):(cs.flatMap vcells)[k*5+j]? =some u:=by
 have e:cs.flatMap vcells=(cs.take k).flatMap vcells++(cs.drop k).flatMap vcells:=by rw [<-List.flatMap_append,List.take_append_drop]
 have hl:((cs.take k).flatMap vcells).length=k*5:=by rw [Zn vcells 5 (fun _=>rfl),List.length_take,Nat.min_eq_left hk]
 rw [e,List.getElem?_append_right (by omega),hl,Nat.add_sub_cancel_left];exact h
def ListPost (w:World) (B0:Nat) (l:List V) (e:Ending) (w':World):Prop:=
 (∃a n c,e= .returned (.slice a n c)/\IsVals (only (fun b=>B0<=b) w') w'.heap.size l a n c/\Neat2 a c)/\Below w.heap.size w w'
theorem zbb (w:World) (cx:VC) (t:TypeId):Piece (w.alloc (.cells (uV cx) t)) (some ⟨w.heap.size,0,none⟩) 1 1 (vcells cx):=
 ⟨fun h=>by (cases h),fun ad h=>by
  injection h with h
  subst h
  exact World.news_of_block (t:=t) (fr:=(0,0)) (heap_alloc_new w (.cells (uV cx) t))⟩
theorem Jh {w W:World} {B0:Nat} {l:List V} {a:Option Addr} {n c:Nat} {cs:List VC} (hcl:cs.length=l.length) (hln:n=l.length) (hz:a=none->c=0) (ha:0<n->∃b off,a=some ⟨b,off,none⟩) (hc:∀b off,a=some ⟨b,off,none⟩->0<n->b<w.heap.size/\∀j u,(cs.flatMap vcells)[j]? =some u->(only (fun k=>B0<=k) w).cell? ⟨b,off+j,none⟩=some u) (hW:uB w W) (i:Nat):Piece W a (if n=0 then 0 else min i n) c ((cs.take i).flatMap vcells):=by
 refine ⟨fun h=> ?_,fun ad h j u hj=> ?_⟩
 .have hn:n=0:=by
   by_cases e:0<n
   .obtain ⟨b,off,e2⟩:=ha e;rw [h] at e2;cases e2
   .omega
  have:cs= [] :=List.eq_nil_of_length_eq_zero (by omega)
  subst this
  exact ⟨by rw [if_pos hn],hz h,by simp⟩
 .have hn:0<n:=by
   have:=(List.getElem?_eq_some_iff.1 hj).1
   rw [Zn vcells 5 (fun _=>rfl),List.length_take] at this
   omega
  obtain ⟨b,off,e⟩:=ha hn
  rw [h] at e
  injection e with e
  subst e
  obtain ⟨hb,hcell⟩:=hc b off h hn
  rw [Zw]
  exact Za hW (Z9 (hcell j u (zgq hj))).2 hb
theorem zb1 {w W:World} {B0:Nat} {l:List V} {b off:Nat} {n:Nat} {cs:List VC} (hcl:cs.length=l.length) (hln:n=l.length) (hc:∀b' off',some (⟨b,off,none⟩:Addr)=some ⟨b',off',none⟩->0<n->b'<w.heap.size/\∀j u,(cs.flatMap vcells)[j]? =some u->(only (fun k=>B0<=k) w).cell? ⟨b',off'+j,none⟩=some u) (hW:uB w W) (i:Nat) (hi:i<=n) (m c':Nat):Piece W (some ⟨b,off+i*5,none⟩) m c' ((cs.drop i).flatMap vcells):=by
 refine ⟨fun h=>by (cases h),fun ad h j u hj=> ?_⟩
 injection h with h
 subst h
 have hn:0<n:=by
  have:=(List.getElem?_eq_some_iff.1 hj).1
  rw [Zn vcells 5 (fun _=>rfl),List.length_drop] at this
  omega
 obtain ⟨hb,hcell⟩:=hc b off rfl hn
 rw [Zw,Nat.add_assoc]
 exact Za hW (Z9 (hcell _ u (zq6 (by omega) hj))).2 hb
theorem zbm (w:World) (ad:Addr) (m c:Nat):Piece w (some ad) m c [] :=⟨fun h=>by (cases h),fun _ _ j u hj=>by simp at hj⟩
set_option maxRecDepth 100000 in
theorem zqn (w:World) (B0:Nat) (hB0:B0<=w.heap.size) (l:List V) (a:Option Addr) (hab:a=none) (n c:Nat) (hl:IsVals (only (fun k=>B0<=k) w) w.heap.size l a n c) (hz:a=none->c=0) (i:Nat) (hi:i<=n) (x:V) (cx:VC) (hx:IsVal (only (fun k=>B0<=k) w) w.heap.size x cx) (hfew:n<=1000000000):
 uP 88 #[.slice a n c, .int .i64 i, .agg (uV cx)] w (ListPost w B0 (insL l i x)):=by
 delta uV uP
 obtain ⟨i0,hi0,hz0,hz1,hz2⟩:=info_parts Yh
 have hlen:=hl.len
 have hcap:=hl.cap
 have hmax:=hl.max
 have ha:=hl.at_
 obtain ⟨cs,hcl,hcell,hpv⟩:=hl.cells
 have ha2:0<n->∃b off,a=some ⟨b,off,none⟩:=fun h=>by
  obtain ⟨b,off,_,e,_⟩:=ha
  exact ⟨b,off,(e h).1⟩
 have HP1:Hid (∀W,uB w W->Piece W a i c ((cs.take i).flatMap vcells)):=fun W hW=>by
  have:=Jh hcl hlen hz ha2 hcell hW i
  have e:(if n=0 then 0 else min i n)=i:=by split<;>omega
  rwa [e] at this
 obtain ⟨XA,hXA⟩:∃XA,(cs.take i).flatMap vcells=XA:=⟨_,rfl⟩
 have hla:XA.length=i*5:=by rw [<-hXA,Zn vcells 5 (fun _=>rfl),List.length_take,Nat.min_eq_left (by omega)]
 have HA1:Hid (∀u ∈ XA,u.oneCell'=true):=by unfold Hid;rw [<-hXA];exact Ya _
 obtain ⟨XB,hXB⟩:∃XB,(cs.drop (i)).flatMap vcells=XB:=⟨_,rfl⟩
 have hlb:XB.length=(n - (i))*5:=by rw [<-hXB,Zn vcells 5 (fun _=>rfl),List.length_drop,hcl, <-hlen]
 have HB1:Hid (∀u ∈ XB,u.oneCell'=true):=by unfold Hid;rw [<-hXB];exact Ya _
 have hc0:c=0:=hz hab
 have hn0:n=0:=by omega
 have hi00:i=0:=by omega
 have hXBn:XB= [] :=List.eq_nil_of_length_eq_zero (by omega)
 have HP3:Hid (∀W,uB w W->Piece W none 0 0 XB):=fun W _=>⟨fun _=>⟨rfl,rfl,hXBn⟩,fun _ h=>by (cases h)⟩
 rw [hXA] at HP1
 have HBX:=qh (BC.start w (uV cx) 36)
 have HAL:=qh ((Below.refl _ _).alloc (Nat.le_refl _) (.cells (uV cx) 36):uB w _)
 have HX:=qh hx
 have HPV:=qh hpv
 have HCL:=qh hcl
 have HLEN:=qh hlen
 have HXA:=qh hXA
 have HXB:=qh hXB
 obtain ⟨R,hR⟩:∃R,ListPost w B0 (insL l i x)=R:=⟨_,rfl⟩
 rw [hR]
 have HR:=qh hR
 have ho1:(w.alloc (.cells (uV cx) 36)).ownsRow (w.heap.size+1) 36 5 (.slice none 0 0) 0 [] :=⟨rfl, .inl ⟨rfl,rfl⟩⟩
 clear hl ha hcl hcell hpv hlen ha2 hXA hXB hx hR hz
 subst hab
 subst hc0 hn0 hi00
 go_enter Tryz.func88,Tryz.ntmps88
 go_wp2_with (first
  |(at_builtin;refine Z1 _ rfl (.tmp 8) (.tmp 11) 33 (by rfl) (w.heap.size+1) 36 i0 _ 5 80 Tryz.underlying33 hi0 hz0 hz1 hz2 rfl (by omega) (.slice none 0 0) 0 [] (by rfl) ho1 none 0 0 XA (by rfl) (HP1.out _ HAL.out) hla HA1.out (by unfold maxLen;omega) (by omega) (by simp) ?_;intro v1 w2 hown1 hgrow1;have b12:Below (w.heap.size+1) (w.alloc _) w2:=Zj hgrow1 (fun k hk=>by simp [Value.ownBlock] at hk) (by simp);have BX2:=HBX.out.keep b12 (by omega);obtain ⟨x0,x1,x2,x3,x4⟩:=row5 BX2.at_;have zs2:=BX2.lt;have HBL2:=qh (HAL.out.trans (b12.mono (by omega)));have hrl:∀g,v1.ownBlock=some g->w.heap.size+1<=g/\g<w2.heap.size:=hown1.lt;have ho2:=hown1.alloc (.cells (uV cx) 36);clear hown1 hgrow1 BX2 b12)
  |(at_builtin;refine Z1 _ rfl (.tmp 13) (.tmp 15) 33 (by rfl) (w.heap.size+1) 36 i0 _ 5 80 Tryz.underlying33 hi0 hz0 hz1 hz2 rfl (by omega) v1 (0+0) ([] ++XA) (by rfl) ho2 (some ⟨w2.heap.size,0,none⟩) 1 1 (vcells cx) (by rfl) (zbb w2 cx _) (by rfl) (by simp [vcells,Value.oneCell']) (by unfold maxLen;omega) (by omega) (by simp;omega) ?_;intro v2 w4 hown2 hgrow2;have b24:Below (w.heap.size+1) w2 w4:=(((Below.refl w2.heap.size w2).alloc (Nat.le_refl _) (.cells (uV cx) 36)).mono (by omega)).trans (Zj hgrow2 (fun k hk=>(hrl k hk).1) (by simp;omega));have HBL4:=qh (HBL2.out.trans (b24.mono (by omega)));have zs4:w.heap.size<w4.heap.size:=Nat.lt_of_lt_of_le zs2 b24.size;have hrl2:∀g,v2.ownBlock=some g->w.heap.size+1<=g/\g<w4.heap.size:=hown2.lt;have HO2:=qh hown2;clear hgrow2 b24 hown2)
  |(at_builtin;refine Z1 _ rfl (.tmp 17) (.tmp 20) 33 (by rfl) (w.heap.size+1) 36 i0 _ 5 80 Tryz.underlying33 hi0 hz0 hz1 hz2 rfl (by omega) v2 (0+0+1) ([] ++XA++vcells cx) (by rfl) HO2.out none 0 0 XB (by rfl) (HP3.out _ HBL4.out) (by omega) HB1.out (by unfold maxLen;omega) (by omega) (by omega) ?_;intro v3 w5 hown3 hgrow3;have b45:Below (w.heap.size+1) w4 w5:=Zj hgrow3 (fun k hk=>(hrl2 k hk).1) (by omega);have HBL5:=qh (HBL4.out.trans (b45.mono (by omega)));have HO3:=qh hown3;clear hgrow3 b45 hown3))
 rw [<-HR.out]
 have hcat: [] ++XA++vcells cx++XB=(insL cs 0 cx).flatMap vcells:=by rw [<-HXA.out, <-HXB.out];simp [insL]
 have hll:(insL l 0 x).length=0+0+1+0:=by
  rw [insL,List.length_append,List.length_cons,List.length_drop,List.length_take, <-HLEN.out];omega
 have hown:=HO3.out
 rw [hcat, <-hll] at hown
 have hlt3:=hown.lt
 have hsh:Shows (only (fun k=>B0<=k) w) (only (Free B0 v3) w5) w.heap.size:=Zd fun q hq hl=>⟨⟨hq,fun e=>by have:=(hlt3 q e.symm).1;omega⟩,HBL5.out.block q hl⟩
 have hpv:∀k,k<l.length->PV l cs (only (Free B0 v3) w5) w5.heap.size k:=fun k hk=>PV.closed l cs _ _ _ _ k hsh HBL5.out.size (HPV.out k hk)
 obtain ⟨a,n,c,hv,hf,hz⟩:=Qt (B0:=B0) (B1:=w.heap.size+1) hown (by omega) (by rw [insL,insL,List.length_append,List.length_append,List.length_cons,List.length_cons,List.length_take,List.length_take,List.length_drop,List.length_drop,HCL.out])
  (PV.append (by rw [List.length_take,List.length_take,HCL.out]) (PV.take hpv 0) (PV.cons ((HX.out.sub hsh).more HBL5.out.size) (PV.drop hpv 0))) (by rw [hll];omega)
 exact ⟨⟨a,n,c,by rw [hv],hf,hz⟩,HBL5.out⟩
set_option maxRecDepth 100000 in
theorem zhv (w:World) (B0:Nat) (hB0:B0<=w.heap.size) (l:List V) (a:Option Addr) (b off:Nat) (hab:a=(some ⟨b,off,none⟩)) (n c:Nat) (hl:IsVals (only (fun k=>B0<=k) w) w.heap.size l a n c) (hz:a=none->c=0) (i:Nat) (hi:i<=n) (x:V) (cx:VC) (hx:IsVal (only (fun k=>B0<=k) w) w.heap.size x cx) (hfew:n<=1000000000) (hic:i=c):
 uP 88 #[.slice a n c, .int .i64 i, .agg (uV cx)] w (ListPost w B0 (insL l i x)):=by
 delta uV uP
 obtain ⟨i0,hi0,hz0,hz1,hz2⟩:=info_parts Yh
 have hlen:=hl.len
 have hcap:=hl.cap
 have hmax:=hl.max
 have ha:=hl.at_
 obtain ⟨cs,hcl,hcell,hpv⟩:=hl.cells
 have ha2:0<n->∃b off,a=some ⟨b,off,none⟩:=fun h=>by
  obtain ⟨b,off,_,e,_⟩:=ha
  exact ⟨b,off,(e h).1⟩
 have HP1:Hid (∀W,uB w W->Piece W a i c ((cs.take i).flatMap vcells)):=fun W hW=>by
  have:=Jh hcl hlen hz ha2 hcell hW i
  have e:(if n=0 then 0 else min i n)=i:=by split<;>omega
  rwa [e] at this
 obtain ⟨XA,hXA⟩:∃XA,(cs.take i).flatMap vcells=XA:=⟨_,rfl⟩
 have hla:XA.length=i*5:=by rw [<-hXA,Zn vcells 5 (fun _=>rfl),List.length_take,Nat.min_eq_left (by omega)]
 have HA1:Hid (∀u ∈ XA,u.oneCell'=true):=by unfold Hid;rw [<-hXA];exact Ya _
 obtain ⟨XB,hXB⟩:∃XB,(cs.drop (i)).flatMap vcells=XB:=⟨_,rfl⟩
 have hlb:XB.length=(n - (i))*5:=by rw [<-hXB,Zn vcells 5 (fun _=>rfl),List.length_drop,hcl, <-hlen]
 have HB1:Hid (∀u ∈ XB,u.oneCell'=true):=by unfold Hid;rw [<-hXB];exact Ya _
 have hni:n - i=0:=by omega
 have hXBn:XB= [] :=List.eq_nil_of_length_eq_zero (by omega)
 have HP3:Hid (∀W,uB w W->Piece W (some ⟨b,off,none⟩) 0 0 XB):=fun W _=>by rw [hXBn];exact zbm W _ _ _
 rw [hXA] at HP1
 have HBX:=qh (BC.start w (uV cx) 36)
 have HAL:=qh ((Below.refl _ _).alloc (Nat.le_refl _) (.cells (uV cx) 36):uB w _)
 have HX:=qh hx
 have HPV:=qh hpv
 have HCL:=qh hcl
 have HLEN:=qh hlen
 have HXA:=qh hXA
 have HXB:=qh hXB
 obtain ⟨R,hR⟩:∃R,ListPost w B0 (insL l i x)=R:=⟨_,rfl⟩
 rw [hR]
 have HR:=qh hR
 have ho1:(w.alloc (.cells (uV cx) 36)).ownsRow (w.heap.size+1) 36 5 (.slice none 0 0) 0 [] :=⟨rfl, .inl ⟨rfl,rfl⟩⟩
 clear hl ha hcl hcell hpv hlen ha2 hXA hXB hx hR hz
 subst hab
 cases hic
 go_enter Tryz.func88,Tryz.ntmps88
 go_wp2_with (first
  |(at_builtin;refine Z1 _ rfl (.tmp 8) (.tmp 11) 33 (by rfl) (w.heap.size+1) 36 i0 _ 5 80 Tryz.underlying33 hi0 hz0 hz1 hz2 rfl (by omega) (.slice none 0 0) 0 [] (by rfl) ho1 (some ⟨b,off,none⟩) c c XA (by rfl) (HP1.out _ HAL.out) hla HA1.out (by unfold maxLen;omega) (by omega) (by simp) ?_;intro v1 w2 hown1 hgrow1;have b12:Below (w.heap.size+1) (w.alloc _) w2:=Zj hgrow1 (fun k hk=>by simp [Value.ownBlock] at hk) (by simp);have BX2:=HBX.out.keep b12 (by omega);obtain ⟨x0,x1,x2,x3,x4⟩:=row5 BX2.at_;have zs2:=BX2.lt;have HBL2:=qh (HAL.out.trans (b12.mono (by omega)));have hrl:∀g,v1.ownBlock=some g->w.heap.size+1<=g/\g<w2.heap.size:=hown1.lt;have ho2:=hown1.alloc (.cells (uV cx) 36);clear hown1 hgrow1 BX2 b12)
  |(at_builtin;refine Z1 _ rfl (.tmp 13) (.tmp 15) 33 (by rfl) (w.heap.size+1) 36 i0 _ 5 80 Tryz.underlying33 hi0 hz0 hz1 hz2 rfl (by omega) v1 (0+c) ([] ++XA) (by rfl) ho2 (some ⟨w2.heap.size,0,none⟩) 1 1 (vcells cx) (by rfl) (zbb w2 cx _) (by rfl) (by simp [vcells,Value.oneCell']) (by unfold maxLen;omega) (by omega) (by simp;omega) ?_;intro v2 w4 hown2 hgrow2;have b24:Below (w.heap.size+1) w2 w4:=(((Below.refl w2.heap.size w2).alloc (Nat.le_refl _) (.cells (uV cx) 36)).mono (by omega)).trans (Zj hgrow2 (fun k hk=>(hrl k hk).1) (by simp;omega));have HBL4:=qh (HBL2.out.trans (b24.mono (by omega)));have zs4:w.heap.size<w4.heap.size:=Nat.lt_of_lt_of_le zs2 b24.size;have hrl2:∀g,v2.ownBlock=some g->w.heap.size+1<=g/\g<w4.heap.size:=hown2.lt;have HO2:=qh hown2;clear hgrow2 b24 hown2)
  |(at_builtin;refine Z1 _ rfl (.tmp 17) (.tmp 20) 33 (by rfl) (w.heap.size+1) 36 i0 _ 5 80 Tryz.underlying33 hi0 hz0 hz1 hz2 rfl (by omega) v2 (0+c+1) ([] ++XA++vcells cx) (by rfl) HO2.out (some ⟨b,off,none⟩) 0 0 XB (by rfl) (HP3.out _ HBL4.out) (by omega) HB1.out (by unfold maxLen;omega) (by omega) (by omega) ?_;intro v3 w5 hown3 hgrow3;have b45:Below (w.heap.size+1) w4 w5:=Zj hgrow3 (fun k hk=>(hrl2 k hk).1) (by omega);have HBL5:=qh (HBL4.out.trans (b45.mono (by omega)));have HO3:=qh hown3;clear hgrow3 b45 hown3))
 rw [<-HR.out]
 have hcat: [] ++XA++vcells cx++XB=(insL cs c cx).flatMap vcells:=by rw [<-HXA.out, <-HXB.out];simp [insL]
 have hll:(insL l c x).length=0+c+1+0:=by
  rw [insL,List.length_append,List.length_cons,List.length_drop,List.length_take, <-HLEN.out];omega
 have hown:=HO3.out
 rw [hcat, <-hll] at hown
 have hlt3:=hown.lt
 have hsh:Shows (only (fun k=>B0<=k) w) (only (Free B0 v3) w5) w.heap.size:=Zd fun q hq hl=>⟨⟨hq,fun e=>by have:=(hlt3 q e.symm).1;omega⟩,HBL5.out.block q hl⟩
 have hpv:∀k,k<l.length->PV l cs (only (Free B0 v3) w5) w5.heap.size k:=fun k hk=>PV.closed l cs _ _ _ _ k hsh HBL5.out.size (HPV.out k hk)
 obtain ⟨a,n,c,hv,hf,hz⟩:=Qt (B0:=B0) (B1:=w.heap.size+1) hown (by omega) (by rw [insL,insL,List.length_append,List.length_append,List.length_cons,List.length_cons,List.length_take,List.length_take,List.length_drop,List.length_drop,HCL.out])
  (PV.append (by rw [List.length_take,List.length_take,HCL.out]) (PV.take hpv c) (PV.cons ((HX.out.sub hsh).more HBL5.out.size) (PV.drop hpv c))) (by rw [hll];omega)
 exact ⟨⟨a,n,c,by rw [hv],hf,hz⟩,HBL5.out⟩
set_option maxRecDepth 100000 in
theorem zhe (w:World) (B0:Nat) (hB0:B0<=w.heap.size) (l:List V) (a:Option Addr) (b off:Nat) (hab:a=(some ⟨b,off,none⟩)) (n c:Nat) (hl:IsVals (only (fun k=>B0<=k) w) w.heap.size l a n c) (hz:a=none->c=0) (i:Nat) (hi:i<=n) (x:V) (cx:VC) (hx:IsVal (only (fun k=>B0<=k) w) w.heap.size x cx) (hfew:n<=1000000000) (hic:i<c):
 uP 88 #[.slice a n c, .int .i64 i, .agg (uV cx)] w (ListPost w B0 (insL l i x)):=by
 delta uV uP
 obtain ⟨i0,hi0,hz0,hz1,hz2⟩:=info_parts Yh
 have hlen:=hl.len
 have hcap:=hl.cap
 have hmax:=hl.max
 have ha:=hl.at_
 obtain ⟨cs,hcl,hcell,hpv⟩:=hl.cells
 have ha2:0<n->∃b off,a=some ⟨b,off,none⟩:=fun h=>by
  obtain ⟨b,off,_,e,_⟩:=ha
  exact ⟨b,off,(e h).1⟩
 have HP1:Hid (∀W,uB w W->Piece W a i c ((cs.take i).flatMap vcells)):=fun W hW=>by
  have:=Jh hcl hlen hz ha2 hcell hW i
  have e:(if n=0 then 0 else min i n)=i:=by split<;>omega
  rwa [e] at this
 obtain ⟨XA,hXA⟩:∃XA,(cs.take i).flatMap vcells=XA:=⟨_,rfl⟩
 have hla:XA.length=i*5:=by rw [<-hXA,Zn vcells 5 (fun _=>rfl),List.length_take,Nat.min_eq_left (by omega)]
 have HA1:Hid (∀u ∈ XA,u.oneCell'=true):=by unfold Hid;rw [<-hXA];exact Ya _
 obtain ⟨XB,hXB⟩:∃XB,(cs.drop (i)).flatMap vcells=XB:=⟨_,rfl⟩
 have hlb:XB.length=(n - (i))*5:=by rw [<-hXB,Zn vcells 5 (fun _=>rfl),List.length_drop,hcl, <-hlen]
 have HB1:Hid (∀u ∈ XB,u.oneCell'=true):=by unfold Hid;rw [<-hXB];exact Ya _
 have HP3:Hid (∀W,uB w W->Piece W (some ⟨b,off+i*5,none⟩) (n - i) (c - i) XB):=fun W hW=>by rw [<-hXB];subst hab;exact zb1 hcl hlen hcell hW i hi _ _
 rw [hXA] at HP1
 have HBX:=qh (BC.start w (uV cx) 36)
 have HAL:=qh ((Below.refl _ _).alloc (Nat.le_refl _) (.cells (uV cx) 36):uB w _)
 have HX:=qh hx
 have HPV:=qh hpv
 have HCL:=qh hcl
 have HLEN:=qh hlen
 have HXA:=qh hXA
 have HXB:=qh hXB
 obtain ⟨R,hR⟩:∃R,ListPost w B0 (insL l i x)=R:=⟨_,rfl⟩
 rw [hR]
 have HR:=qh hR
 have ho1:(w.alloc (.cells (uV cx) 36)).ownsRow (w.heap.size+1) 36 5 (.slice none 0 0) 0 [] :=⟨rfl, .inl ⟨rfl,rfl⟩⟩
 clear hl ha hcl hcell hpv hlen ha2 hXA hXB hx hR hz
 subst hab
 go_enter Tryz.func88,Tryz.ntmps88
 go_wp2_with (first
  |(at_builtin;refine Z1 _ rfl (.tmp 8) (.tmp 11) 33 (by rfl) (w.heap.size+1) 36 i0 _ 5 80 Tryz.underlying33 hi0 hz0 hz1 hz2 rfl (by omega) (.slice none 0 0) 0 [] (by rfl) ho1 (some ⟨b,off,none⟩) i c XA (by rfl) (HP1.out _ HAL.out) hla HA1.out (by unfold maxLen;omega) (by omega) (by simp) ?_;intro v1 w2 hown1 hgrow1;have b12:Below (w.heap.size+1) (w.alloc _) w2:=Zj hgrow1 (fun k hk=>by simp [Value.ownBlock] at hk) (by simp);have BX2:=HBX.out.keep b12 (by omega);obtain ⟨x0,x1,x2,x3,x4⟩:=row5 BX2.at_;have zs2:=BX2.lt;have HBL2:=qh (HAL.out.trans (b12.mono (by omega)));have hrl:∀g,v1.ownBlock=some g->w.heap.size+1<=g/\g<w2.heap.size:=hown1.lt;have ho2:=hown1.alloc (.cells (uV cx) 36);clear hown1 hgrow1 BX2 b12)
  |(at_builtin;refine Z1 _ rfl (.tmp 13) (.tmp 15) 33 (by rfl) (w.heap.size+1) 36 i0 _ 5 80 Tryz.underlying33 hi0 hz0 hz1 hz2 rfl (by omega) v1 (0+i) ([] ++XA) (by rfl) ho2 (some ⟨w2.heap.size,0,none⟩) 1 1 (vcells cx) (by rfl) (zbb w2 cx _) (by rfl) (by simp [vcells,Value.oneCell']) (by unfold maxLen;omega) (by omega) (by simp;omega) ?_;intro v2 w4 hown2 hgrow2;have b24:Below (w.heap.size+1) w2 w4:=(((Below.refl w2.heap.size w2).alloc (Nat.le_refl _) (.cells (uV cx) 36)).mono (by omega)).trans (Zj hgrow2 (fun k hk=>(hrl k hk).1) (by simp;omega));have HBL4:=qh (HBL2.out.trans (b24.mono (by omega)));have zs4:w.heap.size<w4.heap.size:=Nat.lt_of_lt_of_le zs2 b24.size;have hrl2:∀g,v2.ownBlock=some g->w.heap.size+1<=g/\g<w4.heap.size:=hown2.lt;have HO2:=qh hown2;clear hgrow2 b24 hown2)
  |(at_builtin;refine Z1 _ rfl (.tmp 17) (.tmp 20) 33 (by rfl) (w.heap.size+1) 36 i0 _ 5 80 Tryz.underlying33 hi0 hz0 hz1 hz2 rfl (by omega) v2 (0+i+1) ([] ++XA++vcells cx) (by rfl) HO2.out (some ⟨b,off+i*5,none⟩) (n - i) (c - i) XB (by rfl) (HP3.out _ HBL4.out) (by omega) HB1.out (by unfold maxLen;omega) (by omega) (by omega) ?_;intro v3 w5 hown3 hgrow3;have b45:Below (w.heap.size+1) w4 w5:=Zj hgrow3 (fun k hk=>(hrl2 k hk).1) (by omega);have HBL5:=qh (HBL4.out.trans (b45.mono (by omega)));have HO3:=qh hown3;clear hgrow3 b45 hown3))
 rw [<-HR.out]
 have hcat: [] ++XA++vcells cx++XB=(insL cs i cx).flatMap vcells:=by rw [<-HXA.out, <-HXB.out];simp [insL]
 have hll:(insL l i x).length=0+i+1+(n - i):=by
  rw [insL,List.length_append,List.length_cons,List.length_drop,List.length_take, <-HLEN.out];omega
 have hown:=HO3.out
 rw [hcat, <-hll] at hown
 have hlt3:=hown.lt
 have hsh:Shows (only (fun k=>B0<=k) w) (only (Free B0 v3) w5) w.heap.size:=Zd fun q hq hl=>⟨⟨hq,fun e=>by have:=(hlt3 q e.symm).1;omega⟩,HBL5.out.block q hl⟩
 have hpv:∀k,k<l.length->PV l cs (only (Free B0 v3) w5) w5.heap.size k:=fun k hk=>PV.closed l cs _ _ _ _ k hsh HBL5.out.size (HPV.out k hk)
 obtain ⟨a,n,c,hv,hf,hz⟩:=Qt (B0:=B0) (B1:=w.heap.size+1) hown (by omega) (by rw [insL,insL,List.length_append,List.length_append,List.length_cons,List.length_cons,List.length_take,List.length_take,List.length_drop,List.length_drop,HCL.out])
  (PV.append (by rw [List.length_take,List.length_take,HCL.out]) (PV.take hpv i) (PV.cons ((HX.out.sub hsh).more HBL5.out.size) (PV.drop hpv i))) (by rw [hll];omega)
 exact ⟨⟨a,n,c,by rw [hv],hf,hz⟩,HBL5.out⟩
theorem zbz (w:World) (B0:Nat) (hB0:B0<=w.heap.size) (l:List V) (a:Option Addr) (n c:Nat) (hl:IsVals (only (fun k=>B0<=k) w) w.heap.size l a n c) (hz:Neat2 a c) (i:Nat) (hi:i<=n) (x:V) (xk xn:Int) (xs:ByteArray) (xa:Option Addr) (xl xc:Nat) (ya:Option Addr) (yl yc:Nat) (hx:IsVal (only (fun k=>B0<=k) w) w.heap.size x ⟨xk,xn,xs,xa,xl,xc,ya,yl,yc⟩) (hfew:n<=1000000000):
 uP 88 #[.slice a n c, .int .i64 i, .agg (uU xk xn xs xa xl xc ya yl yc)] w (ListPost w B0 (insL l i x)):=by
 delta uU uP
 have hcap:=hl.cap
 rcases hz with ⟨ha,hc⟩|⟨b,off,ha⟩
 .exact zqn w B0 hB0 l a ha n c hl (fun _=>hc) i hi x ⟨xk,xn,xs,xa,xl,xc,ya,yl,yc⟩ hx hfew
 .by_cases hic:i=c
  .exact zhv w B0 hB0 l a b off ha n c hl (fun h=>by rw [ha] at h;cases h) i hi x ⟨xk,xn,xs,xa,xl,xc,ya,yl,yc⟩ hx hfew hic
  .exact zhe w B0 hB0 l a b off ha n c hl (fun h=>by rw [ha] at h;cases h) i hi x ⟨xk,xn,xs,xa,xl,xc,ya,yl,yc⟩ hx hfew (by omega)
set_option maxRecDepth 100000 in
theorem zn7 (w:World) (B0:Nat) (hB0:B0<=w.heap.size) (l:List V) (a:Option Addr) (b off:Nat) (hab:a=some ⟨b,off,none⟩) (n c:Nat) (hl:IsVals (only (fun k=>B0<=k) w) w.heap.size l a n c) (hz:a=none->c=0) (i:Nat) (hi:i<n) (hfew:n<=1000000000) (hic:i+1=c):
 uP 89 #[.slice a n c, .int .i64 i] w (ListPost w B0 (remL l i)):=by
 delta uP
 have hwr:IntKind.i64.wrap ((i:Int)+1)=((i+1:Nat):Int):=by rw [IntWalk.i64_in _ (by omega)];omega
 obtain ⟨i0,hi0,hz0,hz1,hz2⟩:=info_parts Yh
 have hlen:=hl.len
 have hcap:=hl.cap
 have hmax:=hl.max
 have ha:=hl.at_
 obtain ⟨cs,hcl,hcell,hpv⟩:=hl.cells
 have ha2:0<n->∃b off,a=some ⟨b,off,none⟩:=fun h=>by
  obtain ⟨b,off,_,e,_⟩:=ha
  exact ⟨b,off,(e h).1⟩
 have HP1:Hid (∀W,uB w W->Piece W a i c ((cs.take i).flatMap vcells)):=fun W hW=>by
  have:=Jh hcl hlen hz ha2 hcell hW i
  have e:(if n=0 then 0 else min i n)=i:=by split<;>omega
  rwa [e] at this
 obtain ⟨XA,hXA⟩:∃XA,(cs.take i).flatMap vcells=XA:=⟨_,rfl⟩
 have hla:XA.length=i*5:=by rw [<-hXA,Zn vcells 5 (fun _=>rfl),List.length_take,Nat.min_eq_left (by omega)]
 have HA1:Hid (∀u ∈ XA,u.oneCell'=true):=by unfold Hid;rw [<-hXA];exact Ya _
 obtain ⟨XB,hXB⟩:∃XB,(cs.drop (i+1)).flatMap vcells=XB:=⟨_,rfl⟩
 have hlb:XB.length=(n - (i+1))*5:=by rw [<-hXB,Zn vcells 5 (fun _=>rfl),List.length_drop,hcl, <-hlen]
 have HB1:Hid (∀u ∈ XB,u.oneCell'=true):=by unfold Hid;rw [<-hXB];exact Ya _
 have hni:n - (i+1)=0:=by omega
 have hXBn:XB= [] :=List.eq_nil_of_length_eq_zero (by omega)
 have HP3:Hid (∀W,uB w W->Piece W (some ⟨b,off,none⟩) 0 0 XB):=fun W _=>by rw [hXBn];exact zbm W _ _ _
 rw [hXA] at HP1
 have HPV:=qh hpv
 have HCL:=qh hcl
 have HLEN:=qh hlen
 have HXA:=qh hXA
 have HXB:=qh hXB
 obtain ⟨R,hR⟩:∃R,ListPost w B0 (remL l i)=R:=⟨_,rfl⟩
 rw [hR]
 have HR:=qh hR
 have ho1:w.ownsRow w.heap.size 36 5 (.slice none 0 0) 0 [] :=⟨rfl, .inl ⟨rfl,rfl⟩⟩
 clear hl ha hcl hcell hpv hlen ha2 hXA hXB hR hz
 subst hab
 cases hic
 go_enter Tryz.func89,Tryz.ntmps89
 go_wp2_with (first
  |(at_builtin;refine Z1 _ rfl (.tmp 6) (.tmp 9) 33 (by rfl) w.heap.size 36 i0 _ 5 80 Tryz.underlying33 hi0 hz0 hz1 hz2 rfl (by omega) (.slice none 0 0) 0 [] (by rfl) ho1 (some ⟨b,off,none⟩) i (i+1) XA (by rfl) (HP1.out _ (Below.refl _ _)) hla HA1.out (by unfold maxLen;omega) (by omega) (Nat.le_refl _) ?_;intro v1 w2 hown1 hgrow1;have b12:uB w w2:=Zj hgrow1 (fun k hk=>by simp [Value.ownBlock] at hk) (Nat.le_refl _);have HBL2:=qh b12;have zs2:=b12.size;have hrl:∀g,v1.ownBlock=some g->w.heap.size<=g/\g<w2.heap.size:=hown1.lt;have HO1:=qh hown1;clear hown1 hgrow1 b12)
  |(at_builtin;refine Z1 _ rfl (.tmp 11) (.tmp 15) 33 (by rfl) w.heap.size 36 i0 _ 5 80 Tryz.underlying33 hi0 hz0 hz1 hz2 rfl (by omega) v1 (0+i) ([] ++XA) (by rfl) HO1.out (some ⟨b,off,none⟩) 0 0 XB (by rfl) (HP3.out _ HBL2.out) (by omega) HB1.out (by unfold maxLen;omega) (by omega) (by omega) ?_;intro v3 w5 hown3 hgrow3;have b45:Below w.heap.size w2 w5:=Zj hgrow3 (fun k hk=>(hrl k hk).1) (by omega);have HBL5:=qh (HBL2.out.trans b45);have HO3:=qh hown3;clear hgrow3 b45 hown3))
 rw [<-HR.out]
 have hcat: [] ++XA++XB=(remL cs i).flatMap vcells:=by rw [<-HXA.out, <-HXB.out];simp [remL]
 have hll:(remL l i).length=0+i+0:=by
  rw [remL,List.length_append,List.length_drop,List.length_take, <-HLEN.out];omega
 have hown:=HO3.out
 rw [hcat, <-hll] at hown
 have hlt3:=hown.lt
 have hsh:Shows (only (fun k=>B0<=k) w) (only (Free B0 v3) w5) w.heap.size:=Zd fun q hq hl=>⟨⟨hq,fun e=>by have:=(hlt3 q e.symm).1;omega⟩,HBL5.out.block q hl⟩
 have hpv:∀k,k<l.length->PV l cs (only (Free B0 v3) w5) w5.heap.size k:=fun k hk=>PV.closed l cs _ _ _ _ k hsh HBL5.out.size (HPV.out k hk)
 obtain ⟨a,n,c,hv,hf,hz⟩:=Qt (B0:=B0) (B1:=w.heap.size) hown (by omega) (by rw [remL,remL,List.length_append,List.length_append,List.length_take,List.length_take,List.length_drop,List.length_drop,HCL.out])
  (PV.append (by rw [List.length_take,List.length_take,HCL.out]) (PV.take hpv i) (PV.drop hpv (i+1))) (by rw [hll];omega)
 exact ⟨⟨a,n,c,by rw [hv];rfl,hf,hz⟩,HBL5.out⟩
set_option maxRecDepth 100000 in
theorem zfv (w:World) (B0:Nat) (hB0:B0<=w.heap.size) (l:List V) (a:Option Addr) (b off:Nat) (hab:a=some ⟨b,off,none⟩) (n c:Nat) (hl:IsVals (only (fun k=>B0<=k) w) w.heap.size l a n c) (hz:a=none->c=0) (i:Nat) (hi:i<n) (hfew:n<=1000000000) (hic:i+1<c):
 uP 89 #[.slice a n c, .int .i64 i] w (ListPost w B0 (remL l i)):=by
 delta uP
 have hwr:IntKind.i64.wrap ((i:Int)+1)=((i+1:Nat):Int):=by rw [IntWalk.i64_in _ (by omega)];omega
 obtain ⟨i0,hi0,hz0,hz1,hz2⟩:=info_parts Yh
 have hlen:=hl.len
 have hcap:=hl.cap
 have hmax:=hl.max
 have ha:=hl.at_
 obtain ⟨cs,hcl,hcell,hpv⟩:=hl.cells
 have ha2:0<n->∃b off,a=some ⟨b,off,none⟩:=fun h=>by
  obtain ⟨b,off,_,e,_⟩:=ha
  exact ⟨b,off,(e h).1⟩
 have HP1:Hid (∀W,uB w W->Piece W a i c ((cs.take i).flatMap vcells)):=fun W hW=>by
  have:=Jh hcl hlen hz ha2 hcell hW i
  have e:(if n=0 then 0 else min i n)=i:=by split<;>omega
  rwa [e] at this
 obtain ⟨XA,hXA⟩:∃XA,(cs.take i).flatMap vcells=XA:=⟨_,rfl⟩
 have hla:XA.length=i*5:=by rw [<-hXA,Zn vcells 5 (fun _=>rfl),List.length_take,Nat.min_eq_left (by omega)]
 have HA1:Hid (∀u ∈ XA,u.oneCell'=true):=by unfold Hid;rw [<-hXA];exact Ya _
 obtain ⟨XB,hXB⟩:∃XB,(cs.drop (i+1)).flatMap vcells=XB:=⟨_,rfl⟩
 have hlb:XB.length=(n - (i+1))*5:=by rw [<-hXB,Zn vcells 5 (fun _=>rfl),List.length_drop,hcl, <-hlen]
 have HB1:Hid (∀u ∈ XB,u.oneCell'=true):=by unfold Hid;rw [<-hXB];exact Ya _
 have HP3:Hid (∀W,uB w W->Piece W (some ⟨b,off+(i+1)*5,none⟩) (n - (i+1)) (c - (i+1)) XB):=fun W hW=>by rw [<-hXB];subst hab;exact zb1 hcl hlen hcell hW (i+1) (by omega) _ _
 rw [hXA] at HP1
 have HPV:=qh hpv
 have HCL:=qh hcl
 have HLEN:=qh hlen
 have HXA:=qh hXA
 have HXB:=qh hXB
 obtain ⟨R,hR⟩:∃R,ListPost w B0 (remL l i)=R:=⟨_,rfl⟩
 rw [hR]
 have HR:=qh hR
 have ho1:w.ownsRow w.heap.size 36 5 (.slice none 0 0) 0 [] :=⟨rfl, .inl ⟨rfl,rfl⟩⟩
 clear hl ha hcl hcell hpv hlen ha2 hXA hXB hR hz
 subst hab
 go_enter Tryz.func89,Tryz.ntmps89
 go_wp2_with (first
  |(at_builtin;refine Z1 _ rfl (.tmp 6) (.tmp 9) 33 (by rfl) w.heap.size 36 i0 _ 5 80 Tryz.underlying33 hi0 hz0 hz1 hz2 rfl (by omega) (.slice none 0 0) 0 [] (by rfl) ho1 (some ⟨b,off,none⟩) i c XA (by rfl) (HP1.out _ (Below.refl _ _)) hla HA1.out (by unfold maxLen;omega) (by omega) (Nat.le_refl _) ?_;intro v1 w2 hown1 hgrow1;have b12:uB w w2:=Zj hgrow1 (fun k hk=>by simp [Value.ownBlock] at hk) (Nat.le_refl _);have HBL2:=qh b12;have zs2:=b12.size;have hrl:∀g,v1.ownBlock=some g->w.heap.size<=g/\g<w2.heap.size:=hown1.lt;have HO1:=qh hown1;clear hown1 hgrow1 b12)
  |(at_builtin;refine Z1 _ rfl (.tmp 11) (.tmp 15) 33 (by rfl) w.heap.size 36 i0 _ 5 80 Tryz.underlying33 hi0 hz0 hz1 hz2 rfl (by omega) v1 (0+i) ([] ++XA) (by rfl) HO1.out (some ⟨b,off+(i+1)*5,none⟩) (n - (i+1)) (c - (i+1)) XB (by rfl) (HP3.out _ HBL2.out) (by omega) HB1.out (by unfold maxLen;omega) (by omega) (by omega) ?_;intro v3 w5 hown3 hgrow3;have b45:Below w.heap.size w2 w5:=Zj hgrow3 (fun k hk=>(hrl k hk).1) (by omega);have HBL5:=qh (HBL2.out.trans b45);have HO3:=qh hown3;clear hgrow3 b45 hown3))
 rw [<-HR.out]
 have hcat: [] ++XA++XB=(remL cs i).flatMap vcells:=by rw [<-HXA.out, <-HXB.out];simp [remL]
 have hll:(remL l i).length=0+i+(n - (i+1)):=by
  rw [remL,List.length_append,List.length_drop,List.length_take, <-HLEN.out];omega
 have hown:=HO3.out
 rw [hcat, <-hll] at hown
 have hlt3:=hown.lt
 have hsh:Shows (only (fun k=>B0<=k) w) (only (Free B0 v3) w5) w.heap.size:=Zd fun q hq hl=>⟨⟨hq,fun e=>by have:=(hlt3 q e.symm).1;omega⟩,HBL5.out.block q hl⟩
 have hpv:∀k,k<l.length->PV l cs (only (Free B0 v3) w5) w5.heap.size k:=fun k hk=>PV.closed l cs _ _ _ _ k hsh HBL5.out.size (HPV.out k hk)
 obtain ⟨a,n,c,hv,hf,hz⟩:=Qt (B0:=B0) (B1:=w.heap.size) hown (by omega) (by rw [remL,remL,List.length_append,List.length_append,List.length_take,List.length_take,List.length_drop,List.length_drop,HCL.out])
  (PV.append (by rw [List.length_take,List.length_take,HCL.out]) (PV.take hpv i) (PV.drop hpv (i+1))) (by rw [hll];omega)
 exact ⟨⟨a,n,c,by rw [hv];rfl,hf,hz⟩,HBL5.out⟩
theorem zci (w:World) (B0:Nat) (hB0:B0<=w.heap.size) (l:List V) (a:Option Addr) (n c:Nat) (hl:IsVals (only (fun k=>B0<=k) w) w.heap.size l a n c) (i:Nat) (hi:i<n) (hfew:n<=1000000000):
 uP 89 #[.slice a n c, .int .i64 i] w (ListPost w B0 (remL l i)):=by
 delta uP
 have hcap:=hl.cap
 obtain ⟨b,off,_,h5,_⟩:=hl.at_
 obtain ⟨ha,_⟩:=h5 (by omega)
 by_cases hic:i+1=c
 .exact zn7 w B0 hB0 l a b off ha n c hl (fun h=>by rw [ha] at h;cases h) i hi hfew hic
 .exact zfv w B0 hB0 l a b off ha n c hl (fun h=>by rw [ha] at h;cases h) i hi hfew (by omega)
def ezero:EC:=⟨0,0,0,vzero,none,0,0⟩
def ecells (c:EC):List Value:= [.int .u8 c.k, .int .u32 c.src, .int .u32 c.seq, .int .u8 c.v.k, .int .i64 c.v.n, .string c.v.s, .slice c.v.la c.v.ll c.v.lc, .slice c.v.oa c.v.ol c.v.oc, .slice c.oa c.ol c.oc]
structure EB (w W:World) (rb eb:Nat) (r:List UInt8) (v:V) (l:List Cm) (c:EC):Prop where
 rdr:Rdr W rb r 0
 st:RStep w W rb
 res:BC W w.heap.size (ecells ezero)
 box:BC W eb (ecells c)
 val:IsVal (only (fun b=>eb+1<=b) W) W.heap.size v c.v
 ops:IsComps (only (fun b=>eb+1<=b) W) W.heap.size l c.oa c.ol c.oc
 lo:w.heap.size+1<=eb
 lt:rb<w.heap.size
theorem Kb {w':World} {A:Prop} {r:Option V} {er:Int} {d:VC} {m m':Nat} (e:m=m') (h:Hid (A∨∃z,r=some z/\er=0/\IsVal (only (fun b=>m<=b) w') w'.heap.size z d)):Hid (A∨∃z,(r=some z/\er=0)/\IsVal (only (fun b=>m'<=b) w') w'.heap.size z d):=by
 subst e
 exact h.out.imp_right fun ⟨z,h1,h2,h3⟩=>⟨z,⟨h1,h2⟩,h3⟩
theorem IsSteps.tail {w:World} {B:Nat} {s:St} {r:List St} {b q n c:Nat} (h:IsSteps w B (s::r) (some ⟨b,q,none⟩) n c) (a':Option Addr) (c':Nat) (hc:n - 1<=c') (hc':c'<=9223372036854775807) (ha:1<n->a'=some ⟨b,q+3,none⟩):IsSteps w B r a' (n - 1) c':=by
 obtain ⟨h1,h2,h3,h4,b',q',h5,h6⟩:=h
 rw [List.length_cons] at h1
 obtain ⟨e1,e2⟩:=h5 (by omega)
 injection e1 with e1;injection e1 with e1 e3
 subst e1 e3
 refine ⟨by omega,hc,hc',by omega,b,q+3,fun hp=>⟨ha (by omega),e2⟩,fun i hi=> ?_⟩
 have:=h6 (i+1) (by rw [List.length_cons];omega)
 rw [show q+3+i*3=q+(i+1)*3 by omega]
 simpa using this
set_option maxRecDepth 100000 in
theorem zf0 (w:World) (vk vn:Int) (vs:ByteArray) (la:Option Addr) (ll lc:Nat) (oa:Option Addr) (ol oc:Nat) (v:V) (_hv:IsVal w w.heap.size v ⟨vk,vn,vs,la,ll,lc,oa,ol,oc⟩) (a:Option Addr) (n c:Nat) (xk xn:Int) (xs:ByteArray) (xa:Option Addr) (xl xc:Nat) (ya:Option Addr) (yl yc:Nat) (x:V) (hx:IsVal w w.heap.size x ⟨xk,xn,xs,xa,xl,xc,ya,yl,yc⟩) (hn:n=0):
 uP 51 #[.agg (uU vk vn vs la ll lc oa ol oc), .slice a n c, .agg (uU xk xn xs xa xl xc ya yl yc)] w (GetPost w (putP v [] x)):=by
 delta uU uP
 have HX:=qh hx
 have HB:=qh (PB.start w ⟨vk,vn,vs,la,ll,lc,oa,ol,oc⟩ ⟨xk,xn,xs,xa,xl,xc,ya,yl,yc⟩ 36 36 36)
 have HC:Hid (∀W,uB w W->uP 30 #[.agg (uU xk xn xs xa xl xc ya yl yc)] W (NewVal W x)):=fun W hW=>Yp x W ⟨xk,xn,xs,xa,xl,xc,ya,yl,yc⟩ (HX.out.later_ hW)
 subst hn
 clear hx
 go_enter Tryz.func51,Tryz.ntmps51
 generalize hQ0:bodyPost _ _ _=Q0
 have HQ:=qh hQ0
 clear hQ0
 go_wp2_with fail
 refine (HC.out _ HB.out.below).mono ?_
 rintro e w4 ⟨⟨d,rfl,hI4⟩,hb4⟩
 have B2:=HB.out.next hb4 (by simp)
 obtain ⟨v0,v1,v2,v3,v4⟩:=row5 B2.v.at_
 obtain ⟨x0,x1,x2,x3,x4⟩:=row5 B2.x.at_
 obtain ⟨r0,r1,r2,r3,r4⟩:=row5 B2.r.at_
 have f0:=B2.r.fr 0;have f1:=B2.r.fr 1;have f2:=B2.r.fr 2;have f3:=B2.r.fr 3;have f4:=B2.r.fr 4
 have z0:=B2.v.lt;have z1:=B2.x.lt;have z2:=B2.r.lt
 have HB2:=qh B2
 have HI:=qh hI4
 clear B2 hI4 hb4
 go_wp2_with fail
 rw [<-HQ.out]
 have ST:=HB2.out.result d
 exact zbe ST.1 ((Zm (base:=w.heap.size+1+1+1) (HI.out.sub (Zd fun k hk _=>⟨by simpa using hk,rfl⟩)) (Zi w4 (w.heap.size+1+1) 0 d) (by omega)).sub (Zd fun k hk _=>⟨by omega,rfl⟩)) ST.2 rfl rfl rfl
end Go.Proofs.YtnjgbiachcfigaaGreatDoor
