/- Walks. -/
import Derived.Test.YtbgheehjfnoiiaaGreatDoorIu3
import Derived.Laws.AppendOwn
set_option maxRecDepth 100000
namespace Go.Proofs.YtbgheehjfnoiiaaGreatDoor
open Go.RowKit
set_option maxHeartbeats 8000000
def V.setL:V->Nat->V->V
 | .mk k n s l o,i,z=> .mk k n s (l.set i z) o
def putO (o:List (ByteArray×V)) (i:Nat) (z:V):List (ByteArray×V):=o.set i ((o.getD i (.empty,V.none)).1,z)
def V.setO:V->Nat->V->V
 | .mk k n s l o,i,z=> .mk k n s l (putO o i z)
def setV (W:World) (g o:Nat) (c:VC):World:=((((W.setCell ⟨g,o,none⟩ (.int .u8 c.k)).setCell ⟨g,o+1,none⟩ (.int .i64 c.n)).setCell ⟨g,o+2,none⟩ (.string c.s)).setCell ⟨g,o+3,none⟩ (.slice c.la c.ll c.lc)).setCell ⟨g,o+4,none⟩ (.slice c.oa c.ol c.oc)
theorem Zh (W:World) (g o:Nat) (c:VC):RStep W (setV W g o c) g:=(((RStep.self.trans RStep.self).trans RStep.self).trans RStep.self).trans RStep.self
theorem Zx {W:World} {b:Nat} {c0:VC} (h:BC W b (vcells c0)) (c:VC):BC (setV W b 0 c) b (vcells c):=
 ((((h.set (i:=0) (x:= .int .u8 c.k) (by simp [vcells])).set (i:=1) (x:= .int .i64 c.n) (by simp [vcells])).set (i:=2) (x:= .string c.s) (by simp [vcells])).set (i:=3) (x:= .slice c.la c.ll c.lc) (by simp [vcells])).set (i:=4) (x:= .slice c.oa c.ol c.oc) (by simp [vcells])
theorem zbr (cl:List VC) (k:Nat) (hk:k<cl.length) (z:VC):(((((cl.flatMap vcells).set (k*5) (.int .u8 z.k)).set (k*5+1) (.int .i64 z.n)).set (k*5+2) (.string z.s)).set (k*5+3) (.slice z.la z.ll z.lc)).set (k*5+4) (.slice z.oa z.ol z.oc)=(cl.set k z).flatMap vcells:=by
 induction cl generalizing k with
 |nil=>cases hk
 | cons c r ih=>
   cases k with
   |zero=>simp [vcells]
   | succ k=>
     have e:∀t,(k+1)*5+t=(vcells c).length+(k*5+t):=fun t=>by show _=5+_;omega
     have e0:(k+1)*5=(vcells c).length+(k*5):=by show _=5+_;omega
     rw [e 1,e 2,e 3,e 4,e0];simp only [List.flatMap_cons,List.set_cons_succ];rw [<-ih k (by simpa using hk)];simp only [List.set_append_right _ _ (Nat.le_add_right _ _),Nat.add_sub_cancel_left]
theorem zfd (co:List (ByteArray×VC)) (k:Nat) (hk:k<co.length) (z:VC):(((((co.flatMap fcells).set (k*6+1) (.int .u8 z.k)).set (k*6+1+1) (.int .i64 z.n)).set (k*6+1+2) (.string z.s)).set (k*6+1+3) (.slice z.la z.ll z.lc)).set (k*6+1+4) (.slice z.oa z.ol z.oc)=(co.set k (co[k].1,z)).flatMap fcells:=by
 induction co generalizing k with
 |nil=>cases hk
 | cons c r ih=>
   cases k with
   |zero=>simp [fcells]
   | succ k=>
     have e:∀t,(k+1)*6+1+t=(fcells c).length+(k*6+1+t):=fun t=>by show _=6+_;omega
     have e0:(k+1)*6+1=(fcells c).length+(k*6+1):=by show _=6+_;omega
     rw [e 1,e 2,e 3,e 4,e0];simp only [List.flatMap_cons,List.set_cons_succ,List.getElem_cons_succ];rw [<-ih k (by simpa using hk)];simp only [List.set_append_right _ _ (Nat.le_add_right _ _),Nat.add_sub_cancel_left]
theorem znf {W:World} {g:Nat} {cl:List VC} (h:BC W g (cl.flatMap vcells)) {k:Nat} (hk:k<cl.length) (z:VC):BC (setV W g (k*5) z) g ((cl.set k z).flatMap vcells):=by have hl:(cl.flatMap vcells).length=cl.length*5:=Zk vcells 5 (fun _=>rfl) cl;rw [<-zbr cl k hk z];exact ((((h.set (by omega)).set (by simp only [List.length_set];omega)).set (by simp only [List.length_set];omega)).set (by simp only [List.length_set];omega)).set (by simp only [List.length_set];omega)
theorem zf1 {W:World} {g:Nat} {co:List (ByteArray×VC)} (h:BC W g (co.flatMap fcells)) {k:Nat} (hk:k<co.length) (z:VC):BC (setV W g (k*6+1) z) g ((co.set k (co[k].1,z)).flatMap fcells):=by have hl:(co.flatMap fcells).length=co.length*6:=Zk fcells 6 (fun _=>rfl) co;rw [<-zfd co k hk z];exact ((((h.set (by omega)).set (by simp only [List.length_set];omega)).set (by simp only [List.length_set];omega)).set (by simp only [List.length_set];omega)).set (by simp only [List.length_set];omega)
theorem J6 {a:Option Addr} {n c g:Nat} (e:a=some ⟨g,0,none⟩):(Value.slice a n c).ownBlock=some g:=by subst e;rfl
theorem PV.set {l:List V} {cl:List VC} {W:World} {B:Nat} (hl:cl.length=l.length) (h:∀i,i<l.length->PV l cl W B i) {z:V} {cz:VC} (hz:IsVal W B z cz) (k:Nat):∀i,i<(l.set k z).length->PV (l.set k z) (cl.set k cz) W B i:=by
 intro i hi hi2;rw [List.length_set] at hi;rw [zzb];by_cases e:k=i
 .subst e;rw [List.getElem?_set_self (by omega),List.getElem_set_self];exact hz
 .rw [List.getElem?_set_ne e,List.getElem_set_ne e, <-zzb];exact h i hi hi
theorem PF.put {o:List (ByteArray×V)} {co:List (ByteArray×VC)} {W:World} {B:Nat} (h:∀i,i<o.length->PF o co W B i) {z:V} {cz:VC} (hz:IsVal W B z cz) (k:Nat) (hk:k<co.length):∀i,i<(putO o k z).length->PF (putO o k z) (co.set k (co[k].1,cz)) W B i:=by
 intro i hi hi2;unfold putO at hi hi2 ⊢;rw [List.length_set] at hi;rw [zzb];by_cases e:k=i
 .subst e;rw [List.getElem?_set_self (by omega)];simp only [List.getElem_set_self];obtain ⟨p1,p2,_⟩:=h k hi hi;have he:co.getD k fzero=co[k] :=by simp [List.getD_eq_getElem?_getD,hk]
  have he2:o.getD k (.empty,V.none)=o[k] :=by simp [List.getD_eq_getElem?_getD,hi]
  rw [he] at p1;rw [he2];exact ⟨p1,p2,hz⟩
 .rw [List.getElem?_set_ne e, <-zzb];simp only [List.getElem_set_ne e];exact h i hi hi
theorem K3 (o:List (ByteArray×V)) (k:Nat) (z:V):(putO o k z).length=o.length:=List.length_set
section
variable {w:World} {base base':Nat} {l:List V} {o:List (ByteArray×V)} {a:Option Addr} {m c:Nat} {a':Option Addr} {m' c':Nat} {cl:List VC} {co:List (ByteArray×VC)}
theorem Fresh.setL (h:Fresh w base l o a m c a' m' c' cl co) (hB:base'<=base) {kk:Nat} (hkk:kk<l.length) {z:V} {cz:VC} {g:Nat} (hg:a=some ⟨g,0,none⟩)
 (hz:IsVal (only (fun b=>base'<=b/\b≠g) w) w.heap.size z cz) {k n:Int} {s:ByteArray} (hk0:0<=k) (hk1:k<256) (hn0: -9223372036854775808<=n) (hn1:n<=9223372036854775807) (hs:s.size<=140737488355328):
 IsVal (only (fun b=>base'<=b) (setV w g (kk*5) cz)) (setV w g (kk*5) cz).heap.size (.mk k n s (l.set kk z) o) ⟨k,n,s,a,m,c,a',m',c'⟩:=by
 obtain ⟨g',e,hgb,hbc⟩:=h.ownL.row (.inr (by rw [hg];simp));obtain rfl:g=g':=by rw [hg] at e;injection e with e;injection e
 have st:=Zh w g (kk*5) cz;have hu:(Value.slice a m c).ownBlock=some g:=J6 hg;have hsh:Shows (only (Free2 base (.slice a m c) (.slice a' m' c')) w) (only (fun b=>base'<=b) (setV w g (kk*5) cz)) w.heap.size:=Zc fun q hq hl=>⟨zzl hB hq.1,st.block q hl (fun e=>hq.2.1 (by rw [e,hu]))⟩;have hsz:Shows (only (fun b=>base'<=b/\b≠g) w) (only (fun b=>base'<=b) (setV w g (kk*5) cz)) w.heap.size:=Zc fun q hq hl=>⟨hq.1,st.block q hl hq.2⟩;refine Ql hk0 hk1 hn0 hn1 hs (by rw [List.length_set];exact h.len) h.len' (cl:=cl.set kk cz) (co:=co) (by simp [h.ll]) h.lo (by rw [List.length_set];exact h.few) h.few' h.ownL.cap h.ownL.max h.ownO.cap h.ownO.max (fun hp=> ?_) (fun hp=> ?_) (PV.set h.ll (fun i hi=>PV.closed _ _ _ _ _ _ i hsh st.size (h.lv i hi)) ((hz.sub hsz).more st.size) kk) (fun i hi=>PF.closed _ _ _ _ _ _ i hsh st.size (h.ov i hi))
 .exact ⟨g,hg,zzj hbc.lt st.size,fun i hi=>Yq (zzl hB hgb) (Y2 (znf hbc (by rw [h.ll];exact hkk) cz) hi)⟩
 .obtain ⟨q,e,hq,hbo⟩:=h.ownO.row (.inl hp);have hne:q≠g:=fun e2=>h.ne g hu (by rw [J6 e,e2]);have hbo':=hbo.next st hne;exact ⟨q,e,hbo'.lt,fun i hi=>⟨Z2 (zzl hB hq) (Yc hbo' hi).1,Yq (zzl hB hq) (Yc hbo' hi).2⟩⟩
theorem Fresh.setO (h:Fresh w base l o a m c a' m' c' cl co) (hB:base'<=base) {kk:Nat} (hkk:kk<o.length) {z:V} {cz:VC} {g:Nat} (hg:a'=some ⟨g,0,none⟩)
 (hz:IsVal (only (fun b=>base'<=b/\b≠g) w) w.heap.size z cz) {k n:Int} {s:ByteArray} (hk0:0<=k) (hk1:k<256) (hn0: -9223372036854775808<=n) (hn1:n<=9223372036854775807) (hs:s.size<=140737488355328):
 IsVal (only (fun b=>base'<=b) (setV w g (kk*6+1) cz)) (setV w g (kk*6+1) cz).heap.size (.mk k n s l (putO o kk z)) ⟨k,n,s,a,m,c,a',m',c'⟩:=by
 obtain ⟨g',e,hgb,hbc⟩:=h.ownO.row (.inr (by rw [hg];simp));obtain rfl:g=g':=by rw [hg] at e;injection e with e;injection e
 have st:=Zh w g (kk*6+1) cz;have hu:(Value.slice a' m' c').ownBlock=some g:=J6 hg;have hsh:Shows (only (Free2 base (.slice a m c) (.slice a' m' c')) w) (only (fun b=>base'<=b) (setV w g (kk*6+1) cz)) w.heap.size:=Zc fun q hq hl=>⟨zzl hB hq.1,st.block q hl (fun e=>hq.2.2 (by rw [e,hu]))⟩;have hsz:Shows (only (fun b=>base'<=b/\b≠g) w) (only (fun b=>base'<=b) (setV w g (kk*6+1) cz)) w.heap.size:=Zc fun q hq hl=>⟨hq.1,st.block q hl hq.2⟩;refine Ql hk0 hk1 hn0 hn1 hs h.len (by rw [K3];exact h.len') (cl:=cl) (co:=co.set kk ((co[kk]'(by rw [h.lo];exact hkk)).1,cz)) h.ll (by rw [K3];simp [h.lo]) h.few (by rw [K3];exact h.few') h.ownL.cap h.ownL.max h.ownO.cap h.ownO.max (fun hp=> ?_) (fun hp=> ?_) (fun i hi=>PV.closed _ _ _ _ _ _ i hsh st.size (h.lv i hi)) (PF.put (fun i hi=>PF.closed _ _ _ _ _ _ i hsh st.size (h.ov i hi)) ((hz.sub hsz).more st.size) kk (by rw [h.lo];exact hkk))
 .obtain ⟨q,e,hq,hbo⟩:=h.ownL.row (.inl hp);have hne:q≠g:=fun e2=>h.ne q (J6 e) (by rw [hu,e2]);have hbo':=hbo.next st hne;exact ⟨q,e,hbo'.lt,fun i hi=>Yq (zzl hB hq) (Y2 hbo' hi)⟩
 .have hb2:=zf1 hbc (k:=kk) (by rw [h.lo];exact hkk) cz;exact ⟨g,hg,hb2.lt,fun i hi=>⟨Z2 (zzl hB hgb) (Yc hb2 hi).1,Yq (zzl hB hgb) (Yc hb2 hi).2⟩⟩
end
def fieldK (o:List (ByteArray×V)) (key:ByteArray):Nat:=(o.takeWhile fun f=>Op.bytesLess f.1.toList key.toList).length
def fieldIs (o:List (ByteArray×V)) (key:ByteArray):Bool:=match o[fieldK o key]? with
 |some f=>f.1.toList==key.toList
 |none=>false
theorem Q6 (o:List (ByteArray×V)) (key:ByteArray) (j:Nat) (h:∀i (hi:i<o.length),i<j->Op.bytesLess (o[i]'hi).1.toList key.toList=true) (hj:j<=o.length) (he:j=o.length∨∃hi:j<o.length,Op.bytesLess (o[j]'hi).1.toList key.toList=false):fieldK o key=j:=by
 unfold fieldK
 induction o generalizing j with
 |nil=>simp at hj;subst hj;rfl
 | cons f o ih=>
   cases j with
   | zero=>
     rcases he with he|⟨hi,he⟩
     .simp at he
     .simp only [List.getElem_cons_zero] at he;simp [he]
   | succ j=>
     have h0:=h 0 (by simp) (by omega);simp only [List.getElem_cons_zero] at h0;have:=ih j (fun i hi hij=>by have:=h (i+1) (by simpa using hi) (by omega);simpa using this) (by simpa using hj) (by
      rcases he with he|⟨hi,he⟩
      .left;simpa using he
      .right;exact ⟨by simpa using hi,by simpa using he⟩)
     simp [h0,this]
theorem Ye {B:Nat} {a w:World} (h:Below B a w) (n:Nat):Below B a (w.drewN n):=h.trans ⟨rfl,rfl,rfl,zza _,fun _ _=>rfl⟩
theorem Yu (w:World) (o:List (ByteArray×V)) (key:ByteArray) (k n:Int) (s:ByteArray) (la:Option Addr) (ll lc:Nat) (oa:Option Addr) (ol oc:Nat) (h:IsFields w w.heap.size o oa ol oc):
 uP 103 #[.agg (uU k n s la ll lc oa ol oc), .string key] w fun e w'=>e= .returned (.tuple #[.int .i64 (fieldK o key:Int), .bool (fieldIs o key)])/\uB w w':=by
 delta uU uB uP;have hlen:=h.len;have HI:=qh h;have HL:=qh hlen;have k1:=h.max;have k2:=h.few;have HB0:=qh (BC.start w (uU k n s la ll lc oa ol oc) 29);clear h hlen;go_enter Tryz.func103,Tryz.ntmps103
 go_wp2_with fail
 go_loopw [6] (fun i wr=>BC wr w.heap.size [.int .u8 k, .int .i64 n, .string s, .slice la ll lc, .slice oa ol oc] /\uB w wr/\∃j:Nat,j<=ol/\i= .int .i64 j/\Hid (∀i (hi:i<o.length),i<j->Op.bytesLess (o[i]'hi).1.toList key.toList=true)) (fun i _=>ol - (intOf i).toNat)
 case atStart=>exact ⟨HB0.out,(zzc _ _).alloc (zza _) _,0,Nat.zero_le _,rfl,qh (fun i hi hj=>by omega)⟩
 case round=>
  obtain ⟨hbc,hbl,j,hj,rfl,hall⟩:=hrel;have c4:=hbc.at_ 4 _ rfl;have zs:=hbc.lt;have HBC:=qh hbc;have HBL:=qh hbl;by_cases hlt:j<ol
  .obtain ⟨b,o',f,hp,rfl,hbB,hkey,hks,_⟩:=(HI.out.keep hbl).get hlt;have hbw:b<wr.heap.size:=zzi wr _ hkey;obtain ⟨lb,hlb⟩:∃lb,Op.bytesLess (o[j]'hp).1.toList key.toList=lb:=⟨_,rfl⟩
   cases lb with
   | true=>
     have HLB:=qh hlb;clear hbc hbl;go_wp2_with fail;go_roundw
     case rel=>exact ⟨HBC.out,HBL.out,j+1,by omega,by go_num,qh (fun i hi hij=>by
      by_cases e:i=j
      .subst e;exact HLB.out
      .exact hall.out i hi (by omega))⟩
     case measure=>simp [intOf];omega
   | false=>
     obtain ⟨eb,heb⟩:∃eb,((o[j]'hp).1.toList==key.toList)=eb:=⟨_,rfl⟩;have hk:fieldK o key=j:=Q6 o key j hall.out (by omega) (.inr ⟨hp,hlb⟩);have hi:fieldIs o key=eb:=by rw [fieldIs,hk,zzg hp];exact heb
     have HK:=qh hk;have HII:=qh hi;clear hbc hbl hk hi;go_wp2_with fail
     go_quiet (fail)
     go_wp2_with fail;go_returns
     exact ⟨by rw [HK.out,HII.out];rfl,Ye HBL.out _⟩
  .have hj2:j=ol:=by omega
   subst hj2;have hk:fieldK o key=j:=Q6 o key j hall.out (by rw [HL.out];exact zza _) (.inl HL.out);have hi:fieldIs o key=false:=by rw [fieldIs,hk,List.getElem?_eq_none (by rw [HL.out];exact zza _)]
   have HK:=qh hk;have HII:=qh hi;clear hbc hbl hk hi;go_wp2_with fail
   go_quiet (fail)
   go_wp2_with fail;go_returns
   exact ⟨by rw [HK.out,HII.out];rfl,Ye HBL.out _⟩
def withF (o:List (ByteArray×V)) (key:ByteArray) (x:V):List (ByteArray×V):=o.take (fieldK o key)++(key,x)::o.drop (if fieldIs o key=true then fieldK o key+1 else fieldK o key)
theorem Yb (o:List (ByteArray×V)) (key:ByteArray):fieldK o key<=o.length:=(List.takeWhile_sublist _).length_le
theorem Yf {o:List (ByteArray×V)} {key:ByteArray} (h:fieldIs o key=true):fieldK o key<o.length:=by
 unfold fieldIs at h;by_cases hq:fieldK o key<o.length
 .exact hq
 .rw [List.getElem?_eq_none (by omega)] at h;cases h
theorem IsFields.cells {w:World} {B:Nat} {o:List (ByteArray×V)} {a:Option Addr} {n c:Nat} (h:IsFields w B o a n c):
 ∃(cs:List (ByteArray×VC)) (b off:Nat),cs.length=o.length/\(0<n->a=some ⟨b,off,none⟩/\b<B)/\(∀j u,(cs.flatMap fcells)[j]? =some u->w.cell? ⟨b,off+j,none⟩=some u)/\∀i,i<o.length->PF o cs w B i:=by
 obtain ⟨h1,h2,h3,h4,b,off,f,h5,h6⟩:=h;have hlen:((List.range o.length).map fun i=>((o.getD i (.empty,V.none)).1,f i)).length=o.length:=by simp
 have hget:∀i (hi:i<o.length),((List.range o.length).map fun i=>((o.getD i (.empty,V.none)).1,f i))[i]? =some (o[i].1,f i):=by intro i hi;simp [hi,List.getD_eq_getElem?_getD]
 refine ⟨(List.range o.length).map fun i=>((o.getD i (.empty,V.none)).1,f i),b,off,hlen,h5,fun j u hj=> ?_,fun i hi h=> ?_⟩
 .have hjl:j<o.length*6:=by have:=(List.getElem?_eq_some_iff.1 hj).1;rw [Zk fcells 6 (fun _=>rfl),hlen] at this;exact this
  have hi:j / 6<o.length:=by omega
  have hd:j=j / 6*6+j % 6:=by omega
  rw [hd,Yx fcells 6 (fun _=>rfl) _ (j / 6) (j % 6) (by rw [hlen];exact hi) (by omega)] at hj;have he:((List.range o.length).map fun i=>((o.getD i (.empty,V.none)).1,f i))[j / 6]'(by rw [hlen];exact hi)=(o[j / 6].1,f (j / 6)):=by have:=hget (j / 6) hi;rw [zzg (by rw [hlen];exact hi)] at this;exact Option.some.inj this
  rw [he] at hj;obtain ⟨g1,g2,g3,g4⟩:=h6 (j / 6) hi;have hm:j % 6<6:=by omega
  rw [hd, <-Nat.add_assoc];obtain ⟨m,hmm⟩:∃m,j % 6=m:=⟨_,rfl⟩;rw [hmm] at hj hm ⊢
  match m,hm with
  |0,_=>rw [<-hj];exact g1
  |1,_=>rw [<-hj];exact g3.c0
  |2,_=>rw [<-hj];exact g3.c1
  |3,_=>rw [<-hj];exact g3.c2
  |4,_=>rw [<-hj];exact g3.c3
  |5,_=>rw [<-hj];exact g3.c4
 .obtain ⟨g1,g2,g3,g4⟩:=h6 i hi;have he:((List.range o.length).map fun i=>((o.getD i (.empty,V.none)).1,f i)).getD i fzero=(o[i].1,f i):=by rw [zzb,hget i hi];rfl
  rw [he];exact ⟨rfl,g2,g4⟩
theorem Q9 {w:World} {B0 B1:Nat} {v:Value} {l:List (ByteArray×V)} {cs:List (ByteArray×VC)} (hown:w.ownsRow B1 62 6 v l.length (cs.flatMap fcells)) (hB:B0<=B1) (hl:cs.length=l.length) (hels:∀i,i<l.length->PF l cs (only (Free B0 v) w) w.heap.size i) (hfew:l.length<=1466015503701):
 ∃a n c,v= .slice a n c/\IsFields (only (fun b=>B0<=b) w) w.heap.size l a n c/\(a=none->c=0):=by
 have hown2:w.ownsRow B0 62 6 v l.length (cs.flatMap fcells):=by
  refine ⟨hown.1, ?_⟩;rcases hown.2 with h|⟨g,cap,cur,h1,h2,h3⟩
  .exact .inl h
  .exact .inr ⟨g,cap,cur,h1,zzl hB h2,h3⟩
 have hv:∃a n c,v= .slice a n c/\(a=none->c=0):=by
  rcases hown.2 with ⟨h,_⟩|⟨g,cap,cur,h1,_⟩
  .exact ⟨_,_,_,h,fun _=>rfl⟩
  .exact ⟨_,_,_,h1,fun h=>by cases h⟩
 obtain ⟨a,n,c,rfl,hz⟩:=hv;have hrow:RowF w B0 (.slice a n c) l cs:=⟨hown2,hels⟩;have:=(RowF.val hrow (lo:=B0) hl (zza _) 5 (by omega) (by omega) hfew).lists;exact ⟨a,n,c,rfl,this.2.2.2.2.2,hz⟩
def WithPost (w:World) (B0:Nat) (l:List (ByteArray×V)) (e:Ending) (w':World):Prop:=
 (∃a n c,e= .returned (.slice a n c)/\IsFields (only (fun b=>B0<=b) w') w'.heap.size l a n c/\(a=none->c=0))/\Below w.heap.size w w'
theorem Kh {cs:List (ByteArray×VC)} {k j:Nat} {u:Value} (h:((cs.take k).flatMap fcells)[j]? =some u):(cs.flatMap fcells)[j]? =some u:=by
 have e:cs.flatMap fcells=(cs.take k).flatMap fcells++(cs.drop k).flatMap fcells:=by rw [<-List.flatMap_append,List.take_append_drop]
 rw [e,List.getElem?_append_left (List.getElem?_eq_some_iff.1 h).1];exact h
theorem Ko {cs:List (ByteArray×VC)} {k j:Nat} {u:Value} (hk:k<=cs.length) (h:((cs.drop k).flatMap fcells)[j]? =some u):(cs.flatMap fcells)[k*6+j]? =some u:=by
 have e:cs.flatMap fcells=(cs.take k).flatMap fcells++(cs.drop k).flatMap fcells:=by rw [<-List.flatMap_append,List.take_append_drop]
 have hl:((cs.take k).flatMap fcells).length=k*6:=by rw [Zk fcells 6 (fun _=>rfl),zzd,Nat.min_eq_left hk]
 rw [e,List.getElem?_append_right (by omega),hl,Nat.add_sub_cancel_left];exact h
theorem PF.with_ {o:List (ByteArray×V)} {cs:List (ByteArray×VC)} {W:World} {B:Nat} {key:ByteArray} {x:V} {cx:VC} {k k':Nat} (hl:cs.length=o.length) (h:∀i,i<o.length->PF o cs W B i) (hx:IsVal W B x cx) (hks:key.size<=140737488355328) (hk:k<=o.length) (hk':k'<=o.length):
 ∀i,i<(o.take k++(key,x)::o.drop k').length->PF (o.take k++(key,x)::o.drop k') (cs.take k++(key,cx)::cs.drop k') W B i:=by
 intro i _ hi;have l1:(o.take k).length=k:=by rw [zzd,Nat.min_eq_left hk]
 have l2:(cs.take k).length=k:=by rw [zzd,Nat.min_eq_left (by omega)]
 rw [zzb];by_cases e1:i<k
 .have e2:(cs.take k++(key,cx)::cs.drop k')[i]? =cs[i]? :=by rw [List.getElem?_append_left (by omega),List.getElem?_take_of_lt e1]
  have e3:(o.take k++(key,x)::o.drop k')[i] =o[i]'(by omega):=by rw [List.getElem_append_left (by omega),List.getElem_take]
  rw [e2,e3, <-zzb];exact h i (by omega) (by omega)
 .by_cases e4:i=k
  .subst e4;have e2:(cs.take i++(key,cx)::cs.drop k')[i]? =some (key,cx):=by rw [List.getElem?_append_right (by omega),l2,Nat.sub_self];rfl
   have e3:(o.take i++(key,x)::o.drop k')[i] =(key,x):=by rw [List.getElem_append_right (by omega)];simp [l1]
   rw [e2,e3];exact ⟨rfl,hks,hx⟩
  .obtain ⟨m,rfl⟩:∃m,i=k+1+m:=⟨i - k - 1,by omega⟩;rw [zze,List.length_cons,zzf,l1] at hi;have e2:(cs.take k++(key,cx)::cs.drop k')[k+1+m]? =cs[k'+m]? :=by rw [List.getElem?_append_right (by omega),l2,show k+1+m - k=m+1 by omega,List.getElem?_cons_succ,List.getElem?_drop]
   have e3:(o.take k++(key,x)::o.drop k')[k+1+m]'(by rw [zze,List.length_cons,zzf,l1];omega)=o[k'+m]'(by omega):=by rw [List.getElem_append_right (by omega)];simp only [l1,show k+1+m - k=m+1 by omega,List.getElem_cons_succ,List.getElem_drop]
   rw [e2,e3, <-zzb];exact h (k'+m) (by omega) (by omega)
theorem IsFields.sub {w w':World} {B:Nat} {l:List (ByteArray×V)} {a:Option Addr} {n c:Nat} (hs:Shows w w' B) (h:IsFields w B l a n c):IsFields w' B l a n c:=by obtain ⟨h1,h2,h3,h4,b,o,f,h5,h6⟩:=h;refine ⟨h1,h2,h3,h4,b,o,f,h5,fun i hi=> ?_⟩;have hB:=(h5 (by omega)).2;obtain ⟨g1,g2,g3,g4⟩:=h6 i hi;exact ⟨hs _ _ _ hB g1,g2,g3.sub hs hB,g4.sub hs⟩
theorem Xz (key:ByteArray) (cx:VC):∀u ∈ fcells (key,cx),u.oneCell'=true:=by simp [fcells,Value.oneCell']
theorem Y6 (cs:List (ByteArray×VC)):∀u ∈ cs.flatMap fcells,u.oneCell'=true:=by intro u hu;obtain ⟨c,_,hc⟩:=List.mem_flatMap.1 hu;exact Xz c.1 c.2 u hc
theorem zim (w:World) (B0:Nat) (hB0:B0<=w.heap.size) (o:List (ByteArray×V)) (b off ol oc:Nat) (ho:IsFields (only (fun k=>B0<=k) w) w.heap.size o (some ⟨b,off,none⟩) ol oc) (key:ByteArray) (hks:key.size<=140737488355328) (x:V) (cx:VC) (hx:IsVal (only (fun k=>B0<=k) w) w.heap.size x cx) (hpos:0<ol) (hfew:ol<=1000000) (his:fieldIs o key=false) (hke:fieldK o key<oc):
 uP 56 #[.slice (some ⟨b,off,none⟩) ol oc, .string key, .agg (uV cx)] w (WithPost w B0 (withF o key x)):=by
 delta uV uP;obtain ⟨i0,hi0,hz0,hz1,hz2⟩:=info_parts Yn;have hlen:=ho.len;have hcap:=ho.cap;have hmax:=ho.max;obtain ⟨cs,b2,off2,hcl,hab,hcell,hpf⟩:=ho.cells;have HCELL:Hid (∀W,uB w W->∀j u,(cs.flatMap fcells)[j]? =some u->W.cell? ⟨b,off+j,none⟩=some u):=by intro W hW j u hj;have hjl:=(List.getElem?_eq_some_iff.1 hj).1;rw [Zk fcells 6 (fun _=>rfl),hcl, <-hlen] at hjl;obtain ⟨e,hb2⟩:=hab (by omega);injection e with e;injection e with e1 e2;subst e1 e2;exact Zb hW (Z7 (hcell j u hj)).2 hb2
 obtain ⟨k,hk⟩:∃k,fieldK o key=k:=⟨_,rfl⟩;rw [hk] at hke;have hkl:k<=ol:=by rw [<-hk,hlen];exact Yb o key
 have hkl2:=hkl;have hkc:k<=cs.length:=by rw [hcl, <-hlen];exact hkl
 have hkc2:k<=cs.length:=by rw [hcl, <-hlen];omega
 have HF:Hid (∀W,uB w W->uP 103 #[.agg (uU 0 0 { data:= #[] } none 0 0 (some ⟨b,off,none⟩) ol oc), .string key] W fun e w'=>e= .returned (.tuple #[.int .i64 (k:Int), .bool false])/\uB W w'):=by intro W hW;have hof:IsFields W W.heap.size o (some ⟨b,off,none⟩) ol oc:=(IsFields.keep (IsFields.sub (Zl (fun k=>B0<=k) w _) ho) hW).more hW.size;have:=Yu W o key 0 0 { data:= #[] } none 0 0 (some ⟨b,off,none⟩) ol oc hof;rw [hk,his] at this;exact this
 have hwf:withF o key x=o.take k++(key,x)::o.drop (k):=by rw [withF,his,hk];rfl
 rw [hwf];have HBX:=qh (BC.start w (uV cx) 29);have HAL:=qh ((zzc _ _).alloc (zza _) (.cells (uV cx) 29):uB w _);have HX:=qh hx;have HPF:=qh hpf;have HCL:=qh hcl;have HLEN:=qh hlen;obtain ⟨R,hR⟩:∃R,WithPost w B0 (o.take k++(key,x)::o.drop (k))=R:=⟨_,rfl⟩;rw [hR];have HR:=qh hR;obtain ⟨XA,hXA⟩:∃XA,(cs.take k).flatMap fcells=XA:=⟨_,rfl⟩;obtain ⟨XB,hXB⟩:∃XB,(cs.drop (k)).flatMap fcells=XB:=⟨_,rfl⟩;have hla:XA.length=k*6:=by rw [<-hXA,Zk fcells 6 (fun _=>rfl),zzd,Nat.min_eq_left hkc]
 have hlb:XB.length=(ol - (k))*6:=by rw [<-hXB,Zk fcells 6 (fun _=>rfl),zzf,hcl, <-hlen]
 have HA1:Hid (∀u ∈ XA,u.oneCell'=true):=by unfold Hid;rw [<-hXA];exact Y6 _
 have HB1:Hid (∀u ∈ XB,u.oneCell'=true):=by unfold Hid;rw [<-hXB];exact Y6 _
 have HCA:Hid (∀W,uB w W->∀j u,XA[j]? =some u->W.cell? ((⟨b,off,none⟩:Addr).add j)=some u):=by intro W hW j u hj;rw [<-hXA] at hj;rw [Zz];exact HCELL.out W hW j u (Kh hj)
 have HCB:Hid (∀W,uB w W->∀j u,XB[j]? =some u->W.cell? ((⟨b,off+(k)*6,none⟩:Addr).add j)=some u):=by intro W hW j u hj;rw [<-hXB] at hj;rw [Zz,Nat.add_assoc];exact HCELL.out W hW _ u (Ko hkc2 hj)
 have HXA:=qh hXA;have HXB:=qh hXB;clear ho hab hcell hk his hx hpf hcl hlen hwf hR hXA hXB hkc hkc2;go_enter Tryz.func56,Tryz.ntmps56
 go_wp2_with fail;refine (HF.out _ HAL.out).mono ?_
 rintro e w1 ⟨rfl,hb1⟩;have bl1:=HAL.out.trans (hb1.mono (by simp));have HBX1:=qh (HBX.out.keep hb1 (by simp));have zs1:w.heap.size<w1.heap.size:=HBX1.out.lt;have HBL1:=qh bl1;have ho1:w1.ownsRow (w.heap.size+1) 62 6 (.slice none 0 0) 0 [] :=⟨rfl, .inl ⟨rfl,rfl⟩⟩;clear hb1 bl1;go_wp2_with (first
  |(at_builtin;refine wpList_append_own _ rfl (.tmp 17) (.tmp 20) 27 (by rfl) (w.heap.size+1) 62 i0 _ 6 96 Tryz.underlying27 hi0 hz0 hz1 hz2 rfl (by omega) (.slice none 0 0) 0 [] (by rfl) ho1 ⟨b,off,none⟩ k oc XA (by rfl) hla (HCA.out _ HBL1.out) HA1.out (by unfold maxLen;omega) (by omega) (by omega) ?_;intro v1 w2 hown1 hgrow1 _;have b12:Below (w.heap.size+1) w1 w2:=Zi hgrow1 (fun k hk=>by simp [Value.ownBlock] at hk) (by omega);have BX2:=HBX1.out.keep b12 (by omega);obtain ⟨x0,x1,x2,x3,x4⟩:=row5 BX2.at_;have zs2:=BX2.lt;have HBL2:=qh (HBL1.out.trans (b12.mono (by omega)));have HO1:=qh hown1;have hrl:∀g,v1.ownBlock=some g->w.heap.size+1<=g/\g<w2.heap.size:=hown1.lt;have ho2:=hown1.alloc (.cells #[.string key, .int .u8 cx.k, .int .i64 cx.n, .string cx.s, .slice cx.la cx.ll cx.lc, .slice cx.oa cx.ol cx.oc] 62);have hnw:∀j u,(fcells (key,cx))[j]? =some u->(w2.alloc (.cells #[.string key, .int .u8 cx.k, .int .i64 cx.n, .string cx.s, .slice cx.la cx.ll cx.lc, .slice cx.oa cx.ol cx.oc] 62)).cell? ((⟨w2.heap.size,0,none⟩:Addr).add j)=some u:=World.news_of_block (t:=62) (fr:=(0,0)) (heap_alloc_new w2 (.cells #[.string key, .int .u8 cx.k, .int .i64 cx.n, .string cx.s, .slice cx.la cx.ll cx.lc, .slice cx.oa cx.ol cx.oc] 62));have HNW:=qh hnw;clear hnw hown1 hgrow1 BX2 b12)
  |(at_builtin;refine wpList_append_own _ rfl (.tmp 22) (.tmp 26) 27 (by rfl) (w.heap.size+1) 62 i0 _ 6 96 Tryz.underlying27 hi0 hz0 hz1 hz2 rfl (by omega) v1 (0+k) ([] ++XA) (by rfl) ho2 ⟨w2.heap.size,0,none⟩ 1 1 (fcells (key,cx)) (by rfl) (by rfl) HNW.out (Xz key cx) (by unfold maxLen;omega) (by omega) (by simp;omega) ?_;intro v2 w4 hown2 hgrow2 _;have b24:Below (w.heap.size+1) w2 w4:=(((zzc w2.heap.size w2).alloc (zza _) (.cells #[.string key, .int .u8 cx.k, .int .i64 cx.n, .string cx.s, .slice cx.la cx.ll cx.lc, .slice cx.oa cx.ol cx.oc] 62)).mono (by omega)).trans (Zi hgrow2 (fun k hk=>(hrl k hk).1) (by simp;omega));have HBL4:=qh (HBL2.out.trans (b24.mono (by omega)));have zs4:w.heap.size<w4.heap.size:=zzj zs2 b24.size;have hrl2:∀g,v2.ownBlock=some g->w.heap.size+1<=g/\g<w4.heap.size:=hown2.lt;have HO2:=qh hown2;clear hgrow2 b24 hown2)
  |(at_builtin;refine wpList_append_own _ rfl (.tmp 31) (.tmp 34) 27 (by rfl) (w.heap.size+1) 62 i0 _ 6 96 Tryz.underlying27 hi0 hz0 hz1 hz2 rfl (by omega) v2 (0+k+1) ([] ++XA++fcells (key,cx)) (by rfl) HO2.out ⟨b,off+(k)*6,none⟩ (ol - (k)) (oc - (k)) XB (by rfl) (by omega) (HCB.out _ HBL4.out) HB1.out (by unfold maxLen;omega) (by omega) (by omega) ?_;intro v3 w5 hown3 hgrow3 _;have b45:Below (w.heap.size+1) w4 w5:=Zi hgrow3 (fun k hk=>(hrl2 k hk).1) (by omega);have HBL5:=qh (HBL4.out.trans (b45.mono (by omega)));have HO3:=qh hown3;clear hgrow3 b45 hown3))
 rw [<-HR.out];have hcat: [] ++XA++fcells (key,cx)++XB=(cs.take k++(key,cx)::cs.drop (k)).flatMap fcells:=by rw [<-HXA.out, <-HXB.out];simp
 have hll:(o.take k++(key,x)::o.drop (k)).length=0+k+1+(ol - (k)):=by rw [zze,List.length_cons,zzf,zzd, <-HLEN.out,Nat.min_eq_left hkl];omega
 have hown:=HO3.out;rw [hcat, <-hll] at hown;have hlt3:=hown.lt;have hsh:Shows (only (fun k=>B0<=k) w) (only (Free B0 v3) w5) w.heap.size:=Zc fun q hq hl=>⟨⟨hq,fun e=>by have:=(hlt3 q e.symm).1;omega⟩,HBL5.out.block q hl⟩;obtain ⟨a,n,c,hv,hf,hz⟩:=Q9 (B0:=B0) (B1:=w.heap.size+1) hown (by omega) (by rw [zze,zze,List.length_cons,List.length_cons,zzf,zzf,zzd,zzd,HCL.out])
  (PF.with_ HCL.out (fun i hi=>PF.closed o cs _ _ _ _ i hsh HBL5.out.size (HPF.out i hi)) ((HX.out.sub hsh).more HBL5.out.size) hks (by rw [<-HLEN.out];exact hkl) (by rw [<-HLEN.out];omega)) (by rw [hll];omega)
 exact ⟨⟨a,n,c,by rw [hv],hf,hz⟩,HBL5.out⟩
end Go.Proofs.YtbgheehjfnoiiaaGreatDoor
namespace Go.Proofs.YtbgheehjfnoiiaaGreatDoor
open Go.RowKit Go.Shelf
set_option maxHeartbeats 4000000
attribute [local go_sem] Oper.semAt_some
def VDeep (v:V):Prop:=v.weight<=4611686018427387904->∀(w:World) (c:VC),IsVal w w.heap.size v c->
    Calls Tryz.prog 101 #[.agg #[.int .u8 c.k, .int .i64 c.n, .string c.s, .slice c.la c.ll c.lc, .slice c.oa c.ol c.oc]] w fun e w'=>e= .returned (.int .i64 v.deep)/\Below w.heap.size w w'
theorem za5 {w:World} {P:V->Prop} (pre:List (Kid w P)) (x:Kid w P):((deepO ((pre++ [x]).map Kid.pair):Nat):Int)=max ((deepO (pre.map Kid.pair):Nat):Int) ((x.v.deep:Int)+1):=by rw [List.map_append,zag];simp only [List.map_cons,List.map_nil,deepO,Q5,Kid.pair];omega
theorem zku (l:List V) (o:List (ByteArray×V)):deepO (pairs l o)=max (deepL l) (deepO o):=by
 unfold pairs;rw [zag]
 congr 1
 induction l with
 |nil=>rfl
 |cons v r ih=>simp only [List.map_cons,deepO,Q5,deepL,ih]
theorem zqc (a:V):VDeep a:=by
 induction a using V.ind with
 |h k n s l o ihl iho=>
 intro hw w c ha;obtain ⟨rfl,rfl,rfl,cbd,hl,ho⟩:=ha.lists;have hw0:1+c.s.size+weightL l+weightO o<=4611686018427387904:=by simpa only [V.weight] using hw
 obtain ⟨ks,hks,hpr⟩:=K8 w (fun v=>VDeep v/\v.weight<=4611686018427387904) l o c hl ho
  (fun v hv=>⟨ihl v hv,by obtain ⟨i,hi,rfl⟩:=List.getElem_of_mem hv;have:=Qe l i hi;omega⟩)
  (fun f hf=>⟨iho f hf,by obtain ⟨i,hi,rfl⟩:=List.getElem_of_mem hf;have:=Qd o i hi;omega⟩)
 clear ihl iho ha hl ho;have c5:=cbd.s1;refine callsIn_wide (n:=3)|>.1 ?_;refine callsIn_of_wp_marks Tryz.func101 rfl trivial ?_ rfl;simp only [Tryz.ntmps101,List.size_toArray,List.length_cons,List.length_nil,Nat.reduceAdd,Nat.reduceSub,Array.replicate_succ,Array.replicate_zero,List.push_toArray,List.append_toArray,List.nil_append,List.cons_append]
 gi_wp2_with (refine ⟨trivial, ?_⟩;gi_at_call 143;refine (za4 _ _ trivial rfl c _).mono ?_;rintro e w' ⟨rfl,rfl⟩)
 obtain ⟨W0,hW0⟩:∃W0,(((w.alloc (.cells (uV c) 29)).alloc (.cells #[.int .i64 0] 3)).alloc (.cells (uV c) 29))=W0:=⟨_,rfl⟩;have hB0:uB w W0:=by rw [<-hW0];exact (((zzc _ _).alloc (zza _) _).alloc (by simp) _).alloc (by simp;omega) _
 have hsz:W0.heap.size=w.heap.size+3:=by rw [<-hW0];simp
 have hbx:ValAt W0 (w.heap.size+1+1) 0 c:=by rw [<-hW0];have h:=Yy ((w.alloc (.cells (uV c) 29)).alloc (.cells #[.int .i64 0] 3)) c 29;simp only [zzk] at h;exact h
 have hn:Boxed W0 (w.heap.size+1) 3 (.int .i64 0):=by rw [<-hW0];have h:=Boxed.new (w.alloc (.cells (uV c) 29)) 3 (.int .i64 0);rw [zzk] at h;exact h.alloc _
 rw [hW0];clear hW0;refine wpIn_rangeFunc_ownH (α:=Kid w (fun v=>VDeep v/\v.weight<=4611686018427387904)) rfl (by omega) (gf:=172) (lb:= #[.pointer (some ⟨w.heap.size+1+1,0,none⟩)]) rfl trivial (enters_of Tryz.func172 (by kernel_rfl) rfl)
  (Kv Fence.wide 2 trivial rfl (by omega) w (fun v=>VDeep v/\v.weight<=4611686018427387904) (w.heap.size+1+1) c cbd ks W0 w.heap.size (by omega) (by omega) hbx (hks.keep (.of_below_any hB0))) Kw (zad (by omega) (by omega)) (zzc _ _) (fun _=>rfl)
  (fun pre W=>(Boxed W (w.heap.size+1) 3 (.int .i64 ((deepO (pre.map Kid.pair):Nat):Int)))/\uB w W/\W0.heap.size<=W.heap.size)
  (fun _ _ _=>False)
  (OwnFrom.and (Own.from (boxed_own _ _ _) _) (OwnFrom.and (ownFrom_below (zza _) (by omega)) (fun _ _ _ _ hs hg _=>zzl hs hg.size)))
  (fun _ _ _ _ _ hs _ _=>hs)
  ⟨by simp only [List.map_nil,deepO];exact hn,hB0,zza _⟩
  (fun x a' W=>∃Bx,W0.heap.size<=Bx/\ValAt W Bx 0 x.kv/\a'= { tmps:= #[.agg #[.int .u8 c.k, .int .i64 c.n, .string c.s, .slice c.la c.ll c.lc, .slice c.oa c.ol c.oc], .pointer (some ⟨w.heap.size,0,none⟩), .int .i64 0, .pointer (some ⟨w.heap.size+1,0,none⟩),undef, .pointer (some ⟨Bx,0,none⟩), .agg #[.int .u8 c.k, .int .i64 c.n, .string c.s, .slice c.la c.ll c.lc, .slice c.oa c.ol c.oc], .func (.func 172) #[] #[.pointer (some ⟨w.heap.size+1+1,0,none⟩)], .string x.kk, .agg #[.int .u8 x.kv.k, .int .i64 x.kv.n, .string x.kv.s, .slice x.kv.la x.kv.ll x.kv.lc, .slice x.kv.oa x.kv.ol x.kv.oc],undef,undef,undef,undef,undef,undef],defers:= [] })
  (fun x a' _ X Y row hs hg hr=>by
   obtain ⟨Bx,h1,h2,h3⟩:=hs;exact ⟨Bx,h1,ValAt.own (β:=Unit) Bx 0 (fun _=>x.kv) () X Y row h2 hg (fun r e=>(hr r e).2),h3⟩)
  ?assign ?body ?done ?stop
 case assign=>
  rintro l pre x W K ⟨bS1,hB1,hz1⟩ hK;dsimp only [Kid.encs]
  gi_wp2
  exact hK _ _ ((KeepsOthers.alloc _ _).from _) (KeepAt.alloc W _ (by omega) (by omega)) ⟨bS1.alloc _,hB1.alloc hB1.size _,by simp;omega⟩ ⟨W.heap.size,hz1,Yy W x.kv _,rfl⟩
 case body=>
  rintro l pre x a' W hl _ ⟨bS1,hB1,hz1⟩ ⟨Bx,hBx,vX,rfl⟩ hlt;have cS:=bS1.cell;have fS:=bS1.frozen;have r0:W.cell? ⟨Bx,0,none⟩=some (.int .u8 x.kv.k):=vX.c0;have r1:W.cell? ⟨Bx,1,none⟩=some (.int .i64 x.kv.n):=vX.c1;have r2:W.cell? ⟨Bx,2,none⟩=some (.string x.kv.s):=vX.c2;have r3:W.cell? ⟨Bx,3,none⟩=some (.slice x.kv.la x.kv.ll x.kv.lc):=vX.c3;have r4:W.cell? ⟨Bx,4,none⟩=some (.slice x.kv.oa x.kv.ol x.kv.oc):=vX.c4;have hmx:Tryz.prog.follows .mixedOrders=true:=by kernel_rfl
  have hcal:=fun (W':World) (h:uB w W')=>x.p.1 x.p.2 W' x.kv (x.is.later_ h);have HC:=qh hcal;clear hcal vX;have hd1:=V.deep_lt x.v;have hd2:=x.p.2;have e1:IntKind.i64.wrap ((x.v.deep:Int)+1)=(x.v.deep:Int)+1:=IntWalk.i64_in _ (by omega)
  gi_wp2
  gi_region_with_o (refine ⟨trivial, ?_⟩;gi_at_call 101;refine (CallsIn.inRound l (callsIn_wide.2 (HC.out _ hB1.drew))).mono ?_;rintro e w' ⟨rfl,hb⟩;have cS':=(hb.cell (p:=⟨w.heap.size+1,0,none⟩) (by exact bS1.lt)).trans cS;have fS':=(hb.frozen (p:=⟨w.heap.size+1,0,none⟩) (by exact bS1.lt)).trans fS)
  all_goals gi_wp2
  all_goals
   have hb':=(zzc W.heap.size W).drew.trans hb;have hbx':Boxed w' (w.heap.size+1) 3 _:=(hb'.block _ bS1.lt).trans bS1;exact ⟨((Qx hb').trans (KeepsOthers.setCell _ _ _)).from _,(KeepAt.of_below hb' (by omega) (by omega)).trans (KeepAt.setCell _ _ (by simp) (by simp)),by first|(rw [Qg (show ((deepO ((pre++ [x]).map Kid.pair):Nat):Int)=((deepO (pre.map Kid.pair):Nat):Int) from by rw [za5];omega)];exact hbx'.set _)|(rw [Qg (show ((deepO ((pre++ [x]).map Kid.pair):Nat):Int)=(x.v.deep:Int)+1 from by rw [za5];omega)];exact hbx'.set _)|(rw [Qg (za5 pre x)];exact hbx'.set _),(hB1.on hb' hB1.size).setCell (by simp) _,by have:=hb'.size;simp [World.setCell];omega⟩
 case done=>
  rintro D ys W hD rfl ⟨bS,hB,hz1⟩ hK;have cS:=bS.cell
  gi_wp2
  refine ⟨by simp, .inl ⟨_,_,rfl,run_takeDeferred hK, ?_⟩⟩;refine ⟨_,results_tmp (t:=2) rfl _ _ _, ?_,hB.trans ((zzc _ _).grown (grownBy_putObj' _ D _) hB.size (fun k e=>by cases e;omega))⟩;show Ending.returned (.int .i64 ((deepO (pairs l o):Nat):Int))=_;exact Jw (by simp only [zku,V.deep])
 case stop=>
  rintro D c' pre W _ _ h _;exact h.elim
end Go.Proofs.YtbgheehjfnoiiaaGreatDoor
namespace Go.Proofs.YtbgheehjfnoiiaaGreatDoor
open Go.RowKit
set_option maxHeartbeats 4000000
theorem X2 (w:World) (s:ByteArray) (hs:s.size<=140737488355328):
 uP 105 #[.string s] w fun e w'=>e= .returned (.string (plainS s))/\uB w w':=by
 delta uB uP;obtain ⟨i0,hi0,hz0,hz1,hz2⟩:=info_parts zbx;have hsz:s.data.toList.length=s.size:=Array.length_toList;have HS:=qh hsz;clear hsz;go_enter Tryz.func105,Tryz.ntmps105
 go_wp2_with fail
 go_loopw [3,4] (fun u i wr=>∃(j:Nat) (a:Option Addr) (m c:Nat),j<=40/\j<=s.size/\i= .int .i64 j/\u= .slice a m c/\PH w wr s j (.slice a m c)) (fun _ i _=>40 - (intOf i).toNat)
 case atStart=>exact ⟨0,none,0,0,by omega,Nat.zero_le _,rfl,rfl,⟨⟨by simp [outs], .inl ⟨rfl,rfl⟩⟩,zzc _ _⟩⟩
 case round=>
  obtain ⟨j,a,m,c,hj,hj2,rfl,rfl,L⟩:=hrel;have hlen:=HS.out;by_cases h1:j<s.size
  .by_cases h2:j<40
   .have hgb:s.data.toList[j]'(by omega)=s[j]'h1:=by simp [ByteArray.getElem_eq_getElem_data]
    have hsn:=zck s.data.toList j (by omega);rw [hgb] at hsn;have HSN:=qh hsn;have hrlt:∀b,(Value.slice a m c).ownBlock=some b->w.heap.size<=b/\b<wr.heap.size:=L.own.lt;have hb:=L.below.size;have LL:=qh L;have ho:=L.own;clear hsn hgb L;go_wp2_with (at_builtin;refine wpList_append_lies _ rfl (.tmp 15) (.tmp 20) 68 (by rfl) w.heap.size 5 i0 _ 1 1 Tryz.underlying68 hi0 hz0 hz1 hz2 rfl (by omega) (.slice a m c) j (outs ((s.data.toList.take j).map low)) (by rfl) (ho.alloc _) ⟨wr.heap.size,0,none⟩ 1 1 [.int .u8 ((s[j]'h1).toNat % 128:Int)] (by rfl) (by rfl) (World.news_of_block (cs:= #[.int .u8 ((s[j]'h1).toNat % 128:Int)]) (t:=5) (fr:=(0,0)) (heap_alloc_new wr _)) (by simp [Value.oneCell']) (by omega) (by unfold maxLen;omega) (by omega) (by simp;omega) (wr.heap.size+1) (by simp) ?_;intro g cap w7 hown7 hgrow7 hat7 hlt7)
    go_roundw
    case rel=>
     refine ⟨j+1,some ⟨g,0,none⟩,j+1,cap,by omega,by omega,by go_num,rfl,⟨?_, ?_⟩⟩
     .rw [HSN.out,ze3];have e:outs [low (s[j]'h1)] = [.int .u8 ((s[j]'h1).toNat % 128:Int)] :=by simp [outs,zfi]
      rw [e];exact hown7
     .exact (LL.out.below.trans (((zzc _ _).alloc (zza _) _).mono hb)).trans (Zi hgrow7 (fun k hk=>(hrlt k hk).1) (by simp;omega))
    case measure=>simp [intOf];omega
   .obtain ⟨a2,n2,c2,hv2,hI⟩:=Jz (bs:=(s.data.toList.take j).map low) (by rw [List.length_map,zzd,Nat.min_eq_left (by omega)];exact L.own);injection hv2 with h3 h4 h5;subst h3 h4 h5;have hcv:=Jr hI;have LL:=qh L;have hp:((s.data.toList.take j).map low)=plainL s.data.toList:=by rw [plainL,show j=40 by omega]
    rw [hp] at hcv;clear hI L hp;go_wp2_with fail;go_returns;exact ⟨rfl,LL.out.below⟩
  .obtain ⟨a2,n2,c2,hv2,hI⟩:=Jz (bs:=(s.data.toList.take j).map low) (by rw [List.length_map,zzd,Nat.min_eq_left (by omega)];exact L.own);injection hv2 with h3 h4 h5;subst h3 h4 h5;have hcv:=Jr hI;have LL:=qh L;have hp:((s.data.toList.take j).map low)=plainL s.data.toList:=by rw [plainL,List.take_of_length_le (by omega),List.take_of_length_le (by omega)]
   rw [hp] at hcv;clear hI L hp;go_wp2_with fail;go_returns;exact ⟨rfl,LL.out.below⟩
end Go.Proofs.YtbgheehjfnoiiaaGreatDoor
