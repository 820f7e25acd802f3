/-
  Contracts of the functions that the law reaches: Ways into a value, in plain Lean. Append.
-/
import Derived.Test.YtbgheehjfnoiiaaGreatDoorOn5
namespace Go.Proofs.YtbgheehjfnoiiaaGreatDoor
open Go.RowKit
set_option maxHeartbeats 8000000
def stepP (v:V) (s:St):Option (V×Nat):=
 if s.list=true then (if v.kd=4/\0<=s.i/\s.i<v.ls.length then some (v.ls.getD s.i.toNat V.none,s.i.toNat) else none)
 else if v.kd=5/\fieldIs v.os s.key=true then some ((v.os.getD (fieldK v.os s.key) (.empty,V.none)).2,fieldK v.os s.key) else none
def getP:V->List St->Option V
 |v, [] =>some v
 | v,s::r=>match stepP v s with
   |none=>none
   |some q=>getP q.1 r
def putP:V->List St->V->Option V
 |_, [],x=>some x
 | v,s::r,x=>match stepP v s with
   |none=>none
   | some q=>match putP q.1 r x with
     |none=>none
     |some z=>some (if s.list=true then v.setL q.2 z else v.setO q.2 z)
theorem Xm {v:V} {s:St} {x:V} {k:Nat} (h:stepP v s=some (x,k)):
 (s.list=true/\v.kd=4/\(k:Int)=s.i/\∃hk:k<v.ls.length,v.ls[k] =x)∨(s.list=false/\v.kd=5/\k=fieldK v.os s.key/\∃hk:k<v.os.length,v.os[k].2=x):=by
 unfold stepP at h
 by_cases hl:s.list=true
 .rw [if_pos hl] at h
  split at h
  .rename_i hc
   injection h with h;injection h with h1 h2
   have hk:k<v.ls.length:=by omega
   refine .inl ⟨hl,hc.1,by omega,hk, ?_⟩
   subst h2
   rw [<-h1]
   simp [List.getD_eq_getElem?_getD,hk]
  .cases h
 .rw [if_neg hl] at h
  split at h
  .rename_i hc
   injection h with h;injection h with h1 h2
   have hk:k<v.os.length:=by rw [<-h2];exact Xg hc.2
   refine .inr ⟨by simpa using hl,hc.1,h2.symm,hk, ?_⟩
   subst h2
   rw [<-h1]
   simp [List.getD_eq_getElem?_getD,hk]
  .cases h
theorem zhw {P:Program} (w:World) (base:Nat) (t ty e:TypeId) (i:TypeInfo) (size:Nat) (ht:P.underlying t=some (.slice e)) (hi:P.info? e=some i)
 (v:Value) (n:Nat) (xs:List Value) (hown:w.ownsRow base e size v n xs):
 (Builtin.append_ #[t,t] ty #[v, .slice none 0 0]).run P w= .ok v w:=by
 rcases hown.2 with ⟨rfl,rfl⟩|⟨g,cap,cur,rfl,hbg,hg,hnc,hcm,hcs,htake⟩
 .simp [Builtin.append_,run_underlying ht,sizeOf,typeInfo,hi,Builtin.lenOf,Builtin.firstCells]
 .simp [Builtin.append_,run_underlying ht,sizeOf,typeInfo,hi,Builtin.lenOf,Builtin.firstCells,storeCells,hnc]
theorem J2 {P:Program} (w:World) {ops:Array Oper} {rest:List Oper} {o:Oper} {a:Act} {Q:Exit->Act->World->Prop} (hgd:o.guard=none) (s x:Operand) (t:TypeId)
 (ho:o.op= .call { callee:= .builtin .append,args:= #[s,x],argTypes:= #[t,t] })
 (base:Nat) (e:TypeId) (i:TypeInfo) (size:Nat) (ht:P.underlying t=some (.slice e)) (hi:P.info? e=some i)
 (v:Value) (n:Nat) (xs:List Value) (hs:a.eval s=v) (hown:w.ownsRow base e size v n xs)
 (hx:a.eval x= .slice none 0 0)
 (h:wpList P ops Q rest (a.put o.dst v) w):wpList P ops Q (o::rest) a w:=
 wpList_plain hgd fun _ hK=>by
  have hr:=zhw (P:=P) w base t o.type e i size ht hi v n xs hown
  unfold Oper.wp execOp
  simp only [ho,resolve,invoke,builtin,Sem.run_bind,Sem.run_pure,Result.andThen_ok,List.map_toArray,List.map_cons,List.map_nil,hs,hx,hr]
  exact hK _ _ h
set_option maxRecDepth 100000 in
theorem zf7 (w:World) (B0:Nat) (hB0:B0<=w.heap.size) (key:ByteArray) (hks:key.size<=140737488355328) (x:V) (cx:VC) (hx:IsVal (only (fun k=>B0<=k) w) w.heap.size x cx):
 uP 56 #[.slice none 0 0, .string key, .agg (uV cx)] w (WithPost w B0 (withF [] key x)):=by
 delta uV uP
 obtain ⟨i0,hi0,hz0,hz1,hz2⟩:=info_parts Ya
 have HF:Hid (∀W,uB w W->uP 103 #[.agg (uU 0 0 { data:= #[] } none 0 0 none 0 0), .string key] W fun e w'=>e= .returned (.tuple #[.int .i64 0, .bool false])/\uB W w'):=by
  intro W hW
  exact Yj W [] key 0 0 { data:= #[] } none 0 0 none 0 0 ⟨rfl,by omega,by omega,by omega,0,0,fun _=>vzero,fun h=>absurd h (by omega),fun i h=>absurd h (by simp)⟩
 have HBX:=qh (BC.start w (uV cx) 29)
 have HAL:=qh ((Below.refl _ _).alloc (Nat.le_refl _) (.cells (uV cx) 29):uB w _)
 have HX:=qh hx
 obtain ⟨R,hR⟩:∃R,WithPost w B0 (withF [] key x)=R:=⟨_,rfl⟩
 rw [hR]
 have HR:=qh hR
 clear hx hR
 go_enter Tryz.func56,Tryz.ntmps56
 go_wp2_with fail
 refine (HF.out _ HAL.out).mono ?_
 rintro e w1 ⟨rfl,hb1⟩
 have BX2:=HBX.out.keep hb1 (by simp)
 obtain ⟨x0,x1,x2,x3,x4⟩:=row5 BX2.at_
 have zs2:w.heap.size<w1.heap.size:=BX2.lt
 have HBL1:=qh (HAL.out.trans (hb1.mono (by simp)))
 have ho2:(w1.alloc (.cells #[.string key, .int .u8 cx.k, .int .i64 cx.n, .string cx.s, .slice cx.la cx.ll cx.lc, .slice cx.oa cx.ol cx.oc] 62)).ownsRow (w.heap.size+1) 62 6 (.slice none 0 0) 0 [] :=⟨rfl, .inl ⟨rfl,rfl⟩⟩
 have hnw:∀j u,(fcells (key,cx))[j]? =some u->(w1.alloc (.cells #[.string key, .int .u8 cx.k, .int .i64 cx.n, .string cx.s, .slice cx.la cx.ll cx.lc, .slice cx.oa cx.ol cx.oc] 62)).cell? ((⟨w1.heap.size,0,none⟩:Addr).add j)=some u:=World.news_of_block (t:=62) (fr:=(0,0)) (heap_alloc_new w1 (.cells #[.string key, .int .u8 cx.k, .int .i64 cx.n, .string cx.s, .slice cx.la cx.ll cx.lc, .slice cx.oa cx.ol cx.oc] 62))
 have HNW:=qh hnw
 clear hb1 BX2 hnw
 have ho1:w1.ownsRow (w.heap.size+1) 62 6 (.slice none 0 0) 0 [] :=⟨rfl, .inl ⟨rfl,rfl⟩⟩
 go_wp2_with (first
  |(at_builtin;refine J2 _ rfl (.tmp 17) (.tmp 20) 27 (by rfl) (w.heap.size+1) 62 i0 6 Tryz.underlying27 hi0 (.slice none 0 0) 0 [] (by rfl) ho1 (by rfl) ?_)
  |(at_builtin;refine wpList_append_own _ rfl (.tmp 22) (.tmp 26) 27 (by rfl) (w.heap.size+1) 62 i0 _ 6 96 Tryz.underlying27 hi0 hz0 hz1 hz2 rfl (by omega) (.slice none 0 0) 0 [] (by rfl) ho2 ⟨w1.heap.size,0,none⟩ 1 1 (fcells (key,cx)) (by rfl) (by rfl) HNW.out (Xp key cx) (by unfold maxLen;omega) (by omega) (by simp;omega) ?_;intro v2 w4 hown2 hgrow2 _;have b24:Below (w.heap.size+1) w1 w4:=(((Below.refl w1.heap.size w1).alloc (Nat.le_refl _) (.cells #[.string key, .int .u8 cx.k, .int .i64 cx.n, .string cx.s, .slice cx.la cx.ll cx.lc, .slice cx.oa cx.ol cx.oc] 62)).mono (by omega)).trans (Zj hgrow2 (fun k hk=>by simp [Value.ownBlock] at hk) (by simp;omega));have HBL4:=qh (HBL1.out.trans (b24.mono (by omega)));have zs4:w.heap.size<w4.heap.size:=Nat.lt_of_lt_of_le zs2 b24.size;have HO2:=qh hown2;clear hgrow2 b24 hown2)
  |(at_builtin;refine J2 _ rfl (.tmp 31) (.tmp 34) 27 (by rfl) (w.heap.size+1) 62 i0 6 Tryz.underlying27 hi0 v2 (0+1) ([] ++fcells (key,cx)) (by rfl) HO2.out (by rfl) ?_))
 rw [<-HR.out]
 have hown:=HO2.out
 have hcat: [] ++fcells (key,cx)= [(key,cx)].flatMap fcells:=by simp
 rw [hcat] at hown
 have hlt3:=hown.lt
 have hsh:Shows (only (fun k=>B0<=k) w) (only (Free B0 v2) w4) w.heap.size:=Ze fun q hq hl=>⟨⟨hq,fun e=>by have:=(hlt3 q e.symm).1;omega⟩,HBL4.out.block q hl⟩
 obtain ⟨a,n,c,hv,hf,hz⟩:=X7 (l:= [(key,x)]) (B0:=B0) (B1:=w.heap.size+1) hown (by omega) rfl
  (fun i _ hi=>by
   obtain rfl:i=0:=by simpa using hi
   exact ⟨rfl,hks,(HX.out.sub hsh).more HBL4.out.size⟩) (by simp)
 exact ⟨⟨a,n,c,by rw [hv],hf,hz⟩,HBL4.out⟩
set_option maxRecDepth 100000 in
theorem zhb (w:World) (B0:Nat) (hB0:B0<=w.heap.size) (o:List (ByteArray×V)) (b off ol oc:Nat) (ho:IsFields (only (fun k=>B0<=k) w) w.heap.size o (some ⟨b,off,none⟩) ol oc) (key:ByteArray) (hks:key.size<=140737488355328) (x:V) (cx:VC) (hx:IsVal (only (fun k=>B0<=k) w) w.heap.size x cx) (hpos:0<ol) (hfew:ol<=1000000) (his:fieldIs o key=true) (hke:fieldK o key+1<oc):
 uP 56 #[.slice (some ⟨b,off,none⟩) ol oc, .string key, .agg (uV cx)] w (WithPost w B0 (withF o key x)):=by
 delta uV uP
 obtain ⟨i0,hi0,hz0,hz1,hz2⟩:=info_parts Ya
 have hlen:=ho.len
 have hcap:=ho.cap
 have hmax:=ho.max
 obtain ⟨cs,b2,off2,hcl,hab,hcell,hpf⟩:=ho.cells
 have HCELL:Hid (∀W,uB w W->∀j u,(cs.flatMap fcells)[j]? =some u->W.cell? ⟨b,off+j,none⟩=some u):=by
  intro W hW j u hj
  have hjl:=(List.getElem?_eq_some_iff.1 hj).1
  rw [Zk fcells 6 (fun _=>rfl),hcl, <-hlen] at hjl
  obtain ⟨e,hb2⟩:=hab (by omega)
  injection e with e;injection e with e1 e2
  subst e1 e2
  exact Zb hW (Z1 (hcell j u hj)).2 hb2
 obtain ⟨k,hk⟩:∃k,fieldK o key=k:=⟨_,rfl⟩
 rw [hk] at hke
 have hkl:k<=ol:=by rw [<-hk,hlen];exact Yo o key
 have hkl2:k<ol:=by rw [<-hk,hlen];exact Xg his
 have hkc:k<=cs.length:=by rw [hcl, <-hlen];exact hkl
 have hkc2:k+1<=cs.length:=by rw [hcl, <-hlen];omega
 have HF:Hid (∀W,uB w W->uP 103 #[.agg (uU 0 0 { data:= #[] } none 0 0 (some ⟨b,off,none⟩) ol oc), .string key] W fun e w'=>e= .returned (.tuple #[.int .i64 (k:Int), .bool true])/\uB W w'):=by
  intro W hW
  have hof:IsFields W W.heap.size o (some ⟨b,off,none⟩) ol oc:=(IsFields.keep (IsFields.sub (Zl (fun k=>B0<=k) w _) ho) hW).more hW.size
  have:=Yj W o key 0 0 { data:= #[] } none 0 0 (some ⟨b,off,none⟩) ol oc hof
  rw [hk,his] at this;exact this
 have hwf:withF o key x=o.take k++(key,x)::o.drop (k+1):=by rw [withF,his,hk];rfl
 rw [hwf]
 have HBX:=qh (BC.start w (uV cx) 29)
 have HAL:=qh ((Below.refl _ _).alloc (Nat.le_refl _) (.cells (uV cx) 29):uB w _)
 have HX:=qh hx
 have HPF:=qh hpf
 have HCL:=qh hcl
 have HLEN:=qh hlen
 obtain ⟨R,hR⟩:∃R,WithPost w B0 (o.take k++(key,x)::o.drop (k+1))=R:=⟨_,rfl⟩
 rw [hR]
 have HR:=qh hR
 obtain ⟨XA,hXA⟩:∃XA,(cs.take k).flatMap fcells=XA:=⟨_,rfl⟩
 obtain ⟨XB,hXB⟩:∃XB,(cs.drop (k+1)).flatMap fcells=XB:=⟨_,rfl⟩
 have hla:XA.length=k*6:=by rw [<-hXA,Zk fcells 6 (fun _=>rfl),List.length_take,Nat.min_eq_left hkc]
 have hlb:XB.length=(ol - (k+1))*6:=by rw [<-hXB,Zk fcells 6 (fun _=>rfl),List.length_drop,hcl, <-hlen]
 have HA1:Hid (∀u ∈ XA,u.oneCell'=true):=by unfold Hid;rw [<-hXA];exact Yr _
 have HB1:Hid (∀u ∈ XB,u.oneCell'=true):=by unfold Hid;rw [<-hXB];exact Yr _
 have HCA:Hid (∀W,uB w W->∀j u,XA[j]? =some u->W.cell? ((⟨b,off,none⟩:Addr).add j)=some u):=by
  intro W hW j u hj
  rw [<-hXA] at hj
  rw [Zv];exact HCELL.out W hW j u (Q1 hj)
 have HCB:Hid (∀W,uB w W->∀j u,XB[j]? =some u->W.cell? ((⟨b,off+(k+1)*6,none⟩:Addr).add j)=some u):=by
  intro W hW j u hj
  rw [<-hXB] at hj
  rw [Zv,Nat.add_assoc];exact HCELL.out W hW _ u (Qz hkc2 hj)
 have HXA:=qh hXA
 have HXB:=qh hXB
 clear ho hab hcell hk his hx hpf hcl hlen hwf hR hXA hXB hkc hkc2
 go_enter Tryz.func56,Tryz.ntmps56
 go_wp2_with fail
 refine (HF.out _ HAL.out).mono ?_
 rintro e w1 ⟨rfl,hb1⟩
 have bl1:=HAL.out.trans (hb1.mono (by simp))
 have HBX1:=qh (HBX.out.keep hb1 (by simp))
 have zs1:w.heap.size<w1.heap.size:=HBX1.out.lt
 have HBL1:=qh bl1
 have ho1:w1.ownsRow (w.heap.size+1) 62 6 (.slice none 0 0) 0 [] :=⟨rfl, .inl ⟨rfl,rfl⟩⟩
 clear hb1 bl1
 go_wp2_with (first
  |(at_builtin;refine wpList_append_own _ rfl (.tmp 17) (.tmp 20) 27 (by rfl) (w.heap.size+1) 62 i0 _ 6 96 Tryz.underlying27 hi0 hz0 hz1 hz2 rfl (by omega) (.slice none 0 0) 0 [] (by rfl) ho1 ⟨b,off,none⟩ k oc XA (by rfl) hla (HCA.out _ HBL1.out) HA1.out (by unfold maxLen;omega) (by omega) (by omega) ?_;intro v1 w2 hown1 hgrow1 _;have b12:Below (w.heap.size+1) w1 w2:=Zj hgrow1 (fun k hk=>by simp [Value.ownBlock] at hk) (by omega);have BX2:=HBX1.out.keep b12 (by omega);obtain ⟨x0,x1,x2,x3,x4⟩:=row5 BX2.at_;have zs2:=BX2.lt;have HBL2:=qh (HBL1.out.trans (b12.mono (by omega)));have HO1:=qh hown1;have hrl:∀g,v1.ownBlock=some g->w.heap.size+1<=g/\g<w2.heap.size:=hown1.lt;have ho2:=hown1.alloc (.cells #[.string key, .int .u8 cx.k, .int .i64 cx.n, .string cx.s, .slice cx.la cx.ll cx.lc, .slice cx.oa cx.ol cx.oc] 62);have hnw:∀j u,(fcells (key,cx))[j]? =some u->(w2.alloc (.cells #[.string key, .int .u8 cx.k, .int .i64 cx.n, .string cx.s, .slice cx.la cx.ll cx.lc, .slice cx.oa cx.ol cx.oc] 62)).cell? ((⟨w2.heap.size,0,none⟩:Addr).add j)=some u:=World.news_of_block (t:=62) (fr:=(0,0)) (heap_alloc_new w2 (.cells #[.string key, .int .u8 cx.k, .int .i64 cx.n, .string cx.s, .slice cx.la cx.ll cx.lc, .slice cx.oa cx.ol cx.oc] 62));have HNW:=qh hnw;clear hnw hown1 hgrow1 BX2 b12)
  |(at_builtin;refine wpList_append_own _ rfl (.tmp 22) (.tmp 26) 27 (by rfl) (w.heap.size+1) 62 i0 _ 6 96 Tryz.underlying27 hi0 hz0 hz1 hz2 rfl (by omega) v1 (0+k) ([] ++XA) (by rfl) ho2 ⟨w2.heap.size,0,none⟩ 1 1 (fcells (key,cx)) (by rfl) (by rfl) HNW.out (Xp key cx) (by unfold maxLen;omega) (by omega) (by simp;omega) ?_;intro v2 w4 hown2 hgrow2 _;have b24:Below (w.heap.size+1) w2 w4:=(((Below.refl w2.heap.size w2).alloc (Nat.le_refl _) (.cells #[.string key, .int .u8 cx.k, .int .i64 cx.n, .string cx.s, .slice cx.la cx.ll cx.lc, .slice cx.oa cx.ol cx.oc] 62)).mono (by omega)).trans (Zj hgrow2 (fun k hk=>(hrl k hk).1) (by simp;omega));have HBL4:=qh (HBL2.out.trans (b24.mono (by omega)));have zs4:w.heap.size<w4.heap.size:=Nat.lt_of_lt_of_le zs2 b24.size;have hrl2:∀g,v2.ownBlock=some g->w.heap.size+1<=g/\g<w4.heap.size:=hown2.lt;have HO2:=qh hown2;clear hgrow2 b24 hown2)
  |(at_builtin;refine wpList_append_own _ rfl (.tmp 31) (.tmp 34) 27 (by rfl) (w.heap.size+1) 62 i0 _ 6 96 Tryz.underlying27 hi0 hz0 hz1 hz2 rfl (by omega) v2 (0+k+1) ([] ++XA++fcells (key,cx)) (by rfl) HO2.out ⟨b,off+(k+1)*6,none⟩ (ol - (k+1)) (oc - (k+1)) XB (by rfl) (by omega) (HCB.out _ HBL4.out) HB1.out (by unfold maxLen;omega) (by omega) (by omega) ?_;intro v3 w5 hown3 hgrow3 _;have b45:Below (w.heap.size+1) w4 w5:=Zj hgrow3 (fun k hk=>(hrl2 k hk).1) (by omega);have HBL5:=qh (HBL4.out.trans (b45.mono (by omega)));have HO3:=qh hown3;clear hgrow3 b45 hown3))
 rw [<-HR.out]
 have hcat: [] ++XA++fcells (key,cx)++XB=(cs.take k++(key,cx)::cs.drop (k+1)).flatMap fcells:=by rw [<-HXA.out, <-HXB.out];simp
 have hll:(o.take k++(key,x)::o.drop (k+1)).length=0+k+1+(ol - (k+1)):=by
  rw [List.length_append,List.length_cons,List.length_drop,List.length_take, <-HLEN.out,Nat.min_eq_left hkl];omega
 have hown:=HO3.out
 rw [hcat, <-hll] at hown
 have hlt3:=hown.lt
 have hsh:Shows (only (fun k=>B0<=k) w) (only (Free B0 v3) w5) w.heap.size:=Ze fun q hq hl=>⟨⟨hq,fun e=>by have:=(hlt3 q e.symm).1;omega⟩,HBL5.out.block q hl⟩
 obtain ⟨a,n,c,hv,hf,hz⟩:=X7 (B0:=B0) (B1:=w.heap.size+1) hown (by omega) (by rw [List.length_append,List.length_append,List.length_cons,List.length_cons,List.length_drop,List.length_drop,List.length_take,List.length_take,HCL.out])
  (PF.with_ HCL.out (fun i hi=>PF.closed o cs _ _ _ _ i hsh HBL5.out.size (HPF.out i hi)) ((HX.out.sub hsh).more HBL5.out.size) hks (by rw [<-HLEN.out];exact hkl) (by rw [<-HLEN.out];omega)) (by rw [hll];omega)
 exact ⟨⟨a,n,c,by rw [hv],hf,hz⟩,HBL5.out⟩
inductive Sep (w:World):(Nat->Prop)->V->VC->Prop
 |mk (S:Nat->Prop) (c:VC) (l:List V) (o:List (ByteArray×V)) (cl co:Nat->VC) (gl go:Nat) (TL TO:Nat->Nat->Prop) (hb:c.Bnd) (hl:c.ll=l.length) (ho:c.ol=o.length)
     (hS:∀k,S k->k<w.heap.size)
     (hla:0<c.ll->c.la=some ⟨gl,0,none⟩/\S gl) (hoa:0<c.ol->c.oa=some ⟨go,0,none⟩/\S go) (hne:0<c.ll->0<c.ol->gl≠go)
     (hlc:∀i,i<l.length->ValAt w gl (i*5) (cl i))
     (hoc:∀i (h:i<o.length),w.cell? ⟨go,i*6,none⟩=some (.string o[i].1)/\o[i].1.size<=140737488355328/\ValAt w go (i*6+1) (co i))
     (hlv:∀i (h:i<l.length),Sep w (TL i) l[i] (cl i)) (hov:∀i (h:i<o.length),Sep w (TO i) o[i].2 (co i))
     (hTL:∀i,i<l.length->∀k,TL i k->S k/\k≠gl/\(0<c.ol->k≠go)) (hTO:∀i,i<o.length->∀k,TO i k->S k/\k≠go/\(0<c.ll->k≠gl))
     (dL:∀i j,i<l.length->j<l.length->i≠j->∀k,TL i k->¬TL j k) (dO:∀i j,i<o.length->j<o.length->i≠j->∀k,TO i k->¬TO j k)
     (dLO:∀i j,i<l.length->j<o.length->∀k,TL i k->¬TO j k):Sep w S (.mk c.k c.n c.s l o) c
def Agree (S:Nat->Prop) (w w':World):Prop:=∀k q,S k->w'.cell? ⟨k,q,none⟩=w.cell? ⟨k,q,none⟩
theorem Agree.val {S:Nat->Prop} {w w':World} (h:Agree S w w') {b o:Nat} {c:VC} (hb:S b) (hv:ValAt w b o c):ValAt w' b o c:=
 ⟨(h _ _ hb).trans hv.c0,(h _ _ hb).trans hv.c1,(h _ _ hb).trans hv.c2,(h _ _ hb).trans hv.c3,(h _ _ hb).trans hv.c4⟩
theorem Sep.isVal {w:World} {S:Nat->Prop} {v:V} {c:VC} (h:Sep w S v c):∀ {P:Nat->Prop},(∀k,S k->P k)->IsVal (only P w) w.heap.size v c:=by
 induction h with
 | mk S c l o cl co gl go TL TO hb hl ho hS hla hoa hne hlc hoc hlv hov hTL hTO dL dO dLO ihl iho=>
   intro P hP
   refine .mk c l o cl co gl 0 go 0 hb hl ho (fun h=>⟨(hla h).1,hS _ (hla h).2⟩) (fun h=>⟨(hoa h).1,hS _ (hoa h).2⟩) (fun i hi=> ?_) (fun i hi=>ihl i hi fun k hk=>hP _ (hTL i hi k hk).1) (fun i hi=> ?_) (fun i hi=>iho i hi fun k hk=>hP _ (hTO i hi k hk).1)
   .rw [Nat.zero_add];exact Yh (hP _ (hla (by omega)).2) (hlc i hi)
   .rw [Nat.zero_add]
    have hg:=hP _ (hoa (by omega)).2
    exact ⟨Z0 hg (hoc i hi).1,(hoc i hi).2.1,Yh hg (hoc i hi).2.2⟩
theorem Sep.bnd {w:World} {S:Nat->Prop} {v:V} {c:VC} (h:Sep w S v c):∀k,S k->k<w.heap.size:=by
 cases h with
 |mk S c l o cl co gl go TL TO hb hl ho hS hla hoa hne hlc hoc hlv hov hTL hTO dL dO dLO=>exact hS
theorem Sep.keep {w w':World} {S:Nat->Prop} {v:V} {c:VC} (h:Sep w S v c) (hz:w.heap.size<=w'.heap.size):Agree S w w'->Sep w' S v c:=by
 induction h with
 | mk S c l o cl co gl go TL TO hb hl ho hS hla hoa hne hlc hoc hlv hov hTL hTO dL dO dLO ihl iho=>
   intro ha
   refine .mk S c l o cl co gl go TL TO hb hl ho (fun k hk=>Nat.lt_of_lt_of_le (hS k hk) hz) hla hoa hne (fun i hi=>ha.val (hla (by omega)).2 (hlc i hi)) (fun i hi=> ?_) (fun i hi=>ihl i hi fun k q hk=>ha k q (hTL i hi k hk).1) (fun i hi=>iho i hi fun k q hk=>ha k q (hTO i hi k hk).1) hTL hTO dL dO dLO
   have hg:=(hoa (by omega)).2
   exact ⟨(ha _ _ hg).trans (hoc i hi).1,(hoc i hi).2.1,ha.val hg (hoc i hi).2.2⟩
theorem Sep.more {w:World} {S S':Nat->Prop} {v:V} {c:VC} (h:Sep w S v c) (hs:∀k,S k->S' k) (hz:∀k,S' k->k<w.heap.size):Sep w S' v c:=by
 cases h with
 | mk S c l o cl co gl go TL TO hb hl ho hS hla hoa hne hlc hoc hlv hov hTL hTO dL dO dLO=>
   exact .mk S' c l o cl co gl go TL TO hb hl ho hz (fun h=>⟨(hla h).1,hs _ (hla h).2⟩) (fun h=>⟨(hoa h).1,hs _ (hoa h).2⟩) hne hlc hoc hlv hov (fun i hi k hk=>⟨hs _ (hTL i hi k hk).1,(hTL i hi k hk).2⟩) (fun i hi k hk=>⟨hs _ (hTO i hi k hk).1,(hTO i hi k hk).2⟩) dL dO dLO
structure SepAt (w:World) (S:Nat->Prop) (v:V) (b o:Nat) (c:VC):Prop where
 at_:ValAt w b o c
 sep:Sep w S v c
 out:¬S b
inductive Way (w:World):Nat->Nat->V->List St->Nat->Nat->V->Prop
 |nil (b o:Nat) (v:V):Way w b o v [] b o v
 |list (b o:Nat) (v x y:V) (c:VC) (s:St) (r:List St) (k g q b' o':Nat) (hv:ValAt w b o c) (hi:IsVal w w.heap.size v c) (hs:stepP v s=some (x,k)) (hl:s.list=true) (ha:c.la=some ⟨g,q,none⟩) (h:Way w g (q+k*5) x r b' o' y):Way w b o v (s::r) b' o' y
 |obj (b o:Nat) (v x y:V) (c:VC) (s:St) (r:List St) (k g q b' o':Nat) (hv:ValAt w b o c) (hi:IsVal w w.heap.size v c) (hs:stepP v s=some (x,k)) (hl:s.list=false) (ha:c.oa=some ⟨g,q,none⟩) (h:Way w g (q+k*6+1) x r b' o' y):Way w b o v (s::r) b' o' y
def But (S:Nat->Prop) (b b' o':Nat) (w w':World):Prop:=∀k q,(S k∨k=b)->¬(k=b'/\o'<=q/\q<o'+5)->w'.cell? ⟨k,q,none⟩=w.cell? ⟨k,q,none⟩
theorem But.val {S:Nat->Prop} {b b' o':Nat} {w w':World} (h:But S b b' o' w w') {k q:Nat} {c:VC} (hk:S k∨k=b) (hn:k≠b'∨q+5<=o'∨o'+5<=q) (hv:ValAt w k q c):ValAt w' k q c:=
 ⟨(h _ _ hk (by omega)).trans hv.c0,(h _ _ hk (by omega)).trans hv.c1,(h _ _ hk (by omega)).trans hv.c2,(h _ _ hk (by omega)).trans hv.c3,(h _ _ hk (by omega)).trans hv.c4⟩
theorem zdj {w:World} {S:Nat->Prop} {v:V} {c:VC} (h:Sep w S v c):IsVal w w.heap.size v c:=
 (h.isVal (P:=fun _=>True) fun _ _=>trivial).sub (Zl _ _ _)
theorem zkp (o:List (ByteArray×V)) (k:Nat) (z:V) (i:Nat) (h:i<(putO o k z).length) (h2:i<o.length):(putO o k z)[i].1=o[i].1/\(i=k->(putO o k z)[i].2=z)/\(i≠k->(putO o k z)[i].2=o[i].2):=by
 have h3:(putO o k z)[i] =(o.set k ((o.getD k (.empty,V.none)).1,z))[i]'(by rw [List.length_set];exact h2):=rfl
 rw [h3,List.getElem_set]
 by_cases hk:k=i
 .subst hk
  rw [if_pos rfl]
  have e:o.getD k (.empty,V.none)=o[k] :=by simp [List.getD_eq_getElem?_getD,h2]
  exact ⟨by rw [e],fun _=>rfl,fun e=>absurd rfl e⟩
 .rw [if_neg hk]
  exact ⟨rfl,fun e=>absurd e.symm hk,fun _=>rfl⟩
set_option maxRecDepth 100000 in
theorem zao (p:List St):∀ {w:World} {S:Nat->Prop} {v x:V} {b o:Nat} {c:VC},SepAt w S v b o c->getP v p=some x->
 ∃ b' o' Sx cx,SepAt w Sx x b' o' cx/\Way w b o v p b' o' x/\((b'=b/\o'=o/\p= [])∨S b')/\(∀k,Sx k->S k)/\
   ∀(w':World) (S':Nat->Prop) (y:V) (cy:VC),w.heap.size<=w'.heap.size->But S b b' o' w w'->SepAt w' S' y b' o' cy->(∀k,S' k->¬S k/\k≠b)->∃z cz,putP v p y=some z/\SepAt w' (fun k=>S k∨S' k) z b o cz:=by
 induction p with
 | nil=>
   intro w S v x b o c h hg
   injection hg with hg;subst hg
   refine ⟨b,o,S,c,h, .nil b o v, .inl ⟨rfl,rfl,rfl⟩,fun _ h=>h,fun w' S' y cy hz hbut hy hd=>⟨y,cy,rfl,hy.at_,hy.sep.more (fun _ h=> .inr h) (fun k hk=> ?_),fun hk=> ?_⟩⟩
   .rcases hk with hk|hk
    .exact Nat.lt_of_lt_of_le (h.sep.bnd k hk) hz
    .exact hy.sep.bnd k hk
   .rcases hk with hk|hk
    .exact h.out hk
    .exact (hd b hk).2 rfl
 | cons s r ih =>
   intro w S v x b o c h hg
   obtain ⟨hat,hsep,hout⟩:=h
   have hfull:=zdj hsep
   unfold getP at hg
   cases hs:stepP v s with
   |none=>rw [hs] at hg;cases hg
   | some q =>
     obtain ⟨u,k⟩:=q
     rw [hs] at hg
     try dsimp only at hg
     have hstep:=Xm hs
     cases hsep with
     |mk S c l ol cl co gl go TL TO hb hl ho hS hla hoa hne hlc hoc hlv hov hTL hTO dL dO dLO=>
     rcases hstep with ⟨hls,_,hki,hk,hu⟩|⟨hls,_,hki,hk,hu⟩
     .have hk :k<l.length:=hk
      have hu:l[k] =u:=hu
      have hll:0<c.ll:=by omega
      obtain ⟨hga,hgS⟩:=hla hll
      have hnT:¬TL k gl:=fun e=>(hTL k hk gl e).2.1 rfl
      obtain ⟨b',o',Sx,cx,h1,h2,h3,h4,h5⟩:=ih (b:=gl) (o:=k*5) (c:=cl k) ⟨hlc k hk,by rw [<-hu];exact hlv k hk,hnT⟩ hg
      have hb'S:S b':=by
       rcases h3 with ⟨e,_⟩|e
       .rw [e];exact hgS
       .exact (hTL k hk _ e).1
      refine ⟨b',o',Sx,cx,h1, .list b o _ u x c s r k gl 0 b' o' hat hfull hs hls hga (by rw [Nat.zero_add];exact h2), .inr hb'S,fun j hj=>(hTL k hk j (h4 j hj)).1,fun w' S' y cy hz hbut hy hd=> ?_⟩
      obtain ⟨z,cz,hz1,hz2⟩:=h5 w' S' y cy hz (fun j q hj hn=>hbut j q (.inl (by
       rcases hj with hj|rfl
       .exact (hTL k hk j hj).1
       .exact hgS)) hn) hy (fun j hj=>⟨fun e=>(hd j hj).1 (hTL k hk j e).1,fun e=>(hd j hj).1 (e ▸ hgS)⟩)
      have hne':∀i,i<l.length->i≠k->gl≠b'∨i*5+5<=o'∨o'+5<=i*5:=fun i hi hik=>by
       rcases h3 with ⟨_,e,_⟩|e
       .right;rw [e];omega
       .left;intro e2;exact hnT (e2 ▸ e)
      have hgo':0<c.ol->go≠b':=fun h0 e2=>by
       rcases h3 with ⟨e,_⟩|e
       .exact hne hll h0 (by rw [e2,e])
       .exact (hTL k hk _ e).2.2 h0 e2.symm
      have agr:∀(T:Nat->Prop),(∀j,T j->S j)->¬T b'->Agree T w w':=fun T hT hn j q hj=>hbut j q (.inl (hT j hj)) (fun e=>hn (e.1 ▸ hj))
      refine ⟨(V.mk c.k c.n c.s l ol).setL k z,c,by unfold putP;rw [hs];dsimp only;rw [hz1];dsimp only;rw [if_pos hls],hbut.val (.inr rfl) (.inl fun e=>hout (e ▸ hb'S)) hat, ?_,fun e=> ?_⟩
      .show Sep w' _ (V.mk c.k c.n c.s (l.set k z) ol) c
       refine .mk _ c (l.set k z) ol (fun i=>if i=k then cz else cl i) co gl go (fun i=>if i=k then (fun j=>TL k j∨S' j) else TL i) TO hb (by rw [List.length_set];exact hl) ho (fun j hj=> ?_) (fun h=>⟨(hla h).1, .inl (hla h).2⟩) (fun h=>⟨(hoa h).1, .inl (hoa h).2⟩) hne (fun i hi=> ?_) (fun i hi=> ?_) (fun i hi=> ?_) (fun i hi=> ?_) (fun i hi j hj=> ?_) (fun i hi j hj=>⟨.inl (hTO i hi j hj).1,(hTO i hi j hj).2⟩) (fun i i' hi hi' hii j hj hj'=> ?_) dO (fun i i' hi hi' j hj hj'=> ?_)
       .rcases hj with hj|hj
        .exact Nat.lt_of_lt_of_le (hS j hj) hz
        .exact hy.sep.bnd j hj
       .rw [List.length_set] at hi
        try dsimp only
        by_cases hik:i=k
        .rw [if_pos hik,hik];exact hz2.at_
        .rw [if_neg hik];exact hbut.val (.inl hgS) (hne' i hi hik) (hlc i hi)
       .have hg:=hgo' (by omega)
        exact ⟨(hbut _ _ (.inl (hoa (by omega)).2) (fun e=>hg e.1)).trans (hoc i hi).1,(hoc i hi).2.1,hbut.val (.inl (hoa (by omega)).2) (.inl hg) (hoc i hi).2.2⟩
       .rw [List.length_set] at hi
        try dsimp only
        by_cases hik:i=k
        .subst hik
         rw [if_pos rfl,if_pos rfl,List.getElem_set_self];exact hz2.sep
        .rw [if_neg hik,if_neg hik,List.getElem_set_ne (Ne.symm hik)]
         exact (hlv i hi).keep hz (agr _ (fun j hj=>(hTL i hi j hj).1) fun e=>by
          rcases h3 with ⟨e1,_⟩|e1
          .exact (hTL i hi _ e).2.1 e1
          .exact dL i k hi hk hik _ e e1)
       .exact (hov i hi).keep hz (agr _ (fun j hj=>(hTO i hi j hj).1) fun e=>by
         rcases h3 with ⟨e1,_⟩|e1
         .exact (hTO i hi _ e).2.2 hll e1
         .exact dLO k i hk hi _ e1 e)
       .rw [List.length_set] at hi
        try dsimp only at hj
        by_cases hik:i=k
        .rw [if_pos hik] at hj
         rcases hj with hj|hj
         .exact ⟨.inl (hTL k hk j hj).1,(hTL k hk j hj).2⟩
         .exact ⟨.inr hj,fun e=>(hd j hj).1 (e ▸ hgS),fun h0 e=>(hd j hj).1 (e ▸ (hoa h0).2)⟩
        .rw [if_neg hik] at hj
         exact ⟨.inl (hTL i hi j hj).1,(hTL i hi j hj).2⟩
       .rw [List.length_set] at hi hi'
        try dsimp only at hj hj'
        by_cases hik:i=k
        .have hik':i'≠k:=fun e=>hii (by rw [hik,e])
         rw [if_pos hik] at hj
         rw [if_neg hik'] at hj'
         rcases hj with hj|hj
         .exact dL k i' hk hi' (fun e=>hik' e.symm) j hj hj'
         .exact (hd j hj).1 (hTL i' hi' j hj').1
        .rw [if_neg hik] at hj
         by_cases hik':i'=k
         .rw [if_pos hik'] at hj'
          rcases hj' with hj'|hj'
          .exact dL i k hi hk hik j hj hj'
          .exact (hd j hj').1 (hTL i hi j hj).1
         .rw [if_neg hik'] at hj'
          exact dL i i' hi hi' hii j hj hj'
       .rw [List.length_set] at hi
        try dsimp only at hj
        by_cases hik:i=k
        .rw [if_pos hik] at hj
         rcases hj with hj|hj
         .exact dLO k i' hk hi' j hj hj'
         .exact (hd j hj).1 (hTO i' hi' j hj').1
        .rw [if_neg hik] at hj
         exact dLO i i' hi hi' j hj hj'
      .rcases e with e|e
       .exact hout e
       .exact (hd b e).2 rfl
     .have hk :k<ol.length:=hk
      have hu:ol[k].2=u:=hu
      have hll:0<c.ol:=by omega
      obtain ⟨hga,hgS⟩:=hoa hll
      have hnT:¬TO k go:=fun e=>(hTO k hk go e).2.1 rfl
      obtain ⟨b',o',Sx,cx,h1,h2,h3,h4,h5⟩:=ih (b:=go) (o:=k*6+1) (c:=co k) ⟨(hoc k hk).2.2,by rw [<-hu];exact hov k hk,hnT⟩ hg
      have hb'S:S b':=by
       rcases h3 with ⟨e,_⟩|e
       .rw [e];exact hgS
       .exact (hTO k hk _ e).1
      refine ⟨b',o',Sx,cx,h1, .obj b o _ u x c s r k go 0 b' o' hat hfull hs hls hga (by rw [Nat.zero_add];exact h2), .inr hb'S,fun j hj=>(hTO k hk j (h4 j hj)).1,fun w' S' y cy hz hbut hy hd=> ?_⟩
      obtain ⟨z,cz,hz1,hz2⟩:=h5 w' S' y cy hz (fun j q hj hn=>hbut j q (.inl (by
       rcases hj with hj|rfl
       .exact (hTO k hk j hj).1
       .exact hgS)) hn) hy (fun j hj=>⟨fun e=>(hd j hj).1 (hTO k hk j e).1,fun e=>(hd j hj).1 (e ▸ hgS)⟩)
      have hne':∀i,i<ol.length->i≠k->go≠b'∨i*6+6<=o'∨o'+5<=i*6:=fun i hi hik=>by
       rcases h3 with ⟨_,e,_⟩|e
       .right;rw [e];omega
       .left;intro e2;exact hnT (e2 ▸ e)
      have hkey':go≠b'∨k*6<o':=by
       rcases h3 with ⟨_,e,_⟩|e
       .right;rw [e];omega
       .left;intro e2;exact hnT (e2 ▸ e)
      have hgl':0<c.ll->gl≠b':=fun h0 e2=>by
       rcases h3 with ⟨e,_⟩|e
       .exact hne h0 hll (by rw [e2,e])
       .exact (hTO k hk _ e).2.2 h0 e2.symm
      have agr:∀(T:Nat->Prop),(∀j,T j->S j)->¬T b'->Agree T w w':=fun T hT hn j q hj=>hbut j q (.inl (hT j hj)) (fun e=>hn (e.1 ▸ hj))
      refine ⟨(V.mk c.k c.n c.s l ol).setO k z,c,by unfold putP;rw [hs];dsimp only;rw [hz1];dsimp only;rw [if_neg (by simp [hls])],hbut.val (.inr rfl) (.inl fun e=>hout (e ▸ hb'S)) hat, ?_,fun e=> ?_⟩
      .show Sep w' _ (V.mk c.k c.n c.s l (putO ol k z)) c
       have hlen:(putO ol k z).length=ol.length:=by unfold putO;rw [List.length_set]
       have hget:∀i (h:i<(putO ol k z).length),(putO ol k z)[i].1=(ol[i]'(by omega)).1/\(i=k->(putO ol k z)[i].2=z)/\(i≠k->(putO ol k z)[i].2=(ol[i]'(by omega)).2):=fun i h=>zkp ol k z i h (by omega)
       refine .mk _ c l (putO ol k z) cl (fun i=>if i=k then cz else co i) gl go TL (fun i=>if i=k then (fun j=>TO k j∨S' j) else TO i) hb hl (by rw [hlen];exact ho) (fun j hj=> ?_) (fun h=>⟨(hla h).1, .inl (hla h).2⟩) (fun h=>⟨(hoa h).1, .inl (hoa h).2⟩) hne (fun i hi=> ?_) (fun i hi=> ?_) (fun i hi=> ?_) (fun i hi=> ?_) (fun i hi j hj=>⟨.inl (hTL i hi j hj).1,(hTL i hi j hj).2⟩) (fun i hi j hj=> ?_) dL (fun i i' hi hi' hii j hj hj'=> ?_) (fun i i' hi hi' j hj hj'=> ?_)
       .rcases hj with hj|hj
        .exact Nat.lt_of_lt_of_le (hS j hj) hz
        .exact hy.sep.bnd j hj
       .exact hbut.val (.inl (hla (by omega)).2) (.inl (hgl' (by omega))) (hlc i hi)
       .have hi2:i<ol.length:=by omega
        obtain ⟨g1,g2,g3⟩:=hget i hi
        rw [g1]
        try dsimp only
        by_cases hik:i=k
        .subst hik
         refine ⟨(hbut _ _ (.inl hgS) (by omega)).trans (hoc i hi2).1,(hoc i hi2).2.1, ?_⟩
         rw [if_pos rfl];exact hz2.at_
        .have:=hne' i hi2 hik
         refine ⟨(hbut _ _ (.inl hgS) (by omega)).trans (hoc i hi2).1,(hoc i hi2).2.1, ?_⟩
         rw [if_neg hik];exact hbut.val (.inl hgS) (by omega) (hoc i hi2).2.2
       .exact (hlv i hi).keep hz (agr _ (fun j hj=>(hTL i hi j hj).1) fun e=>by
         rcases h3 with ⟨e1,_⟩|e1
         .exact (hTL i hi _ e).2.2 hll e1
         .exact dLO i k hi hk _ e e1)
       .have hi2:i<ol.length:=by omega
        obtain ⟨g1,g2,g3⟩:=hget i hi
        try dsimp only
        by_cases hik:i=k
        .rw [if_pos hik,if_pos hik,g2 hik];exact hz2.sep
        .rw [if_neg hik,if_neg hik,g3 hik]
         exact (hov i hi2).keep hz (agr _ (fun j hj=>(hTO i hi2 j hj).1) fun e=>by
          rcases h3 with ⟨e1,_⟩|e1
          .exact (hTO i hi2 _ e).2.1 e1
          .exact dO i k hi2 hk hik _ e e1)
       .rw [hlen] at hi
        try dsimp only at hj
        by_cases hik:i=k
        .rw [if_pos hik] at hj
         rcases hj with hj|hj
         .exact ⟨.inl (hTO k hk j hj).1,(hTO k hk j hj).2⟩
         .exact ⟨.inr hj,fun e=>(hd j hj).1 (e ▸ hgS),fun h0 e=>(hd j hj).1 (e ▸ (hla h0).2)⟩
        .rw [if_neg hik] at hj
         exact ⟨.inl (hTO i hi j hj).1,(hTO i hi j hj).2⟩
       .rw [hlen] at hi hi'
        try dsimp only at hj hj'
        by_cases hik:i=k
        .have hik':i'≠k:=fun e=>hii (by rw [hik,e])
         rw [if_pos hik] at hj
         rw [if_neg hik'] at hj'
         rcases hj with hj|hj
         .exact dO k i' hk hi' (fun e=>hik' e.symm) j hj hj'
         .exact (hd j hj).1 (hTO i' hi' j hj').1
        .rw [if_neg hik] at hj
         by_cases hik':i'=k
         .rw [if_pos hik'] at hj'
          rcases hj' with hj'|hj'
          .exact dO i k hi hk hik j hj hj'
          .exact (hd j hj').1 (hTO i hi j hj).1
         .rw [if_neg hik'] at hj'
          exact dO i i' hi hi' hii j hj hj'
       .rw [hlen] at hi'
        try dsimp only at hj'
        by_cases hik:i'=k
        .rw [if_pos hik] at hj'
         rcases hj' with hj'|hj'
         .exact dLO i k hi hk j hj hj'
         .exact (hd j hj').1 (hTL i hi j hj).1
        .rw [if_neg hik] at hj'
         exact dLO i i' hi hi' j hj hj'
      .rcases e with e|e
       .exact hout e
       .exact (hd b e).2 rfl
end Go.Proofs.YtbgheehjfnoiiaaGreatDoor
