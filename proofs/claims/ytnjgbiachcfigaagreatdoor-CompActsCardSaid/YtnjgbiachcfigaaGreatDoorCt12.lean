/-
  Contracts of the functions that the law reaches: With: the walk. With: the walk. With.
-/
import Derived.Test.YtnjgbiachcfigaaGreatDoorCt11
namespace Go.Proofs.YtnjgbiachcfigaaGreatDoor
open Go.RowKit
set_option maxHeartbeats 8000000
set_option maxRecDepth 100000 in
theorem zks (w:World) (B0:Nat) (hB0:B0<=w.heap.size) (o:List (ByteArray×V)) (b off ol oc:Nat) (ho:IsFields (only (fun k=>B0<=k) w) w.heap.size o (some ⟨b,off,none⟩) ol oc) (key:ByteArray) (hks:key.size<=140737488355328) (x:V) (cx:VC) (hx:IsVal (only (fun k=>B0<=k) w) w.heap.size x cx) (hpos:0<ol) (hfew:ol<=1000000) (his:fieldIs o key=false) (hke:fieldK o key=oc):
 Calls Tryz.prog 72 #[.slice (some ⟨b,off,none⟩) ol oc, .string key, .agg #[.int .u8 cx.k, .int .i64 cx.n, .string cx.s, .slice cx.la cx.ll cx.lc, .slice cx.oa cx.ol cx.oc]] w (WithPost w B0 (withF o key x)):=by
 obtain ⟨i0,hi0,hz0,hz1,hz2⟩:=info_parts Ya
 have hlen:=ho.len
 have hcap:=ho.cap
 have hmax:=ho.max
 obtain ⟨cs,b2,off2,hcl,hab,hcell,hpf⟩:=ho.cells
 have HCELL:Hid (∀W,Below w.heap.size w W->∀j u,(cs.flatMap fcells)[j]? =some u->W.cell? ⟨b,off+j,none⟩=some u):=by
  intro W hW j u hj
  have hjl:=(List.getElem?_eq_some_iff.1 hj).1
  rw [Zl fcells 6 (fun _=>rfl),hcl, <-hlen] at hjl
  obtain ⟨e,hb2⟩:=hab (by omega)
  injection e with e;injection e with e1 e2
  subst e1 e2
  exact Zb hW (Zw (hcell j u hj)).2 hb2
 obtain ⟨k,hk⟩:∃k,fieldK o key=k:=⟨_,rfl⟩
 rw [hk] at hke
 have hkl:k<=ol:=by rw [<-hk,hlen];exact Yh o key
 have hkl2:=hkl
 have hkc:k<=cs.length:=by rw [hcl, <-hlen];exact hkl
 have hkc2:k<=cs.length:=by rw [hcl, <-hlen];omega
 have HF:Hid (∀W,Below w.heap.size w W->Calls Tryz.prog 75 #[.agg #[.int .u8 0, .int .i64 0, .string { data:= #[] }, .slice none 0 0, .slice (some ⟨b,off,none⟩) ol oc], .string key] W fun e w'=>e= .returned (.tuple #[.int .i64 (k:Int), .bool false])/\Below W.heap.size W w'):=by
  intro W hW
  have hof:IsFields W W.heap.size o (some ⟨b,off,none⟩) ol oc:=(IsFields.keep (IsFields.sub (Zn (fun k=>B0<=k) w _) ho) hW).more hW.size
  have:=Yg W o key 0 0 { data:= #[] } none 0 0 (some ⟨b,off,none⟩) ol oc hof
  rw [hk,his] at this;exact this
 have hwf:withF o key x=o.take k++(key,x)::o.drop (k):=by rw [withF,his,hk];rfl
 rw [hwf]
 have HBX:=qh (BC.start w #[.int .u8 cx.k, .int .i64 cx.n, .string cx.s, .slice cx.la cx.ll cx.lc, .slice cx.oa cx.ol cx.oc] 36)
 have HAL:=qh ((Below.refl _ _).alloc (Nat.le_refl _) (.cells #[.int .u8 cx.k, .int .i64 cx.n, .string cx.s, .slice cx.la cx.ll cx.lc, .slice cx.oa cx.ol cx.oc] 36):Below w.heap.size w _)
 have HX:=qh hx
 have HPF:=qh hpf
 have HCL:=qh hcl
 have HLEN:=qh hlen
 obtain ⟨R,hR⟩:∃R,WithPost w B0 (o.take k++(key,x)::o.drop (k))=R:=⟨_,rfl⟩
 rw [hR]
 have HR:=qh hR
 obtain ⟨XA,hXA⟩:∃XA,(cs.take k).flatMap fcells=XA:=⟨_,rfl⟩
 obtain ⟨XB,hXB⟩:∃XB,(cs.drop (k)).flatMap fcells=XB:=⟨_,rfl⟩
 have hla:XA.length=k*6:=by rw [<-hXA,Zl fcells 6 (fun _=>rfl),List.length_take,Nat.min_eq_left hkc]
 have hlb:XB.length=(ol - (k))*6:=by rw [<-hXB,Zl fcells 6 (fun _=>rfl),List.length_drop,hcl, <-hlen]
 have HA1:Hid (∀u ∈ XA,u.oneCell'=true):=by unfold Hid;rw [<-hXA];exact Yt _
 have HB1:Hid (∀u ∈ XB,u.oneCell'=true):=by unfold Hid;rw [<-hXB];exact Yt _
 have HCA:Hid (∀W,Below w.heap.size w W->∀j u,XA[j]? =some u->W.cell? ((⟨b,off,none⟩:Addr).add j)=some u):=by
  intro W hW j u hj
  rw [<-hXA] at hj
  rw [Zt];exact HCELL.out W hW j u (Ji hj)
 have HCB:Hid (∀W,Below w.heap.size w W->∀j u,XB[j]? =some u->W.cell? ((⟨b,off+(k)*6,none⟩:Addr).add j)=some u):=by
  intro W hW j u hj
  rw [<-hXB] at hj
  rw [Zt,Nat.add_assoc];exact HCELL.out W hW _ u (Qu hkc2 hj)
 have HXA:=qh hXA
 have HXB:=qh hXB
 clear ho hab hcell hk his hx hpf hcl hlen hwf hR hXA hXB hkc hkc2
 have hol:ol=k:=by omega
 have hoc:oc=k:=by omega
 cases hol;cases hoc
 go_enter Tryz.func72,Tryz.ntmps72
 go_wp2_with fail
 refine (HF.out _ HAL.out).mono ?_
 rintro e w1 ⟨rfl,hb1⟩
 have bl1:=HAL.out.trans (hb1.mono (by simp))
 have HBX1:=qh (HBX.out.keep hb1 (by simp))
 have zs1:w.heap.size<w1.heap.size:=HBX1.out.lt
 have HBL1:=qh bl1
 have ho1:w1.ownsRow (w.heap.size+1) 75 6 (.slice none 0 0) 0 [] :=⟨rfl, .inl ⟨rfl,rfl⟩⟩
 clear hb1 bl1
 go_wp2_with (first
  |(at_builtin;refine wpList_append_own _ rfl (.tmp 17) (.tmp 20) 34 (by rfl) (w.heap.size+1) 75 i0 _ 6 96 Tryz.underlying34 hi0 hz0 hz1 hz2 rfl (by omega) (.slice none 0 0) 0 [] (by rfl) ho1 ⟨b,off,none⟩ ol (ol) XA (by rfl) hla (HCA.out _ HBL1.out) HA1.out (by unfold maxLen;omega) (by omega) (by omega) ?_;intro v1 w2 hown1 hgrow1 _;have b12:Below (w.heap.size+1) w1 w2:=Zj hgrow1 (fun ol hk=>by simp [Value.ownBlock] at hk) (by omega);have BX2:=HBX1.out.keep b12 (by omega);obtain ⟨x0,x1,x2,x3,x4⟩:=row5 BX2.at_;have zs2:=BX2.lt;have HBL2:=qh (HBL1.out.trans (b12.mono (by omega)));have HO1:=qh hown1;have hrl:∀g,v1.ownBlock=some g->w.heap.size+1<=g/\g<w2.heap.size:=hown1.lt;have ho2:=hown1.alloc (.cells #[.string key, .int .u8 cx.k, .int .i64 cx.n, .string cx.s, .slice cx.la cx.ll cx.lc, .slice cx.oa cx.ol cx.oc] 75);have hnw:∀j u,(fcells (key,cx))[j]? =some u->(w2.alloc (.cells #[.string key, .int .u8 cx.k, .int .i64 cx.n, .string cx.s, .slice cx.la cx.ll cx.lc, .slice cx.oa cx.ol cx.oc] 75)).cell? ((⟨w2.heap.size,0,none⟩:Addr).add j)=some u:=World.news_of_block (t:=75) (fr:=(0,0)) (heap_alloc_new w2 (.cells #[.string key, .int .u8 cx.k, .int .i64 cx.n, .string cx.s, .slice cx.la cx.ll cx.lc, .slice cx.oa cx.ol cx.oc] 75));have HNW:=qh hnw;clear hnw hown1 hgrow1 BX2 b12)
  |(at_builtin;refine wpList_append_own _ rfl (.tmp 22) (.tmp 26) 34 (by rfl) (w.heap.size+1) 75 i0 _ 6 96 Tryz.underlying34 hi0 hz0 hz1 hz2 rfl (by omega) v1 (0+ol) ([] ++XA) (by rfl) ho2 ⟨w2.heap.size,0,none⟩ 1 1 (fcells (key,cx)) (by rfl) (by rfl) HNW.out (Xg key cx) (by unfold maxLen;omega) (by omega) (by simp;omega) ?_;intro v2 w4 hown2 hgrow2 _;have b24:Below (w.heap.size+1) w2 w4:=(((Below.refl w2.heap.size w2).alloc (Nat.le_refl _) (.cells #[.string key, .int .u8 cx.k, .int .i64 cx.n, .string cx.s, .slice cx.la cx.ll cx.lc, .slice cx.oa cx.ol cx.oc] 75)).mono (by omega)).trans (Zj hgrow2 (fun ol hk=>(hrl ol hk).1) (by simp;omega));have HBL4:=qh (HBL2.out.trans (b24.mono (by omega)));have zs4:w.heap.size<w4.heap.size:=Nat.lt_of_lt_of_le zs2 b24.size;have hrl2:∀g,v2.ownBlock=some g->w.heap.size+1<=g/\g<w4.heap.size:=hown2.lt;have HO2:=qh hown2;clear hgrow2 b24 hown2)
  |(at_builtin;refine wpList_append_own _ rfl (.tmp 31) (.tmp 34) 34 (by rfl) (w.heap.size+1) 75 i0 _ 6 96 Tryz.underlying34 hi0 hz0 hz1 hz2 rfl (by omega) v2 (0+ol+1) ([] ++XA++fcells (key,cx)) (by rfl) HO2.out ⟨b,off,none⟩ 0 0 XB (by rfl) (by omega) (fun j u hj=>by rw [List.getElem?_eq_none (by omega)] at hj;cases hj) HB1.out (by unfold maxLen;omega) (by omega) (by omega) ?_;intro v3 w5 hown3 hgrow3 _;have b45:Below (w.heap.size+1) w4 w5:=Zj hgrow3 (fun ol hk=>(hrl2 ol hk).1) (by omega);have HBL5:=qh (HBL4.out.trans (b45.mono (by omega)));have HO3:=qh hown3;clear hgrow3 b45 hown3))
 rw [<-HR.out]
 have hcat: [] ++XA++fcells (key,cx)++XB=(cs.take ol++(key,cx)::cs.drop (ol)).flatMap fcells:=by rw [<-HXA.out, <-HXB.out];simp
 have hll:(o.take ol++(key,x)::o.drop (ol)).length=0+ol+1+0:=by
  rw [List.length_append,List.length_cons,List.length_drop,List.length_take, <-HLEN.out,Nat.min_eq_left hkl];omega
 have hown:=HO3.out
 rw [hcat, <-hll] at hown
 have hlt3:=hown.lt
 have hsh:Shows (only (fun ol=>B0<=ol) w) (only (Free B0 v3) w5) w.heap.size:=Ze fun q hq hl=>⟨⟨hq,fun e=>by have:=(hlt3 q e.symm).1;omega⟩,HBL5.out.block q hl⟩
 obtain ⟨a,n,c,hv,hf,hz⟩:=Qf (B0:=B0) (B1:=w.heap.size+1) hown (by omega) (by rw [List.length_append,List.length_append,List.length_cons,List.length_cons,List.length_drop,List.length_drop,List.length_take,List.length_take,HCL.out])
  (PF.with_ HCL.out (fun i hi=>PF.closed o cs _ _ _ _ i hsh HBL5.out.size (HPF.out i hi)) ((HX.out.sub hsh).more HBL5.out.size) hks (by rw [<-HLEN.out];exact hkl) (by rw [<-HLEN.out];omega)) (by rw [hll];omega)
 exact ⟨⟨a,n,c,by rw [hv],hf,hz⟩,HBL5.out⟩
set_option maxRecDepth 100000 in
theorem zgl (w:World) (B0:Nat) (hB0:B0<=w.heap.size) (o:List (ByteArray×V)) (b off ol oc:Nat) (ho:IsFields (only (fun k=>B0<=k) w) w.heap.size o (some ⟨b,off,none⟩) ol oc) (key:ByteArray) (hks:key.size<=140737488355328) (x:V) (cx:VC) (hx:IsVal (only (fun k=>B0<=k) w) w.heap.size x cx) (hpos:0<ol) (hfew:ol<=1000000) (his:fieldIs o key=true) (hke:fieldK o key+1<oc):
 Calls Tryz.prog 72 #[.slice (some ⟨b,off,none⟩) ol oc, .string key, .agg #[.int .u8 cx.k, .int .i64 cx.n, .string cx.s, .slice cx.la cx.ll cx.lc, .slice cx.oa cx.ol cx.oc]] w (WithPost w B0 (withF o key x)):=by
 obtain ⟨i0,hi0,hz0,hz1,hz2⟩:=info_parts Ya
 have hlen:=ho.len
 have hcap:=ho.cap
 have hmax:=ho.max
 obtain ⟨cs,b2,off2,hcl,hab,hcell,hpf⟩:=ho.cells
 have HCELL:Hid (∀W,Below w.heap.size w W->∀j u,(cs.flatMap fcells)[j]? =some u->W.cell? ⟨b,off+j,none⟩=some u):=by
  intro W hW j u hj
  have hjl:=(List.getElem?_eq_some_iff.1 hj).1
  rw [Zl fcells 6 (fun _=>rfl),hcl, <-hlen] at hjl
  obtain ⟨e,hb2⟩:=hab (by omega)
  injection e with e;injection e with e1 e2
  subst e1 e2
  exact Zb hW (Zw (hcell j u hj)).2 hb2
 obtain ⟨k,hk⟩:∃k,fieldK o key=k:=⟨_,rfl⟩
 rw [hk] at hke
 have hkl:k<=ol:=by rw [<-hk,hlen];exact Yh o key
 have hkl2:k<ol:=by rw [<-hk,hlen];exact Yu his
 have hkc:k<=cs.length:=by rw [hcl, <-hlen];exact hkl
 have hkc2:k+1<=cs.length:=by rw [hcl, <-hlen];omega
 have HF:Hid (∀W,Below w.heap.size w W->Calls Tryz.prog 75 #[.agg #[.int .u8 0, .int .i64 0, .string { data:= #[] }, .slice none 0 0, .slice (some ⟨b,off,none⟩) ol oc], .string key] W fun e w'=>e= .returned (.tuple #[.int .i64 (k:Int), .bool true])/\Below W.heap.size W w'):=by
  intro W hW
  have hof:IsFields W W.heap.size o (some ⟨b,off,none⟩) ol oc:=(IsFields.keep (IsFields.sub (Zn (fun k=>B0<=k) w _) ho) hW).more hW.size
  have:=Yg W o key 0 0 { data:= #[] } none 0 0 (some ⟨b,off,none⟩) ol oc hof
  rw [hk,his] at this;exact this
 have hwf:withF o key x=o.take k++(key,x)::o.drop (k+1):=by rw [withF,his,hk];rfl
 rw [hwf]
 have HBX:=qh (BC.start w #[.int .u8 cx.k, .int .i64 cx.n, .string cx.s, .slice cx.la cx.ll cx.lc, .slice cx.oa cx.ol cx.oc] 36)
 have HAL:=qh ((Below.refl _ _).alloc (Nat.le_refl _) (.cells #[.int .u8 cx.k, .int .i64 cx.n, .string cx.s, .slice cx.la cx.ll cx.lc, .slice cx.oa cx.ol cx.oc] 36):Below w.heap.size w _)
 have HX:=qh hx
 have HPF:=qh hpf
 have HCL:=qh hcl
 have HLEN:=qh hlen
 obtain ⟨R,hR⟩:∃R,WithPost w B0 (o.take k++(key,x)::o.drop (k+1))=R:=⟨_,rfl⟩
 rw [hR]
 have HR:=qh hR
 obtain ⟨XA,hXA⟩:∃XA,(cs.take k).flatMap fcells=XA:=⟨_,rfl⟩
 obtain ⟨XB,hXB⟩:∃XB,(cs.drop (k+1)).flatMap fcells=XB:=⟨_,rfl⟩
 have hla:XA.length=k*6:=by rw [<-hXA,Zl fcells 6 (fun _=>rfl),List.length_take,Nat.min_eq_left hkc]
 have hlb:XB.length=(ol - (k+1))*6:=by rw [<-hXB,Zl fcells 6 (fun _=>rfl),List.length_drop,hcl, <-hlen]
 have HA1:Hid (∀u ∈ XA,u.oneCell'=true):=by unfold Hid;rw [<-hXA];exact Yt _
 have HB1:Hid (∀u ∈ XB,u.oneCell'=true):=by unfold Hid;rw [<-hXB];exact Yt _
 have HCA:Hid (∀W,Below w.heap.size w W->∀j u,XA[j]? =some u->W.cell? ((⟨b,off,none⟩:Addr).add j)=some u):=by
  intro W hW j u hj
  rw [<-hXA] at hj
  rw [Zt];exact HCELL.out W hW j u (Ji hj)
 have HCB:Hid (∀W,Below w.heap.size w W->∀j u,XB[j]? =some u->W.cell? ((⟨b,off+(k+1)*6,none⟩:Addr).add j)=some u):=by
  intro W hW j u hj
  rw [<-hXB] at hj
  rw [Zt,Nat.add_assoc];exact HCELL.out W hW _ u (Qu hkc2 hj)
 have HXA:=qh hXA
 have HXB:=qh hXB
 clear ho hab hcell hk his hx hpf hcl hlen hwf hR hXA hXB hkc hkc2
 go_enter Tryz.func72,Tryz.ntmps72
 go_wp2_with fail
 refine (HF.out _ HAL.out).mono ?_
 rintro e w1 ⟨rfl,hb1⟩
 have bl1:=HAL.out.trans (hb1.mono (by simp))
 have HBX1:=qh (HBX.out.keep hb1 (by simp))
 have zs1:w.heap.size<w1.heap.size:=HBX1.out.lt
 have HBL1:=qh bl1
 have ho1:w1.ownsRow (w.heap.size+1) 75 6 (.slice none 0 0) 0 [] :=⟨rfl, .inl ⟨rfl,rfl⟩⟩
 clear hb1 bl1
 go_wp2_with (first
  |(at_builtin;refine wpList_append_own _ rfl (.tmp 17) (.tmp 20) 34 (by rfl) (w.heap.size+1) 75 i0 _ 6 96 Tryz.underlying34 hi0 hz0 hz1 hz2 rfl (by omega) (.slice none 0 0) 0 [] (by rfl) ho1 ⟨b,off,none⟩ k oc XA (by rfl) hla (HCA.out _ HBL1.out) HA1.out (by unfold maxLen;omega) (by omega) (by omega) ?_;intro v1 w2 hown1 hgrow1 _;have b12:Below (w.heap.size+1) w1 w2:=Zj hgrow1 (fun k hk=>by simp [Value.ownBlock] at hk) (by omega);have BX2:=HBX1.out.keep b12 (by omega);obtain ⟨x0,x1,x2,x3,x4⟩:=row5 BX2.at_;have zs2:=BX2.lt;have HBL2:=qh (HBL1.out.trans (b12.mono (by omega)));have HO1:=qh hown1;have hrl:∀g,v1.ownBlock=some g->w.heap.size+1<=g/\g<w2.heap.size:=hown1.lt;have ho2:=hown1.alloc (.cells #[.string key, .int .u8 cx.k, .int .i64 cx.n, .string cx.s, .slice cx.la cx.ll cx.lc, .slice cx.oa cx.ol cx.oc] 75);have hnw:∀j u,(fcells (key,cx))[j]? =some u->(w2.alloc (.cells #[.string key, .int .u8 cx.k, .int .i64 cx.n, .string cx.s, .slice cx.la cx.ll cx.lc, .slice cx.oa cx.ol cx.oc] 75)).cell? ((⟨w2.heap.size,0,none⟩:Addr).add j)=some u:=World.news_of_block (t:=75) (fr:=(0,0)) (heap_alloc_new w2 (.cells #[.string key, .int .u8 cx.k, .int .i64 cx.n, .string cx.s, .slice cx.la cx.ll cx.lc, .slice cx.oa cx.ol cx.oc] 75));have HNW:=qh hnw;clear hnw hown1 hgrow1 BX2 b12)
  |(at_builtin;refine wpList_append_own _ rfl (.tmp 22) (.tmp 26) 34 (by rfl) (w.heap.size+1) 75 i0 _ 6 96 Tryz.underlying34 hi0 hz0 hz1 hz2 rfl (by omega) v1 (0+k) ([] ++XA) (by rfl) ho2 ⟨w2.heap.size,0,none⟩ 1 1 (fcells (key,cx)) (by rfl) (by rfl) HNW.out (Xg key cx) (by unfold maxLen;omega) (by omega) (by simp;omega) ?_;intro v2 w4 hown2 hgrow2 _;have b24:Below (w.heap.size+1) w2 w4:=(((Below.refl w2.heap.size w2).alloc (Nat.le_refl _) (.cells #[.string key, .int .u8 cx.k, .int .i64 cx.n, .string cx.s, .slice cx.la cx.ll cx.lc, .slice cx.oa cx.ol cx.oc] 75)).mono (by omega)).trans (Zj hgrow2 (fun k hk=>(hrl k hk).1) (by simp;omega));have HBL4:=qh (HBL2.out.trans (b24.mono (by omega)));have zs4:w.heap.size<w4.heap.size:=Nat.lt_of_lt_of_le zs2 b24.size;have hrl2:∀g,v2.ownBlock=some g->w.heap.size+1<=g/\g<w4.heap.size:=hown2.lt;have HO2:=qh hown2;clear hgrow2 b24 hown2)
  |(at_builtin;refine wpList_append_own _ rfl (.tmp 31) (.tmp 34) 34 (by rfl) (w.heap.size+1) 75 i0 _ 6 96 Tryz.underlying34 hi0 hz0 hz1 hz2 rfl (by omega) v2 (0+k+1) ([] ++XA++fcells (key,cx)) (by rfl) HO2.out ⟨b,off+(k+1)*6,none⟩ (ol - (k+1)) (oc - (k+1)) XB (by rfl) (by omega) (HCB.out _ HBL4.out) HB1.out (by unfold maxLen;omega) (by omega) (by omega) ?_;intro v3 w5 hown3 hgrow3 _;have b45:Below (w.heap.size+1) w4 w5:=Zj hgrow3 (fun k hk=>(hrl2 k hk).1) (by omega);have HBL5:=qh (HBL4.out.trans (b45.mono (by omega)));have HO3:=qh hown3;clear hgrow3 b45 hown3))
 rw [<-HR.out]
 have hcat: [] ++XA++fcells (key,cx)++XB=(cs.take k++(key,cx)::cs.drop (k+1)).flatMap fcells:=by rw [<-HXA.out, <-HXB.out];simp
 have hll:(o.take k++(key,x)::o.drop (k+1)).length=0+k+1+(ol - (k+1)):=by
  rw [List.length_append,List.length_cons,List.length_drop,List.length_take, <-HLEN.out,Nat.min_eq_left hkl];omega
 have hown:=HO3.out
 rw [hcat, <-hll] at hown
 have hlt3:=hown.lt
 have hsh:Shows (only (fun k=>B0<=k) w) (only (Free B0 v3) w5) w.heap.size:=Ze fun q hq hl=>⟨⟨hq,fun e=>by have:=(hlt3 q e.symm).1;omega⟩,HBL5.out.block q hl⟩
 obtain ⟨a,n,c,hv,hf,hz⟩:=Qf (B0:=B0) (B1:=w.heap.size+1) hown (by omega) (by rw [List.length_append,List.length_append,List.length_cons,List.length_cons,List.length_drop,List.length_drop,List.length_take,List.length_take,HCL.out])
  (PF.with_ HCL.out (fun i hi=>PF.closed o cs _ _ _ _ i hsh HBL5.out.size (HPF.out i hi)) ((HX.out.sub hsh).more HBL5.out.size) hks (by rw [<-HLEN.out];exact hkl) (by rw [<-HLEN.out];omega)) (by rw [hll];omega)
 exact ⟨⟨a,n,c,by rw [hv],hf,hz⟩,HBL5.out⟩
set_option maxRecDepth 100000 in
theorem zdq (w:World) (B0:Nat) (hB0:B0<=w.heap.size) (o:List (ByteArray×V)) (b off ol oc:Nat) (ho:IsFields (only (fun k=>B0<=k) w) w.heap.size o (some ⟨b,off,none⟩) ol oc) (key:ByteArray) (hks:key.size<=140737488355328) (x:V) (cx:VC) (hx:IsVal (only (fun k=>B0<=k) w) w.heap.size x cx) (hpos:0<ol) (hfew:ol<=1000000) (his:fieldIs o key=true) (hke:fieldK o key+1=oc):
 Calls Tryz.prog 72 #[.slice (some ⟨b,off,none⟩) ol oc, .string key, .agg #[.int .u8 cx.k, .int .i64 cx.n, .string cx.s, .slice cx.la cx.ll cx.lc, .slice cx.oa cx.ol cx.oc]] w (WithPost w B0 (withF o key x)):=by
 obtain ⟨i0,hi0,hz0,hz1,hz2⟩:=info_parts Ya
 have hlen:=ho.len
 have hcap:=ho.cap
 have hmax:=ho.max
 obtain ⟨cs,b2,off2,hcl,hab,hcell,hpf⟩:=ho.cells
 have HCELL:Hid (∀W,Below w.heap.size w W->∀j u,(cs.flatMap fcells)[j]? =some u->W.cell? ⟨b,off+j,none⟩=some u):=by
  intro W hW j u hj
  have hjl:=(List.getElem?_eq_some_iff.1 hj).1
  rw [Zl fcells 6 (fun _=>rfl),hcl, <-hlen] at hjl
  obtain ⟨e,hb2⟩:=hab (by omega)
  injection e with e;injection e with e1 e2
  subst e1 e2
  exact Zb hW (Zw (hcell j u hj)).2 hb2
 obtain ⟨k,hk⟩:∃k,fieldK o key=k:=⟨_,rfl⟩
 rw [hk] at hke
 have hkl:k<=ol:=by rw [<-hk,hlen];exact Yh o key
 have hkl2:k<ol:=by rw [<-hk,hlen];exact Yu his
 have hkc:k<=cs.length:=by rw [hcl, <-hlen];exact hkl
 have hkc2:k+1<=cs.length:=by rw [hcl, <-hlen];omega
 have HF:Hid (∀W,Below w.heap.size w W->Calls Tryz.prog 75 #[.agg #[.int .u8 0, .int .i64 0, .string { data:= #[] }, .slice none 0 0, .slice (some ⟨b,off,none⟩) ol oc], .string key] W fun e w'=>e= .returned (.tuple #[.int .i64 (k:Int), .bool true])/\Below W.heap.size W w'):=by
  intro W hW
  have hof:IsFields W W.heap.size o (some ⟨b,off,none⟩) ol oc:=(IsFields.keep (IsFields.sub (Zn (fun k=>B0<=k) w _) ho) hW).more hW.size
  have:=Yg W o key 0 0 { data:= #[] } none 0 0 (some ⟨b,off,none⟩) ol oc hof
  rw [hk,his] at this;exact this
 have hwf:withF o key x=o.take k++(key,x)::o.drop (k+1):=by rw [withF,his,hk];rfl
 rw [hwf]
 have HBX:=qh (BC.start w #[.int .u8 cx.k, .int .i64 cx.n, .string cx.s, .slice cx.la cx.ll cx.lc, .slice cx.oa cx.ol cx.oc] 36)
 have HAL:=qh ((Below.refl _ _).alloc (Nat.le_refl _) (.cells #[.int .u8 cx.k, .int .i64 cx.n, .string cx.s, .slice cx.la cx.ll cx.lc, .slice cx.oa cx.ol cx.oc] 36):Below w.heap.size w _)
 have HX:=qh hx
 have HPF:=qh hpf
 have HCL:=qh hcl
 have HLEN:=qh hlen
 obtain ⟨R,hR⟩:∃R,WithPost w B0 (o.take k++(key,x)::o.drop (k+1))=R:=⟨_,rfl⟩
 rw [hR]
 have HR:=qh hR
 obtain ⟨XA,hXA⟩:∃XA,(cs.take k).flatMap fcells=XA:=⟨_,rfl⟩
 obtain ⟨XB,hXB⟩:∃XB,(cs.drop (k+1)).flatMap fcells=XB:=⟨_,rfl⟩
 have hla:XA.length=k*6:=by rw [<-hXA,Zl fcells 6 (fun _=>rfl),List.length_take,Nat.min_eq_left hkc]
 have hlb:XB.length=(ol - (k+1))*6:=by rw [<-hXB,Zl fcells 6 (fun _=>rfl),List.length_drop,hcl, <-hlen]
 have HA1:Hid (∀u ∈ XA,u.oneCell'=true):=by unfold Hid;rw [<-hXA];exact Yt _
 have HB1:Hid (∀u ∈ XB,u.oneCell'=true):=by unfold Hid;rw [<-hXB];exact Yt _
 have HCA:Hid (∀W,Below w.heap.size w W->∀j u,XA[j]? =some u->W.cell? ((⟨b,off,none⟩:Addr).add j)=some u):=by
  intro W hW j u hj
  rw [<-hXA] at hj
  rw [Zt];exact HCELL.out W hW j u (Ji hj)
 have HCB:Hid (∀W,Below w.heap.size w W->∀j u,XB[j]? =some u->W.cell? ((⟨b,off+(k+1)*6,none⟩:Addr).add j)=some u):=by
  intro W hW j u hj
  rw [<-hXB] at hj
  rw [Zt,Nat.add_assoc];exact HCELL.out W hW _ u (Qu hkc2 hj)
 have HXA:=qh hXA
 have HXB:=qh hXB
 clear ho hab hcell hk his hx hpf hcl hlen hwf hR hXA hXB hkc hkc2
 have hol:ol=k+1:=by omega
 have hoc:oc=k+1:=by omega
 cases hol;cases hoc
 go_enter Tryz.func72,Tryz.ntmps72
 go_wp2_with fail
 refine (HF.out _ HAL.out).mono ?_
 rintro e w1 ⟨rfl,hb1⟩
 have bl1:=HAL.out.trans (hb1.mono (by simp))
 have HBX1:=qh (HBX.out.keep hb1 (by simp))
 have zs1:w.heap.size<w1.heap.size:=HBX1.out.lt
 have HBL1:=qh bl1
 have ho1:w1.ownsRow (w.heap.size+1) 75 6 (.slice none 0 0) 0 [] :=⟨rfl, .inl ⟨rfl,rfl⟩⟩
 clear hb1 bl1
 go_wp2_with (first
  |(at_builtin;refine wpList_append_own _ rfl (.tmp 17) (.tmp 20) 34 (by rfl) (w.heap.size+1) 75 i0 _ 6 96 Tryz.underlying34 hi0 hz0 hz1 hz2 rfl (by omega) (.slice none 0 0) 0 [] (by rfl) ho1 ⟨b,off,none⟩ k (k+1) XA (by rfl) hla (HCA.out _ HBL1.out) HA1.out (by unfold maxLen;omega) (by omega) (by omega) ?_;intro v1 w2 hown1 hgrow1 _;have b12:Below (w.heap.size+1) w1 w2:=Zj hgrow1 (fun k hk=>by simp [Value.ownBlock] at hk) (by omega);have BX2:=HBX1.out.keep b12 (by omega);obtain ⟨x0,x1,x2,x3,x4⟩:=row5 BX2.at_;have zs2:=BX2.lt;have HBL2:=qh (HBL1.out.trans (b12.mono (by omega)));have HO1:=qh hown1;have hrl:∀g,v1.ownBlock=some g->w.heap.size+1<=g/\g<w2.heap.size:=hown1.lt;have ho2:=hown1.alloc (.cells #[.string key, .int .u8 cx.k, .int .i64 cx.n, .string cx.s, .slice cx.la cx.ll cx.lc, .slice cx.oa cx.ol cx.oc] 75);have hnw:∀j u,(fcells (key,cx))[j]? =some u->(w2.alloc (.cells #[.string key, .int .u8 cx.k, .int .i64 cx.n, .string cx.s, .slice cx.la cx.ll cx.lc, .slice cx.oa cx.ol cx.oc] 75)).cell? ((⟨w2.heap.size,0,none⟩:Addr).add j)=some u:=World.news_of_block (t:=75) (fr:=(0,0)) (heap_alloc_new w2 (.cells #[.string key, .int .u8 cx.k, .int .i64 cx.n, .string cx.s, .slice cx.la cx.ll cx.lc, .slice cx.oa cx.ol cx.oc] 75));have HNW:=qh hnw;clear hnw hown1 hgrow1 BX2 b12)
  |(at_builtin;refine wpList_append_own _ rfl (.tmp 22) (.tmp 26) 34 (by rfl) (w.heap.size+1) 75 i0 _ 6 96 Tryz.underlying34 hi0 hz0 hz1 hz2 rfl (by omega) v1 (0+k) ([] ++XA) (by rfl) ho2 ⟨w2.heap.size,0,none⟩ 1 1 (fcells (key,cx)) (by rfl) (by rfl) HNW.out (Xg key cx) (by unfold maxLen;omega) (by omega) (by simp;omega) ?_;intro v2 w4 hown2 hgrow2 _;have b24:Below (w.heap.size+1) w2 w4:=(((Below.refl w2.heap.size w2).alloc (Nat.le_refl _) (.cells #[.string key, .int .u8 cx.k, .int .i64 cx.n, .string cx.s, .slice cx.la cx.ll cx.lc, .slice cx.oa cx.ol cx.oc] 75)).mono (by omega)).trans (Zj hgrow2 (fun k hk=>(hrl k hk).1) (by simp;omega));have HBL4:=qh (HBL2.out.trans (b24.mono (by omega)));have zs4:w.heap.size<w4.heap.size:=Nat.lt_of_lt_of_le zs2 b24.size;have hrl2:∀g,v2.ownBlock=some g->w.heap.size+1<=g/\g<w4.heap.size:=hown2.lt;have HO2:=qh hown2;clear hgrow2 b24 hown2)
  |(at_builtin;refine wpList_append_own _ rfl (.tmp 31) (.tmp 34) 34 (by rfl) (w.heap.size+1) 75 i0 _ 6 96 Tryz.underlying34 hi0 hz0 hz1 hz2 rfl (by omega) v2 (0+k+1) ([] ++XA++fcells (key,cx)) (by rfl) HO2.out ⟨b,off,none⟩ 0 0 XB (by rfl) (by omega) (fun j u hj=>by rw [List.getElem?_eq_none (by omega)] at hj;cases hj) HB1.out (by unfold maxLen;omega) (by omega) (by omega) ?_;intro v3 w5 hown3 hgrow3 _;have b45:Below (w.heap.size+1) w4 w5:=Zj hgrow3 (fun k hk=>(hrl2 k hk).1) (by omega);have HBL5:=qh (HBL4.out.trans (b45.mono (by omega)));have HO3:=qh hown3;clear hgrow3 b45 hown3))
 rw [<-HR.out]
 have hcat: [] ++XA++fcells (key,cx)++XB=(cs.take k++(key,cx)::cs.drop (k+1)).flatMap fcells:=by rw [<-HXA.out, <-HXB.out];simp
 have hll:(o.take k++(key,x)::o.drop (k+1)).length=0+k+1+0:=by
  rw [List.length_append,List.length_cons,List.length_drop,List.length_take, <-HLEN.out,Nat.min_eq_left hkl];omega
 have hown:=HO3.out
 rw [hcat, <-hll] at hown
 have hlt3:=hown.lt
 have hsh:Shows (only (fun k=>B0<=k) w) (only (Free B0 v3) w5) w.heap.size:=Ze fun q hq hl=>⟨⟨hq,fun e=>by have:=(hlt3 q e.symm).1;omega⟩,HBL5.out.block q hl⟩
 obtain ⟨a,n,c,hv,hf,hz⟩:=Qf (B0:=B0) (B1:=w.heap.size+1) hown (by omega) (by rw [List.length_append,List.length_append,List.length_cons,List.length_cons,List.length_drop,List.length_drop,List.length_take,List.length_take,HCL.out])
  (PF.with_ HCL.out (fun i hi=>PF.closed o cs _ _ _ _ i hsh HBL5.out.size (HPF.out i hi)) ((HX.out.sub hsh).more HBL5.out.size) hks (by rw [<-HLEN.out];exact hkl) (by rw [<-HLEN.out];omega)) (by rw [hll];omega)
 exact ⟨⟨a,n,c,by rw [hv],hf,hz⟩,HBL5.out⟩
def Neat (oa:Option Addr) (ol oc:Nat):Prop:=(oa=none/\ol=0/\oc=0)∨0<ol
theorem zbp (o:List (ByteArray×V)) (key:ByteArray) (x:V):0<(withF o key x).length/\(withF o key x).length<=o.length+1:=by
 have:=Yh o key
 unfold withF
 rw [List.length_append,List.length_cons,List.length_drop,List.length_take,Nat.min_eq_left this]
 refine ⟨by omega, ?_⟩
 split
 .rename_i h;have:=Yu h;omega
 .omega
def WithPost2 (w:World) (B0:Nat) (l:List (ByteArray×V)) (e:Ending) (w':World):Prop:=
 (∃a n c,e= .returned (.slice a n c)/\IsFields (only (fun b=>B0<=b) w') w'.heap.size l a n c/\Neat a n c)/\Below w.heap.size w w'
set_option maxRecDepth 100000 in
theorem J1 (w:World) (B0:Nat) (hB0:B0<=w.heap.size) (o:List (ByteArray×V)) (oa:Option Addr) (ol oc:Nat) (ho:IsFields (only (fun k=>B0<=k) w) w.heap.size o oa ol oc) (hne:Neat oa ol oc) (key:ByteArray) (hks:key.size<=140737488355328) (x:V) (xk xn:Int) (xs:ByteArray) (xa:Option Addr) (xl xc:Nat) (ya:Option Addr) (yl yc:Nat) (hx:IsVal (only (fun k=>B0<=k) w) w.heap.size x ⟨xk,xn,xs,xa,xl,xc,ya,yl,yc⟩) (hfew:ol<=1000000):
 Calls Tryz.prog 72 #[.slice oa ol oc, .string key, .agg #[.int .u8 xk, .int .i64 xn, .string xs, .slice xa xl xc, .slice ya yl yc]] w (WithPost2 w B0 (withF o key x)):=by
 have go:Calls Tryz.prog 72 #[.slice oa ol oc, .string key, .agg #[.int .u8 xk, .int .i64 xn, .string xs, .slice xa xl xc, .slice ya yl yc]] w (WithPost w B0 (withF o key x)):=by
  rcases hne with ⟨rfl,rfl,rfl⟩|hp
  .have:o= [] :=List.eq_nil_of_length_eq_zero ho.len.symm
   subst this
   exact zka w B0 hB0 key hks x ⟨xk,xn,xs,xa,xl,xc,ya,yl,yc⟩ hx
  .obtain ⟨cs,b,off,_,hab,_,_⟩:=ho.cells
   obtain ⟨rfl,hb⟩:=hab hp
   have hlen:=ho.len
   have hcap:=ho.cap
   have hkl:=Yh o key
   cases his:fieldIs o key with
   | false=>
     by_cases hk:fieldK o key=oc
     .exact zks w B0 hB0 o b off ol oc ho key hks x ⟨xk,xn,xs,xa,xl,xc,ya,yl,yc⟩ hx hp hfew his hk
     .exact zhz w B0 hB0 o b off ol oc ho key hks x ⟨xk,xn,xs,xa,xl,xc,ya,yl,yc⟩ hx hp hfew his (by omega)
   | true=>
     have hlt:=Yu his
     by_cases hk:fieldK o key+1=oc
     .exact zdq w B0 hB0 o b off ol oc ho key hks x ⟨xk,xn,xs,xa,xl,xc,ya,yl,yc⟩ hx hp hfew his hk
     .exact zgl w B0 hB0 o b off ol oc ho key hks x ⟨xk,xn,xs,xa,xl,xc,ya,yl,yc⟩ hx hp hfew his (by omega)
 refine go.mono ?_
 rintro e w' ⟨⟨a,n,c,rfl,h1,h2⟩,h3⟩
 exact ⟨⟨a,n,c,rfl,h1, .inr (by rw [h1.len];exact (zbp o key x).1)⟩,h3⟩
def keyP (l:List Tk) (u:Nat):ByteArray:=match l[u]? with
 |some t=>plainS t.s
 |none=> .empty
def bL (f:List Tk->V×Nat) (l:List Tk):Nat->List V×Nat
 |0=>([],1)
 |i+1=>((bL f l i).1++ [(f (l.drop (bL f l i).2)).1],(bL f l i).2+(f (l.drop (bL f l i).2)).2)
def bO (f:List Tk->V×Nat) (l:List Tk):Nat->List (ByteArray×V)×Nat
 |0=>([],1)
 |i+1=>(withF (bO f l i).1 (keyP l (bO f l i).2) (f (l.drop (bO f l i).2)).1,(bO f l i).2+(f (l.drop (bO f l i).2)).2)
def leafP (t:Tk):V:=if t.k % 6=1 then .mk 1 (t.n % 2) .empty [] [] else if t.k % 6=2 then .mk 2 t.n .empty [] [] else if t.k % 6=3 then .mk 3 0 (plainS t.s) [] []
 else if t.k % 6=4 then .mk 4 0 .empty [] [] else if t.k % 6=5 then .mk 5 0 .empty [] [] else V.none
def oneP:Nat->List Tk->V×Nat
 |_, [] =>(V.none,0)
 |0,t::_=>(leafP t,1)
 | d+1,t::r=>if t.k % 6=4 then (.mk 4 0 .empty (bL (oneP d) (t::r) (t.m % 4).toNat).1 [],(bL (oneP d) (t::r) (t.m % 4).toNat).2)
   else if t.k % 6=5 then (.mk 5 0 .empty [] (bO (oneP d) (t::r) (t.m % 4).toNat).1,(bO (oneP d) (t::r) (t.m % 4).toNat).2)
   else (leafP t,1)
theorem za0 {f:List Tk->V×Nat} (hf:∀l,(f l).2<=l.length) {l:List Tk} (hl:1<=l.length) (j:Nat):1<=(bL f l j).2/\(bL f l j).2<=l.length/\(bL f l j).1.length=j:=by
 induction j with
 |zero=>exact ⟨Nat.le_refl _,hl,rfl⟩
 | succ j ih=>
   have:=hf (l.drop (bL f l j).2)
   rw [List.length_drop] at this
   rw [bL]
   refine ⟨by dsimp only;omega,by dsimp only;omega,by dsimp only;rw [List.length_append,List.length_singleton];omega⟩
theorem zbe {f:List Tk->V×Nat} (hf:∀l,(f l).2<=l.length) {l:List Tk} (hl:1<=l.length) (j:Nat):1<=(bO f l j).2/\(bO f l j).2<=l.length/\(bO f l j).1.length<=j:=by
 induction j with
 |zero=>exact ⟨Nat.le_refl _,hl,Nat.le_refl _⟩
 | succ j ih=>
   have:=hf (l.drop (bO f l j).2)
   rw [List.length_drop] at this
   rw [bO]
   refine ⟨by dsimp only;omega,by dsimp only;omega, ?_⟩
   have:=(zbp (bO f l j).1 (keyP l (bO f l j).2) (f (l.drop (bO f l j).2)).1).2
   dsimp only;omega
theorem Qm (d:Nat):∀l,(oneP d l).2<=l.length:=by
 induction d with
 | zero=>
   intro l
   cases l with
   |nil=>simp [oneP]
   |cons t r=>simp [oneP]
 | succ d ih=>
   intro l
   cases l with
   |nil=>simp [oneP]
   | cons t r=>
     rw [oneP]
     split
     .exact (za0 ih (by simp) _).2.1
     .split
      .exact (zbe ih (by simp) _).2.1
      .simp
theorem Yr (s:ByteArray):(plainS s).size<=40:=by
 show (plainL s.data.toList).toArray.size<=40
 simp [plainL];omega
theorem zbj (l:List Tk) (u:Nat):(keyP l u).size<=40:=by
 unfold keyP
 split
 .exact Yr _
 .decide
theorem zcq (cl:List VC):∀i,(cl.flatMap vcells).take (i*5)=(cl.take i).flatMap vcells:=by
 induction cl with
 |nil=>intro i;simp
 | cons c r ih=>
   intro i
   cases i with
   |zero=>simp
   | succ i=>
     rw [List.flatMap_cons,List.take_succ_cons,List.flatMap_cons, <-ih i,List.take_append,List.take_of_length_le (by simp [vcells];omega),show (i+1)*5 - (vcells c).length=i*5 by simp [vcells];omega]
theorem Kh (cl:List VC):∀i,(cl.flatMap vcells).drop (i*5)=(cl.drop i).flatMap vcells:=by
 induction cl with
 |nil=>intro i;simp
 | cons c r ih=>
   intro i
   cases i with
   |zero=>simp
   | succ i=>
     rw [List.flatMap_cons,List.drop_succ_cons, <-ih i,List.drop_append,List.drop_eq_nil_of_le (by simp [vcells];omega),List.nil_append,show (i+1)*5 - (vcells c).length=i*5 by simp [vcells];omega]
structure VRow (w:World) (base:Nat) (u:Value) (l:List V) (cl:List VC):Prop where
 len:cl.length=l.length
 own:w.ownsRow base 36 5 u l.length (cl.flatMap vcells)
 els:∀i (h:i<l.length) (h':i<cl.length),IsVal (only (fun k=>base<=k/\u.ownBlock≠some k) w) w.heap.size l[i] cl[i]
theorem VRow.of {w:World} {base:Nat} {l:List V} {d:VC} {x:V} (h:Whole w base x d) (hx:x.ls=l):∃cl,VRow w base (.slice d.la d.ll d.lc) l cl:=by
 obtain ⟨h1,h2,cl,co,S,W0,h3⟩:=h
 subst hx
 refine ⟨cl,h3.lenL,h3.rowL,fun i hi hi'=> ?_⟩
 obtain ⟨T,t1,_,t3⟩:=h3.elsL i hi hi' (by omega)
 refine t3.isVal fun k hk=> ?_
 have h0:=h3.mono 0 i (Nat.zero_le _) (by omega)
 have:=t1 k hk
 exact ⟨by have:=h3.s0;omega,fun e=>by have:=h3.loL k e;omega⟩
theorem IsVal.rowed {w w':World} {base:Nat} {u u':Value} {x:V} {c:VC} (h:IsVal (only (fun k=>base<=k/\u.ownBlock≠some k) w) w.heap.size x c) (hg:w.grownBy w' u.ownBlock) (hu:u'.ownBlock=u.ownBlock∨u'.ownBlock=some w.heap.size):
 IsVal (only (fun k=>base<=k/\u'.ownBlock≠some k) w') w'.heap.size x c:=
 (h.sub (Ze fun k hk hl=>⟨⟨hk.1,fun e=>by
  rcases hu with hu|hu
  .exact hk.2 (hu ▸ e)
  .rw [hu] at e;injection e with e;omega⟩,hg.block k hl (fun e=>hk.2 e.symm)⟩)).more hg.size
theorem VRow.ins {w w':World} {base i:Nat} {u u':Value} {l:List V} {cl:List VC} {x:V} {cx:VC} (h:VRow w base u l cl) (hi:i<=l.length) (hx:IsVal (only (fun k=>base<=k/\u.ownBlock≠some k) w) w.heap.size x cx)
 (ho:w'.ownsRow base 36 5 u' (l.length+1) ((cl.flatMap vcells).take (i*5)++vcells cx++(cl.flatMap vcells).drop (i*5))) (hg:w.grownBy w' u.ownBlock) (hu:u'.ownBlock=u.ownBlock∨u'.ownBlock=some w.heap.size):
 VRow w' base u' (insL l i x) (cl.take i++cx::cl.drop i):=by
 have hl:=h.len
 refine ⟨by simp [insL,hl], ?_,fun k hk hk'=> ?_⟩
 .rw [zcq,Kh] at ho
  have e:(insL l i x).length=l.length+1:=by simp [insL];omega
  rw [e,List.flatMap_append,List.flatMap_cons, <-List.append_assoc]
  exact ho
 .simp only [insL] at hk ⊢
  by_cases h1:k<i
  .rw [List.getElem_append_left (by rw [List.length_take];omega),List.getElem_append_left (by rw [List.length_take];omega),List.getElem_take,List.getElem_take]
   exact (h.els k (by omega) (by omega)).rowed hg hu
  .rw [List.getElem_append_right (by rw [List.length_take];omega),List.getElem_append_right (by rw [List.length_take];omega)]
   have e1:k - (l.take i).length=k - i:=by rw [List.length_take];omega
   have e2:k - (cl.take i).length=k - i:=by rw [List.length_take];omega
   simp only [e1,e2]
   rw [List.length_append,List.length_cons,List.length_take,List.length_drop] at hk
   by_cases h2:k - i=0
   .rw [List.getElem_cons,List.getElem_cons,dif_pos h2,dif_pos h2]
    exact hx.rowed hg hu
   .rw [List.getElem_cons,List.getElem_cons,dif_neg h2,dif_neg h2,List.getElem_drop,List.getElem_drop]
    exact (h.els (i+(k - i - 1)) (by omega) (by omega)).rowed hg hu
theorem VRow.rem {w w':World} {base i:Nat} {u u':Value} {l:List V} {cl:List VC} (h:VRow w base u l cl) (hi:i<l.length)
 (ho:w'.ownsRow base 36 5 u' (l.length - 1) ((cl.flatMap vcells).take (i*5)++(cl.flatMap vcells).drop ((i+1)*5))) (hg:w.grownBy w' u.ownBlock) (hu:u'.ownBlock=u.ownBlock∨u'.ownBlock=some w.heap.size):
 VRow w' base u' (remL l i) (cl.take i++cl.drop (i+1)):=by
 have hl:=h.len
 refine ⟨by simp [remL,hl], ?_,fun k hk hk'=> ?_⟩
 .rw [zcq,Kh] at ho
  have e:(remL l i).length=l.length - 1:=by simp [remL];omega
  rw [e,List.flatMap_append]
  exact ho
 .simp only [remL] at hk ⊢
  rw [List.length_append,List.length_take,List.length_drop] at hk
  by_cases h1:k<i
  .rw [List.getElem_append_left (by rw [List.length_take];omega),List.getElem_append_left (by rw [List.length_take];omega),List.getElem_take,List.getElem_take]
   exact (h.els k (by omega) (by omega)).rowed hg hu
  .rw [List.getElem_append_right (by rw [List.length_take];omega),List.getElem_append_right (by rw [List.length_take];omega)]
   have e1:k - (l.take i).length=k - i:=by rw [List.length_take];omega
   have e2:k - (cl.take i).length=k - i:=by rw [List.length_take];omega
   simp only [e1,e2,List.getElem_drop]
   exact (h.els (i+1+(k - i)) (by omega) (by omega)).rowed hg hu
end Go.Proofs.YtnjgbiachcfigaaGreatDoor
