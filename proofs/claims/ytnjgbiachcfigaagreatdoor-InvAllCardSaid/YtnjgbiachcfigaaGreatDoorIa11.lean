/-
  Contracts of the functions that the law reaches: conciliatorref05.with, without..
-/
import Derived.Test.YtnjgbiachcfigaaGreatDoorIa9
import Derived.Test.YtnjgbiachcfigaaGreatDoorIa10
namespace Go.Proofs.YtnjgbiachcfigaaGreatDoor
open Go.RowKit
set_option maxHeartbeats 8000000
theorem J7 (w:World) (cx:VC) (t:TypeId):Piece (w.alloc (.cells (uV cx) t)) (some ⟨w.heap.size,0,none⟩) 1 1 (vcells cx):=
 ⟨fun h=>by (cases h),fun ad h=>by
  injection h with h
  subst h
  exact World.news_of_block (t:=t) (fr:=(0,0)) (heap_alloc_new w (.cells (uV cx) t))⟩
theorem Qm {w W:World} {B0:Nat} {l:List V} {a:Option Addr} {n c:Nat} {cs:List VC} (hcl:cs.length=l.length) (hln:n=l.length) (hz:a=none->c=0) (ha:0<n->∃b off,a=some ⟨b,off,none⟩) (hc:∀b off,a=some ⟨b,off,none⟩->0<n->b<w.heap.size/\∀j u,(cs.flatMap vcells)[j]? =some u->(only (fun k=>B0<=k) w).cell? ⟨b,off+j,none⟩=some u) (hW:uB w W) (i:Nat):Piece W a (if n=0 then 0 else min i n) c ((cs.take i).flatMap vcells):=by
 refine ⟨fun h=> ?_,fun ad h j u hj=> ?_⟩
 .have hn:n=0:=by
   by_cases e:0<n
   .obtain ⟨b,off,e2⟩:=ha e;rw [h] at e2;cases e2
   .omega
  have:cs= [] :=List.eq_nil_of_length_eq_zero (by omega)
  subst this
  exact ⟨by rw [if_pos hn],hz h,by simp⟩
 .have hn:0<n:=by
   have:=(List.getElem?_eq_some_iff.1 hj).1
   rw [Zk vcells 5 (fun _=>rfl),List.length_take] at this
   omega
  obtain ⟨b,off,e⟩:=ha hn
  rw [h] at e
  injection e with e
  subst e
  obtain ⟨hb,hcell⟩:=hc b off h hn
  rw [Z0]
  exact Zb hW (Z8 (hcell j u (zfu hj))).2 hb
theorem zdx {w W:World} {B0:Nat} {l:List V} {b off:Nat} {n:Nat} {cs:List VC} (hcl:cs.length=l.length) (hln:n=l.length) (hc:∀b' off',some (⟨b,off,none⟩:Addr)=some ⟨b',off',none⟩->0<n->b'<w.heap.size/\∀j u,(cs.flatMap vcells)[j]? =some u->(only (fun k=>B0<=k) w).cell? ⟨b',off'+j,none⟩=some u) (hW:uB w W) (i:Nat) (hi:i<=n) (m c':Nat):Piece W (some ⟨b,off+i*5,none⟩) m c' ((cs.drop i).flatMap vcells):=by
 refine ⟨fun h=>by (cases h),fun ad h j u hj=> ?_⟩
 injection h with h
 subst h
 have hn:0<n:=by
  have:=(List.getElem?_eq_some_iff.1 hj).1
  rw [Zk vcells 5 (fun _=>rfl),List.length_drop] at this
  omega
 obtain ⟨hb,hcell⟩:=hc b off rfl hn
 rw [Z0,Nat.add_assoc]
 exact Zb hW (Z8 (hcell _ u (zkf (by omega) hj))).2 hb
theorem zdp (w:World) (ad:Addr) (m c:Nat):Piece w (some ad) m c [] :=⟨fun h=>by (cases h),fun _ _ j u hj=>by simp at hj⟩
set_option maxRecDepth 100000 in
theorem zlk (w:World) (B0:Nat) (hB0:B0<=w.heap.size) (l:List V) (a:Option Addr) (hab:a=none) (n c:Nat) (hl:IsVals (only (fun k=>B0<=k) w) w.heap.size l a n c) (hz:a=none->c=0) (i:Nat) (hi:i<=n) (x:V) (cx:VC) (hx:IsVal (only (fun k=>B0<=k) w) w.heap.size x cx) (hfew:n<=1000000000):
 uP 88 #[.slice a n c, .int .i64 i, .agg (uV cx)] w (ListPost w B0 (insL l i x)):=by
 delta uV uP
 obtain ⟨i0,hi0,hz0,hz1,hz2⟩:=info_parts Yg
 have hlen:=hl.len
 have hcap:=hl.cap
 have hmax:=hl.max
 have ha:=hl.at_
 obtain ⟨cs,hcl,hcell,hpv⟩:=hl.cells
 have ha2:0<n->∃b off,a=some ⟨b,off,none⟩:=fun h=>by
  obtain ⟨b,off,_,e,_⟩:=ha
  exact ⟨b,off,(e h).1⟩
 have HP1:Hid (∀W,uB w W->Piece W a i c ((cs.take i).flatMap vcells)):=fun W hW=>by
  have:=Qm hcl hlen hz ha2 hcell hW i
  have e:(if n=0 then 0 else min i n)=i:=by split<;>omega
  rwa [e] at this
 obtain ⟨XA,hXA⟩:∃XA,(cs.take i).flatMap vcells=XA:=⟨_,rfl⟩
 have hla:XA.length=i*5:=by rw [<-hXA,Zk vcells 5 (fun _=>rfl),List.length_take,Nat.min_eq_left (by omega)]
 have HA1:Hid (∀u ∈ XA,u.oneCell'=true):=by unfold Hid;rw [<-hXA];exact Z9 _
 obtain ⟨XB,hXB⟩:∃XB,(cs.drop (i)).flatMap vcells=XB:=⟨_,rfl⟩
 have hlb:XB.length=(n - (i))*5:=by rw [<-hXB,Zk vcells 5 (fun _=>rfl),List.length_drop,hcl, <-hlen]
 have HB1:Hid (∀u ∈ XB,u.oneCell'=true):=by unfold Hid;rw [<-hXB];exact Z9 _
 have hc0:c=0:=hz hab
 have hn0:n=0:=by omega
 have hi00:i=0:=by omega
 have hXBn:XB= [] :=List.eq_nil_of_length_eq_zero (by omega)
 have HP3:Hid (∀W,uB w W->Piece W none 0 0 XB):=fun W _=>⟨fun _=>⟨rfl,rfl,hXBn⟩,fun _ h=>by (cases h)⟩
 rw [hXA] at HP1
 have HBX:=qh (BC.start w (uV cx) 36)
 have HAL:=qh ((Below.refl _ _).alloc (Nat.le_refl _) (.cells (uV cx) 36):uB w _)
 have HX:=qh hx
 have HPV:=qh hpv
 have HCL:=qh hcl
 have HLEN:=qh hlen
 have HXA:=qh hXA
 have HXB:=qh hXB
 obtain ⟨R,hR⟩:∃R,ListPost w B0 (insL l i x)=R:=⟨_,rfl⟩
 rw [hR]
 have HR:=qh hR
 have ho1:(w.alloc (.cells (uV cx) 36)).ownsRow (w.heap.size+1) 36 5 (.slice none 0 0) 0 [] :=⟨rfl, .inl ⟨rfl,rfl⟩⟩
 clear hl ha hcl hcell hpv hlen ha2 hXA hXB hx hR hz
 subst hab
 subst hc0 hn0 hi00
 go_enter Tryz.func88,Tryz.ntmps88
 go_wp2_with (first
  |(at_builtin;refine Zz _ rfl (.tmp 8) (.tmp 11) 33 (by rfl) (w.heap.size+1) 36 i0 _ 5 80 Tryz.underlying33 hi0 hz0 hz1 hz2 rfl (by omega) (.slice none 0 0) 0 [] (by rfl) ho1 none 0 0 XA (by rfl) (HP1.out _ HAL.out) hla HA1.out (by unfold maxLen;omega) (by omega) (by simp) ?_;intro v1 w2 hown1 hgrow1;have b12:Below (w.heap.size+1) (w.alloc _) w2:=Zi hgrow1 (fun k hk=>by simp [Value.ownBlock] at hk) (by simp);have BX2:=HBX.out.keep b12 (by omega);obtain ⟨x0,x1,x2,x3,x4⟩:=row5 BX2.at_;have zs2:=BX2.lt;have HBL2:=qh (HAL.out.trans (b12.mono (by omega)));have hrl:∀g,v1.ownBlock=some g->w.heap.size+1<=g/\g<w2.heap.size:=hown1.lt;have ho2:=hown1.alloc (.cells (uV cx) 36);clear hown1 hgrow1 BX2 b12)
  |(at_builtin;refine Zz _ rfl (.tmp 13) (.tmp 15) 33 (by rfl) (w.heap.size+1) 36 i0 _ 5 80 Tryz.underlying33 hi0 hz0 hz1 hz2 rfl (by omega) v1 (0+0) ([] ++XA) (by rfl) ho2 (some ⟨w2.heap.size,0,none⟩) 1 1 (vcells cx) (by rfl) (J7 w2 cx _) (by rfl) (by simp [vcells,Value.oneCell']) (by unfold maxLen;omega) (by omega) (by simp;omega) ?_;intro v2 w4 hown2 hgrow2;have b24:Below (w.heap.size+1) w2 w4:=(((Below.refl w2.heap.size w2).alloc (Nat.le_refl _) (.cells (uV cx) 36)).mono (by omega)).trans (Zi hgrow2 (fun k hk=>(hrl k hk).1) (by simp;omega));have HBL4:=qh (HBL2.out.trans (b24.mono (by omega)));have zs4:w.heap.size<w4.heap.size:=Nat.lt_of_lt_of_le zs2 b24.size;have hrl2:∀g,v2.ownBlock=some g->w.heap.size+1<=g/\g<w4.heap.size:=hown2.lt;have HO2:=qh hown2;clear hgrow2 b24 hown2)
  |(at_builtin;refine Zz _ rfl (.tmp 17) (.tmp 20) 33 (by rfl) (w.heap.size+1) 36 i0 _ 5 80 Tryz.underlying33 hi0 hz0 hz1 hz2 rfl (by omega) v2 (0+0+1) ([] ++XA++vcells cx) (by rfl) HO2.out none 0 0 XB (by rfl) (HP3.out _ HBL4.out) (by omega) HB1.out (by unfold maxLen;omega) (by omega) (by omega) ?_;intro v3 w5 hown3 hgrow3;have b45:Below (w.heap.size+1) w4 w5:=Zi hgrow3 (fun k hk=>(hrl2 k hk).1) (by omega);have HBL5:=qh (HBL4.out.trans (b45.mono (by omega)));have HO3:=qh hown3;clear hgrow3 b45 hown3))
 rw [<-HR.out]
 have hcat: [] ++XA++vcells cx++XB=(insL cs 0 cx).flatMap vcells:=by rw [<-HXA.out, <-HXB.out];simp [insL]
 have hll:(insL l 0 x).length=0+0+1+0:=by
  rw [insL,List.length_append,List.length_cons,List.length_drop,List.length_take, <-HLEN.out];omega
 have hown:=HO3.out
 rw [hcat, <-hll] at hown
 have hlt3:=hown.lt
 have hsh:Shows (only (fun k=>B0<=k) w) (only (Free B0 v3) w5) w.heap.size:=Zd fun q hq hl=>⟨⟨hq,fun e=>by have:=(hlt3 q e.symm).1;omega⟩,HBL5.out.block q hl⟩
 have hpv:∀k,k<l.length->PV l cs (only (Free B0 v3) w5) w5.heap.size k:=fun k hk=>PV.closed l cs _ _ _ _ k hsh HBL5.out.size (HPV.out k hk)
 obtain ⟨a,n,c,hv,hf,hz⟩:=X2 (B0:=B0) (B1:=w.heap.size+1) hown (by omega) (by rw [insL,insL,List.length_append,List.length_append,List.length_cons,List.length_cons,List.length_take,List.length_take,List.length_drop,List.length_drop,HCL.out])
  (PV.append (by rw [List.length_take,List.length_take,HCL.out]) (PV.take hpv 0) (PV.cons ((HX.out.sub hsh).more HBL5.out.size) (PV.drop hpv 0))) (by rw [hll];omega)
 exact ⟨⟨a,n,c,by rw [hv],hf,hz⟩,HBL5.out⟩
set_option maxRecDepth 100000 in
theorem zhu (w:World) (B0:Nat) (hB0:B0<=w.heap.size) (l:List V) (a:Option Addr) (b off:Nat) (hab:a=(some ⟨b,off,none⟩)) (n c:Nat) (hl:IsVals (only (fun k=>B0<=k) w) w.heap.size l a n c) (hz:a=none->c=0) (i:Nat) (hi:i<=n) (x:V) (cx:VC) (hx:IsVal (only (fun k=>B0<=k) w) w.heap.size x cx) (hfew:n<=1000000000) (hic:i=c):
 uP 88 #[.slice a n c, .int .i64 i, .agg (uV cx)] w (ListPost w B0 (insL l i x)):=by
 delta uV uP
 obtain ⟨i0,hi0,hz0,hz1,hz2⟩:=info_parts Yg
 have hlen:=hl.len
 have hcap:=hl.cap
 have hmax:=hl.max
 have ha:=hl.at_
 obtain ⟨cs,hcl,hcell,hpv⟩:=hl.cells
 have ha2:0<n->∃b off,a=some ⟨b,off,none⟩:=fun h=>by
  obtain ⟨b,off,_,e,_⟩:=ha
  exact ⟨b,off,(e h).1⟩
 have HP1:Hid (∀W,uB w W->Piece W a i c ((cs.take i).flatMap vcells)):=fun W hW=>by
  have:=Qm hcl hlen hz ha2 hcell hW i
  have e:(if n=0 then 0 else min i n)=i:=by split<;>omega
  rwa [e] at this
 obtain ⟨XA,hXA⟩:∃XA,(cs.take i).flatMap vcells=XA:=⟨_,rfl⟩
 have hla:XA.length=i*5:=by rw [<-hXA,Zk vcells 5 (fun _=>rfl),List.length_take,Nat.min_eq_left (by omega)]
 have HA1:Hid (∀u ∈ XA,u.oneCell'=true):=by unfold Hid;rw [<-hXA];exact Z9 _
 obtain ⟨XB,hXB⟩:∃XB,(cs.drop (i)).flatMap vcells=XB:=⟨_,rfl⟩
 have hlb:XB.length=(n - (i))*5:=by rw [<-hXB,Zk vcells 5 (fun _=>rfl),List.length_drop,hcl, <-hlen]
 have HB1:Hid (∀u ∈ XB,u.oneCell'=true):=by unfold Hid;rw [<-hXB];exact Z9 _
 have hni:n - i=0:=by omega
 have hXBn:XB= [] :=List.eq_nil_of_length_eq_zero (by omega)
 have HP3:Hid (∀W,uB w W->Piece W (some ⟨b,off,none⟩) 0 0 XB):=fun W _=>by rw [hXBn];exact zdp W _ _ _
 rw [hXA] at HP1
 have HBX:=qh (BC.start w (uV cx) 36)
 have HAL:=qh ((Below.refl _ _).alloc (Nat.le_refl _) (.cells (uV cx) 36):uB w _)
 have HX:=qh hx
 have HPV:=qh hpv
 have HCL:=qh hcl
 have HLEN:=qh hlen
 have HXA:=qh hXA
 have HXB:=qh hXB
 obtain ⟨R,hR⟩:∃R,ListPost w B0 (insL l i x)=R:=⟨_,rfl⟩
 rw [hR]
 have HR:=qh hR
 have ho1:(w.alloc (.cells (uV cx) 36)).ownsRow (w.heap.size+1) 36 5 (.slice none 0 0) 0 [] :=⟨rfl, .inl ⟨rfl,rfl⟩⟩
 clear hl ha hcl hcell hpv hlen ha2 hXA hXB hx hR hz
 subst hab
 cases hic
 go_enter Tryz.func88,Tryz.ntmps88
 go_wp2_with (first
  |(at_builtin;refine Zz _ rfl (.tmp 8) (.tmp 11) 33 (by rfl) (w.heap.size+1) 36 i0 _ 5 80 Tryz.underlying33 hi0 hz0 hz1 hz2 rfl (by omega) (.slice none 0 0) 0 [] (by rfl) ho1 (some ⟨b,off,none⟩) c c XA (by rfl) (HP1.out _ HAL.out) hla HA1.out (by unfold maxLen;omega) (by omega) (by simp) ?_;intro v1 w2 hown1 hgrow1;have b12:Below (w.heap.size+1) (w.alloc _) w2:=Zi hgrow1 (fun k hk=>by simp [Value.ownBlock] at hk) (by simp);have BX2:=HBX.out.keep b12 (by omega);obtain ⟨x0,x1,x2,x3,x4⟩:=row5 BX2.at_;have zs2:=BX2.lt;have HBL2:=qh (HAL.out.trans (b12.mono (by omega)));have hrl:∀g,v1.ownBlock=some g->w.heap.size+1<=g/\g<w2.heap.size:=hown1.lt;have ho2:=hown1.alloc (.cells (uV cx) 36);clear hown1 hgrow1 BX2 b12)
  |(at_builtin;refine Zz _ rfl (.tmp 13) (.tmp 15) 33 (by rfl) (w.heap.size+1) 36 i0 _ 5 80 Tryz.underlying33 hi0 hz0 hz1 hz2 rfl (by omega) v1 (0+c) ([] ++XA) (by rfl) ho2 (some ⟨w2.heap.size,0,none⟩) 1 1 (vcells cx) (by rfl) (J7 w2 cx _) (by rfl) (by simp [vcells,Value.oneCell']) (by unfold maxLen;omega) (by omega) (by simp;omega) ?_;intro v2 w4 hown2 hgrow2;have b24:Below (w.heap.size+1) w2 w4:=(((Below.refl w2.heap.size w2).alloc (Nat.le_refl _) (.cells (uV cx) 36)).mono (by omega)).trans (Zi hgrow2 (fun k hk=>(hrl k hk).1) (by simp;omega));have HBL4:=qh (HBL2.out.trans (b24.mono (by omega)));have zs4:w.heap.size<w4.heap.size:=Nat.lt_of_lt_of_le zs2 b24.size;have hrl2:∀g,v2.ownBlock=some g->w.heap.size+1<=g/\g<w4.heap.size:=hown2.lt;have HO2:=qh hown2;clear hgrow2 b24 hown2)
  |(at_builtin;refine Zz _ rfl (.tmp 17) (.tmp 20) 33 (by rfl) (w.heap.size+1) 36 i0 _ 5 80 Tryz.underlying33 hi0 hz0 hz1 hz2 rfl (by omega) v2 (0+c+1) ([] ++XA++vcells cx) (by rfl) HO2.out (some ⟨b,off,none⟩) 0 0 XB (by rfl) (HP3.out _ HBL4.out) (by omega) HB1.out (by unfold maxLen;omega) (by omega) (by omega) ?_;intro v3 w5 hown3 hgrow3;have b45:Below (w.heap.size+1) w4 w5:=Zi hgrow3 (fun k hk=>(hrl2 k hk).1) (by omega);have HBL5:=qh (HBL4.out.trans (b45.mono (by omega)));have HO3:=qh hown3;clear hgrow3 b45 hown3))
 rw [<-HR.out]
 have hcat: [] ++XA++vcells cx++XB=(insL cs c cx).flatMap vcells:=by rw [<-HXA.out, <-HXB.out];simp [insL]
 have hll:(insL l c x).length=0+c+1+0:=by
  rw [insL,List.length_append,List.length_cons,List.length_drop,List.length_take, <-HLEN.out];omega
 have hown:=HO3.out
 rw [hcat, <-hll] at hown
 have hlt3:=hown.lt
 have hsh:Shows (only (fun k=>B0<=k) w) (only (Free B0 v3) w5) w.heap.size:=Zd fun q hq hl=>⟨⟨hq,fun e=>by have:=(hlt3 q e.symm).1;omega⟩,HBL5.out.block q hl⟩
 have hpv:∀k,k<l.length->PV l cs (only (Free B0 v3) w5) w5.heap.size k:=fun k hk=>PV.closed l cs _ _ _ _ k hsh HBL5.out.size (HPV.out k hk)
 obtain ⟨a,n,c,hv,hf,hz⟩:=X2 (B0:=B0) (B1:=w.heap.size+1) hown (by omega) (by rw [insL,insL,List.length_append,List.length_append,List.length_cons,List.length_cons,List.length_take,List.length_take,List.length_drop,List.length_drop,HCL.out])
  (PV.append (by rw [List.length_take,List.length_take,HCL.out]) (PV.take hpv c) (PV.cons ((HX.out.sub hsh).more HBL5.out.size) (PV.drop hpv c))) (by rw [hll];omega)
 exact ⟨⟨a,n,c,by rw [hv],hf,hz⟩,HBL5.out⟩
set_option maxRecDepth 100000 in
theorem zeu (w:World) (B0:Nat) (hB0:B0<=w.heap.size) (l:List V) (a:Option Addr) (b off:Nat) (hab:a=(some ⟨b,off,none⟩)) (n c:Nat) (hl:IsVals (only (fun k=>B0<=k) w) w.heap.size l a n c) (hz:a=none->c=0) (i:Nat) (hi:i<=n) (x:V) (cx:VC) (hx:IsVal (only (fun k=>B0<=k) w) w.heap.size x cx) (hfew:n<=1000000000) (hic:i<c):
 uP 88 #[.slice a n c, .int .i64 i, .agg (uV cx)] w (ListPost w B0 (insL l i x)):=by
 delta uV uP
 obtain ⟨i0,hi0,hz0,hz1,hz2⟩:=info_parts Yg
 have hlen:=hl.len
 have hcap:=hl.cap
 have hmax:=hl.max
 have ha:=hl.at_
 obtain ⟨cs,hcl,hcell,hpv⟩:=hl.cells
 have ha2:0<n->∃b off,a=some ⟨b,off,none⟩:=fun h=>by
  obtain ⟨b,off,_,e,_⟩:=ha
  exact ⟨b,off,(e h).1⟩
 have HP1:Hid (∀W,uB w W->Piece W a i c ((cs.take i).flatMap vcells)):=fun W hW=>by
  have:=Qm hcl hlen hz ha2 hcell hW i
  have e:(if n=0 then 0 else min i n)=i:=by split<;>omega
  rwa [e] at this
 obtain ⟨XA,hXA⟩:∃XA,(cs.take i).flatMap vcells=XA:=⟨_,rfl⟩
 have hla:XA.length=i*5:=by rw [<-hXA,Zk vcells 5 (fun _=>rfl),List.length_take,Nat.min_eq_left (by omega)]
 have HA1:Hid (∀u ∈ XA,u.oneCell'=true):=by unfold Hid;rw [<-hXA];exact Z9 _
 obtain ⟨XB,hXB⟩:∃XB,(cs.drop (i)).flatMap vcells=XB:=⟨_,rfl⟩
 have hlb:XB.length=(n - (i))*5:=by rw [<-hXB,Zk vcells 5 (fun _=>rfl),List.length_drop,hcl, <-hlen]
 have HB1:Hid (∀u ∈ XB,u.oneCell'=true):=by unfold Hid;rw [<-hXB];exact Z9 _
 have HP3:Hid (∀W,uB w W->Piece W (some ⟨b,off+i*5,none⟩) (n - i) (c - i) XB):=fun W hW=>by rw [<-hXB];subst hab;exact zdx hcl hlen hcell hW i hi _ _
 rw [hXA] at HP1
 have HBX:=qh (BC.start w (uV cx) 36)
 have HAL:=qh ((Below.refl _ _).alloc (Nat.le_refl _) (.cells (uV cx) 36):uB w _)
 have HX:=qh hx
 have HPV:=qh hpv
 have HCL:=qh hcl
 have HLEN:=qh hlen
 have HXA:=qh hXA
 have HXB:=qh hXB
 obtain ⟨R,hR⟩:∃R,ListPost w B0 (insL l i x)=R:=⟨_,rfl⟩
 rw [hR]
 have HR:=qh hR
 have ho1:(w.alloc (.cells (uV cx) 36)).ownsRow (w.heap.size+1) 36 5 (.slice none 0 0) 0 [] :=⟨rfl, .inl ⟨rfl,rfl⟩⟩
 clear hl ha hcl hcell hpv hlen ha2 hXA hXB hx hR hz
 subst hab
 go_enter Tryz.func88,Tryz.ntmps88
 go_wp2_with (first
  |(at_builtin;refine Zz _ rfl (.tmp 8) (.tmp 11) 33 (by rfl) (w.heap.size+1) 36 i0 _ 5 80 Tryz.underlying33 hi0 hz0 hz1 hz2 rfl (by omega) (.slice none 0 0) 0 [] (by rfl) ho1 (some ⟨b,off,none⟩) i c XA (by rfl) (HP1.out _ HAL.out) hla HA1.out (by unfold maxLen;omega) (by omega) (by simp) ?_;intro v1 w2 hown1 hgrow1;have b12:Below (w.heap.size+1) (w.alloc _) w2:=Zi hgrow1 (fun k hk=>by simp [Value.ownBlock] at hk) (by simp);have BX2:=HBX.out.keep b12 (by omega);obtain ⟨x0,x1,x2,x3,x4⟩:=row5 BX2.at_;have zs2:=BX2.lt;have HBL2:=qh (HAL.out.trans (b12.mono (by omega)));have hrl:∀g,v1.ownBlock=some g->w.heap.size+1<=g/\g<w2.heap.size:=hown1.lt;have ho2:=hown1.alloc (.cells (uV cx) 36);clear hown1 hgrow1 BX2 b12)
  |(at_builtin;refine Zz _ rfl (.tmp 13) (.tmp 15) 33 (by rfl) (w.heap.size+1) 36 i0 _ 5 80 Tryz.underlying33 hi0 hz0 hz1 hz2 rfl (by omega) v1 (0+i) ([] ++XA) (by rfl) ho2 (some ⟨w2.heap.size,0,none⟩) 1 1 (vcells cx) (by rfl) (J7 w2 cx _) (by rfl) (by simp [vcells,Value.oneCell']) (by unfold maxLen;omega) (by omega) (by simp;omega) ?_;intro v2 w4 hown2 hgrow2;have b24:Below (w.heap.size+1) w2 w4:=(((Below.refl w2.heap.size w2).alloc (Nat.le_refl _) (.cells (uV cx) 36)).mono (by omega)).trans (Zi hgrow2 (fun k hk=>(hrl k hk).1) (by simp;omega));have HBL4:=qh (HBL2.out.trans (b24.mono (by omega)));have zs4:w.heap.size<w4.heap.size:=Nat.lt_of_lt_of_le zs2 b24.size;have hrl2:∀g,v2.ownBlock=some g->w.heap.size+1<=g/\g<w4.heap.size:=hown2.lt;have HO2:=qh hown2;clear hgrow2 b24 hown2)
  |(at_builtin;refine Zz _ rfl (.tmp 17) (.tmp 20) 33 (by rfl) (w.heap.size+1) 36 i0 _ 5 80 Tryz.underlying33 hi0 hz0 hz1 hz2 rfl (by omega) v2 (0+i+1) ([] ++XA++vcells cx) (by rfl) HO2.out (some ⟨b,off+i*5,none⟩) (n - i) (c - i) XB (by rfl) (HP3.out _ HBL4.out) (by omega) HB1.out (by unfold maxLen;omega) (by omega) (by omega) ?_;intro v3 w5 hown3 hgrow3;have b45:Below (w.heap.size+1) w4 w5:=Zi hgrow3 (fun k hk=>(hrl2 k hk).1) (by omega);have HBL5:=qh (HBL4.out.trans (b45.mono (by omega)));have HO3:=qh hown3;clear hgrow3 b45 hown3))
 rw [<-HR.out]
 have hcat: [] ++XA++vcells cx++XB=(insL cs i cx).flatMap vcells:=by rw [<-HXA.out, <-HXB.out];simp [insL]
 have hll:(insL l i x).length=0+i+1+(n - i):=by
  rw [insL,List.length_append,List.length_cons,List.length_drop,List.length_take, <-HLEN.out];omega
 have hown:=HO3.out
 rw [hcat, <-hll] at hown
 have hlt3:=hown.lt
 have hsh:Shows (only (fun k=>B0<=k) w) (only (Free B0 v3) w5) w.heap.size:=Zd fun q hq hl=>⟨⟨hq,fun e=>by have:=(hlt3 q e.symm).1;omega⟩,HBL5.out.block q hl⟩
 have hpv:∀k,k<l.length->PV l cs (only (Free B0 v3) w5) w5.heap.size k:=fun k hk=>PV.closed l cs _ _ _ _ k hsh HBL5.out.size (HPV.out k hk)
 obtain ⟨a,n,c,hv,hf,hz⟩:=X2 (B0:=B0) (B1:=w.heap.size+1) hown (by omega) (by rw [insL,insL,List.length_append,List.length_append,List.length_cons,List.length_cons,List.length_take,List.length_take,List.length_drop,List.length_drop,HCL.out])
  (PV.append (by rw [List.length_take,List.length_take,HCL.out]) (PV.take hpv i) (PV.cons ((HX.out.sub hsh).more HBL5.out.size) (PV.drop hpv i))) (by rw [hll];omega)
 exact ⟨⟨a,n,c,by rw [hv],hf,hz⟩,HBL5.out⟩
theorem zdo (w:World) (B0:Nat) (hB0:B0<=w.heap.size) (l:List V) (a:Option Addr) (n c:Nat) (hl:IsVals (only (fun k=>B0<=k) w) w.heap.size l a n c) (hz:Neat2 a c) (i:Nat) (hi:i<=n) (x:V) (xk xn:Int) (xs:ByteArray) (xa:Option Addr) (xl xc:Nat) (ya:Option Addr) (yl yc:Nat) (hx:IsVal (only (fun k=>B0<=k) w) w.heap.size x ⟨xk,xn,xs,xa,xl,xc,ya,yl,yc⟩) (hfew:n<=1000000000):
 uP 88 #[.slice a n c, .int .i64 i, .agg (uU xk xn xs xa xl xc ya yl yc)] w (ListPost w B0 (insL l i x)):=by
 delta uU uP
 have hcap:=hl.cap
 rcases hz with ⟨ha,hc⟩|⟨b,off,ha⟩
 .exact zlk w B0 hB0 l a ha n c hl (fun _=>hc) i hi x ⟨xk,xn,xs,xa,xl,xc,ya,yl,yc⟩ hx hfew
 .by_cases hic:i=c
  .exact zhu w B0 hB0 l a b off ha n c hl (fun h=>by rw [ha] at h;cases h) i hi x ⟨xk,xn,xs,xa,xl,xc,ya,yl,yc⟩ hx hfew hic
  .exact zeu w B0 hB0 l a b off ha n c hl (fun h=>by rw [ha] at h;cases h) i hi x ⟨xk,xn,xs,xa,xl,xc,ya,yl,yc⟩ hx hfew (by omega)
set_option maxRecDepth 100000 in
theorem zhe (w:World) (B0:Nat) (hB0:B0<=w.heap.size) (l:List V) (a:Option Addr) (b off:Nat) (hab:a=some ⟨b,off,none⟩) (n c:Nat) (hl:IsVals (only (fun k=>B0<=k) w) w.heap.size l a n c) (hz:a=none->c=0) (i:Nat) (hi:i<n) (hfew:n<=1000000000) (hic:i+1=c):
 uP 89 #[.slice a n c, .int .i64 i] w (ListPost w B0 (remL l i)):=by
 delta uP
 have hwr:IntKind.i64.wrap ((i:Int)+1)=((i+1:Nat):Int):=by rw [IntWalk.i64_in _ (by omega)];omega
 obtain ⟨i0,hi0,hz0,hz1,hz2⟩:=info_parts Yg
 have hlen:=hl.len
 have hcap:=hl.cap
 have hmax:=hl.max
 have ha:=hl.at_
 obtain ⟨cs,hcl,hcell,hpv⟩:=hl.cells
 have ha2:0<n->∃b off,a=some ⟨b,off,none⟩:=fun h=>by
  obtain ⟨b,off,_,e,_⟩:=ha
  exact ⟨b,off,(e h).1⟩
 have HP1:Hid (∀W,uB w W->Piece W a i c ((cs.take i).flatMap vcells)):=fun W hW=>by
  have:=Qm hcl hlen hz ha2 hcell hW i
  have e:(if n=0 then 0 else min i n)=i:=by split<;>omega
  rwa [e] at this
 obtain ⟨XA,hXA⟩:∃XA,(cs.take i).flatMap vcells=XA:=⟨_,rfl⟩
 have hla:XA.length=i*5:=by rw [<-hXA,Zk vcells 5 (fun _=>rfl),List.length_take,Nat.min_eq_left (by omega)]
 have HA1:Hid (∀u ∈ XA,u.oneCell'=true):=by unfold Hid;rw [<-hXA];exact Z9 _
 obtain ⟨XB,hXB⟩:∃XB,(cs.drop (i+1)).flatMap vcells=XB:=⟨_,rfl⟩
 have hlb:XB.length=(n - (i+1))*5:=by rw [<-hXB,Zk vcells 5 (fun _=>rfl),List.length_drop,hcl, <-hlen]
 have HB1:Hid (∀u ∈ XB,u.oneCell'=true):=by unfold Hid;rw [<-hXB];exact Z9 _
 have hni:n - (i+1)=0:=by omega
 have hXBn:XB= [] :=List.eq_nil_of_length_eq_zero (by omega)
 have HP3:Hid (∀W,uB w W->Piece W (some ⟨b,off,none⟩) 0 0 XB):=fun W _=>by rw [hXBn];exact zdp W _ _ _
 rw [hXA] at HP1
 have HPV:=qh hpv
 have HCL:=qh hcl
 have HLEN:=qh hlen
 have HXA:=qh hXA
 have HXB:=qh hXB
 obtain ⟨R,hR⟩:∃R,ListPost w B0 (remL l i)=R:=⟨_,rfl⟩
 rw [hR]
 have HR:=qh hR
 have ho1:w.ownsRow w.heap.size 36 5 (.slice none 0 0) 0 [] :=⟨rfl, .inl ⟨rfl,rfl⟩⟩
 clear hl ha hcl hcell hpv hlen ha2 hXA hXB hR hz
 subst hab
 cases hic
 go_enter Tryz.func89,Tryz.ntmps89
 go_wp2_with (first
  |(at_builtin;refine Zz _ rfl (.tmp 6) (.tmp 9) 33 (by rfl) w.heap.size 36 i0 _ 5 80 Tryz.underlying33 hi0 hz0 hz1 hz2 rfl (by omega) (.slice none 0 0) 0 [] (by rfl) ho1 (some ⟨b,off,none⟩) i (i+1) XA (by rfl) (HP1.out _ (Below.refl _ _)) hla HA1.out (by unfold maxLen;omega) (by omega) (Nat.le_refl _) ?_;intro v1 w2 hown1 hgrow1;have b12:uB w w2:=Zi hgrow1 (fun k hk=>by simp [Value.ownBlock] at hk) (Nat.le_refl _);have HBL2:=qh b12;have zs2:=b12.size;have hrl:∀g,v1.ownBlock=some g->w.heap.size<=g/\g<w2.heap.size:=hown1.lt;have HO1:=qh hown1;clear hown1 hgrow1 b12)
  |(at_builtin;refine Zz _ rfl (.tmp 11) (.tmp 15) 33 (by rfl) w.heap.size 36 i0 _ 5 80 Tryz.underlying33 hi0 hz0 hz1 hz2 rfl (by omega) v1 (0+i) ([] ++XA) (by rfl) HO1.out (some ⟨b,off,none⟩) 0 0 XB (by rfl) (HP3.out _ HBL2.out) (by omega) HB1.out (by unfold maxLen;omega) (by omega) (by omega) ?_;intro v3 w5 hown3 hgrow3;have b45:Below w.heap.size w2 w5:=Zi hgrow3 (fun k hk=>(hrl k hk).1) (by omega);have HBL5:=qh (HBL2.out.trans b45);have HO3:=qh hown3;clear hgrow3 b45 hown3))
 rw [<-HR.out]
 have hcat: [] ++XA++XB=(remL cs i).flatMap vcells:=by rw [<-HXA.out, <-HXB.out];simp [remL]
 have hll:(remL l i).length=0+i+0:=by
  rw [remL,List.length_append,List.length_drop,List.length_take, <-HLEN.out];omega
 have hown:=HO3.out
 rw [hcat, <-hll] at hown
 have hlt3:=hown.lt
 have hsh:Shows (only (fun k=>B0<=k) w) (only (Free B0 v3) w5) w.heap.size:=Zd fun q hq hl=>⟨⟨hq,fun e=>by have:=(hlt3 q e.symm).1;omega⟩,HBL5.out.block q hl⟩
 have hpv:∀k,k<l.length->PV l cs (only (Free B0 v3) w5) w5.heap.size k:=fun k hk=>PV.closed l cs _ _ _ _ k hsh HBL5.out.size (HPV.out k hk)
 obtain ⟨a,n,c,hv,hf,hz⟩:=X2 (B0:=B0) (B1:=w.heap.size) hown (by omega) (by rw [remL,remL,List.length_append,List.length_append,List.length_take,List.length_take,List.length_drop,List.length_drop,HCL.out])
  (PV.append (by rw [List.length_take,List.length_take,HCL.out]) (PV.take hpv i) (PV.drop hpv (i+1))) (by rw [hll];omega)
 exact ⟨⟨a,n,c,by rw [hv];rfl,hf,hz⟩,HBL5.out⟩
set_option maxRecDepth 100000 in
theorem zf7 (w:World) (B0:Nat) (hB0:B0<=w.heap.size) (l:List V) (a:Option Addr) (b off:Nat) (hab:a=some ⟨b,off,none⟩) (n c:Nat) (hl:IsVals (only (fun k=>B0<=k) w) w.heap.size l a n c) (hz:a=none->c=0) (i:Nat) (hi:i<n) (hfew:n<=1000000000) (hic:i+1<c):
 uP 89 #[.slice a n c, .int .i64 i] w (ListPost w B0 (remL l i)):=by
 delta uP
 have hwr:IntKind.i64.wrap ((i:Int)+1)=((i+1:Nat):Int):=by rw [IntWalk.i64_in _ (by omega)];omega
 obtain ⟨i0,hi0,hz0,hz1,hz2⟩:=info_parts Yg
 have hlen:=hl.len
 have hcap:=hl.cap
 have hmax:=hl.max
 have ha:=hl.at_
 obtain ⟨cs,hcl,hcell,hpv⟩:=hl.cells
 have ha2:0<n->∃b off,a=some ⟨b,off,none⟩:=fun h=>by
  obtain ⟨b,off,_,e,_⟩:=ha
  exact ⟨b,off,(e h).1⟩
 have HP1:Hid (∀W,uB w W->Piece W a i c ((cs.take i).flatMap vcells)):=fun W hW=>by
  have:=Qm hcl hlen hz ha2 hcell hW i
  have e:(if n=0 then 0 else min i n)=i:=by split<;>omega
  rwa [e] at this
 obtain ⟨XA,hXA⟩:∃XA,(cs.take i).flatMap vcells=XA:=⟨_,rfl⟩
 have hla:XA.length=i*5:=by rw [<-hXA,Zk vcells 5 (fun _=>rfl),List.length_take,Nat.min_eq_left (by omega)]
 have HA1:Hid (∀u ∈ XA,u.oneCell'=true):=by unfold Hid;rw [<-hXA];exact Z9 _
 obtain ⟨XB,hXB⟩:∃XB,(cs.drop (i+1)).flatMap vcells=XB:=⟨_,rfl⟩
 have hlb:XB.length=(n - (i+1))*5:=by rw [<-hXB,Zk vcells 5 (fun _=>rfl),List.length_drop,hcl, <-hlen]
 have HB1:Hid (∀u ∈ XB,u.oneCell'=true):=by unfold Hid;rw [<-hXB];exact Z9 _
 have HP3:Hid (∀W,uB w W->Piece W (some ⟨b,off+(i+1)*5,none⟩) (n - (i+1)) (c - (i+1)) XB):=fun W hW=>by rw [<-hXB];subst hab;exact zdx hcl hlen hcell hW (i+1) (by omega) _ _
 rw [hXA] at HP1
 have HPV:=qh hpv
 have HCL:=qh hcl
 have HLEN:=qh hlen
 have HXA:=qh hXA
 have HXB:=qh hXB
 obtain ⟨R,hR⟩:∃R,ListPost w B0 (remL l i)=R:=⟨_,rfl⟩
 rw [hR]
 have HR:=qh hR
 have ho1:w.ownsRow w.heap.size 36 5 (.slice none 0 0) 0 [] :=⟨rfl, .inl ⟨rfl,rfl⟩⟩
 clear hl ha hcl hcell hpv hlen ha2 hXA hXB hR hz
 subst hab
 go_enter Tryz.func89,Tryz.ntmps89
 go_wp2_with (first
  |(at_builtin;refine Zz _ rfl (.tmp 6) (.tmp 9) 33 (by rfl) w.heap.size 36 i0 _ 5 80 Tryz.underlying33 hi0 hz0 hz1 hz2 rfl (by omega) (.slice none 0 0) 0 [] (by rfl) ho1 (some ⟨b,off,none⟩) i c XA (by rfl) (HP1.out _ (Below.refl _ _)) hla HA1.out (by unfold maxLen;omega) (by omega) (Nat.le_refl _) ?_;intro v1 w2 hown1 hgrow1;have b12:uB w w2:=Zi hgrow1 (fun k hk=>by simp [Value.ownBlock] at hk) (Nat.le_refl _);have HBL2:=qh b12;have zs2:=b12.size;have hrl:∀g,v1.ownBlock=some g->w.heap.size<=g/\g<w2.heap.size:=hown1.lt;have HO1:=qh hown1;clear hown1 hgrow1 b12)
  |(at_builtin;refine Zz _ rfl (.tmp 11) (.tmp 15) 33 (by rfl) w.heap.size 36 i0 _ 5 80 Tryz.underlying33 hi0 hz0 hz1 hz2 rfl (by omega) v1 (0+i) ([] ++XA) (by rfl) HO1.out (some ⟨b,off+(i+1)*5,none⟩) (n - (i+1)) (c - (i+1)) XB (by rfl) (HP3.out _ HBL2.out) (by omega) HB1.out (by unfold maxLen;omega) (by omega) (by omega) ?_;intro v3 w5 hown3 hgrow3;have b45:Below w.heap.size w2 w5:=Zi hgrow3 (fun k hk=>(hrl k hk).1) (by omega);have HBL5:=qh (HBL2.out.trans b45);have HO3:=qh hown3;clear hgrow3 b45 hown3))
 rw [<-HR.out]
 have hcat: [] ++XA++XB=(remL cs i).flatMap vcells:=by rw [<-HXA.out, <-HXB.out];simp [remL]
 have hll:(remL l i).length=0+i+(n - (i+1)):=by
  rw [remL,List.length_append,List.length_drop,List.length_take, <-HLEN.out];omega
 have hown:=HO3.out
 rw [hcat, <-hll] at hown
 have hlt3:=hown.lt
 have hsh:Shows (only (fun k=>B0<=k) w) (only (Free B0 v3) w5) w.heap.size:=Zd fun q hq hl=>⟨⟨hq,fun e=>by have:=(hlt3 q e.symm).1;omega⟩,HBL5.out.block q hl⟩
 have hpv:∀k,k<l.length->PV l cs (only (Free B0 v3) w5) w5.heap.size k:=fun k hk=>PV.closed l cs _ _ _ _ k hsh HBL5.out.size (HPV.out k hk)
 obtain ⟨a,n,c,hv,hf,hz⟩:=X2 (B0:=B0) (B1:=w.heap.size) hown (by omega) (by rw [remL,remL,List.length_append,List.length_append,List.length_take,List.length_take,List.length_drop,List.length_drop,HCL.out])
  (PV.append (by rw [List.length_take,List.length_take,HCL.out]) (PV.take hpv i) (PV.drop hpv (i+1))) (by rw [hll];omega)
 exact ⟨⟨a,n,c,by rw [hv];rfl,hf,hz⟩,HBL5.out⟩
theorem zbt (w:World) (B0:Nat) (hB0:B0<=w.heap.size) (l:List V) (a:Option Addr) (n c:Nat) (hl:IsVals (only (fun k=>B0<=k) w) w.heap.size l a n c) (i:Nat) (hi:i<n) (hfew:n<=1000000000):
 uP 89 #[.slice a n c, .int .i64 i] w (ListPost w B0 (remL l i)):=by
 delta uP
 have hcap:=hl.cap
 obtain ⟨b,off,_,h5,_⟩:=hl.at_
 obtain ⟨ha,_⟩:=h5 (by omega)
 by_cases hic:i+1=c
 .exact zhe w B0 hB0 l a b off ha n c hl (fun h=>by rw [ha] at h;cases h) i hi hfew hic
 .exact zf7 w B0 hB0 l a b off ha n c hl (fun h=>by rw [ha] at h;cases h) i hi hfew (by omega)
def ezero:EC:=⟨0,0,0,vzero,none,0,0⟩
def ecells (c:EC):List Value:= [.int .u8 c.k, .int .u32 c.src, .int .u32 c.seq, .int .u8 c.v.k, .int .i64 c.v.n, .string c.v.s, .slice c.v.la c.v.ll c.v.lc, .slice c.v.oa c.v.ol c.v.oc, .slice c.oa c.ol c.oc]
def PC (l:List Cm) (cs:List CC):World->Nat->Nat->Prop:=fun W B i=>∀h:i<l.length,IsComp W B l[i] (cs.getD i czero)
theorem PC.closed (l:List Cm) (cs:List CC):Closed (PC l cs):=fun _ _ _ _ _ hs hB h hi=>((h hi).sub hs).more hB
theorem PC.snoc {l:List Cm} {cs:List CC} (hl:cs.length=l.length) (x:Cm) (c:CC):(∀W B,IsComp W B x c->PC (l++ [x]) (cs++ [c]) W B l.length)/\∀W B i,i<l.length->PC l cs W B i->PC (l++ [x]) (cs++ [c]) W B i:=by
 constructor
 .intro W B h hi
  simpa [List.getD_eq_getElem?_getD, <-hl] using h
 .intro W B i hi h hi2
  have h:=h hi
  have e:(cs++ [c]).getD i czero=cs.getD i czero:=by simp [List.getD_eq_getElem?_getD,List.getElem?_append_left (show i<cs.length by omega)]
  rw [List.getElem_append_left hi,e]
  exact h
abbrev RowC (w:World) (base:Nat) (u:Value) (l:List Cm) (cs:List CC):Prop:=Row 39 12 w base u l.length (cs.flatMap ccells) (PC l cs)
theorem RowC.comps {w:World} {base lo:Nat} {l:List Cm} {cs:List CC} {a:Option Addr} {n cap:Nat} (h:RowC w base (.slice a n cap) l cs) (hl:cs.length=l.length) (hlo:lo<=base) (hfew:l.length<=1466015503701):
 IsComps (only (fun b=>lo<=b) w) w.heap.size l a n cap:=by
 obtain ⟨h1,h2⟩:=Row.shows (PC.closed l cs) h hlo
 have hown:=h.own
 have hlt:=h.lt
 rcases hown.2 with ⟨e,hn⟩|⟨g,cap',cur,e,hbg,hg,hnc,hcm,hcs,htake⟩
 .injection e with e1 e2 e3;subst e1 e2 e3
  have:l= [] :=List.length_eq_zero_iff.1 hn
  subst this
  exact .nil _ _
 .injection e with e1 e2 e3;subst e1 e2 e3
  refine ⟨rfl,hnc,by simpa [maxLen] using hcm,hfew,g,0,fun i=>cs.getD i czero,fun _=>⟨rfl,(hlt g rfl).2⟩,fun i hi=>⟨?_,h2 i hi hi⟩⟩
  have hi':i<cs.length:=by omega
  have hc:∀t x,t<12->(ccells cs[i])[t]? =some x->(only (fun b=>lo<=b) w).cell? ⟨g,0+i*12+t,none⟩=some x:=fun t x ht hx=>by
   rw [Nat.zero_add]
   exact h1 g rfl (i*12+t) x ((Yx ccells 12 (fun _=>rfl) cs i t hi' ht).trans hx)
  have he:cs.getD i czero=cs[i] :=by simp [List.getD_eq_getElem?_getD,hi']
  simp only [he]
  exact ⟨hc 0 _ (by omega) rfl,hc 1 _ (by omega) rfl,hc 2 _ (by omega) rfl,hc 3 _ (by omega) rfl,hc 4 _ (by omega) rfl,hc 5 _ (by omega) rfl,⟨hc 6 _ (by omega) rfl,hc 7 _ (by omega) rfl,hc 8 _ (by omega) rfl,hc 9 _ (by omega) rfl,hc 10 _ (by omega) rfl⟩,hc 11 _ (by omega) rfl⟩
structure EB (w W:World) (rb eb:Nat) (r:List UInt8) (v:V) (l:List Cm) (c:EC):Prop where
 rdr:Rdr W rb r 0
 st:RStep w W rb
 res:BC W w.heap.size (ecells ezero)
 box:BC W eb (ecells c)
 val:IsVal (only (fun b=>eb+1<=b) W) W.heap.size v c.v
 ops:IsComps (only (fun b=>eb+1<=b) W) W.heap.size l c.oa c.ol c.oc
 lo:w.heap.size+1<=eb
 lt:rb<w.heap.size
def Neat (oa:Option Addr) (ol oc:Nat):Prop:=(oa=none/\ol=0/\oc=0)∨0<ol
theorem zbr (o:List (ByteArray×V)) (key:ByteArray) (x:V):0<(withF o key x).length/\(withF o key x).length<=o.length+1:=by
 have:=Yz o key
 unfold withF
 rw [List.length_append,List.length_cons,List.length_drop,List.length_take,Nat.min_eq_left this]
 refine ⟨by omega, ?_⟩
 split
 .rename_i h;have:=Ys h;omega
 .omega
def WithPost2 (w:World) (B0:Nat) (l:List (ByteArray×V)) (e:Ending) (w':World):Prop:=
 (∃a n c,e= .returned (.slice a n c)/\IsFields (only (fun b=>B0<=b) w') w'.heap.size l a n c/\Neat a n c)/\Below w.heap.size w w'
set_option maxRecDepth 100000 in
theorem Kb (w:World) (B0:Nat) (hB0:B0<=w.heap.size) (o:List (ByteArray×V)) (oa:Option Addr) (ol oc:Nat) (ho:IsFields (only (fun k=>B0<=k) w) w.heap.size o oa ol oc) (hne:Neat oa ol oc) (key:ByteArray) (hks:key.size<=140737488355328) (x:V) (xk xn:Int) (xs:ByteArray) (xa:Option Addr) (xl xc:Nat) (ya:Option Addr) (yl yc:Nat) (hx:IsVal (only (fun k=>B0<=k) w) w.heap.size x ⟨xk,xn,xs,xa,xl,xc,ya,yl,yc⟩) (hfew:ol<=1000000):
 uP 72 #[.slice oa ol oc, .string key, .agg (uU xk xn xs xa xl xc ya yl yc)] w (WithPost2 w B0 (withF o key x)):=by
 delta uU uP
 have go:uP 72 #[.slice oa ol oc, .string key, .agg (uU xk xn xs xa xl xc ya yl yc)] w (WithPost w B0 (withF o key x)):=by
  rcases hne with ⟨rfl,rfl,rfl⟩|hp
  .have:o= [] :=List.eq_nil_of_length_eq_zero ho.len.symm
   subst this
   exact zj0 w B0 hB0 key hks x ⟨xk,xn,xs,xa,xl,xc,ya,yl,yc⟩ hx
  .obtain ⟨cs,b,off,_,hab,_,_⟩:=ho.cells
   obtain ⟨rfl,hb⟩:=hab hp
   have hlen:=ho.len
   have hcap:=ho.cap
   have hkl:=Yz o key
   cases his:fieldIs o key with
   | false=>
     by_cases hk:fieldK o key=oc
     .exact zed w B0 hB0 o b off ol oc ho key hks x ⟨xk,xn,xs,xa,xl,xc,ya,yl,yc⟩ hx hp hfew his hk
     .exact zki w B0 hB0 o b off ol oc ho key hks x ⟨xk,xn,xs,xa,xl,xc,ya,yl,yc⟩ hx hp hfew his (by omega)
   | true=>
     have hlt:=Ys his
     by_cases hk:fieldK o key+1=oc
     .exact zg0 w B0 hB0 o b off ol oc ho key hks x ⟨xk,xn,xs,xa,xl,xc,ya,yl,yc⟩ hx hp hfew his hk
     .exact ziw w B0 hB0 o b off ol oc ho key hks x ⟨xk,xn,xs,xa,xl,xc,ya,yl,yc⟩ hx hp hfew his (by omega)
 refine go.mono ?_
 rintro e w' ⟨⟨a,n,c,rfl,h1,h2⟩,h3⟩
 exact ⟨⟨a,n,c,rfl,h1, .inr (by rw [h1.len];exact (zbr o key x).1)⟩,h3⟩
def keyP (l:List Tk) (u:Nat):ByteArray:=match l[u]? with
 |some t=>plainS t.s
 |none=> .empty
def bL (f:List Tk->V×Nat) (l:List Tk):Nat->List V×Nat
 |0=>([],1)
 |i+1=>((bL f l i).1++ [(f (l.drop (bL f l i).2)).1],(bL f l i).2+(f (l.drop (bL f l i).2)).2)
def bO (f:List Tk->V×Nat) (l:List Tk):Nat->List (ByteArray×V)×Nat
 |0=>([],1)
 |i+1=>(withF (bO f l i).1 (keyP l (bO f l i).2) (f (l.drop (bO f l i).2)).1,(bO f l i).2+(f (l.drop (bO f l i).2)).2)
def leafP (t:Tk):V:=if t.k % 6=1 then .mk 1 (t.n % 2) .empty [] [] else if t.k % 6=2 then .mk 2 t.n .empty [] [] else if t.k % 6=3 then .mk 3 0 (plainS t.s) [] []
 else if t.k % 6=4 then .mk 4 0 .empty [] [] else if t.k % 6=5 then .mk 5 0 .empty [] [] else V.none
def oneP:Nat->List Tk->V×Nat
 |_, [] =>(V.none,0)
 |0,t::_=>(leafP t,1)
 | d+1,t::r=>if t.k % 6=4 then (.mk 4 0 .empty (bL (oneP d) (t::r) (t.m % 4).toNat).1 [],(bL (oneP d) (t::r) (t.m % 4).toNat).2)
   else if t.k % 6=5 then (.mk 5 0 .empty [] (bO (oneP d) (t::r) (t.m % 4).toNat).1,(bO (oneP d) (t::r) (t.m % 4).toNat).2)
   else (leafP t,1)
theorem zcj {f:List Tk->V×Nat} (hf:∀l,(f l).2<=l.length) {l:List Tk} (hl:1<=l.length) (j:Nat):1<=(bL f l j).2/\(bL f l j).2<=l.length/\(bL f l j).1.length=j:=by
 induction j with
 |zero=>exact ⟨Nat.le_refl _,hl,rfl⟩
 | succ j ih=>
   have:=hf (l.drop (bL f l j).2)
   rw [List.length_drop] at this
   rw [bL]
   refine ⟨by dsimp only;omega,by dsimp only;omega,by dsimp only;rw [List.length_append,List.length_singleton];omega⟩
theorem za5 {f:List Tk->V×Nat} (hf:∀l,(f l).2<=l.length) {l:List Tk} (hl:1<=l.length) (j:Nat):1<=(bO f l j).2/\(bO f l j).2<=l.length/\(bO f l j).1.length<=j:=by
 induction j with
 |zero=>exact ⟨Nat.le_refl _,hl,Nat.le_refl _⟩
 | succ j ih=>
   have:=hf (l.drop (bO f l j).2)
   rw [List.length_drop] at this
   rw [bO]
   refine ⟨by dsimp only;omega,by dsimp only;omega, ?_⟩
   have:=(zbr (bO f l j).1 (keyP l (bO f l j).2) (f (l.drop (bO f l j).2)).1).2
   dsimp only;omega
theorem Qd (d:Nat):∀l,(oneP d l).2<=l.length:=by
 induction d with
 | zero=>
   intro l
   cases l with
   |nil=>simp [oneP]
   |cons t r=>simp [oneP]
 | succ d ih=>
   intro l
   cases l with
   |nil=>simp [oneP]
   | cons t r=>
     rw [oneP]
     split
     .exact (zcj ih (by simp) _).2.1
     .split
      .exact (za5 ih (by simp) _).2.1
      .simp
theorem Y7 (s:ByteArray):(plainS s).size<=40:=by
 show (plainL s.data.toList).toArray.size<=40
 simp [plainL];omega
theorem zam (l:List Tk) (u:Nat):(keyP l u).size<=40:=by
 unfold keyP
 split
 .exact Y7 _
 .decide
set_option maxRecDepth 100000 in
theorem zd7 (w:World) (s key:ByteArray) (c:VC) (kb:Nat) (hk:w.cell? ⟨kb,0,none⟩=some (.string key)):
 uP 119 #[.agg #[.string s, .int .u8 c.k, .int .i64 c.n, .string c.s, .slice c.la c.ll c.lc, .slice c.oa c.ol c.oc], .pointer (some ⟨kb,0,none⟩)] w fun e w'=>e= .returned (.bool (!Op.bytesLess s.toList key.toList))/\uB w w':=by
 delta uB uP
 have hkb:kb<w.heap.size:=World.block_lt_of_cell? w _ hk
 go_enter Tryz.func119,Tryz.ntmps119
 go_wp2_with fail
 go_returns
 exact ⟨rfl,(Below.refl _ _).alloc (Nat.le_refl _) _⟩
def fieldAt (o:List (ByteArray×V)) (key:ByteArray):Int:=if fieldK o key<o.length then (fieldK o key:Int) else -1
set_option maxRecDepth 100000 in
theorem zjj (w:World) (o:List (ByteArray×V)) (key:ByteArray) (a:Option Addr) (n c:Nat) (h:IsFields w w.heap.size o a n c) (kb:Nat) (hk:w.cell? ⟨kb,0,none⟩=some (.string key)):
 uP 118 #[.slice a n c, .func (.func 119) #[] #[.pointer (some ⟨kb,0,none⟩)]] w fun e w'=>e= .returned (.int .i64 (fieldAt o key))/\uB w w':=by
 delta uB uP
 have hkb:kb<w.heap.size:=World.block_lt_of_cell? w _ hk
 have k1:=h.max;have k2:=h.few
 have HLn:=qh h.len
 have HI:=qh h
 have HK:=qh hk
 have eg:=enters_of Tryz.func119 (by kernel_rfl) rfl
 clear h hk
 obtain ⟨R,hR⟩:∃R,fieldAt o key=R:=⟨_,rfl⟩
 rw [hR]
 have HR:=qh hR
 clear hR
 go_enter Tryz.func118,Tryz.ntmps118
 go_wp2_with fail
 go_loopw [5,8] (fun _ i wr=>∃j:Nat,j<=n/\i= .int .i64 j/\Hid (∀i (hi:i<o.length),i<j->Op.bytesLess (o[i]'hi).1.toList key.toList=true)/\uB w wr) (fun _ i _=>n - (intOf i).toNat)
 case atStart=>exact ⟨0,Nat.zero_le _,rfl,qh (fun i hi hj=>by omega),Below.refl _ _⟩
 case round=>
  obtain ⟨j,hj,rfl,hall,hbl⟩:=hrel
  have HBL:=qh hbl
  by_cases hlt:j<n
  .obtain ⟨b,o',f,hp,rfl,hbB,hkey,hks,hv,_⟩:=(HI.out.keep hbl).get hlt
   have c0:=hv.c0;have c1:=hv.c1;have c2:=hv.c2;have c3:=hv.c3;have c4:=hv.c4
   have hbw:b<wr.heap.size:=World.block_lt_of_cell? wr _ hkey
   obtain ⟨nb,hnb⟩:∃nb,(!Op.bytesLess (o[j]'hp).1.toList key.toList)=nb:=⟨_,rfl⟩
   have HC:Hid (uP 119 #[.agg #[.string (o[j]'hp).1, .int .u8 f.k, .int .i64 f.n, .string f.s, .slice f.la f.ll f.lc, .slice f.oa f.ol f.oc], .pointer (some ⟨kb,0,none⟩)] wr fun e w'=>e= .returned (.bool nb)/\uB wr w'):=by
    rw [<-hnb];exact zd7 wr _ key f kb (Zb hbl HK.out hkb)
   cases nb with
   | false=>
     have hlb:Op.bytesLess (o[j]'hp).1.toList key.toList=true:=by simpa using hnb
     have HLB:=qh hlb
     clear hbl hlb hv hnb
     go_wp2_with fail
     refine HC.out.mono ?_
     rintro e w' ⟨rfl,hb'⟩
     go_wp2_with fail
     go_roundw
     case rel=>exact ⟨j+1,by omega,by go_num,qh (fun i hi hij=>by
      by_cases e:i=j
      .subst e;exact HLB.out
      .exact hall.out i hi (by omega)),HBL.out.on hb' HBL.out.size⟩
     case measure=>simp [intOf];omega
   | true=>
     have hlb:Op.bytesLess (o[j]'hp).1.toList key.toList=false:=by simpa using hnb
     have hf:fieldK o key=j:=Jz o key j hall.out (by omega) (.inr ⟨hp,hlb⟩)
     have HF:=qh hf
     clear hbl hlb hv hf hnb
     go_wp2_with fail
     refine HC.out.mono ?_
     rintro e w' ⟨rfl,hb'⟩
     go_wp2_with fail
     go_ret
     exact ⟨by rw [<-HR.out,fieldAt,HF.out,if_pos hp];rfl,HBL.out.on hb' HBL.out.size⟩
  .have hj2:j=n:=by omega
   have hf:fieldK o key=n:=Jz o key n (fun i hi hin=>hall.out i hi (by omega)) (by rw [HLn.out];exact Nat.le_refl _) (.inl HLn.out)
   have HF:=qh hf
   clear hbl hf hj2
   go_wp2_with fail
   go_ret
   exact ⟨by rw [<-HR.out,fieldAt,HF.out,if_neg (by have:=HLn.out;omega)];rfl,HBL.out⟩
theorem zi1 (o:List (ByteArray×V)) (key:ByteArray):fieldK o key<=o.length:=by
 unfold fieldK
 exact (List.takeWhile_sublist _).length_le
set_option maxRecDepth 100000 in
theorem Qs (w:World) (o:List (ByteArray×V)) (key:ByteArray) (c:VC) (h:IsFields w w.heap.size o c.oa c.ol c.oc):
 uP 79 #[.agg (uV c), .string key] w fun e w'=>e= .returned (.tuple #[.int .i64 (fieldK o key:Int), .bool (fieldIs o key)])/\uB w w':=by
 delta uV uB uP
 have k1:=h.max;have k2:=h.few
 have HL:=qh h.len
 have HI:=qh h
 have hal:uB w ((w.alloc (.cells (uV c) 36)).alloc (.cells #[.string key] 9)):=((Below.refl _ _).alloc (Nat.le_refl _) _).alloc (by simp) _
 have hbc:=(BC.start w (uV c) 36).keep ((Below.refl _ _).alloc (Nat.le_refl _) (.cells #[.string key] 9)) (by simp)
 have hbk:=BC.start (w.alloc (.cells (uV c) 36)) #[.string key] 9
 rw [World.size_alloc] at hbk
 obtain ⟨w1,hw1⟩:∃w1,(w.alloc (.cells (uV c) 36)).alloc (.cells #[.string key] 9)=w1:=⟨_,rfl⟩
 rw [hw1] at hal hbc hbk
 have HW1:=qh hw1
 obtain ⟨k,hk⟩:∃k,fieldK o key=k:=⟨_,rfl⟩
 obtain ⟨is,his⟩:∃is,fieldIs o key=is:=⟨_,rfl⟩
 have hC:=zjj w1 o key c.oa c.ol c.oc ((HI.out.keep hal).more hal.size) (w.heap.size+1) (hbk.at_ 0 _ rfl)
 rw [fieldAt,hk] at hC
 rw [hk,his]
 have HC:=qh hC
 have HK:=qh hk
 have HIS:=qh his
 have hkl:=zi1 o key
 rw [hk, <-HL.out] at hkl
 have b0:=hbc.at_ 4 _ rfl
 have b1:=hbk.at_ 0 _ rfl
 have HAL:=qh hal
 have HBC:=qh hbc
 have HBK:=qh hbk
 clear hw1 hC hk his hal hbc hbk h
 go_enter Tryz.func79,Tryz.ntmps79
 go_wp2_with fail
 rw [HW1.out]
 refine HC.out.mono ?_
 rintro e w' ⟨rfl,hb'⟩
 have D:=HBC.out.keep hb' HBC.out.lt
 have D2:=HBK.out.keep hb' HBK.out.lt
 have q4:=D.at_ 4 _ rfl
 have q0:=D2.at_ 0 _ rfl
 have z1:=D.lt;have z2:=D2.lt
 have HB':=qh (HAL.out.trans (hb'.mono HAL.out.size))
 clear D D2 b0 b1
 by_cases hlt:k<o.length
 .rw [if_pos hlt]
  obtain ⟨b,o',f,hp,hoa,hbB,hkey,hks,hv,_⟩:=(HI.out.keep HB'.out).get (k:=k) (by have:=HL.out;omega)
  rw [hoa] at q4
  have hbw:b<w'.heap.size:=World.block_lt_of_cell? w' _ hkey
  obtain ⟨eb,heb⟩:∃eb,((o[k]'hp).1.toList==key.toList)=eb:=⟨_,rfl⟩
  have hi:is=eb:=by
   rw [<-HIS.out,fieldIs,HK.out,List.getElem?_eq_getElem hp];exact heb
  have HII:=qh hi
  have hlt2:k<c.ol:=by have:=HL.out;omega
  clear hi hv
  go_wp2_with fail
  go_quiet (fail)
  go_wp2_with fail
  go_returns
  exact ⟨by rw [HII.out];rfl,Ya HB'.out _⟩
 .rw [if_neg hlt]
  have hkn:k=c.ol:=by have:=HL.out;omega
  have hi:is=false:=by
   rw [<-HIS.out,fieldIs,HK.out,List.getElem?_eq_none (by omega)]
  have HKN:=qh hkn
  have HII:=qh hi
  clear hkn hi
  go_wp2_with fail
  go_returns
  exact ⟨by rw [HKN.out,HII.out];rfl,HB'.out⟩
theorem zcs (cl:List VC):∀i,(cl.flatMap vcells).take (i*5)=(cl.take i).flatMap vcells:=by
 induction cl with
 |nil=>intro i;simp
 | cons c r ih=>
   intro i
   cases i with
   |zero=>simp
   | succ i=>
     rw [List.flatMap_cons,List.take_succ_cons,List.flatMap_cons, <-ih i,List.take_append,List.take_of_length_le (by simp [vcells];omega),show (i+1)*5 - (vcells c).length=i*5 by simp [vcells];omega]
theorem Kx (cl:List VC):∀i,(cl.flatMap vcells).drop (i*5)=(cl.drop i).flatMap vcells:=by
 induction cl with
 |nil=>intro i;simp
 | cons c r ih=>
   intro i
   cases i with
   |zero=>simp
   | succ i=>
     rw [List.flatMap_cons,List.drop_succ_cons, <-ih i,List.drop_append,List.drop_eq_nil_of_le (by simp [vcells];omega),List.nil_append,show (i+1)*5 - (vcells c).length=i*5 by simp [vcells];omega]
structure VRow (w:World) (base:Nat) (u:Value) (l:List V) (cl:List VC):Prop where
 len:cl.length=l.length
 own:w.ownsRow base 36 5 u l.length (cl.flatMap vcells)
 els:∀i (h:i<l.length) (h':i<cl.length),IsVal (only (fun k=>base<=k/\u.ownBlock≠some k) w) w.heap.size l[i] cl[i]
theorem VRow.of {w:World} {base:Nat} {l:List V} {d:VC} {x:V} (h:Whole w base x d) (hx:x.ls=l):∃cl,VRow w base (.slice d.la d.ll d.lc) l cl:=by
 obtain ⟨h1,h2,cl,co,S,W0,h3⟩:=h
 subst hx
 refine ⟨cl,h3.lenL,h3.rowL,fun i hi hi'=> ?_⟩
 obtain ⟨T,t1,_,t3⟩:=h3.elsL i hi hi' (by omega)
 refine t3.isVal fun k hk=> ?_
 have h0:=h3.mono 0 i (Nat.zero_le _) (by omega)
 have:=t1 k hk
 exact ⟨by have:=h3.s0;omega,fun e=>by have:=h3.loL k e;omega⟩
theorem IsVal.rowed {w w':World} {base:Nat} {u u':Value} {x:V} {c:VC} (h:IsVal (only (fun k=>base<=k/\u.ownBlock≠some k) w) w.heap.size x c) (hg:w.grownBy w' u.ownBlock) (hu:u'.ownBlock=u.ownBlock∨u'.ownBlock=some w.heap.size):
 IsVal (only (fun k=>base<=k/\u'.ownBlock≠some k) w') w'.heap.size x c:=
 (h.sub (Zd fun k hk hl=>⟨⟨hk.1,fun e=>by
  rcases hu with hu|hu
  .exact hk.2 (hu ▸ e)
  .rw [hu] at e;injection e with e;omega⟩,hg.block k hl (fun e=>hk.2 e.symm)⟩)).more hg.size
theorem VRow.ins {w w':World} {base i:Nat} {u u':Value} {l:List V} {cl:List VC} {x:V} {cx:VC} (h:VRow w base u l cl) (hi:i<=l.length) (hx:IsVal (only (fun k=>base<=k/\u.ownBlock≠some k) w) w.heap.size x cx)
 (ho:w'.ownsRow base 36 5 u' (l.length+1) ((cl.flatMap vcells).take (i*5)++vcells cx++(cl.flatMap vcells).drop (i*5))) (hg:w.grownBy w' u.ownBlock) (hu:u'.ownBlock=u.ownBlock∨u'.ownBlock=some w.heap.size):
 VRow w' base u' (insL l i x) (cl.take i++cx::cl.drop i):=by
 have hl:=h.len
 refine ⟨by simp [insL,hl], ?_,fun k hk hk'=> ?_⟩
 .rw [zcs,Kx] at ho
  have e:(insL l i x).length=l.length+1:=by simp [insL];omega
  rw [e,List.flatMap_append,List.flatMap_cons, <-List.append_assoc]
  exact ho
 .simp only [insL] at hk ⊢
  by_cases h1:k<i
  .rw [List.getElem_append_left (by rw [List.length_take];omega),List.getElem_append_left (by rw [List.length_take];omega),List.getElem_take,List.getElem_take]
   exact (h.els k (by omega) (by omega)).rowed hg hu
  .rw [List.getElem_append_right (by rw [List.length_take];omega),List.getElem_append_right (by rw [List.length_take];omega)]
   have e1:k - (l.take i).length=k - i:=by rw [List.length_take];omega
   have e2:k - (cl.take i).length=k - i:=by rw [List.length_take];omega
   simp only [e1,e2]
   rw [List.length_append,List.length_cons,List.length_take,List.length_drop] at hk
   by_cases h2:k - i=0
   .rw [List.getElem_cons,List.getElem_cons,dif_pos h2,dif_pos h2]
    exact hx.rowed hg hu
   .rw [List.getElem_cons,List.getElem_cons,dif_neg h2,dif_neg h2,List.getElem_drop,List.getElem_drop]
    exact (h.els (i+(k - i - 1)) (by omega) (by omega)).rowed hg hu
theorem VRow.rem {w w':World} {base i:Nat} {u u':Value} {l:List V} {cl:List VC} (h:VRow w base u l cl) (hi:i<l.length)
 (ho:w'.ownsRow base 36 5 u' (l.length - 1) ((cl.flatMap vcells).take (i*5)++(cl.flatMap vcells).drop ((i+1)*5))) (hg:w.grownBy w' u.ownBlock) (hu:u'.ownBlock=u.ownBlock∨u'.ownBlock=some w.heap.size):
 VRow w' base u' (remL l i) (cl.take i++cl.drop (i+1)):=by
 have hl:=h.len
 refine ⟨by simp [remL,hl], ?_,fun k hk hk'=> ?_⟩
 .rw [zcs,Kx] at ho
  have e:(remL l i).length=l.length - 1:=by simp [remL];omega
  rw [e,List.flatMap_append]
  exact ho
 .simp only [remL] at hk ⊢
  rw [List.length_append,List.length_take,List.length_drop] at hk
  by_cases h1:k<i
  .rw [List.getElem_append_left (by rw [List.length_take];omega),List.getElem_append_left (by rw [List.length_take];omega),List.getElem_take,List.getElem_take]
   exact (h.els k (by omega) (by omega)).rowed hg hu
  .rw [List.getElem_append_right (by rw [List.length_take];omega),List.getElem_append_right (by rw [List.length_take];omega)]
   have e1:k - (l.take i).length=k - i:=by rw [List.length_take];omega
   have e2:k - (cl.take i).length=k - i:=by rw [List.length_take];omega
   simp only [e1,e2,List.getElem_drop]
   exact (h.els (i+1+(k - i)) (by omega) (by omega)).rowed hg hu
theorem zle {cl:List VC} {i:Nat} (hi:i<cl.length) {j:Nat} {v:Value} (h:(vcells cl[i])[j]? =some v):(cl.flatMap vcells)[i*5+j]? =some v:=by
 rw [<-List.getElem?_drop,Kx,List.drop_eq_getElem_cons hi,List.flatMap_cons,List.getElem?_append_left (List.getElem?_eq_some_iff.1 h).1]
 exact h
theorem VRow.at_ {w:World} {base i:Nat} {u:Value} {l:List V} {cl:List VC} (h:VRow w base u l cl) (hi:i<l.length) (hi':i<cl.length):
 ∃g cap,u= .slice (some ⟨g,0,none⟩) l.length cap/\base<=g/\g<w.heap.size/\l.length<=cap/\cap<=maxLen/\ValAt w g (i*5) cl[i] /\∀q,w.frozen? ⟨g,q,none⟩=false:=by
 rcases h.own.2 with ⟨rfl,h0⟩|⟨g,cap,cur,rfl,hbg,hg,hnc,hcm,hcs,htk⟩
 .omega
 .have hc:∀j v,(vcells cl[i])[j]? =some v->w.cell? ⟨g,i*5+j,none⟩=some v:=fun j v hj=>by
   have:=h.own.cells (g:=g) rfl (i*5+j) v (zle hi' hj)
   rw [Addr.add_lit,Nat.zero_add] at this;exact this
  refine ⟨g,cap,rfl,hbg,(Array.getElem?_eq_some_iff.1 hg).1,hnc,hcm,⟨hc 0 _ rfl,hc 1 _ rfl,hc 2 _ rfl,hc 3 _ rfl,hc 4 _ rfl⟩,fun q=>by simp [World.frozen?,hg]⟩
theorem VRow.set {w:World} {base g i cap:Nat} {l:List V} {cl:List VC} {x:V} {cx:VC} (h:VRow w base (.slice (some ⟨g,0,none⟩) l.length cap) l cl) (hi:i<l.length) (hx:IsVal (only (fun k=>base<=k/\(Value.slice (some ⟨g,0,none⟩) l.length cap).ownBlock≠some k) w) w.heap.size x cx):
 VRow (setV w g (i*5) cx) base (.slice (some ⟨g,0,none⟩) l.length cap) (l.set i x) (cl.set i cx):=by
 have hl:=h.len
 have st:=Zh w g (i*5) cx
 have mv:∀ {y:V} {c:VC},IsVal (only (fun k=>base<=k/\(Value.slice (some ⟨g,0,none⟩) l.length cap).ownBlock≠some k) w) w.heap.size y c->IsVal (only (fun k=>base<=k/\(Value.slice (some ⟨g,0,none⟩) l.length cap).ownBlock≠some k) (setV w g (i*5) cx)) (setV w g (i*5) cx).heap.size y c:=fun hy=>
  hy.rowed (u:= .slice (some ⟨g,0,none⟩) l.length cap) (u':= .slice (some ⟨g,0,none⟩) l.length cap) st.grown (.inl rfl)
 refine ⟨by simp [hl],by rw [List.length_set];exact zcb h.own (by omega) cx,fun k hk hk'=> ?_⟩
 rw [List.length_set] at hk hk'
 by_cases e:i=k
 .subst e
  rw [List.getElem_set_self,List.getElem_set_self]
  exact mv hx
 .rw [List.getElem_set_ne e,List.getElem_set_ne e]
  exact mv (h.els k hk hk')
end Go.Proofs.YtnjgbiachcfigaaGreatDoor
