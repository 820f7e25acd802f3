/-
  Contracts of the functions that the law reaches: conciliatorref05.with, without.
-/
import Derived.Test.YtbgheehjfnoiiaaGreatDoorOn8
namespace Go.Proofs.YtbgheehjfnoiiaaGreatDoor
open Go.RowKit
set_option maxHeartbeats 8000000
theorem Ku (w:World) (cx:VC) (t:TypeId):Piece (w.alloc (.cells #[.int .u8 cx.k, .int .i64 cx.n, .string cx.s, .slice cx.la cx.ll cx.lc, .slice cx.oa cx.ol cx.oc] t)) (some ⟨w.heap.size,0,none⟩) 1 1 (vcells cx):=
 ⟨fun h=>by (cases h),fun ad h=>by
  injection h with h
  subst h
  exact World.news_of_block (t:=t) (fr:=(0,0)) (heap_alloc_new w (.cells (uV cx) t))⟩
theorem Ql {w W:World} {B0:Nat} {l:List V} {a:Option Addr} {n c:Nat} {cs:List VC} (hcl:cs.length=l.length) (hln:n=l.length) (hz:a=none->c=0) (ha:0<n->∃b off,a=some ⟨b,off,none⟩) (hc:∀b off,a=some ⟨b,off,none⟩->0<n->b<w.heap.size/\∀j u,(cs.flatMap vcells)[j]? =some u->(only (fun k=>B0<=k) w).cell? ⟨b,off+j,none⟩=some u) (hW:uB w W) (i:Nat):Piece W a (if n=0 then 0 else min i n) c ((cs.take i).flatMap vcells):=by
 refine ⟨fun h=> ?_,fun ad h j u hj=> ?_⟩
 .have hn:n=0:=by
   by_cases e:0<n
   .obtain ⟨b,off,e2⟩:=ha e;rw [h] at e2;cases e2
   .omega
  have:cs= [] :=List.eq_nil_of_length_eq_zero (by omega)
  subst this
  exact ⟨by rw [if_pos hn],hz h,by simp⟩
 .have hn:0<n:=by
   have:=(List.getElem?_eq_some_iff.1 hj).1
   rw [Zk vcells 5 (fun _=>rfl),List.length_take] at this
   omega
  obtain ⟨b,off,e⟩:=ha hn
  rw [h] at e
  injection e with e
  subst e
  obtain ⟨hb,hcell⟩:=hc b off h hn
  rw [Zv]
  exact Zb hW (Z1 (hcell j u (zej hj))).2 hb
theorem zb5 {w W:World} {B0:Nat} {l:List V} {b off:Nat} {n:Nat} {cs:List VC} (hcl:cs.length=l.length) (hln:n=l.length) (hc:∀b' off',some (⟨b,off,none⟩:Addr)=some ⟨b',off',none⟩->0<n->b'<w.heap.size/\∀j u,(cs.flatMap vcells)[j]? =some u->(only (fun k=>B0<=k) w).cell? ⟨b',off'+j,none⟩=some u) (hW:uB w W) (i:Nat) (hi:i<=n) (m c':Nat):Piece W (some ⟨b,off+i*5,none⟩) m c' ((cs.drop i).flatMap vcells):=by
 refine ⟨fun h=>by (cases h),fun ad h j u hj=> ?_⟩
 injection h with h
 subst h
 have hn:0<n:=by
  have:=(List.getElem?_eq_some_iff.1 hj).1
  rw [Zk vcells 5 (fun _=>rfl),List.length_drop] at this
  omega
 obtain ⟨hb,hcell⟩:=hc b off rfl hn
 rw [Zv,Nat.add_assoc]
 exact Zb hW (Z1 (hcell _ u (zgc (by omega) hj))).2 hb
theorem zbh (w:World) (ad:Addr) (m c:Nat):Piece w (some ad) m c [] :=⟨fun h=>by (cases h),fun _ _ j u hj=>by simp at hj⟩
set_option maxRecDepth 100000 in
theorem zja (w:World) (B0:Nat) (hB0:B0<=w.heap.size) (l:List V) (a:Option Addr) (hab:a=none) (n c:Nat) (hl:IsVals (only (fun k=>B0<=k) w) w.heap.size l a n c) (hz:a=none->c=0) (i:Nat) (hi:i<=n) (x:V) (cx:VC) (hx:IsVal (only (fun k=>B0<=k) w) w.heap.size x cx) (hfew:n<=1000000000):
 uP 111 #[.slice a n c, .int .i64 i, .agg (uV cx)] w (ListPost w B0 (insL l i x)):=by
 delta uV uP
 obtain ⟨i0,hi0,hz0,hz1,hz2⟩:=info_parts Z9
 have hlen:=hl.len
 have hcap:=hl.cap
 have hmax:=hl.max
 have ha:=hl.at_
 obtain ⟨cs,hcl,hcell,hpv⟩:=hl.cells
 have ha2:0<n->∃b off,a=some ⟨b,off,none⟩:=fun h=>by
  obtain ⟨b,off,_,e,_⟩:=ha
  exact ⟨b,off,(e h).1⟩
 have HP1:Hid (∀W,uB w W->Piece W a i c ((cs.take i).flatMap vcells)):=fun W hW=>by
  have:=Ql hcl hlen hz ha2 hcell hW i
  have e:(if n=0 then 0 else min i n)=i:=by split<;>omega
  rwa [e] at this
 obtain ⟨XA,hXA⟩:∃XA,(cs.take i).flatMap vcells=XA:=⟨_,rfl⟩
 have hla:XA.length=i*5:=by rw [<-hXA,Zk vcells 5 (fun _=>rfl),List.length_take,Nat.min_eq_left (by omega)]
 have HA1:Hid (∀u ∈ XA,u.oneCell'=true):=by unfold Hid;rw [<-hXA];exact Z5 _
 obtain ⟨XB,hXB⟩:∃XB,(cs.drop (i)).flatMap vcells=XB:=⟨_,rfl⟩
 have hlb:XB.length=(n - (i))*5:=by rw [<-hXB,Zk vcells 5 (fun _=>rfl),List.length_drop,hcl, <-hlen]
 have HB1:Hid (∀u ∈ XB,u.oneCell'=true):=by unfold Hid;rw [<-hXB];exact Z5 _
 have hc0:c=0:=hz hab
 have hn0:n=0:=by omega
 have hi00:i=0:=by omega
 have hXBn:XB= [] :=List.eq_nil_of_length_eq_zero (by omega)
 have HP3:Hid (∀W,uB w W->Piece W none 0 0 XB):=fun W _=>⟨fun _=>⟨rfl,rfl,hXBn⟩,fun _ h=>by (cases h)⟩
 rw [hXA] at HP1
 have HBX:=qh (BC.start w (uV cx) 29)
 have HAL:=qh ((Below.refl _ _).alloc (Nat.le_refl _) (.cells (uV cx) 29):uB w _)
 have HX:=qh hx
 have HPV:=qh hpv
 have HCL:=qh hcl
 have HLEN:=qh hlen
 have HXA:=qh hXA
 have HXB:=qh hXB
 obtain ⟨R,hR⟩:∃R,ListPost w B0 (insL l i x)=R:=⟨_,rfl⟩
 rw [hR]
 have HR:=qh hR
 have ho1:(w.alloc (.cells (uV cx) 29)).ownsRow (w.heap.size+1) 29 5 (.slice none 0 0) 0 [] :=⟨rfl, .inl ⟨rfl,rfl⟩⟩
 clear hl ha hcl hcell hpv hlen ha2 hXA hXB hx hR hz
 subst hab
 subst hc0 hn0 hi00
 go_enter Tryz.func111,Tryz.ntmps111
 go_wp2_with (first
  |(at_builtin;refine Zz _ rfl (.tmp 8) (.tmp 11) 26 (by rfl) (w.heap.size+1) 29 i0 _ 5 80 Tryz.underlying26 hi0 hz0 hz1 hz2 rfl (by omega) (.slice none 0 0) 0 [] (by rfl) ho1 none 0 0 XA (by rfl) (HP1.out _ HAL.out) hla HA1.out (by unfold maxLen;omega) (by omega) (by simp) ?_;intro v1 w2 hown1 hgrow1;have b12:Below (w.heap.size+1) (w.alloc _) w2:=Zj hgrow1 (fun k hk=>by simp [Value.ownBlock] at hk) (by simp);have BX2:=HBX.out.keep b12 (by omega);obtain ⟨x0,x1,x2,x3,x4⟩:=row5 BX2.at_;have zs2:=BX2.lt;have HBL2:=qh (HAL.out.trans (b12.mono (by omega)));have hrl:∀g,v1.ownBlock=some g->w.heap.size+1<=g/\g<w2.heap.size:=hown1.lt;have ho2:=hown1.alloc (.cells (uV cx) 29);clear hown1 hgrow1 BX2 b12)
  |(at_builtin;refine Zz _ rfl (.tmp 13) (.tmp 15) 26 (by rfl) (w.heap.size+1) 29 i0 _ 5 80 Tryz.underlying26 hi0 hz0 hz1 hz2 rfl (by omega) v1 (0+0) ([] ++XA) (by rfl) ho2 (some ⟨w2.heap.size,0,none⟩) 1 1 (vcells cx) (by rfl) (Ku w2 cx _) (by rfl) (by simp [vcells,Value.oneCell']) (by unfold maxLen;omega) (by omega) (by simp;omega) ?_;intro v2 w4 hown2 hgrow2;have b24:Below (w.heap.size+1) w2 w4:=(((Below.refl w2.heap.size w2).alloc (Nat.le_refl _) (.cells (uV cx) 29)).mono (by omega)).trans (Zj hgrow2 (fun k hk=>(hrl k hk).1) (by simp;omega));have HBL4:=qh (HBL2.out.trans (b24.mono (by omega)));have zs4:w.heap.size<w4.heap.size:=Nat.lt_of_lt_of_le zs2 b24.size;have hrl2:∀g,v2.ownBlock=some g->w.heap.size+1<=g/\g<w4.heap.size:=hown2.lt;have HO2:=qh hown2;clear hgrow2 b24 hown2)
  |(at_builtin;refine Zz _ rfl (.tmp 17) (.tmp 20) 26 (by rfl) (w.heap.size+1) 29 i0 _ 5 80 Tryz.underlying26 hi0 hz0 hz1 hz2 rfl (by omega) v2 (0+0+1) ([] ++XA++vcells cx) (by rfl) HO2.out none 0 0 XB (by rfl) (HP3.out _ HBL4.out) (by omega) HB1.out (by unfold maxLen;omega) (by omega) (by omega) ?_;intro v3 w5 hown3 hgrow3;have b45:Below (w.heap.size+1) w4 w5:=Zj hgrow3 (fun k hk=>(hrl2 k hk).1) (by omega);have HBL5:=qh (HBL4.out.trans (b45.mono (by omega)));have HO3:=qh hown3;clear hgrow3 b45 hown3))
 rw [<-HR.out]
 have hcat: [] ++XA++vcells cx++XB=(insL cs 0 cx).flatMap vcells:=by rw [<-HXA.out, <-HXB.out];simp [insL]
 have hll:(insL l 0 x).length=0+0+1+0:=by
  rw [insL,List.length_append,List.length_cons,List.length_drop,List.length_take, <-HLEN.out];omega
 have hown:=HO3.out
 rw [hcat, <-hll] at hown
 have hlt3:=hown.lt
 have hsh:Shows (only (fun k=>B0<=k) w) (only (Free B0 v3) w5) w.heap.size:=Ze fun q hq hl=>⟨⟨hq,fun e=>by have:=(hlt3 q e.symm).1;omega⟩,HBL5.out.block q hl⟩
 have hpv:∀k,k<l.length->PV l cs (only (Free B0 v3) w5) w5.heap.size k:=fun k hk=>PV.closed l cs _ _ _ _ k hsh HBL5.out.size (HPV.out k hk)
 obtain ⟨a,n,c,hv,hf,hz⟩:=Xz (B0:=B0) (B1:=w.heap.size+1) hown (by omega) (by rw [insL,insL,List.length_append,List.length_append,List.length_cons,List.length_cons,List.length_take,List.length_take,List.length_drop,List.length_drop,HCL.out])
  (PV.append (by rw [List.length_take,List.length_take,HCL.out]) (PV.take hpv 0) (PV.cons ((HX.out.sub hsh).more HBL5.out.size) (PV.drop hpv 0))) (by rw [hll];omega)
 exact ⟨⟨a,n,c,by rw [hv],hf,hz⟩,HBL5.out⟩
set_option maxRecDepth 100000 in
theorem znl (w:World) (B0:Nat) (hB0:B0<=w.heap.size) (l:List V) (a:Option Addr) (b off:Nat) (hab:a=(some ⟨b,off,none⟩)) (n c:Nat) (hl:IsVals (only (fun k=>B0<=k) w) w.heap.size l a n c) (hz:a=none->c=0) (i:Nat) (hi:i<=n) (x:V) (cx:VC) (hx:IsVal (only (fun k=>B0<=k) w) w.heap.size x cx) (hfew:n<=1000000000) (hic:i=c):
 uP 111 #[.slice a n c, .int .i64 i, .agg (uV cx)] w (ListPost w B0 (insL l i x)):=by
 delta uV uP
 obtain ⟨i0,hi0,hz0,hz1,hz2⟩:=info_parts Z9
 have hlen:=hl.len
 have hcap:=hl.cap
 have hmax:=hl.max
 have ha:=hl.at_
 obtain ⟨cs,hcl,hcell,hpv⟩:=hl.cells
 have ha2:0<n->∃b off,a=some ⟨b,off,none⟩:=fun h=>by
  obtain ⟨b,off,_,e,_⟩:=ha
  exact ⟨b,off,(e h).1⟩
 have HP1:Hid (∀W,uB w W->Piece W a i c ((cs.take i).flatMap vcells)):=fun W hW=>by
  have:=Ql hcl hlen hz ha2 hcell hW i
  have e:(if n=0 then 0 else min i n)=i:=by split<;>omega
  rwa [e] at this
 obtain ⟨XA,hXA⟩:∃XA,(cs.take i).flatMap vcells=XA:=⟨_,rfl⟩
 have hla:XA.length=i*5:=by rw [<-hXA,Zk vcells 5 (fun _=>rfl),List.length_take,Nat.min_eq_left (by omega)]
 have HA1:Hid (∀u ∈ XA,u.oneCell'=true):=by unfold Hid;rw [<-hXA];exact Z5 _
 obtain ⟨XB,hXB⟩:∃XB,(cs.drop (i)).flatMap vcells=XB:=⟨_,rfl⟩
 have hlb:XB.length=(n - (i))*5:=by rw [<-hXB,Zk vcells 5 (fun _=>rfl),List.length_drop,hcl, <-hlen]
 have HB1:Hid (∀u ∈ XB,u.oneCell'=true):=by unfold Hid;rw [<-hXB];exact Z5 _
 have hni:n - i=0:=by omega
 have hXBn:XB= [] :=List.eq_nil_of_length_eq_zero (by omega)
 have HP3:Hid (∀W,uB w W->Piece W (some ⟨b,off,none⟩) 0 0 XB):=fun W _=>by rw [hXBn];exact zbh W _ _ _
 rw [hXA] at HP1
 have HBX:=qh (BC.start w (uV cx) 29)
 have HAL:=qh ((Below.refl _ _).alloc (Nat.le_refl _) (.cells (uV cx) 29):uB w _)
 have HX:=qh hx
 have HPV:=qh hpv
 have HCL:=qh hcl
 have HLEN:=qh hlen
 have HXA:=qh hXA
 have HXB:=qh hXB
 obtain ⟨R,hR⟩:∃R,ListPost w B0 (insL l i x)=R:=⟨_,rfl⟩
 rw [hR]
 have HR:=qh hR
 have ho1:(w.alloc (.cells (uV cx) 29)).ownsRow (w.heap.size+1) 29 5 (.slice none 0 0) 0 [] :=⟨rfl, .inl ⟨rfl,rfl⟩⟩
 clear hl ha hcl hcell hpv hlen ha2 hXA hXB hx hR hz
 subst hab
 cases hic
 go_enter Tryz.func111,Tryz.ntmps111
 go_wp2_with (first
  |(at_builtin;refine Zz _ rfl (.tmp 8) (.tmp 11) 26 (by rfl) (w.heap.size+1) 29 i0 _ 5 80 Tryz.underlying26 hi0 hz0 hz1 hz2 rfl (by omega) (.slice none 0 0) 0 [] (by rfl) ho1 (some ⟨b,off,none⟩) c c XA (by rfl) (HP1.out _ HAL.out) hla HA1.out (by unfold maxLen;omega) (by omega) (by simp) ?_;intro v1 w2 hown1 hgrow1;have b12:Below (w.heap.size+1) (w.alloc _) w2:=Zj hgrow1 (fun k hk=>by simp [Value.ownBlock] at hk) (by simp);have BX2:=HBX.out.keep b12 (by omega);obtain ⟨x0,x1,x2,x3,x4⟩:=row5 BX2.at_;have zs2:=BX2.lt;have HBL2:=qh (HAL.out.trans (b12.mono (by omega)));have hrl:∀g,v1.ownBlock=some g->w.heap.size+1<=g/\g<w2.heap.size:=hown1.lt;have ho2:=hown1.alloc (.cells (uV cx) 29);clear hown1 hgrow1 BX2 b12)
  |(at_builtin;refine Zz _ rfl (.tmp 13) (.tmp 15) 26 (by rfl) (w.heap.size+1) 29 i0 _ 5 80 Tryz.underlying26 hi0 hz0 hz1 hz2 rfl (by omega) v1 (0+c) ([] ++XA) (by rfl) ho2 (some ⟨w2.heap.size,0,none⟩) 1 1 (vcells cx) (by rfl) (Ku w2 cx _) (by rfl) (by simp [vcells,Value.oneCell']) (by unfold maxLen;omega) (by omega) (by simp;omega) ?_;intro v2 w4 hown2 hgrow2;have b24:Below (w.heap.size+1) w2 w4:=(((Below.refl w2.heap.size w2).alloc (Nat.le_refl _) (.cells (uV cx) 29)).mono (by omega)).trans (Zj hgrow2 (fun k hk=>(hrl k hk).1) (by simp;omega));have HBL4:=qh (HBL2.out.trans (b24.mono (by omega)));have zs4:w.heap.size<w4.heap.size:=Nat.lt_of_lt_of_le zs2 b24.size;have hrl2:∀g,v2.ownBlock=some g->w.heap.size+1<=g/\g<w4.heap.size:=hown2.lt;have HO2:=qh hown2;clear hgrow2 b24 hown2)
  |(at_builtin;refine Zz _ rfl (.tmp 17) (.tmp 20) 26 (by rfl) (w.heap.size+1) 29 i0 _ 5 80 Tryz.underlying26 hi0 hz0 hz1 hz2 rfl (by omega) v2 (0+c+1) ([] ++XA++vcells cx) (by rfl) HO2.out (some ⟨b,off,none⟩) 0 0 XB (by rfl) (HP3.out _ HBL4.out) (by omega) HB1.out (by unfold maxLen;omega) (by omega) (by omega) ?_;intro v3 w5 hown3 hgrow3;have b45:Below (w.heap.size+1) w4 w5:=Zj hgrow3 (fun k hk=>(hrl2 k hk).1) (by omega);have HBL5:=qh (HBL4.out.trans (b45.mono (by omega)));have HO3:=qh hown3;clear hgrow3 b45 hown3))
 rw [<-HR.out]
 have hcat: [] ++XA++vcells cx++XB=(insL cs c cx).flatMap vcells:=by rw [<-HXA.out, <-HXB.out];simp [insL]
 have hll:(insL l c x).length=0+c+1+0:=by
  rw [insL,List.length_append,List.length_cons,List.length_drop,List.length_take, <-HLEN.out];omega
 have hown:=HO3.out
 rw [hcat, <-hll] at hown
 have hlt3:=hown.lt
 have hsh:Shows (only (fun k=>B0<=k) w) (only (Free B0 v3) w5) w.heap.size:=Ze fun q hq hl=>⟨⟨hq,fun e=>by have:=(hlt3 q e.symm).1;omega⟩,HBL5.out.block q hl⟩
 have hpv:∀k,k<l.length->PV l cs (only (Free B0 v3) w5) w5.heap.size k:=fun k hk=>PV.closed l cs _ _ _ _ k hsh HBL5.out.size (HPV.out k hk)
 obtain ⟨a,n,c,hv,hf,hz⟩:=Xz (B0:=B0) (B1:=w.heap.size+1) hown (by omega) (by rw [insL,insL,List.length_append,List.length_append,List.length_cons,List.length_cons,List.length_take,List.length_take,List.length_drop,List.length_drop,HCL.out])
  (PV.append (by rw [List.length_take,List.length_take,HCL.out]) (PV.take hpv c) (PV.cons ((HX.out.sub hsh).more HBL5.out.size) (PV.drop hpv c))) (by rw [hll];omega)
 exact ⟨⟨a,n,c,by rw [hv],hf,hz⟩,HBL5.out⟩
set_option maxRecDepth 100000 in
theorem zd1 (w:World) (B0:Nat) (hB0:B0<=w.heap.size) (l:List V) (a:Option Addr) (b off:Nat) (hab:a=(some ⟨b,off,none⟩)) (n c:Nat) (hl:IsVals (only (fun k=>B0<=k) w) w.heap.size l a n c) (hz:a=none->c=0) (i:Nat) (hi:i<=n) (x:V) (cx:VC) (hx:IsVal (only (fun k=>B0<=k) w) w.heap.size x cx) (hfew:n<=1000000000) (hic:i<c):
 uP 111 #[.slice a n c, .int .i64 i, .agg (uV cx)] w (ListPost w B0 (insL l i x)):=by
 delta uV uP
 obtain ⟨i0,hi0,hz0,hz1,hz2⟩:=info_parts Z9
 have hlen:=hl.len
 have hcap:=hl.cap
 have hmax:=hl.max
 have ha:=hl.at_
 obtain ⟨cs,hcl,hcell,hpv⟩:=hl.cells
 have ha2:0<n->∃b off,a=some ⟨b,off,none⟩:=fun h=>by
  obtain ⟨b,off,_,e,_⟩:=ha
  exact ⟨b,off,(e h).1⟩
 have HP1:Hid (∀W,uB w W->Piece W a i c ((cs.take i).flatMap vcells)):=fun W hW=>by
  have:=Ql hcl hlen hz ha2 hcell hW i
  have e:(if n=0 then 0 else min i n)=i:=by split<;>omega
  rwa [e] at this
 obtain ⟨XA,hXA⟩:∃XA,(cs.take i).flatMap vcells=XA:=⟨_,rfl⟩
 have hla:XA.length=i*5:=by rw [<-hXA,Zk vcells 5 (fun _=>rfl),List.length_take,Nat.min_eq_left (by omega)]
 have HA1:Hid (∀u ∈ XA,u.oneCell'=true):=by unfold Hid;rw [<-hXA];exact Z5 _
 obtain ⟨XB,hXB⟩:∃XB,(cs.drop (i)).flatMap vcells=XB:=⟨_,rfl⟩
 have hlb:XB.length=(n - (i))*5:=by rw [<-hXB,Zk vcells 5 (fun _=>rfl),List.length_drop,hcl, <-hlen]
 have HB1:Hid (∀u ∈ XB,u.oneCell'=true):=by unfold Hid;rw [<-hXB];exact Z5 _
 have HP3:Hid (∀W,uB w W->Piece W (some ⟨b,off+i*5,none⟩) (n - i) (c - i) XB):=fun W hW=>by rw [<-hXB];subst hab;exact zb5 hcl hlen hcell hW i hi _ _
 rw [hXA] at HP1
 have HBX:=qh (BC.start w (uV cx) 29)
 have HAL:=qh ((Below.refl _ _).alloc (Nat.le_refl _) (.cells (uV cx) 29):uB w _)
 have HX:=qh hx
 have HPV:=qh hpv
 have HCL:=qh hcl
 have HLEN:=qh hlen
 have HXA:=qh hXA
 have HXB:=qh hXB
 obtain ⟨R,hR⟩:∃R,ListPost w B0 (insL l i x)=R:=⟨_,rfl⟩
 rw [hR]
 have HR:=qh hR
 have ho1:(w.alloc (.cells (uV cx) 29)).ownsRow (w.heap.size+1) 29 5 (.slice none 0 0) 0 [] :=⟨rfl, .inl ⟨rfl,rfl⟩⟩
 clear hl ha hcl hcell hpv hlen ha2 hXA hXB hx hR hz
 subst hab
 go_enter Tryz.func111,Tryz.ntmps111
 go_wp2_with (first
  |(at_builtin;refine Zz _ rfl (.tmp 8) (.tmp 11) 26 (by rfl) (w.heap.size+1) 29 i0 _ 5 80 Tryz.underlying26 hi0 hz0 hz1 hz2 rfl (by omega) (.slice none 0 0) 0 [] (by rfl) ho1 (some ⟨b,off,none⟩) i c XA (by rfl) (HP1.out _ HAL.out) hla HA1.out (by unfold maxLen;omega) (by omega) (by simp) ?_;intro v1 w2 hown1 hgrow1;have b12:Below (w.heap.size+1) (w.alloc _) w2:=Zj hgrow1 (fun k hk=>by simp [Value.ownBlock] at hk) (by simp);have BX2:=HBX.out.keep b12 (by omega);obtain ⟨x0,x1,x2,x3,x4⟩:=row5 BX2.at_;have zs2:=BX2.lt;have HBL2:=qh (HAL.out.trans (b12.mono (by omega)));have hrl:∀g,v1.ownBlock=some g->w.heap.size+1<=g/\g<w2.heap.size:=hown1.lt;have ho2:=hown1.alloc (.cells (uV cx) 29);clear hown1 hgrow1 BX2 b12)
  |(at_builtin;refine Zz _ rfl (.tmp 13) (.tmp 15) 26 (by rfl) (w.heap.size+1) 29 i0 _ 5 80 Tryz.underlying26 hi0 hz0 hz1 hz2 rfl (by omega) v1 (0+i) ([] ++XA) (by rfl) ho2 (some ⟨w2.heap.size,0,none⟩) 1 1 (vcells cx) (by rfl) (Ku w2 cx _) (by rfl) (by simp [vcells,Value.oneCell']) (by unfold maxLen;omega) (by omega) (by simp;omega) ?_;intro v2 w4 hown2 hgrow2;have b24:Below (w.heap.size+1) w2 w4:=(((Below.refl w2.heap.size w2).alloc (Nat.le_refl _) (.cells (uV cx) 29)).mono (by omega)).trans (Zj hgrow2 (fun k hk=>(hrl k hk).1) (by simp;omega));have HBL4:=qh (HBL2.out.trans (b24.mono (by omega)));have zs4:w.heap.size<w4.heap.size:=Nat.lt_of_lt_of_le zs2 b24.size;have hrl2:∀g,v2.ownBlock=some g->w.heap.size+1<=g/\g<w4.heap.size:=hown2.lt;have HO2:=qh hown2;clear hgrow2 b24 hown2)
  |(at_builtin;refine Zz _ rfl (.tmp 17) (.tmp 20) 26 (by rfl) (w.heap.size+1) 29 i0 _ 5 80 Tryz.underlying26 hi0 hz0 hz1 hz2 rfl (by omega) v2 (0+i+1) ([] ++XA++vcells cx) (by rfl) HO2.out (some ⟨b,off+i*5,none⟩) (n - i) (c - i) XB (by rfl) (HP3.out _ HBL4.out) (by omega) HB1.out (by unfold maxLen;omega) (by omega) (by omega) ?_;intro v3 w5 hown3 hgrow3;have b45:Below (w.heap.size+1) w4 w5:=Zj hgrow3 (fun k hk=>(hrl2 k hk).1) (by omega);have HBL5:=qh (HBL4.out.trans (b45.mono (by omega)));have HO3:=qh hown3;clear hgrow3 b45 hown3))
 rw [<-HR.out]
 have hcat: [] ++XA++vcells cx++XB=(insL cs i cx).flatMap vcells:=by rw [<-HXA.out, <-HXB.out];simp [insL]
 have hll:(insL l i x).length=0+i+1+(n - i):=by
  rw [insL,List.length_append,List.length_cons,List.length_drop,List.length_take, <-HLEN.out];omega
 have hown:=HO3.out
 rw [hcat, <-hll] at hown
 have hlt3:=hown.lt
 have hsh:Shows (only (fun k=>B0<=k) w) (only (Free B0 v3) w5) w.heap.size:=Ze fun q hq hl=>⟨⟨hq,fun e=>by have:=(hlt3 q e.symm).1;omega⟩,HBL5.out.block q hl⟩
 have hpv:∀k,k<l.length->PV l cs (only (Free B0 v3) w5) w5.heap.size k:=fun k hk=>PV.closed l cs _ _ _ _ k hsh HBL5.out.size (HPV.out k hk)
 obtain ⟨a,n,c,hv,hf,hz⟩:=Xz (B0:=B0) (B1:=w.heap.size+1) hown (by omega) (by rw [insL,insL,List.length_append,List.length_append,List.length_cons,List.length_cons,List.length_take,List.length_take,List.length_drop,List.length_drop,HCL.out])
  (PV.append (by rw [List.length_take,List.length_take,HCL.out]) (PV.take hpv i) (PV.cons ((HX.out.sub hsh).more HBL5.out.size) (PV.drop hpv i))) (by rw [hll];omega)
 exact ⟨⟨a,n,c,by rw [hv],hf,hz⟩,HBL5.out⟩
theorem zbu (w:World) (B0:Nat) (hB0:B0<=w.heap.size) (l:List V) (a:Option Addr) (n c:Nat) (hl:IsVals (only (fun k=>B0<=k) w) w.heap.size l a n c) (hz:Neat2 a c) (i:Nat) (hi:i<=n) (x:V) (xk xn:Int) (xs:ByteArray) (xa:Option Addr) (xl xc:Nat) (ya:Option Addr) (yl yc:Nat) (hx:IsVal (only (fun k=>B0<=k) w) w.heap.size x ⟨xk,xn,xs,xa,xl,xc,ya,yl,yc⟩) (hfew:n<=1000000000):
 uP 111 #[.slice a n c, .int .i64 i, .agg (uU xk xn xs xa xl xc ya yl yc)] w (ListPost w B0 (insL l i x)):=by
 delta uU uP
 have hcap:=hl.cap
 rcases hz with ⟨ha,hc⟩|⟨b,off,ha⟩
 .exact zja w B0 hB0 l a ha n c hl (fun _=>hc) i hi x ⟨xk,xn,xs,xa,xl,xc,ya,yl,yc⟩ hx hfew
 .by_cases hic:i=c
  .exact znl w B0 hB0 l a b off ha n c hl (fun h=>by rw [ha] at h;cases h) i hi x ⟨xk,xn,xs,xa,xl,xc,ya,yl,yc⟩ hx hfew hic
  .exact zd1 w B0 hB0 l a b off ha n c hl (fun h=>by rw [ha] at h;cases h) i hi x ⟨xk,xn,xs,xa,xl,xc,ya,yl,yc⟩ hx hfew (by omega)
set_option maxRecDepth 100000 in
theorem zgk (w:World) (B0:Nat) (hB0:B0<=w.heap.size) (l:List V) (a:Option Addr) (b off:Nat) (hab:a=some ⟨b,off,none⟩) (n c:Nat) (hl:IsVals (only (fun k=>B0<=k) w) w.heap.size l a n c) (hz:a=none->c=0) (i:Nat) (hi:i<n) (hfew:n<=1000000000) (hic:i+1=c):
 uP 112 #[.slice a n c, .int .i64 i] w (ListPost w B0 (remL l i)):=by
 delta uP
 have hwr:IntKind.i64.wrap ((i:Int)+1)=((i+1:Nat):Int):=by rw [IntWalk.i64_in _ (by omega)];omega
 obtain ⟨i0,hi0,hz0,hz1,hz2⟩:=info_parts Z9
 have hlen:=hl.len
 have hcap:=hl.cap
 have hmax:=hl.max
 have ha:=hl.at_
 obtain ⟨cs,hcl,hcell,hpv⟩:=hl.cells
 have ha2:0<n->∃b off,a=some ⟨b,off,none⟩:=fun h=>by
  obtain ⟨b,off,_,e,_⟩:=ha
  exact ⟨b,off,(e h).1⟩
 have HP1:Hid (∀W,uB w W->Piece W a i c ((cs.take i).flatMap vcells)):=fun W hW=>by
  have:=Ql hcl hlen hz ha2 hcell hW i
  have e:(if n=0 then 0 else min i n)=i:=by split<;>omega
  rwa [e] at this
 obtain ⟨XA,hXA⟩:∃XA,(cs.take i).flatMap vcells=XA:=⟨_,rfl⟩
 have hla:XA.length=i*5:=by rw [<-hXA,Zk vcells 5 (fun _=>rfl),List.length_take,Nat.min_eq_left (by omega)]
 have HA1:Hid (∀u ∈ XA,u.oneCell'=true):=by unfold Hid;rw [<-hXA];exact Z5 _
 obtain ⟨XB,hXB⟩:∃XB,(cs.drop (i+1)).flatMap vcells=XB:=⟨_,rfl⟩
 have hlb:XB.length=(n - (i+1))*5:=by rw [<-hXB,Zk vcells 5 (fun _=>rfl),List.length_drop,hcl, <-hlen]
 have HB1:Hid (∀u ∈ XB,u.oneCell'=true):=by unfold Hid;rw [<-hXB];exact Z5 _
 have hni:n - (i+1)=0:=by omega
 have hXBn:XB= [] :=List.eq_nil_of_length_eq_zero (by omega)
 have HP3:Hid (∀W,uB w W->Piece W (some ⟨b,off,none⟩) 0 0 XB):=fun W _=>by rw [hXBn];exact zbh W _ _ _
 rw [hXA] at HP1
 have HPV:=qh hpv
 have HCL:=qh hcl
 have HLEN:=qh hlen
 have HXA:=qh hXA
 have HXB:=qh hXB
 obtain ⟨R,hR⟩:∃R,ListPost w B0 (remL l i)=R:=⟨_,rfl⟩
 rw [hR]
 have HR:=qh hR
 have ho1:w.ownsRow w.heap.size 29 5 (.slice none 0 0) 0 [] :=⟨rfl, .inl ⟨rfl,rfl⟩⟩
 clear hl ha hcl hcell hpv hlen ha2 hXA hXB hR hz
 subst hab
 cases hic
 go_enter Tryz.func112,Tryz.ntmps112
 go_wp2_with (first
  |(at_builtin;refine Zz _ rfl (.tmp 6) (.tmp 9) 26 (by rfl) w.heap.size 29 i0 _ 5 80 Tryz.underlying26 hi0 hz0 hz1 hz2 rfl (by omega) (.slice none 0 0) 0 [] (by rfl) ho1 (some ⟨b,off,none⟩) i (i+1) XA (by rfl) (HP1.out _ (Below.refl _ _)) hla HA1.out (by unfold maxLen;omega) (by omega) (Nat.le_refl _) ?_;intro v1 w2 hown1 hgrow1;have b12:uB w w2:=Zj hgrow1 (fun k hk=>by simp [Value.ownBlock] at hk) (Nat.le_refl _);have HBL2:=qh b12;have zs2:=b12.size;have hrl:∀g,v1.ownBlock=some g->w.heap.size<=g/\g<w2.heap.size:=hown1.lt;have HO1:=qh hown1;clear hown1 hgrow1 b12)
  |(at_builtin;refine Zz _ rfl (.tmp 11) (.tmp 15) 26 (by rfl) w.heap.size 29 i0 _ 5 80 Tryz.underlying26 hi0 hz0 hz1 hz2 rfl (by omega) v1 (0+i) ([] ++XA) (by rfl) HO1.out (some ⟨b,off,none⟩) 0 0 XB (by rfl) (HP3.out _ HBL2.out) (by omega) HB1.out (by unfold maxLen;omega) (by omega) (by omega) ?_;intro v3 w5 hown3 hgrow3;have b45:Below w.heap.size w2 w5:=Zj hgrow3 (fun k hk=>(hrl k hk).1) (by omega);have HBL5:=qh (HBL2.out.trans b45);have HO3:=qh hown3;clear hgrow3 b45 hown3))
 rw [<-HR.out]
 have hcat: [] ++XA++XB=(remL cs i).flatMap vcells:=by rw [<-HXA.out, <-HXB.out];simp [remL]
 have hll:(remL l i).length=0+i+0:=by
  rw [remL,List.length_append,List.length_drop,List.length_take, <-HLEN.out];omega
 have hown:=HO3.out
 rw [hcat, <-hll] at hown
 have hlt3:=hown.lt
 have hsh:Shows (only (fun k=>B0<=k) w) (only (Free B0 v3) w5) w.heap.size:=Ze fun q hq hl=>⟨⟨hq,fun e=>by have:=(hlt3 q e.symm).1;omega⟩,HBL5.out.block q hl⟩
 have hpv:∀k,k<l.length->PV l cs (only (Free B0 v3) w5) w5.heap.size k:=fun k hk=>PV.closed l cs _ _ _ _ k hsh HBL5.out.size (HPV.out k hk)
 obtain ⟨a,n,c,hv,hf,hz⟩:=Xz (B0:=B0) (B1:=w.heap.size) hown (by omega) (by rw [remL,remL,List.length_append,List.length_append,List.length_take,List.length_take,List.length_drop,List.length_drop,HCL.out])
  (PV.append (by rw [List.length_take,List.length_take,HCL.out]) (PV.take hpv i) (PV.drop hpv (i+1))) (by rw [hll];omega)
 exact ⟨⟨a,n,c,by rw [hv];rfl,hf,hz⟩,HBL5.out⟩
set_option maxRecDepth 100000 in
theorem zlg (w:World) (B0:Nat) (hB0:B0<=w.heap.size) (l:List V) (a:Option Addr) (b off:Nat) (hab:a=some ⟨b,off,none⟩) (n c:Nat) (hl:IsVals (only (fun k=>B0<=k) w) w.heap.size l a n c) (hz:a=none->c=0) (i:Nat) (hi:i<n) (hfew:n<=1000000000) (hic:i+1<c):
 uP 112 #[.slice a n c, .int .i64 i] w (ListPost w B0 (remL l i)):=by
 delta uP
 have hwr:IntKind.i64.wrap ((i:Int)+1)=((i+1:Nat):Int):=by rw [IntWalk.i64_in _ (by omega)];omega
 obtain ⟨i0,hi0,hz0,hz1,hz2⟩:=info_parts Z9
 have hlen:=hl.len
 have hcap:=hl.cap
 have hmax:=hl.max
 have ha:=hl.at_
 obtain ⟨cs,hcl,hcell,hpv⟩:=hl.cells
 have ha2:0<n->∃b off,a=some ⟨b,off,none⟩:=fun h=>by
  obtain ⟨b,off,_,e,_⟩:=ha
  exact ⟨b,off,(e h).1⟩
 have HP1:Hid (∀W,uB w W->Piece W a i c ((cs.take i).flatMap vcells)):=fun W hW=>by
  have:=Ql hcl hlen hz ha2 hcell hW i
  have e:(if n=0 then 0 else min i n)=i:=by split<;>omega
  rwa [e] at this
 obtain ⟨XA,hXA⟩:∃XA,(cs.take i).flatMap vcells=XA:=⟨_,rfl⟩
 have hla:XA.length=i*5:=by rw [<-hXA,Zk vcells 5 (fun _=>rfl),List.length_take,Nat.min_eq_left (by omega)]
 have HA1:Hid (∀u ∈ XA,u.oneCell'=true):=by unfold Hid;rw [<-hXA];exact Z5 _
 obtain ⟨XB,hXB⟩:∃XB,(cs.drop (i+1)).flatMap vcells=XB:=⟨_,rfl⟩
 have hlb:XB.length=(n - (i+1))*5:=by rw [<-hXB,Zk vcells 5 (fun _=>rfl),List.length_drop,hcl, <-hlen]
 have HB1:Hid (∀u ∈ XB,u.oneCell'=true):=by unfold Hid;rw [<-hXB];exact Z5 _
 have HP3:Hid (∀W,uB w W->Piece W (some ⟨b,off+(i+1)*5,none⟩) (n - (i+1)) (c - (i+1)) XB):=fun W hW=>by rw [<-hXB];subst hab;exact zb5 hcl hlen hcell hW (i+1) (by omega) _ _
 rw [hXA] at HP1
 have HPV:=qh hpv
 have HCL:=qh hcl
 have HLEN:=qh hlen
 have HXA:=qh hXA
 have HXB:=qh hXB
 obtain ⟨R,hR⟩:∃R,ListPost w B0 (remL l i)=R:=⟨_,rfl⟩
 rw [hR]
 have HR:=qh hR
 have ho1:w.ownsRow w.heap.size 29 5 (.slice none 0 0) 0 [] :=⟨rfl, .inl ⟨rfl,rfl⟩⟩
 clear hl ha hcl hcell hpv hlen ha2 hXA hXB hR hz
 subst hab
 go_enter Tryz.func112,Tryz.ntmps112
 go_wp2_with (first
  |(at_builtin;refine Zz _ rfl (.tmp 6) (.tmp 9) 26 (by rfl) w.heap.size 29 i0 _ 5 80 Tryz.underlying26 hi0 hz0 hz1 hz2 rfl (by omega) (.slice none 0 0) 0 [] (by rfl) ho1 (some ⟨b,off,none⟩) i c XA (by rfl) (HP1.out _ (Below.refl _ _)) hla HA1.out (by unfold maxLen;omega) (by omega) (Nat.le_refl _) ?_;intro v1 w2 hown1 hgrow1;have b12:uB w w2:=Zj hgrow1 (fun k hk=>by simp [Value.ownBlock] at hk) (Nat.le_refl _);have HBL2:=qh b12;have zs2:=b12.size;have hrl:∀g,v1.ownBlock=some g->w.heap.size<=g/\g<w2.heap.size:=hown1.lt;have HO1:=qh hown1;clear hown1 hgrow1 b12)
  |(at_builtin;refine Zz _ rfl (.tmp 11) (.tmp 15) 26 (by rfl) w.heap.size 29 i0 _ 5 80 Tryz.underlying26 hi0 hz0 hz1 hz2 rfl (by omega) v1 (0+i) ([] ++XA) (by rfl) HO1.out (some ⟨b,off+(i+1)*5,none⟩) (n - (i+1)) (c - (i+1)) XB (by rfl) (HP3.out _ HBL2.out) (by omega) HB1.out (by unfold maxLen;omega) (by omega) (by omega) ?_;intro v3 w5 hown3 hgrow3;have b45:Below w.heap.size w2 w5:=Zj hgrow3 (fun k hk=>(hrl k hk).1) (by omega);have HBL5:=qh (HBL2.out.trans b45);have HO3:=qh hown3;clear hgrow3 b45 hown3))
 rw [<-HR.out]
 have hcat: [] ++XA++XB=(remL cs i).flatMap vcells:=by rw [<-HXA.out, <-HXB.out];simp [remL]
 have hll:(remL l i).length=0+i+(n - (i+1)):=by
  rw [remL,List.length_append,List.length_drop,List.length_take, <-HLEN.out];omega
 have hown:=HO3.out
 rw [hcat, <-hll] at hown
 have hlt3:=hown.lt
 have hsh:Shows (only (fun k=>B0<=k) w) (only (Free B0 v3) w5) w.heap.size:=Ze fun q hq hl=>⟨⟨hq,fun e=>by have:=(hlt3 q e.symm).1;omega⟩,HBL5.out.block q hl⟩
 have hpv:∀k,k<l.length->PV l cs (only (Free B0 v3) w5) w5.heap.size k:=fun k hk=>PV.closed l cs _ _ _ _ k hsh HBL5.out.size (HPV.out k hk)
 obtain ⟨a,n,c,hv,hf,hz⟩:=Xz (B0:=B0) (B1:=w.heap.size) hown (by omega) (by rw [remL,remL,List.length_append,List.length_append,List.length_take,List.length_take,List.length_drop,List.length_drop,HCL.out])
  (PV.append (by rw [List.length_take,List.length_take,HCL.out]) (PV.take hpv i) (PV.drop hpv (i+1))) (by rw [hll];omega)
 exact ⟨⟨a,n,c,by rw [hv];rfl,hf,hz⟩,HBL5.out⟩
theorem zc0 (w:World) (B0:Nat) (hB0:B0<=w.heap.size) (l:List V) (a:Option Addr) (n c:Nat) (hl:IsVals (only (fun k=>B0<=k) w) w.heap.size l a n c) (i:Nat) (hi:i<n) (hfew:n<=1000000000):
 uP 112 #[.slice a n c, .int .i64 i] w (ListPost w B0 (remL l i)):=by
 delta uP
 have hcap:=hl.cap
 obtain ⟨b,off,_,h5,_⟩:=hl.at_
 obtain ⟨ha,_⟩:=h5 (by omega)
 by_cases hic:i+1=c
 .exact zgk w B0 hB0 l a b off ha n c hl (fun h=>by rw [ha] at h;cases h) i hi hfew hic
 .exact zlg w B0 hB0 l a b off ha n c hl (fun h=>by rw [ha] at h;cases h) i hi hfew (by omega)
end Go.Proofs.YtbgheehjfnoiiaaGreatDoor
