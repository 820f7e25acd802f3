/-
  Contracts of the functions that the law reaches: conciliatorref05.with, without. Texts by characters, in plain Lean. reader.comp: what stands in memory while it runs. reader.entry: what stands in memory while it runs. val.Weight: of a value in memory it is the plain function's answer. val.Deep: of a value in memory it is the plain function's answer. conciliatorref03.Put: another one stands at a path. With: the walk, of nothing.
-/
import Derived.Test.YtgcfhkceejcliaaGreatDoorEnc4
import Derived.Lib.MapLaws
namespace Go.Proofs.YtgcfhkceejcliaaGreatDoor
open Go.RowKit
theorem piece_new (w:World) (cx:VC) (t:TypeId):Piece (w.alloc (.cells #[.int .u8 cx.k, .int .i64 cx.n, .string cx.s, .slice cx.la cx.ll cx.lc, .slice cx.oa cx.ol cx.oc] t)) (some ⟨w.heap.size,0,none⟩) 1 1 (vcells cx):=
  ⟨fun h=>by (cases h),fun ad h=>by
    injection h with h
    subst h
    exact World.news_of_block (t:=t) (fr:=(0,0)) (heap_alloc_new w (.cells #[.int .u8 cx.k, .int .i64 cx.n, .string cx.s, .slice cx.la cx.ll cx.lc, .slice cx.oa cx.ol cx.oc] t))⟩
theorem piece_take {w W:World} {B0:Nat} {l:List V} {a:Option Addr} {n c:Nat} {cs:List VC} (hcl:cs.length=l.length) (hln:n=l.length) (hz:a=none→c=0) (ha:0<n→∃b off,a=some ⟨b,off,none⟩) (hc:∀b off,a=some ⟨b,off,none⟩→0<n→b<w.heap.size∧∀j u,(cs.flatMap vcells)[j]? =some u→(only (fun k=>B0≤k) w).cell? ⟨b,off+j,none⟩=some u) (hW:Below w.heap.size w W) (i:Nat):Piece W a (if n=0 then 0 else min i n) c ((cs.take i).flatMap vcells):=by
  refine ⟨fun h=> ?_,fun ad h j u hj=> ?_⟩
  · have hn:n=0:=by
      by_cases e:0<n
      · obtain ⟨b,off,e2⟩:=ha e;rw [h] at e2;cases e2
      · omega
    have:cs= [] :=List.eq_nil_of_length_eq_zero (by omega)
    subst this
    exact ⟨by rw [if_pos hn],hz h,by simp⟩
  · have hn:0<n:=by
      have:=(List.getElem?_eq_some_iff.1 hj).1
      rw [flat_length vcells 5 (fun _=>rfl),List.length_take] at this
      omega
    obtain ⟨b,off,e⟩:=ha hn
    rw [h] at e
    injection e with e
    subst e
    obtain ⟨hb,hcell⟩:=hc b off h hn
    rw [add_at]
    exact keep_cell hW (only_cell (hcell j u (vflat_take hj))).2 hb
theorem piece_drop {w W:World} {B0:Nat} {l:List V} {b off:Nat} {n:Nat} {cs:List VC} (hcl:cs.length=l.length) (hln:n=l.length) (hc:∀b' off',some (⟨b,off,none⟩:Addr)=some ⟨b',off',none⟩→0<n→b'<w.heap.size∧∀j u,(cs.flatMap vcells)[j]? =some u→(only (fun k=>B0≤k) w).cell? ⟨b',off'+j,none⟩=some u) (hW:Below w.heap.size w W) (i:Nat) (hi:i≤n) (m c':Nat):Piece W (some ⟨b,off+i*5,none⟩) m c' ((cs.drop i).flatMap vcells):=by
  refine ⟨fun h=>by (cases h),fun ad h j u hj=> ?_⟩
  injection h with h
  subst h
  have hn:0<n:=by
    have:=(List.getElem?_eq_some_iff.1 hj).1
    rw [flat_length vcells 5 (fun _=>rfl),List.length_drop] at this
    omega
  obtain ⟨hb,hcell⟩:=hc b off rfl hn
  rw [add_at,Nat.add_assoc]
  exact keep_cell hW (only_cell (hcell _ u (vflat_drop (by omega) hj))).2 hb
theorem piece_nil (w:World) (ad:Addr) (m c:Nat):Piece w (some ad) m c [] :=⟨fun h=>by (cases h),fun _ _ j u hj=>by simp at hj⟩
set_option maxHeartbeats 8000000 in
set_option maxRecDepth 100000 in
theorem with05_N (w:World) (B0:Nat) (hB0:B0≤w.heap.size) (l:List V) (a:Option Addr) (hab:a=none) (n c:Nat) (hl:IsVals (only (fun k=>B0≤k) w) w.heap.size l a n c) (hz:a=none→c=0) (i:Nat) (hi:i≤n) (x:V) (cx:VC) (hx:IsVal (only (fun k=>B0≤k) w) w.heap.size x cx) (hfew:n≤1000000000):
    Calls Tryz.prog 109 #[.slice a n c, .int .i64 i, .agg #[.int .u8 cx.k, .int .i64 cx.n, .string cx.s, .slice cx.la cx.ll cx.lc, .slice cx.oa cx.ol cx.oc]] w (ListPost w B0 (insL l i x)):=by
  obtain ⟨i0,hi0,hz0,hz1,hz2⟩:=info_parts ginfoV
  have hlen:=hl.len
  have hcap:=hl.cap
  have hmax:=hl.max
  have ha:=hl.at_
  obtain ⟨cs,hcl,hcell,hpv⟩:=hl.cells
  have ha2:0<n→∃b off,a=some ⟨b,off,none⟩:=fun h=>by
    obtain ⟨b,off,_,e,_⟩:=ha
    exact ⟨b,off,(e h).1⟩
  have HP1:Hid (∀W,Below w.heap.size w W→Piece W a i c ((cs.take i).flatMap vcells)):=fun W hW=>by
    have:=piece_take hcl hlen hz ha2 hcell hW i
    have e:(if n=0 then 0 else min i n)=i:=by split<;>omega
    rwa [e] at this
  obtain ⟨XA,hXA⟩:∃XA,(cs.take i).flatMap vcells=XA:=⟨_,rfl⟩
  have hla:XA.length=i*5:=by rw [←hXA,flat_length vcells 5 (fun _=>rfl),List.length_take,Nat.min_eq_left (by omega)]
  have HA1:Hid (∀u ∈ XA,u.oneCell'=true):=by unfold Hid;rw [←hXA];exact vcells_one _
  obtain ⟨XB,hXB⟩:∃XB,(cs.drop (i)).flatMap vcells=XB:=⟨_,rfl⟩
  have hlb:XB.length=(n - (i))*5:=by rw [←hXB,flat_length vcells 5 (fun _=>rfl),List.length_drop,hcl, ←hlen]
  have HB1:Hid (∀u ∈ XB,u.oneCell'=true):=by unfold Hid;rw [←hXB];exact vcells_one _
  have hc0:c=0:=hz hab
  have hn0:n=0:=by omega
  have hi00:i=0:=by omega
  have hXBn:XB= [] :=List.eq_nil_of_length_eq_zero (by omega)
  have HP3:Hid (∀W,Below w.heap.size w W→Piece W none 0 0 XB):=fun W _=>⟨fun _=>⟨rfl,rfl,hXBn⟩,fun _ h=>by (cases h)⟩
  rw [hXA] at HP1
  have HBX:=Lib.hid (BC.start w #[.int .u8 cx.k, .int .i64 cx.n, .string cx.s, .slice cx.la cx.ll cx.lc, .slice cx.oa cx.ol cx.oc] 33)
  have HAL:=Lib.hid ((Below.refl _ _).alloc (Nat.le_refl _) (.cells #[.int .u8 cx.k, .int .i64 cx.n, .string cx.s, .slice cx.la cx.ll cx.lc, .slice cx.oa cx.ol cx.oc] 33):Below w.heap.size w _)
  have HX:=Lib.hid hx
  have HPV:=Lib.hid hpv
  have HCL:=Lib.hid hcl
  have HLEN:=Lib.hid hlen
  have HXA:=Lib.hid hXA
  have HXB:=Lib.hid hXB
  obtain ⟨R,hR⟩:∃R,ListPost w B0 (insL l i x)=R:=⟨_,rfl⟩
  rw [hR]
  have HR:=Lib.hid hR
  have ho1:(w.alloc (.cells #[.int .u8 cx.k, .int .i64 cx.n, .string cx.s, .slice cx.la cx.ll cx.lc, .slice cx.oa cx.ol cx.oc] 33)).ownsRow (w.heap.size+1) 33 5 (.slice none 0 0) 0 [] :=⟨rfl, .inl ⟨rfl,rfl⟩⟩
  clear hl ha hcl hcell hpv hlen ha2 hXA hXB hx hR hz
  subst hab
  subst hc0 hn0 hi00
  go_enter Tryz.func109,Tryz.ntmps109
  go_wp2_with (first
    |(at_builtin;refine wpList_append_pc _ rfl (.tmp 8) (.tmp 11) 30 (by rfl) (w.heap.size+1) 33 i0 _ 5 80 Tryz.underlying30 hi0 hz0 hz1 hz2 rfl (by omega) (.slice none 0 0) 0 [] (by rfl) ho1 none 0 0 XA (by rfl) (HP1.out _ HAL.out) hla HA1.out (by unfold maxLen;omega) (by omega) (by simp) ?_;intro v1 w2 hown1 hgrow1;have b12:Below (w.heap.size+1) (w.alloc _) w2:=grown_below hgrow1 (fun k hk=>by simp [Value.ownBlock] at hk) (by simp);have BX2:=HBX.out.keep b12 (by omega);obtain ⟨x0,x1,x2,x3,x4⟩:=row5 BX2.at_;have zs2:=BX2.lt;have HBL2:=Lib.hid (HAL.out.trans (b12.mono (by omega)));have hrl:∀g,v1.ownBlock=some g→w.heap.size+1≤g∧g<w2.heap.size:=hown1.lt;have ho2:=hown1.alloc (.cells #[.int .u8 cx.k, .int .i64 cx.n, .string cx.s, .slice cx.la cx.ll cx.lc, .slice cx.oa cx.ol cx.oc] 33);clear hown1 hgrow1 BX2 b12)
    |(at_builtin;refine wpList_append_pc _ rfl (.tmp 13) (.tmp 15) 30 (by rfl) (w.heap.size+1) 33 i0 _ 5 80 Tryz.underlying30 hi0 hz0 hz1 hz2 rfl (by omega) v1 (0+0) ([] ++XA) (by rfl) ho2 (some ⟨w2.heap.size,0,none⟩) 1 1 (vcells cx) (by rfl) (piece_new w2 cx _) (by rfl) (by simp [vcells,Value.oneCell']) (by unfold maxLen;omega) (by omega) (by simp;omega) ?_;intro v2 w4 hown2 hgrow2;have b24:Below (w.heap.size+1) w2 w4:=(((Below.refl w2.heap.size w2).alloc (Nat.le_refl _) (.cells #[.int .u8 cx.k, .int .i64 cx.n, .string cx.s, .slice cx.la cx.ll cx.lc, .slice cx.oa cx.ol cx.oc] 33)).mono (by omega)).trans (grown_below hgrow2 (fun k hk=>(hrl k hk).1) (by simp;omega));have HBL4:=Lib.hid (HBL2.out.trans (b24.mono (by omega)));have zs4:w.heap.size<w4.heap.size:=Nat.lt_of_lt_of_le zs2 b24.size;have hrl2:∀g,v2.ownBlock=some g→w.heap.size+1≤g∧g<w4.heap.size:=hown2.lt;have HO2:=Lib.hid hown2;clear hgrow2 b24 hown2)
    |(at_builtin;refine wpList_append_pc _ rfl (.tmp 17) (.tmp 20) 30 (by rfl) (w.heap.size+1) 33 i0 _ 5 80 Tryz.underlying30 hi0 hz0 hz1 hz2 rfl (by omega) v2 (0+0+1) ([] ++XA++vcells cx) (by rfl) HO2.out none 0 0 XB (by rfl) (HP3.out _ HBL4.out) (by omega) HB1.out (by unfold maxLen;omega) (by omega) (by omega) ?_;intro v3 w5 hown3 hgrow3;have b45:Below (w.heap.size+1) w4 w5:=grown_below hgrow3 (fun k hk=>(hrl2 k hk).1) (by omega);have HBL5:=Lib.hid (HBL4.out.trans (b45.mono (by omega)));have HO3:=Lib.hid hown3;clear hgrow3 b45 hown3))
  rw [←HR.out]
  have hcat: [] ++XA++vcells cx++XB=(insL cs 0 cx).flatMap vcells:=by rw [←HXA.out, ←HXB.out];simp [insL]
  have hll:(insL l 0 x).length=0+0+1+0:=by
    rw [insL,List.length_append,List.length_cons,List.length_drop,List.length_take, ←HLEN.out];omega
  have hown:=HO3.out
  rw [hcat, ←hll] at hown
  have hlt3:=hown.lt
  have hsh:Shows (only (fun k=>B0≤k) w) (only (Free B0 v3) w5) w.heap.size:=shows_step fun q hq hl=>⟨⟨hq,fun e=>by have:=(hlt3 q e.symm).1;omega⟩,HBL5.out.block q hl⟩
  have hpv:∀k,k<l.length→PV l cs (only (Free B0 v3) w5) w5.heap.size k:=fun k hk=>PV.closed l cs _ _ _ _ k hsh HBL5.out.size (HPV.out k hk)
  obtain ⟨a,n,c,hv,hf,hz⟩:=isVals_of_own (B0:=B0) (B1:=w.heap.size+1) hown (by omega) (by rw [insL,insL,List.length_append,List.length_append,List.length_cons,List.length_cons,List.length_take,List.length_take,List.length_drop,List.length_drop,HCL.out])
    (PV.append (by rw [List.length_take,List.length_take,HCL.out]) (PV.take hpv 0) (PV.cons ((HX.out.sub hsh).more HBL5.out.size) (PV.drop hpv 0))) (by rw [hll];omega)
  exact ⟨⟨a,n,c,by rw [hv],hf,hz⟩,HBL5.out⟩
set_option maxHeartbeats 8000000 in
set_option maxRecDepth 100000 in
theorem with05_E (w:World) (B0:Nat) (hB0:B0≤w.heap.size) (l:List V) (a:Option Addr) (b off:Nat) (hab:a=(some ⟨b,off,none⟩)) (n c:Nat) (hl:IsVals (only (fun k=>B0≤k) w) w.heap.size l a n c) (hz:a=none→c=0) (i:Nat) (hi:i≤n) (x:V) (cx:VC) (hx:IsVal (only (fun k=>B0≤k) w) w.heap.size x cx) (hfew:n≤1000000000) (hic:i=c):
    Calls Tryz.prog 109 #[.slice a n c, .int .i64 i, .agg #[.int .u8 cx.k, .int .i64 cx.n, .string cx.s, .slice cx.la cx.ll cx.lc, .slice cx.oa cx.ol cx.oc]] w (ListPost w B0 (insL l i x)):=by
  obtain ⟨i0,hi0,hz0,hz1,hz2⟩:=info_parts ginfoV
  have hlen:=hl.len
  have hcap:=hl.cap
  have hmax:=hl.max
  have ha:=hl.at_
  obtain ⟨cs,hcl,hcell,hpv⟩:=hl.cells
  have ha2:0<n→∃b off,a=some ⟨b,off,none⟩:=fun h=>by
    obtain ⟨b,off,_,e,_⟩:=ha
    exact ⟨b,off,(e h).1⟩
  have HP1:Hid (∀W,Below w.heap.size w W→Piece W a i c ((cs.take i).flatMap vcells)):=fun W hW=>by
    have:=piece_take hcl hlen hz ha2 hcell hW i
    have e:(if n=0 then 0 else min i n)=i:=by split<;>omega
    rwa [e] at this
  obtain ⟨XA,hXA⟩:∃XA,(cs.take i).flatMap vcells=XA:=⟨_,rfl⟩
  have hla:XA.length=i*5:=by rw [←hXA,flat_length vcells 5 (fun _=>rfl),List.length_take,Nat.min_eq_left (by omega)]
  have HA1:Hid (∀u ∈ XA,u.oneCell'=true):=by unfold Hid;rw [←hXA];exact vcells_one _
  obtain ⟨XB,hXB⟩:∃XB,(cs.drop (i)).flatMap vcells=XB:=⟨_,rfl⟩
  have hlb:XB.length=(n - (i))*5:=by rw [←hXB,flat_length vcells 5 (fun _=>rfl),List.length_drop,hcl, ←hlen]
  have HB1:Hid (∀u ∈ XB,u.oneCell'=true):=by unfold Hid;rw [←hXB];exact vcells_one _
  have hni:n - i=0:=by omega
  have hXBn:XB= [] :=List.eq_nil_of_length_eq_zero (by omega)
  have HP3:Hid (∀W,Below w.heap.size w W→Piece W (some ⟨b,off,none⟩) 0 0 XB):=fun W _=>by rw [hXBn];exact piece_nil W _ _ _
  rw [hXA] at HP1
  have HBX:=Lib.hid (BC.start w #[.int .u8 cx.k, .int .i64 cx.n, .string cx.s, .slice cx.la cx.ll cx.lc, .slice cx.oa cx.ol cx.oc] 33)
  have HAL:=Lib.hid ((Below.refl _ _).alloc (Nat.le_refl _) (.cells #[.int .u8 cx.k, .int .i64 cx.n, .string cx.s, .slice cx.la cx.ll cx.lc, .slice cx.oa cx.ol cx.oc] 33):Below w.heap.size w _)
  have HX:=Lib.hid hx
  have HPV:=Lib.hid hpv
  have HCL:=Lib.hid hcl
  have HLEN:=Lib.hid hlen
  have HXA:=Lib.hid hXA
  have HXB:=Lib.hid hXB
  obtain ⟨R,hR⟩:∃R,ListPost w B0 (insL l i x)=R:=⟨_,rfl⟩
  rw [hR]
  have HR:=Lib.hid hR
  have ho1:(w.alloc (.cells #[.int .u8 cx.k, .int .i64 cx.n, .string cx.s, .slice cx.la cx.ll cx.lc, .slice cx.oa cx.ol cx.oc] 33)).ownsRow (w.heap.size+1) 33 5 (.slice none 0 0) 0 [] :=⟨rfl, .inl ⟨rfl,rfl⟩⟩
  clear hl ha hcl hcell hpv hlen ha2 hXA hXB hx hR hz
  subst hab
  cases hic
  go_enter Tryz.func109,Tryz.ntmps109
  go_wp2_with (first
    |(at_builtin;refine wpList_append_pc _ rfl (.tmp 8) (.tmp 11) 30 (by rfl) (w.heap.size+1) 33 i0 _ 5 80 Tryz.underlying30 hi0 hz0 hz1 hz2 rfl (by omega) (.slice none 0 0) 0 [] (by rfl) ho1 (some ⟨b,off,none⟩) c c XA (by rfl) (HP1.out _ HAL.out) hla HA1.out (by unfold maxLen;omega) (by omega) (by simp) ?_;intro v1 w2 hown1 hgrow1;have b12:Below (w.heap.size+1) (w.alloc _) w2:=grown_below hgrow1 (fun k hk=>by simp [Value.ownBlock] at hk) (by simp);have BX2:=HBX.out.keep b12 (by omega);obtain ⟨x0,x1,x2,x3,x4⟩:=row5 BX2.at_;have zs2:=BX2.lt;have HBL2:=Lib.hid (HAL.out.trans (b12.mono (by omega)));have hrl:∀g,v1.ownBlock=some g→w.heap.size+1≤g∧g<w2.heap.size:=hown1.lt;have ho2:=hown1.alloc (.cells #[.int .u8 cx.k, .int .i64 cx.n, .string cx.s, .slice cx.la cx.ll cx.lc, .slice cx.oa cx.ol cx.oc] 33);clear hown1 hgrow1 BX2 b12)
    |(at_builtin;refine wpList_append_pc _ rfl (.tmp 13) (.tmp 15) 30 (by rfl) (w.heap.size+1) 33 i0 _ 5 80 Tryz.underlying30 hi0 hz0 hz1 hz2 rfl (by omega) v1 (0+c) ([] ++XA) (by rfl) ho2 (some ⟨w2.heap.size,0,none⟩) 1 1 (vcells cx) (by rfl) (piece_new w2 cx _) (by rfl) (by simp [vcells,Value.oneCell']) (by unfold maxLen;omega) (by omega) (by simp;omega) ?_;intro v2 w4 hown2 hgrow2;have b24:Below (w.heap.size+1) w2 w4:=(((Below.refl w2.heap.size w2).alloc (Nat.le_refl _) (.cells #[.int .u8 cx.k, .int .i64 cx.n, .string cx.s, .slice cx.la cx.ll cx.lc, .slice cx.oa cx.ol cx.oc] 33)).mono (by omega)).trans (grown_below hgrow2 (fun k hk=>(hrl k hk).1) (by simp;omega));have HBL4:=Lib.hid (HBL2.out.trans (b24.mono (by omega)));have zs4:w.heap.size<w4.heap.size:=Nat.lt_of_lt_of_le zs2 b24.size;have hrl2:∀g,v2.ownBlock=some g→w.heap.size+1≤g∧g<w4.heap.size:=hown2.lt;have HO2:=Lib.hid hown2;clear hgrow2 b24 hown2)
    |(at_builtin;refine wpList_append_pc _ rfl (.tmp 17) (.tmp 20) 30 (by rfl) (w.heap.size+1) 33 i0 _ 5 80 Tryz.underlying30 hi0 hz0 hz1 hz2 rfl (by omega) v2 (0+c+1) ([] ++XA++vcells cx) (by rfl) HO2.out (some ⟨b,off,none⟩) 0 0 XB (by rfl) (HP3.out _ HBL4.out) (by omega) HB1.out (by unfold maxLen;omega) (by omega) (by omega) ?_;intro v3 w5 hown3 hgrow3;have b45:Below (w.heap.size+1) w4 w5:=grown_below hgrow3 (fun k hk=>(hrl2 k hk).1) (by omega);have HBL5:=Lib.hid (HBL4.out.trans (b45.mono (by omega)));have HO3:=Lib.hid hown3;clear hgrow3 b45 hown3))
  rw [←HR.out]
  have hcat: [] ++XA++vcells cx++XB=(insL cs c cx).flatMap vcells:=by rw [←HXA.out, ←HXB.out];simp [insL]
  have hll:(insL l c x).length=0+c+1+0:=by
    rw [insL,List.length_append,List.length_cons,List.length_drop,List.length_take, ←HLEN.out];omega
  have hown:=HO3.out
  rw [hcat, ←hll] at hown
  have hlt3:=hown.lt
  have hsh:Shows (only (fun k=>B0≤k) w) (only (Free B0 v3) w5) w.heap.size:=shows_step fun q hq hl=>⟨⟨hq,fun e=>by have:=(hlt3 q e.symm).1;omega⟩,HBL5.out.block q hl⟩
  have hpv:∀k,k<l.length→PV l cs (only (Free B0 v3) w5) w5.heap.size k:=fun k hk=>PV.closed l cs _ _ _ _ k hsh HBL5.out.size (HPV.out k hk)
  obtain ⟨a,n,c,hv,hf,hz⟩:=isVals_of_own (B0:=B0) (B1:=w.heap.size+1) hown (by omega) (by rw [insL,insL,List.length_append,List.length_append,List.length_cons,List.length_cons,List.length_take,List.length_take,List.length_drop,List.length_drop,HCL.out])
    (PV.append (by rw [List.length_take,List.length_take,HCL.out]) (PV.take hpv c) (PV.cons ((HX.out.sub hsh).more HBL5.out.size) (PV.drop hpv c))) (by rw [hll];omega)
  exact ⟨⟨a,n,c,by rw [hv],hf,hz⟩,HBL5.out⟩
set_option maxHeartbeats 8000000 in
set_option maxRecDepth 100000 in
theorem with05_M (w:World) (B0:Nat) (hB0:B0≤w.heap.size) (l:List V) (a:Option Addr) (b off:Nat) (hab:a=(some ⟨b,off,none⟩)) (n c:Nat) (hl:IsVals (only (fun k=>B0≤k) w) w.heap.size l a n c) (hz:a=none→c=0) (i:Nat) (hi:i≤n) (x:V) (cx:VC) (hx:IsVal (only (fun k=>B0≤k) w) w.heap.size x cx) (hfew:n≤1000000000) (hic:i<c):
    Calls Tryz.prog 109 #[.slice a n c, .int .i64 i, .agg #[.int .u8 cx.k, .int .i64 cx.n, .string cx.s, .slice cx.la cx.ll cx.lc, .slice cx.oa cx.ol cx.oc]] w (ListPost w B0 (insL l i x)):=by
  obtain ⟨i0,hi0,hz0,hz1,hz2⟩:=info_parts ginfoV
  have hlen:=hl.len
  have hcap:=hl.cap
  have hmax:=hl.max
  have ha:=hl.at_
  obtain ⟨cs,hcl,hcell,hpv⟩:=hl.cells
  have ha2:0<n→∃b off,a=some ⟨b,off,none⟩:=fun h=>by
    obtain ⟨b,off,_,e,_⟩:=ha
    exact ⟨b,off,(e h).1⟩
  have HP1:Hid (∀W,Below w.heap.size w W→Piece W a i c ((cs.take i).flatMap vcells)):=fun W hW=>by
    have:=piece_take hcl hlen hz ha2 hcell hW i
    have e:(if n=0 then 0 else min i n)=i:=by split<;>omega
    rwa [e] at this
  obtain ⟨XA,hXA⟩:∃XA,(cs.take i).flatMap vcells=XA:=⟨_,rfl⟩
  have hla:XA.length=i*5:=by rw [←hXA,flat_length vcells 5 (fun _=>rfl),List.length_take,Nat.min_eq_left (by omega)]
  have HA1:Hid (∀u ∈ XA,u.oneCell'=true):=by unfold Hid;rw [←hXA];exact vcells_one _
  obtain ⟨XB,hXB⟩:∃XB,(cs.drop (i)).flatMap vcells=XB:=⟨_,rfl⟩
  have hlb:XB.length=(n - (i))*5:=by rw [←hXB,flat_length vcells 5 (fun _=>rfl),List.length_drop,hcl, ←hlen]
  have HB1:Hid (∀u ∈ XB,u.oneCell'=true):=by unfold Hid;rw [←hXB];exact vcells_one _
  have HP3:Hid (∀W,Below w.heap.size w W→Piece W (some ⟨b,off+i*5,none⟩) (n - i) (c - i) XB):=fun W hW=>by rw [←hXB];subst hab;exact piece_drop hcl hlen hcell hW i hi _ _
  rw [hXA] at HP1
  have HBX:=Lib.hid (BC.start w #[.int .u8 cx.k, .int .i64 cx.n, .string cx.s, .slice cx.la cx.ll cx.lc, .slice cx.oa cx.ol cx.oc] 33)
  have HAL:=Lib.hid ((Below.refl _ _).alloc (Nat.le_refl _) (.cells #[.int .u8 cx.k, .int .i64 cx.n, .string cx.s, .slice cx.la cx.ll cx.lc, .slice cx.oa cx.ol cx.oc] 33):Below w.heap.size w _)
  have HX:=Lib.hid hx
  have HPV:=Lib.hid hpv
  have HCL:=Lib.hid hcl
  have HLEN:=Lib.hid hlen
  have HXA:=Lib.hid hXA
  have HXB:=Lib.hid hXB
  obtain ⟨R,hR⟩:∃R,ListPost w B0 (insL l i x)=R:=⟨_,rfl⟩
  rw [hR]
  have HR:=Lib.hid hR
  have ho1:(w.alloc (.cells #[.int .u8 cx.k, .int .i64 cx.n, .string cx.s, .slice cx.la cx.ll cx.lc, .slice cx.oa cx.ol cx.oc] 33)).ownsRow (w.heap.size+1) 33 5 (.slice none 0 0) 0 [] :=⟨rfl, .inl ⟨rfl,rfl⟩⟩
  clear hl ha hcl hcell hpv hlen ha2 hXA hXB hx hR hz
  subst hab
  go_enter Tryz.func109,Tryz.ntmps109
  go_wp2_with (first
    |(at_builtin;refine wpList_append_pc _ rfl (.tmp 8) (.tmp 11) 30 (by rfl) (w.heap.size+1) 33 i0 _ 5 80 Tryz.underlying30 hi0 hz0 hz1 hz2 rfl (by omega) (.slice none 0 0) 0 [] (by rfl) ho1 (some ⟨b,off,none⟩) i c XA (by rfl) (HP1.out _ HAL.out) hla HA1.out (by unfold maxLen;omega) (by omega) (by simp) ?_;intro v1 w2 hown1 hgrow1;have b12:Below (w.heap.size+1) (w.alloc _) w2:=grown_below hgrow1 (fun k hk=>by simp [Value.ownBlock] at hk) (by simp);have BX2:=HBX.out.keep b12 (by omega);obtain ⟨x0,x1,x2,x3,x4⟩:=row5 BX2.at_;have zs2:=BX2.lt;have HBL2:=Lib.hid (HAL.out.trans (b12.mono (by omega)));have hrl:∀g,v1.ownBlock=some g→w.heap.size+1≤g∧g<w2.heap.size:=hown1.lt;have ho2:=hown1.alloc (.cells #[.int .u8 cx.k, .int .i64 cx.n, .string cx.s, .slice cx.la cx.ll cx.lc, .slice cx.oa cx.ol cx.oc] 33);clear hown1 hgrow1 BX2 b12)
    |(at_builtin;refine wpList_append_pc _ rfl (.tmp 13) (.tmp 15) 30 (by rfl) (w.heap.size+1) 33 i0 _ 5 80 Tryz.underlying30 hi0 hz0 hz1 hz2 rfl (by omega) v1 (0+i) ([] ++XA) (by rfl) ho2 (some ⟨w2.heap.size,0,none⟩) 1 1 (vcells cx) (by rfl) (piece_new w2 cx _) (by rfl) (by simp [vcells,Value.oneCell']) (by unfold maxLen;omega) (by omega) (by simp;omega) ?_;intro v2 w4 hown2 hgrow2;have b24:Below (w.heap.size+1) w2 w4:=(((Below.refl w2.heap.size w2).alloc (Nat.le_refl _) (.cells #[.int .u8 cx.k, .int .i64 cx.n, .string cx.s, .slice cx.la cx.ll cx.lc, .slice cx.oa cx.ol cx.oc] 33)).mono (by omega)).trans (grown_below hgrow2 (fun k hk=>(hrl k hk).1) (by simp;omega));have HBL4:=Lib.hid (HBL2.out.trans (b24.mono (by omega)));have zs4:w.heap.size<w4.heap.size:=Nat.lt_of_lt_of_le zs2 b24.size;have hrl2:∀g,v2.ownBlock=some g→w.heap.size+1≤g∧g<w4.heap.size:=hown2.lt;have HO2:=Lib.hid hown2;clear hgrow2 b24 hown2)
    |(at_builtin;refine wpList_append_pc _ rfl (.tmp 17) (.tmp 20) 30 (by rfl) (w.heap.size+1) 33 i0 _ 5 80 Tryz.underlying30 hi0 hz0 hz1 hz2 rfl (by omega) v2 (0+i+1) ([] ++XA++vcells cx) (by rfl) HO2.out (some ⟨b,off+i*5,none⟩) (n - i) (c - i) XB (by rfl) (HP3.out _ HBL4.out) (by omega) HB1.out (by unfold maxLen;omega) (by omega) (by omega) ?_;intro v3 w5 hown3 hgrow3;have b45:Below (w.heap.size+1) w4 w5:=grown_below hgrow3 (fun k hk=>(hrl2 k hk).1) (by omega);have HBL5:=Lib.hid (HBL4.out.trans (b45.mono (by omega)));have HO3:=Lib.hid hown3;clear hgrow3 b45 hown3))
  rw [←HR.out]
  have hcat: [] ++XA++vcells cx++XB=(insL cs i cx).flatMap vcells:=by rw [←HXA.out, ←HXB.out];simp [insL]
  have hll:(insL l i x).length=0+i+1+(n - i):=by
    rw [insL,List.length_append,List.length_cons,List.length_drop,List.length_take, ←HLEN.out];omega
  have hown:=HO3.out
  rw [hcat, ←hll] at hown
  have hlt3:=hown.lt
  have hsh:Shows (only (fun k=>B0≤k) w) (only (Free B0 v3) w5) w.heap.size:=shows_step fun q hq hl=>⟨⟨hq,fun e=>by have:=(hlt3 q e.symm).1;omega⟩,HBL5.out.block q hl⟩
  have hpv:∀k,k<l.length→PV l cs (only (Free B0 v3) w5) w5.heap.size k:=fun k hk=>PV.closed l cs _ _ _ _ k hsh HBL5.out.size (HPV.out k hk)
  obtain ⟨a,n,c,hv,hf,hz⟩:=isVals_of_own (B0:=B0) (B1:=w.heap.size+1) hown (by omega) (by rw [insL,insL,List.length_append,List.length_append,List.length_cons,List.length_cons,List.length_take,List.length_take,List.length_drop,List.length_drop,HCL.out])
    (PV.append (by rw [List.length_take,List.length_take,HCL.out]) (PV.take hpv i) (PV.cons ((HX.out.sub hsh).more HBL5.out.size) (PV.drop hpv i))) (by rw [hll];omega)
  exact ⟨⟨a,n,c,by rw [hv],hf,hz⟩,HBL5.out⟩
theorem with05_any (w:World) (B0:Nat) (hB0:B0≤w.heap.size) (l:List V) (a:Option Addr) (n c:Nat) (hl:IsVals (only (fun k=>B0≤k) w) w.heap.size l a n c) (hz:Neat2 a c) (i:Nat) (hi:i≤n) (x:V) (xk xn:Int) (xs:ByteArray) (xa:Option Addr) (xl xc:Nat) (ya:Option Addr) (yl yc:Nat) (hx:IsVal (only (fun k=>B0≤k) w) w.heap.size x ⟨xk,xn,xs,xa,xl,xc,ya,yl,yc⟩) (hfew:n≤1000000000):
    Calls Tryz.prog 109 #[.slice a n c, .int .i64 i, .agg #[.int .u8 xk, .int .i64 xn, .string xs, .slice xa xl xc, .slice ya yl yc]] w (ListPost w B0 (insL l i x)):=by
  have hcap:=hl.cap
  rcases hz with ⟨ha,hc⟩|⟨b,off,ha⟩
  · exact with05_N w B0 hB0 l a ha n c hl (fun _=>hc) i hi x ⟨xk,xn,xs,xa,xl,xc,ya,yl,yc⟩ hx hfew
  · by_cases hic:i=c
    · exact with05_E w B0 hB0 l a b off ha n c hl (fun h=>by rw [ha] at h;cases h) i hi x ⟨xk,xn,xs,xa,xl,xc,ya,yl,yc⟩ hx hfew hic
    · exact with05_M w B0 hB0 l a b off ha n c hl (fun h=>by rw [ha] at h;cases h) i hi x ⟨xk,xn,xs,xa,xl,xc,ya,yl,yc⟩ hx hfew (by omega)
set_option maxHeartbeats 8000000 in
set_option maxRecDepth 100000 in
theorem without05_E (w:World) (B0:Nat) (hB0:B0≤w.heap.size) (l:List V) (a:Option Addr) (b off:Nat) (hab:a=some ⟨b,off,none⟩) (n c:Nat) (hl:IsVals (only (fun k=>B0≤k) w) w.heap.size l a n c) (hz:a=none→c=0) (i:Nat) (hi:i<n) (hfew:n≤1000000000) (hic:i+1=c):
    Calls Tryz.prog 110 #[.slice a n c, .int .i64 i] w (ListPost w B0 (remL l i)):=by
  have hwr:IntKind.i64.wrap ((i:Int)+1)=((i+1:Nat):Int):=by rw [IntWalk.i64_in _ (by omega)];omega
  obtain ⟨i0,hi0,hz0,hz1,hz2⟩:=info_parts ginfoV
  have hlen:=hl.len
  have hcap:=hl.cap
  have hmax:=hl.max
  have ha:=hl.at_
  obtain ⟨cs,hcl,hcell,hpv⟩:=hl.cells
  have ha2:0<n→∃b off,a=some ⟨b,off,none⟩:=fun h=>by
    obtain ⟨b,off,_,e,_⟩:=ha
    exact ⟨b,off,(e h).1⟩
  have HP1:Hid (∀W,Below w.heap.size w W→Piece W a i c ((cs.take i).flatMap vcells)):=fun W hW=>by
    have:=piece_take hcl hlen hz ha2 hcell hW i
    have e:(if n=0 then 0 else min i n)=i:=by split<;>omega
    rwa [e] at this
  obtain ⟨XA,hXA⟩:∃XA,(cs.take i).flatMap vcells=XA:=⟨_,rfl⟩
  have hla:XA.length=i*5:=by rw [←hXA,flat_length vcells 5 (fun _=>rfl),List.length_take,Nat.min_eq_left (by omega)]
  have HA1:Hid (∀u ∈ XA,u.oneCell'=true):=by unfold Hid;rw [←hXA];exact vcells_one _
  obtain ⟨XB,hXB⟩:∃XB,(cs.drop (i+1)).flatMap vcells=XB:=⟨_,rfl⟩
  have hlb:XB.length=(n - (i+1))*5:=by rw [←hXB,flat_length vcells 5 (fun _=>rfl),List.length_drop,hcl, ←hlen]
  have HB1:Hid (∀u ∈ XB,u.oneCell'=true):=by unfold Hid;rw [←hXB];exact vcells_one _
  have hni:n - (i+1)=0:=by omega
  have hXBn:XB= [] :=List.eq_nil_of_length_eq_zero (by omega)
  have HP3:Hid (∀W,Below w.heap.size w W→Piece W (some ⟨b,off,none⟩) 0 0 XB):=fun W _=>by rw [hXBn];exact piece_nil W _ _ _
  rw [hXA] at HP1
  have HPV:=Lib.hid hpv
  have HCL:=Lib.hid hcl
  have HLEN:=Lib.hid hlen
  have HXA:=Lib.hid hXA
  have HXB:=Lib.hid hXB
  obtain ⟨R,hR⟩:∃R,ListPost w B0 (remL l i)=R:=⟨_,rfl⟩
  rw [hR]
  have HR:=Lib.hid hR
  have ho1:w.ownsRow w.heap.size 33 5 (.slice none 0 0) 0 [] :=⟨rfl, .inl ⟨rfl,rfl⟩⟩
  clear hl ha hcl hcell hpv hlen ha2 hXA hXB hR hz
  subst hab
  cases hic
  go_enter Tryz.func110,Tryz.ntmps110
  go_wp2_with (first
    |(at_builtin;refine wpList_append_pc _ rfl (.tmp 6) (.tmp 9) 30 (by rfl) w.heap.size 33 i0 _ 5 80 Tryz.underlying30 hi0 hz0 hz1 hz2 rfl (by omega) (.slice none 0 0) 0 [] (by rfl) ho1 (some ⟨b,off,none⟩) i (i+1) XA (by rfl) (HP1.out _ (Below.refl _ _)) hla HA1.out (by unfold maxLen;omega) (by omega) (Nat.le_refl _) ?_;intro v1 w2 hown1 hgrow1;have b12:Below w.heap.size w w2:=grown_below hgrow1 (fun k hk=>by simp [Value.ownBlock] at hk) (Nat.le_refl _);have HBL2:=Lib.hid b12;have zs2:=b12.size;have hrl:∀g,v1.ownBlock=some g→w.heap.size≤g∧g<w2.heap.size:=hown1.lt;have HO1:=Lib.hid hown1;clear hown1 hgrow1 b12)
    |(at_builtin;refine wpList_append_pc _ rfl (.tmp 11) (.tmp 15) 30 (by rfl) w.heap.size 33 i0 _ 5 80 Tryz.underlying30 hi0 hz0 hz1 hz2 rfl (by omega) v1 (0+i) ([] ++XA) (by rfl) HO1.out (some ⟨b,off,none⟩) 0 0 XB (by rfl) (HP3.out _ HBL2.out) (by omega) HB1.out (by unfold maxLen;omega) (by omega) (by omega) ?_;intro v3 w5 hown3 hgrow3;have b45:Below w.heap.size w2 w5:=grown_below hgrow3 (fun k hk=>(hrl k hk).1) (by omega);have HBL5:=Lib.hid (HBL2.out.trans b45);have HO3:=Lib.hid hown3;clear hgrow3 b45 hown3))
  rw [←HR.out]
  have hcat: [] ++XA++XB=(remL cs i).flatMap vcells:=by rw [←HXA.out, ←HXB.out];simp [remL]
  have hll:(remL l i).length=0+i+0:=by
    rw [remL,List.length_append,List.length_drop,List.length_take, ←HLEN.out];omega
  have hown:=HO3.out
  rw [hcat, ←hll] at hown
  have hlt3:=hown.lt
  have hsh:Shows (only (fun k=>B0≤k) w) (only (Free B0 v3) w5) w.heap.size:=shows_step fun q hq hl=>⟨⟨hq,fun e=>by have:=(hlt3 q e.symm).1;omega⟩,HBL5.out.block q hl⟩
  have hpv:∀k,k<l.length→PV l cs (only (Free B0 v3) w5) w5.heap.size k:=fun k hk=>PV.closed l cs _ _ _ _ k hsh HBL5.out.size (HPV.out k hk)
  obtain ⟨a,n,c,hv,hf,hz⟩:=isVals_of_own (B0:=B0) (B1:=w.heap.size) hown (by omega) (by rw [remL,remL,List.length_append,List.length_append,List.length_take,List.length_take,List.length_drop,List.length_drop,HCL.out])
    (PV.append (by rw [List.length_take,List.length_take,HCL.out]) (PV.take hpv i) (PV.drop hpv (i+1))) (by rw [hll];omega)
  exact ⟨⟨a,n,c,by rw [hv];rfl,hf,hz⟩,HBL5.out⟩
set_option maxHeartbeats 8000000 in
set_option maxRecDepth 100000 in
theorem without05_M (w:World) (B0:Nat) (hB0:B0≤w.heap.size) (l:List V) (a:Option Addr) (b off:Nat) (hab:a=some ⟨b,off,none⟩) (n c:Nat) (hl:IsVals (only (fun k=>B0≤k) w) w.heap.size l a n c) (hz:a=none→c=0) (i:Nat) (hi:i<n) (hfew:n≤1000000000) (hic:i+1<c):
    Calls Tryz.prog 110 #[.slice a n c, .int .i64 i] w (ListPost w B0 (remL l i)):=by
  have hwr:IntKind.i64.wrap ((i:Int)+1)=((i+1:Nat):Int):=by rw [IntWalk.i64_in _ (by omega)];omega
  obtain ⟨i0,hi0,hz0,hz1,hz2⟩:=info_parts ginfoV
  have hlen:=hl.len
  have hcap:=hl.cap
  have hmax:=hl.max
  have ha:=hl.at_
  obtain ⟨cs,hcl,hcell,hpv⟩:=hl.cells
  have ha2:0<n→∃b off,a=some ⟨b,off,none⟩:=fun h=>by
    obtain ⟨b,off,_,e,_⟩:=ha
    exact ⟨b,off,(e h).1⟩
  have HP1:Hid (∀W,Below w.heap.size w W→Piece W a i c ((cs.take i).flatMap vcells)):=fun W hW=>by
    have:=piece_take hcl hlen hz ha2 hcell hW i
    have e:(if n=0 then 0 else min i n)=i:=by split<;>omega
    rwa [e] at this
  obtain ⟨XA,hXA⟩:∃XA,(cs.take i).flatMap vcells=XA:=⟨_,rfl⟩
  have hla:XA.length=i*5:=by rw [←hXA,flat_length vcells 5 (fun _=>rfl),List.length_take,Nat.min_eq_left (by omega)]
  have HA1:Hid (∀u ∈ XA,u.oneCell'=true):=by unfold Hid;rw [←hXA];exact vcells_one _
  obtain ⟨XB,hXB⟩:∃XB,(cs.drop (i+1)).flatMap vcells=XB:=⟨_,rfl⟩
  have hlb:XB.length=(n - (i+1))*5:=by rw [←hXB,flat_length vcells 5 (fun _=>rfl),List.length_drop,hcl, ←hlen]
  have HB1:Hid (∀u ∈ XB,u.oneCell'=true):=by unfold Hid;rw [←hXB];exact vcells_one _
  have HP3:Hid (∀W,Below w.heap.size w W→Piece W (some ⟨b,off+(i+1)*5,none⟩) (n - (i+1)) (c - (i+1)) XB):=fun W hW=>by rw [←hXB];subst hab;exact piece_drop hcl hlen hcell hW (i+1) (by omega) _ _
  rw [hXA] at HP1
  have HPV:=Lib.hid hpv
  have HCL:=Lib.hid hcl
  have HLEN:=Lib.hid hlen
  have HXA:=Lib.hid hXA
  have HXB:=Lib.hid hXB
  obtain ⟨R,hR⟩:∃R,ListPost w B0 (remL l i)=R:=⟨_,rfl⟩
  rw [hR]
  have HR:=Lib.hid hR
  have ho1:w.ownsRow w.heap.size 33 5 (.slice none 0 0) 0 [] :=⟨rfl, .inl ⟨rfl,rfl⟩⟩
  clear hl ha hcl hcell hpv hlen ha2 hXA hXB hR hz
  subst hab
  go_enter Tryz.func110,Tryz.ntmps110
  go_wp2_with (first
    |(at_builtin;refine wpList_append_pc _ rfl (.tmp 6) (.tmp 9) 30 (by rfl) w.heap.size 33 i0 _ 5 80 Tryz.underlying30 hi0 hz0 hz1 hz2 rfl (by omega) (.slice none 0 0) 0 [] (by rfl) ho1 (some ⟨b,off,none⟩) i c XA (by rfl) (HP1.out _ (Below.refl _ _)) hla HA1.out (by unfold maxLen;omega) (by omega) (Nat.le_refl _) ?_;intro v1 w2 hown1 hgrow1;have b12:Below w.heap.size w w2:=grown_below hgrow1 (fun k hk=>by simp [Value.ownBlock] at hk) (Nat.le_refl _);have HBL2:=Lib.hid b12;have zs2:=b12.size;have hrl:∀g,v1.ownBlock=some g→w.heap.size≤g∧g<w2.heap.size:=hown1.lt;have HO1:=Lib.hid hown1;clear hown1 hgrow1 b12)
    |(at_builtin;refine wpList_append_pc _ rfl (.tmp 11) (.tmp 15) 30 (by rfl) w.heap.size 33 i0 _ 5 80 Tryz.underlying30 hi0 hz0 hz1 hz2 rfl (by omega) v1 (0+i) ([] ++XA) (by rfl) HO1.out (some ⟨b,off+(i+1)*5,none⟩) (n - (i+1)) (c - (i+1)) XB (by rfl) (HP3.out _ HBL2.out) (by omega) HB1.out (by unfold maxLen;omega) (by omega) (by omega) ?_;intro v3 w5 hown3 hgrow3;have b45:Below w.heap.size w2 w5:=grown_below hgrow3 (fun k hk=>(hrl k hk).1) (by omega);have HBL5:=Lib.hid (HBL2.out.trans b45);have HO3:=Lib.hid hown3;clear hgrow3 b45 hown3))
  rw [←HR.out]
  have hcat: [] ++XA++XB=(remL cs i).flatMap vcells:=by rw [←HXA.out, ←HXB.out];simp [remL]
  have hll:(remL l i).length=0+i+(n - (i+1)):=by
    rw [remL,List.length_append,List.length_drop,List.length_take, ←HLEN.out];omega
  have hown:=HO3.out
  rw [hcat, ←hll] at hown
  have hlt3:=hown.lt
  have hsh:Shows (only (fun k=>B0≤k) w) (only (Free B0 v3) w5) w.heap.size:=shows_step fun q hq hl=>⟨⟨hq,fun e=>by have:=(hlt3 q e.symm).1;omega⟩,HBL5.out.block q hl⟩
  have hpv:∀k,k<l.length→PV l cs (only (Free B0 v3) w5) w5.heap.size k:=fun k hk=>PV.closed l cs _ _ _ _ k hsh HBL5.out.size (HPV.out k hk)
  obtain ⟨a,n,c,hv,hf,hz⟩:=isVals_of_own (B0:=B0) (B1:=w.heap.size) hown (by omega) (by rw [remL,remL,List.length_append,List.length_append,List.length_take,List.length_take,List.length_drop,List.length_drop,HCL.out])
    (PV.append (by rw [List.length_take,List.length_take,HCL.out]) (PV.take hpv i) (PV.drop hpv (i+1))) (by rw [hll];omega)
  exact ⟨⟨a,n,c,by rw [hv];rfl,hf,hz⟩,HBL5.out⟩
theorem without05_any (w:World) (B0:Nat) (hB0:B0≤w.heap.size) (l:List V) (a:Option Addr) (n c:Nat) (hl:IsVals (only (fun k=>B0≤k) w) w.heap.size l a n c) (i:Nat) (hi:i<n) (hfew:n≤1000000000):
    Calls Tryz.prog 110 #[.slice a n c, .int .i64 i] w (ListPost w B0 (remL l i)):=by
  have hcap:=hl.cap
  obtain ⟨b,off,_,h5,_⟩:=hl.at_
  obtain ⟨ha,_⟩:=h5 (by omega)
  by_cases hic:i+1=c
  · exact without05_E w B0 hB0 l a b off ha n c hl (fun h=>by rw [ha] at h;cases h) i hi hfew hic
  · exact without05_M w B0 hB0 l a b off ha n c hl (fun h=>by rw [ha] at h;cases h) i hi hfew (by omega)
end Go.Proofs.YtgcfhkceejcliaaGreatDoor
namespace Go.Proofs.YtgcfhkceejcliaaGreatDoor
open Go.RowKit
def cutsP:Nat→Nat→List UInt8→List Nat
  |0,_,_=> []
  |f+1,i,l=>if l= [] then [] else i::cutsP f (i+(Lib.decodeL l).2) (l.drop (Lib.decodeL l).2)
def cuts (s:ByteArray):List Nat:=cutsP s.size 0 s.data.toList++ [s.size]
def textN (s:ByteArray):Nat:=(cuts s).length - 1
theorem cutsP_more (f:Nat):∀(g i:Nat) (l:List UInt8),l.length≤f→f≤g→cutsP g i l=cutsP f i l:=by
  induction f with
  | zero=>
    intro g i l hl _
    have:l= [] :=List.length_eq_zero_iff.1 (by omega)
    subst this
    cases g<;>simp [cutsP]
  | succ f ih=>
    intro g i l hl hg
    obtain ⟨g',rfl⟩:∃g',g=g'+1:=⟨g - 1,by omega⟩
    unfold cutsP
    by_cases h:l= []
    · simp [h]
    · rw [if_neg h,if_neg h]
      have:=Lib.decodeL_width l
      rw [ih g' _ _ (by rw [List.length_drop];omega) (by omega)]
theorem cutsP_step {l:List UInt8} (h:l≠ []) (i:Nat):cutsP l.length i l=i::cutsP (l.drop (Lib.decodeL l).2).length (i+(Lib.decodeL l).2) (l.drop (Lib.decodeL l).2):=by
  obtain ⟨m,hm⟩:∃m,l.length=m+1:=⟨l.length - 1,by have:=List.length_pos_iff.2 h;omega⟩
  rw [hm,cutsP,if_neg h]
  have:=Lib.decodeL_width l
  rw [cutsP_more _ m _ _ (Nat.le_refl _) (by rw [List.length_drop];omega)]
theorem cutsP_len (f:Nat):∀(i:Nat) (l:List UInt8),(cutsP f i l).length≤l.length:=by
  induction f with
  |zero=>intro i l;simp [cutsP]
  | succ f ih=>
    intro i l
    unfold cutsP
    split
    · simp
    · rename_i h
      have:=ih (i+(Lib.decodeL l).2) (l.drop (Lib.decodeL l).2)
      have h1:=Lib.decodeL_width l
      have h2:=List.length_pos_iff.2 h
      rw [List.length_drop] at this
      rw [List.length_cons];omega
theorem cutsP_range (f:Nat):∀(i:Nat) (l:List UInt8),∀x ∈ cutsP f i l,i≤x∧x≤i+l.length:=by
  induction f with
  |zero=>intro i l x hx;simp [cutsP] at hx
  | succ f ih=>
    intro i l x hx
    unfold cutsP at hx
    split at hx
    · cases hx
    · rename_i h
      rcases List.mem_cons.1 hx with rfl|hx
      · omega
      · have:=ih _ _ x hx
        have h1:=Lib.decodeL_le l h
        rw [List.length_drop] at this
        omega
theorem cuts_len (s:ByteArray):0<(cuts s).length∧(cuts s).length≤s.size+1:=by
  have:=cutsP_len s.size 0 s.data.toList
  have e:s.data.toList.length=s.size:=Array.length_toList
  unfold cuts
  rw [List.length_append,List.length_singleton]
  omega
theorem cuts_le (s:ByteArray) (k:Nat) (h:k<(cuts s).length):(cuts s)[k] ≤s.size:=by
  have hm:=List.getElem_mem h
  rcases List.mem_append.1 hm with h1|h1
  · have:=(cutsP_range _ _ _ _ h1).2
    have e:s.data.toList.length=s.size:=Array.length_toList
    omega
  · have:=List.mem_singleton.1 h1;omega
end Go.Proofs.YtgcfhkceejcliaaGreatDoor
namespace Go.Proofs.YtgcfhkceejcliaaGreatDoor
open Go.RowKit
def scells (s:St):List Value:= [.bool s.list, .int .i64 s.i, .string s.key]
def czero:CC:=⟨0,none,0,0, .empty,0,0,0,vzero, .empty⟩
def ccells (c:CC):List Value:= [.int .u8 c.k, .slice c.pa c.pl c.pc, .string c.key, .int .i64 c.i, .int .i64 c.j, .int .i64 c.n, .int .u8 c.v.k, .int .i64 c.v.n, .string c.v.s, .slice c.v.la c.v.ll c.v.lc, .slice c.v.oa c.v.ol c.v.oc, .string c.s]
def PT:World→Nat→Nat→Prop:=fun _ _ _=>True
theorem PT.closed:Closed PT:=fun _ _ _ _ _ _ _ _=>trivial
abbrev RowS (w:World) (base:Nat) (u:Value) (l:List St):Prop:=Row 56 3 w base u l.length (l.flatMap scells) PT
theorem RowS.steps {w:World} {base lo:Nat} {l:List St} {a:Option Addr} {n cap:Nat} (h:RowS w base (.slice a n cap) l) (hlo:lo≤base) (hb:∀s ∈ l,s.Bnd) (hfew:l.length≤1466015503701):
    IsSteps (only (fun b=>lo≤b) w) w.heap.size l a n cap:=by
  obtain ⟨h1,_⟩:=Row.shows PT.closed h hlo
  have hown:=h.own
  have hlt:=h.lt
  rcases hown.2 with ⟨e,hn⟩|⟨g,cap',cur,e,hbg,hg,hnc,hcm,hcs,htake⟩
  · injection e with e1 e2 e3;subst e1 e2 e3
    have:l= [] :=List.length_eq_zero_iff.1 hn
    subst this
    exact .nil _ _
  · injection e with e1 e2 e3;subst e1 e2 e3
    refine ⟨rfl,hnc,by simpa [maxLen] using hcm,hfew,g,0,fun _=>⟨rfl,(hlt g rfl).2⟩,fun i hi=>⟨?_,hb _ (List.getElem_mem hi)⟩⟩
    have hc:∀t x,t<3→(scells l[i])[t]? =some x→(only (fun b=>lo≤b) w).cell? ⟨g,0+i*3+t,none⟩=some x:=fun t x ht hx=>by
      rw [Nat.zero_add]
      exact h1 g rfl (i*3+t) x ((flat_get scells 3 (fun _=>rfl) l i t hi ht).trans hx)
    exact ⟨hc 0 _ (by omega) rfl,hc 1 _ (by omega) rfl,hc 2 _ (by omega) rfl⟩
structure LS (w wr:World) (rb cb:Nat) (d:Int) (kd:Nat) (q:List UInt8) (j:Nat) (a:Option Addr) (m c:Nat) (xs:List St) (rj:List UInt8):Prop where
  rd:rdL (fun x=>rdS x) j q=some (xs,rj)
  len:xs.length=j
  bnd:∀s ∈ xs,s.Bnd
  rdr:Rdr wr rb rj d
  st:RStep w wr rb
  res:BC wr w.heap.size (ccells czero)
  box:BC wr cb (ccells ⟨kd,a,m,c, .empty,0,0,0,vzero, .empty⟩)
  row:RowS wr (cb+1) (.slice a m c) xs
  lo:w.heap.size+1≤cb
  lt:rb<w.heap.size
theorem LS.round {w wr w4 w5:World} {rb cb:Nat} {d:Int} {kd:Nat} {q:List UInt8} {j:Nat} {a:Option Addr} {m c:Nat} {xs:List St} {rj r2:List UInt8} {x:St} {g cap:Nat} {t:TypeId}
    (h:LS w wr rb cb d kd q j a m c xs rj) (hx:rdS rj=some (x,r2)) (hS:RStep wr.drew w4 rb) (hR:Rdr w4 rb r2 d)
    (hown:w5.ownsRow (cb+1) 56 3 (.slice (some ⟨g,0,none⟩) (j+1) cap) (j+1) (xs.flatMap scells++scells x)) (hg:(w4.alloc (.cells #[.bool x.list, .int .i64 x.i, .string x.key] t)).grownBy w5 (Value.slice a m c).ownBlock)
    (hat:(Value.slice a m c).ownBlock=some g∨g=w4.heap.size+1):
    LS w (w5.setCell ⟨cb,1,none⟩ (.slice (some ⟨g,0,none⟩) (j+1) cap)) rb cb d kd q (j+1) (some ⟨g,0,none⟩) (j+1) cap (xs++ [x]) r2:=by
  have hlo:=h.lo
  have hlt:=h.lt
  have hdz:wr.drew.heap.size=wr.heap.size:=rfl
  have hb1:=drew_below wr
  have hrow:=(h.row.later PT.closed (.of_below rb hb1) (by omega)).later PT.closed hS (by omega)
  have hrlt:∀b,(Value.slice a m c).ownBlock=some b→cb+1≤b∧b<wr.heap.size:=h.row.lt
  have hba:Below w4.heap.size w4 (w4.alloc (.cells #[.bool x.list, .int .i64 x.i, .string x.key] t)):=(Below.refl _ _).alloc (Nat.le_refl _) _
  have hsz4:wr.heap.size≤w4.heap.size:=hS.size
  have hclt:=h.box.lt
  have hgb:Below (cb+1) (w4.alloc (.cells #[.bool x.list, .int .i64 x.i, .string x.key] t)) w5:=grown_below hg (fun b hb=>(hrlt b hb).1) (by simp;omega)
  have hb45:Below (cb+1) w4 w5:=(hba.mono (by omega)).trans hgb
  have hpush:=Row.push PT.closed hrow hba hg (u':= .slice (some ⟨g,0,none⟩) (j+1) cap) (news:=scells x) (by rw [h.len];exact hown) (by
    rcases hat with e|e
    · left;rw [e];rfl
    · right;intro b hb;have:g=b:=by simpa [Value.ownBlock] using hb
      omega) (trivial:PT _ _ _) (fun _ _ _ _ _=>trivial)
  have hres:=((h.res.keep hb1 (by omega)).next hS (by omega)).keep hb45 (by omega)
  have hbox:=((h.box.keep hb1 hclt).next hS (by omega)).keep hb45 (by omega)
  have hst:RStep w w5 rb:=by
    have h1:RStep w w4 rb:=(h.st.trans (.of_below rb hb1)).trans hS
    exact ⟨hb45.os.trans h1.os,hb45.tape.trans h1.tape,hb45.output.trans h1.output,Nat.le_trans h1.size hb45.size,fun k hk hr=>(hb45.block k (by omega)).trans (h1.block k hk hr)⟩
  refine ⟨?_,by simp [h.len],fun s hs=> ?_,(hR.below hb45 (by omega)).setNew (by omega),hst.setNew (by omega),hres.far (by omega),hbox.set (i:=1) (x:= .slice (some ⟨g,0,none⟩) (j+1) cap) (by simp [ccells]), ?_,hlo,hlt⟩
  · rw [rdL,h.rd];simp only [Option.bind_some,hx]
  · rcases List.mem_append.1 hs with h1|h1
    · exact h.bnd s h1
    · rw [List.mem_singleton.1 h1];exact rdS_bnd hx
  · have hr2:RowS w5 (cb+1) (.slice (some ⟨g,0,none⟩) (j+1) cap) (xs++ [x]):=by
      show Row _ _ _ _ _ _ _ _
      rw [flat_snoc,List.length_append,List.length_singleton]
      exact hpush
    exact hr2.set PT.closed (by omega)
def RCPost (w:World) (rb:Nat) (d:Int) (r:Option (Cm×List UInt8)) (e:Ending) (w':World):Prop:=
  RStep w w' rb∧match r with
    |some (x,r)=>(∃c:CC,e= .returned (.agg #[.int .u8 c.k, .slice c.pa c.pl c.pc, .string c.key, .int .i64 c.i, .int .i64 c.j, .int .i64 c.n, .int .u8 c.v.k, .int .i64 c.v.n, .string c.v.s, .slice c.v.la c.v.ll c.v.lc, .slice c.v.oa c.v.ol c.v.oc, .string c.s])∧IsComp (only (fun b=>w.heap.size≤b) w') w'.heap.size x c)∧Rdr w' rb r d
    |none=>e= .panicked [short] ∧∃bs',Rdr w' rb bs' d
structure CB (w W:World) (rb cb:Nat) (d:Int) (r:List UInt8) (p:List St) (v:V) (c:CC):Prop where
  rdr:Rdr W rb r d
  st:RStep w W rb
  res:BC W w.heap.size (ccells czero)
  box:BC W cb (ccells c)
  stp:IsSteps (only (fun b=>cb+1≤b) W) W.heap.size p c.pa c.pl c.pc
  val:IsVal (only (fun b=>cb+1≤b) W) W.heap.size v c.v
  lo:w.heap.size+1≤cb
  lt:rb<w.heap.size
theorem isSteps_far {W W':World} {b base:Nat} {p:List St} {a:Option Addr} {n c:Nat} (h:IsSteps (only (fun k=>base≤k) W) W.heap.size p a n c) (s:RStep W W' b) (hb:b<base):IsSteps (only (fun k=>base≤k) W') W'.heap.size p a n c:=
  (h.sub (shows_step fun k hk hl=>⟨hk,s.block k hl (by omega)⟩)).more s.size
theorem CB.next {w W W':World} {rb cb:Nat} {d:Int} {r r':List UInt8} {p:List St} {v:V} {c:CC} (h:CB w W rb cb d r p v c) (s:RStep W W' rb) (hR:Rdr W' rb r' d):CB w W' rb cb d r' p v c:=by
  have hlo:=h.lo;have hlt:=h.lt
  exact ⟨hR,h.st.trans s,h.res.next s (by omega),h.box.next s (by omega),isSteps_far h.stp s (by omega),isVal_far h.val s (by omega),hlo,hlt⟩
theorem CB.start {w wr:World} {rb cb:Nat} {d:Int} {kd:Nat} {q:List UInt8} {j:Nat} {a:Option Addr} {m c:Nat} {xs:List St} {rj:List UInt8} (h:LS w wr rb cb d kd q j a m c xs rj) (hfew:j≤1466015503701):CB w wr rb cb d rj xs V.none ⟨kd,a,m,c, .empty,0,0,0,vzero, .empty⟩:=
  ⟨h.rdr,h.st,h.res,h.box,h.row.steps (Nat.le_refl _) h.bnd (by rw [h.len];exact hfew),isVal_none _ _,h.lo,h.lt⟩
theorem CB.value {w W W' W2:World} {rb cb:Nat} {d:Int} {r r':List UInt8} {p:List St} {v v':V} {c c':CC} (h:CB w W rb cb d r p v c) (s:RStep W W' rb) (hR:Rdr W' rb r' d) (hv:IsVal (only (fun b=>W.heap.size≤b) W') W'.heap.size v' c'.v) (s2:RStep W' W2 cb) (hbox:BC W2 cb (ccells c')) (e1:c'.pa=c.pa) (e2:c'.pl=c.pl) (e3:c'.pc=c.pc):CB w W2 rb cb d r' p v' c':=by
  have hlo:=h.lo;have hlt:=h.lt
  have hcl:=h.box.lt
  have h1:=h.next s hR
  have hst:RStep w W2 rb:=⟨s2.os.trans h1.st.os,s2.tape.trans h1.st.tape,s2.output.trans h1.st.output,Nat.le_trans h1.st.size s2.size,fun k hk hr=>(s2.block k (Nat.lt_of_lt_of_le hk h1.st.size) (by omega)).trans (h1.st.block k hk hr)⟩
  refine ⟨h1.rdr.below (s2.below (Nat.le_of_lt h1.box.lt)) (by omega),hst,h1.res.next s2 (by omega),hbox, ?_, ?_,hlo,hlt⟩
  · rw [e1,e2,e3];exact isSteps_far h1.stp s2 (by omega)
  · exact isVal_far ((hv.sub (shows_step fun k hk hl=>⟨by omega,rfl⟩))) s2 (by omega)
theorem results_comp {tmps:Array Value} {W:World} {b:Nat} {c:CC} (ht:tmps[2]? =some (.pointer (some ⟨b,0,none⟩))) (h:BC W b (ccells c)):(results Tryz.f74 tmps).run Tryz.prog W= .ok (.agg #[.int .u8 c.k, .slice c.pa c.pl c.pc, .string c.key, .int .i64 c.i, .int .i64 c.j, .int .i64 c.n, .int .u8 c.v.k, .int .i64 c.v.n, .string c.v.s, .slice c.v.la c.v.ll c.v.lc, .slice c.v.oa c.v.ol c.v.oc, .string c.s]) W:=by
  have h0:=h.at_ 0 _ rfl
  have h1:=h.at_ 1 _ rfl
  have h2:=h.at_ 2 _ rfl
  have h3:=h.at_ 3 _ rfl
  have h4:=h.at_ 4 _ rfl
  have h5:=h.at_ 5 _ rfl
  have h6:=h.at_ 6 _ rfl
  have h7:=h.at_ 7 _ rfl
  have h8:=h.at_ 8 _ rfl
  have h9:=h.at_ 9 _ rfl
  have h10:=h.at_ 10 _ rfl
  have h11:=h.at_ 11 _ rfl
  simp [results,Tryz.results74,go_sem,ht,h0,h1,h2,h3,h4,h5,h6,h7,h8,h9,h10,h11]
theorem CB.leave {w W:World} {rb cb:Nat} {d:Int} {r:List UInt8} {p:List St} {v:V} {c:CC} {x:Cm} {a:Act} (h:CB w W rb cb d r p v c) (hb:c.Bnd) (hx:x=⟨c.k,p,c.key,c.i,c.j,c.n,v,c.s⟩) (hd:a.defers= []) (ht:a.tmps[2]? =some (.pointer (some ⟨w.heap.size,0,none⟩))):
    bodyPost Tryz.prog Tryz.f74 (RCPost w rb d (some (x,r))) .ret a ((((((((((((W.setCell ⟨w.heap.size,0,none⟩ (.int .u8 c.k)).setCell ⟨w.heap.size,1,none⟩ (.slice c.pa c.pl c.pc)).setCell ⟨w.heap.size,2,none⟩ (.string c.key)).setCell ⟨w.heap.size,3,none⟩ (.int .i64 c.i)).setCell ⟨w.heap.size,4,none⟩ (.int .i64 c.j)).setCell ⟨w.heap.size,5,none⟩ (.int .i64 c.n)).setCell ⟨w.heap.size,6,none⟩ (.int .u8 c.v.k)).setCell ⟨w.heap.size,7,none⟩ (.int .i64 c.v.n)).setCell ⟨w.heap.size,8,none⟩ (.string c.v.s)).setCell ⟨w.heap.size,9,none⟩ (.slice c.v.la c.v.ll c.v.lc)).setCell ⟨w.heap.size,10,none⟩ (.slice c.v.oa c.v.ol c.v.oc)).setCell ⟨w.heap.size,11,none⟩ (.string c.s)):=by
  have hlo:=h.lo;have hlt:=h.lt
  have hs:RStep W ((((((((((((W.setCell ⟨w.heap.size,0,none⟩ (.int .u8 c.k)).setCell ⟨w.heap.size,1,none⟩ (.slice c.pa c.pl c.pc)).setCell ⟨w.heap.size,2,none⟩ (.string c.key)).setCell ⟨w.heap.size,3,none⟩ (.int .i64 c.i)).setCell ⟨w.heap.size,4,none⟩ (.int .i64 c.j)).setCell ⟨w.heap.size,5,none⟩ (.int .i64 c.n)).setCell ⟨w.heap.size,6,none⟩ (.int .u8 c.v.k)).setCell ⟨w.heap.size,7,none⟩ (.int .i64 c.v.n)).setCell ⟨w.heap.size,8,none⟩ (.string c.v.s)).setCell ⟨w.heap.size,9,none⟩ (.slice c.v.la c.v.ll c.v.lc)).setCell ⟨w.heap.size,10,none⟩ (.slice c.v.oa c.v.ol c.v.oc)).setCell ⟨w.heap.size,11,none⟩ (.string c.s)) w.heap.size:=(((((((((((RStep.self.trans RStep.self).trans RStep.self).trans RStep.self).trans RStep.self).trans RStep.self).trans RStep.self).trans RStep.self).trans RStep.self).trans RStep.self).trans RStep.self).trans RStep.self)
  have hbc:BC ((((((((((((W.setCell ⟨w.heap.size,0,none⟩ (.int .u8 c.k)).setCell ⟨w.heap.size,1,none⟩ (.slice c.pa c.pl c.pc)).setCell ⟨w.heap.size,2,none⟩ (.string c.key)).setCell ⟨w.heap.size,3,none⟩ (.int .i64 c.i)).setCell ⟨w.heap.size,4,none⟩ (.int .i64 c.j)).setCell ⟨w.heap.size,5,none⟩ (.int .i64 c.n)).setCell ⟨w.heap.size,6,none⟩ (.int .u8 c.v.k)).setCell ⟨w.heap.size,7,none⟩ (.int .i64 c.v.n)).setCell ⟨w.heap.size,8,none⟩ (.string c.v.s)).setCell ⟨w.heap.size,9,none⟩ (.slice c.v.la c.v.ll c.v.lc)).setCell ⟨w.heap.size,10,none⟩ (.slice c.v.oa c.v.ol c.v.oc)).setCell ⟨w.heap.size,11,none⟩ (.string c.s)) w.heap.size (ccells c):=((((((((((((h.res.set (i:=0) (x:= .int .u8 c.k) (by simp [ccells])).set (i:=1) (x:= .slice c.pa c.pl c.pc) (by simp [ccells])).set (i:=2) (x:= .string c.key) (by simp [ccells])).set (i:=3) (x:= .int .i64 c.i) (by simp [ccells])).set (i:=4) (x:= .int .i64 c.j) (by simp [ccells])).set (i:=5) (x:= .int .i64 c.n) (by simp [ccells])).set (i:=6) (x:= .int .u8 c.v.k) (by simp [ccells])).set (i:=7) (x:= .int .i64 c.v.n) (by simp [ccells])).set (i:=8) (x:= .string c.v.s) (by simp [ccells])).set (i:=9) (x:= .slice c.v.la c.v.ll c.v.lc) (by simp [ccells])).set (i:=10) (x:= .slice c.v.oa c.v.ol c.v.oc) (by simp [ccells])).set (i:=11) (x:= .string c.s) (by simp [ccells]))
  have hst:RStep w ((((((((((((W.setCell ⟨w.heap.size,0,none⟩ (.int .u8 c.k)).setCell ⟨w.heap.size,1,none⟩ (.slice c.pa c.pl c.pc)).setCell ⟨w.heap.size,2,none⟩ (.string c.key)).setCell ⟨w.heap.size,3,none⟩ (.int .i64 c.i)).setCell ⟨w.heap.size,4,none⟩ (.int .i64 c.j)).setCell ⟨w.heap.size,5,none⟩ (.int .i64 c.n)).setCell ⟨w.heap.size,6,none⟩ (.int .u8 c.v.k)).setCell ⟨w.heap.size,7,none⟩ (.int .i64 c.v.n)).setCell ⟨w.heap.size,8,none⟩ (.string c.v.s)).setCell ⟨w.heap.size,9,none⟩ (.slice c.v.la c.v.ll c.v.lc)).setCell ⟨w.heap.size,10,none⟩ (.slice c.v.oa c.v.ol c.v.oc)).setCell ⟨w.heap.size,11,none⟩ (.string c.s)) rb:=⟨hs.os.trans h.st.os,hs.tape.trans h.st.tape,hs.output.trans h.st.output,Nat.le_trans h.st.size hs.size,fun k hk hr=>(hs.block k (Nat.lt_of_lt_of_le hk h.st.size) (by omega)).trans (h.st.block k hk hr)⟩
  have hstp:=isSteps_far h.stp hs (by omega)
  have hval:=isVal_far h.val hs (by omega)
  refine ⟨hd,_,results_comp ht hbc,hst,⟨c,rfl, ?_⟩,h.rdr.below (hs.below (by have:=h.res.lt;omega)) hlt⟩
  subst hx
  exact .mk c p v hb (hstp.sub (shows_step fun k hk _=>⟨by omega,rfl⟩)) (hval.sub (shows_step fun k hk _=>⟨by omega,rfl⟩))
end Go.Proofs.YtgcfhkceejcliaaGreatDoor
namespace Go.Proofs.YtgcfhkceejcliaaGreatDoor
open Go.RowKit
def ezero:EC:=⟨0,0,0,vzero,none,0,0⟩
def ecells (c:EC):List Value:= [.int .u8 c.k, .int .u32 c.src, .int .u32 c.seq, .int .u8 c.v.k, .int .i64 c.v.n, .string c.v.s, .slice c.v.la c.v.ll c.v.lc, .slice c.v.oa c.v.ol c.v.oc, .slice c.oa c.ol c.oc]
def PC (l:List Cm) (cs:List CC):World→Nat→Nat→Prop:=fun W B i=>∀h:i<l.length,IsComp W B l[i] (cs.getD i czero)
theorem PC.closed (l:List Cm) (cs:List CC):Closed (PC l cs):=fun _ _ _ _ _ hs hB h hi=>((h hi).sub hs).more hB
theorem PC.snoc {l:List Cm} {cs:List CC} (hl:cs.length=l.length) (x:Cm) (c:CC):(∀W B,IsComp W B x c→PC (l++ [x]) (cs++ [c]) W B l.length)∧∀W B i,i<l.length→PC l cs W B i→PC (l++ [x]) (cs++ [c]) W B i:=by
  constructor
  · intro W B h hi
    simpa [List.getD_eq_getElem?_getD, ←hl] using h
  · intro W B i hi h hi2
    have h:=h hi
    have e:(cs++ [c]).getD i czero=cs.getD i czero:=by simp [List.getD_eq_getElem?_getD,List.getElem?_append_left (show i<cs.length by omega)]
    rw [List.getElem_append_left hi,e]
    exact h
abbrev RowC (w:World) (base:Nat) (u:Value) (l:List Cm) (cs:List CC):Prop:=Row 63 12 w base u l.length (cs.flatMap ccells) (PC l cs)
theorem RowC.comps {w:World} {base lo:Nat} {l:List Cm} {cs:List CC} {a:Option Addr} {n cap:Nat} (h:RowC w base (.slice a n cap) l cs) (hl:cs.length=l.length) (hlo:lo≤base) (hfew:l.length≤1466015503701):
    IsComps (only (fun b=>lo≤b) w) w.heap.size l a n cap:=by
  obtain ⟨h1,h2⟩:=Row.shows (PC.closed l cs) h hlo
  have hown:=h.own
  have hlt:=h.lt
  rcases hown.2 with ⟨e,hn⟩|⟨g,cap',cur,e,hbg,hg,hnc,hcm,hcs,htake⟩
  · injection e with e1 e2 e3;subst e1 e2 e3
    have:l= [] :=List.length_eq_zero_iff.1 hn
    subst this
    exact .nil _ _
  · injection e with e1 e2 e3;subst e1 e2 e3
    refine ⟨rfl,hnc,by simpa [maxLen] using hcm,hfew,g,0,fun i=>cs.getD i czero,fun _=>⟨rfl,(hlt g rfl).2⟩,fun i hi=>⟨?_,h2 i hi hi⟩⟩
    have hi':i<cs.length:=by omega
    have hc:∀t x,t<12→(ccells cs[i])[t]? =some x→(only (fun b=>lo≤b) w).cell? ⟨g,0+i*12+t,none⟩=some x:=fun t x ht hx=>by
      rw [Nat.zero_add]
      exact h1 g rfl (i*12+t) x ((flat_get ccells 12 (fun _=>rfl) cs i t hi' ht).trans hx)
    have he:cs.getD i czero=cs[i] :=by simp [List.getD_eq_getElem?_getD,hi']
    simp only [he]
    exact ⟨hc 0 _ (by omega) rfl,hc 1 _ (by omega) rfl,hc 2 _ (by omega) rfl,hc 3 _ (by omega) rfl,hc 4 _ (by omega) rfl,hc 5 _ (by omega) rfl,⟨hc 6 _ (by omega) rfl,hc 7 _ (by omega) rfl,hc 8 _ (by omega) rfl,hc 9 _ (by omega) rfl,hc 10 _ (by omega) rfl⟩,hc 11 _ (by omega) rfl⟩
structure LE (w wr:World) (rb eb:Nat) (kd sr sq:Nat) (q:List UInt8) (j:Nat) (a:Option Addr) (m c:Nat) (xs:List Cm) (cs:List CC) (rj:List UInt8):Prop where
  rd:rdL (fun x=>rdC x) j q=some (xs,rj)
  len:xs.length=j
  cen:cs.length=j
  rdr:Rdr wr rb rj 0
  st:RStep w wr rb
  res:BC wr w.heap.size (ecells ezero)
  box:BC wr eb (ecells ⟨kd,sr,sq,vzero,a,m,c⟩)
  row:RowC wr (eb+1) (.slice a m c) xs cs
  lo:w.heap.size+1≤eb
  lt:rb<w.heap.size
theorem LE.round {w wr w4 w5:World} {rb eb kd sr sq:Nat} {q:List UInt8} {j:Nat} {a:Option Addr} {m c:Nat} {xs:List Cm} {cs:List CC} {rj r2:List UInt8} {x:Cm} {cx:CC} {g cap:Nat} {t:TypeId}
    (h:LE w wr rb eb kd sr sq q j a m c xs cs rj) (hx:rdC rj=some (x,r2)) (hS:RStep wr.drew w4 rb) (hI:IsComp (only (fun b=>wr.drew.heap.size≤b) w4) w4.heap.size x cx) (hR:Rdr w4 rb r2 0)
    (hown:w5.ownsRow (eb+1) 63 12 (.slice (some ⟨g,0,none⟩) (j+1) cap) (j+1) (cs.flatMap ccells++ccells cx)) (hg:(w4.alloc (.cells #[.int .u8 cx.k, .slice cx.pa cx.pl cx.pc, .string cx.key, .int .i64 cx.i, .int .i64 cx.j, .int .i64 cx.n, .int .u8 cx.v.k, .int .i64 cx.v.n, .string cx.v.s, .slice cx.v.la cx.v.ll cx.v.lc, .slice cx.v.oa cx.v.ol cx.v.oc, .string cx.s] t)).grownBy w5 (Value.slice a m c).ownBlock)
    (hat:(Value.slice a m c).ownBlock=some g∨g=w4.heap.size+1):
    LE w (w5.setCell ⟨eb,8,none⟩ (.slice (some ⟨g,0,none⟩) (j+1) cap)) rb eb kd sr sq q (j+1) (some ⟨g,0,none⟩) (j+1) cap (xs++ [x]) (cs++ [cx]) r2:=by
  have hlo:=h.lo
  have hlt:=h.lt
  have hdz:wr.drew.heap.size=wr.heap.size:=rfl
  have hb1:=drew_below wr
  have hrow:=(h.row.later (PC.closed xs cs) (.of_below rb hb1) (by omega)).later (PC.closed xs cs) hS (by omega)
  have hrlt:∀b,(Value.slice a m c).ownBlock=some b→eb+1≤b∧b<wr.heap.size:=h.row.lt
  have hba:Below w4.heap.size w4 (w4.alloc (.cells #[.int .u8 cx.k, .slice cx.pa cx.pl cx.pc, .string cx.key, .int .i64 cx.i, .int .i64 cx.j, .int .i64 cx.n, .int .u8 cx.v.k, .int .i64 cx.v.n, .string cx.v.s, .slice cx.v.la cx.v.ll cx.v.lc, .slice cx.v.oa cx.v.ol cx.v.oc, .string cx.s] t)):=(Below.refl _ _).alloc (Nat.le_refl _) _
  have hsz4:wr.heap.size≤w4.heap.size:=hS.size
  have hclt:=h.box.lt
  have hgb:Below (eb+1) (w4.alloc (.cells #[.int .u8 cx.k, .slice cx.pa cx.pl cx.pc, .string cx.key, .int .i64 cx.i, .int .i64 cx.j, .int .i64 cx.n, .int .u8 cx.v.k, .int .i64 cx.v.n, .string cx.v.s, .slice cx.v.la cx.v.ll cx.v.lc, .slice cx.v.oa cx.v.ol cx.v.oc, .string cx.s] t)) w5:=grown_below hg (fun b hb=>(hrlt b hb).1) (by simp;omega)
  have hb45:Below (eb+1) w4 w5:=(hba.mono (by omega)).trans hgb
  obtain ⟨s1,s2⟩:=PC.snoc (l:=xs) (cs:=cs) (by rw [h.len,h.cen]) x cx
  have hnew:PC (xs++ [x]) (cs++ [cx]) (only (Free (eb+1) (.slice a m c)) w4) w4.heap.size xs.length:=s1 _ _ (hI.sub (shows_step fun b hb _=>⟨⟨by rw [hdz] at hb;omega,fun e=>by have:=(hrlt b e.symm).2;rw [hdz] at hb;omega⟩,rfl⟩))
  have hpush:=Row.push (PC.closed (xs++ [x]) (cs++ [cx])) hrow hba hg (u':= .slice (some ⟨g,0,none⟩) (j+1) cap) (news:=ccells cx) (by rw [h.len];exact hown) (by
    rcases hat with e|e
    · left;rw [e];rfl
    · right;intro b hb;have:g=b:=by simpa [Value.ownBlock] using hb
      omega) hnew s2
  have hres:=((h.res.keep hb1 (by omega)).next hS (by omega)).keep hb45 (by omega)
  have hbox:=((h.box.keep hb1 hclt).next hS (by omega)).keep hb45 (by omega)
  have hst:RStep w w5 rb:=by
    have h1:RStep w w4 rb:=(h.st.trans (.of_below rb hb1)).trans hS
    exact ⟨hb45.os.trans h1.os,hb45.tape.trans h1.tape,hb45.output.trans h1.output,Nat.le_trans h1.size hb45.size,fun k hk hr=>(hb45.block k (by omega)).trans (h1.block k hk hr)⟩
  refine ⟨?_,by simp [h.len],by simp [h.cen],(hR.below hb45 (by omega)).setNew (by omega),hst.setNew (by omega),hres.far (by omega),hbox.set (i:=8) (x:= .slice (some ⟨g,0,none⟩) (j+1) cap) (by simp [ecells]), ?_,hlo,hlt⟩
  · rw [rdL,h.rd];simp only [Option.bind_some,hx]
  · have hr2:RowC w5 (eb+1) (.slice (some ⟨g,0,none⟩) (j+1) cap) (xs++ [x]) (cs++ [cx]):=by
      show Row _ _ _ _ _ _ _ _
      rw [flat_snoc,List.length_append,List.length_singleton]
      exact hpush
    exact hr2.set (PC.closed _ _) (by omega)
def REPost (w:World) (rb:Nat) (r:Option (En×List UInt8)) (e:Ending) (w':World):Prop:=
  RStep w w' rb∧match r with
    |some (x,r)=>(∃c:EC,e= .returned (.agg #[.int .u8 c.k, .int .u32 c.src, .int .u32 c.seq, .int .u8 c.v.k, .int .i64 c.v.n, .string c.v.s, .slice c.v.la c.v.ll c.v.lc, .slice c.v.oa c.v.ol c.v.oc, .slice c.oa c.ol c.oc])∧IsEntry (only (fun b=>w.heap.size≤b) w') w'.heap.size x c)∧Rdr w' rb r 0
    |none=>e= .panicked [short] ∧∃bs',Rdr w' rb bs' 0
structure EB (w W:World) (rb eb:Nat) (r:List UInt8) (v:V) (l:List Cm) (c:EC):Prop where
  rdr:Rdr W rb r 0
  st:RStep w W rb
  res:BC W w.heap.size (ecells ezero)
  box:BC W eb (ecells c)
  val:IsVal (only (fun b=>eb+1≤b) W) W.heap.size v c.v
  ops:IsComps (only (fun b=>eb+1≤b) W) W.heap.size l c.oa c.ol c.oc
  lo:w.heap.size+1≤eb
  lt:rb<w.heap.size
theorem isComps_far {W W':World} {b base:Nat} {l:List Cm} {a:Option Addr} {n c:Nat} (h:IsComps (only (fun k=>base≤k) W) W.heap.size l a n c) (s:RStep W W' b) (hb:b<base):IsComps (only (fun k=>base≤k) W') W'.heap.size l a n c:=
  (h.sub (shows_step fun k hk hl=>⟨hk,s.block k hl (by omega)⟩)).more s.size
theorem results_entry {tmps:Array Value} {W:World} {b:Nat} {c:EC} (ht:tmps[2]? =some (.pointer (some ⟨b,0,none⟩))) (h:BC W b (ecells c)):(results Tryz.f39 tmps).run Tryz.prog W= .ok (.agg #[.int .u8 c.k, .int .u32 c.src, .int .u32 c.seq, .int .u8 c.v.k, .int .i64 c.v.n, .string c.v.s, .slice c.v.la c.v.ll c.v.lc, .slice c.v.oa c.v.ol c.v.oc, .slice c.oa c.ol c.oc]) W:=by
  have h0:=h.at_ 0 _ rfl
  have h1:=h.at_ 1 _ rfl
  have h2:=h.at_ 2 _ rfl
  have h3:=h.at_ 3 _ rfl
  have h4:=h.at_ 4 _ rfl
  have h5:=h.at_ 5 _ rfl
  have h6:=h.at_ 6 _ rfl
  have h7:=h.at_ 7 _ rfl
  have h8:=h.at_ 8 _ rfl
  simp [results,Tryz.results39,go_sem,ht,h0,h1,h2,h3,h4,h5,h6,h7,h8]
theorem EB.leave {w W:World} {rb eb:Nat} {r:List UInt8} {v:V} {l:List Cm} {c:EC} {x:En} {a:Act} (h:EB w W rb eb r v l c) (hb:c.Bnd) (hx:x=⟨c.k,c.src,c.seq,v,l⟩) (hd:a.defers= []) (ht:a.tmps[2]? =some (.pointer (some ⟨w.heap.size,0,none⟩))):
    bodyPost Tryz.prog Tryz.f39 (REPost w rb (some (x,r))) .ret a (((((((((W.setCell ⟨w.heap.size,0,none⟩ (.int .u8 c.k)).setCell ⟨w.heap.size,1,none⟩ (.int .u32 c.src)).setCell ⟨w.heap.size,2,none⟩ (.int .u32 c.seq)).setCell ⟨w.heap.size,3,none⟩ (.int .u8 c.v.k)).setCell ⟨w.heap.size,4,none⟩ (.int .i64 c.v.n)).setCell ⟨w.heap.size,5,none⟩ (.string c.v.s)).setCell ⟨w.heap.size,6,none⟩ (.slice c.v.la c.v.ll c.v.lc)).setCell ⟨w.heap.size,7,none⟩ (.slice c.v.oa c.v.ol c.v.oc)).setCell ⟨w.heap.size,8,none⟩ (.slice c.oa c.ol c.oc)):=by
  have hlo:=h.lo;have hlt:=h.lt
  have hs:RStep W (((((((((W.setCell ⟨w.heap.size,0,none⟩ (.int .u8 c.k)).setCell ⟨w.heap.size,1,none⟩ (.int .u32 c.src)).setCell ⟨w.heap.size,2,none⟩ (.int .u32 c.seq)).setCell ⟨w.heap.size,3,none⟩ (.int .u8 c.v.k)).setCell ⟨w.heap.size,4,none⟩ (.int .i64 c.v.n)).setCell ⟨w.heap.size,5,none⟩ (.string c.v.s)).setCell ⟨w.heap.size,6,none⟩ (.slice c.v.la c.v.ll c.v.lc)).setCell ⟨w.heap.size,7,none⟩ (.slice c.v.oa c.v.ol c.v.oc)).setCell ⟨w.heap.size,8,none⟩ (.slice c.oa c.ol c.oc)) w.heap.size:=((((((((RStep.self.trans RStep.self).trans RStep.self).trans RStep.self).trans RStep.self).trans RStep.self).trans RStep.self).trans RStep.self).trans RStep.self)
  have hbc:BC (((((((((W.setCell ⟨w.heap.size,0,none⟩ (.int .u8 c.k)).setCell ⟨w.heap.size,1,none⟩ (.int .u32 c.src)).setCell ⟨w.heap.size,2,none⟩ (.int .u32 c.seq)).setCell ⟨w.heap.size,3,none⟩ (.int .u8 c.v.k)).setCell ⟨w.heap.size,4,none⟩ (.int .i64 c.v.n)).setCell ⟨w.heap.size,5,none⟩ (.string c.v.s)).setCell ⟨w.heap.size,6,none⟩ (.slice c.v.la c.v.ll c.v.lc)).setCell ⟨w.heap.size,7,none⟩ (.slice c.v.oa c.v.ol c.v.oc)).setCell ⟨w.heap.size,8,none⟩ (.slice c.oa c.ol c.oc)) w.heap.size (ecells c):=(((((((((h.res.set (i:=0) (x:= .int .u8 c.k) (by simp [ecells])).set (i:=1) (x:= .int .u32 c.src) (by simp [ecells])).set (i:=2) (x:= .int .u32 c.seq) (by simp [ecells])).set (i:=3) (x:= .int .u8 c.v.k) (by simp [ecells])).set (i:=4) (x:= .int .i64 c.v.n) (by simp [ecells])).set (i:=5) (x:= .string c.v.s) (by simp [ecells])).set (i:=6) (x:= .slice c.v.la c.v.ll c.v.lc) (by simp [ecells])).set (i:=7) (x:= .slice c.v.oa c.v.ol c.v.oc) (by simp [ecells])).set (i:=8) (x:= .slice c.oa c.ol c.oc) (by simp [ecells]))
  have hst:RStep w (((((((((W.setCell ⟨w.heap.size,0,none⟩ (.int .u8 c.k)).setCell ⟨w.heap.size,1,none⟩ (.int .u32 c.src)).setCell ⟨w.heap.size,2,none⟩ (.int .u32 c.seq)).setCell ⟨w.heap.size,3,none⟩ (.int .u8 c.v.k)).setCell ⟨w.heap.size,4,none⟩ (.int .i64 c.v.n)).setCell ⟨w.heap.size,5,none⟩ (.string c.v.s)).setCell ⟨w.heap.size,6,none⟩ (.slice c.v.la c.v.ll c.v.lc)).setCell ⟨w.heap.size,7,none⟩ (.slice c.v.oa c.v.ol c.v.oc)).setCell ⟨w.heap.size,8,none⟩ (.slice c.oa c.ol c.oc)) rb:=⟨hs.os.trans h.st.os,hs.tape.trans h.st.tape,hs.output.trans h.st.output,Nat.le_trans h.st.size hs.size,fun k hk hr=>(hs.block k (Nat.lt_of_lt_of_le hk h.st.size) (by omega)).trans (h.st.block k hk hr)⟩
  have hops:=isComps_far h.ops hs (by omega)
  have hval:=isVal_far h.val hs (by omega)
  refine ⟨hd,_,results_entry ht hbc,hst,⟨c,rfl, ?_⟩,h.rdr.below (hs.below (by have:=h.res.lt;omega)) hlt⟩
  subst hx
  exact .mk c v l hb (hval.sub (shows_step fun k hk _=>⟨by omega,rfl⟩)) (hops.sub (shows_step fun k hk _=>⟨by omega,rfl⟩))
theorem LE.eb {w wr:World} {rb eb kd sr sq:Nat} {q:List UInt8} {j:Nat} {a:Option Addr} {m c:Nat} {xs:List Cm} {cs:List CC} {rj:List UInt8} (h:LE w wr rb eb kd sr sq q j a m c xs cs rj) (hfew:j≤1466015503701):EB w wr rb eb rj V.none xs ⟨kd,sr,sq,vzero,a,m,c⟩:=
  ⟨h.rdr,h.st,h.res,h.box,isVal_none _ _,h.row.comps (by rw [h.len,h.cen]) (Nat.le_refl _) (by rw [h.len];exact hfew),h.lo,h.lt⟩
end Go.Proofs.YtgcfhkceejcliaaGreatDoor
namespace Go.Proofs.YtgcfhkceejcliaaGreatDoor
open Go.RowKit Go.Shelf
attribute [local go_sem] Oper.semAt_some
def VWeight (v:V):Prop:=v.weight≤4611686018427387904→∀(w:World) (c:VC),IsVal w w.heap.size v c→
    Calls Tryz.prog 55 #[.agg #[.int .u8 c.k, .int .i64 c.n, .string c.s, .slice c.la c.ll c.lc, .slice c.oa c.ol c.oc]] w fun e w'=>e= .returned (.int .i64 v.weight)∧Below w.heap.size w w'
theorem ValAt.own {β:Type} (b o:Nat) (c:β→VC):Own (fun (x:β) W=>ValAt W b o (c x)):=
  fun _ _ _ _ hs hg hr=>⟨cell_kept hs.c0 hg hr,cell_kept hs.c1 hg hr,cell_kept hs.c2 hg hr,cell_kept hs.c3 hg hr,cell_kept hs.c4 hg hr⟩
theorem keepsOthers_below {W W':World} (h:Below W.heap.size W W'):KeepsOthers W W':=
  ⟨h.size,fun k _ hk _=>(h.block k (Array.getElem?_eq_some_iff.1 hk).1).trans hk⟩
theorem kids_snoc {w:World} {P:V→Prop} (pre:List (Kid w P)) (x:Kid w P):weightO ((pre++ [x]).map Kid.pair)=weightO (pre.map Kid.pair)+(x.kk.size+x.v.weight):=by
  rw [List.map_append,weightO_append];simp [weightO,weightF_eq,Kid.pair]
theorem wsum (d a b c:Int) (hd:d=a+(b+c)):wrap64 d=IntKind.i64.wrap (wrap64 a+IntKind.i64.wrap (b+c)):=by
  subst hd
  simp only [IntKind.wrap_i64,wrap64]
  omega
theorem wrap64_small {x:Int} (h0: -9223372036854775808≤x) (h1:x≤9223372036854775807):wrap64 x=x:=by unfold wrap64;omega
theorem pairs_weight (l:List V) (o:List (ByteArray×V)):weightO (pairs l o)=weightL l+weightO o:=by
  unfold pairs
  rw [weightO_append]
  congr 1
  induction l with
  |nil=>rfl
  |cons v r ih=>simp only [List.map_cons,weightO,weightF_eq,weightL,ih];simp [ByteArray.size]
set_option maxHeartbeats 4000000 in
set_option maxRecDepth 100000 in
theorem valWeight_any (a:V):VWeight a:=by
  induction a using V.ind with
  |h k n s l o ihl iho=>
  intro hw w c ha
  obtain ⟨rfl,rfl,rfl,cbd,hl,ho⟩:=ha.lists
  have hw0:1+c.s.size+weightL l+weightO o≤4611686018427387904:=by simpa only [V.weight] using hw
  obtain ⟨ks,hks,hpr⟩:=kids_of w (fun v=>VWeight v∧v.weight≤4611686018427387904) l o c hl ho
    (fun v hv=>⟨ihl v hv,by obtain ⟨i,hi,rfl⟩:=List.getElem_of_mem hv;have:=weightL_mem l i hi;omega⟩)
    (fun f hf=>⟨iho f hf,by obtain ⟨i,hi,rfl⟩:=List.getElem_of_mem hf;have:=weightO_mem o i hi;omega⟩)
  clear ihl iho ha hl ho
  have c5:=cbd.s1
  refine callsIn_wide (n:=3)|>.1 ?_
  refine callsIn_of_wp_marks Tryz.func55 rfl trivial ?_ rfl
  simp only [Tryz.ntmps55,List.size_toArray,List.length_cons,List.length_nil,Nat.reduceAdd,Nat.reduceSub,Array.replicate_succ,Array.replicate_zero,List.push_toArray,List.append_toArray,List.nil_append,List.cons_append]
  gi_wp2_with (refine ⟨trivial, ?_⟩;gi_at_call 89;refine (within_in _ _ trivial rfl c _).mono ?_;rintro e w' ⟨rfl,rfl⟩)
  obtain ⟨W0,hW0⟩:∃W0,(((w.alloc (.cells #[.int .u8 c.k, .int .i64 c.n, .string c.s, .slice c.la c.ll c.lc, .slice c.oa c.ol c.oc] 33)).alloc (.cells #[.int .i64 (1+(c.s.size:Int))] 3)).alloc (.cells #[.int .u8 c.k, .int .i64 c.n, .string c.s, .slice c.la c.ll c.lc, .slice c.oa c.ol c.oc] 33))=W0:=⟨_,rfl⟩
  have hB0:Below w.heap.size w W0:=by rw [←hW0];exact (((Below.refl _ _).alloc (Nat.le_refl _) _).alloc (by simp) _).alloc (by simp;omega) _
  have hsz:W0.heap.size=w.heap.size+3:=by rw [←hW0];simp
  have hbx:ValAt W0 (w.heap.size+1+1) 0 c:=by
    rw [←hW0]
    have h:=valAt_new ((w.alloc (.cells #[.int .u8 c.k, .int .i64 c.n, .string c.s, .slice c.la c.ll c.lc, .slice c.oa c.ol c.oc] 33)).alloc (.cells #[.int .i64 (1+(c.s.size:Int))] 3)) c 33
    simp only [World.size_alloc] at h
    exact h
  have hn:Boxed W0 (w.heap.size+1) 3 (.int .i64 (1+(c.s.size:Int))):=by
    rw [←hW0]
    have h:=Boxed.new (w.alloc (.cells #[.int .u8 c.k, .int .i64 c.n, .string c.s, .slice c.la c.ll c.lc, .slice c.oa c.ol c.oc] 33)) 3 (.int .i64 (1+(c.s.size:Int)))
    rw [World.size_alloc] at h
    exact h.alloc _
  rw [hW0]
  clear hW0
  refine wpIn_rangeFunc_ownH (α:=Kid w (fun v=>VWeight v∧v.weight≤4611686018427387904)) rfl (by omega) (gf:=111) (lb:= #[.pointer (some ⟨w.heap.size+1+1,0,none⟩)]) rfl trivial (enters_of Tryz.func111 (by kernel_rfl) rfl)
    (within_stops Fence.wide 2 trivial rfl (by omega) w (fun v=>VWeight v∧v.weight≤4611686018427387904) (w.heap.size+1+1) c cbd ks W0 w.heap.size (by omega) (by omega) hbx (hks.keep (.of_below_any hB0))) keepAt_t (keepAt_b (by omega) (by omega)) (Below.refl _ _) (fun _=>rfl)
    (fun pre W=>(Boxed W (w.heap.size+1) 3 (.int .i64 (wrap64 ((1+c.s.size+weightO (pre.map Kid.pair):Nat):Int))))∧Below w.heap.size w W∧W0.heap.size≤W.heap.size)
    (fun _ _ _=>False)
    (OwnFrom.and (Own.from (boxed_own _ _ _) _) (OwnFrom.and (ownFrom_below (Nat.le_refl _) (by omega)) (fun _ _ _ _ hs hg _=>Nat.le_trans hs hg.size)))
    (fun _ _ _ _ _ hs _ _=>hs)
    ⟨by simp only [List.map_nil,weightO,Nat.add_zero];rw [wrap64_small (by omega) (by omega)];simp only [Int.natCast_add,Int.natCast_one];exact hn,hB0,Nat.le_refl _⟩
    (fun x a' W=>∃Bx,W0.heap.size≤Bx∧ValAt W Bx 0 x.kv∧a'= { tmps:= #[.agg #[.int .u8 c.k, .int .i64 c.n, .string c.s, .slice c.la c.ll c.lc, .slice c.oa c.ol c.oc], .pointer (some ⟨w.heap.size,0,none⟩), .int .i64 0, .pointer (some ⟨w.heap.size+1,0,none⟩), .string x.kk, .pointer (some ⟨Bx,0,none⟩), .pointer (some ⟨w.heap.size,2,none⟩), .string c.s, .int .i64 (c.s.size:Int), .int .i64 (1+(c.s.size:Int)), .agg #[.int .u8 c.k, .int .i64 c.n, .string c.s, .slice c.la c.ll c.lc, .slice c.oa c.ol c.oc], .func (.func 111) #[] #[.pointer (some ⟨w.heap.size+1+1,0,none⟩)], .string x.kk, .agg #[.int .u8 x.kv.k, .int .i64 x.kv.n, .string x.kv.s, .slice x.kv.la x.kv.ll x.kv.lc, .slice x.kv.oa x.kv.ol x.kv.oc],undef,undef,undef,undef,undef,undef,undef,undef],defers:= [] })
    (fun x a' _ X Y row hs hg hr=>by
      obtain ⟨Bx,h1,h2,h3⟩:=hs
      exact ⟨Bx,h1,ValAt.own (β:=Unit) Bx 0 (fun _=>x.kv) () X Y row h2 hg (fun r e=>(hr r e).2),h3⟩)
    ?assign ?body ?done ?stop
  case assign=>
    rintro l pre x W K ⟨bS1,hB1,hz1⟩ hK
    dsimp only [Kid.encs]
    gi_wp2
    exact hK _ _ ((KeepsOthers.alloc _ _).from _) (KeepAt.alloc W _ (by omega) (by omega)) ⟨bS1.alloc _,hB1.alloc hB1.size _,by simp;omega⟩ ⟨W.heap.size,hz1,valAt_new W x.kv _,rfl⟩
  case body=>
    rintro l pre x a' W hl _ ⟨bS1,hB1,hz1⟩ ⟨Bx,hBx,vX,rfl⟩ hlt
    have cS:=bS1.cell
    have fS:=bS1.frozen
    have r0:W.cell? ⟨Bx,0,none⟩=some (.int .u8 x.kv.k):=vX.c0
    have r1:W.cell? ⟨Bx,1,none⟩=some (.int .i64 x.kv.n):=vX.c1
    have r2:W.cell? ⟨Bx,2,none⟩=some (.string x.kv.s):=vX.c2
    have r3:W.cell? ⟨Bx,3,none⟩=some (.slice x.kv.la x.kv.ll x.kv.lc):=vX.c3
    have r4:W.cell? ⟨Bx,4,none⟩=some (.slice x.kv.oa x.kv.ol x.kv.oc):=vX.c4
    have hmx:Tryz.prog.follows .mixedOrders=true:=by kernel_rfl
    have hcal:=fun (W':World) (h:Below w.heap.size w W')=>x.p.1 x.p.2 W' x.kv (x.is.later_ h)
    have HC:=Lib.hid hcal
    clear hcal vX
    gi_wp2
    gi_region_with_o (refine ⟨trivial, ?_⟩;gi_at_call 55;refine (CallsIn.inRound l (callsIn_wide.2 (HC.out _ hB1.drew))).mono ?_;rintro e w' ⟨rfl,hb⟩;have cS':=(hb.cell (p:=⟨w.heap.size+1,0,none⟩) (by exact bS1.lt)).trans cS;have fS':=(hb.frozen (p:=⟨w.heap.size+1,0,none⟩) (by exact bS1.lt)).trans fS)
    all_goals gi_wp2
    all_goals
      have hb':=(Below.refl W.heap.size W).drew.trans hb
      have hbx':Boxed w' (w.heap.size+1) 3 _:=(hb'.block _ bS1.lt).trans bS1
      exact ⟨((keepsOthers_below hb').trans (KeepsOthers.setCell _ _ _)).from _,(KeepAt.of_below hb' (by omega) (by omega)).trans (KeepAt.setCell _ _ (by simp) (by simp)),by rw [num_eq (wsum ((1+c.s.size+weightO (List.map Kid.pair (pre++ [x])):Nat):Int) (1+(c.s.size:Int)+(weightO (List.map Kid.pair pre):Int)) x.kk.size x.v.weight (by rw [kids_snoc];omega))];exact hbx'.set _,(hB1.on hb' hB1.size).setCell (by simp) _,by have:=hb'.size;simp [World.setCell];omega⟩
  case done=>
    rintro D ys W hD rfl ⟨bS,hB,hz1⟩ hK
    have cS:=bS.cell
    gi_wp2
    refine ⟨by simp, .inl ⟨_,_,rfl,run_takeDeferred hK, ?_⟩⟩
    refine ⟨_,results_tmp (t:=2) rfl _ _ _, ?_,hB.trans ((Below.refl _ _).grown (grownBy_putObj' _ D _) hB.size (fun k e=>by cases e;omega))⟩
    show Ending.returned (.int .i64 (wrap64 (1+(c.s.size:Int)+(weightO (pairs l o):Nat))))=_
    exact ret_int (by simp only [pairs_weight,V.weight];rw [wrap64_small (by omega) (by omega)];omega)
  case stop=>
    rintro D c' pre W _ _ h _
    exact h.elim
end Go.Proofs.YtgcfhkceejcliaaGreatDoor
namespace Go.Proofs.YtgcfhkceejcliaaGreatDoor
open Go.RowKit Go.Shelf
attribute [local go_sem] Oper.semAt_some
def VDeep (v:V):Prop:=v.weight≤4611686018427387904→∀(w:World) (c:VC),IsVal w w.heap.size v c→
    Calls Tryz.prog 54 #[.agg #[.int .u8 c.k, .int .i64 c.n, .string c.s, .slice c.la c.ll c.lc, .slice c.oa c.ol c.oc]] w fun e w'=>e= .returned (.int .i64 v.deep)∧Below w.heap.size w w'
theorem kids_deep {w:World} {P:V→Prop} (pre:List (Kid w P)) (x:Kid w P):((deepO ((pre++ [x]).map Kid.pair):Nat):Int)=max ((deepO (pre.map Kid.pair):Nat):Int) ((x.v.deep:Int)+1):=by
  rw [List.map_append,deepO_append];simp only [List.map_cons,List.map_nil,deepO,deepF_eq,Kid.pair];omega
theorem pairs_deep (l:List V) (o:List (ByteArray×V)):deepO (pairs l o)=max (deepL l) (deepO o):=by
  unfold pairs
  rw [deepO_append]
  congr 1
  induction l with
  |nil=>rfl
  |cons v r ih=>simp only [List.map_cons,deepO,deepF_eq,deepL,ih]
set_option maxHeartbeats 4000000 in
set_option maxRecDepth 100000 in
theorem valDeep_any (a:V):VDeep a:=by
  induction a using V.ind with
  |h k n s l o ihl iho=>
  intro hw w c ha
  obtain ⟨rfl,rfl,rfl,cbd,hl,ho⟩:=ha.lists
  have hw0:1+c.s.size+weightL l+weightO o≤4611686018427387904:=by simpa only [V.weight] using hw
  obtain ⟨ks,hks,hpr⟩:=kids_of w (fun v=>VDeep v∧v.weight≤4611686018427387904) l o c hl ho
    (fun v hv=>⟨ihl v hv,by obtain ⟨i,hi,rfl⟩:=List.getElem_of_mem hv;have:=weightL_mem l i hi;omega⟩)
    (fun f hf=>⟨iho f hf,by obtain ⟨i,hi,rfl⟩:=List.getElem_of_mem hf;have:=weightO_mem o i hi;omega⟩)
  clear ihl iho ha hl ho
  have c5:=cbd.s1
  refine callsIn_wide (n:=3)|>.1 ?_
  refine callsIn_of_wp_marks Tryz.func54 rfl trivial ?_ rfl
  simp only [Tryz.ntmps54,List.size_toArray,List.length_cons,List.length_nil,Nat.reduceAdd,Nat.reduceSub,Array.replicate_succ,Array.replicate_zero,List.push_toArray,List.append_toArray,List.nil_append,List.cons_append]
  gi_wp2_with (refine ⟨trivial, ?_⟩;gi_at_call 89;refine (within_in _ _ trivial rfl c _).mono ?_;rintro e w' ⟨rfl,rfl⟩)
  obtain ⟨W0,hW0⟩:∃W0,(((w.alloc (.cells #[.int .u8 c.k, .int .i64 c.n, .string c.s, .slice c.la c.ll c.lc, .slice c.oa c.ol c.oc] 33)).alloc (.cells #[.int .i64 0] 3)).alloc (.cells #[.int .u8 c.k, .int .i64 c.n, .string c.s, .slice c.la c.ll c.lc, .slice c.oa c.ol c.oc] 33))=W0:=⟨_,rfl⟩
  have hB0:Below w.heap.size w W0:=by rw [←hW0];exact (((Below.refl _ _).alloc (Nat.le_refl _) _).alloc (by simp) _).alloc (by simp;omega) _
  have hsz:W0.heap.size=w.heap.size+3:=by rw [←hW0];simp
  have hbx:ValAt W0 (w.heap.size+1+1) 0 c:=by
    rw [←hW0]
    have h:=valAt_new ((w.alloc (.cells #[.int .u8 c.k, .int .i64 c.n, .string c.s, .slice c.la c.ll c.lc, .slice c.oa c.ol c.oc] 33)).alloc (.cells #[.int .i64 0] 3)) c 33
    simp only [World.size_alloc] at h
    exact h
  have hn:Boxed W0 (w.heap.size+1) 3 (.int .i64 0):=by
    rw [←hW0]
    have h:=Boxed.new (w.alloc (.cells #[.int .u8 c.k, .int .i64 c.n, .string c.s, .slice c.la c.ll c.lc, .slice c.oa c.ol c.oc] 33)) 3 (.int .i64 0)
    rw [World.size_alloc] at h
    exact h.alloc _
  rw [hW0]
  clear hW0
  refine wpIn_rangeFunc_ownH (α:=Kid w (fun v=>VDeep v∧v.weight≤4611686018427387904)) rfl (by omega) (gf:=111) (lb:= #[.pointer (some ⟨w.heap.size+1+1,0,none⟩)]) rfl trivial (enters_of Tryz.func111 (by kernel_rfl) rfl)
    (within_stops Fence.wide 2 trivial rfl (by omega) w (fun v=>VDeep v∧v.weight≤4611686018427387904) (w.heap.size+1+1) c cbd ks W0 w.heap.size (by omega) (by omega) hbx (hks.keep (.of_below_any hB0))) keepAt_t (keepAt_b (by omega) (by omega)) (Below.refl _ _) (fun _=>rfl)
    (fun pre W=>(Boxed W (w.heap.size+1) 3 (.int .i64 ((deepO (pre.map Kid.pair):Nat):Int)))∧Below w.heap.size w W∧W0.heap.size≤W.heap.size)
    (fun _ _ _=>False)
    (OwnFrom.and (Own.from (boxed_own _ _ _) _) (OwnFrom.and (ownFrom_below (Nat.le_refl _) (by omega)) (fun _ _ _ _ hs hg _=>Nat.le_trans hs hg.size)))
    (fun _ _ _ _ _ hs _ _=>hs)
    ⟨by simp only [List.map_nil,deepO];exact hn,hB0,Nat.le_refl _⟩
    (fun x a' W=>∃Bx,W0.heap.size≤Bx∧ValAt W Bx 0 x.kv∧a'= { tmps:= #[.agg #[.int .u8 c.k, .int .i64 c.n, .string c.s, .slice c.la c.ll c.lc, .slice c.oa c.ol c.oc], .pointer (some ⟨w.heap.size,0,none⟩), .int .i64 0, .pointer (some ⟨w.heap.size+1,0,none⟩),undef, .pointer (some ⟨Bx,0,none⟩), .agg #[.int .u8 c.k, .int .i64 c.n, .string c.s, .slice c.la c.ll c.lc, .slice c.oa c.ol c.oc], .func (.func 111) #[] #[.pointer (some ⟨w.heap.size+1+1,0,none⟩)], .string x.kk, .agg #[.int .u8 x.kv.k, .int .i64 x.kv.n, .string x.kv.s, .slice x.kv.la x.kv.ll x.kv.lc, .slice x.kv.oa x.kv.ol x.kv.oc],undef,undef,undef,undef,undef,undef],defers:= [] })
    (fun x a' _ X Y row hs hg hr=>by
      obtain ⟨Bx,h1,h2,h3⟩:=hs
      exact ⟨Bx,h1,ValAt.own (β:=Unit) Bx 0 (fun _=>x.kv) () X Y row h2 hg (fun r e=>(hr r e).2),h3⟩)
    ?assign ?body ?done ?stop
  case assign=>
    rintro l pre x W K ⟨bS1,hB1,hz1⟩ hK
    dsimp only [Kid.encs]
    gi_wp2
    exact hK _ _ ((KeepsOthers.alloc _ _).from _) (KeepAt.alloc W _ (by omega) (by omega)) ⟨bS1.alloc _,hB1.alloc hB1.size _,by simp;omega⟩ ⟨W.heap.size,hz1,valAt_new W x.kv _,rfl⟩
  case body=>
    rintro l pre x a' W hl _ ⟨bS1,hB1,hz1⟩ ⟨Bx,hBx,vX,rfl⟩ hlt
    have cS:=bS1.cell
    have fS:=bS1.frozen
    have r0:W.cell? ⟨Bx,0,none⟩=some (.int .u8 x.kv.k):=vX.c0
    have r1:W.cell? ⟨Bx,1,none⟩=some (.int .i64 x.kv.n):=vX.c1
    have r2:W.cell? ⟨Bx,2,none⟩=some (.string x.kv.s):=vX.c2
    have r3:W.cell? ⟨Bx,3,none⟩=some (.slice x.kv.la x.kv.ll x.kv.lc):=vX.c3
    have r4:W.cell? ⟨Bx,4,none⟩=some (.slice x.kv.oa x.kv.ol x.kv.oc):=vX.c4
    have hmx:Tryz.prog.follows .mixedOrders=true:=by kernel_rfl
    have hcal:=fun (W':World) (h:Below w.heap.size w W')=>x.p.1 x.p.2 W' x.kv (x.is.later_ h)
    have HC:=Lib.hid hcal
    clear hcal vX
    have hd1:=V.deep_lt x.v
    have hd2:=x.p.2
    have e1:IntKind.i64.wrap ((x.v.deep:Int)+1)=(x.v.deep:Int)+1:=IntWalk.i64_in _ (by omega)
    gi_wp2
    gi_region_with_o (refine ⟨trivial, ?_⟩;gi_at_call 54;refine (CallsIn.inRound l (callsIn_wide.2 (HC.out _ hB1.drew))).mono ?_;rintro e w' ⟨rfl,hb⟩;have cS':=(hb.cell (p:=⟨w.heap.size+1,0,none⟩) (by exact bS1.lt)).trans cS;have fS':=(hb.frozen (p:=⟨w.heap.size+1,0,none⟩) (by exact bS1.lt)).trans fS)
    all_goals gi_wp2
    all_goals
      have hb':=(Below.refl W.heap.size W).drew.trans hb
      have hbx':Boxed w' (w.heap.size+1) 3 _:=(hb'.block _ bS1.lt).trans bS1
      exact ⟨((keepsOthers_below hb').trans (KeepsOthers.setCell _ _ _)).from _,(KeepAt.of_below hb' (by omega) (by omega)).trans (KeepAt.setCell _ _ (by simp) (by simp)),by first|(rw [num_eq (show ((deepO ((pre++ [x]).map Kid.pair):Nat):Int)=((deepO (pre.map Kid.pair):Nat):Int) from by rw [kids_deep];omega)];exact hbx'.set _)|(rw [num_eq (show ((deepO ((pre++ [x]).map Kid.pair):Nat):Int)=(x.v.deep:Int)+1 from by rw [kids_deep];omega)];exact hbx'.set _),(hB1.on hb' hB1.size).setCell (by simp) _,by have:=hb'.size;simp [World.setCell];omega⟩
  case done=>
    rintro D ys W hD rfl ⟨bS,hB,hz1⟩ hK
    have cS:=bS.cell
    gi_wp2
    refine ⟨by simp, .inl ⟨_,_,rfl,run_takeDeferred hK, ?_⟩⟩
    refine ⟨_,results_tmp (t:=2) rfl _ _ _, ?_,hB.trans ((Below.refl _ _).grown (grownBy_putObj' _ D _) hB.size (fun k e=>by cases e;omega))⟩
    show Ending.returned (.int .i64 ((deepO (pairs l o):Nat):Int))=_
    exact ret_int (by simp only [pairs_deep,V.deep])
  case stop=>
    rintro D c' pre W _ _ h _
    exact h.elim
end Go.Proofs.YtgcfhkceejcliaaGreatDoor
namespace Go.Proofs.YtgcfhkceejcliaaGreatDoor
open Go.RowKit
theorem zform {w':World} {A:Prop} {r:Option V} {er:Int} {d:VC} {m m':Nat} (e:m=m') (h:Hid (A∨∃z,r=some z∧er=0∧IsVal (only (fun b=>m≤b) w') w'.heap.size z d)):Hid (A∨∃z,(r=some z∧er=0)∧IsVal (only (fun b=>m'≤b) w') w'.heap.size z d):=by
  subst e
  exact h.out.imp_right fun ⟨z,h1,h2,h3⟩=>⟨z,⟨h1,h2⟩,h3⟩
theorem IsSteps.tail {w:World} {B:Nat} {s:St} {r:List St} {b q n c:Nat} (h:IsSteps w B (s::r) (some ⟨b,q,none⟩) n c) (a':Option Addr) (c':Nat) (hc:n - 1≤c') (hc':c'≤9223372036854775807) (ha:1<n→a'=some ⟨b,q+3,none⟩):IsSteps w B r a' (n - 1) c':=by
  obtain ⟨h1,h2,h3,h4,b',q',h5,h6⟩:=h
  rw [List.length_cons] at h1
  obtain ⟨e1,e2⟩:=h5 (by omega)
  injection e1 with e1;injection e1 with e1 e3
  subst e1 e3
  refine ⟨by omega,hc,hc',by omega,b,q+3,fun hp=>⟨ha (by omega),e2⟩,fun i hi=> ?_⟩
  have:=h6 (i+1) (by rw [List.length_cons];omega)
  rw [show q+3+i*3=q+(i+1)*3 by omega]
  simpa using this
set_option maxHeartbeats 4000000 in
set_option maxRecDepth 100000 in
theorem put_nil (w:World) (vk vn:Int) (vs:ByteArray) (la:Option Addr) (ll lc:Nat) (oa:Option Addr) (ol oc:Nat) (v:V) (_hv:IsVal w w.heap.size v ⟨vk,vn,vs,la,ll,lc,oa,ol,oc⟩) (a:Option Addr) (n c:Nat) (xk xn:Int) (xs:ByteArray) (xa:Option Addr) (xl xc:Nat) (ya:Option Addr) (yl yc:Nat) (x:V) (hx:IsVal w w.heap.size x ⟨xk,xn,xs,xa,xl,xc,ya,yl,yc⟩) (hn:n=0):
    Calls Tryz.prog 86 #[.agg #[.int .u8 vk, .int .i64 vn, .string vs, .slice la ll lc, .slice oa ol oc], .slice a n c, .agg #[.int .u8 xk, .int .i64 xn, .string xs, .slice xa xl xc, .slice ya yl yc]] w (GetPost w (putP v [] x)):=by
  have HX:=Lib.hid hx
  have HB:=Lib.hid (PB.start w ⟨vk,vn,vs,la,ll,lc,oa,ol,oc⟩ ⟨xk,xn,xs,xa,xl,xc,ya,yl,yc⟩ 33 33 33)
  have HC:Hid (∀W,Below w.heap.size w W→Calls Tryz.prog 103 #[.agg #[.int .u8 xk, .int .i64 xn, .string xs, .slice xa xl xc, .slice ya yl yc]] W (NewVal W x)):=fun W hW=>copyIH x W ⟨xk,xn,xs,xa,xl,xc,ya,yl,yc⟩ (HX.out.later_ hW)
  subst hn
  clear hx
  go_enter Tryz.func86,Tryz.ntmps86
  generalize hQ0:bodyPost _ _ _=Q0
  have HQ:=Lib.hid hQ0
  clear hQ0
  go_wp2_with fail
  refine (HC.out _ HB.out.below).mono ?_
  rintro e w4 ⟨⟨d,rfl,hI4⟩,hb4⟩
  have B2:=HB.out.next hb4 (by simp)
  obtain ⟨v0,v1,v2,v3,v4⟩:=row5 B2.v.at_
  obtain ⟨x0,x1,x2,x3,x4⟩:=row5 B2.x.at_
  obtain ⟨r0,r1,r2,r3,r4⟩:=row5 B2.r.at_
  have f0:=B2.r.fr 0;have f1:=B2.r.fr 1;have f2:=B2.r.fr 2;have f3:=B2.r.fr 3;have f4:=B2.r.fr 4
  have z0:=B2.v.lt;have z1:=B2.x.lt;have z2:=B2.r.lt
  have HB2:=Lib.hid B2
  have HI:=Lib.hid hI4
  clear B2 hI4 hb4
  go_wp2_with fail
  rw [←HQ.out]
  have ST:=HB2.out.result d
  exact put_some ST.1 ((isVal_far (base:=w.heap.size+1+1+1) (HI.out.sub (shows_step fun k hk _=>⟨by simpa using hk,rfl⟩)) (setV_step w4 (w.heap.size+1+1) 0 d) (by omega)).sub (shows_step fun k hk _=>⟨by omega,rfl⟩)) ST.2 rfl rfl rfl
set_option maxHeartbeats 20000000 in
set_option maxRecDepth 100000 in
theorem put_one (w:World) (vk vn:Int) (vs:ByteArray) (la:Option Addr) (ll lc:Nat) (oa:Option Addr) (ol oc:Nat) (v:V) (hv:IsVal w w.heap.size v ⟨vk,vn,vs,la,ll,lc,oa,ol,oc⟩) (a:Option Addr) (n c:Nat) (xk xn:Int) (xs:ByteArray) (xa:Option Addr) (xl xc:Nat) (ya:Option Addr) (yl yc:Nat) (x:V) (hx:IsVal w w.heap.size x ⟨xk,xn,xs,xa,xl,xc,ya,yl,yc⟩) (s:St) (r:List St) (b q:Nat) (ha:a=some ⟨b,q,none⟩) (hp:IsSteps w w.heap.size (s::r) a n c) (IH:∀(W:World) (y:V) (d:VC) (a:Option Addr) (n c:Nat),IsVal W W.heap.size y d→IsSteps W W.heap.size r a n c→IsVal W W.heap.size x ⟨xk,xn,xs,xa,xl,xc,ya,yl,yc⟩→Calls Tryz.prog 86 #[.agg #[.int .u8 d.k, .int .i64 d.n, .string d.s, .slice d.la d.ll d.lc, .slice d.oa d.ol d.oc], .slice a n c, .agg #[.int .u8 xk, .int .i64 xn, .string xs, .slice xa xl xc, .slice ya yl yc]] W (GetPost W (putP y r x))) (hc:c=1):
    Calls Tryz.prog 86 #[.agg #[.int .u8 vk, .int .i64 vn, .string vs, .slice la ll lc, .slice oa ol oc], .slice a n c, .agg #[.int .u8 xk, .int .i64 xn, .string xs, .slice xa xl xc, .slice ya yl yc]] w (GetPost w (putP v (s::r) x)):=by
  subst ha
  have k1:=hp.few;have k2:=hp.max;have k3:=hp.cap;have k4:=hp.len
  rw [List.length_cons] at k4
  have HTL:Hid (IsSteps w w.heap.size r (some ⟨b,q,none⟩) 0 0):=by
    have:=hp.tail (some ⟨b,q,none⟩) 0 (by omega) (by omega) (by omega)
    rwa [show n - 1=0 by omega] at this
  obtain ⟨b',q',_,e1,hbB,hs,hsb⟩:=hp.get (k:=0) (by omega)
  injection e1 with e1;injection e1 with e1 e2
  subst e1 e2
  simp only [Nat.zero_mul,Nat.add_zero,List.getElem_cons_zero] at hs hsb
  have HS:=Lib.hid hs
  have HX:=Lib.hid hx
  have HV:=Lib.hid hv
  have IHH:=Lib.hid IH
  have HB:=Lib.hid (PB.start w ⟨vk,vn,vs,la,ll,lc,oa,ol,oc⟩ ⟨xk,xn,xs,xa,xl,xc,ya,yl,yc⟩ 33 33 33)
  obtain ⟨R,hR⟩:∃R,putP v (s::r) x=R:=⟨_,rfl⟩
  rw [hR]
  have HR:=Lib.hid hR
  have hne:((n:Int)==0)=false:=by simp;omega
  have hnp:0<n:=by omega
  clear hv hx hs hR hp IH k4
  subst hc
  obtain rfl:n=1:=by omega
  clear hne
  go_enter Tryz.func86,Tryz.ntmps86
  generalize hQ0:bodyPost _ _ _=Q0
  have HQ:=Lib.hid hQ0
  clear hQ0
  go_wp2_with fail
  have B:=HB.out
  obtain ⟨W0,hW0⟩:∃W0,(((w.alloc (.cells #[.int .u8 vk, .int .i64 vn, .string vs, .slice la ll lc, .slice oa ol oc] 33)).alloc (.cells #[.int .u8 xk, .int .i64 xn, .string xs, .slice xa xl xc, .slice ya yl yc] 33)).alloc (.cells #[.int .u8 0, .int .i64 0, .string { data:= #[] }, .slice none 0 0, .slice none 0 0] 33))=W0:=⟨_,rfl⟩
  rw [hW0] at B ⊢
  clear HB hW0
  obtain ⟨v0,v1,v2,v3,v4⟩:=row5 B.v.at_
  obtain ⟨x0,x1,x2,x3,x4⟩:=row5 B.x.at_
  obtain ⟨r0,r1,r2,r3,r4⟩:=row5 B.r.at_
  have f0:=B.r.fr 0;have f1:=B.r.fr 1;have f2:=B.r.fr 2;have f3:=B.r.fr 3;have f4:=B.r.fr 4
  have z0:=B.v.lt;have z1:=B.x.lt;have z2:=B.r.lt
  have hs:=HS.out.keep B.below hbB
  have s0:=hs.c0;have s1:=hs.c1;have s2:=hs.c2
  have hbw:b<W0.heap.size:=World.block_lt_of_cell? W0 _ s0
  have hzs:=B.below.size
  have HBB:=Lib.hid B
  have HC:Hid (∀W,Below W0.heap.size W0.drew W→Calls Tryz.prog 102 #[.agg #[.int .u8 vk, .int .i64 vn, .string vs, .slice la ll lc, .slice oa ol oc], .agg #[.bool s.list, .int .i64 s.i, .string s.key]] W (StepPost w w.heap.size W (stepP v s))):=fun W hW=>step_any W vk vn vs la ll lc oa ol oc v w w.heap.size ((HBB.out.below.trans ((drew_below W0).mono hzs)).trans (hW.mono hzs)) (Nat.le_trans hzs hW.size) HV.out s hsb
  have HFB:Hid (∀W,Below W0.heap.size W0.drew W→W.cell? ⟨w.heap.size,0,none⟩=some (.int .u8 vk)∧W.cell? ⟨w.heap.size,1,none⟩=some (.int .i64 vn)∧W.cell? ⟨w.heap.size,2,none⟩=some (.string vs)∧W.cell? ⟨w.heap.size,3,none⟩=some (.slice la ll lc)∧W.cell? ⟨w.heap.size,4,none⟩=some (.slice oa ol oc)∧W.cell? ⟨b,q,none⟩=some (.bool s.list)∧W.cell? ⟨b,q+1,none⟩=some (.int .i64 s.i)∧W.cell? ⟨b,q+2,none⟩=some (.string s.key)):=by
    intro W hW
    have hk:∀b o u,b<W0.heap.size→W0.cell? ⟨b,o,none⟩=some u→W.cell? ⟨b,o,none⟩=some u:=fun b o u hb h=>keep_cell hW (keep_cell (drew_below W0) h hb) hb
    exact ⟨hk _ _ _ z0 v0,hk _ _ _ z0 v1,hk _ _ _ z0 v2,hk _ _ _ z0 v3,hk _ _ _ z0 v4,hk _ _ _ hbw s0,hk _ _ _ hbw s1,hk _ _ _ hbw s2⟩
  clear B hs
  go_wp2_with fail
  refine wp_region_noPanic ?_
  go_region_held_law (fun W=>W.cell? ⟨w.heap.size,0,none⟩=some (.int .u8 vk)∧W.cell? ⟨w.heap.size,1,none⟩=some (.int .i64 vn)∧W.cell? ⟨w.heap.size,2,none⟩=some (.string vs)∧W.cell? ⟨w.heap.size,3,none⟩=some (.slice la ll lc)∧W.cell? ⟨w.heap.size,4,none⟩=some (.slice oa ol oc)∧W.cell? ⟨b,q,none⟩=some (.bool s.list)∧W.cell? ⟨b,q+1,none⟩=some (.int .i64 s.i)∧W.cell? ⟨b,q+2,none⟩=some (.string s.key))
    ((refine HFB.out _ ?_;(first|(with_reducible exact bl4)|(with_reducible exact Below.refl _ _)|(with_reducible exact below_draw_alloc _ _)|(with_reducible exact Below.set5 bl4 _ _ _ _ _)|(with_reducible exact Below.set5' (Below.alloc bl4 bz4 _) bz4 _ _ _ _ _)|(with_reducible exact Below.alloc bl4 bz4 _))))
    (first
      |(go_at_call 102;(with_reducible refine (HC.out _ (Below.refl _ _)).mono ?_);rintro e w4 h4;obtain ⟨d,kk,er,rfl,hrel,hb4⟩:=StepPost.gen h4;clear h4;have bl4:Below W0.heap.size W0.drew w4:=hb4;have bz4:W0.heap.size≤w4.heap.size:=hb4.size)
      |(go_at_call 102;(with_reducible refine (HC.out _ (below_draw_alloc _ _)).mono ?_);rintro e w4 h4;obtain ⟨d,kk,er,rfl,hrel,hb4⟩:=StepPost.gen h4;clear h4;have bl4:Below W0.heap.size W0.drew w4:=(below_draw_alloc _ _).trans (hb4.mono (by simp));have bz4:W0.heap.size≤w4.heap.size:=bl4.size;have XB:=bc_new_drew hb4;obtain ⟨xc0,xc1,xc2,xc3,xc4⟩:=row5 XB.at_;have xg0:=XB.fr 0;have xg1:=XB.fr 1;have xg2:=XB.fr 2;have xg3:=XB.fr 3;have xg4:=XB.fr 4;have hxlt:=XB.lt))
  all_goals
    (first
      |((with_reducible refine gen_world (P:=fun W=>BC W w4.heap.size (vcells d)∧Below W0.heap.size W0.drew W∧W0.heap.size≤w4.heap.size) (filled1 bl4 bz4 d _) ?_);rintro W1 ⟨YF,hbW, -⟩;generalize w4.heap.size=yb at YF ⊢)
      |((with_reducible refine gen_world (P:=fun W=>BC W W0.heap.size (vcells d)∧Below W0.heap.size W0.drew W∧W0.heap.size≤W0.heap.size) (filled2 bl4 d XB) ?_);rintro W1 ⟨YF,hbW, -⟩;generalize W0.heap.size=yb at YF ⊢))
    have B2:=HBB.out.next ((drew_below W0).trans hbW) (Nat.succ_le_of_lt z2)
    clear v0 v1 v2 v3 v4 x0 x1 x2 x3 x4 r0 r1 r2 r3 r4 f0 f1 f2 f3 f4 s0 s1 s2 hb4 bl4 HC HFB
    obtain ⟨v0,v1,v2,v3,v4⟩:=row5 B2.v.at_
    obtain ⟨x0,x1,x2,x3,x4⟩:=row5 B2.x.at_
    obtain ⟨r0,r1,r2,r3,r4⟩:=row5 B2.r.at_
    have f0:=B2.r.fr 0;have f1:=B2.r.fr 1;have f2:=B2.r.fr 2;have f3:=B2.r.fr 3;have f4:=B2.r.fr 4
    have z0:=B2.v.lt;have z1:=B2.x.lt;have z2:=B2.r.lt
    obtain ⟨y0,y1,y2,y3,y4⟩:=row5 YF.at_
    have ylt:=YF.lt
    have z2B1:=B2.r.lt
    have hs:=HS.out.keep B2.below hbB
    have s0:=hs.c0;have s1:=hs.c1;have s2:=hs.c2
    have hbw1:b<W1.heap.size:=World.block_lt_of_cell? W1 _ s0
    have hzs1:=B2.below.size
    have HB2:=Lib.hid B2
    clear B2 YF hbW hs
    rcases hrel.out with ⟨hst,rfl⟩|⟨qq,hst,rfl,rfl,hI⟩
    · obtain rfl:R=none:=by rw [←HR.out,putP,hst]
      clear hst
      go_wp2_with fail
      rw [←HQ.out]
      have ST:=HB2.out.result ⟨0,0, { data:= #[] },none,0,0,none,0,0⟩
      exact put_none ST.1 ST.2 rfl rfl rfl
    · have HST:=Lib.hid hst
      have HI:=Lib.hid hI
      clear hst hI hrel
      have HC2:Hid (∀W,Below W1.heap.size W1.drew W→Calls Tryz.prog 86 #[.agg #[.int .u8 d.k, .int .i64 d.n, .string d.s, .slice d.la d.ll d.lc, .slice d.oa d.ol d.oc], .slice (some ⟨b,q,none⟩) 0 0, .agg #[.int .u8 xk, .int .i64 xn, .string xs, .slice xa xl xc, .slice ya yl yc]] W (GetPost W (putP qq.1 r x))):=fun W hW=>by
        have hbl:Below w.heap.size w W:=(HB2.out.below.trans ((drew_below W1).mono hzs1)).trans (hW.mono hzs1)
        exact IHH.out W qq.1 d _ _ _ ((HI.out.keep hbl).more hbl.size) (HTL.out.later_ hbl) (HX.out.later_ hbl)
      have HFB2:Hid (∀W,Below W1.heap.size W1.drew W→W.cell? ⟨yb,0,none⟩=some (.int .u8 d.k)∧W.cell? ⟨yb,1,none⟩=some (.int .i64 d.n)∧W.cell? ⟨yb,2,none⟩=some (.string d.s)∧W.cell? ⟨yb,3,none⟩=some (.slice d.la d.ll d.lc)∧W.cell? ⟨yb,4,none⟩=some (.slice d.oa d.ol d.oc)∧W.cell? ⟨w.heap.size+1,0,none⟩=some (.int .u8 xk)∧W.cell? ⟨w.heap.size+1,1,none⟩=some (.int .i64 xn)∧W.cell? ⟨w.heap.size+1,2,none⟩=some (.string xs)∧W.cell? ⟨w.heap.size+1,3,none⟩=some (.slice xa xl xc)∧W.cell? ⟨w.heap.size+1,4,none⟩=some (.slice ya yl yc)):=by
        intro W hW
        have hk:∀b o u,b<W1.heap.size→W1.cell? ⟨b,o,none⟩=some u→W.cell? ⟨b,o,none⟩=some u:=fun b o u hb h=>keep_cell hW (keep_cell (drew_below W1) h hb) hb
        exact ⟨hk _ _ _ ylt y0,hk _ _ _ ylt y1,hk _ _ _ ylt y2,hk _ _ _ ylt y3,hk _ _ _ ylt y4,hk _ _ _ z1 x0,hk _ _ _ z1 x1,hk _ _ _ z1 x2,hk _ _ _ z1 x3,hk _ _ _ z1 x4⟩
      obtain ⟨PR,hPR⟩:∃PR,putP qq.1 r x=PR:=⟨_,rfl⟩
      rw [hPR] at HC2
      have HPR:=Lib.hid hPR
      clear hPR
      go_wp2_with fail
      refine wp_region_noPanic ?_
      go_region_held_law (fun W=>W.cell? ⟨yb,0,none⟩=some (.int .u8 d.k)∧W.cell? ⟨yb,1,none⟩=some (.int .i64 d.n)∧W.cell? ⟨yb,2,none⟩=some (.string d.s)∧W.cell? ⟨yb,3,none⟩=some (.slice d.la d.ll d.lc)∧W.cell? ⟨yb,4,none⟩=some (.slice d.oa d.ol d.oc)∧W.cell? ⟨w.heap.size+1,0,none⟩=some (.int .u8 xk)∧W.cell? ⟨w.heap.size+1,1,none⟩=some (.int .i64 xn)∧W.cell? ⟨w.heap.size+1,2,none⟩=some (.string xs)∧W.cell? ⟨w.heap.size+1,3,none⟩=some (.slice xa xl xc)∧W.cell? ⟨w.heap.size+1,4,none⟩=some (.slice ya yl yc))
        ((refine HFB2.out _ ?_;(first|(with_reducible exact bl5)|(with_reducible exact Below.refl _ _)|(with_reducible exact below_draw_alloc _ _)|(with_reducible exact Below.set5 bl5 _ _ _ _ _)|(with_reducible exact Below.set5' (Below.alloc bl5 bz5 _) bz5 _ _ _ _ _)|(with_reducible exact Below.alloc bl5 bz5 _))))
        (first
          |(go_at_call 86;(with_reducible refine (HC2.out _ (Below.refl _ _)).mono ?_);rintro e w5 h5;obtain ⟨dz,ez,rfl,hrz,hb5⟩:=GetPost.gen h5;clear h5;have hz:=zform (m':=W1.heap.size) rfl hrz;have bl5:Below W1.heap.size W1.drew w5:=hb5;have bz5:W1.heap.size≤w5.heap.size:=hb5.size)
          |(go_at_call 86;(with_reducible refine (HC2.out _ (below_draw_alloc _ _)).mono ?_);rintro e w5 h5;obtain ⟨dz,ez,rfl,hrz,hb5⟩:=GetPost.gen h5;clear h5;have hz:=zform (m':=W1.heap.size+1) (show (W1.alloc _).heap.size=_ by simp) hrz;have bl5:Below W1.heap.size W1.drew w5:=(below_draw_alloc _ _).trans (hb5.mono (by simp));have bz5:W1.heap.size≤w5.heap.size:=bl5.size;have ZB:=bc_new_drew hb5;obtain ⟨xc0,xc1,xc2,xc3,xc4⟩:=row5 ZB.at_;have xg0:=ZB.fr 0;have xg1:=ZB.fr 1;have xg2:=ZB.fr 2;have xg3:=ZB.fr 3;have xg4:=ZB.fr 4;have hxlt:=ZB.lt))
      all_goals
        (first
          |((with_reducible refine gen_world (P:=fun W=>(BC W w5.heap.size (vcells dz)∧Below W1.heap.size W1.drew W∧W1.heap.size≤w5.heap.size)∧Hid ((PR=none∧ez=30)∨∃z,(PR=some z∧ez=0)∧IsVal (only (fun b=>W1.heap.size≤b) W) W.heap.size z dz)) (filledZ1 bl5 bz5 dz _ hz) ?_);rintro W2 ⟨⟨ZF,hbW, -⟩,hzz⟩;generalize w5.heap.size=zb at ZF ⊢)
          |((with_reducible refine gen_world (P:=fun W=>(BC W W1.heap.size (vcells dz)∧Below W1.heap.size W1.drew W∧W1.heap.size≤W1.heap.size)∧Hid ((PR=none∧ez=30)∨∃z,(PR=some z∧ez=0)∧IsVal (only (fun b=>W1.heap.size≤b) W) W.heap.size z dz)) (filledZ2 bl5 dz ZB hz) ?_);rintro W2 ⟨⟨ZF,hbW, -⟩,hzz⟩;generalize W1.heap.size=zb at ZF ⊢))
        have B3:=HB2.out.next ((drew_below W1).trans hbW) (Nat.succ_le_of_lt z2)
        clear v0 v1 v2 v3 v4 x0 x1 x2 x3 x4 r0 r1 r2 r3 r4 f0 f1 f2 f3 f4 s0 s1 s2 y0 y1 y2 y3 y4 HC2 HFB2
        obtain ⟨v0,v1,v2,v3,v4⟩:=row5 B3.v.at_
        obtain ⟨x0,x1,x2,x3,x4⟩:=row5 B3.x.at_
        obtain ⟨r0,r1,r2,r3,r4⟩:=row5 B3.r.at_
        have f0:=B3.r.fr 0;have f1:=B3.r.fr 1;have f2:=B3.r.fr 2;have f3:=B3.r.fr 3;have f4:=B3.r.fr 4
        have z0:=B3.v.lt;have z1:=B3.x.lt;have z2:=B3.r.lt
        obtain ⟨e0,e1,e2,e3,e4⟩:=row5 ZF.at_
        have elt:=ZF.lt
        have hzs2:=B3.below.size
        have hzs3:W1.heap.size≤W2.heap.size:=hbW.size
        have hs:=HS.out.keep B3.below hbB
        have HB3:=Lib.hid B3
        clear B3
        rcases hzz.out with ⟨hpz,rfl⟩|⟨z,⟨hpz,rfl⟩,hIz⟩
        · obtain rfl:R=none:=by rw [←HR.out,putP,HST.out];simp only [];rw [HPR.out,hpz]
          clear hpz hs hzz ZF hbW
          go_wp2_with fail
          rw [←HQ.out]
          have ST:=HB3.out.result ⟨0,0, { data:= #[] },none,0,0,none,0,0⟩
          exact put_none ST.1 ST.2 rfl rfl rfl
        · have hR:R=some (if s.list=true then v.setL qq.2 z else v.setO qq.2 z):=by rw [←HR.out,putP,HST.out];simp only [];rw [HPR.out,hpz]
          have HRR:=Lib.hid hR
          have HIZ:=Lib.hid hIz
          have HSS:=Lib.hid hs
          have HC3:Hid (Calls Tryz.prog 103 #[.agg #[.int .u8 vk, .int .i64 vn, .string vs, .slice la ll lc, .slice oa ol oc]] W2 (CopyPost W2 vk vn vs v.ls v.os)):=copy_any W2 v vk vn vs la ll lc oa ol oc ((HV.out.keep HB3.out.below).more hzs2)
          have HEB:=Lib.hid ZF
          clear hpz hR hIz hzz hbW hs ZF
          rcases stepP_some HST.out with ⟨hsl,hkd,_,hK,_⟩|⟨hsl,hkd,_,hK,_⟩
          · obtain ⟨K,hKK⟩:∃K,qq.2=K:=⟨_,rfl⟩
            rw [hKK] at hK HRR ⊢
            have HK:=Lib.hid hK
            have HSL:=Lib.hid hsl
            clear hkd hK hKK hsl
            go_wp2_with fail
            refine HC3.out.mono ?_
            rintro e w7 ⟨⟨a0,m0,c0,a1,m1,c1,cl,co,rfl,hF⟩,hb7⟩
            have B4:=HB3.out.next hb7 (Nat.succ_le_of_lt z2)
            have hs:=HSS.out.keep hb7 (by omega)
            obtain ⟨g,eg,hgb,hbc⟩:=hF.ownL.row (.inl (by have:=hF.len;have:=HK.out;omega))
            subst eg
            have hat:=valAt_flat hbc (i:=K) (by rw [hF.ll];exact HK.out)
            have hKm:K<m0:=by rw [hF.len];exact HK.out
            have q0:=hat.c0;have q1:=hat.c1;have q2:=hat.c2;have q3:=hat.c3;have q4:=hat.c4
            have qf:=fun j=>hbc.fr j
            have qlt:=hbc.lt
            have EB:=HEB.out.keep hb7 elt
            clear v0 v1 v2 v3 v4 x0 x1 x2 x3 x4 r0 r1 r2 r3 r4 f0 f1 f2 f3 f4 e0 e1 e2 e3 e4
            obtain ⟨v0,v1,v2,v3,v4⟩:=row5 B4.v.at_
            obtain ⟨x0,x1,x2,x3,x4⟩:=row5 B4.x.at_
            obtain ⟨r0,r1,r2,r3,r4⟩:=row5 B4.r.at_
            have f0:=B4.r.fr 0;have f1:=B4.r.fr 1;have f2:=B4.r.fr 2;have f3:=B4.r.fr 3;have f4:=B4.r.fr 4
            have z0:=B4.v.lt;have z1:=B4.x.lt;have z2:=B4.r.lt
            obtain ⟨e0,e1,e2,e3,e4⟩:=row5 EB.at_
            have elt2:=EB.lt
            have s0:=hs.c0
            rw [HSL.out] at s0
            have hbw7:b<w7.heap.size:=by omega
            have HF:=Lib.hid hF
            have HB4:=Lib.hid B4
            have hgn:g≠w7.heap.size:=by omega
            go_wp2_with fail
            rw [←HQ.out,HRR.out]
            simp only [HSL.out,if_true]
            exact put_finL HV.out HF.out HB4.out HIZ.out hb7 z2B1 hzs3 HK.out rfl rfl rfl
          · obtain ⟨K,hKK⟩:∃K,qq.2=K:=⟨_,rfl⟩
            rw [hKK] at hK HRR ⊢
            have HK:=Lib.hid hK
            have HSL:=Lib.hid hsl
            clear hkd hK hKK hsl
            go_wp2_with fail
            refine HC3.out.mono ?_
            rintro e w7 ⟨⟨a0,m0,c0,a1,m1,c1,cl,co,rfl,hF⟩,hb7⟩
            have B4:=HB3.out.next hb7 (Nat.succ_le_of_lt z2)
            have hs:=HSS.out.keep hb7 (by omega)
            obtain ⟨g,eg,hgb,hbc⟩:=hF.ownO.row (.inl (by have:=hF.len';have:=HK.out;omega))
            subst eg
            have hat:=(fldAt_flat hbc (i:=K) (by rw [hF.lo];exact HK.out)).2
            have hKm:K<m1:=by rw [hF.len'];exact HK.out
            have q0:=hat.c0;have q1:=hat.c1;have q2:=hat.c2;have q3:=hat.c3;have q4:=hat.c4
            have qf:=fun j=>hbc.fr j
            have qlt:=hbc.lt
            have EB:=HEB.out.keep hb7 elt
            clear v0 v1 v2 v3 v4 x0 x1 x2 x3 x4 r0 r1 r2 r3 r4 f0 f1 f2 f3 f4 e0 e1 e2 e3 e4
            obtain ⟨v0,v1,v2,v3,v4⟩:=row5 B4.v.at_
            obtain ⟨x0,x1,x2,x3,x4⟩:=row5 B4.x.at_
            obtain ⟨r0,r1,r2,r3,r4⟩:=row5 B4.r.at_
            have f0:=B4.r.fr 0;have f1:=B4.r.fr 1;have f2:=B4.r.fr 2;have f3:=B4.r.fr 3;have f4:=B4.r.fr 4
            have z0:=B4.v.lt;have z1:=B4.x.lt;have z2:=B4.r.lt
            obtain ⟨e0,e1,e2,e3,e4⟩:=row5 EB.at_
            have elt2:=EB.lt
            have s0:=hs.c0
            rw [HSL.out] at s0
            have hbw7:b<w7.heap.size:=by omega
            have HF:=Lib.hid hF
            have HB4:=Lib.hid B4
            have hgn:g≠w7.heap.size:=by omega
            go_wp2_with fail
            rw [←HQ.out,HRR.out]
            simp only [HSL.out,Bool.false_eq_true,if_false]
            exact put_finO HV.out HF.out HB4.out HIZ.out hb7 z2B1 hzs3 HK.out rfl rfl rfl
set_option maxHeartbeats 20000000 in
set_option maxRecDepth 100000 in
theorem put_more (w:World) (vk vn:Int) (vs:ByteArray) (la:Option Addr) (ll lc:Nat) (oa:Option Addr) (ol oc:Nat) (v:V) (hv:IsVal w w.heap.size v ⟨vk,vn,vs,la,ll,lc,oa,ol,oc⟩) (a:Option Addr) (n c:Nat) (xk xn:Int) (xs:ByteArray) (xa:Option Addr) (xl xc:Nat) (ya:Option Addr) (yl yc:Nat) (x:V) (hx:IsVal w w.heap.size x ⟨xk,xn,xs,xa,xl,xc,ya,yl,yc⟩) (s:St) (r:List St) (b q:Nat) (ha:a=some ⟨b,q,none⟩) (hp:IsSteps w w.heap.size (s::r) a n c) (IH:∀(W:World) (y:V) (d:VC) (a:Option Addr) (n c:Nat),IsVal W W.heap.size y d→IsSteps W W.heap.size r a n c→IsVal W W.heap.size x ⟨xk,xn,xs,xa,xl,xc,ya,yl,yc⟩→Calls Tryz.prog 86 #[.agg #[.int .u8 d.k, .int .i64 d.n, .string d.s, .slice d.la d.ll d.lc, .slice d.oa d.ol d.oc], .slice a n c, .agg #[.int .u8 xk, .int .i64 xn, .string xs, .slice xa xl xc, .slice ya yl yc]] W (GetPost W (putP y r x))) (hc:1<c):
    Calls Tryz.prog 86 #[.agg #[.int .u8 vk, .int .i64 vn, .string vs, .slice la ll lc, .slice oa ol oc], .slice a n c, .agg #[.int .u8 xk, .int .i64 xn, .string xs, .slice xa xl xc, .slice ya yl yc]] w (GetPost w (putP v (s::r) x)):=by
  subst ha
  have k1:=hp.few;have k2:=hp.max;have k3:=hp.cap;have k4:=hp.len
  rw [List.length_cons] at k4
  have HTL:Hid (IsSteps w w.heap.size r (some ⟨b,q+3,none⟩) (n - 1) (c - 1)):=by
    have:=hp.tail (some ⟨b,q+3,none⟩) (c - 1) (by omega) (by omega) (fun _=>rfl)
    exact this
  obtain ⟨b',q',_,e1,hbB,hs,hsb⟩:=hp.get (k:=0) (by omega)
  injection e1 with e1;injection e1 with e1 e2
  subst e1 e2
  simp only [Nat.zero_mul,Nat.add_zero,List.getElem_cons_zero] at hs hsb
  have HS:=Lib.hid hs
  have HX:=Lib.hid hx
  have HV:=Lib.hid hv
  have IHH:=Lib.hid IH
  have HB:=Lib.hid (PB.start w ⟨vk,vn,vs,la,ll,lc,oa,ol,oc⟩ ⟨xk,xn,xs,xa,xl,xc,ya,yl,yc⟩ 33 33 33)
  obtain ⟨R,hR⟩:∃R,putP v (s::r) x=R:=⟨_,rfl⟩
  rw [hR]
  have HR:=Lib.hid hR
  have hne:((n:Int)==0)=false:=by simp;omega
  have hnp:0<n:=by omega
  clear hv hx hs hR hp IH k4
  go_enter Tryz.func86,Tryz.ntmps86
  generalize hQ0:bodyPost _ _ _=Q0
  have HQ:=Lib.hid hQ0
  clear hQ0
  go_wp2_with fail
  have B:=HB.out
  obtain ⟨W0,hW0⟩:∃W0,(((w.alloc (.cells #[.int .u8 vk, .int .i64 vn, .string vs, .slice la ll lc, .slice oa ol oc] 33)).alloc (.cells #[.int .u8 xk, .int .i64 xn, .string xs, .slice xa xl xc, .slice ya yl yc] 33)).alloc (.cells #[.int .u8 0, .int .i64 0, .string { data:= #[] }, .slice none 0 0, .slice none 0 0] 33))=W0:=⟨_,rfl⟩
  rw [hW0] at B ⊢
  clear HB hW0
  obtain ⟨v0,v1,v2,v3,v4⟩:=row5 B.v.at_
  obtain ⟨x0,x1,x2,x3,x4⟩:=row5 B.x.at_
  obtain ⟨r0,r1,r2,r3,r4⟩:=row5 B.r.at_
  have f0:=B.r.fr 0;have f1:=B.r.fr 1;have f2:=B.r.fr 2;have f3:=B.r.fr 3;have f4:=B.r.fr 4
  have z0:=B.v.lt;have z1:=B.x.lt;have z2:=B.r.lt
  have hs:=HS.out.keep B.below hbB
  have s0:=hs.c0;have s1:=hs.c1;have s2:=hs.c2
  have hbw:b<W0.heap.size:=World.block_lt_of_cell? W0 _ s0
  have hzs:=B.below.size
  have HBB:=Lib.hid B
  have HC:Hid (∀W,Below W0.heap.size W0.drew W→Calls Tryz.prog 102 #[.agg #[.int .u8 vk, .int .i64 vn, .string vs, .slice la ll lc, .slice oa ol oc], .agg #[.bool s.list, .int .i64 s.i, .string s.key]] W (StepPost w w.heap.size W (stepP v s))):=fun W hW=>step_any W vk vn vs la ll lc oa ol oc v w w.heap.size ((HBB.out.below.trans ((drew_below W0).mono hzs)).trans (hW.mono hzs)) (Nat.le_trans hzs hW.size) HV.out s hsb
  have HFB:Hid (∀W,Below W0.heap.size W0.drew W→W.cell? ⟨w.heap.size,0,none⟩=some (.int .u8 vk)∧W.cell? ⟨w.heap.size,1,none⟩=some (.int .i64 vn)∧W.cell? ⟨w.heap.size,2,none⟩=some (.string vs)∧W.cell? ⟨w.heap.size,3,none⟩=some (.slice la ll lc)∧W.cell? ⟨w.heap.size,4,none⟩=some (.slice oa ol oc)∧W.cell? ⟨b,q,none⟩=some (.bool s.list)∧W.cell? ⟨b,q+1,none⟩=some (.int .i64 s.i)∧W.cell? ⟨b,q+2,none⟩=some (.string s.key)):=by
    intro W hW
    have hk:∀b o u,b<W0.heap.size→W0.cell? ⟨b,o,none⟩=some u→W.cell? ⟨b,o,none⟩=some u:=fun b o u hb h=>keep_cell hW (keep_cell (drew_below W0) h hb) hb
    exact ⟨hk _ _ _ z0 v0,hk _ _ _ z0 v1,hk _ _ _ z0 v2,hk _ _ _ z0 v3,hk _ _ _ z0 v4,hk _ _ _ hbw s0,hk _ _ _ hbw s1,hk _ _ _ hbw s2⟩
  clear B hs
  go_wp2_with fail
  refine wp_region_noPanic ?_
  go_region_held_law (fun W=>W.cell? ⟨w.heap.size,0,none⟩=some (.int .u8 vk)∧W.cell? ⟨w.heap.size,1,none⟩=some (.int .i64 vn)∧W.cell? ⟨w.heap.size,2,none⟩=some (.string vs)∧W.cell? ⟨w.heap.size,3,none⟩=some (.slice la ll lc)∧W.cell? ⟨w.heap.size,4,none⟩=some (.slice oa ol oc)∧W.cell? ⟨b,q,none⟩=some (.bool s.list)∧W.cell? ⟨b,q+1,none⟩=some (.int .i64 s.i)∧W.cell? ⟨b,q+2,none⟩=some (.string s.key))
    ((refine HFB.out _ ?_;(first|(with_reducible exact bl4)|(with_reducible exact Below.refl _ _)|(with_reducible exact below_draw_alloc _ _)|(with_reducible exact Below.set5 bl4 _ _ _ _ _)|(with_reducible exact Below.set5' (Below.alloc bl4 bz4 _) bz4 _ _ _ _ _)|(with_reducible exact Below.alloc bl4 bz4 _))))
    (first
      |(go_at_call 102;(with_reducible refine (HC.out _ (Below.refl _ _)).mono ?_);rintro e w4 h4;obtain ⟨d,kk,er,rfl,hrel,hb4⟩:=StepPost.gen h4;clear h4;have bl4:Below W0.heap.size W0.drew w4:=hb4;have bz4:W0.heap.size≤w4.heap.size:=hb4.size)
      |(go_at_call 102;(with_reducible refine (HC.out _ (below_draw_alloc _ _)).mono ?_);rintro e w4 h4;obtain ⟨d,kk,er,rfl,hrel,hb4⟩:=StepPost.gen h4;clear h4;have bl4:Below W0.heap.size W0.drew w4:=(below_draw_alloc _ _).trans (hb4.mono (by simp));have bz4:W0.heap.size≤w4.heap.size:=bl4.size;have XB:=bc_new_drew hb4;obtain ⟨xc0,xc1,xc2,xc3,xc4⟩:=row5 XB.at_;have xg0:=XB.fr 0;have xg1:=XB.fr 1;have xg2:=XB.fr 2;have xg3:=XB.fr 3;have xg4:=XB.fr 4;have hxlt:=XB.lt))
  all_goals
    (first
      |((with_reducible refine gen_world (P:=fun W=>BC W w4.heap.size (vcells d)∧Below W0.heap.size W0.drew W∧W0.heap.size≤w4.heap.size) (filled1 bl4 bz4 d _) ?_);rintro W1 ⟨YF,hbW, -⟩;generalize w4.heap.size=yb at YF ⊢)
      |((with_reducible refine gen_world (P:=fun W=>BC W W0.heap.size (vcells d)∧Below W0.heap.size W0.drew W∧W0.heap.size≤W0.heap.size) (filled2 bl4 d XB) ?_);rintro W1 ⟨YF,hbW, -⟩;generalize W0.heap.size=yb at YF ⊢))
    have B2:=HBB.out.next ((drew_below W0).trans hbW) (Nat.succ_le_of_lt z2)
    clear v0 v1 v2 v3 v4 x0 x1 x2 x3 x4 r0 r1 r2 r3 r4 f0 f1 f2 f3 f4 s0 s1 s2 hb4 bl4 HC HFB
    obtain ⟨v0,v1,v2,v3,v4⟩:=row5 B2.v.at_
    obtain ⟨x0,x1,x2,x3,x4⟩:=row5 B2.x.at_
    obtain ⟨r0,r1,r2,r3,r4⟩:=row5 B2.r.at_
    have f0:=B2.r.fr 0;have f1:=B2.r.fr 1;have f2:=B2.r.fr 2;have f3:=B2.r.fr 3;have f4:=B2.r.fr 4
    have z0:=B2.v.lt;have z1:=B2.x.lt;have z2:=B2.r.lt
    obtain ⟨y0,y1,y2,y3,y4⟩:=row5 YF.at_
    have ylt:=YF.lt
    have z2B1:=B2.r.lt
    have hs:=HS.out.keep B2.below hbB
    have s0:=hs.c0;have s1:=hs.c1;have s2:=hs.c2
    have hbw1:b<W1.heap.size:=World.block_lt_of_cell? W1 _ s0
    have hzs1:=B2.below.size
    have HB2:=Lib.hid B2
    clear B2 YF hbW hs
    rcases hrel.out with ⟨hst,rfl⟩|⟨qq,hst,rfl,rfl,hI⟩
    · obtain rfl:R=none:=by rw [←HR.out,putP,hst]
      clear hst
      go_wp2_with fail
      rw [←HQ.out]
      have ST:=HB2.out.result ⟨0,0, { data:= #[] },none,0,0,none,0,0⟩
      exact put_none ST.1 ST.2 rfl rfl rfl
    · have HST:=Lib.hid hst
      have HI:=Lib.hid hI
      clear hst hI hrel
      have HC2:Hid (∀W,Below W1.heap.size W1.drew W→Calls Tryz.prog 86 #[.agg #[.int .u8 d.k, .int .i64 d.n, .string d.s, .slice d.la d.ll d.lc, .slice d.oa d.ol d.oc], .slice (some ⟨b,q+3,none⟩) (n - 1) (c - 1), .agg #[.int .u8 xk, .int .i64 xn, .string xs, .slice xa xl xc, .slice ya yl yc]] W (GetPost W (putP qq.1 r x))):=fun W hW=>by
        have hbl:Below w.heap.size w W:=(HB2.out.below.trans ((drew_below W1).mono hzs1)).trans (hW.mono hzs1)
        exact IHH.out W qq.1 d _ _ _ ((HI.out.keep hbl).more hbl.size) (HTL.out.later_ hbl) (HX.out.later_ hbl)
      have HFB2:Hid (∀W,Below W1.heap.size W1.drew W→W.cell? ⟨yb,0,none⟩=some (.int .u8 d.k)∧W.cell? ⟨yb,1,none⟩=some (.int .i64 d.n)∧W.cell? ⟨yb,2,none⟩=some (.string d.s)∧W.cell? ⟨yb,3,none⟩=some (.slice d.la d.ll d.lc)∧W.cell? ⟨yb,4,none⟩=some (.slice d.oa d.ol d.oc)∧W.cell? ⟨w.heap.size+1,0,none⟩=some (.int .u8 xk)∧W.cell? ⟨w.heap.size+1,1,none⟩=some (.int .i64 xn)∧W.cell? ⟨w.heap.size+1,2,none⟩=some (.string xs)∧W.cell? ⟨w.heap.size+1,3,none⟩=some (.slice xa xl xc)∧W.cell? ⟨w.heap.size+1,4,none⟩=some (.slice ya yl yc)):=by
        intro W hW
        have hk:∀b o u,b<W1.heap.size→W1.cell? ⟨b,o,none⟩=some u→W.cell? ⟨b,o,none⟩=some u:=fun b o u hb h=>keep_cell hW (keep_cell (drew_below W1) h hb) hb
        exact ⟨hk _ _ _ ylt y0,hk _ _ _ ylt y1,hk _ _ _ ylt y2,hk _ _ _ ylt y3,hk _ _ _ ylt y4,hk _ _ _ z1 x0,hk _ _ _ z1 x1,hk _ _ _ z1 x2,hk _ _ _ z1 x3,hk _ _ _ z1 x4⟩
      obtain ⟨PR,hPR⟩:∃PR,putP qq.1 r x=PR:=⟨_,rfl⟩
      rw [hPR] at HC2
      have HPR:=Lib.hid hPR
      clear hPR
      go_wp2_with fail
      refine wp_region_noPanic ?_
      go_region_held_law (fun W=>W.cell? ⟨yb,0,none⟩=some (.int .u8 d.k)∧W.cell? ⟨yb,1,none⟩=some (.int .i64 d.n)∧W.cell? ⟨yb,2,none⟩=some (.string d.s)∧W.cell? ⟨yb,3,none⟩=some (.slice d.la d.ll d.lc)∧W.cell? ⟨yb,4,none⟩=some (.slice d.oa d.ol d.oc)∧W.cell? ⟨w.heap.size+1,0,none⟩=some (.int .u8 xk)∧W.cell? ⟨w.heap.size+1,1,none⟩=some (.int .i64 xn)∧W.cell? ⟨w.heap.size+1,2,none⟩=some (.string xs)∧W.cell? ⟨w.heap.size+1,3,none⟩=some (.slice xa xl xc)∧W.cell? ⟨w.heap.size+1,4,none⟩=some (.slice ya yl yc))
        ((refine HFB2.out _ ?_;(first|(with_reducible exact bl5)|(with_reducible exact Below.refl _ _)|(with_reducible exact below_draw_alloc _ _)|(with_reducible exact Below.set5 bl5 _ _ _ _ _)|(with_reducible exact Below.set5' (Below.alloc bl5 bz5 _) bz5 _ _ _ _ _)|(with_reducible exact Below.alloc bl5 bz5 _))))
        (first
          |(go_at_call 86;(with_reducible refine (HC2.out _ (Below.refl _ _)).mono ?_);rintro e w5 h5;obtain ⟨dz,ez,rfl,hrz,hb5⟩:=GetPost.gen h5;clear h5;have hz:=zform (m':=W1.heap.size) rfl hrz;have bl5:Below W1.heap.size W1.drew w5:=hb5;have bz5:W1.heap.size≤w5.heap.size:=hb5.size)
          |(go_at_call 86;(with_reducible refine (HC2.out _ (below_draw_alloc _ _)).mono ?_);rintro e w5 h5;obtain ⟨dz,ez,rfl,hrz,hb5⟩:=GetPost.gen h5;clear h5;have hz:=zform (m':=W1.heap.size+1) (show (W1.alloc _).heap.size=_ by simp) hrz;have bl5:Below W1.heap.size W1.drew w5:=(below_draw_alloc _ _).trans (hb5.mono (by simp));have bz5:W1.heap.size≤w5.heap.size:=bl5.size;have ZB:=bc_new_drew hb5;obtain ⟨xc0,xc1,xc2,xc3,xc4⟩:=row5 ZB.at_;have xg0:=ZB.fr 0;have xg1:=ZB.fr 1;have xg2:=ZB.fr 2;have xg3:=ZB.fr 3;have xg4:=ZB.fr 4;have hxlt:=ZB.lt))
      all_goals
        (first
          |((with_reducible refine gen_world (P:=fun W=>(BC W w5.heap.size (vcells dz)∧Below W1.heap.size W1.drew W∧W1.heap.size≤w5.heap.size)∧Hid ((PR=none∧ez=30)∨∃z,(PR=some z∧ez=0)∧IsVal (only (fun b=>W1.heap.size≤b) W) W.heap.size z dz)) (filledZ1 bl5 bz5 dz _ hz) ?_);rintro W2 ⟨⟨ZF,hbW, -⟩,hzz⟩;generalize w5.heap.size=zb at ZF ⊢)
          |((with_reducible refine gen_world (P:=fun W=>(BC W W1.heap.size (vcells dz)∧Below W1.heap.size W1.drew W∧W1.heap.size≤W1.heap.size)∧Hid ((PR=none∧ez=30)∨∃z,(PR=some z∧ez=0)∧IsVal (only (fun b=>W1.heap.size≤b) W) W.heap.size z dz)) (filledZ2 bl5 dz ZB hz) ?_);rintro W2 ⟨⟨ZF,hbW, -⟩,hzz⟩;generalize W1.heap.size=zb at ZF ⊢))
        have B3:=HB2.out.next ((drew_below W1).trans hbW) (Nat.succ_le_of_lt z2)
        clear v0 v1 v2 v3 v4 x0 x1 x2 x3 x4 r0 r1 r2 r3 r4 f0 f1 f2 f3 f4 s0 s1 s2 y0 y1 y2 y3 y4 HC2 HFB2
        obtain ⟨v0,v1,v2,v3,v4⟩:=row5 B3.v.at_
        obtain ⟨x0,x1,x2,x3,x4⟩:=row5 B3.x.at_
        obtain ⟨r0,r1,r2,r3,r4⟩:=row5 B3.r.at_
        have f0:=B3.r.fr 0;have f1:=B3.r.fr 1;have f2:=B3.r.fr 2;have f3:=B3.r.fr 3;have f4:=B3.r.fr 4
        have z0:=B3.v.lt;have z1:=B3.x.lt;have z2:=B3.r.lt
        obtain ⟨e0,e1,e2,e3,e4⟩:=row5 ZF.at_
        have elt:=ZF.lt
        have hzs2:=B3.below.size
        have hzs3:W1.heap.size≤W2.heap.size:=hbW.size
        have hs:=HS.out.keep B3.below hbB
        have HB3:=Lib.hid B3
        clear B3
        rcases hzz.out with ⟨hpz,rfl⟩|⟨z,⟨hpz,rfl⟩,hIz⟩
        · obtain rfl:R=none:=by rw [←HR.out,putP,HST.out];simp only [];rw [HPR.out,hpz]
          clear hpz hs hzz ZF hbW
          go_wp2_with fail
          rw [←HQ.out]
          have ST:=HB3.out.result ⟨0,0, { data:= #[] },none,0,0,none,0,0⟩
          exact put_none ST.1 ST.2 rfl rfl rfl
        · have hR:R=some (if s.list=true then v.setL qq.2 z else v.setO qq.2 z):=by rw [←HR.out,putP,HST.out];simp only [];rw [HPR.out,hpz]
          have HRR:=Lib.hid hR
          have HIZ:=Lib.hid hIz
          have HSS:=Lib.hid hs
          have HC3:Hid (Calls Tryz.prog 103 #[.agg #[.int .u8 vk, .int .i64 vn, .string vs, .slice la ll lc, .slice oa ol oc]] W2 (CopyPost W2 vk vn vs v.ls v.os)):=copy_any W2 v vk vn vs la ll lc oa ol oc ((HV.out.keep HB3.out.below).more hzs2)
          have HEB:=Lib.hid ZF
          clear hpz hR hIz hzz hbW hs ZF
          rcases stepP_some HST.out with ⟨hsl,hkd,_,hK,_⟩|⟨hsl,hkd,_,hK,_⟩
          · obtain ⟨K,hKK⟩:∃K,qq.2=K:=⟨_,rfl⟩
            rw [hKK] at hK HRR ⊢
            have HK:=Lib.hid hK
            have HSL:=Lib.hid hsl
            clear hkd hK hKK hsl
            go_wp2_with fail
            refine HC3.out.mono ?_
            rintro e w7 ⟨⟨a0,m0,c0,a1,m1,c1,cl,co,rfl,hF⟩,hb7⟩
            have B4:=HB3.out.next hb7 (Nat.succ_le_of_lt z2)
            have hs:=HSS.out.keep hb7 (by omega)
            obtain ⟨g,eg,hgb,hbc⟩:=hF.ownL.row (.inl (by have:=hF.len;have:=HK.out;omega))
            subst eg
            have hat:=valAt_flat hbc (i:=K) (by rw [hF.ll];exact HK.out)
            have hKm:K<m0:=by rw [hF.len];exact HK.out
            have q0:=hat.c0;have q1:=hat.c1;have q2:=hat.c2;have q3:=hat.c3;have q4:=hat.c4
            have qf:=fun j=>hbc.fr j
            have qlt:=hbc.lt
            have EB:=HEB.out.keep hb7 elt
            clear v0 v1 v2 v3 v4 x0 x1 x2 x3 x4 r0 r1 r2 r3 r4 f0 f1 f2 f3 f4 e0 e1 e2 e3 e4
            obtain ⟨v0,v1,v2,v3,v4⟩:=row5 B4.v.at_
            obtain ⟨x0,x1,x2,x3,x4⟩:=row5 B4.x.at_
            obtain ⟨r0,r1,r2,r3,r4⟩:=row5 B4.r.at_
            have f0:=B4.r.fr 0;have f1:=B4.r.fr 1;have f2:=B4.r.fr 2;have f3:=B4.r.fr 3;have f4:=B4.r.fr 4
            have z0:=B4.v.lt;have z1:=B4.x.lt;have z2:=B4.r.lt
            obtain ⟨e0,e1,e2,e3,e4⟩:=row5 EB.at_
            have elt2:=EB.lt
            have s0:=hs.c0
            rw [HSL.out] at s0
            have hbw7:b<w7.heap.size:=by omega
            have HF:=Lib.hid hF
            have HB4:=Lib.hid B4
            have hgn:g≠w7.heap.size:=by omega
            go_wp2_with fail
            rw [←HQ.out,HRR.out]
            simp only [HSL.out,if_true]
            exact put_finL HV.out HF.out HB4.out HIZ.out hb7 z2B1 hzs3 HK.out rfl rfl rfl
          · obtain ⟨K,hKK⟩:∃K,qq.2=K:=⟨_,rfl⟩
            rw [hKK] at hK HRR ⊢
            have HK:=Lib.hid hK
            have HSL:=Lib.hid hsl
            clear hkd hK hKK hsl
            go_wp2_with fail
            refine HC3.out.mono ?_
            rintro e w7 ⟨⟨a0,m0,c0,a1,m1,c1,cl,co,rfl,hF⟩,hb7⟩
            have B4:=HB3.out.next hb7 (Nat.succ_le_of_lt z2)
            have hs:=HSS.out.keep hb7 (by omega)
            obtain ⟨g,eg,hgb,hbc⟩:=hF.ownO.row (.inl (by have:=hF.len';have:=HK.out;omega))
            subst eg
            have hat:=(fldAt_flat hbc (i:=K) (by rw [hF.lo];exact HK.out)).2
            have hKm:K<m1:=by rw [hF.len'];exact HK.out
            have q0:=hat.c0;have q1:=hat.c1;have q2:=hat.c2;have q3:=hat.c3;have q4:=hat.c4
            have qf:=fun j=>hbc.fr j
            have qlt:=hbc.lt
            have EB:=HEB.out.keep hb7 elt
            clear v0 v1 v2 v3 v4 x0 x1 x2 x3 x4 r0 r1 r2 r3 r4 f0 f1 f2 f3 f4 e0 e1 e2 e3 e4
            obtain ⟨v0,v1,v2,v3,v4⟩:=row5 B4.v.at_
            obtain ⟨x0,x1,x2,x3,x4⟩:=row5 B4.x.at_
            obtain ⟨r0,r1,r2,r3,r4⟩:=row5 B4.r.at_
            have f0:=B4.r.fr 0;have f1:=B4.r.fr 1;have f2:=B4.r.fr 2;have f3:=B4.r.fr 3;have f4:=B4.r.fr 4
            have z0:=B4.v.lt;have z1:=B4.x.lt;have z2:=B4.r.lt
            obtain ⟨e0,e1,e2,e3,e4⟩:=row5 EB.at_
            have elt2:=EB.lt
            have s0:=hs.c0
            rw [HSL.out] at s0
            have hbw7:b<w7.heap.size:=by omega
            have HF:=Lib.hid hF
            have HB4:=Lib.hid B4
            have hgn:g≠w7.heap.size:=by omega
            go_wp2_with fail
            rw [←HQ.out,HRR.out]
            simp only [HSL.out,Bool.false_eq_true,if_false]
            exact put_finO HV.out HF.out HB4.out HIZ.out hb7 z2B1 hzs3 HK.out rfl rfl rfl
theorem put_any (x:V) (xk xn:Int) (xs:ByteArray) (xa:Option Addr) (xl xc:Nat) (ya:Option Addr) (yl yc:Nat) (p:List St):∀(w:World) (vk vn:Int) (vs:ByteArray) (la:Option Addr) (ll lc:Nat) (oa:Option Addr) (ol oc:Nat) (v:V),IsVal w w.heap.size v ⟨vk,vn,vs,la,ll,lc,oa,ol,oc⟩→∀(a:Option Addr) (n c:Nat),IsSteps w w.heap.size p a n c→IsVal w w.heap.size x ⟨xk,xn,xs,xa,xl,xc,ya,yl,yc⟩→
    Calls Tryz.prog 86 #[.agg #[.int .u8 vk, .int .i64 vn, .string vs, .slice la ll lc, .slice oa ol oc], .slice a n c, .agg #[.int .u8 xk, .int .i64 xn, .string xs, .slice xa xl xc, .slice ya yl yc]] w (GetPost w (putP v p x)):=by
  induction p with
  | nil=>
    intro w vk vn vs la ll lc oa ol oc v hv a n c hp hx
    exact put_nil w vk vn vs la ll lc oa ol oc v hv a n c xk xn xs xa xl xc ya yl yc x hx hp.len
  | cons s r ih=>
    intro w vk vn vs la ll lc oa ol oc v hv a n c hp hx
    have k4:=hp.len
    have k3:=hp.cap
    rw [List.length_cons] at k4
    obtain ⟨b,q,_,ha,_,_,_⟩:=hp.get (k:=0) (by omega)
    have IH:∀(W:World) (y:V) (d:VC) (a:Option Addr) (n c:Nat),IsVal W W.heap.size y d→IsSteps W W.heap.size r a n c→IsVal W W.heap.size x ⟨xk,xn,xs,xa,xl,xc,ya,yl,yc⟩→Calls Tryz.prog 86 #[.agg #[.int .u8 d.k, .int .i64 d.n, .string d.s, .slice d.la d.ll d.lc, .slice d.oa d.ol d.oc], .slice a n c, .agg #[.int .u8 xk, .int .i64 xn, .string xs, .slice xa xl xc, .slice ya yl yc]] W (GetPost W (putP y r x)):=fun W y d a n c h1 h2 h3=>ih W d.k d.n d.s d.la d.ll d.lc d.oa d.ol d.oc y h1 a n c h2 h3
    by_cases hc:c=1
    · exact put_one w vk vn vs la ll lc oa ol oc v hv a n c xk xn xs xa xl xc ya yl yc x hx s r b q ha hp IH hc
    · exact put_more w vk vn vs la ll lc oa ol oc v hv a n c xk xn xs xa xl xc ya yl yc x hx s r b q ha hp IH (by omega)
end Go.Proofs.YtgcfhkceejcliaaGreatDoor
namespace Go.Proofs.YtgcfhkceejcliaaGreatDoor
open Go.RowKit
set_option maxHeartbeats 4000000 in
set_option maxRecDepth 100000 in
theorem with_none (w:World) (B0:Nat) (hB0:B0≤w.heap.size) (key:ByteArray) (hks:key.size≤140737488355328) (x:V) (cx:VC) (hx:IsVal (only (fun k=>B0≤k) w) w.heap.size x cx):
    Calls Tryz.prog 76 #[.slice none 0 0, .string key, .agg #[.int .u8 cx.k, .int .i64 cx.n, .string cx.s, .slice cx.la cx.ll cx.lc, .slice cx.oa cx.ol cx.oc]] w (WithPost w B0 (withF [] key x)):=by
  obtain ⟨i0,hi0,hz0,hz1,hz2⟩:=info_parts ginfoFR
  have HF:Hid (∀W,Below w.heap.size w W→Calls Tryz.prog 101 #[.agg #[.int .u8 0, .int .i64 0, .string { data:= #[] }, .slice none 0 0, .slice none 0 0], .string key] W fun e w'=>e= .returned (.tuple #[.int .i64 0, .bool false])∧Below W.heap.size W w'):=by
    intro W hW
    exact field_any W [] key 0 0 { data:= #[] } none 0 0 none 0 0 ⟨rfl,by omega,by omega,by omega,0,0,fun _=>vzero,fun h=>absurd h (by omega),fun i h=>absurd h (by simp)⟩
  have HBX:=Lib.hid (BC.start w #[.int .u8 cx.k, .int .i64 cx.n, .string cx.s, .slice cx.la cx.ll cx.lc, .slice cx.oa cx.ol cx.oc] 33)
  have HAL:=Lib.hid ((Below.refl _ _).alloc (Nat.le_refl _) (.cells #[.int .u8 cx.k, .int .i64 cx.n, .string cx.s, .slice cx.la cx.ll cx.lc, .slice cx.oa cx.ol cx.oc] 33):Below w.heap.size w _)
  have HX:=Lib.hid hx
  obtain ⟨R,hR⟩:∃R,WithPost w B0 (withF [] key x)=R:=⟨_,rfl⟩
  rw [hR]
  have HR:=Lib.hid hR
  clear hx hR
  go_enter Tryz.func76,Tryz.ntmps76
  go_wp2_with fail
  refine (HF.out _ HAL.out).mono ?_
  rintro e w1 ⟨rfl,hb1⟩
  have BX2:=HBX.out.keep hb1 (by simp)
  obtain ⟨x0,x1,x2,x3,x4⟩:=row5 BX2.at_
  have zs2:w.heap.size<w1.heap.size:=BX2.lt
  have HBL1:=Lib.hid (HAL.out.trans (hb1.mono (by simp)))
  have ho2:(w1.alloc (.cells #[.string key, .int .u8 cx.k, .int .i64 cx.n, .string cx.s, .slice cx.la cx.ll cx.lc, .slice cx.oa cx.ol cx.oc] 98)).ownsRow (w.heap.size+1) 98 6 (.slice none 0 0) 0 [] :=⟨rfl, .inl ⟨rfl,rfl⟩⟩
  have hnw:∀j u,(fcells (key,cx))[j]? =some u→(w1.alloc (.cells #[.string key, .int .u8 cx.k, .int .i64 cx.n, .string cx.s, .slice cx.la cx.ll cx.lc, .slice cx.oa cx.ol cx.oc] 98)).cell? ((⟨w1.heap.size,0,none⟩:Addr).add j)=some u:=World.news_of_block (t:=98) (fr:=(0,0)) (heap_alloc_new w1 (.cells #[.string key, .int .u8 cx.k, .int .i64 cx.n, .string cx.s, .slice cx.la cx.ll cx.lc, .slice cx.oa cx.ol cx.oc] 98))
  have HNW:=Lib.hid hnw
  clear hb1 BX2 hnw
  have ho1:w1.ownsRow (w.heap.size+1) 98 6 (.slice none 0 0) 0 [] :=⟨rfl, .inl ⟨rfl,rfl⟩⟩
  go_wp2_with (first
    |(at_builtin;refine wpList_append_none _ rfl (.tmp 17) (.tmp 20) 31 (by rfl) (w.heap.size+1) 98 i0 6 Tryz.underlying31 hi0 (.slice none 0 0) 0 [] (by rfl) ho1 (by rfl) ?_)
    |(at_builtin;refine wpList_append_own _ rfl (.tmp 22) (.tmp 26) 31 (by rfl) (w.heap.size+1) 98 i0 _ 6 96 Tryz.underlying31 hi0 hz0 hz1 hz2 rfl (by omega) (.slice none 0 0) 0 [] (by rfl) ho2 ⟨w1.heap.size,0,none⟩ 1 1 (fcells (key,cx)) (by rfl) (by rfl) HNW.out (fcells_one key cx) (by unfold maxLen;omega) (by omega) (by simp;omega) ?_;intro v2 w4 hown2 hgrow2 _;have b24:Below (w.heap.size+1) w1 w4:=(((Below.refl w1.heap.size w1).alloc (Nat.le_refl _) (.cells #[.string key, .int .u8 cx.k, .int .i64 cx.n, .string cx.s, .slice cx.la cx.ll cx.lc, .slice cx.oa cx.ol cx.oc] 98)).mono (by omega)).trans (grown_below hgrow2 (fun k hk=>by simp [Value.ownBlock] at hk) (by simp;omega));have HBL4:=Lib.hid (HBL1.out.trans (b24.mono (by omega)));have zs4:w.heap.size<w4.heap.size:=Nat.lt_of_lt_of_le zs2 b24.size;have HO2:=Lib.hid hown2;clear hgrow2 b24 hown2)
    |(at_builtin;refine wpList_append_none _ rfl (.tmp 31) (.tmp 34) 31 (by rfl) (w.heap.size+1) 98 i0 6 Tryz.underlying31 hi0 v2 (0+1) ([] ++fcells (key,cx)) (by rfl) HO2.out (by rfl) ?_))
  rw [←HR.out]
  have hown:=HO2.out
  have hcat: [] ++fcells (key,cx)= [(key,cx)].flatMap fcells:=by simp
  rw [hcat] at hown
  have hlt3:=hown.lt
  have hsh:Shows (only (fun k=>B0≤k) w) (only (Free B0 v2) w4) w.heap.size:=shows_step fun q hq hl=>⟨⟨hq,fun e=>by have:=(hlt3 q e.symm).1;omega⟩,HBL4.out.block q hl⟩
  obtain ⟨a,n,c,hv,hf,hz⟩:=isFields_of_own (l:= [(key,x)]) (B0:=B0) (B1:=w.heap.size+1) hown (by omega) rfl
    (fun i _ hi=>by
      obtain rfl:i=0:=by simpa using hi
      exact ⟨rfl,hks,(HX.out.sub hsh).more HBL4.out.size⟩) (by simp)
  exact ⟨⟨a,n,c,by rw [hv],hf,hz⟩,HBL4.out⟩
end Go.Proofs.YtgcfhkceejcliaaGreatDoor
