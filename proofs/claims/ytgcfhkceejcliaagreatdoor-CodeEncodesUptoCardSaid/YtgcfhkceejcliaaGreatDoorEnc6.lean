/-
  Contracts of the functions that the law reaches: With: the walk. With: the walk. With: the walk. With: of whatever fields. What Build builds of pieces, in plain Lean. What is read is as long as it is written, and weighs no more. No program in sight. conciliatorlaw06.plain. one: what stands in memory while it runs. one: what is no list and no object. one: a list. one: an object. one. Build. Entries: what is read is as long as it is written. No program in sight. whole: its deferred calls. whole: its own blocks. reader.entry, of kind 3. whole at entries.
-/
import Derived.Test.YtgcfhkceejcliaaGreatDoorEnc5
import Derived.Stop.Asserts
namespace Go.Proofs.YtgcfhkceejcliaaGreatDoor
open Go.RowKit
set_option maxHeartbeats 8000000 in
set_option maxRecDepth 100000 in
theorem with_ft (w:World) (B0:Nat) (hB0:B0≤w.heap.size) (o:List (ByteArray×V)) (b off ol oc:Nat) (ho:IsFields (only (fun k=>B0≤k) w) w.heap.size o (some ⟨b,off,none⟩) ol oc) (key:ByteArray) (hks:key.size≤140737488355328) (x:V) (cx:VC) (hx:IsVal (only (fun k=>B0≤k) w) w.heap.size x cx) (hpos:0<ol) (hfew:ol≤1000000) (his:fieldIs o key=false) (hke:fieldK o key=oc):
    Calls Tryz.prog 76 #[.slice (some ⟨b,off,none⟩) ol oc, .string key, .agg #[.int .u8 cx.k, .int .i64 cx.n, .string cx.s, .slice cx.la cx.ll cx.lc, .slice cx.oa cx.ol cx.oc]] w (WithPost w B0 (withF o key x)):=by
  obtain ⟨i0,hi0,hz0,hz1,hz2⟩:=info_parts ginfoFR
  have hlen:=ho.len
  have hcap:=ho.cap
  have hmax:=ho.max
  obtain ⟨cs,b2,off2,hcl,hab,hcell,hpf⟩:=ho.cells
  have HCELL:Hid (∀W,Below w.heap.size w W→∀j u,(cs.flatMap fcells)[j]? =some u→W.cell? ⟨b,off+j,none⟩=some u):=by
    intro W hW j u hj
    have hjl:=(List.getElem?_eq_some_iff.1 hj).1
    rw [flat_length fcells 6 (fun _=>rfl),hcl, ←hlen] at hjl
    obtain ⟨e,hb2⟩:=hab (by omega)
    injection e with e;injection e with e1 e2
    subst e1 e2
    exact keep_cell hW (only_cell (hcell j u hj)).2 hb2
  obtain ⟨k,hk⟩:∃k,fieldK o key=k:=⟨_,rfl⟩
  rw [hk] at hke
  have hkl:k≤ol:=by rw [←hk,hlen];exact fieldK_le o key
  have hkl2:=hkl
  have hkc:k≤cs.length:=by rw [hcl, ←hlen];exact hkl
  have hkc2:k≤cs.length:=by rw [hcl, ←hlen];omega
  have HF:Hid (∀W,Below w.heap.size w W→Calls Tryz.prog 101 #[.agg #[.int .u8 0, .int .i64 0, .string { data:= #[] }, .slice none 0 0, .slice (some ⟨b,off,none⟩) ol oc], .string key] W fun e w'=>e= .returned (.tuple #[.int .i64 (k:Int), .bool false])∧Below W.heap.size W w'):=by
    intro W hW
    have hof:IsFields W W.heap.size o (some ⟨b,off,none⟩) ol oc:=(IsFields.keep (IsFields.sub (shows_only (fun k=>B0≤k) w _) ho) hW).more hW.size
    have:=field_any W o key 0 0 { data:= #[] } none 0 0 (some ⟨b,off,none⟩) ol oc hof
    rw [hk,his] at this;exact this
  have hwf:withF o key x=o.take k++(key,x)::o.drop (k):=by rw [withF,his,hk];rfl
  rw [hwf]
  have HBX:=Lib.hid (BC.start w #[.int .u8 cx.k, .int .i64 cx.n, .string cx.s, .slice cx.la cx.ll cx.lc, .slice cx.oa cx.ol cx.oc] 33)
  have HAL:=Lib.hid ((Below.refl _ _).alloc (Nat.le_refl _) (.cells #[.int .u8 cx.k, .int .i64 cx.n, .string cx.s, .slice cx.la cx.ll cx.lc, .slice cx.oa cx.ol cx.oc] 33):Below w.heap.size w _)
  have HX:=Lib.hid hx
  have HPF:=Lib.hid hpf
  have HCL:=Lib.hid hcl
  have HLEN:=Lib.hid hlen
  obtain ⟨R,hR⟩:∃R,WithPost w B0 (o.take k++(key,x)::o.drop (k))=R:=⟨_,rfl⟩
  rw [hR]
  have HR:=Lib.hid hR
  obtain ⟨XA,hXA⟩:∃XA,(cs.take k).flatMap fcells=XA:=⟨_,rfl⟩
  obtain ⟨XB,hXB⟩:∃XB,(cs.drop (k)).flatMap fcells=XB:=⟨_,rfl⟩
  have hla:XA.length=k*6:=by rw [←hXA,flat_length fcells 6 (fun _=>rfl),List.length_take,Nat.min_eq_left hkc]
  have hlb:XB.length=(ol - (k))*6:=by rw [←hXB,flat_length fcells 6 (fun _=>rfl),List.length_drop,hcl, ←hlen]
  have HA1:Hid (∀u ∈ XA,u.oneCell'=true):=by unfold Hid;rw [←hXA];exact flat_one _
  have HB1:Hid (∀u ∈ XB,u.oneCell'=true):=by unfold Hid;rw [←hXB];exact flat_one _
  have HCA:Hid (∀W,Below w.heap.size w W→∀j u,XA[j]? =some u→W.cell? ((⟨b,off,none⟩:Addr).add j)=some u):=by
    intro W hW j u hj
    rw [←hXA] at hj
    rw [add_at];exact HCELL.out W hW j u (flat_take_get hj)
  have HCB:Hid (∀W,Below w.heap.size w W→∀j u,XB[j]? =some u→W.cell? ((⟨b,off+(k)*6,none⟩:Addr).add j)=some u):=by
    intro W hW j u hj
    rw [←hXB] at hj
    rw [add_at,Nat.add_assoc];exact HCELL.out W hW _ u (flat_drop_get hkc2 hj)
  have HXA:=Lib.hid hXA
  have HXB:=Lib.hid hXB
  clear ho hab hcell hk his hx hpf hcl hlen hwf hR hXA hXB hkc hkc2
  have hol:ol=k:=by omega
  have hoc:oc=k:=by omega
  cases hol;cases hoc
  go_enter Tryz.func76,Tryz.ntmps76
  go_wp2_with fail
  refine (HF.out _ HAL.out).mono ?_
  rintro e w1 ⟨rfl,hb1⟩
  have bl1:=HAL.out.trans (hb1.mono (by simp))
  have HBX1:=Lib.hid (HBX.out.keep hb1 (by simp))
  have zs1:w.heap.size<w1.heap.size:=HBX1.out.lt
  have HBL1:=Lib.hid bl1
  have ho1:w1.ownsRow (w.heap.size+1) 98 6 (.slice none 0 0) 0 [] :=⟨rfl, .inl ⟨rfl,rfl⟩⟩
  clear hb1 bl1
  go_wp2_with (first
    |(at_builtin;refine wpList_append_own _ rfl (.tmp 17) (.tmp 20) 31 (by rfl) (w.heap.size+1) 98 i0 _ 6 96 Tryz.underlying31 hi0 hz0 hz1 hz2 rfl (by omega) (.slice none 0 0) 0 [] (by rfl) ho1 ⟨b,off,none⟩ ol (ol) XA (by rfl) hla (HCA.out _ HBL1.out) HA1.out (by unfold maxLen;omega) (by omega) (by omega) ?_;intro v1 w2 hown1 hgrow1 _;have b12:Below (w.heap.size+1) w1 w2:=grown_below hgrow1 (fun ol hk=>by simp [Value.ownBlock] at hk) (by omega);have BX2:=HBX1.out.keep b12 (by omega);obtain ⟨x0,x1,x2,x3,x4⟩:=row5 BX2.at_;have zs2:=BX2.lt;have HBL2:=Lib.hid (HBL1.out.trans (b12.mono (by omega)));have HO1:=Lib.hid hown1;have hrl:∀g,v1.ownBlock=some g→w.heap.size+1≤g∧g<w2.heap.size:=hown1.lt;have ho2:=hown1.alloc (.cells #[.string key, .int .u8 cx.k, .int .i64 cx.n, .string cx.s, .slice cx.la cx.ll cx.lc, .slice cx.oa cx.ol cx.oc] 98);have hnw:∀j u,(fcells (key,cx))[j]? =some u→(w2.alloc (.cells #[.string key, .int .u8 cx.k, .int .i64 cx.n, .string cx.s, .slice cx.la cx.ll cx.lc, .slice cx.oa cx.ol cx.oc] 98)).cell? ((⟨w2.heap.size,0,none⟩:Addr).add j)=some u:=World.news_of_block (t:=98) (fr:=(0,0)) (heap_alloc_new w2 (.cells #[.string key, .int .u8 cx.k, .int .i64 cx.n, .string cx.s, .slice cx.la cx.ll cx.lc, .slice cx.oa cx.ol cx.oc] 98));have HNW:=Lib.hid hnw;clear hnw hown1 hgrow1 BX2 b12)
    |(at_builtin;refine wpList_append_own _ rfl (.tmp 22) (.tmp 26) 31 (by rfl) (w.heap.size+1) 98 i0 _ 6 96 Tryz.underlying31 hi0 hz0 hz1 hz2 rfl (by omega) v1 (0+ol) ([] ++XA) (by rfl) ho2 ⟨w2.heap.size,0,none⟩ 1 1 (fcells (key,cx)) (by rfl) (by rfl) HNW.out (fcells_one key cx) (by unfold maxLen;omega) (by omega) (by simp;omega) ?_;intro v2 w4 hown2 hgrow2 _;have b24:Below (w.heap.size+1) w2 w4:=(((Below.refl w2.heap.size w2).alloc (Nat.le_refl _) (.cells #[.string key, .int .u8 cx.k, .int .i64 cx.n, .string cx.s, .slice cx.la cx.ll cx.lc, .slice cx.oa cx.ol cx.oc] 98)).mono (by omega)).trans (grown_below hgrow2 (fun ol hk=>(hrl ol hk).1) (by simp;omega));have HBL4:=Lib.hid (HBL2.out.trans (b24.mono (by omega)));have zs4:w.heap.size<w4.heap.size:=Nat.lt_of_lt_of_le zs2 b24.size;have hrl2:∀g,v2.ownBlock=some g→w.heap.size+1≤g∧g<w4.heap.size:=hown2.lt;have HO2:=Lib.hid hown2;clear hgrow2 b24 hown2)
    |(at_builtin;refine wpList_append_own _ rfl (.tmp 31) (.tmp 34) 31 (by rfl) (w.heap.size+1) 98 i0 _ 6 96 Tryz.underlying31 hi0 hz0 hz1 hz2 rfl (by omega) v2 (0+ol+1) ([] ++XA++fcells (key,cx)) (by rfl) HO2.out ⟨b,off,none⟩ 0 0 XB (by rfl) (by omega) (fun j u hj=>by rw [List.getElem?_eq_none (by omega)] at hj;cases hj) HB1.out (by unfold maxLen;omega) (by omega) (by omega) ?_;intro v3 w5 hown3 hgrow3 _;have b45:Below (w.heap.size+1) w4 w5:=grown_below hgrow3 (fun ol hk=>(hrl2 ol hk).1) (by omega);have HBL5:=Lib.hid (HBL4.out.trans (b45.mono (by omega)));have HO3:=Lib.hid hown3;clear hgrow3 b45 hown3))
  rw [←HR.out]
  have hcat: [] ++XA++fcells (key,cx)++XB=(cs.take ol++(key,cx)::cs.drop (ol)).flatMap fcells:=by rw [←HXA.out, ←HXB.out];simp
  have hll:(o.take ol++(key,x)::o.drop (ol)).length=0+ol+1+0:=by
    rw [List.length_append,List.length_cons,List.length_drop,List.length_take, ←HLEN.out,Nat.min_eq_left hkl];omega
  have hown:=HO3.out
  rw [hcat, ←hll] at hown
  have hlt3:=hown.lt
  have hsh:Shows (only (fun ol=>B0≤ol) w) (only (Free B0 v3) w5) w.heap.size:=shows_step fun q hq hl=>⟨⟨hq,fun e=>by have:=(hlt3 q e.symm).1;omega⟩,HBL5.out.block q hl⟩
  obtain ⟨a,n,c,hv,hf,hz⟩:=isFields_of_own (B0:=B0) (B1:=w.heap.size+1) hown (by omega) (by rw [List.length_append,List.length_append,List.length_cons,List.length_cons,List.length_drop,List.length_drop,List.length_take,List.length_take,HCL.out])
    (PF.with_ HCL.out (fun i hi=>PF.closed o cs _ _ _ _ i hsh HBL5.out.size (HPF.out i hi)) ((HX.out.sub hsh).more HBL5.out.size) hks (by rw [←HLEN.out];exact hkl) (by rw [←HLEN.out];omega)) (by rw [hll];omega)
  exact ⟨⟨a,n,c,by rw [hv],hf,hz⟩,HBL5.out⟩
end Go.Proofs.YtgcfhkceejcliaaGreatDoor
namespace Go.Proofs.YtgcfhkceejcliaaGreatDoor
open Go.RowKit
set_option maxHeartbeats 8000000 in
set_option maxRecDepth 100000 in
theorem with_tf (w:World) (B0:Nat) (hB0:B0≤w.heap.size) (o:List (ByteArray×V)) (b off ol oc:Nat) (ho:IsFields (only (fun k=>B0≤k) w) w.heap.size o (some ⟨b,off,none⟩) ol oc) (key:ByteArray) (hks:key.size≤140737488355328) (x:V) (cx:VC) (hx:IsVal (only (fun k=>B0≤k) w) w.heap.size x cx) (hpos:0<ol) (hfew:ol≤1000000) (his:fieldIs o key=true) (hke:fieldK o key+1<oc):
    Calls Tryz.prog 76 #[.slice (some ⟨b,off,none⟩) ol oc, .string key, .agg #[.int .u8 cx.k, .int .i64 cx.n, .string cx.s, .slice cx.la cx.ll cx.lc, .slice cx.oa cx.ol cx.oc]] w (WithPost w B0 (withF o key x)):=by
  obtain ⟨i0,hi0,hz0,hz1,hz2⟩:=info_parts ginfoFR
  have hlen:=ho.len
  have hcap:=ho.cap
  have hmax:=ho.max
  obtain ⟨cs,b2,off2,hcl,hab,hcell,hpf⟩:=ho.cells
  have HCELL:Hid (∀W,Below w.heap.size w W→∀j u,(cs.flatMap fcells)[j]? =some u→W.cell? ⟨b,off+j,none⟩=some u):=by
    intro W hW j u hj
    have hjl:=(List.getElem?_eq_some_iff.1 hj).1
    rw [flat_length fcells 6 (fun _=>rfl),hcl, ←hlen] at hjl
    obtain ⟨e,hb2⟩:=hab (by omega)
    injection e with e;injection e with e1 e2
    subst e1 e2
    exact keep_cell hW (only_cell (hcell j u hj)).2 hb2
  obtain ⟨k,hk⟩:∃k,fieldK o key=k:=⟨_,rfl⟩
  rw [hk] at hke
  have hkl:k≤ol:=by rw [←hk,hlen];exact fieldK_le o key
  have hkl2:k<ol:=by rw [←hk,hlen];exact fieldIs_lt his
  have hkc:k≤cs.length:=by rw [hcl, ←hlen];exact hkl
  have hkc2:k+1≤cs.length:=by rw [hcl, ←hlen];omega
  have HF:Hid (∀W,Below w.heap.size w W→Calls Tryz.prog 101 #[.agg #[.int .u8 0, .int .i64 0, .string { data:= #[] }, .slice none 0 0, .slice (some ⟨b,off,none⟩) ol oc], .string key] W fun e w'=>e= .returned (.tuple #[.int .i64 (k:Int), .bool true])∧Below W.heap.size W w'):=by
    intro W hW
    have hof:IsFields W W.heap.size o (some ⟨b,off,none⟩) ol oc:=(IsFields.keep (IsFields.sub (shows_only (fun k=>B0≤k) w _) ho) hW).more hW.size
    have:=field_any W o key 0 0 { data:= #[] } none 0 0 (some ⟨b,off,none⟩) ol oc hof
    rw [hk,his] at this;exact this
  have hwf:withF o key x=o.take k++(key,x)::o.drop (k+1):=by rw [withF,his,hk];rfl
  rw [hwf]
  have HBX:=Lib.hid (BC.start w #[.int .u8 cx.k, .int .i64 cx.n, .string cx.s, .slice cx.la cx.ll cx.lc, .slice cx.oa cx.ol cx.oc] 33)
  have HAL:=Lib.hid ((Below.refl _ _).alloc (Nat.le_refl _) (.cells #[.int .u8 cx.k, .int .i64 cx.n, .string cx.s, .slice cx.la cx.ll cx.lc, .slice cx.oa cx.ol cx.oc] 33):Below w.heap.size w _)
  have HX:=Lib.hid hx
  have HPF:=Lib.hid hpf
  have HCL:=Lib.hid hcl
  have HLEN:=Lib.hid hlen
  obtain ⟨R,hR⟩:∃R,WithPost w B0 (o.take k++(key,x)::o.drop (k+1))=R:=⟨_,rfl⟩
  rw [hR]
  have HR:=Lib.hid hR
  obtain ⟨XA,hXA⟩:∃XA,(cs.take k).flatMap fcells=XA:=⟨_,rfl⟩
  obtain ⟨XB,hXB⟩:∃XB,(cs.drop (k+1)).flatMap fcells=XB:=⟨_,rfl⟩
  have hla:XA.length=k*6:=by rw [←hXA,flat_length fcells 6 (fun _=>rfl),List.length_take,Nat.min_eq_left hkc]
  have hlb:XB.length=(ol - (k+1))*6:=by rw [←hXB,flat_length fcells 6 (fun _=>rfl),List.length_drop,hcl, ←hlen]
  have HA1:Hid (∀u ∈ XA,u.oneCell'=true):=by unfold Hid;rw [←hXA];exact flat_one _
  have HB1:Hid (∀u ∈ XB,u.oneCell'=true):=by unfold Hid;rw [←hXB];exact flat_one _
  have HCA:Hid (∀W,Below w.heap.size w W→∀j u,XA[j]? =some u→W.cell? ((⟨b,off,none⟩:Addr).add j)=some u):=by
    intro W hW j u hj
    rw [←hXA] at hj
    rw [add_at];exact HCELL.out W hW j u (flat_take_get hj)
  have HCB:Hid (∀W,Below w.heap.size w W→∀j u,XB[j]? =some u→W.cell? ((⟨b,off+(k+1)*6,none⟩:Addr).add j)=some u):=by
    intro W hW j u hj
    rw [←hXB] at hj
    rw [add_at,Nat.add_assoc];exact HCELL.out W hW _ u (flat_drop_get hkc2 hj)
  have HXA:=Lib.hid hXA
  have HXB:=Lib.hid hXB
  clear ho hab hcell hk his hx hpf hcl hlen hwf hR hXA hXB hkc hkc2
  go_enter Tryz.func76,Tryz.ntmps76
  go_wp2_with fail
  refine (HF.out _ HAL.out).mono ?_
  rintro e w1 ⟨rfl,hb1⟩
  have bl1:=HAL.out.trans (hb1.mono (by simp))
  have HBX1:=Lib.hid (HBX.out.keep hb1 (by simp))
  have zs1:w.heap.size<w1.heap.size:=HBX1.out.lt
  have HBL1:=Lib.hid bl1
  have ho1:w1.ownsRow (w.heap.size+1) 98 6 (.slice none 0 0) 0 [] :=⟨rfl, .inl ⟨rfl,rfl⟩⟩
  clear hb1 bl1
  go_wp2_with (first
    |(at_builtin;refine wpList_append_own _ rfl (.tmp 17) (.tmp 20) 31 (by rfl) (w.heap.size+1) 98 i0 _ 6 96 Tryz.underlying31 hi0 hz0 hz1 hz2 rfl (by omega) (.slice none 0 0) 0 [] (by rfl) ho1 ⟨b,off,none⟩ k oc XA (by rfl) hla (HCA.out _ HBL1.out) HA1.out (by unfold maxLen;omega) (by omega) (by omega) ?_;intro v1 w2 hown1 hgrow1 _;have b12:Below (w.heap.size+1) w1 w2:=grown_below hgrow1 (fun k hk=>by simp [Value.ownBlock] at hk) (by omega);have BX2:=HBX1.out.keep b12 (by omega);obtain ⟨x0,x1,x2,x3,x4⟩:=row5 BX2.at_;have zs2:=BX2.lt;have HBL2:=Lib.hid (HBL1.out.trans (b12.mono (by omega)));have HO1:=Lib.hid hown1;have hrl:∀g,v1.ownBlock=some g→w.heap.size+1≤g∧g<w2.heap.size:=hown1.lt;have ho2:=hown1.alloc (.cells #[.string key, .int .u8 cx.k, .int .i64 cx.n, .string cx.s, .slice cx.la cx.ll cx.lc, .slice cx.oa cx.ol cx.oc] 98);have hnw:∀j u,(fcells (key,cx))[j]? =some u→(w2.alloc (.cells #[.string key, .int .u8 cx.k, .int .i64 cx.n, .string cx.s, .slice cx.la cx.ll cx.lc, .slice cx.oa cx.ol cx.oc] 98)).cell? ((⟨w2.heap.size,0,none⟩:Addr).add j)=some u:=World.news_of_block (t:=98) (fr:=(0,0)) (heap_alloc_new w2 (.cells #[.string key, .int .u8 cx.k, .int .i64 cx.n, .string cx.s, .slice cx.la cx.ll cx.lc, .slice cx.oa cx.ol cx.oc] 98));have HNW:=Lib.hid hnw;clear hnw hown1 hgrow1 BX2 b12)
    |(at_builtin;refine wpList_append_own _ rfl (.tmp 22) (.tmp 26) 31 (by rfl) (w.heap.size+1) 98 i0 _ 6 96 Tryz.underlying31 hi0 hz0 hz1 hz2 rfl (by omega) v1 (0+k) ([] ++XA) (by rfl) ho2 ⟨w2.heap.size,0,none⟩ 1 1 (fcells (key,cx)) (by rfl) (by rfl) HNW.out (fcells_one key cx) (by unfold maxLen;omega) (by omega) (by simp;omega) ?_;intro v2 w4 hown2 hgrow2 _;have b24:Below (w.heap.size+1) w2 w4:=(((Below.refl w2.heap.size w2).alloc (Nat.le_refl _) (.cells #[.string key, .int .u8 cx.k, .int .i64 cx.n, .string cx.s, .slice cx.la cx.ll cx.lc, .slice cx.oa cx.ol cx.oc] 98)).mono (by omega)).trans (grown_below hgrow2 (fun k hk=>(hrl k hk).1) (by simp;omega));have HBL4:=Lib.hid (HBL2.out.trans (b24.mono (by omega)));have zs4:w.heap.size<w4.heap.size:=Nat.lt_of_lt_of_le zs2 b24.size;have hrl2:∀g,v2.ownBlock=some g→w.heap.size+1≤g∧g<w4.heap.size:=hown2.lt;have HO2:=Lib.hid hown2;clear hgrow2 b24 hown2)
    |(at_builtin;refine wpList_append_own _ rfl (.tmp 31) (.tmp 34) 31 (by rfl) (w.heap.size+1) 98 i0 _ 6 96 Tryz.underlying31 hi0 hz0 hz1 hz2 rfl (by omega) v2 (0+k+1) ([] ++XA++fcells (key,cx)) (by rfl) HO2.out ⟨b,off+(k+1)*6,none⟩ (ol - (k+1)) (oc - (k+1)) XB (by rfl) (by omega) (HCB.out _ HBL4.out) HB1.out (by unfold maxLen;omega) (by omega) (by omega) ?_;intro v3 w5 hown3 hgrow3 _;have b45:Below (w.heap.size+1) w4 w5:=grown_below hgrow3 (fun k hk=>(hrl2 k hk).1) (by omega);have HBL5:=Lib.hid (HBL4.out.trans (b45.mono (by omega)));have HO3:=Lib.hid hown3;clear hgrow3 b45 hown3))
  rw [←HR.out]
  have hcat: [] ++XA++fcells (key,cx)++XB=(cs.take k++(key,cx)::cs.drop (k+1)).flatMap fcells:=by rw [←HXA.out, ←HXB.out];simp
  have hll:(o.take k++(key,x)::o.drop (k+1)).length=0+k+1+(ol - (k+1)):=by
    rw [List.length_append,List.length_cons,List.length_drop,List.length_take, ←HLEN.out,Nat.min_eq_left hkl];omega
  have hown:=HO3.out
  rw [hcat, ←hll] at hown
  have hlt3:=hown.lt
  have hsh:Shows (only (fun k=>B0≤k) w) (only (Free B0 v3) w5) w.heap.size:=shows_step fun q hq hl=>⟨⟨hq,fun e=>by have:=(hlt3 q e.symm).1;omega⟩,HBL5.out.block q hl⟩
  obtain ⟨a,n,c,hv,hf,hz⟩:=isFields_of_own (B0:=B0) (B1:=w.heap.size+1) hown (by omega) (by rw [List.length_append,List.length_append,List.length_cons,List.length_cons,List.length_drop,List.length_drop,List.length_take,List.length_take,HCL.out])
    (PF.with_ HCL.out (fun i hi=>PF.closed o cs _ _ _ _ i hsh HBL5.out.size (HPF.out i hi)) ((HX.out.sub hsh).more HBL5.out.size) hks (by rw [←HLEN.out];exact hkl) (by rw [←HLEN.out];omega)) (by rw [hll];omega)
  exact ⟨⟨a,n,c,by rw [hv],hf,hz⟩,HBL5.out⟩
end Go.Proofs.YtgcfhkceejcliaaGreatDoor
namespace Go.Proofs.YtgcfhkceejcliaaGreatDoor
open Go.RowKit
set_option maxHeartbeats 8000000 in
set_option maxRecDepth 100000 in
theorem with_tt (w:World) (B0:Nat) (hB0:B0≤w.heap.size) (o:List (ByteArray×V)) (b off ol oc:Nat) (ho:IsFields (only (fun k=>B0≤k) w) w.heap.size o (some ⟨b,off,none⟩) ol oc) (key:ByteArray) (hks:key.size≤140737488355328) (x:V) (cx:VC) (hx:IsVal (only (fun k=>B0≤k) w) w.heap.size x cx) (hpos:0<ol) (hfew:ol≤1000000) (his:fieldIs o key=true) (hke:fieldK o key+1=oc):
    Calls Tryz.prog 76 #[.slice (some ⟨b,off,none⟩) ol oc, .string key, .agg #[.int .u8 cx.k, .int .i64 cx.n, .string cx.s, .slice cx.la cx.ll cx.lc, .slice cx.oa cx.ol cx.oc]] w (WithPost w B0 (withF o key x)):=by
  obtain ⟨i0,hi0,hz0,hz1,hz2⟩:=info_parts ginfoFR
  have hlen:=ho.len
  have hcap:=ho.cap
  have hmax:=ho.max
  obtain ⟨cs,b2,off2,hcl,hab,hcell,hpf⟩:=ho.cells
  have HCELL:Hid (∀W,Below w.heap.size w W→∀j u,(cs.flatMap fcells)[j]? =some u→W.cell? ⟨b,off+j,none⟩=some u):=by
    intro W hW j u hj
    have hjl:=(List.getElem?_eq_some_iff.1 hj).1
    rw [flat_length fcells 6 (fun _=>rfl),hcl, ←hlen] at hjl
    obtain ⟨e,hb2⟩:=hab (by omega)
    injection e with e;injection e with e1 e2
    subst e1 e2
    exact keep_cell hW (only_cell (hcell j u hj)).2 hb2
  obtain ⟨k,hk⟩:∃k,fieldK o key=k:=⟨_,rfl⟩
  rw [hk] at hke
  have hkl:k≤ol:=by rw [←hk,hlen];exact fieldK_le o key
  have hkl2:k<ol:=by rw [←hk,hlen];exact fieldIs_lt his
  have hkc:k≤cs.length:=by rw [hcl, ←hlen];exact hkl
  have hkc2:k+1≤cs.length:=by rw [hcl, ←hlen];omega
  have HF:Hid (∀W,Below w.heap.size w W→Calls Tryz.prog 101 #[.agg #[.int .u8 0, .int .i64 0, .string { data:= #[] }, .slice none 0 0, .slice (some ⟨b,off,none⟩) ol oc], .string key] W fun e w'=>e= .returned (.tuple #[.int .i64 (k:Int), .bool true])∧Below W.heap.size W w'):=by
    intro W hW
    have hof:IsFields W W.heap.size o (some ⟨b,off,none⟩) ol oc:=(IsFields.keep (IsFields.sub (shows_only (fun k=>B0≤k) w _) ho) hW).more hW.size
    have:=field_any W o key 0 0 { data:= #[] } none 0 0 (some ⟨b,off,none⟩) ol oc hof
    rw [hk,his] at this;exact this
  have hwf:withF o key x=o.take k++(key,x)::o.drop (k+1):=by rw [withF,his,hk];rfl
  rw [hwf]
  have HBX:=Lib.hid (BC.start w #[.int .u8 cx.k, .int .i64 cx.n, .string cx.s, .slice cx.la cx.ll cx.lc, .slice cx.oa cx.ol cx.oc] 33)
  have HAL:=Lib.hid ((Below.refl _ _).alloc (Nat.le_refl _) (.cells #[.int .u8 cx.k, .int .i64 cx.n, .string cx.s, .slice cx.la cx.ll cx.lc, .slice cx.oa cx.ol cx.oc] 33):Below w.heap.size w _)
  have HX:=Lib.hid hx
  have HPF:=Lib.hid hpf
  have HCL:=Lib.hid hcl
  have HLEN:=Lib.hid hlen
  obtain ⟨R,hR⟩:∃R,WithPost w B0 (o.take k++(key,x)::o.drop (k+1))=R:=⟨_,rfl⟩
  rw [hR]
  have HR:=Lib.hid hR
  obtain ⟨XA,hXA⟩:∃XA,(cs.take k).flatMap fcells=XA:=⟨_,rfl⟩
  obtain ⟨XB,hXB⟩:∃XB,(cs.drop (k+1)).flatMap fcells=XB:=⟨_,rfl⟩
  have hla:XA.length=k*6:=by rw [←hXA,flat_length fcells 6 (fun _=>rfl),List.length_take,Nat.min_eq_left hkc]
  have hlb:XB.length=(ol - (k+1))*6:=by rw [←hXB,flat_length fcells 6 (fun _=>rfl),List.length_drop,hcl, ←hlen]
  have HA1:Hid (∀u ∈ XA,u.oneCell'=true):=by unfold Hid;rw [←hXA];exact flat_one _
  have HB1:Hid (∀u ∈ XB,u.oneCell'=true):=by unfold Hid;rw [←hXB];exact flat_one _
  have HCA:Hid (∀W,Below w.heap.size w W→∀j u,XA[j]? =some u→W.cell? ((⟨b,off,none⟩:Addr).add j)=some u):=by
    intro W hW j u hj
    rw [←hXA] at hj
    rw [add_at];exact HCELL.out W hW j u (flat_take_get hj)
  have HCB:Hid (∀W,Below w.heap.size w W→∀j u,XB[j]? =some u→W.cell? ((⟨b,off+(k+1)*6,none⟩:Addr).add j)=some u):=by
    intro W hW j u hj
    rw [←hXB] at hj
    rw [add_at,Nat.add_assoc];exact HCELL.out W hW _ u (flat_drop_get hkc2 hj)
  have HXA:=Lib.hid hXA
  have HXB:=Lib.hid hXB
  clear ho hab hcell hk his hx hpf hcl hlen hwf hR hXA hXB hkc hkc2
  have hol:ol=k+1:=by omega
  have hoc:oc=k+1:=by omega
  cases hol;cases hoc
  go_enter Tryz.func76,Tryz.ntmps76
  go_wp2_with fail
  refine (HF.out _ HAL.out).mono ?_
  rintro e w1 ⟨rfl,hb1⟩
  have bl1:=HAL.out.trans (hb1.mono (by simp))
  have HBX1:=Lib.hid (HBX.out.keep hb1 (by simp))
  have zs1:w.heap.size<w1.heap.size:=HBX1.out.lt
  have HBL1:=Lib.hid bl1
  have ho1:w1.ownsRow (w.heap.size+1) 98 6 (.slice none 0 0) 0 [] :=⟨rfl, .inl ⟨rfl,rfl⟩⟩
  clear hb1 bl1
  go_wp2_with (first
    |(at_builtin;refine wpList_append_own _ rfl (.tmp 17) (.tmp 20) 31 (by rfl) (w.heap.size+1) 98 i0 _ 6 96 Tryz.underlying31 hi0 hz0 hz1 hz2 rfl (by omega) (.slice none 0 0) 0 [] (by rfl) ho1 ⟨b,off,none⟩ k (k+1) XA (by rfl) hla (HCA.out _ HBL1.out) HA1.out (by unfold maxLen;omega) (by omega) (by omega) ?_;intro v1 w2 hown1 hgrow1 _;have b12:Below (w.heap.size+1) w1 w2:=grown_below hgrow1 (fun k hk=>by simp [Value.ownBlock] at hk) (by omega);have BX2:=HBX1.out.keep b12 (by omega);obtain ⟨x0,x1,x2,x3,x4⟩:=row5 BX2.at_;have zs2:=BX2.lt;have HBL2:=Lib.hid (HBL1.out.trans (b12.mono (by omega)));have HO1:=Lib.hid hown1;have hrl:∀g,v1.ownBlock=some g→w.heap.size+1≤g∧g<w2.heap.size:=hown1.lt;have ho2:=hown1.alloc (.cells #[.string key, .int .u8 cx.k, .int .i64 cx.n, .string cx.s, .slice cx.la cx.ll cx.lc, .slice cx.oa cx.ol cx.oc] 98);have hnw:∀j u,(fcells (key,cx))[j]? =some u→(w2.alloc (.cells #[.string key, .int .u8 cx.k, .int .i64 cx.n, .string cx.s, .slice cx.la cx.ll cx.lc, .slice cx.oa cx.ol cx.oc] 98)).cell? ((⟨w2.heap.size,0,none⟩:Addr).add j)=some u:=World.news_of_block (t:=98) (fr:=(0,0)) (heap_alloc_new w2 (.cells #[.string key, .int .u8 cx.k, .int .i64 cx.n, .string cx.s, .slice cx.la cx.ll cx.lc, .slice cx.oa cx.ol cx.oc] 98));have HNW:=Lib.hid hnw;clear hnw hown1 hgrow1 BX2 b12)
    |(at_builtin;refine wpList_append_own _ rfl (.tmp 22) (.tmp 26) 31 (by rfl) (w.heap.size+1) 98 i0 _ 6 96 Tryz.underlying31 hi0 hz0 hz1 hz2 rfl (by omega) v1 (0+k) ([] ++XA) (by rfl) ho2 ⟨w2.heap.size,0,none⟩ 1 1 (fcells (key,cx)) (by rfl) (by rfl) HNW.out (fcells_one key cx) (by unfold maxLen;omega) (by omega) (by simp;omega) ?_;intro v2 w4 hown2 hgrow2 _;have b24:Below (w.heap.size+1) w2 w4:=(((Below.refl w2.heap.size w2).alloc (Nat.le_refl _) (.cells #[.string key, .int .u8 cx.k, .int .i64 cx.n, .string cx.s, .slice cx.la cx.ll cx.lc, .slice cx.oa cx.ol cx.oc] 98)).mono (by omega)).trans (grown_below hgrow2 (fun k hk=>(hrl k hk).1) (by simp;omega));have HBL4:=Lib.hid (HBL2.out.trans (b24.mono (by omega)));have zs4:w.heap.size<w4.heap.size:=Nat.lt_of_lt_of_le zs2 b24.size;have hrl2:∀g,v2.ownBlock=some g→w.heap.size+1≤g∧g<w4.heap.size:=hown2.lt;have HO2:=Lib.hid hown2;clear hgrow2 b24 hown2)
    |(at_builtin;refine wpList_append_own _ rfl (.tmp 31) (.tmp 34) 31 (by rfl) (w.heap.size+1) 98 i0 _ 6 96 Tryz.underlying31 hi0 hz0 hz1 hz2 rfl (by omega) v2 (0+k+1) ([] ++XA++fcells (key,cx)) (by rfl) HO2.out ⟨b,off,none⟩ 0 0 XB (by rfl) (by omega) (fun j u hj=>by rw [List.getElem?_eq_none (by omega)] at hj;cases hj) HB1.out (by unfold maxLen;omega) (by omega) (by omega) ?_;intro v3 w5 hown3 hgrow3 _;have b45:Below (w.heap.size+1) w4 w5:=grown_below hgrow3 (fun k hk=>(hrl2 k hk).1) (by omega);have HBL5:=Lib.hid (HBL4.out.trans (b45.mono (by omega)));have HO3:=Lib.hid hown3;clear hgrow3 b45 hown3))
  rw [←HR.out]
  have hcat: [] ++XA++fcells (key,cx)++XB=(cs.take k++(key,cx)::cs.drop (k+1)).flatMap fcells:=by rw [←HXA.out, ←HXB.out];simp
  have hll:(o.take k++(key,x)::o.drop (k+1)).length=0+k+1+0:=by
    rw [List.length_append,List.length_cons,List.length_drop,List.length_take, ←HLEN.out,Nat.min_eq_left hkl];omega
  have hown:=HO3.out
  rw [hcat, ←hll] at hown
  have hlt3:=hown.lt
  have hsh:Shows (only (fun k=>B0≤k) w) (only (Free B0 v3) w5) w.heap.size:=shows_step fun q hq hl=>⟨⟨hq,fun e=>by have:=(hlt3 q e.symm).1;omega⟩,HBL5.out.block q hl⟩
  obtain ⟨a,n,c,hv,hf,hz⟩:=isFields_of_own (B0:=B0) (B1:=w.heap.size+1) hown (by omega) (by rw [List.length_append,List.length_append,List.length_cons,List.length_cons,List.length_drop,List.length_drop,List.length_take,List.length_take,HCL.out])
    (PF.with_ HCL.out (fun i hi=>PF.closed o cs _ _ _ _ i hsh HBL5.out.size (HPF.out i hi)) ((HX.out.sub hsh).more HBL5.out.size) hks (by rw [←HLEN.out];exact hkl) (by rw [←HLEN.out];omega)) (by rw [hll];omega)
  exact ⟨⟨a,n,c,by rw [hv],hf,hz⟩,HBL5.out⟩
end Go.Proofs.YtgcfhkceejcliaaGreatDoor
namespace Go.Proofs.YtgcfhkceejcliaaGreatDoor
open Go.RowKit
def Neat (oa:Option Addr) (ol oc:Nat):Prop:=(oa=none∧ol=0∧oc=0)∨0<ol
theorem withF_length (o:List (ByteArray×V)) (key:ByteArray) (x:V):0<(withF o key x).length∧(withF o key x).length≤o.length+1:=by
  have:=fieldK_le o key
  unfold withF
  rw [List.length_append,List.length_cons,List.length_drop,List.length_take,Nat.min_eq_left this]
  refine ⟨by omega, ?_⟩
  split
  · rename_i h;have:=fieldIs_lt h;omega
  · omega
def WithPost2 (w:World) (B0:Nat) (l:List (ByteArray×V)) (e:Ending) (w':World):Prop:=
  (∃a n c,e= .returned (.slice a n c)∧IsFields (only (fun b=>B0≤b) w') w'.heap.size l a n c∧Neat a n c)∧Below w.heap.size w w'
set_option maxHeartbeats 2000000 in
set_option maxRecDepth 100000 in
theorem with_any (w:World) (B0:Nat) (hB0:B0≤w.heap.size) (o:List (ByteArray×V)) (oa:Option Addr) (ol oc:Nat) (ho:IsFields (only (fun k=>B0≤k) w) w.heap.size o oa ol oc) (hne:Neat oa ol oc) (key:ByteArray) (hks:key.size≤140737488355328) (x:V) (xk xn:Int) (xs:ByteArray) (xa:Option Addr) (xl xc:Nat) (ya:Option Addr) (yl yc:Nat) (hx:IsVal (only (fun k=>B0≤k) w) w.heap.size x ⟨xk,xn,xs,xa,xl,xc,ya,yl,yc⟩) (hfew:ol≤1000000):
    Calls Tryz.prog 76 #[.slice oa ol oc, .string key, .agg #[.int .u8 xk, .int .i64 xn, .string xs, .slice xa xl xc, .slice ya yl yc]] w (WithPost2 w B0 (withF o key x)):=by
  have go:Calls Tryz.prog 76 #[.slice oa ol oc, .string key, .agg #[.int .u8 xk, .int .i64 xn, .string xs, .slice xa xl xc, .slice ya yl yc]] w (WithPost w B0 (withF o key x)):=by
    rcases hne with ⟨rfl,rfl,rfl⟩|hp
    · have:o= [] :=List.eq_nil_of_length_eq_zero ho.len.symm
      subst this
      exact with_none w B0 hB0 key hks x ⟨xk,xn,xs,xa,xl,xc,ya,yl,yc⟩ hx
    · obtain ⟨cs,b,off,_,hab,_,_⟩:=ho.cells
      obtain ⟨rfl,hb⟩:=hab hp
      have hlen:=ho.len
      have hcap:=ho.cap
      have hkl:=fieldK_le o key
      cases his:fieldIs o key with
      | false=>
        by_cases hk:fieldK o key=oc
        · exact with_ft w B0 hB0 o b off ol oc ho key hks x ⟨xk,xn,xs,xa,xl,xc,ya,yl,yc⟩ hx hp hfew his hk
        · exact with_ff w B0 hB0 o b off ol oc ho key hks x ⟨xk,xn,xs,xa,xl,xc,ya,yl,yc⟩ hx hp hfew his (by omega)
      | true=>
        have hlt:=fieldIs_lt his
        by_cases hk:fieldK o key+1=oc
        · exact with_tt w B0 hB0 o b off ol oc ho key hks x ⟨xk,xn,xs,xa,xl,xc,ya,yl,yc⟩ hx hp hfew his hk
        · exact with_tf w B0 hB0 o b off ol oc ho key hks x ⟨xk,xn,xs,xa,xl,xc,ya,yl,yc⟩ hx hp hfew his (by omega)
  refine go.mono ?_
  rintro e w' ⟨⟨a,n,c,rfl,h1,h2⟩,h3⟩
  exact ⟨⟨a,n,c,rfl,h1, .inr (by rw [h1.len];exact (withF_length o key x).1)⟩,h3⟩
end Go.Proofs.YtgcfhkceejcliaaGreatDoor
namespace Go.Proofs.YtgcfhkceejcliaaGreatDoor
open Go.RowKit
def keyP (l:List Tk) (u:Nat):ByteArray:=match l[u]? with
  |some t=>plainS t.s
  |none=> .empty
def bL (f:List Tk→V×Nat) (l:List Tk):Nat→List V×Nat
  |0=>([],1)
  |i+1=>((bL f l i).1++ [(f (l.drop (bL f l i).2)).1],(bL f l i).2+(f (l.drop (bL f l i).2)).2)
def bO (f:List Tk→V×Nat) (l:List Tk):Nat→List (ByteArray×V)×Nat
  |0=>([],1)
  |i+1=>(withF (bO f l i).1 (keyP l (bO f l i).2) (f (l.drop (bO f l i).2)).1,(bO f l i).2+(f (l.drop (bO f l i).2)).2)
def leafP (t:Tk):V:=if t.k % 6=1 then .mk 1 (t.n % 2) .empty [] [] else if t.k % 6=2 then .mk 2 t.n .empty [] [] else if t.k % 6=3 then .mk 3 0 (plainS t.s) [] []
  else if t.k % 6=4 then .mk 4 0 .empty [] [] else if t.k % 6=5 then .mk 5 0 .empty [] [] else V.none
def oneP:Nat→List Tk→V×Nat
  |_, [] =>(V.none,0)
  |0,t::_=>(leafP t,1)
  | d+1,t::r=>if t.k % 6=4 then (.mk 4 0 .empty (bL (oneP d) (t::r) (t.m % 4).toNat).1 [],(bL (oneP d) (t::r) (t.m % 4).toNat).2)
    else if t.k % 6=5 then (.mk 5 0 .empty [] (bO (oneP d) (t::r) (t.m % 4).toNat).1,(bO (oneP d) (t::r) (t.m % 4).toNat).2)
    else (leafP t,1)
theorem bL_used {f:List Tk→V×Nat} (hf:∀l,(f l).2≤l.length) {l:List Tk} (hl:1≤l.length) (j:Nat):1≤(bL f l j).2∧(bL f l j).2≤l.length∧(bL f l j).1.length=j:=by
  induction j with
  |zero=>exact ⟨Nat.le_refl _,hl,rfl⟩
  | succ j ih=>
    have:=hf (l.drop (bL f l j).2)
    rw [List.length_drop] at this
    rw [bL]
    refine ⟨by dsimp only;omega,by dsimp only;omega,by dsimp only;rw [List.length_append,List.length_singleton];omega⟩
theorem bO_used {f:List Tk→V×Nat} (hf:∀l,(f l).2≤l.length) {l:List Tk} (hl:1≤l.length) (j:Nat):1≤(bO f l j).2∧(bO f l j).2≤l.length∧(bO f l j).1.length≤j:=by
  induction j with
  |zero=>exact ⟨Nat.le_refl _,hl,Nat.le_refl _⟩
  | succ j ih=>
    have:=hf (l.drop (bO f l j).2)
    rw [List.length_drop] at this
    rw [bO]
    refine ⟨by dsimp only;omega,by dsimp only;omega, ?_⟩
    have:=(withF_length (bO f l j).1 (keyP l (bO f l j).2) (f (l.drop (bO f l j).2)).1).2
    dsimp only;omega
theorem oneP_used (d:Nat):∀l,(oneP d l).2≤l.length:=by
  induction d with
  | zero=>
    intro l
    cases l with
    |nil=>simp [oneP]
    |cons t r=>simp [oneP]
  | succ d ih=>
    intro l
    cases l with
    |nil=>simp [oneP]
    | cons t r=>
      rw [oneP]
      split
      · exact (bL_used ih (by simp) _).2.1
      · split
        · exact (bO_used ih (by simp) _).2.1
        · simp
theorem plainS_size (s:ByteArray):(plainS s).size≤40:=by
  show (plainL s.data.toList).toArray.size≤40
  simp [plainL];omega
theorem keyP_size (l:List Tk) (u:Nat):(keyP l u).size≤40:=by
  unfold keyP
  split
  · exact plainS_size _
  · decide
end Go.Proofs.YtgcfhkceejcliaaGreatDoor
namespace Go.Proofs.YtgcfhkceejcliaaGreatDoor
open Go.RowKit
noncomputable def eqBs (a b:List UInt8):Bool:= @decide (a=b) (Classical.propDecidable _)
theorem equal_any (w:World) (B B':Nat) (a a':Option Addr) (n n' c c':Nat) (bs bs':List UInt8) (h:IsB w B a n c bs) (h':IsB w B' a' n' c' bs'):
    Calls Tryz.prog 69 #[.slice a n c, .slice a' n' c'] w fun e w'=>e= .returned (.bool (eqBs bs bs'))∧w'=w:=by
  have k1:=conv_isB h
  have k2:=conv_isB h'
  clear h h'
  by_cases e:bs=bs'
  · have hE:eqBs bs bs'=true:=by simp [eqBs,e]
    rw [hE]
    subst e
    go_enter Tryz.func69,Tryz.ntmps69
    go_wp2_with fail
    go_returns
    exact ⟨by first|rfl|simp,rfl⟩
  · have hE:eqBs bs bs'=false:=by simp [eqBs,e]
    rw [hE]
    have HE:=Lib.hid e
    clear e
    go_enter Tryz.func69,Tryz.ntmps69
    go_wp2_with fail
    go_returns
    exact ⟨by simp;exact HE.out,rfl⟩
end Go.Proofs.YtgcfhkceejcliaaGreatDoor
namespace Go.Proofs.YtgcfhkceejcliaaGreatDoor
open Go.RowKit
set_option maxHeartbeats 4000000 in
set_option maxRecDepth 100000 in
theorem plain6_any (w:World) (s:ByteArray) (hs:s.size≤140737488355328):
    Calls Tryz.prog 104 #[.string s] w fun e w'=>e= .returned (.string (plainS s))∧Below w.heap.size w w':=by
  obtain ⟨i0,hi0,hz0,hz1,hz2⟩:=info_parts ginfo8
  have hsz:s.data.toList.length=s.size:=Array.length_toList
  have HS:=Lib.hid hsz
  clear hsz
  go_enter Tryz.func104,Tryz.ntmps104
  go_wp2_with fail
  go_loopw [3,4] (fun u i wr=>∃(j:Nat) (a:Option Addr) (m c:Nat),j≤40∧j≤s.size∧i= .int .i64 j∧u= .slice a m c∧PH w wr s j (.slice a m c)) (fun _ i _=>40 - (intOf i).toNat)
  case atStart=>exact ⟨0,none,0,0,by omega,Nat.zero_le _,rfl,rfl,⟨⟨by simp [outs], .inl ⟨rfl,rfl⟩⟩,Below.refl _ _⟩⟩
  case round=>
    obtain ⟨j,a,m,c,hj,hj2,rfl,rfl,L⟩:=hrel
    have hlen:=HS.out
    by_cases h1:j<s.size
    · by_cases h2:j<40
      · have hgb:s.data.toList[j]'(by omega)=s[j]'h1:=by simp [ByteArray.getElem_eq_getElem_data]
        have hsn:=plain_snoc s.data.toList j (by omega)
        rw [hgb] at hsn
        have HSN:=Lib.hid hsn
        have hrlt:∀b,(Value.slice a m c).ownBlock=some b→w.heap.size≤b∧b<wr.heap.size:=L.own.lt
        have hb:=L.below.size
        have LL:=Lib.hid L
        have ho:=L.own
        clear hsn hgb L
        go_wp2_with (at_builtin;refine wpList_append_lies _ rfl (.tmp 15) (.tmp 20) 38 (by rfl) w.heap.size 5 i0 _ 1 1 Tryz.underlying38 hi0 hz0 hz1 hz2 rfl (by omega) (.slice a m c) j (outs ((s.data.toList.take j).map low)) (by rfl) (ho.alloc _) ⟨wr.heap.size,0,none⟩ 1 1 [.int .u8 ((s[j]'h1).toNat % 128:Int)] (by rfl) (by rfl) (World.news_of_block (cs:= #[.int .u8 ((s[j]'h1).toNat % 128:Int)]) (t:=5) (fr:=(0,0)) (heap_alloc_new wr _)) (by simp [Value.oneCell']) (by omega) (by unfold maxLen;omega) (by omega) (by simp;omega) (wr.heap.size+1) (by simp) ?_;intro g cap w7 hown7 hgrow7 hat7 hlt7)
        go_roundw
        case rel=>
          refine ⟨j+1,some ⟨g,0,none⟩,j+1,cap,by omega,by omega,by go_num,rfl,⟨?_, ?_⟩⟩
          · rw [HSN.out,outs_append]
            have e:outs [low (s[j]'h1)] = [.int .u8 ((s[j]'h1).toNat % 128:Int)] :=by simp [outs,low_nat]
            rw [e];exact hown7
          · exact (LL.out.below.trans (((Below.refl _ _).alloc (Nat.le_refl _) _).mono hb)).trans (grown_below hgrow7 (fun k hk=>(hrlt k hk).1) (by simp;omega))
        case measure=>simp [intOf];omega
      · obtain ⟨a2,n2,c2,hv2,hI⟩:=isB_of_own (bs:=(s.data.toList.take j).map low) (by rw [List.length_map,List.length_take,Nat.min_eq_left (by omega)];exact L.own)
        injection hv2 with h3 h4 h5;subst h3 h4 h5
        have hcv:=conv_isB hI
        have LL:=Lib.hid L
        have hp:((s.data.toList.take j).map low)=plainL s.data.toList:=by rw [plainL,show j=40 by omega]
        rw [hp] at hcv
        clear hI L hp
        go_wp2_with fail
        go_returns
        exact ⟨rfl,LL.out.below⟩
    · obtain ⟨a2,n2,c2,hv2,hI⟩:=isB_of_own (bs:=(s.data.toList.take j).map low) (by rw [List.length_map,List.length_take,Nat.min_eq_left (by omega)];exact L.own)
      injection hv2 with h3 h4 h5;subst h3 h4 h5
      have hcv:=conv_isB hI
      have LL:=Lib.hid L
      have hp:((s.data.toList.take j).map low)=plainL s.data.toList:=by rw [plainL,List.take_of_length_le (by omega),List.take_of_length_le (by omega)]
      rw [hp] at hcv
      clear hI L hp
      go_wp2_with fail
      go_returns
      exact ⟨rfl,LL.out.below⟩
end Go.Proofs.YtgcfhkceejcliaaGreatDoor
namespace Go.Proofs.YtgcfhkceejcliaaGreatDoor
open Go.RowKit
theorem QR.start2 (w:World) (t:Tk) (c:VC) (t1 t2 t3:TypeId) (W:World) (hW:W=((w.alloc (.cells #[.int .u8 0, .int .i64 0, .string { data:= #[] }, .slice none 0 0, .slice none 0 0] t1)).alloc (.cells #[.int .u8 t.k, .int .i64 t.n, .string t.s, .int .u8 t.m] t2)).alloc (.cells #[.int .u8 c.k, .int .i64 c.n, .string c.s, .slice c.la c.ll c.lc, .slice c.oa c.ol c.oc] t3)):
    QR w W t c∧W.heap.size=w.heap.size+3:=by
  obtain ⟨w1,hw1⟩:∃w1,w.alloc (.cells #[.int .u8 0, .int .i64 0, .string { data:= #[] }, .slice none 0 0, .slice none 0 0] t1)=w1:=⟨_,rfl⟩
  have s1:w1.heap.size=w.heap.size+1:=by rw [←hw1,World.size_alloc]
  have b1:Below w.heap.size w w1:=by rw [←hw1];exact (Below.refl _ _).alloc (Nat.le_refl _) _
  have c1:BC w1 w.heap.size [.int .u8 0, .int .i64 0, .string { data:= #[] }, .slice none 0 0, .slice none 0 0] :=by rw [←hw1];exact BC.start w #[.int .u8 0, .int .i64 0, .string { data:= #[] }, .slice none 0 0, .slice none 0 0] t1
  rw [hw1] at hW
  obtain ⟨w2,hw2⟩:∃w2,w1.alloc (.cells #[.int .u8 t.k, .int .i64 t.n, .string t.s, .int .u8 t.m] t2)=w2:=⟨_,rfl⟩
  have s2:w2.heap.size=w.heap.size+2:=by rw [←hw2,World.size_alloc,s1]
  have b2:Below w1.heap.size w1 w2:=by rw [←hw2];exact (Below.refl _ _).alloc (Nat.le_refl _) _
  have c2:=BC.start w1 #[.int .u8 t.k, .int .i64 t.n, .string t.s, .int .u8 t.m] t2
  rw [hw2,s1] at c2
  rw [hw2] at hW
  subst hW
  have b3:Below w2.heap.size w2 (w2.alloc (.cells #[.int .u8 c.k, .int .i64 c.n, .string c.s, .slice c.la c.ll c.lc, .slice c.oa c.ol c.oc] t3)):=(Below.refl _ _).alloc (Nat.le_refl _) _
  have c3:=BC.start w2 #[.int .u8 c.k, .int .i64 c.n, .string c.s, .slice c.la c.ll c.lc, .slice c.oa c.ol c.oc] t3
  rw [s2] at c3
  exact ⟨⟨(c1.keep b2 (by omega)).keep b3 (by omega),c2.keep b3 (by omega),c3,(b1.trans (b2.mono (by omega))).trans (b3.mono (by omega))⟩,by rw [World.size_alloc,s2]⟩
theorem results_one {tmps:Array Value} {W:World} {b:Nat} {c:VC} {x:Value} (ht:tmps[4]? =some (.pointer (some ⟨b,0,none⟩))) (ht':tmps[5]? =some x) (h:BC W b (vcells c)):
    (results Tryz.f41 tmps).run Tryz.prog W= .ok (.tuple #[.agg #[.int .u8 c.k, .int .i64 c.n, .string c.s, .slice c.la c.ll c.lc, .slice c.oa c.ol c.oc],x]) W:=by
  obtain ⟨r0,r1,r2,r3,r4⟩:=(⟨h.at_ 0 _ rfl,h.at_ 1 _ rfl,h.at_ 2 _ rfl,h.at_ 3 _ rfl,h.at_ 4 _ rfl⟩:W.cell? ⟨b,0,none⟩=some (.int .u8 c.k)∧W.cell? ⟨b,1,none⟩=some (.int .i64 c.n)∧W.cell? ⟨b,2,none⟩=some (.string c.s)∧W.cell? ⟨b,3,none⟩=some (.slice c.la c.ll c.lc)∧W.cell? ⟨b,4,none⟩=some (.slice c.oa c.ol c.oc))
  simp [results,Tryz.results41,go_sem,ht,ht',r0,r1,r2,r3,r4]
theorem one_leave {w W:World} {c:VC} {r:V×Nat} {a:Act} (h:BC W w.heap.size (vcells c)) (hb:Below w.heap.size w W) (hv:IsVal (only (fun b=>w.heap.size≤b) W) W.heap.size r.1 c) (hd:a.defers= []) (ht:a.tmps[4]? =some (.pointer (some ⟨w.heap.size,0,none⟩))) (ht':a.tmps[5]? =some (.int .i64 (r.2:Int))):
    bodyPost Tryz.prog Tryz.f41 (RawPost w r) .ret a W:=
  ⟨hd,_,results_one ht ht' h,⟨c,rfl,hv⟩,hb⟩
structure BLL (w wr:World) (d:Nat) (l:List Tk) (t:Tk) (j:Nat) (a:Option Addr) (m c:Nat) (xs:List V) (cs:List VC) (u:Nat):Prop where
  rd:bL (oneP d) l j=(xs,u)
  len:xs.length=j
  cen:cs.length=j
  box:QR w wr t ⟨4,0, .empty,a,m,c,none,0,0⟩
  row:RowV wr (w.heap.size+3) (.slice a m c) xs cs
theorem BLL.round {w wr w4 w6 w7:World} {d:Nat} {l:List Tk} {t:Tk} {j:Nat} {a:Option Addr} {m c:Nat} {xs:List V} {cs:List VC} {u:Nat} {x:V} {q:Nat} {cx:VC} {g cap:Nat}
    (h:BLL w wr d l t j a m c xs cs u) (hx:oneP d (l.drop u)=(x,q)) (hb4:Below wr.heap.size wr w4) (hI:IsVal (only (fun b=>wr.heap.size≤b) w4) w4.heap.size x cx) (hb6:Below w4.heap.size w4 w6)
    (hown:w7.ownsRow (w.heap.size+3) 33 5 (.slice (some ⟨g,0,none⟩) (j+1) cap) (j+1) (cs.flatMap vcells++vcells cx)) (hg:w6.grownBy w7 (Value.slice a m c).ownBlock)
    (hat:(Value.slice a m c).ownBlock=some g∨w4.heap.size≤g):
    BLL w (w7.setCell ⟨w.heap.size+2,3,none⟩ (.slice (some ⟨g,0,none⟩) (j+1) cap)) d l t (j+1) (some ⟨g,0,none⟩) (j+1) cap (xs++ [x]) (cs++ [cx]) (u+q):=by
  have hrow:=h.row.later (PV.closed xs cs) (.of_below 0 hb4) (by omega)
  have hrlt:∀b,(Value.slice a m c).ownBlock=some b→w.heap.size+3≤b∧b<wr.heap.size:=h.row.lt
  have hsz:=h.box.val.lt
  have hsz4:=hb4.size
  have hsz6:=hb6.size
  have hgb:Below (w.heap.size+3) w6 w7:=grown_below hg (fun b hb=>(hrlt b hb).1) (by omega)
  have hb67:Below (w.heap.size+3) w4 w7:=(hb6.mono (by omega)).trans hgb
  obtain ⟨s1,s2⟩:=PV.snoc (l:=xs) (cs:=cs) (by rw [h.len,h.cen]) x cx
  have hnew:PV (xs++ [x]) (cs++ [cx]) (only (Free (w.heap.size+3) (.slice a m c)) w4) w4.heap.size xs.length:=s1 _ _ (hI.sub (shows_step fun b hb _=>⟨⟨by omega,fun e=>by have:=(hrlt b e.symm).2;omega⟩,rfl⟩))
  have hpush:=Row.push (PV.closed (xs++ [x]) (cs++ [cx])) hrow hb6 hg (u':= .slice (some ⟨g,0,none⟩) (j+1) cap) (news:=vcells cx) (by rw [h.len];exact hown) (by
    rcases hat with e|e
    · left;rw [e];rfl
    · right;intro b hb;have:g=b:=by simpa [Value.ownBlock] using hb
      omega) hnew s2
  have hbox:=(h.box.next hb4).below_ hb67 (Nat.le_refl _)
  refine ⟨?_,by simp [h.len],by simp [h.cen], ?_, ?_⟩
  · rw [bL,h.rd]
    dsimp only
    rw [hx]
  · exact ⟨hbox.res.far (by omega),hbox.tok.far (by omega),hbox.val.set (i:=3) (x:= .slice (some ⟨g,0,none⟩) (j+1) cap) (by simp [vcells]),hbox.below.trans ((RStep.self (b:=w.heap.size+2) (o:=3)).below (by have:=hbox.val.lt;omega)|>.mono (by omega))⟩
  · have hr2:RowV w7 (w.heap.size+3) (.slice (some ⟨g,0,none⟩) (j+1) cap) (xs++ [x]) (cs++ [cx]):=by
      show Row _ _ _ _ _ _ _ _
      rw [flat_snoc,List.length_append,List.length_singleton]
      exact hpush
    exact hr2.set (PV.closed (xs++ [x]) (cs++ [cx])) (by omega)
structure BLO (w wr:World) (d:Nat) (l:List Tk) (t:Tk) (j:Nat) (a:Option Addr) (m c:Nat) (o:List (ByteArray×V)) (u:Nat):Prop where
  rd:bO (oneP d) l j=(o,u)
  box:QR w wr t ⟨5,0, .empty,none,0,0,a,m,c⟩
  neat:Neat a m c
  fld:IsFields (only (fun k=>w.heap.size+3≤k) wr) wr.heap.size o a m c
theorem IsFields.far {W W':World} {b base:Nat} {l:List (ByteArray×V)} {a:Option Addr} {n c:Nat} (h:IsFields (only (fun k=>base≤k) W) W.heap.size l a n c) (s:RStep W W' b) (hb:b<base):IsFields (only (fun k=>base≤k) W') W'.heap.size l a n c:=
  (IsFields.sub (shows_step fun k hk hl=>⟨hk,s.block k hl (by omega)⟩) h).more s.size
theorem IsFields.behind {W W':World} {base:Nat} {l:List (ByteArray×V)} {a:Option Addr} {n c:Nat} (h:IsFields (only (fun k=>base≤k) W) W.heap.size l a n c) (hb:Below W.heap.size W W'):IsFields (only (fun k=>base≤k) W') W'.heap.size l a n c:=
  (IsFields.sub (shows_step fun k hk hl=>⟨hk,hb.block k hl⟩) h).more hb.size
theorem BLO.round {w wr w5 w6:World} {d:Nat} {l:List Tk} {t:Tk} {j:Nat} {a:Option Addr} {m c:Nat} {o:List (ByteArray×V)} {u:Nat} {x:V} {q:Nat} {a':Option Addr} {m' c':Nat} {key:ByteArray}
    (h:BLO w wr d l t j a m c o u) (hx:oneP d (l.drop u)=(x,q)) (hk:keyP l u=key) (hb5:Below wr.heap.size wr w5) (hb6:Below w5.heap.size w5 w6)
    (hf:IsFields (only (fun b=>w.heap.size+3≤b) w6) w6.heap.size (withF o key x) a' m' c') (hne:Neat a' m' c'):
    BLO w (w6.setCell ⟨w.heap.size+2,4,none⟩ (.slice a' m' c')) d l t (j+1) a' m' c' (withF o key x) (u+q):=by
  have hbox:=(h.box.next hb5).next hb6
  have hsz:=hbox.val.lt
  refine ⟨?_, ?_,hne,hf.far (RStep.self (b:=w.heap.size+2) (o:=4)) (by omega)⟩
  · rw [bO,h.rd]
    dsimp only
    rw [hx,hk]
  · exact ⟨hbox.res.far (by omega),hbox.tok.far (by omega),hbox.val.set (i:=4) (x:= .slice a' m' c') (by simp [vcells]),hbox.below.trans ((RStep.self (b:=w.heap.size+2) (o:=4)).below (by omega)|>.mono (by omega))⟩
theorem isVal_of_fields {w:World} {B:Nat} {o:List (ByteArray×V)} {a:Option Addr} {n c:Nat} (h:IsFields w B o a n c) (k:Int) (hk0:0≤k) (hk1:k<256):IsVal w B (.mk k 0 .empty [] o) ⟨k,0, .empty,none,0,0,a,n,c⟩:=
  IsVal.of_lists (c:=⟨k,0, .empty,none,0,0,a,n,c⟩) (l:= []) ⟨hk0,hk1,(by decide:(-9223372036854775808:Int)≤0),(by decide:(0:Int)≤9223372036854775807),(by decide:ByteArray.empty.size≤140737488355328),(by decide:(0:Nat)≤0),(by decide:(0:Nat)≤9223372036854775807),(by decide:(0:Nat)≤1466015503701),h.cap,h.max,h.few⟩ ⟨rfl,(by decide:(0:Nat)≤0),(by decide:(0:Nat)≤9223372036854775807),(by decide:(0:Nat)≤1466015503701),0,0,fun _=>vzero,fun h=>absurd h (Nat.lt_irrefl 0),fun i h=>absurd h (by simp)⟩ h
theorem isFields_nil (w:World) (B:Nat):IsFields w B [] none 0 0:=
  ⟨rfl,Nat.le_refl _,by omega,by omega,0,0,fun _=>vzero,fun h=>absurd h (by omega),fun i h=>absurd h (by simp)⟩
end Go.Proofs.YtgcfhkceejcliaaGreatDoor
namespace Go.Proofs.YtgcfhkceejcliaaGreatDoor
open Go.RowKit
theorem and_one_i64 (x:Int):bits BinOp.and IntKind.i64 x 1=x % 2:=by
  have h:bits BinOp.and IntKind.i64 x 1=IntKind.i64.wrap (((BitVec.ofInt 64 x &&& BitVec.ofInt 64 1).toNat:Nat):Int):=rfl
  have e:(BitVec.ofInt 64 1).toNat=1:=by decide
  rw [h,BitVec.toNat_and,e,Nat.and_one_is_mod,BitVec.toNat_ofInt,IntKind.wrap_i64]
  have e2:((2 ^ 64:Nat):Int)=18446744073709551616:=by decide
  rw [e2]
  omega
set_option maxHeartbeats 4000000 in
set_option maxRecDepth 100000 in
theorem one_nil (w:World) (dd:Int) (a:Option Addr) (c:Nat):
    Calls Tryz.prog 41 #[.slice a 0 c, .int .i64 dd] w (RawPost w (V.none,0)):=by
  go_enter Tryz.func41,Tryz.ntmps41
  generalize hQ0:bodyPost _ _ _=Q0
  have HQ:=Lib.hid hQ0
  clear hQ0
  go_wp2_with fail
  rw [←HQ.out]
  exact one_leave (c:=vzero) (BC.start w #[.int .u8 0, .int .i64 0, .string { data:= #[] }, .slice none 0 0, .slice none 0 0] _) ((Below.refl _ _).alloc (Nat.le_refl _) _) (isVal_none _ _) rfl rfl rfl
set_option maxHeartbeats 4000000 in
set_option maxRecDepth 100000 in
theorem one_0 (w:World) (dd:Int) (t:Tk) (r:List Tk) (a:Option Addr) (n c:Nat) (h:IsToks w w.heap.size (t::r) a n c) (hk:t.k % 6=0):
    Calls Tryz.prog 41 #[.slice a n c, .int .i64 dd] w (RawPost w (leafP t,1)):=by
  obtain ⟨b,o,hp,rfl,hb,htk,hbd⟩:=h.get (k:=0) (by have:=h.len;rw [this];simp)
  have ht:TkAt w b o t:=by simpa using htk
  replace hbd:t.Bnd:=by simpa using hbd
  have c0:=ht.c0;have c1:=ht.c1;have c2:=ht.c2;have c3:=ht.c3
  have b2:=hbd.m0;have b3:=hbd.m1
  have hnp:0<n:=by rw [h.len];simp
  have hne:((n:Int)==0)=false:=by simp;omega
  have hk2:Int.tmod t.k 6=0:=by rw [Int.tmod_eq_emod_of_nonneg hbd.k0];exact hk
  have HBD:=Lib.hid hbd
  have hR:leafP t=V.none:=by rw [leafP];simp [hk]
  have HR:=Lib.hid hR
  have hz:=BC.start w #[.int .u8 0, .int .i64 0, .string { data:= #[] }, .slice none 0 0, .slice none 0 0] 33
  have hb2:Below w.heap.size w (w.alloc (.cells #[.int .u8 0, .int .i64 0, .string { data:= #[] }, .slice none 0 0, .slice none 0 0] 33)):=(Below.refl _ _).alloc (Nat.le_refl _) _
  have HZ:=Lib.hid hz
  have HB2:=Lib.hid hb2
  rw [hR]
  clear h ht htk hp hbd hk hR hz hb2
  go_enter Tryz.func41,Tryz.ntmps41
  generalize hQ0:bodyPost _ _ _=Q0
  have HQ:=Lib.hid hQ0
  clear hQ0
  go_wp2_with fail
  rw [←HQ.out]
  have A:=BC.start w #[.int .u8 0, .int .i64 0, .string { data:= #[] }, .slice none 0 0, .slice none 0 0] 33
  have B1:Below w.heap.size w (w.alloc (.cells #[.int .u8 0, .int .i64 0, .string { data:= #[] }, .slice none 0 0, .slice none 0 0] 33)):=(Below.refl _ _).alloc (Nat.le_refl _) _
  exact one_leave (c:=⟨0,0, .empty,none,0,0,none,0,0⟩) (A.keep ((Below.refl _ _).alloc (Nat.le_refl _) _) A.lt) (B1.alloc B1.size _) (isVal_none _ _) rfl rfl rfl
set_option maxHeartbeats 4000000 in
set_option maxRecDepth 100000 in
theorem one_1 (w:World) (dd:Int) (t:Tk) (r:List Tk) (a:Option Addr) (n c:Nat) (h:IsToks w w.heap.size (t::r) a n c) (hk:t.k % 6=1):
    Calls Tryz.prog 41 #[.slice a n c, .int .i64 dd] w (RawPost w (leafP t,1)):=by
  obtain ⟨b,o,hp,rfl,hb,htk,hbd⟩:=h.get (k:=0) (by have:=h.len;rw [this];simp)
  have ht:TkAt w b o t:=by simpa using htk
  replace hbd:t.Bnd:=by simpa using hbd
  have c0:=ht.c0;have c1:=ht.c1;have c2:=ht.c2;have c3:=ht.c3
  have b2:=hbd.m0;have b3:=hbd.m1
  have hnp:0<n:=by rw [h.len];simp
  have hne:((n:Int)==0)=false:=by simp;omega
  have hk2:Int.tmod t.k 6=1:=by rw [Int.tmod_eq_emod_of_nonneg hbd.k0];exact hk
  have HBD:=Lib.hid hbd
  have hR:leafP t=V.mk 1 (t.n % 2) .empty [] [] :=by rw [leafP];simp [hk]
  have HR:=Lib.hid hR
  have hz:=BC.start w #[.int .u8 0, .int .i64 0, .string { data:= #[] }, .slice none 0 0, .slice none 0 0] 33
  have hb2:Below w.heap.size w (w.alloc (.cells #[.int .u8 0, .int .i64 0, .string { data:= #[] }, .slice none 0 0, .slice none 0 0] 33)):=(Below.refl _ _).alloc (Nat.le_refl _) _
  have HZ:=Lib.hid hz
  have HB2:=Lib.hid hb2
  rw [hR]
  clear h ht htk hp hbd hk hR hz hb2
  go_enter Tryz.func41,Tryz.ntmps41
  generalize hQ0:bodyPost _ _ _=Q0
  have HQ:=Lib.hid hQ0
  clear hQ0
  go_wp2_with fail
  rw [and_one_i64]
  rw [←HQ.out]
  have A:=BC.start w #[.int .u8 1, .int .i64 (t.n % 2), .string { data:= #[] }, .slice none 0 0, .slice none 0 0] 33
  have B1:Below w.heap.size w (w.alloc (.cells #[.int .u8 1, .int .i64 (t.n % 2), .string { data:= #[] }, .slice none 0 0, .slice none 0 0] 33)):=(Below.refl _ _).alloc (Nat.le_refl _) _
  exact one_leave (c:=⟨1,t.n % 2, .empty,none,0,0,none,0,0⟩) (A.keep ((Below.refl _ _).alloc (Nat.le_refl _) _) A.lt) (B1.alloc B1.size _) (isVal_leaf _ _ _ _ _ (by omega) (by omega) (by omega) (by omega) (by decide)) rfl rfl rfl
set_option maxHeartbeats 4000000 in
set_option maxRecDepth 100000 in
theorem one_2 (w:World) (dd:Int) (t:Tk) (r:List Tk) (a:Option Addr) (n c:Nat) (h:IsToks w w.heap.size (t::r) a n c) (hk:t.k % 6=2):
    Calls Tryz.prog 41 #[.slice a n c, .int .i64 dd] w (RawPost w (leafP t,1)):=by
  obtain ⟨b,o,hp,rfl,hb,htk,hbd⟩:=h.get (k:=0) (by have:=h.len;rw [this];simp)
  have ht:TkAt w b o t:=by simpa using htk
  replace hbd:t.Bnd:=by simpa using hbd
  have c0:=ht.c0;have c1:=ht.c1;have c2:=ht.c2;have c3:=ht.c3
  have b2:=hbd.m0;have b3:=hbd.m1
  have hnp:0<n:=by rw [h.len];simp
  have hne:((n:Int)==0)=false:=by simp;omega
  have hk2:Int.tmod t.k 6=2:=by rw [Int.tmod_eq_emod_of_nonneg hbd.k0];exact hk
  have HBD:=Lib.hid hbd
  have hR:leafP t=V.mk 2 t.n .empty [] [] :=by rw [leafP];simp [hk]
  have HR:=Lib.hid hR
  have hz:=BC.start w #[.int .u8 0, .int .i64 0, .string { data:= #[] }, .slice none 0 0, .slice none 0 0] 33
  have hb2:Below w.heap.size w (w.alloc (.cells #[.int .u8 0, .int .i64 0, .string { data:= #[] }, .slice none 0 0, .slice none 0 0] 33)):=(Below.refl _ _).alloc (Nat.le_refl _) _
  have HZ:=Lib.hid hz
  have HB2:=Lib.hid hb2
  rw [hR]
  clear h ht htk hp hbd hk hR hz hb2
  go_enter Tryz.func41,Tryz.ntmps41
  generalize hQ0:bodyPost _ _ _=Q0
  have HQ:=Lib.hid hQ0
  clear hQ0
  go_wp2_with fail
  rw [←HQ.out]
  have A:=BC.start w #[.int .u8 2, .int .i64 t.n, .string { data:= #[] }, .slice none 0 0, .slice none 0 0] 33
  have B1:Below w.heap.size w (w.alloc (.cells #[.int .u8 2, .int .i64 t.n, .string { data:= #[] }, .slice none 0 0, .slice none 0 0] 33)):=(Below.refl _ _).alloc (Nat.le_refl _) _
  exact one_leave (c:=⟨2,t.n, .empty,none,0,0,none,0,0⟩) (A.keep ((Below.refl _ _).alloc (Nat.le_refl _) _) A.lt) (B1.alloc B1.size _) (isVal_leaf _ _ _ _ _ (by omega) (by omega) HBD.out.n0 HBD.out.n1 (by decide)) rfl rfl rfl
set_option maxHeartbeats 4000000 in
set_option maxRecDepth 100000 in
theorem one_3 (w:World) (dd:Int) (t:Tk) (r:List Tk) (a:Option Addr) (n c:Nat) (h:IsToks w w.heap.size (t::r) a n c) (hk:t.k % 6=3):
    Calls Tryz.prog 41 #[.slice a n c, .int .i64 dd] w (RawPost w (leafP t,1)):=by
  obtain ⟨b,o,hp,rfl,hb,htk,hbd⟩:=h.get (k:=0) (by have:=h.len;rw [this];simp)
  have ht:TkAt w b o t:=by simpa using htk
  replace hbd:t.Bnd:=by simpa using hbd
  have c0:=ht.c0;have c1:=ht.c1;have c2:=ht.c2;have c3:=ht.c3
  have b2:=hbd.m0;have b3:=hbd.m1
  have hnp:0<n:=by rw [h.len];simp
  have hne:((n:Int)==0)=false:=by simp;omega
  have hk2:Int.tmod t.k 6=3:=by rw [Int.tmod_eq_emod_of_nonneg hbd.k0];exact hk
  have HBD:=Lib.hid hbd
  have hR:leafP t=V.mk 3 0 (plainS t.s) [] [] :=by rw [leafP];simp [hk]
  have HR:=Lib.hid hR
  have hz:=BC.start w #[.int .u8 0, .int .i64 0, .string { data:= #[] }, .slice none 0 0, .slice none 0 0] 33
  have hb2:Below w.heap.size w (w.alloc (.cells #[.int .u8 0, .int .i64 0, .string { data:= #[] }, .slice none 0 0, .slice none 0 0] 33)):=(Below.refl _ _).alloc (Nat.le_refl _) _
  have HZ:=Lib.hid hz
  have HB2:=Lib.hid hb2
  rw [hR]
  have HA:=Lib.hid (hb2.alloc hb2.size (.cells #[.int .u8 t.k, .int .i64 t.n, .string t.s, .int .u8 t.m] 51))
  have HK:=Lib.hid (hz.keep ((Below.refl _ _).alloc (Nat.le_refl _) (.cells #[.int .u8 t.k, .int .i64 t.n, .string t.s, .int .u8 t.m] 51)) hz.lt)
  clear h ht htk hp hbd hk hR hz hb2
  go_enter Tryz.func41,Tryz.ntmps41
  generalize hQ0:bodyPost _ _ _=Q0
  have HQ:=Lib.hid hQ0
  clear hQ0
  go_wp2_with fail
  refine (plain_any _ t.s HBD.out.s1).mono ?_
  rintro e w3 ⟨rfl,hb3⟩
  have D:=HK.out.keep hb3 (by simp;omega)
  obtain ⟨r0,r1,r2,r3,r4⟩:=row5 D.at_
  have g0:=D.fr 0;have g1:=D.fr 1;have g2:=D.fr 2;have g3:=D.fr 3;have g4:=D.fr 4
  have zs3:w.heap.size<w3.heap.size:=D.lt
  have HD3:=Lib.hid D
  have HB3:=Lib.hid (HA.out.trans (hb3.mono (by simp;omega)))
  obtain ⟨ps,hps,hpz⟩:∃ps,plainS t.s=ps∧ps.size≤140737488355328:=⟨_,rfl,Nat.le_trans (plainS_size _) (by omega)⟩
  have HPS:=Lib.hid hpz
  rw [hps] at HQ ⊢
  clear D hb3 hps hpz
  go_wp2_with fail
  rw [←HQ.out]
  have s1:RStep w3 (((((w3.setCell ⟨w.heap.size,0,none⟩ (.int .u8 3)).setCell ⟨w.heap.size,1,none⟩ (.int .i64 0)).setCell ⟨w.heap.size,2,none⟩ (.string ps)).setCell ⟨w.heap.size,3,none⟩ (.slice none 0 0)).setCell ⟨w.heap.size,4,none⟩ (.slice none 0 0)) w.heap.size:=(((RStep.self.trans RStep.self).trans RStep.self).trans RStep.self).trans RStep.self
  have hbc:BC (((((w3.setCell ⟨w.heap.size,0,none⟩ (.int .u8 3)).setCell ⟨w.heap.size,1,none⟩ (.int .i64 0)).setCell ⟨w.heap.size,2,none⟩ (.string ps)).setCell ⟨w.heap.size,3,none⟩ (.slice none 0 0)).setCell ⟨w.heap.size,4,none⟩ (.slice none 0 0)) w.heap.size (vcells ⟨3,0,ps,none,0,0,none,0,0⟩):=((((HD3.out.set (i:=0) (x:= .int .u8 3) (by simp)).set (i:=1) (x:= .int .i64 0) (by simp)).set (i:=2) (x:= .string ps) (by simp)).set (i:=3) (x:= .slice none 0 0) (by simp)).set (i:=4) (x:= .slice none 0 0) (by simp)
  exact one_leave (c:=⟨3,0,ps,none,0,0,none,0,0⟩) hbc (HB3.out.trans (s1.below (by omega))) (isVal_leaf _ _ 3 0 ps (by omega) (by omega) (by omega) (by omega) HPS.out) rfl rfl rfl
end Go.Proofs.YtgcfhkceejcliaaGreatDoor
namespace Go.Proofs.YtgcfhkceejcliaaGreatDoor
open Go.RowKit
set_option maxHeartbeats 8000000 in
set_option maxRecDepth 100000 in
theorem one_list (w:World) (dd:Int) (hd0:0≤dd) (hd:dd≤5) (d:Nat) (t:Tk) (r:List Tk) (a:Option Addr) (n c:Nat) (h:IsToks w w.heap.size (t::r) a n c) (IH:∀(W:World) (l:List Tk) (a:Option Addr) (n c:Nat),IsToks W W.heap.size l a n c→Calls Tryz.prog 41 #[.slice a n c, .int .i64 (dd+1)] W (RawPost W (oneP d l))) (hk:t.k % 6=4):
    Calls Tryz.prog 41 #[.slice a n c, .int .i64 dd] w (RawPost w (oneP (d+1) (t::r))):=by
  obtain ⟨i0,hi0,hz0,hz1,hz2⟩:=info_parts ginfoV
  have hw1:IntKind.i64.wrap (dd+1)=dd+1:=IntWalk.i64_in _ (by omega)
  obtain ⟨b,o,hp,rfl,hb,htk,hbd⟩:=h.get (k:=0) (by have:=h.len;rw [this];simp)
  have ht:TkAt w b o t:=by simpa using htk
  replace hbd:t.Bnd:=by simpa using hbd
  have c0:=ht.c0;have c1:=ht.c1;have c2:=ht.c2;have c3:=ht.c3
  have b0:=hbd.k0;have b1:=hbd.k1;have b2:=hbd.m0;have b3:=hbd.m1
  have hlen:=h.len
  have hcap:=h.cap
  have hmax:=h.max
  have hnp:0<n:=by rw [hlen];simp
  have hne:((n:Int)==0)=false:=by simp;omega
  obtain ⟨K,hK⟩:∃K:Nat,(t.m % 4).toNat=K:=⟨_,rfl⟩
  have hK1:t.m % 4=(K:Int):=by omega
  have hK2:Int.tmod t.m 4=(K:Int):=by rw [Int.tmod_eq_emod_of_nonneg b2];exact hK1
  have hK3:K≤3:=by omega
  have hk2:Int.tmod t.k 6=4:=by rw [Int.tmod_eq_emod_of_nonneg b0];exact hk
  have HI:=Lib.hid h
  have HQR:=Lib.hid (QR.start2 w t ⟨4,0, .empty,none,0,0,none,0,0⟩ 33 51 33)
  have HBD:=Lib.hid hbd
  have IHH:=Lib.hid IH
  have HLEN:=Lib.hid hlen
  have HKK:=Lib.hid hK
  have HK:=Lib.hid hk
  clear h ht htk hp hbd IH hlen hK hk
  go_enter Tryz.func41,Tryz.ntmps41
  generalize hQ0:bodyPost _ _ _=Q0
  have HQ:=Lib.hid hQ0
  clear hQ0
  go_wp2_with fail
  go_loopw [7,9,10,11] (fun u i _ _ wr=>∃(j:Nat) (a':Option Addr) (m c':Nat) (xs:List V) (cs:List VC) (un:Nat),j≤K∧u= .int .i64 un∧i= .int .u8 j∧BLL w wr d (t::r) t j a' m c' xs cs un) (fun _ i _ _ _=>K - (intOf i).toNat)
  case atStart=>exact ⟨0,none,0,0, [], [],1,Nat.zero_le _,rfl,rfl,⟨rfl,rfl,rfl,(HQR.out _ rfl).1,Row.nil _ _ _ _ _⟩⟩
  case round=>
    obtain ⟨j,a',m,c',xs,cs,un,hj,rfl,rfl,L⟩:=hrel
    have k0:=L.box.tok.at_ 0 _ rfl;have k3:=L.box.tok.at_ 3 _ rfl
    obtain ⟨v0,v1,v2,v3,v4⟩:=row5 L.box.val.at_
    have p0:=L.box.val.fr 3
    obtain ⟨r0,r1,r2,r3,r4⟩:=row5 L.box.res.at_
    have g0:=L.box.res.fr 0;have g1:=L.box.res.fr 1;have g2:=L.box.res.fr 2;have g3:=L.box.res.fr 3;have g4:=L.box.res.fr 4
    have zs2:=L.box.val.lt;have zs1:=L.box.tok.lt;have zs0:=L.box.res.lt
    obtain ⟨hu1,hu2,hol⟩:1≤un∧un≤n∧xs.length=j:=by
      have:=bL_used (oneP_used d) (l:=t::r) (by simp) j
      rw [L.rd] at this
      exact ⟨this.1,by rw [HLEN.out];exact this.2.1,this.2.2⟩
    by_cases hlt:j<K
    · have hz9:c=un→n - un=0:=by omega
      obtain ⟨⟨x,q⟩,hx⟩:∃p,oneP d ((t::r).drop un)=p:=⟨_,rfl⟩
      have hq2:un+q≤n:=by have:=oneP_used d ((t::r).drop un);rw [hx,List.length_drop] at this;have:=HLEN.out;dsimp only at*;omega
      have HX:=Lib.hid hx
      have HC:Hid (∀W,Below w.heap.size w W→Calls Tryz.prog 41 #[if c=un then .slice (some ⟨b,o,none⟩) 0 0 else .slice (some ⟨b,o+un*4,none⟩) (n - un) (c - un), .int .i64 (dd+1)] W (RawPost W (x,q))):=by
        intro W hW
        have HIW:=(HI.out.later_ hW).drop un hu2
        rw [←HX.out]
        by_cases hc:c=un
        · rw [if_pos hc];exact IHH.out W _ _ _ _ (HIW.none_left (hz9 hc))
        · rw [if_neg hc];rw [Option.map_some,add_at] at HIW;exact IHH.out W _ _ _ _ HIW
      have LL:=Lib.hid L
      clear L hx
      by_cases hc:c=un
      · replace HC:=HC.out
        simp only [if_pos hc] at HC
        replace HC:=Lib.hid HC
        have hz:=hz9 hc
        clear hz9
        subst hc
        go_wp2_with fail
        refine (HC.out _ LL.out.box.below).mono ?_
        rintro e w4 ⟨⟨cx,rfl,hI4⟩,hb4⟩
        have L:=LL.out
        have B4:=L.box.next hb4
        have k0:=B4.tok.at_ 0 _ rfl;have k3:=B4.tok.at_ 3 _ rfl
        obtain ⟨v0,v1,v2,v3,v4⟩:=row5 B4.val.at_
        have p0:=B4.val.fr 3
        obtain ⟨r0,r1,r2,r3,r4⟩:=row5 B4.res.at_
        have g0:=B4.res.fr 0;have g1:=B4.res.fr 1;have g2:=B4.res.fr 2;have g3:=B4.res.fr 3;have g4:=B4.res.fr 4
        have zt2:=B4.val.lt;have zt1:=B4.tok.lt;have zt0:=B4.res.lt
        have hrow:RowV w4 (w.heap.size+3) (.slice a' m c') xs cs:=L.row.later (PV.closed xs cs) (.of_below 0 hb4) (by omega)
        have hne2:(Value.slice a' m c').ownBlock≠some (w.heap.size+2):=fun e=>by have:=(L.row.lt _ e).1;omega
        have ho4:=hrow.own
        rw [L.len] at ho4
        have hu3:(c:Int)+q≤9223372036854775807:=by omega
        have HI4:=Lib.hid hI4
        have HB4:=Lib.hid hb4
        have hnw:∀jj u,(vcells cx)[jj]? =some u→((w4.alloc (.cells #[.int .u8 cx.k, .int .i64 cx.n, .string cx.s, .slice cx.la cx.ll cx.lc, .slice cx.oa cx.ol cx.oc] 33)).alloc (.cells #[.int .u8 cx.k, .int .i64 cx.n, .string cx.s, .slice cx.la cx.ll cx.lc, .slice cx.oa cx.ol cx.oc] 33)).cell? ((⟨w4.heap.size+1,0,none⟩:Addr).add jj)=some u:=by
          have:=World.news_of_block (t:=33) (fr:=(0,0)) (heap_alloc_new (w4.alloc (.cells #[.int .u8 cx.k, .int .i64 cx.n, .string cx.s, .slice cx.la cx.ll cx.lc, .slice cx.oa cx.ol cx.oc] 33)) (.cells #[.int .u8 cx.k, .int .i64 cx.n, .string cx.s, .slice cx.la cx.ll cx.lc, .slice cx.oa cx.ol cx.oc] 33))
          intro jj u hu
          simpa using this jj u (by simpa [vcells] using hu)
        have HNW:=Lib.hid hnw
        have HB44:=Lib.hid B4
        clear L B4 hrow hI4 hb4 hnw
        go_wp2_with (at_builtin;refine wpList_append_lies _ rfl (.tmp 71) (.tmp 73) 30 (by rfl) (w.heap.size+3) 33 i0 _ 5 80 Tryz.underlying30 hi0 hz0 hz1 hz2 rfl (by omega) (.slice a' m c') j (cs.flatMap vcells) (by rfl) ((ho4.alloc _).alloc _) ⟨w4.heap.size+1,0,none⟩ 1 1 (vcells cx) (by rfl) (by rfl) HNW.out (by simp [vcells,Value.oneCell']) (by omega) (by unfold maxLen;omega) (by omega) (by simp;omega) (w4.heap.size+1+1) (by simp) ?_;intro g cap w7 hown7 hgrow7 hat7 hlt7;have hc7:w7.cell? ⟨w.heap.size+2,3,none⟩=some (.slice a' m c'):=(hgrow7.cell_far ⟨w.heap.size+2,3,none⟩ (by simp;omega) (Ne.symm hne2)).trans (keep_cell ((Below.refl _ _).alloc (by simp) _) (keep_cell ((Below.refl _ _).alloc (Nat.le_refl _) _) (HB44.out.val.at_ 3 _ rfl) zt2) zt2);have hf7:w7.frozen? ⟨w.heap.size+2,3,none⟩=false:=(hgrow7.frozen_far ⟨w.heap.size+2,3,none⟩ (by simp;omega) (Ne.symm hne2)).trans ((((Below.refl _ _).alloc (by simp) _:Below w4.heap.size (w4.alloc _) ((w4.alloc _).alloc _)).frozen (p:=⟨w.heap.size+2,3,none⟩) zt2).trans ((((Below.refl _ _).alloc (Nat.le_refl _) _:Below w4.heap.size w4 (w4.alloc _)).frozen (p:=⟨w.heap.size+2,3,none⟩) zt2).trans (HB44.out.val.fr 3))))
        go_roundw
        case rel=>exact ⟨j+1,some ⟨g,0,none⟩,j+1,cap,xs++ [x],cs++ [cx],c+q,by omega,by go_num,by go_num,LL.out.round HX.out HB4.out HI4.out (((Below.refl _ _).alloc (Nat.le_refl _) _).alloc (by simp) _) hown7 hgrow7 (hat7.imp_right fun e=>by omega)⟩
        case measure=>simp [intOf];omega
      · replace HC:=HC.out
        simp only [if_neg hc] at HC
        replace HC:=Lib.hid HC
        have huc:un<c:=by omega
        clear hz9 hc
        go_wp2_with fail
        refine (HC.out _ LL.out.box.below).mono ?_
        rintro e w4 ⟨⟨cx,rfl,hI4⟩,hb4⟩
        have L:=LL.out
        have B4:=L.box.next hb4
        have k0:=B4.tok.at_ 0 _ rfl;have k3:=B4.tok.at_ 3 _ rfl
        obtain ⟨v0,v1,v2,v3,v4⟩:=row5 B4.val.at_
        have p0:=B4.val.fr 3
        obtain ⟨r0,r1,r2,r3,r4⟩:=row5 B4.res.at_
        have g0:=B4.res.fr 0;have g1:=B4.res.fr 1;have g2:=B4.res.fr 2;have g3:=B4.res.fr 3;have g4:=B4.res.fr 4
        have zt2:=B4.val.lt;have zt1:=B4.tok.lt;have zt0:=B4.res.lt
        have hrow:RowV w4 (w.heap.size+3) (.slice a' m c') xs cs:=L.row.later (PV.closed xs cs) (.of_below 0 hb4) (by omega)
        have hne2:(Value.slice a' m c').ownBlock≠some (w.heap.size+2):=fun e=>by have:=(L.row.lt _ e).1;omega
        have ho4:=hrow.own
        rw [L.len] at ho4
        have hu3:(un:Int)+q≤9223372036854775807:=by omega
        have HI4:=Lib.hid hI4
        have HB4:=Lib.hid hb4
        have hnw:∀jj u,(vcells cx)[jj]? =some u→((w4.alloc (.cells #[.int .u8 cx.k, .int .i64 cx.n, .string cx.s, .slice cx.la cx.ll cx.lc, .slice cx.oa cx.ol cx.oc] 33)).alloc (.cells #[.int .u8 cx.k, .int .i64 cx.n, .string cx.s, .slice cx.la cx.ll cx.lc, .slice cx.oa cx.ol cx.oc] 33)).cell? ((⟨w4.heap.size+1,0,none⟩:Addr).add jj)=some u:=by
          have:=World.news_of_block (t:=33) (fr:=(0,0)) (heap_alloc_new (w4.alloc (.cells #[.int .u8 cx.k, .int .i64 cx.n, .string cx.s, .slice cx.la cx.ll cx.lc, .slice cx.oa cx.ol cx.oc] 33)) (.cells #[.int .u8 cx.k, .int .i64 cx.n, .string cx.s, .slice cx.la cx.ll cx.lc, .slice cx.oa cx.ol cx.oc] 33))
          intro jj u hu
          simpa using this jj u (by simpa [vcells] using hu)
        have HNW:=Lib.hid hnw
        have HB44:=Lib.hid B4
        clear L B4 hrow hI4 hb4 hnw
        go_wp2_with (at_builtin;refine wpList_append_lies _ rfl (.tmp 71) (.tmp 73) 30 (by rfl) (w.heap.size+3) 33 i0 _ 5 80 Tryz.underlying30 hi0 hz0 hz1 hz2 rfl (by omega) (.slice a' m c') j (cs.flatMap vcells) (by rfl) ((ho4.alloc _).alloc _) ⟨w4.heap.size+1,0,none⟩ 1 1 (vcells cx) (by rfl) (by rfl) HNW.out (by simp [vcells,Value.oneCell']) (by omega) (by unfold maxLen;omega) (by omega) (by simp;omega) (w4.heap.size+1+1) (by simp) ?_;intro g cap w7 hown7 hgrow7 hat7 hlt7;have hc7:w7.cell? ⟨w.heap.size+2,3,none⟩=some (.slice a' m c'):=(hgrow7.cell_far ⟨w.heap.size+2,3,none⟩ (by simp;omega) (Ne.symm hne2)).trans (keep_cell ((Below.refl _ _).alloc (by simp) _) (keep_cell ((Below.refl _ _).alloc (Nat.le_refl _) _) (HB44.out.val.at_ 3 _ rfl) zt2) zt2);have hf7:w7.frozen? ⟨w.heap.size+2,3,none⟩=false:=(hgrow7.frozen_far ⟨w.heap.size+2,3,none⟩ (by simp;omega) (Ne.symm hne2)).trans ((((Below.refl _ _).alloc (by simp) _:Below w4.heap.size (w4.alloc _) ((w4.alloc _).alloc _)).frozen (p:=⟨w.heap.size+2,3,none⟩) zt2).trans ((((Below.refl _ _).alloc (Nat.le_refl _) _:Below w4.heap.size w4 (w4.alloc _)).frozen (p:=⟨w.heap.size+2,3,none⟩) zt2).trans (HB44.out.val.fr 3))))
        go_roundw
        case rel=>exact ⟨j+1,some ⟨g,0,none⟩,j+1,cap,xs++ [x],cs++ [cx],un+q,by omega,by go_num,by go_num,LL.out.round HX.out HB4.out HI4.out (((Below.refl _ _).alloc (Nat.le_refl _) _).alloc (by simp) _) hown7 hgrow7 (hat7.imp_right fun e=>by omega)⟩
        case measure=>simp [intOf];omega
    · have hjn:j=K:=by omega
      subst hjn
      have hR:oneP (d+1) (t::r)=(.mk 4 0 .empty xs [],un):=by
        rw [oneP,if_pos HK.out,HKK.out,L.rd]
      have hv:=RowV.val L.row (lo:=w.heap.size+3) (by rw [L.len,L.cen]) (Nat.le_refl _) 4 (by omega) (by omega) (by rw [L.len];omega)
      have HV:=Lib.hid hv
      have HR:=Lib.hid hR
      have LB:=Lib.hid L.box
      clear L hv hR
      go_wp2_with fail
      have ST:=LB.out.stored ⟨4,0, .empty,a',m,c',none,0,0⟩
      rw [←HQ.out,HR.out]
      exact one_leave (c:=⟨4,0, .empty,a',m,c',none,0,0⟩) ST.1 ST.2.1 ((isVal_far HV.out ST.2.2 (by omega)).sub (shows_step fun k hk _=>⟨by omega,rfl⟩)) rfl rfl rfl
end Go.Proofs.YtgcfhkceejcliaaGreatDoor
namespace Go.Proofs.YtgcfhkceejcliaaGreatDoor
open Go.RowKit
set_option maxHeartbeats 8000000 in
set_option maxRecDepth 100000 in
theorem one_obj (w:World) (dd:Int) (hd0:0≤dd) (hd:dd≤5) (d:Nat) (t:Tk) (r:List Tk) (a:Option Addr) (n c:Nat) (h:IsToks w w.heap.size (t::r) a n c) (IH:∀(W:World) (l:List Tk) (a:Option Addr) (n c:Nat),IsToks W W.heap.size l a n c→Calls Tryz.prog 41 #[.slice a n c, .int .i64 (dd+1)] W (RawPost W (oneP d l))) (hk:t.k % 6=5):
    Calls Tryz.prog 41 #[.slice a n c, .int .i64 dd] w (RawPost w (oneP (d+1) (t::r))):=by
  have hw1:IntKind.i64.wrap (dd+1)=dd+1:=IntWalk.i64_in _ (by omega)
  obtain ⟨b,o,hp,rfl,hb,htk,hbd⟩:=h.get (k:=0) (by have:=h.len;rw [this];simp)
  have ht:TkAt w b o t:=by simpa using htk
  replace hbd:t.Bnd:=by simpa using hbd
  have c0:=ht.c0;have c1:=ht.c1;have c2:=ht.c2;have c3:=ht.c3
  have b0:=hbd.k0;have b1:=hbd.k1;have b2:=hbd.m0;have b3:=hbd.m1
  have hlen:=h.len
  have hcap:=h.cap
  have hmax:=h.max
  have hnp:0<n:=by rw [hlen];simp
  have hne:((n:Int)==0)=false:=by simp;omega
  obtain ⟨K,hK⟩:∃K:Nat,(t.m % 4).toNat=K:=⟨_,rfl⟩
  have hK1:t.m % 4=(K:Int):=by omega
  have hK2:Int.tmod t.m 4=(K:Int):=by rw [Int.tmod_eq_emod_of_nonneg b2];exact hK1
  have hK3:K≤3:=by omega
  have hk2:Int.tmod t.k 6=5:=by rw [Int.tmod_eq_emod_of_nonneg b0];exact hk
  have HI:=Lib.hid h
  have HQR:=Lib.hid (QR.start2 w t ⟨5,0, .empty,none,0,0,none,0,0⟩ 33 51 33)
  have HBD:=Lib.hid hbd
  have IHH:=Lib.hid IH
  have HLEN:=Lib.hid hlen
  have HKK:=Lib.hid hK
  have HK:=Lib.hid hk
  clear h ht htk hp hbd IH hlen hK hk
  go_enter Tryz.func41,Tryz.ntmps41
  generalize hQ0:bodyPost _ _ _=Q0
  have HQ:=Lib.hid hQ0
  clear hQ0
  go_wp2_with fail
  go_loopw [7,13,14,15,16] (fun u i _ _ _ wr=>∃(j:Nat) (a':Option Addr) (m c':Nat) (os:List (ByteArray×V)) (un:Nat),j≤K∧u= .int .i64 un∧i= .int .u8 j∧BLO w wr d (t::r) t j a' m c' os un) (fun _ i _ _ _ _=>K - (intOf i).toNat)
  case atStart=>exact ⟨0,none,0,0, [],1,Nat.zero_le _,rfl,rfl,⟨rfl,(HQR.out _ rfl).1, .inl ⟨rfl,rfl,rfl⟩,isFields_nil _ _⟩⟩
  case round=>
    obtain ⟨j,a',m,c',os,un,hj,rfl,rfl,L⟩:=hrel
    have k0:=L.box.tok.at_ 0 _ rfl;have k3:=L.box.tok.at_ 3 _ rfl
    obtain ⟨v0,v1,v2,v3,v4⟩:=row5 L.box.val.at_
    have p0:=L.box.val.fr 4
    obtain ⟨r0,r1,r2,r3,r4⟩:=row5 L.box.res.at_
    have g0:=L.box.res.fr 0;have g1:=L.box.res.fr 1;have g2:=L.box.res.fr 2;have g3:=L.box.res.fr 3;have g4:=L.box.res.fr 4
    have zs2:=L.box.val.lt;have zs1:=L.box.tok.lt;have zs0:=L.box.res.lt
    obtain ⟨hu1,hu2,hol⟩:1≤un∧un≤n∧os.length≤j:=by
      have:=bO_used (oneP_used d) (l:=t::r) (by simp) j
      rw [L.rd] at this
      exact ⟨this.1,by rw [HLEN.out];exact this.2.1,this.2.2⟩
    by_cases hlt:j<K
    · have hz9:c=un→n - un=0:=by omega
      obtain ⟨⟨x,q⟩,hx⟩:∃p,oneP d ((t::r).drop un)=p:=⟨_,rfl⟩
      have hq2:un+q≤n:=by have:=oneP_used d ((t::r).drop un);rw [hx,List.length_drop] at this;have:=HLEN.out;dsimp only at*;omega
      have HX:=Lib.hid hx
      have HC:Hid (∀W,Below w.heap.size w W→Calls Tryz.prog 41 #[if c=un then .slice (some ⟨b,o,none⟩) 0 0 else .slice (some ⟨b,o+un*4,none⟩) (n - un) (c - un), .int .i64 (dd+1)] W (RawPost W (x,q))):=by
        intro W hW
        have HIW:=(HI.out.later_ hW).drop un hu2
        rw [←HX.out]
        by_cases hc:c=un
        · rw [if_pos hc];exact IHH.out W _ _ _ _ (HIW.none_left (hz9 hc))
        · rw [if_neg hc];rw [Option.map_some,add_at] at HIW;exact IHH.out W _ _ _ _ HIW
      have LL:=Lib.hid L
      clear L hx
      obtain ⟨key,hkey,hks⟩:∃key,keyP (t::r) un=key∧key.size≤40:=⟨_,rfl,keyP_size _ _⟩
      have HKEY:=Lib.hid hkey
      by_cases hul:un<n
      · obtain ⟨b2,o2,hp2,e2,hb2,htk2,hbd2⟩:=(HI.out.keep LL.out.box.below).get hul
        injection e2 with e2;injection e2 with e2 e3;subst e2 e3
        have hk4:plainS ((t::r)[un]'hp2).s=key:=by rw [←hkey,keyP,List.getElem?_eq_getElem hp2]
        obtain ⟨ks,hks2⟩:∃ks,((t::r)[un]'hp2).s=ks:=⟨_,rfl⟩
        have d2:=htk2.c2
        have hsz2:=hbd2.s1
        rw [hks2] at d2 hsz2 hk4
        have HPL:=Lib.hid (plain_any wr ks hsz2)
        rw [hk4] at HPL
        have hne8:c≠un:=by omega
        replace HC:=HC.out
        simp only [if_neg hne8] at HC
        replace HC:=Lib.hid HC
        have huc:un<c:=by omega
        have hbw:b<wr.heap.size:=World.block_lt_of_cell? wr _ d2
        clear hz9 hne8 htk2 hbd2 hk4 hks2 hkey
        go_wp2_with fail
        refine (HPL.out).mono ?_
        rintro e w3 ⟨rfl,hb3⟩
        have B3:=LL.out.box.next hb3
        have HB3:=Lib.hid hb3
        have HBL3:=Lib.hid B3.below
        clear B3 hb3
        go_wp2_with fail
        refine (HC.out _ HBL3.out).mono ?_
        rintro e w4 ⟨⟨cx,rfl,hI4⟩,hb4⟩
        have L:=LL.out
        have hb34:Below wr.heap.size wr w4:=HB3.out.trans (hb4.mono HB3.out.size)
        have B4:=L.box.next hb34
        have k0:=B4.tok.at_ 0 _ rfl;have k3:=B4.tok.at_ 3 _ rfl
        obtain ⟨v0,v1,v2,v3,v4⟩:=row5 B4.val.at_
        have p0:=B4.val.fr 4
        obtain ⟨r0,r1,r2,r3,r4⟩:=row5 B4.res.at_
        have g0:=B4.res.fr 0;have g1:=B4.res.fr 1;have g2:=B4.res.fr 2;have g3:=B4.res.fr 3;have g4:=B4.res.fr 4
        have zt2:=B4.val.lt;have zt1:=B4.tok.lt;have zt0:=B4.res.lt
        have hs3:=HB3.out.size
        have HW:=Lib.hid (with_any (w4.alloc (.cells #[.int .u8 cx.k, .int .i64 cx.n, .string cx.s, .slice cx.la cx.ll cx.lc, .slice cx.oa cx.ol cx.oc] 33)) (w.heap.size+3) (by simp;omega) os a' m c' (L.fld.behind (hb34.alloc hb34.size _)) L.neat key (by omega) x cx.k cx.n cx.s cx.la cx.ll cx.lc cx.oa cx.ol cx.oc ((hI4.sub (shows_step fun k hk hl=>⟨by omega,((Below.refl _ _).alloc (Nat.le_refl _) _:Below w4.heap.size w4 (w4.alloc (.cells #[.int .u8 cx.k, .int .i64 cx.n, .string cx.s, .slice cx.la cx.ll cx.lc, .slice cx.oa cx.ol cx.oc] 33))).block k hl⟩)).more (by simp)) (by rw [L.fld.len];omega))
        have HB5:=Lib.hid (hb34.alloc hb34.size (.cells #[.int .u8 cx.k, .int .i64 cx.n, .string cx.s, .slice cx.la cx.ll cx.lc, .slice cx.oa cx.ol cx.oc] 33))
        have HB4:=Lib.hid B4
        have hu3:(un:Int)+q≤9223372036854775807:=by omega
        clear L B4 hI4 hb4 hb34
        go_wp2_with fail
        refine (HW.out).mono ?_
        rintro e w6 ⟨⟨a2,n2,c2,rfl,hf6,hne6⟩,hb6⟩
        have B6:=(HB4.out.next ((Below.refl _ _).alloc (Nat.le_refl _) (.cells #[.int .u8 cx.k, .int .i64 cx.n, .string cx.s, .slice cx.la cx.ll cx.lc, .slice cx.oa cx.ol cx.oc] 33))).next hb6
        have v4:=B6.val.at_ 4 _ rfl;have p0:=B6.val.fr 4;have zu2:=B6.val.lt
        have HF6:=Lib.hid hf6;have HN6:=Lib.hid hne6;have HB6:=Lib.hid hb6
        clear B6 hf6 hne6 hb6
        go_wp2_with fail
        go_roundw
        case rel=>exact ⟨j+1,a2,n2,c2,withF os key x,un+q,by omega,by go_num,by go_num,LL.out.round HX.out HKEY.out HB5.out HB6.out HF6.out HN6.out⟩
        case measure=>simp [intOf];omega
      · have hk4:key= .empty:=by rw [←hkey,keyP,List.getElem?_eq_none (by rw [←HLEN.out];omega)]
        have hk5:key=({ data:= #[] } :ByteArray):=hk4
        have HB3:=Lib.hid (Below.refl wr.heap.size wr)
        by_cases hc:c=un
        · replace HC:=HC.out
          simp only [if_pos hc] at HC
          replace HC:=Lib.hid HC
          have hz:=hz9 hc
          clear hz9
          subst hc
          subst hk5
          clear hk4 hkey
          go_wp2_with fail
          refine (HC.out _ LL.out.box.below).mono ?_
          rintro e w4 ⟨⟨cx,rfl,hI4⟩,hb4⟩
          have L:=LL.out
          have hb34:Below wr.heap.size wr w4:=HB3.out.trans (hb4.mono HB3.out.size)
          have B4:=L.box.next hb34
          have k0:=B4.tok.at_ 0 _ rfl;have k3:=B4.tok.at_ 3 _ rfl
          obtain ⟨v0,v1,v2,v3,v4⟩:=row5 B4.val.at_
          have p0:=B4.val.fr 4
          obtain ⟨r0,r1,r2,r3,r4⟩:=row5 B4.res.at_
          have g0:=B4.res.fr 0;have g1:=B4.res.fr 1;have g2:=B4.res.fr 2;have g3:=B4.res.fr 3;have g4:=B4.res.fr 4
          have zt2:=B4.val.lt;have zt1:=B4.tok.lt;have zt0:=B4.res.lt
          have hs3:=HB3.out.size
          have HW:=Lib.hid (with_any (w4.alloc (.cells #[.int .u8 cx.k, .int .i64 cx.n, .string cx.s, .slice cx.la cx.ll cx.lc, .slice cx.oa cx.ol cx.oc] 33)) (w.heap.size+3) (by simp;omega) os a' m c' (L.fld.behind (hb34.alloc hb34.size _)) L.neat { data:= #[] } (by omega) x cx.k cx.n cx.s cx.la cx.ll cx.lc cx.oa cx.ol cx.oc ((hI4.sub (shows_step fun k hk hl=>⟨by omega,((Below.refl _ _).alloc (Nat.le_refl _) _:Below w4.heap.size w4 (w4.alloc (.cells #[.int .u8 cx.k, .int .i64 cx.n, .string cx.s, .slice cx.la cx.ll cx.lc, .slice cx.oa cx.ol cx.oc] 33))).block k hl⟩)).more (by simp)) (by rw [L.fld.len];omega))
          have HB5:=Lib.hid (hb34.alloc hb34.size (.cells #[.int .u8 cx.k, .int .i64 cx.n, .string cx.s, .slice cx.la cx.ll cx.lc, .slice cx.oa cx.ol cx.oc] 33))
          have HB4:=Lib.hid B4
          have hu3:(c:Int)+q≤9223372036854775807:=by omega
          clear L B4 hI4 hb4 hb34
          go_wp2_with fail
          refine (HW.out).mono ?_
          rintro e w6 ⟨⟨a2,n2,c2,rfl,hf6,hne6⟩,hb6⟩
          have B6:=(HB4.out.next ((Below.refl _ _).alloc (Nat.le_refl _) (.cells #[.int .u8 cx.k, .int .i64 cx.n, .string cx.s, .slice cx.la cx.ll cx.lc, .slice cx.oa cx.ol cx.oc] 33))).next hb6
          have v4:=B6.val.at_ 4 _ rfl;have p0:=B6.val.fr 4;have zu2:=B6.val.lt
          have HF6:=Lib.hid hf6;have HN6:=Lib.hid hne6;have HB6:=Lib.hid hb6
          clear B6 hf6 hne6 hb6
          go_wp2_with fail
          go_roundw
          case rel=>exact ⟨j+1,a2,n2,c2,withF os { data:= #[] } x,c+q,by omega,by go_num,by go_num,LL.out.round HX.out HKEY.out HB5.out HB6.out HF6.out HN6.out⟩
          case measure=>simp [intOf];omega
        · replace HC:=HC.out
          simp only [if_neg hc] at HC
          replace HC:=Lib.hid HC
          have huc:un<c:=by omega
          clear hz9 hc
          subst hk5
          clear hk4 hkey
          go_wp2_with fail
          refine (HC.out _ LL.out.box.below).mono ?_
          rintro e w4 ⟨⟨cx,rfl,hI4⟩,hb4⟩
          have L:=LL.out
          have hb34:Below wr.heap.size wr w4:=HB3.out.trans (hb4.mono HB3.out.size)
          have B4:=L.box.next hb34
          have k0:=B4.tok.at_ 0 _ rfl;have k3:=B4.tok.at_ 3 _ rfl
          obtain ⟨v0,v1,v2,v3,v4⟩:=row5 B4.val.at_
          have p0:=B4.val.fr 4
          obtain ⟨r0,r1,r2,r3,r4⟩:=row5 B4.res.at_
          have g0:=B4.res.fr 0;have g1:=B4.res.fr 1;have g2:=B4.res.fr 2;have g3:=B4.res.fr 3;have g4:=B4.res.fr 4
          have zt2:=B4.val.lt;have zt1:=B4.tok.lt;have zt0:=B4.res.lt
          have hs3:=HB3.out.size
          have HW:=Lib.hid (with_any (w4.alloc (.cells #[.int .u8 cx.k, .int .i64 cx.n, .string cx.s, .slice cx.la cx.ll cx.lc, .slice cx.oa cx.ol cx.oc] 33)) (w.heap.size+3) (by simp;omega) os a' m c' (L.fld.behind (hb34.alloc hb34.size _)) L.neat { data:= #[] } (by omega) x cx.k cx.n cx.s cx.la cx.ll cx.lc cx.oa cx.ol cx.oc ((hI4.sub (shows_step fun k hk hl=>⟨by omega,((Below.refl _ _).alloc (Nat.le_refl _) _:Below w4.heap.size w4 (w4.alloc (.cells #[.int .u8 cx.k, .int .i64 cx.n, .string cx.s, .slice cx.la cx.ll cx.lc, .slice cx.oa cx.ol cx.oc] 33))).block k hl⟩)).more (by simp)) (by rw [L.fld.len];omega))
          have HB5:=Lib.hid (hb34.alloc hb34.size (.cells #[.int .u8 cx.k, .int .i64 cx.n, .string cx.s, .slice cx.la cx.ll cx.lc, .slice cx.oa cx.ol cx.oc] 33))
          have HB4:=Lib.hid B4
          have hu3:(un:Int)+q≤9223372036854775807:=by omega
          clear L B4 hI4 hb4 hb34
          go_wp2_with fail
          refine (HW.out).mono ?_
          rintro e w6 ⟨⟨a2,n2,c2,rfl,hf6,hne6⟩,hb6⟩
          have B6:=(HB4.out.next ((Below.refl _ _).alloc (Nat.le_refl _) (.cells #[.int .u8 cx.k, .int .i64 cx.n, .string cx.s, .slice cx.la cx.ll cx.lc, .slice cx.oa cx.ol cx.oc] 33))).next hb6
          have v4:=B6.val.at_ 4 _ rfl;have p0:=B6.val.fr 4;have zu2:=B6.val.lt
          have HF6:=Lib.hid hf6;have HN6:=Lib.hid hne6;have HB6:=Lib.hid hb6
          clear B6 hf6 hne6 hb6
          go_wp2_with fail
          go_roundw
          case rel=>exact ⟨j+1,a2,n2,c2,withF os { data:= #[] } x,un+q,by omega,by go_num,by go_num,LL.out.round HX.out HKEY.out HB5.out HB6.out HF6.out HN6.out⟩
          case measure=>simp [intOf];omega
    · have hjn:j=K:=by omega
      subst hjn
      have hR:oneP (d+1) (t::r)=(.mk 5 0 .empty [] os,un):=by
        rw [oneP,if_neg (by rw [HK.out];decide),if_pos HK.out,HKK.out,L.rd]
      have hv:=isVal_of_fields L.fld 5 (by omega) (by omega)
      have HV:=Lib.hid hv
      have HR:=Lib.hid hR
      have LB:=Lib.hid L.box
      clear L hv hR
      go_wp2_with fail
      have ST:=LB.out.stored ⟨5,0, .empty,none,0,0,a',m,c'⟩
      rw [←HQ.out,HR.out]
      exact one_leave (c:=⟨5,0, .empty,none,0,0,a',m,c'⟩) ST.1 ST.2.1 ((isVal_far HV.out ST.2.2 (by omega)).sub (shows_step fun k hk _=>⟨by omega,rfl⟩)) rfl rfl rfl
end Go.Proofs.YtgcfhkceejcliaaGreatDoor
namespace Go.Proofs.YtgcfhkceejcliaaGreatDoor
open Go.RowKit
set_option maxHeartbeats 4000000 in
set_option maxRecDepth 100000 in
theorem one_end4 (w:World) (t:Tk) (r:List Tk) (a:Option Addr) (n c:Nat) (h:IsToks w w.heap.size (t::r) a n c) (hk:t.k % 6=4):
    Calls Tryz.prog 41 #[.slice a n c, .int .i64 6] w (RawPost w (leafP t,1)):=by
  obtain ⟨b,o,hp,rfl,hb,htk,hbd⟩:=h.get (k:=0) (by have:=h.len;rw [this];simp)
  have ht:TkAt w b o t:=by simpa using htk
  replace hbd:t.Bnd:=by simpa using hbd
  have c0:=ht.c0;have c1:=ht.c1;have c2:=ht.c2;have c3:=ht.c3
  have b2:=hbd.m0;have b3:=hbd.m1
  have hnp:0<n:=by rw [h.len];simp
  have hne:((n:Int)==0)=false:=by simp;omega
  obtain ⟨K,hK⟩:∃K:Nat,(t.m % 4).toNat=K:=⟨_,rfl⟩
  have hK2:Int.tmod t.m 4=(K:Int):=by rw [Int.tmod_eq_emod_of_nonneg b2];omega
  have hk2:Int.tmod t.k 6=4:=by rw [Int.tmod_eq_emod_of_nonneg hbd.k0];exact hk
  have HQR:=Lib.hid (QR.start2 w t ⟨4,0, .empty,none,0,0,none,0,0⟩ 33 51 33)
  have hR:leafP t= .mk 4 0 .empty [] [] :=by rw [leafP];simp [hk]
  rw [hR]
  clear h ht htk hp hbd hK hk hR
  go_enter Tryz.func41,Tryz.ntmps41
  generalize hQ0:bodyPost _ _ _=Q0
  have HQ:=Lib.hid hQ0
  clear hQ0
  go_wp2_with fail
  go_loopw [7,9,10,11] (fun u i _ _ wr=>u= .int .i64 1∧i= .int .u8 0∧QR w wr t ⟨4,0, .empty,none,0,0,none,0,0⟩) (fun _ _ _ _ _=>0)
  case atStart=>exact ⟨rfl,rfl,(HQR.out _ rfl).1⟩
  case round=>
    obtain ⟨rfl,rfl,L⟩:=hrel
    have k0:=L.tok.at_ 0 _ rfl;have k3:=L.tok.at_ 3 _ rfl
    obtain ⟨v0,v1,v2,v3,v4⟩:=row5 L.val.at_
    obtain ⟨r0,r1,r2,r3,r4⟩:=row5 L.res.at_
    have g0:=L.res.fr 0;have g1:=L.res.fr 1;have g2:=L.res.fr 2;have g3:=L.res.fr 3;have g4:=L.res.fr 4
    have zs2:=L.val.lt;have zs1:=L.tok.lt;have zs0:=L.res.lt
    have LB:=Lib.hid L
    clear L
    by_cases hK0:0<K
    all_goals
      go_wp2_with fail
      have ST:=LB.out.stored ⟨4,0, .empty,none,0,0,none,0,0⟩
      rw [←HQ.out]
      exact one_leave (c:=⟨4,0, .empty,none,0,0,none,0,0⟩) ST.1 ST.2.1 (isVal_leaf _ _ 4 0 .empty (by omega) (by omega) (by omega) (by omega) (by decide)) rfl rfl rfl
set_option maxHeartbeats 4000000 in
set_option maxRecDepth 100000 in
theorem one_end5 (w:World) (t:Tk) (r:List Tk) (a:Option Addr) (n c:Nat) (h:IsToks w w.heap.size (t::r) a n c) (hk:t.k % 6=5):
    Calls Tryz.prog 41 #[.slice a n c, .int .i64 6] w (RawPost w (leafP t,1)):=by
  obtain ⟨b,o,hp,rfl,hb,htk,hbd⟩:=h.get (k:=0) (by have:=h.len;rw [this];simp)
  have ht:TkAt w b o t:=by simpa using htk
  replace hbd:t.Bnd:=by simpa using hbd
  have c0:=ht.c0;have c1:=ht.c1;have c2:=ht.c2;have c3:=ht.c3
  have b2:=hbd.m0;have b3:=hbd.m1
  have hnp:0<n:=by rw [h.len];simp
  have hne:((n:Int)==0)=false:=by simp;omega
  obtain ⟨K,hK⟩:∃K:Nat,(t.m % 4).toNat=K:=⟨_,rfl⟩
  have hK2:Int.tmod t.m 4=(K:Int):=by rw [Int.tmod_eq_emod_of_nonneg b2];omega
  have hk2:Int.tmod t.k 6=5:=by rw [Int.tmod_eq_emod_of_nonneg hbd.k0];exact hk
  have HQR:=Lib.hid (QR.start2 w t ⟨5,0, .empty,none,0,0,none,0,0⟩ 33 51 33)
  have hR:leafP t= .mk 5 0 .empty [] [] :=by rw [leafP];simp [hk]
  rw [hR]
  clear h ht htk hp hbd hK hk hR
  go_enter Tryz.func41,Tryz.ntmps41
  generalize hQ0:bodyPost _ _ _=Q0
  have HQ:=Lib.hid hQ0
  clear hQ0
  go_wp2_with fail
  go_loopw [7,13,14,15,16] (fun u i _ _ _ wr=>u= .int .i64 1∧i= .int .u8 0∧QR w wr t ⟨5,0, .empty,none,0,0,none,0,0⟩) (fun _ _ _ _ _ _=>0)
  case atStart=>exact ⟨rfl,rfl,(HQR.out _ rfl).1⟩
  case round=>
    obtain ⟨rfl,rfl,L⟩:=hrel
    have k0:=L.tok.at_ 0 _ rfl;have k3:=L.tok.at_ 3 _ rfl
    obtain ⟨v0,v1,v2,v3,v4⟩:=row5 L.val.at_
    obtain ⟨r0,r1,r2,r3,r4⟩:=row5 L.res.at_
    have g0:=L.res.fr 0;have g1:=L.res.fr 1;have g2:=L.res.fr 2;have g3:=L.res.fr 3;have g4:=L.res.fr 4
    have zs2:=L.val.lt;have zs1:=L.tok.lt;have zs0:=L.res.lt
    have LB:=Lib.hid L
    clear L
    by_cases hK0:0<K
    all_goals
      go_wp2_with fail
      have ST:=LB.out.stored ⟨5,0, .empty,none,0,0,none,0,0⟩
      rw [←HQ.out]
      exact one_leave (c:=⟨5,0, .empty,none,0,0,none,0,0⟩) ST.1 ST.2.1 (isVal_leaf _ _ 5 0 .empty (by omega) (by omega) (by omega) (by omega) (by decide)) rfl rfl rfl
theorem kinds6 (k:Int):k % 6=0∨k % 6=1∨k % 6=2∨k % 6=3∨k % 6=4∨k % 6=5:=by omega
theorem one_low (w:World) (dd:Int) (t:Tk) (r:List Tk) (a:Option Addr) (n c:Nat) (h:IsToks w w.heap.size (t::r) a n c) (h4:¬t.k % 6=4) (h5:¬t.k % 6=5):
    Calls Tryz.prog 41 #[.slice a n c, .int .i64 dd] w (RawPost w (leafP t,1)):=by
  rcases kinds6 t.k with hk|hk|hk|hk|hk|hk
  · exact one_0 w dd t r a n c h hk
  · exact one_1 w dd t r a n c h hk
  · exact one_2 w dd t r a n c h hk
  · exact one_3 w dd t r a n c h hk
  · exact absurd hk h4
  · exact absurd hk h5
theorem one_any (d:Nat):∀(dd:Int),0≤dd→dd+d=6→∀(w:World) (l:List Tk) (a:Option Addr) (n c:Nat),IsToks w w.heap.size l a n c→
    Calls Tryz.prog 41 #[.slice a n c, .int .i64 dd] w (RawPost w (oneP d l)):=by
  induction d with
  | zero=>
    intro dd _ hd w l a n c h
    cases l with
    |nil=>obtain rfl:n=0:=h.len;exact one_nil w dd a c
    | cons t r=>
      obtain rfl:dd=6:=by omega
      by_cases h4:t.k % 6=4
      · exact one_end4 w t r a n c h h4
      · by_cases h5:t.k % 6=5
        · exact one_end5 w t r a n c h h5
        · exact one_low w 6 t r a n c h h4 h5
  | succ d ih=>
    intro dd hd0 hd w l a n c h
    cases l with
    |nil=>obtain rfl:n=0:=h.len;exact one_nil w dd a c
    | cons t r=>
      have IH:=fun W l a n c h=>ih (dd+1) (by omega) (by omega) W l a n c h
      by_cases h4:t.k % 6=4
      · exact one_list w dd hd0 (by omega) d t r a n c h IH h4
      · by_cases h5:t.k % 6=5
        · exact one_obj w dd hd0 (by omega) d t r a n c h IH h5
        · rw [oneP,if_neg h4,if_neg h5];exact one_low w dd t r a n c h h4 h5
end Go.Proofs.YtgcfhkceejcliaaGreatDoor
namespace Go.Proofs.YtgcfhkceejcliaaGreatDoor
open Go.RowKit
theorem results_build {tmps:Array Value} {W:World} {b:Nat} {c:VC} (ht:tmps[2]? =some (.pointer (some ⟨b,0,none⟩))) (h:BC W b (vcells c)):
    (results Tryz.f17 tmps).run Tryz.prog W= .ok (.agg #[.int .u8 c.k, .int .i64 c.n, .string c.s, .slice c.la c.ll c.lc, .slice c.oa c.ol c.oc]) W:=by
  obtain ⟨r0,r1,r2,r3,r4⟩:=(⟨h.at_ 0 _ rfl,h.at_ 1 _ rfl,h.at_ 2 _ rfl,h.at_ 3 _ rfl,h.at_ 4 _ rfl⟩:W.cell? ⟨b,0,none⟩=some (.int .u8 c.k)∧W.cell? ⟨b,1,none⟩=some (.int .i64 c.n)∧W.cell? ⟨b,2,none⟩=some (.string c.s)∧W.cell? ⟨b,3,none⟩=some (.slice c.la c.ll c.lc)∧W.cell? ⟨b,4,none⟩=some (.slice c.oa c.ol c.oc))
  simp [results,Tryz.results17,go_sem,ht,r0,r1,r2,r3,r4]
set_option maxHeartbeats 4000000 in
set_option maxRecDepth 100000 in
theorem build_own (w:World) (l:List Tk) (a:Option Addr) (n c:Nat) (h:IsToks w w.heap.size l a n c):
    Calls Tryz.prog 17 #[.slice a n c] w fun e w'=>(∃cv:VC,e= .returned (.agg #[.int .u8 cv.k, .int .i64 cv.n, .string cv.s, .slice cv.la cv.ll cv.lc, .slice cv.oa cv.ol cv.oc])∧IsVal (only (fun b=>w.heap.size≤b) w') w'.heap.size (oneP 6 (l.take 60)).1 cv)∧Below w.heap.size w w':=by
  have hlen:=h.len
  have hcap:=h.cap
  have hmax:=h.max
  have HD:=Lib.hid (BC.start w #[.int .u8 0, .int .i64 0, .string { data:= #[] }, .slice none 0 0, .slice none 0 0] 33)
  have hal:Below w.heap.size w (w.alloc (.cells #[.int .u8 0, .int .i64 0, .string { data:= #[] }, .slice none 0 0, .slice none 0 0] 33)):=(Below.refl _ _).alloc (Nat.le_refl _) _
  have HAL:=Lib.hid hal
  obtain ⟨N,hN⟩:∃N,min n 60=N:=⟨_,rfl⟩
  have hN2:N≤n:=by omega
  have htk:l.take N=l.take 60:=by
    by_cases hq:n≤60
    · rw [List.take_of_length_le (by omega),List.take_of_length_le (by omega)]
    · rw [show N=60 by omega]
  have HI:=Lib.hid ((h.later_ hal).take N hN2)
  rw [htk] at HI
  obtain ⟨p,hp⟩:∃p,oneP 6 (l.take 60)=p:=⟨_,rfl⟩
  have HP:=Lib.hid hp
  rw [hp]
  have hcs:(n≤60∧N=n)∨(60<n∧N=60):=by omega
  clear hN hN2
  rcases hcs with ⟨hq,rfl⟩|⟨hq,rfl⟩
  all_goals
    clear h hlen hal htk hp
    go_enter Tryz.func17,Tryz.ntmps17
    generalize hQ0:bodyPost _ _ _=Q0
    have HQ:=Lib.hid hQ0
    clear hQ0
    go_wp2_with fail
    refine (one_any 6 0 (by omega) (by omega) _ _ _ _ _ HI.out).mono ?_
    rw [HP.out]
    rintro e w3 ⟨⟨cv,rfl,hI3⟩,hb3⟩
    have D:=HD.out.keep hb3 (by simp)
    obtain ⟨r0,r1,r2,r3,r4⟩:=row5 D.at_
    have g0:=D.fr 0;have g1:=D.fr 1;have g2:=D.fr 2;have g3:=D.fr 3;have g4:=D.fr 4
    have zs3:w.heap.size<w3.heap.size:=D.lt
    have HD3:=Lib.hid D
    have HI3:=Lib.hid hI3
    have HB3:=Lib.hid (HAL.out.trans (hb3.mono (by simp)))
    clear D hI3 hb3
    go_wp2_with fail
    rw [←HQ.out]
    have s1:RStep w3 (((((w3.setCell ⟨w.heap.size,0,none⟩ (.int .u8 cv.k)).setCell ⟨w.heap.size,1,none⟩ (.int .i64 cv.n)).setCell ⟨w.heap.size,2,none⟩ (.string cv.s)).setCell ⟨w.heap.size,3,none⟩ (.slice cv.la cv.ll cv.lc)).setCell ⟨w.heap.size,4,none⟩ (.slice cv.oa cv.ol cv.oc)) w.heap.size:=(((RStep.self.trans RStep.self).trans RStep.self).trans RStep.self).trans RStep.self
    have hbc:BC (((((w3.setCell ⟨w.heap.size,0,none⟩ (.int .u8 cv.k)).setCell ⟨w.heap.size,1,none⟩ (.int .i64 cv.n)).setCell ⟨w.heap.size,2,none⟩ (.string cv.s)).setCell ⟨w.heap.size,3,none⟩ (.slice cv.la cv.ll cv.lc)).setCell ⟨w.heap.size,4,none⟩ (.slice cv.oa cv.ol cv.oc)) w.heap.size (vcells cv):=((((HD3.out.set (i:=0) (x:= .int .u8 cv.k) (by simp)).set (i:=1) (x:= .int .i64 cv.n) (by simp)).set (i:=2) (x:= .string cv.s) (by simp)).set (i:=3) (x:= .slice cv.la cv.ll cv.lc) (by simp)).set (i:=4) (x:= .slice cv.oa cv.ol cv.oc) (by simp)
    have hv:=fun ob=>(isVal_far (isVal_far HI3.out s1 (by simp)) (RStep.of_below w.heap.size ((Below.refl _ _).alloc (Nat.le_refl _) ob)) (by simp)).sub (shows_step (S':=fun b=>w.heap.size≤b) fun k hk _=>⟨by simp at hk;omega,rfl⟩)
    have hB:=HB3.out.trans (s1.below (by omega))
    exact ⟨rfl,_,results_build rfl (hbc.keep ((Below.refl _ _).alloc (Nat.le_refl _) _) hbc.lt),⟨cv,rfl,hv _⟩,hB.alloc hB.size _⟩
end Go.Proofs.YtgcfhkceejcliaaGreatDoor
namespace Go.Proofs.YtgcfhkceejcliaaGreatDoor
open Go.RowKit
end Go.Proofs.YtgcfhkceejcliaaGreatDoor
namespace Go.Proofs.YtgcfhkceejcliaaGreatDoor
open Go.RowKit
theorem short_asserted (w:World):(Instr.typeAssert (.iface 114 (.agg #[])) 20 114 true).run Tryz.prog w= .ok (.tuple #[.agg #[], .bool true]) w:=by kernel_rfl
theorem short_not_nil (w:World):(binOp .eql 20 (.iface 114 (.agg #[])) .nilIface).run Tryz.prog w= .ok (.bool false) w:=by kernel_rfl
theorem catchE_idle (nb ob eb:Nat) (w:World):
    CallsD Tryz.prog 68 #[.pointer (some ⟨nb,0,none⟩), .pointer (some ⟨ob,0,none⟩), .pointer (some ⟨eb,0,none⟩)] .returning w fun e u' w'=>e= .returned (.tuple #[])∧u'= .returning∧w'=w:=by
  refine callsD_of_wpS Tryz.func68 rfl fun c₀ cs hu=> ?_
  apply wpS_seq
  apply wpS_region
  simp [wpOpsS,go_sem,recoverD,hu,Tryz.ntmps68,Exit.thenS]
  refine wpS_of_wp ?_
  go_wp2_with fail
  cases c₀
  simp_all [bodyPostS,results,Tryz.results68]
set_option maxHeartbeats 2000000 in
set_option maxRecDepth 100000 in
theorem catchE_short (nb ob eb:Nat) (w:World) (hn:BC w nb [.int .u8 0, .int .u32 0, .int .u32 0, .int .u8 0, .int .i64 0, .string { data:= #[] }, .slice none 0 0, .slice none 0 0, .slice none 0 0]) (cs0:List Value) (ho:BC w ob cs0) (hl:cs0.length=9) (x0:Value) (he:BC w eb [x0]) (h2:ob≠eb) (h3:eb≠nb):
    CallsD Tryz.prog 68 #[.pointer (some ⟨nb,0,none⟩), .pointer (some ⟨ob,0,none⟩), .pointer (some ⟨eb,0,none⟩)] (.panicking [short]) w fun e u' w'=>e= .returned (.tuple #[])∧u'= .panicking [{ v:= .iface 114 (.agg #[]),recovered:=true }] ∧w'=(((((((((((w.setCell ⟨ob,0,none⟩ (.int .u8 0)).setCell ⟨ob,1,none⟩ (.int .u32 0)).setCell ⟨ob,2,none⟩ (.int .u32 0)).setCell ⟨ob,3,none⟩ (.int .u8 0)).setCell ⟨ob,4,none⟩ (.int .i64 0)).setCell ⟨ob,5,none⟩ (.string { data:= #[] })).setCell ⟨ob,6,none⟩ (.slice none 0 0)).setCell ⟨ob,7,none⟩ (.slice none 0 0)).setCell ⟨ob,8,none⟩ (.slice none 0 0)).setCell ⟨eb,0,none⟩ (.int .u16 100)).alloc (.cells #[] 114)):=by
  refine callsD_of_wpS Tryz.func68 rfl fun c₀ cs hu=> ?_
  have hu3:c₀.mode= .panicking [{ v:= .iface 114 (.agg #[]),recovered:=false }] :=hu
  obtain ⟨ty,hty⟩:∃ty:TypeId,114=ty:=⟨_,rfl⟩
  obtain ⟨pv,hpv⟩:∃pv:Value, .agg #[] =pv:=⟨_,rfl⟩
  obtain ⟨older,hol⟩:∃older:List PanicEntry, [] =older:=⟨_,rfl⟩
  have hu2:c₀.mode= .panicking ({ v:= .iface ty pv,recovered:=false } ::older):=by rw [←hty, ←hpv, ←hol];exact hu3
  have n0:=hn.at_ 0 _ rfl
  have n1:=hn.at_ 1 _ rfl
  have n2:=hn.at_ 2 _ rfl
  have n3:=hn.at_ 3 _ rfl
  have n4:=hn.at_ 4 _ rfl
  have n5:=hn.at_ 5 _ rfl
  have n6:=hn.at_ 6 _ rfl
  have n7:=hn.at_ 7 _ rfl
  have n8:=hn.at_ 8 _ rfl
  have e0:=he.at_ 0 _ rfl
  have ef:=he.fr 0
  have o0:=ho.fr 0
  have o1:=ho.fr 1
  have o2:=ho.fr 2
  have o3:=ho.fr 3
  have o4:=ho.fr 4
  have o5:=ho.fr 5
  have o6:=ho.fr 6
  have o7:=ho.fr 7
  have o8:=ho.fr 8
  obtain ⟨z0,z1,z2,z3,z4,z5,z6,z7,z8,rfl⟩:∃z0 z1 z2 z3 z4 z5 z6 z7 z8,cs0= [z0,z1,z2,z3,z4,z5,z6,z7,z8] :=by
    match cs0,hl with
    | [z0,z1,z2,z3,z4,z5,z6,z7,z8],_=>exact ⟨z0,z1,z2,z3,z4,z5,z6,z7,z8,rfl⟩
  have q0:=ho.at_ 0 _ rfl
  have q1:=ho.at_ 1 _ rfl
  have q2:=ho.at_ 2 _ rfl
  have q3:=ho.at_ 3 _ rfl
  have q4:=ho.at_ 4 _ rfl
  have q5:=ho.at_ 5 _ rfl
  have q6:=ho.at_ 6 _ rfl
  have q7:=ho.at_ 7 _ rfl
  have q8:=ho.at_ 8 _ rfl
  have l1:=hn.lt
  have l2:=ho.lt
  have l3:=he.lt
  clear hn ho he hu hu3
  apply wpS_seq
  apply wpS_region
  simp [wpOpsS,go_sem,recoverD,hu2,Tryz.ntmps68,Exit.thenS]
  subst hty hpv hol
  have k1:=short_asserted
  have k2:=short_not_nil
  refine wpS_of_wp ?_
  go_wp2_with fail
  cases c₀
  simp_all [bodyPostS,results,Tryz.results68]
end Go.Proofs.YtgcfhkceejcliaaGreatDoor
namespace Go.Proofs.YtgcfhkceejcliaaGreatDoor
open Go.RowKit
theorem RStep.src {W W':World} {rb:Nat} (_:RStep W W' rb):W=W:=rfl
def ez:List Value:= [.int .u8 0, .int .u32 0, .int .u32 0, .int .u8 0, .int .i64 0, .string { data:= #[] }, .slice none 0 0, .slice none 0 0, .slice none 0 0]
def En.none:En:=⟨0,0,0,V.none, []⟩
theorem isEntry_none (w:World) (B:Nat):IsEntry w B En.none ezero:=
  .mk ezero V.none [] ⟨by decide,by decide,by decide,by decide,by decide,by decide⟩ (isVal_none _ _) (IsComps.nil _ _)
theorem isEntry_far {W W':World} {b base:Nat} {x:En} {c:EC} (h:IsEntry (only (fun k=>base≤k) W) W.heap.size x c) (s:RStep W W' b) (hb:b<base):IsEntry (only (fun k=>base≤k) W') W'.heap.size x c:=
  (h.sub (shows_step fun k hk hl=>⟨hk,s.block k hl (by omega)⟩)).more s.size
structure KWH (w W:World) (z cs:List Value) (x:Value):Prop where
  out:BC W w.heap.size cs
  err:BC W (w.heap.size+1) [x]
  non:BC W (w.heap.size+2) z
  below:Below w.heap.size w W
theorem KWH.start (w:World) (z:List Value) (bs:List UInt8) (a:Option Addr) (n c:Nat) (h:IsB w w.heap.size a n c bs) (t1 t2 t3 t4:TypeId) (W:World) (hW:W=(((w.alloc (.cells z.toArray t1)).alloc (.cells #[.int .u16 0] t2)).alloc (.cells z.toArray t3)).alloc (.cells #[.slice a n c, .int .i64 0] t4)):
    KWH w W z z (.int .u16 0)∧Rdr W (w.heap.size+3) bs 0∧W.heap.size=w.heap.size+4:=by
  obtain ⟨w1,hw1⟩:∃w1,w.alloc (.cells z.toArray t1)=w1:=⟨_,rfl⟩
  have s1:w1.heap.size=w.heap.size+1:=by rw [←hw1,World.size_alloc]
  have b1:Below w.heap.size w w1:=by rw [←hw1];exact (Below.refl _ _).alloc (Nat.le_refl _) _
  have c1:BC w1 w.heap.size z:=by rw [←hw1];exact BC.start w z.toArray t1
  rw [hw1] at hW
  obtain ⟨w2,hw2⟩:∃w2,w1.alloc (.cells #[.int .u16 0] t2)=w2:=⟨_,rfl⟩
  have s2:w2.heap.size=w.heap.size+2:=by rw [←hw2,World.size_alloc,s1]
  have b2:Below w1.heap.size w1 w2:=by rw [←hw2];exact (Below.refl _ _).alloc (Nat.le_refl _) _
  have c2:BC w2 (w.heap.size+1) [.int .u16 0] :=by rw [←hw2, ←s1];exact BC.start w1 #[.int .u16 0] t2
  rw [hw2] at hW
  obtain ⟨w3,hw3⟩:∃w3,w2.alloc (.cells z.toArray t3)=w3:=⟨_,rfl⟩
  have s3:w3.heap.size=w.heap.size+3:=by rw [←hw3,World.size_alloc,s2]
  have b3:Below w2.heap.size w2 w3:=by rw [←hw3];exact (Below.refl _ _).alloc (Nat.le_refl _) _
  have c3:BC w3 (w.heap.size+2) z:=by rw [←hw3, ←s2];exact BC.start w2 z.toArray t3
  rw [hw3] at hW
  subst hW
  have b4:Below w3.heap.size w3 (w3.alloc (.cells #[.slice a n c, .int .i64 0] t4)):=(Below.refl _ _).alloc (Nat.le_refl _) _
  have hB:Below w.heap.size w (w3.alloc (.cells #[.slice a n c, .int .i64 0] t4)):=((b1.trans (b2.mono (by omega))).trans (b3.mono (by omega))).trans (b4.mono (by omega))
  refine ⟨⟨((c1.keep b2 (by omega)).keep b3 (by omega)).keep b4 (by omega),(c2.keep b3 (by omega)).keep b4 (by omega),c3.keep b4 (by omega),hB⟩,⟨⟨a,n,c, ?_,(h.keep hB).more (by omega)⟩, ?_, ?_, ?_⟩,by rw [World.size_alloc,s3]⟩
  · rw [←s3];exact cells_new w3 _ t4 0 _ rfl
  · rw [←s3];exact cells_new w3 _ t4 1 _ rfl
  · rw [←s3];exact frozen_new w3 _ t4 0
  · rw [←s3];exact frozen_new w3 _ t4 1
theorem KWH.next {w W W':World} {z cs:List Value} {x:Value} (h:KWH w W z cs x) (hb:Below W.heap.size W W'):KWH w W' z cs x:=
  ⟨h.out.keep hb h.out.lt,h.err.keep hb h.err.lt,h.non.keep hb h.non.lt,h.below.trans (hb.mono (Nat.le_of_lt h.out.lt))⟩
theorem KWH.read {w W W':World} {z cs:List Value} {x:Value} (h:KWH w W z cs x) (hs:RStep W W' (w.heap.size+3)) (hz:w.heap.size+4≤W.heap.size):KWH w W' z cs x:=
  ⟨h.out.next hs (by omega),h.err.next hs (by omega),h.non.next hs (by omega),h.below.trans ((hs.below (by omega)).mono (by omega))⟩
theorem KWH.setErr {w W:World} {z cs:List Value} {x y:Value} (h:KWH w W z cs x):KWH w (W.setCell ⟨w.heap.size+1,0,none⟩ y) z cs y:=by
  have s1:RStep W (W.setCell ⟨w.heap.size+1,0,none⟩ y) (w.heap.size+1):=RStep.self
  have hlt:=h.err.lt
  exact ⟨h.out.far (by omega),h.err.set (i:=0) (x:=y) (by simp),h.non.far (by omega),h.below.trans ((s1.below (by omega)).mono (by omega))⟩
end Go.Proofs.YtgcfhkceejcliaaGreatDoor
namespace Go.Proofs.YtgcfhkceejcliaaGreatDoor
open Go.RowKit
theorem takeU324_lt {n:Nat} {bs r:List UInt8} (h:rdN 4 bs=some (n,r)):n<4294967296:=Nat.lt_of_lt_of_le (rdN_lt h) (by decide)
set_option maxHeartbeats 16000000 in
set_option maxRecDepth 100000 in
theorem rEntry_few (w:World) (rb:Nat) (bs:List UInt8) (h:Rdr w rb bs 0) {out:Option (En×List UInt8)} (hout:rdE bs=out) (hk:∀p,rdN 1 bs=some p→p.1=3):
    Calls Tryz.prog 39 #[.pointer (some ⟨rb,0,none⟩)] w (REPost w rb out):=by
  have hlt:=h.lt
  have HB:=Lib.hid ((Below.refl _ _).alloc (Nat.le_refl _) (.cells #[.int .u8 0, .int .u32 0, .int .u32 0, .int .u8 0, .int .i64 0, .string { data:= #[] }, .slice none 0 0, .slice none 0 0, .slice none 0 0] 36):Below w.heap.size w (w.alloc (.cells #[.int .u8 0, .int .u32 0, .int .u32 0, .int .u8 0, .int .i64 0, .string { data:= #[] }, .slice none 0 0, .slice none 0 0, .slice none 0 0] 36)))
  have HR0:=Lib.hid (h.of_below HB.out)
  have HC0:=Lib.hid (BC.start w #[.int .u8 0, .int .u32 0, .int .u32 0, .int .u8 0, .int .i64 0, .string { data:= #[] }, .slice none 0 0, .slice none 0 0, .slice none 0 0] 36)
  rw [rdE] at hout
  clear h
  cases hr:rdN 1 bs with
  | none=>
    obtain rfl:out=none:=by rw [←hout,hr];rfl
    clear hout
    have HN:=Lib.hid hr
    clear hr
    go_enter Tryz.func39,Tryz.ntmps39
    go_wp2_with (go_at_call 70;(with_reducible refine (takeU81_none _ rb bs 0 HR0.out HN.out).mono ?_);rintro e w1 ⟨rfl,rfl⟩)
    exact ⟨rfl, .of_below rb HB.out,rfl,bs,HR0.out⟩
  |some p=>
  obtain ⟨kd,r⟩:=p
  have hk1:kd<256:=rdN_lt hr
  have HK3:=Lib.hid (hk _ hr)
  clear hk
  rw [hr] at hout
  simp only [Option.bind_some] at hout
  have HN:=Lib.hid hr
  clear hr
  have TK:Hid (∀W,W=w.alloc (.cells #[.int .u8 0, .int .u32 0, .int .u32 0, .int .u8 0, .int .i64 0, .string { data:= #[] }, .slice none 0 0, .slice none 0 0, .slice none 0 0] 36)→Calls Tryz.prog 70 #[.pointer (some ⟨rb,0,none⟩), .int .i64 1] W fun e w'=>e= .returned (.int .u8 kd)∧Rdr w' rb r 0∧RStep w w' rb∧BC w' w.heap.size (ecells ezero)∧w.heap.size+1≤w'.heap.size):=by
    intro W hW
    subst hW
    refine (takeU81_some _ rb bs 0 HR0.out HN.out).mono fun e w' ⟨h1,h2,h3⟩=>⟨h1,h2,(RStep.of_below rb HB.out).trans h3,HC0.out.next h3 (by omega),by have:=h3.size;simp at this;omega⟩
  clear HN HR0 HC0
  cases h2:rdN 4 r with
  | none=>
    obtain rfl:out=none:=by rw [←hout,h2];rfl
    have HM:=Lib.hid h2
    clear hout h2
    go_enter Tryz.func39,Tryz.ntmps39
    go_wp2_with (first|(go_at_call 70;(with_reducible refine (TK.out _ rfl).mono ?_);rintro e w1 ⟨rfl,hR,hS,hC,hz⟩;have zs0:w.heap.size<w1.heap.size:=(by omega);have A1:=hC.keep ((Below.refl _ _).alloc (Nat.le_refl _) (.cells #[.int .u8 kd, .int .u32 0, .int .u32 0, .int .u8 0, .int .i64 0, .string { data:= #[] }, .slice none 0 0, .slice none 0 0, .slice none 0 0] 36)) (by omega);have A2:=BC.start w1 #[.int .u8 kd, .int .u32 0, .int .u32 0, .int .u8 0, .int .i64 0, .string { data:= #[] }, .slice none 0 0, .slice none 0 0, .slice none 0 0] 36;have A3:=hR.of_below ((Below.refl _ _).alloc (Nat.le_refl _) (.cells #[.int .u8 kd, .int .u32 0, .int .u32 0, .int .u8 0, .int .i64 0, .string { data:= #[] }, .slice none 0 0, .slice none 0 0, .slice none 0 0] 36));have A4:=hS.trans (.of_below rb ((Below.refl _ _).alloc (Nat.le_refl _) (.cells #[.int .u8 kd, .int .u32 0, .int .u32 0, .int .u8 0, .int .i64 0, .string { data:= #[] }, .slice none 0 0, .slice none 0 0, .slice none 0 0] 36))))|(go_at_call 71;(with_reducible refine (takeU324_none _ rb r 0 A3 HM.out).mono ?_);rintro e w2 ⟨rfl,rfl⟩))
    exact ⟨rfl,A4,rfl,r,A3⟩
  |some ps=>
  obtain ⟨sr,r2⟩:=ps
  have hs1:=takeU324_lt h2
  rw [h2] at hout
  simp only [Option.bind_some] at hout
  have HM:=Lib.hid h2
  clear h2
  cases h3:rdN 4 r2 with
  | none=>
    obtain rfl:out=none:=by rw [←hout,h3];rfl
    have HM3:=Lib.hid h3
    clear hout h3
    go_enter Tryz.func39,Tryz.ntmps39
    go_wp2_with (first|(go_at_call 70;(with_reducible refine (TK.out _ rfl).mono ?_);rintro e w1 ⟨rfl,hR,hS,hC,hz⟩;have zs0:w.heap.size<w1.heap.size:=(by omega);have A1:=hC.keep ((Below.refl _ _).alloc (Nat.le_refl _) (.cells #[.int .u8 kd, .int .u32 0, .int .u32 0, .int .u8 0, .int .i64 0, .string { data:= #[] }, .slice none 0 0, .slice none 0 0, .slice none 0 0] 36)) (by omega);have A2:=BC.start w1 #[.int .u8 kd, .int .u32 0, .int .u32 0, .int .u8 0, .int .i64 0, .string { data:= #[] }, .slice none 0 0, .slice none 0 0, .slice none 0 0] 36;have A3:=hR.of_below ((Below.refl _ _).alloc (Nat.le_refl _) (.cells #[.int .u8 kd, .int .u32 0, .int .u32 0, .int .u8 0, .int .i64 0, .string { data:= #[] }, .slice none 0 0, .slice none 0 0, .slice none 0 0] 36));have A4:=hS.trans (.of_below rb ((Below.refl _ _).alloc (Nat.le_refl _) (.cells #[.int .u8 kd, .int .u32 0, .int .u32 0, .int .u8 0, .int .i64 0, .string { data:= #[] }, .slice none 0 0, .slice none 0 0, .slice none 0 0] 36))))|(go_at_call 71;(with_reducible refine (takeU324_some _ rb r 0 A3 HM.out).mono ?_);rintro e w2 ⟨rfl,hR2,hS2⟩;have C2:=A2.next hS2 (by omega);have y1:=C2.at_ 1 _ rfl;have p1:=C2.fr 1)|(go_at_call 71;(with_reducible refine (takeU324_none _ rb r2 0 (hR2.setNew (by omega)) HM3.out).mono ?_);rintro e w3 ⟨rfl,rfl⟩))
    exact ⟨rfl,(A4.trans hS2).setNew (by omega),rfl,r2,hR2.setNew (by omega)⟩
  |some pq=>
  obtain ⟨sq,r3⟩:=pq
  have hq1:=takeU324_lt h3
  rw [h3] at hout
  simp only [Option.bind_some] at hout
  have HM3:=Lib.hid h3
  have HO:=Lib.hid hout
  clear h3 hout
  have bnd:∀(v:VC) (a:Option Addr) (m c:Nat),(⟨kd,sr,sq,v,a,m,c⟩:EC).Bnd:=fun v a m c=>⟨by show (0:Int)≤(kd:Int);omega,by show (kd:Int)<256;omega,by show (0:Int)≤(sr:Int);omega,by show (sr:Int)<4294967296;omega,by show (0:Int)≤(sq:Int);omega,by show (sq:Int)<4294967296;omega⟩
  have hk3:kd=3:=HK3.out
  have e1:¬kd=1:=by omega
  have e2:¬kd=2:=by omega
  have f1:((kd:Int)==1)=false:=by simp;omega
  have f2:((kd:Int)==2)=false:=by simp;omega
  obtain rfl:out=some (⟨kd,sr,sq,V.none, []⟩,r3):=by have:=HO.out;rw [if_neg e1,if_neg e2] at this;exact this.symm
  clear e1 e2 hk3 HO
  go_enter Tryz.func39,Tryz.ntmps39
  go_wp2_with (first|(go_at_call 70;(with_reducible refine (TK.out _ rfl).mono ?_);rintro e w1 ⟨rfl,hR,hS,hC,hz⟩;have zs0:w.heap.size<w1.heap.size:=(by omega);have A1:=hC.keep ((Below.refl _ _).alloc (Nat.le_refl _) (.cells #[.int .u8 kd, .int .u32 0, .int .u32 0, .int .u8 0, .int .i64 0, .string { data:= #[] }, .slice none 0 0, .slice none 0 0, .slice none 0 0] 36)) (by omega);have A2:=BC.start w1 #[.int .u8 kd, .int .u32 0, .int .u32 0, .int .u8 0, .int .i64 0, .string { data:= #[] }, .slice none 0 0, .slice none 0 0, .slice none 0 0] 36;have A3:=hR.of_below ((Below.refl _ _).alloc (Nat.le_refl _) (.cells #[.int .u8 kd, .int .u32 0, .int .u32 0, .int .u8 0, .int .i64 0, .string { data:= #[] }, .slice none 0 0, .slice none 0 0, .slice none 0 0] 36));have A4:=hS.trans (.of_below rb ((Below.refl _ _).alloc (Nat.le_refl _) (.cells #[.int .u8 kd, .int .u32 0, .int .u32 0, .int .u8 0, .int .i64 0, .string { data:= #[] }, .slice none 0 0, .slice none 0 0, .slice none 0 0] 36))))|(go_at_call 71;(with_reducible refine (takeU324_some _ rb r 0 A3 HM.out).mono ?_);rintro e w2 ⟨rfl,hR2,hS2⟩;have C2:=A2.next hS2 (by omega);have y1:=C2.at_ 1 _ rfl;have p1:=C2.fr 1;have D2:=A1.next hS2 (by omega))|(go_at_call 71;(with_reducible refine (takeU324_some _ rb r2 0 (hR2.setNew (by omega)) HM3.out).mono ?_);rintro e w3 ⟨rfl,hR3,hS3⟩;have C3:=(C2.set (i:=1) (x:= .int .u32 sr) (by simp)).next hS3 (by omega);have y2:=C3.at_ 2 _ rfl;have p2:=C3.fr 2;have y0:=C3.at_ 0 _ rfl;have hS3':=((A4.trans hS2).setNew (b:=w1.heap.size) (o:=1) (x:= .int .u32 sr) (by omega)).trans hS3;have D3:=(D2.far (b':=w1.heap.size) (o:=1) (x:= .int .u32 sr) (by omega)).next hS3 (by omega);have B:EB w (w3.setCell ⟨w1.heap.size,2,none⟩ (.int .u32 sq)) rb w1.heap.size r3 V.none [] ⟨kd,sr,sq,vzero,none,0,0⟩:=⟨hR3.setNew (by omega),hS3'.setNew (by omega),D3.far (by omega),C3.set (i:=2) (x:= .int .u32 sq) (by simp),isVal_none _ _, .nil _ _,hz,hlt⟩;have y1:=C3.at_ 1 _ rfl;have y3:=C3.at_ 3 _ rfl;have y4:=C3.at_ 4 _ rfl;have y5:=C3.at_ 5 _ rfl;have y6:=C3.at_ 6 _ rfl;have y7:=C3.at_ 7 _ rfl;have y8:=C3.at_ 8 _ rfl;have r0:=D3.at_ 0 _ rfl;have gr0:=D3.fr 0;have r1:=D3.at_ 1 _ rfl;have gr1:=D3.fr 1;have r2:=D3.at_ 2 _ rfl;have gr2:=D3.fr 2;have r3:=D3.at_ 3 _ rfl;have gr3:=D3.fr 3;have r4:=D3.at_ 4 _ rfl;have gr4:=D3.fr 4;have r5:=D3.at_ 5 _ rfl;have gr5:=D3.fr 5;have r6:=D3.at_ 6 _ rfl;have gr6:=D3.fr 6;have r7:=D3.at_ 7 _ rfl;have gr7:=D3.fr 7;have r8:=D3.at_ 8 _ rfl;have gr8:=D3.fr 8;have hcl:=C3.lt))
  exact B.leave (bnd _ _ _ _) rfl rfl rfl
end Go.Proofs.YtgcfhkceejcliaaGreatDoor
namespace Go.Proofs.YtgcfhkceejcliaaGreatDoor
open Go.RowKit
theorem re_none (w:World) (rb:Nat) (bs:List UInt8) (h:Rdr w rb bs 0) (hr:rdE bs=none) (hk3:∀p,rdN 1 bs=some p→p.1=3):
    Calls Tryz.prog 39 #[.pointer (some ⟨rb,0,none⟩)] w fun e w'=>e= .panicked [short] ∧RStep w w' rb∧∃bs',Rdr w' rb bs' 0:=
  (rEntry_few w rb bs h hr hk3).mono fun _ _ ⟨h1,h2,h3⟩=>⟨h2,h1,h3⟩
theorem re_some (w:World) (rb:Nat) (bs:List UInt8) (h:Rdr w rb bs 0) {x:En} {r:List UInt8} (hr:rdE bs=some (x,r)) (hk3:∀p,rdN 1 bs=some p→p.1=3):
    Calls Tryz.prog 39 #[.pointer (some ⟨rb,0,none⟩)] w fun e w'=>∃c:EC,e= .returned (.agg #[.int .u8 c.k, .int .u32 c.src, .int .u32 c.seq, .int .u8 c.v.k, .int .i64 c.v.n, .string c.v.s, .slice c.v.la c.v.ll c.v.lc, .slice c.v.oa c.v.ol c.v.oc, .slice c.oa c.ol c.oc])∧RStep w w' rb∧IsEntry (only (fun b=>w.heap.size≤b) w') w'.heap.size x c∧Rdr w' rb r 0:=
  (rEntry_few w rb bs h hr hk3).mono fun _ _ ⟨h1,⟨c,h2,h3⟩,h4⟩=>⟨c,h2,h1,h3,h4⟩
theorem encode_e (sd:Bool) (w:World) (c:EC) (x:En) (hx:IsEntry w w.heap.size x c) (HS:Hid (∀W,Below w.heap.size w W→Calls Tryz.prog 10 #[.agg #[.int .u8 c.k, .int .u32 c.src, .int .u32 c.seq, .int .u8 c.v.k, .int .i64 c.v.n, .string c.v.s, .slice c.v.la c.v.ll c.v.lc, .slice c.v.oa c.v.ol c.v.oc, .slice c.oa c.ol c.oc]] W fun e w'=>e= .returned (.bool sd)∧Below W.heap.size W w')) (hsz:(encE x).length≤70368744177664):
    Calls Tryz.prog 8 #[.agg #[.int .u8 c.k, .int .u32 c.src, .int .u32 c.seq, .int .u8 c.v.k, .int .i64 c.v.n, .string c.v.s, .slice c.v.la c.v.ll c.v.lc, .slice c.v.oa c.v.ol c.v.oc, .slice c.oa c.ol c.oc]] w fun e w'=>(∃a n cc,e= .returned (.tuple #[.slice a n cc, .int .u16 (outN sd (encE x))])∧IsB w' w'.heap.size a n cc (outB sd (encE x)))∧Below w.heap.size w w':=by
  cases hx with
  | mk c v l hb hv ho=>
    obtain ⟨k,src,seq,⟨vk,vn,vs,vla,vll,vlc,voa,vol,voc⟩,oa,ol,oc⟩:=c
    exact encode_of sd w k src seq vk vn vs vla vll vlc voa vol voc oa ol oc v l hb.k0 hb.k1 hv ho HS (fun _=>hsz)
theorem results_wholeE {tmps:Array Value} {W:World} {b b':Nat} {c:EC} {x:Value} (ht:tmps[6]? =some (.pointer (some ⟨b,0,none⟩))) (ht':tmps[7]? =some (.pointer (some ⟨b',0,none⟩))) (h:BC W b [.int .u8 c.k, .int .u32 c.src, .int .u32 c.seq, .int .u8 c.v.k, .int .i64 c.v.n, .string c.v.s, .slice c.v.la c.v.ll c.v.lc, .slice c.v.oa c.v.ol c.v.oc, .slice c.oa c.ol c.oc]) (h':BC W b' [x]):
    (results Tryz.f38 tmps).run Tryz.prog W= .ok (.tuple #[.agg #[.int .u8 c.k, .int .u32 c.src, .int .u32 c.seq, .int .u8 c.v.k, .int .i64 c.v.n, .string c.v.s, .slice c.v.la c.v.ll c.v.lc, .slice c.v.oa c.v.ol c.v.oc, .slice c.oa c.ol c.oc],x]) W:=by
  obtain ⟨r0,r1,r2,r3,r4,r5,r6,r7,r8⟩:=row9 h.at_
  have s0:=h'.at_ 0 _ rfl
  simp [results,Tryz.results38,go_sem,ht,ht',s0,r0,r1,r2,r3,r4,r5,r6,r7,r8]
def WEPost (w:World) (r:En×Int) (e:Ending) (w':World):Prop:=
  (∃c:EC,e= .returned (.tuple #[.agg #[.int .u8 c.k, .int .u32 c.src, .int .u32 c.seq, .int .u8 c.v.k, .int .i64 c.v.n, .string c.v.s, .slice c.v.la c.v.ll c.v.lc, .slice c.v.oa c.v.ol c.v.oc, .slice c.oa c.ol c.oc], .int .u16 r.2])∧IsEntry (only (fun b=>w.heap.size≤b) w') w'.heap.size r.1 c)∧Below w.heap.size w w'
theorem wdoorE_short {tmps:Array Value} {w W:World} {cs:List Value} {x:Value} (H:KWH w W ez cs x) (hl:cs.length=9) (ht:tmps[6]? =some (.pointer (some ⟨w.heap.size,0,none⟩))) (ht':tmps[7]? =some (.pointer (some ⟨w.heap.size+1,0,none⟩))):
    Leaves Tryz.prog Tryz.f38 tmps (WEPost w (En.none,100)) [{ target:= .fn (.func 68) #[.pointer (some ⟨w.heap.size+1+1,0,none⟩), .pointer (some ⟨w.heap.size,0,none⟩), .pointer (some ⟨w.heap.size+1,0,none⟩)],args:= #[] }] (.panicking [short]) W:=by
  refine leaves_cons (f:=68) (args:= #[.pointer (some ⟨w.heap.size+1+1,0,none⟩), .pointer (some ⟨w.heap.size,0,none⟩), .pointer (some ⟨w.heap.size+1,0,none⟩)]) (by simp) (by simp [go_sem]) ?_
  refine (catchE_short (w.heap.size+2) w.heap.size (w.heap.size+1) W H.non cs H.out hl x H.err (by omega) (by omega)).mono ?_
  rintro e u' w'' ⟨rfl,rfl,hw⟩
  show Leaves _ _ _ _ [] .returning w''
  obtain ⟨W1,hW1⟩:∃W1,(((((((((W.setCell ⟨w.heap.size,0,none⟩ (.int .u8 0)).setCell ⟨w.heap.size,1,none⟩ (.int .u32 0)).setCell ⟨w.heap.size,2,none⟩ (.int .u32 0)).setCell ⟨w.heap.size,3,none⟩ (.int .u8 0)).setCell ⟨w.heap.size,4,none⟩ (.int .i64 0)).setCell ⟨w.heap.size,5,none⟩ (.string { data:= #[] })).setCell ⟨w.heap.size,6,none⟩ (.slice none 0 0)).setCell ⟨w.heap.size,7,none⟩ (.slice none 0 0)).setCell ⟨w.heap.size,8,none⟩ (.slice none 0 0))=W1:=⟨_,rfl⟩
  have c1:BC W1 w.heap.size ez:=by
    rw [←hW1]
    match cs,hl,H.out with
    | [z0,z1,z2,z3,z4,z5,z6,z7,z8],_,ho=>exact (((((((((ho.set (i:=0) (x:= .int .u8 0) (by simp)).set (i:=1) (x:= .int .u32 0) (by simp)).set (i:=2) (x:= .int .u32 0) (by simp)).set (i:=3) (x:= .int .u8 0) (by simp)).set (i:=4) (x:= .int .i64 0) (by simp)).set (i:=5) (x:= .string { data:= #[] }) (by simp)).set (i:=6) (x:= .slice none 0 0) (by simp)).set (i:=7) (x:= .slice none 0 0) (by simp)).set (i:=8) (x:= .slice none 0 0) (by simp))
  have e1:BC W1 (w.heap.size+1) [x] :=by
    rw [←hW1]
    exact (((((((((H.err.far (by omega)).far (by omega)).far (by omega)).far (by omega)).far (by omega)).far (by omega)).far (by omega)).far (by omega)).far (by omega))
  have s1:RStep W W1 w.heap.size:=by rw [←hW1];exact (((((((RStep.self.trans RStep.self).trans RStep.self).trans RStep.self).trans RStep.self).trans RStep.self).trans RStep.self).trans RStep.self).trans RStep.self
  rw [hW1] at hw
  have c2:BC (W1.setCell ⟨w.heap.size+1,0,none⟩ (.int .u16 100)) w.heap.size ez:=c1.far (by omega)
  have e2:BC (W1.setCell ⟨w.heap.size+1,0,none⟩ (.int .u16 100)) (w.heap.size+1) [.int .u16 100] :=e1.set (i:=0) (x:= .int .u16 100) (by simp)
  have hb:Below (W1.setCell ⟨w.heap.size+1,0,none⟩ (.int .u16 100)).heap.size (W1.setCell ⟨w.heap.size+1,0,none⟩ (.int .u16 100)) w'':=by rw [hw];exact (Below.refl _ _).alloc (Nat.le_refl _) _
  have s2:RStep W1 (W1.setCell ⟨w.heap.size+1,0,none⟩ (.int .u16 100)) (w.heap.size+1):=RStep.self
  have hlt:=H.out.lt
  have hB:Below w.heap.size w w'':=by
    have b1:Below w.heap.size W W1:=s1.below (by omega)
    have b2:Below w.heap.size W1 (W1.setCell ⟨w.heap.size+1,0,none⟩ (.int .u16 100)):=(s2.below (by have:=s1.size;have:=H.err.lt;omega)).mono (by omega)
    have z1:=s1.size
    have z2:=s2.size
    exact ((H.below.trans b1).trans b2).trans (hb.mono (by omega))
  exact ⟨_,results_wholeE (c:=ezero) ht ht' (c2.keep hb c2.lt) (e2.keep hb e2.lt),⟨ezero,rfl,isEntry_none _ _⟩,hB⟩
theorem wdoorE_idle {tmps:Array Value} {w W:World} {c:EC} {v:En} {x:Int} (H:KWH w W ez [.int .u8 c.k, .int .u32 c.src, .int .u32 c.seq, .int .u8 c.v.k, .int .i64 c.v.n, .string c.v.s, .slice c.v.la c.v.ll c.v.lc, .slice c.v.oa c.v.ol c.v.oc, .slice c.oa c.ol c.oc] (.int .u16 x)) (hv:IsEntry (only (fun b=>w.heap.size≤b) W) W.heap.size v c) (ht:tmps[6]? =some (.pointer (some ⟨w.heap.size,0,none⟩))) (ht':tmps[7]? =some (.pointer (some ⟨w.heap.size+1,0,none⟩))):
    Leaves Tryz.prog Tryz.f38 tmps (WEPost w (v,x)) [{ target:= .fn (.func 68) #[.pointer (some ⟨w.heap.size+1+1,0,none⟩), .pointer (some ⟨w.heap.size,0,none⟩), .pointer (some ⟨w.heap.size+1,0,none⟩)],args:= #[] }] .returning W:=by
  refine leaves_cons (f:=68) (args:= #[.pointer (some ⟨w.heap.size+1+1,0,none⟩), .pointer (some ⟨w.heap.size,0,none⟩), .pointer (some ⟨w.heap.size+1,0,none⟩)]) (by simp) (by simp [go_sem]) ?_
  refine (catchE_idle (w.heap.size+2) w.heap.size (w.heap.size+1) W).mono ?_
  rintro e u' w'' ⟨rfl,rfl,rfl⟩
  exact ⟨_,results_wholeE ht ht' H.out H.err,⟨c,rfl,hv⟩,H.below⟩
theorem KWH.storeE {w W:World} {z0 z1 z2 z3 z4 z5 z6 z7 z8 x:Value} (h:KWH w W ez [z0,z1,z2,z3,z4,z5,z6,z7,z8] x) (c:EC):KWH w ((((((((((W.setCell ⟨w.heap.size,0,none⟩ (.int .u8 c.k)).setCell ⟨w.heap.size,1,none⟩ (.int .u32 c.src)).setCell ⟨w.heap.size,2,none⟩ (.int .u32 c.seq)).setCell ⟨w.heap.size,3,none⟩ (.int .u8 c.v.k)).setCell ⟨w.heap.size,4,none⟩ (.int .i64 c.v.n)).setCell ⟨w.heap.size,5,none⟩ (.string c.v.s)).setCell ⟨w.heap.size,6,none⟩ (.slice c.v.la c.v.ll c.v.lc)).setCell ⟨w.heap.size,7,none⟩ (.slice c.v.oa c.v.ol c.v.oc)).setCell ⟨w.heap.size,8,none⟩ (.slice c.oa c.ol c.oc))) ez [.int .u8 c.k, .int .u32 c.src, .int .u32 c.seq, .int .u8 c.v.k, .int .i64 c.v.n, .string c.v.s, .slice c.v.la c.v.ll c.v.lc, .slice c.v.oa c.v.ol c.v.oc, .slice c.oa c.ol c.oc] x∧RStep W ((((((((((W.setCell ⟨w.heap.size,0,none⟩ (.int .u8 c.k)).setCell ⟨w.heap.size,1,none⟩ (.int .u32 c.src)).setCell ⟨w.heap.size,2,none⟩ (.int .u32 c.seq)).setCell ⟨w.heap.size,3,none⟩ (.int .u8 c.v.k)).setCell ⟨w.heap.size,4,none⟩ (.int .i64 c.v.n)).setCell ⟨w.heap.size,5,none⟩ (.string c.v.s)).setCell ⟨w.heap.size,6,none⟩ (.slice c.v.la c.v.ll c.v.lc)).setCell ⟨w.heap.size,7,none⟩ (.slice c.v.oa c.v.ol c.v.oc)).setCell ⟨w.heap.size,8,none⟩ (.slice c.oa c.ol c.oc))) w.heap.size:=by
  have s1:RStep W ((((((((((W.setCell ⟨w.heap.size,0,none⟩ (.int .u8 c.k)).setCell ⟨w.heap.size,1,none⟩ (.int .u32 c.src)).setCell ⟨w.heap.size,2,none⟩ (.int .u32 c.seq)).setCell ⟨w.heap.size,3,none⟩ (.int .u8 c.v.k)).setCell ⟨w.heap.size,4,none⟩ (.int .i64 c.v.n)).setCell ⟨w.heap.size,5,none⟩ (.string c.v.s)).setCell ⟨w.heap.size,6,none⟩ (.slice c.v.la c.v.ll c.v.lc)).setCell ⟨w.heap.size,7,none⟩ (.slice c.v.oa c.v.ol c.v.oc)).setCell ⟨w.heap.size,8,none⟩ (.slice c.oa c.ol c.oc))) w.heap.size:=(((((((RStep.self.trans RStep.self).trans RStep.self).trans RStep.self).trans RStep.self).trans RStep.self).trans RStep.self).trans RStep.self).trans RStep.self
  have hlt:=h.out.lt
  exact ⟨⟨(((((((((h.out.set (i:=0) (x:= .int .u8 c.k) (by simp)).set (i:=1) (x:= .int .u32 c.src) (by simp)).set (i:=2) (x:= .int .u32 c.seq) (by simp)).set (i:=3) (x:= .int .u8 c.v.k) (by simp)).set (i:=4) (x:= .int .i64 c.v.n) (by simp)).set (i:=5) (x:= .string c.v.s) (by simp)).set (i:=6) (x:= .slice c.v.la c.v.ll c.v.lc) (by simp)).set (i:=7) (x:= .slice c.v.oa c.v.ol c.v.oc) (by simp)).set (i:=8) (x:= .slice c.oa c.ol c.oc) (by simp)),h.err.next s1 (by omega),h.non.next s1 (by omega),h.below.trans (s1.below (by omega))⟩,s1⟩
set_option maxHeartbeats 4000000 in
set_option maxRecDepth 100000 in
theorem wholeE_none (w:World) (a:Option Addr) (n c:Nat) (bs:List UInt8) (h:IsB w w.heap.size a n c bs) (hn:bs.length≤60000) (hr:rdE bs=none) (hk3:∀p,rdN 1 bs=some p→p.1=3):
    Calls Tryz.prog 38 #[.slice a n c, .func (.func 39) #[] #[], .func (.func 8) #[] #[]] w (WEPost w (En.none,100)):=by
  have hmf:∀(fn:Fn) (first cap:Array Value) (w:World),(Instr.makeFunc fn first cap).run Tryz.prog w= .ok (.func fn first cap) w:=fun _ _ _ _=>rfl
  have HS:=Lib.hid (KWH.start w ez bs a n c h)
  have hnn:=h.len
  have hn2:¬60000<n:=by omega
  clear h hnn hn
  go_enter_defers Tryz.func38,Tryz.ntmps38
  go_wp2_with (go_at_call 39;refine (re_none _ (w.heap.size+3) bs (HS.out _ _ _ _ _ rfl).2.1 hr hk3).mono ?_;rintro e w4 ⟨rfl,hS4,hR4⟩)
  have HH:=HS.out _ _ _ _ _ hS4.src
  exact wdoorE_short (HH.1.read hS4 (by omega)) rfl rfl rfl
set_option maxHeartbeats 8000000 in
set_option maxRecDepth 100000 in
theorem wholeE_eq (w:World) (a:Option Addr) (n c:Nat) (bs:List UInt8) (h:IsB w w.heap.size a n c bs) (hn:bs.length≤60000) {v:En} {r:List UInt8} (hr:rdE bs=some (v,r)) (hk3:∀p,rdN 1 bs=some p→p.1=3) (hsz:(encE v).length≤70368744177664) (sd:Bool)
    (HLV:Hid (∀W5,Below w.heap.size w W5→∀cv:EC,IsEntry W5 W5.heap.size v cv→Hid (∀W,Below W5.heap.size W5 W→Calls Tryz.prog 10 #[.agg #[.int .u8 cv.k, .int .u32 cv.src, .int .u32 cv.seq, .int .u8 cv.v.k, .int .i64 cv.v.n, .string cv.v.s, .slice cv.v.la cv.v.ll cv.v.lc, .slice cv.v.oa cv.v.ol cv.v.oc, .slice cv.oa cv.ol cv.oc]] W fun e w'=>e= .returned (.bool sd)∧Below W.heap.size W w'))) (hok:outN sd (encE v)=0) (heq:eqBs (outB sd (encE v)) bs=true):
    Calls Tryz.prog 38 #[.slice a n c, .func (.func 39) #[] #[], .func (.func 8) #[] #[]] w (WEPost w (v,0)):=by
  have hmf:∀(fn:Fn) (first cap:Array Value) (w:World),(Instr.makeFunc fn first cap).run Tryz.prog w= .ok (.func fn first cap) w:=fun _ _ _ _=>rfl
  have HS:=Lib.hid (KWH.start w ez bs a n c h)
  have HI:=Lib.hid h
  have hnn:=h.len
  have hn2:¬60000<n:=by omega
  obtain ⟨en,hen⟩:∃en,encE v=en:=⟨_,rfl⟩
  rw [hen] at hok heq
  have HEN:=Lib.hid hen
  have HN:=Lib.hid hok
  have HE:=Lib.hid heq
  clear h hnn hn hen hok heq
  go_enter_defers Tryz.func38,Tryz.ntmps38
  go_wp2_with (first|(go_at_call 39;refine (re_some _ (w.heap.size+3) bs (HS.out _ _ _ _ _ rfl).2.1 hr hk3).mono ?_;rintro e w4 ⟨cv,rfl,hS4,hI4,hR4⟩;have HH:=HS.out _ _ _ _ _ hS4.src;have H4:=HH.1.read hS4 (by omega);have O:=H4.out;have o0:=O.at_ 0 _ rfl;have g0:=O.fr 0;have o1:=O.at_ 1 _ rfl;have g1:=O.fr 1;have o2:=O.at_ 2 _ rfl;have g2:=O.fr 2;have o3:=O.at_ 3 _ rfl;have g3:=O.fr 3;have o4:=O.at_ 4 _ rfl;have g4:=O.fr 4;have o5:=O.at_ 5 _ rfl;have g5:=O.fr 5;have o6:=O.at_ 6 _ rfl;have g6:=O.fr 6;have o7:=O.at_ 7 _ rfl;have g7:=O.fr 7;have o8:=O.at_ 8 _ rfl;have g8:=O.fr 8;have H5:=H4.storeE cv;have hV5:=(isEntry_far (hI4.sub (shows_step (S':=fun b=>w.heap.size+4≤b) fun k hk _=>⟨by have:=HH.2.2;omega,rfl⟩)) H5.2 (by omega));have HVF:=Lib.hid hV5;have HV5:=Lib.hid (hV5.sub (shows_only _ _ _));have HH5:=Lib.hid H5.1;clear hI4 hV5 H5 H4 HH O)|(go_at_call 8;refine (encode_e sd _ cv v HV5.out (HLV.out _ HH5.out.below cv HV5.out) hsz).mono ?_;rw [HEN.out];rintro e w6 ⟨⟨ra,rn,rc,rfl,hI6⟩,hb6⟩;rw [HN.out];have H6:=HH5.out.next hb6;have HI6:=Lib.hid hI6;have HV6:=Lib.hid (isEntry_far HVF.out (RStep.of_below w.heap.size hb6) (by omega));clear hI6;have o0:=H6.out.at_ 0 _ rfl;have g0:=H6.out.fr 0;have n0:=H6.non.at_ 0 _ rfl;have o1:=H6.out.at_ 1 _ rfl;have g1:=H6.out.fr 1;have n1:=H6.non.at_ 1 _ rfl;have o2:=H6.out.at_ 2 _ rfl;have g2:=H6.out.fr 2;have n2:=H6.non.at_ 2 _ rfl;have o3:=H6.out.at_ 3 _ rfl;have g3:=H6.out.fr 3;have n3:=H6.non.at_ 3 _ rfl;have o4:=H6.out.at_ 4 _ rfl;have g4:=H6.out.fr 4;have n4:=H6.non.at_ 4 _ rfl;have o5:=H6.out.at_ 5 _ rfl;have g5:=H6.out.fr 5;have n5:=H6.non.at_ 5 _ rfl;have o6:=H6.out.at_ 6 _ rfl;have g6:=H6.out.fr 6;have n6:=H6.non.at_ 6 _ rfl;have o7:=H6.out.at_ 7 _ rfl;have g7:=H6.out.fr 7;have n7:=H6.non.at_ 7 _ rfl;have o8:=H6.out.at_ 8 _ rfl;have g8:=H6.out.fr 8;have n8:=H6.non.at_ 8 _ rfl;have x0:=H6.err.at_ 0 _ rfl;have xf:=H6.err.fr 0;have HH6:=Lib.hid H6;clear H6))
  refine (equal_any w6 _ _ ra a rn n rc c _ bs HI6.out (HI.out.keep HH6.out.below)).mono ?_
  rw [HE.out]
  rintro e w7 ⟨rfl,rfl⟩
  go_wp2_with fail
  have HST:=HH6.out.storeE cv
  exact wdoorE_idle (c:=cv) HST.1.setErr ((isEntry_far (isEntry_far HV6.out HST.2 (by omega)) (RStep.self (b:=w.heap.size+1)) (by omega)).sub (shows_step fun k hk _=>⟨by omega,rfl⟩)) rfl rfl
end Go.Proofs.YtgcfhkceejcliaaGreatDoor
