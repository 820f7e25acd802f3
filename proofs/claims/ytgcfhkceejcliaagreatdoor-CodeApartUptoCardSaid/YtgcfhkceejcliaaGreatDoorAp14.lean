/-
  Contracts of the functions that the law reaches: With: the walk. With: the walk. With: the walk. With: of whatever fields. What Build builds of pieces, in plain Lean. What is read is as long as it is written, and weighs no more. No program in sight. conciliatorlaw06.plain.
-/
import Derived.Test.YtgcfhkceejcliaaGreatDoorAp10
import Derived.Test.YtgcfhkceejcliaaGreatDoorAp4
import Derived.Test.YtgcfhkceejcliaaGreatDoorAp13
import Derived.Test.YtgcfhkceejcliaaGreatDoorAp7
import Derived.Test.YtgcfhkceejcliaaGreatDoorAp12
import Derived.Test.YtgcfhkceejcliaaGreatDoorAp8
namespace Go.Proofs.YtgcfhkceejcliaaGreatDoor
open Go.RowKit
set_option maxHeartbeats 8000000 in
set_option maxRecDepth 100000 in
theorem with_ft (w:World) (B0:Nat) (hB0:B0≤w.heap.size) (o:List (ByteArray×V)) (b off ol oc:Nat) (ho:IsFields (only (fun k=>B0≤k) w) w.heap.size o (some ⟨b,off,none⟩) ol oc) (key:ByteArray) (hks:key.size≤140737488355328) (x:V) (cx:VC) (hx:IsVal (only (fun k=>B0≤k) w) w.heap.size x cx) (hpos:0<ol) (hfew:ol≤1000000) (his:fieldIs o key=false) (hke:fieldK o key=oc):
    Calls Tryz.prog 76 #[.slice (some ⟨b,off,none⟩) ol oc, .string key, .agg #[.int .u8 cx.k, .int .i64 cx.n, .string cx.s, .slice cx.la cx.ll cx.lc, .slice cx.oa cx.ol cx.oc]] w (WithPost w B0 (withF o key x)):=by
  obtain ⟨i0,hi0,hz0,hz1,hz2⟩:=info_parts ginfoFR
  have hlen:=ho.len
  have hcap:=ho.cap
  have hmax:=ho.max
  obtain ⟨cs,b2,off2,hcl,hab,hcell,hpf⟩:=ho.cells
  have HCELL:Hid (∀W,Below w.heap.size w W→∀j u,(cs.flatMap fcells)[j]? =some u→W.cell? ⟨b,off+j,none⟩=some u):=by
    intro W hW j u hj
    have hjl:=(List.getElem?_eq_some_iff.1 hj).1
    rw [flat_length fcells 6 (fun _=>rfl),hcl, ←hlen] at hjl
    obtain ⟨e,hb2⟩:=hab (by omega)
    injection e with e;injection e with e1 e2
    subst e1 e2
    exact keep_cell hW (only_cell (hcell j u hj)).2 hb2
  obtain ⟨k,hk⟩:∃k,fieldK o key=k:=⟨_,rfl⟩
  rw [hk] at hke
  have hkl:k≤ol:=by rw [←hk,hlen];exact fieldK_le o key
  have hkl2:=hkl
  have hkc:k≤cs.length:=by rw [hcl, ←hlen];exact hkl
  have hkc2:k≤cs.length:=by rw [hcl, ←hlen];omega
  have HF:Hid (∀W,Below w.heap.size w W→Calls Tryz.prog 101 #[.agg #[.int .u8 0, .int .i64 0, .string { data:= #[] }, .slice none 0 0, .slice (some ⟨b,off,none⟩) ol oc], .string key] W fun e w'=>e= .returned (.tuple #[.int .i64 (k:Int), .bool false])∧Below W.heap.size W w'):=by
    intro W hW
    have hof:IsFields W W.heap.size o (some ⟨b,off,none⟩) ol oc:=(IsFields.keep (IsFields.sub (shows_only (fun k=>B0≤k) w _) ho) hW).more hW.size
    have:=field_any W o key 0 0 { data:= #[] } none 0 0 (some ⟨b,off,none⟩) ol oc hof
    rw [hk,his] at this;exact this
  have hwf:withF o key x=o.take k++(key,x)::o.drop (k):=by rw [withF,his,hk];rfl
  rw [hwf]
  have HBX:=Lib.hid (BC.start w #[.int .u8 cx.k, .int .i64 cx.n, .string cx.s, .slice cx.la cx.ll cx.lc, .slice cx.oa cx.ol cx.oc] 33)
  have HAL:=Lib.hid ((Below.refl _ _).alloc (Nat.le_refl _) (.cells #[.int .u8 cx.k, .int .i64 cx.n, .string cx.s, .slice cx.la cx.ll cx.lc, .slice cx.oa cx.ol cx.oc] 33):Below w.heap.size w _)
  have HX:=Lib.hid hx
  have HPF:=Lib.hid hpf
  have HCL:=Lib.hid hcl
  have HLEN:=Lib.hid hlen
  obtain ⟨R,hR⟩:∃R,WithPost w B0 (o.take k++(key,x)::o.drop (k))=R:=⟨_,rfl⟩
  rw [hR]
  have HR:=Lib.hid hR
  obtain ⟨XA,hXA⟩:∃XA,(cs.take k).flatMap fcells=XA:=⟨_,rfl⟩
  obtain ⟨XB,hXB⟩:∃XB,(cs.drop (k)).flatMap fcells=XB:=⟨_,rfl⟩
  have hla:XA.length=k*6:=by rw [←hXA,flat_length fcells 6 (fun _=>rfl),List.length_take,Nat.min_eq_left hkc]
  have hlb:XB.length=(ol - (k))*6:=by rw [←hXB,flat_length fcells 6 (fun _=>rfl),List.length_drop,hcl, ←hlen]
  have HA1:Hid (∀u ∈ XA,u.oneCell'=true):=by unfold Hid;rw [←hXA];exact flat_one _
  have HB1:Hid (∀u ∈ XB,u.oneCell'=true):=by unfold Hid;rw [←hXB];exact flat_one _
  have HCA:Hid (∀W,Below w.heap.size w W→∀j u,XA[j]? =some u→W.cell? ((⟨b,off,none⟩:Addr).add j)=some u):=by
    intro W hW j u hj
    rw [←hXA] at hj
    rw [add_at];exact HCELL.out W hW j u (flat_take_get hj)
  have HCB:Hid (∀W,Below w.heap.size w W→∀j u,XB[j]? =some u→W.cell? ((⟨b,off+(k)*6,none⟩:Addr).add j)=some u):=by
    intro W hW j u hj
    rw [←hXB] at hj
    rw [add_at,Nat.add_assoc];exact HCELL.out W hW _ u (flat_drop_get hkc2 hj)
  have HXA:=Lib.hid hXA
  have HXB:=Lib.hid hXB
  clear ho hab hcell hk his hx hpf hcl hlen hwf hR hXA hXB hkc hkc2
  have hol:ol=k:=by omega
  have hoc:oc=k:=by omega
  cases hol;cases hoc
  go_enter Tryz.func76,Tryz.ntmps76
  go_wp2_with fail
  refine (HF.out _ HAL.out).mono ?_
  rintro e w1 ⟨rfl,hb1⟩
  have bl1:=HAL.out.trans (hb1.mono (by simp))
  have HBX1:=Lib.hid (HBX.out.keep hb1 (by simp))
  have zs1:w.heap.size<w1.heap.size:=HBX1.out.lt
  have HBL1:=Lib.hid bl1
  have ho1:w1.ownsRow (w.heap.size+1) 98 6 (.slice none 0 0) 0 [] :=⟨rfl, .inl ⟨rfl,rfl⟩⟩
  clear hb1 bl1
  go_wp2_with (first
    |(at_builtin;refine wpList_append_own _ rfl (.tmp 17) (.tmp 20) 31 (by rfl) (w.heap.size+1) 98 i0 _ 6 96 Tryz.underlying31 hi0 hz0 hz1 hz2 rfl (by omega) (.slice none 0 0) 0 [] (by rfl) ho1 ⟨b,off,none⟩ ol (ol) XA (by rfl) hla (HCA.out _ HBL1.out) HA1.out (by unfold maxLen;omega) (by omega) (by omega) ?_;intro v1 w2 hown1 hgrow1 _;have b12:Below (w.heap.size+1) w1 w2:=grown_below hgrow1 (fun ol hk=>by simp [Value.ownBlock] at hk) (by omega);have BX2:=HBX1.out.keep b12 (by omega);obtain ⟨x0,x1,x2,x3,x4⟩:=row5 BX2.at_;have zs2:=BX2.lt;have HBL2:=Lib.hid (HBL1.out.trans (b12.mono (by omega)));have HO1:=Lib.hid hown1;have hrl:∀g,v1.ownBlock=some g→w.heap.size+1≤g∧g<w2.heap.size:=hown1.lt;have ho2:=hown1.alloc (.cells #[.string key, .int .u8 cx.k, .int .i64 cx.n, .string cx.s, .slice cx.la cx.ll cx.lc, .slice cx.oa cx.ol cx.oc] 98);have hnw:∀j u,(fcells (key,cx))[j]? =some u→(w2.alloc (.cells #[.string key, .int .u8 cx.k, .int .i64 cx.n, .string cx.s, .slice cx.la cx.ll cx.lc, .slice cx.oa cx.ol cx.oc] 98)).cell? ((⟨w2.heap.size,0,none⟩:Addr).add j)=some u:=World.news_of_block (t:=98) (fr:=(0,0)) (heap_alloc_new w2 (.cells #[.string key, .int .u8 cx.k, .int .i64 cx.n, .string cx.s, .slice cx.la cx.ll cx.lc, .slice cx.oa cx.ol cx.oc] 98));have HNW:=Lib.hid hnw;clear hnw hown1 hgrow1 BX2 b12)
    |(at_builtin;refine wpList_append_own _ rfl (.tmp 22) (.tmp 26) 31 (by rfl) (w.heap.size+1) 98 i0 _ 6 96 Tryz.underlying31 hi0 hz0 hz1 hz2 rfl (by omega) v1 (0+ol) ([] ++XA) (by rfl) ho2 ⟨w2.heap.size,0,none⟩ 1 1 (fcells (key,cx)) (by rfl) (by rfl) HNW.out (fcells_one key cx) (by unfold maxLen;omega) (by omega) (by simp;omega) ?_;intro v2 w4 hown2 hgrow2 _;have b24:Below (w.heap.size+1) w2 w4:=(((Below.refl w2.heap.size w2).alloc (Nat.le_refl _) (.cells #[.string key, .int .u8 cx.k, .int .i64 cx.n, .string cx.s, .slice cx.la cx.ll cx.lc, .slice cx.oa cx.ol cx.oc] 98)).mono (by omega)).trans (grown_below hgrow2 (fun ol hk=>(hrl ol hk).1) (by simp;omega));have HBL4:=Lib.hid (HBL2.out.trans (b24.mono (by omega)));have zs4:w.heap.size<w4.heap.size:=Nat.lt_of_lt_of_le zs2 b24.size;have hrl2:∀g,v2.ownBlock=some g→w.heap.size+1≤g∧g<w4.heap.size:=hown2.lt;have HO2:=Lib.hid hown2;clear hgrow2 b24 hown2)
    |(at_builtin;refine wpList_append_own _ rfl (.tmp 31) (.tmp 34) 31 (by rfl) (w.heap.size+1) 98 i0 _ 6 96 Tryz.underlying31 hi0 hz0 hz1 hz2 rfl (by omega) v2 (0+ol+1) ([] ++XA++fcells (key,cx)) (by rfl) HO2.out ⟨b,off,none⟩ 0 0 XB (by rfl) (by omega) (fun j u hj=>by rw [List.getElem?_eq_none (by omega)] at hj;cases hj) HB1.out (by unfold maxLen;omega) (by omega) (by omega) ?_;intro v3 w5 hown3 hgrow3 _;have b45:Below (w.heap.size+1) w4 w5:=grown_below hgrow3 (fun ol hk=>(hrl2 ol hk).1) (by omega);have HBL5:=Lib.hid (HBL4.out.trans (b45.mono (by omega)));have HO3:=Lib.hid hown3;clear hgrow3 b45 hown3))
  rw [←HR.out]
  have hcat: [] ++XA++fcells (key,cx)++XB=(cs.take ol++(key,cx)::cs.drop (ol)).flatMap fcells:=by rw [←HXA.out, ←HXB.out];simp
  have hll:(o.take ol++(key,x)::o.drop (ol)).length=0+ol+1+0:=by
    rw [List.length_append,List.length_cons,List.length_drop,List.length_take, ←HLEN.out,Nat.min_eq_left hkl];omega
  have hown:=HO3.out
  rw [hcat, ←hll] at hown
  have hlt3:=hown.lt
  have hsh:Shows (only (fun ol=>B0≤ol) w) (only (Free B0 v3) w5) w.heap.size:=shows_step fun q hq hl=>⟨⟨hq,fun e=>by have:=(hlt3 q e.symm).1;omega⟩,HBL5.out.block q hl⟩
  obtain ⟨a,n,c,hv,hf,hz⟩:=isFields_of_own (B0:=B0) (B1:=w.heap.size+1) hown (by omega) (by rw [List.length_append,List.length_append,List.length_cons,List.length_cons,List.length_drop,List.length_drop,List.length_take,List.length_take,HCL.out])
    (PF.with_ HCL.out (fun i hi=>PF.closed o cs _ _ _ _ i hsh HBL5.out.size (HPF.out i hi)) ((HX.out.sub hsh).more HBL5.out.size) hks (by rw [←HLEN.out];exact hkl) (by rw [←HLEN.out];omega)) (by rw [hll];omega)
  exact ⟨⟨a,n,c,by rw [hv],hf,hz⟩,HBL5.out⟩
end Go.Proofs.YtgcfhkceejcliaaGreatDoor
namespace Go.Proofs.YtgcfhkceejcliaaGreatDoor
open Go.RowKit
set_option maxHeartbeats 8000000 in
set_option maxRecDepth 100000 in
theorem with_tf (w:World) (B0:Nat) (hB0:B0≤w.heap.size) (o:List (ByteArray×V)) (b off ol oc:Nat) (ho:IsFields (only (fun k=>B0≤k) w) w.heap.size o (some ⟨b,off,none⟩) ol oc) (key:ByteArray) (hks:key.size≤140737488355328) (x:V) (cx:VC) (hx:IsVal (only (fun k=>B0≤k) w) w.heap.size x cx) (hpos:0<ol) (hfew:ol≤1000000) (his:fieldIs o key=true) (hke:fieldK o key+1<oc):
    Calls Tryz.prog 76 #[.slice (some ⟨b,off,none⟩) ol oc, .string key, .agg #[.int .u8 cx.k, .int .i64 cx.n, .string cx.s, .slice cx.la cx.ll cx.lc, .slice cx.oa cx.ol cx.oc]] w (WithPost w B0 (withF o key x)):=by
  obtain ⟨i0,hi0,hz0,hz1,hz2⟩:=info_parts ginfoFR
  have hlen:=ho.len
  have hcap:=ho.cap
  have hmax:=ho.max
  obtain ⟨cs,b2,off2,hcl,hab,hcell,hpf⟩:=ho.cells
  have HCELL:Hid (∀W,Below w.heap.size w W→∀j u,(cs.flatMap fcells)[j]? =some u→W.cell? ⟨b,off+j,none⟩=some u):=by
    intro W hW j u hj
    have hjl:=(List.getElem?_eq_some_iff.1 hj).1
    rw [flat_length fcells 6 (fun _=>rfl),hcl, ←hlen] at hjl
    obtain ⟨e,hb2⟩:=hab (by omega)
    injection e with e;injection e with e1 e2
    subst e1 e2
    exact keep_cell hW (only_cell (hcell j u hj)).2 hb2
  obtain ⟨k,hk⟩:∃k,fieldK o key=k:=⟨_,rfl⟩
  rw [hk] at hke
  have hkl:k≤ol:=by rw [←hk,hlen];exact fieldK_le o key
  have hkl2:k<ol:=by rw [←hk,hlen];exact fieldIs_lt his
  have hkc:k≤cs.length:=by rw [hcl, ←hlen];exact hkl
  have hkc2:k+1≤cs.length:=by rw [hcl, ←hlen];omega
  have HF:Hid (∀W,Below w.heap.size w W→Calls Tryz.prog 101 #[.agg #[.int .u8 0, .int .i64 0, .string { data:= #[] }, .slice none 0 0, .slice (some ⟨b,off,none⟩) ol oc], .string key] W fun e w'=>e= .returned (.tuple #[.int .i64 (k:Int), .bool true])∧Below W.heap.size W w'):=by
    intro W hW
    have hof:IsFields W W.heap.size o (some ⟨b,off,none⟩) ol oc:=(IsFields.keep (IsFields.sub (shows_only (fun k=>B0≤k) w _) ho) hW).more hW.size
    have:=field_any W o key 0 0 { data:= #[] } none 0 0 (some ⟨b,off,none⟩) ol oc hof
    rw [hk,his] at this;exact this
  have hwf:withF o key x=o.take k++(key,x)::o.drop (k+1):=by rw [withF,his,hk];rfl
  rw [hwf]
  have HBX:=Lib.hid (BC.start w #[.int .u8 cx.k, .int .i64 cx.n, .string cx.s, .slice cx.la cx.ll cx.lc, .slice cx.oa cx.ol cx.oc] 33)
  have HAL:=Lib.hid ((Below.refl _ _).alloc (Nat.le_refl _) (.cells #[.int .u8 cx.k, .int .i64 cx.n, .string cx.s, .slice cx.la cx.ll cx.lc, .slice cx.oa cx.ol cx.oc] 33):Below w.heap.size w _)
  have HX:=Lib.hid hx
  have HPF:=Lib.hid hpf
  have HCL:=Lib.hid hcl
  have HLEN:=Lib.hid hlen
  obtain ⟨R,hR⟩:∃R,WithPost w B0 (o.take k++(key,x)::o.drop (k+1))=R:=⟨_,rfl⟩
  rw [hR]
  have HR:=Lib.hid hR
  obtain ⟨XA,hXA⟩:∃XA,(cs.take k).flatMap fcells=XA:=⟨_,rfl⟩
  obtain ⟨XB,hXB⟩:∃XB,(cs.drop (k+1)).flatMap fcells=XB:=⟨_,rfl⟩
  have hla:XA.length=k*6:=by rw [←hXA,flat_length fcells 6 (fun _=>rfl),List.length_take,Nat.min_eq_left hkc]
  have hlb:XB.length=(ol - (k+1))*6:=by rw [←hXB,flat_length fcells 6 (fun _=>rfl),List.length_drop,hcl, ←hlen]
  have HA1:Hid (∀u ∈ XA,u.oneCell'=true):=by unfold Hid;rw [←hXA];exact flat_one _
  have HB1:Hid (∀u ∈ XB,u.oneCell'=true):=by unfold Hid;rw [←hXB];exact flat_one _
  have HCA:Hid (∀W,Below w.heap.size w W→∀j u,XA[j]? =some u→W.cell? ((⟨b,off,none⟩:Addr).add j)=some u):=by
    intro W hW j u hj
    rw [←hXA] at hj
    rw [add_at];exact HCELL.out W hW j u (flat_take_get hj)
  have HCB:Hid (∀W,Below w.heap.size w W→∀j u,XB[j]? =some u→W.cell? ((⟨b,off+(k+1)*6,none⟩:Addr).add j)=some u):=by
    intro W hW j u hj
    rw [←hXB] at hj
    rw [add_at,Nat.add_assoc];exact HCELL.out W hW _ u (flat_drop_get hkc2 hj)
  have HXA:=Lib.hid hXA
  have HXB:=Lib.hid hXB
  clear ho hab hcell hk his hx hpf hcl hlen hwf hR hXA hXB hkc hkc2
  go_enter Tryz.func76,Tryz.ntmps76
  go_wp2_with fail
  refine (HF.out _ HAL.out).mono ?_
  rintro e w1 ⟨rfl,hb1⟩
  have bl1:=HAL.out.trans (hb1.mono (by simp))
  have HBX1:=Lib.hid (HBX.out.keep hb1 (by simp))
  have zs1:w.heap.size<w1.heap.size:=HBX1.out.lt
  have HBL1:=Lib.hid bl1
  have ho1:w1.ownsRow (w.heap.size+1) 98 6 (.slice none 0 0) 0 [] :=⟨rfl, .inl ⟨rfl,rfl⟩⟩
  clear hb1 bl1
  go_wp2_with (first
    |(at_builtin;refine wpList_append_own _ rfl (.tmp 17) (.tmp 20) 31 (by rfl) (w.heap.size+1) 98 i0 _ 6 96 Tryz.underlying31 hi0 hz0 hz1 hz2 rfl (by omega) (.slice none 0 0) 0 [] (by rfl) ho1 ⟨b,off,none⟩ k oc XA (by rfl) hla (HCA.out _ HBL1.out) HA1.out (by unfold maxLen;omega) (by omega) (by omega) ?_;intro v1 w2 hown1 hgrow1 _;have b12:Below (w.heap.size+1) w1 w2:=grown_below hgrow1 (fun k hk=>by simp [Value.ownBlock] at hk) (by omega);have BX2:=HBX1.out.keep b12 (by omega);obtain ⟨x0,x1,x2,x3,x4⟩:=row5 BX2.at_;have zs2:=BX2.lt;have HBL2:=Lib.hid (HBL1.out.trans (b12.mono (by omega)));have HO1:=Lib.hid hown1;have hrl:∀g,v1.ownBlock=some g→w.heap.size+1≤g∧g<w2.heap.size:=hown1.lt;have ho2:=hown1.alloc (.cells #[.string key, .int .u8 cx.k, .int .i64 cx.n, .string cx.s, .slice cx.la cx.ll cx.lc, .slice cx.oa cx.ol cx.oc] 98);have hnw:∀j u,(fcells (key,cx))[j]? =some u→(w2.alloc (.cells #[.string key, .int .u8 cx.k, .int .i64 cx.n, .string cx.s, .slice cx.la cx.ll cx.lc, .slice cx.oa cx.ol cx.oc] 98)).cell? ((⟨w2.heap.size,0,none⟩:Addr).add j)=some u:=World.news_of_block (t:=98) (fr:=(0,0)) (heap_alloc_new w2 (.cells #[.string key, .int .u8 cx.k, .int .i64 cx.n, .string cx.s, .slice cx.la cx.ll cx.lc, .slice cx.oa cx.ol cx.oc] 98));have HNW:=Lib.hid hnw;clear hnw hown1 hgrow1 BX2 b12)
    |(at_builtin;refine wpList_append_own _ rfl (.tmp 22) (.tmp 26) 31 (by rfl) (w.heap.size+1) 98 i0 _ 6 96 Tryz.underlying31 hi0 hz0 hz1 hz2 rfl (by omega) v1 (0+k) ([] ++XA) (by rfl) ho2 ⟨w2.heap.size,0,none⟩ 1 1 (fcells (key,cx)) (by rfl) (by rfl) HNW.out (fcells_one key cx) (by unfold maxLen;omega) (by omega) (by simp;omega) ?_;intro v2 w4 hown2 hgrow2 _;have b24:Below (w.heap.size+1) w2 w4:=(((Below.refl w2.heap.size w2).alloc (Nat.le_refl _) (.cells #[.string key, .int .u8 cx.k, .int .i64 cx.n, .string cx.s, .slice cx.la cx.ll cx.lc, .slice cx.oa cx.ol cx.oc] 98)).mono (by omega)).trans (grown_below hgrow2 (fun k hk=>(hrl k hk).1) (by simp;omega));have HBL4:=Lib.hid (HBL2.out.trans (b24.mono (by omega)));have zs4:w.heap.size<w4.heap.size:=Nat.lt_of_lt_of_le zs2 b24.size;have hrl2:∀g,v2.ownBlock=some g→w.heap.size+1≤g∧g<w4.heap.size:=hown2.lt;have HO2:=Lib.hid hown2;clear hgrow2 b24 hown2)
    |(at_builtin;refine wpList_append_own _ rfl (.tmp 31) (.tmp 34) 31 (by rfl) (w.heap.size+1) 98 i0 _ 6 96 Tryz.underlying31 hi0 hz0 hz1 hz2 rfl (by omega) v2 (0+k+1) ([] ++XA++fcells (key,cx)) (by rfl) HO2.out ⟨b,off+(k+1)*6,none⟩ (ol - (k+1)) (oc - (k+1)) XB (by rfl) (by omega) (HCB.out _ HBL4.out) HB1.out (by unfold maxLen;omega) (by omega) (by omega) ?_;intro v3 w5 hown3 hgrow3 _;have b45:Below (w.heap.size+1) w4 w5:=grown_below hgrow3 (fun k hk=>(hrl2 k hk).1) (by omega);have HBL5:=Lib.hid (HBL4.out.trans (b45.mono (by omega)));have HO3:=Lib.hid hown3;clear hgrow3 b45 hown3))
  rw [←HR.out]
  have hcat: [] ++XA++fcells (key,cx)++XB=(cs.take k++(key,cx)::cs.drop (k+1)).flatMap fcells:=by rw [←HXA.out, ←HXB.out];simp
  have hll:(o.take k++(key,x)::o.drop (k+1)).length=0+k+1+(ol - (k+1)):=by
    rw [List.length_append,List.length_cons,List.length_drop,List.length_take, ←HLEN.out,Nat.min_eq_left hkl];omega
  have hown:=HO3.out
  rw [hcat, ←hll] at hown
  have hlt3:=hown.lt
  have hsh:Shows (only (fun k=>B0≤k) w) (only (Free B0 v3) w5) w.heap.size:=shows_step fun q hq hl=>⟨⟨hq,fun e=>by have:=(hlt3 q e.symm).1;omega⟩,HBL5.out.block q hl⟩
  obtain ⟨a,n,c,hv,hf,hz⟩:=isFields_of_own (B0:=B0) (B1:=w.heap.size+1) hown (by omega) (by rw [List.length_append,List.length_append,List.length_cons,List.length_cons,List.length_drop,List.length_drop,List.length_take,List.length_take,HCL.out])
    (PF.with_ HCL.out (fun i hi=>PF.closed o cs _ _ _ _ i hsh HBL5.out.size (HPF.out i hi)) ((HX.out.sub hsh).more HBL5.out.size) hks (by rw [←HLEN.out];exact hkl) (by rw [←HLEN.out];omega)) (by rw [hll];omega)
  exact ⟨⟨a,n,c,by rw [hv],hf,hz⟩,HBL5.out⟩
end Go.Proofs.YtgcfhkceejcliaaGreatDoor
namespace Go.Proofs.YtgcfhkceejcliaaGreatDoor
open Go.RowKit
set_option maxHeartbeats 8000000 in
set_option maxRecDepth 100000 in
theorem with_tt (w:World) (B0:Nat) (hB0:B0≤w.heap.size) (o:List (ByteArray×V)) (b off ol oc:Nat) (ho:IsFields (only (fun k=>B0≤k) w) w.heap.size o (some ⟨b,off,none⟩) ol oc) (key:ByteArray) (hks:key.size≤140737488355328) (x:V) (cx:VC) (hx:IsVal (only (fun k=>B0≤k) w) w.heap.size x cx) (hpos:0<ol) (hfew:ol≤1000000) (his:fieldIs o key=true) (hke:fieldK o key+1=oc):
    Calls Tryz.prog 76 #[.slice (some ⟨b,off,none⟩) ol oc, .string key, .agg #[.int .u8 cx.k, .int .i64 cx.n, .string cx.s, .slice cx.la cx.ll cx.lc, .slice cx.oa cx.ol cx.oc]] w (WithPost w B0 (withF o key x)):=by
  obtain ⟨i0,hi0,hz0,hz1,hz2⟩:=info_parts ginfoFR
  have hlen:=ho.len
  have hcap:=ho.cap
  have hmax:=ho.max
  obtain ⟨cs,b2,off2,hcl,hab,hcell,hpf⟩:=ho.cells
  have HCELL:Hid (∀W,Below w.heap.size w W→∀j u,(cs.flatMap fcells)[j]? =some u→W.cell? ⟨b,off+j,none⟩=some u):=by
    intro W hW j u hj
    have hjl:=(List.getElem?_eq_some_iff.1 hj).1
    rw [flat_length fcells 6 (fun _=>rfl),hcl, ←hlen] at hjl
    obtain ⟨e,hb2⟩:=hab (by omega)
    injection e with e;injection e with e1 e2
    subst e1 e2
    exact keep_cell hW (only_cell (hcell j u hj)).2 hb2
  obtain ⟨k,hk⟩:∃k,fieldK o key=k:=⟨_,rfl⟩
  rw [hk] at hke
  have hkl:k≤ol:=by rw [←hk,hlen];exact fieldK_le o key
  have hkl2:k<ol:=by rw [←hk,hlen];exact fieldIs_lt his
  have hkc:k≤cs.length:=by rw [hcl, ←hlen];exact hkl
  have hkc2:k+1≤cs.length:=by rw [hcl, ←hlen];omega
  have HF:Hid (∀W,Below w.heap.size w W→Calls Tryz.prog 101 #[.agg #[.int .u8 0, .int .i64 0, .string { data:= #[] }, .slice none 0 0, .slice (some ⟨b,off,none⟩) ol oc], .string key] W fun e w'=>e= .returned (.tuple #[.int .i64 (k:Int), .bool true])∧Below W.heap.size W w'):=by
    intro W hW
    have hof:IsFields W W.heap.size o (some ⟨b,off,none⟩) ol oc:=(IsFields.keep (IsFields.sub (shows_only (fun k=>B0≤k) w _) ho) hW).more hW.size
    have:=field_any W o key 0 0 { data:= #[] } none 0 0 (some ⟨b,off,none⟩) ol oc hof
    rw [hk,his] at this;exact this
  have hwf:withF o key x=o.take k++(key,x)::o.drop (k+1):=by rw [withF,his,hk];rfl
  rw [hwf]
  have HBX:=Lib.hid (BC.start w #[.int .u8 cx.k, .int .i64 cx.n, .string cx.s, .slice cx.la cx.ll cx.lc, .slice cx.oa cx.ol cx.oc] 33)
  have HAL:=Lib.hid ((Below.refl _ _).alloc (Nat.le_refl _) (.cells #[.int .u8 cx.k, .int .i64 cx.n, .string cx.s, .slice cx.la cx.ll cx.lc, .slice cx.oa cx.ol cx.oc] 33):Below w.heap.size w _)
  have HX:=Lib.hid hx
  have HPF:=Lib.hid hpf
  have HCL:=Lib.hid hcl
  have HLEN:=Lib.hid hlen
  obtain ⟨R,hR⟩:∃R,WithPost w B0 (o.take k++(key,x)::o.drop (k+1))=R:=⟨_,rfl⟩
  rw [hR]
  have HR:=Lib.hid hR
  obtain ⟨XA,hXA⟩:∃XA,(cs.take k).flatMap fcells=XA:=⟨_,rfl⟩
  obtain ⟨XB,hXB⟩:∃XB,(cs.drop (k+1)).flatMap fcells=XB:=⟨_,rfl⟩
  have hla:XA.length=k*6:=by rw [←hXA,flat_length fcells 6 (fun _=>rfl),List.length_take,Nat.min_eq_left hkc]
  have hlb:XB.length=(ol - (k+1))*6:=by rw [←hXB,flat_length fcells 6 (fun _=>rfl),List.length_drop,hcl, ←hlen]
  have HA1:Hid (∀u ∈ XA,u.oneCell'=true):=by unfold Hid;rw [←hXA];exact flat_one _
  have HB1:Hid (∀u ∈ XB,u.oneCell'=true):=by unfold Hid;rw [←hXB];exact flat_one _
  have HCA:Hid (∀W,Below w.heap.size w W→∀j u,XA[j]? =some u→W.cell? ((⟨b,off,none⟩:Addr).add j)=some u):=by
    intro W hW j u hj
    rw [←hXA] at hj
    rw [add_at];exact HCELL.out W hW j u (flat_take_get hj)
  have HCB:Hid (∀W,Below w.heap.size w W→∀j u,XB[j]? =some u→W.cell? ((⟨b,off+(k+1)*6,none⟩:Addr).add j)=some u):=by
    intro W hW j u hj
    rw [←hXB] at hj
    rw [add_at,Nat.add_assoc];exact HCELL.out W hW _ u (flat_drop_get hkc2 hj)
  have HXA:=Lib.hid hXA
  have HXB:=Lib.hid hXB
  clear ho hab hcell hk his hx hpf hcl hlen hwf hR hXA hXB hkc hkc2
  have hol:ol=k+1:=by omega
  have hoc:oc=k+1:=by omega
  cases hol;cases hoc
  go_enter Tryz.func76,Tryz.ntmps76
  go_wp2_with fail
  refine (HF.out _ HAL.out).mono ?_
  rintro e w1 ⟨rfl,hb1⟩
  have bl1:=HAL.out.trans (hb1.mono (by simp))
  have HBX1:=Lib.hid (HBX.out.keep hb1 (by simp))
  have zs1:w.heap.size<w1.heap.size:=HBX1.out.lt
  have HBL1:=Lib.hid bl1
  have ho1:w1.ownsRow (w.heap.size+1) 98 6 (.slice none 0 0) 0 [] :=⟨rfl, .inl ⟨rfl,rfl⟩⟩
  clear hb1 bl1
  go_wp2_with (first
    |(at_builtin;refine wpList_append_own _ rfl (.tmp 17) (.tmp 20) 31 (by rfl) (w.heap.size+1) 98 i0 _ 6 96 Tryz.underlying31 hi0 hz0 hz1 hz2 rfl (by omega) (.slice none 0 0) 0 [] (by rfl) ho1 ⟨b,off,none⟩ k (k+1) XA (by rfl) hla (HCA.out _ HBL1.out) HA1.out (by unfold maxLen;omega) (by omega) (by omega) ?_;intro v1 w2 hown1 hgrow1 _;have b12:Below (w.heap.size+1) w1 w2:=grown_below hgrow1 (fun k hk=>by simp [Value.ownBlock] at hk) (by omega);have BX2:=HBX1.out.keep b12 (by omega);obtain ⟨x0,x1,x2,x3,x4⟩:=row5 BX2.at_;have zs2:=BX2.lt;have HBL2:=Lib.hid (HBL1.out.trans (b12.mono (by omega)));have HO1:=Lib.hid hown1;have hrl:∀g,v1.ownBlock=some g→w.heap.size+1≤g∧g<w2.heap.size:=hown1.lt;have ho2:=hown1.alloc (.cells #[.string key, .int .u8 cx.k, .int .i64 cx.n, .string cx.s, .slice cx.la cx.ll cx.lc, .slice cx.oa cx.ol cx.oc] 98);have hnw:∀j u,(fcells (key,cx))[j]? =some u→(w2.alloc (.cells #[.string key, .int .u8 cx.k, .int .i64 cx.n, .string cx.s, .slice cx.la cx.ll cx.lc, .slice cx.oa cx.ol cx.oc] 98)).cell? ((⟨w2.heap.size,0,none⟩:Addr).add j)=some u:=World.news_of_block (t:=98) (fr:=(0,0)) (heap_alloc_new w2 (.cells #[.string key, .int .u8 cx.k, .int .i64 cx.n, .string cx.s, .slice cx.la cx.ll cx.lc, .slice cx.oa cx.ol cx.oc] 98));have HNW:=Lib.hid hnw;clear hnw hown1 hgrow1 BX2 b12)
    |(at_builtin;refine wpList_append_own _ rfl (.tmp 22) (.tmp 26) 31 (by rfl) (w.heap.size+1) 98 i0 _ 6 96 Tryz.underlying31 hi0 hz0 hz1 hz2 rfl (by omega) v1 (0+k) ([] ++XA) (by rfl) ho2 ⟨w2.heap.size,0,none⟩ 1 1 (fcells (key,cx)) (by rfl) (by rfl) HNW.out (fcells_one key cx) (by unfold maxLen;omega) (by omega) (by simp;omega) ?_;intro v2 w4 hown2 hgrow2 _;have b24:Below (w.heap.size+1) w2 w4:=(((Below.refl w2.heap.size w2).alloc (Nat.le_refl _) (.cells #[.string key, .int .u8 cx.k, .int .i64 cx.n, .string cx.s, .slice cx.la cx.ll cx.lc, .slice cx.oa cx.ol cx.oc] 98)).mono (by omega)).trans (grown_below hgrow2 (fun k hk=>(hrl k hk).1) (by simp;omega));have HBL4:=Lib.hid (HBL2.out.trans (b24.mono (by omega)));have zs4:w.heap.size<w4.heap.size:=Nat.lt_of_lt_of_le zs2 b24.size;have hrl2:∀g,v2.ownBlock=some g→w.heap.size+1≤g∧g<w4.heap.size:=hown2.lt;have HO2:=Lib.hid hown2;clear hgrow2 b24 hown2)
    |(at_builtin;refine wpList_append_own _ rfl (.tmp 31) (.tmp 34) 31 (by rfl) (w.heap.size+1) 98 i0 _ 6 96 Tryz.underlying31 hi0 hz0 hz1 hz2 rfl (by omega) v2 (0+k+1) ([] ++XA++fcells (key,cx)) (by rfl) HO2.out ⟨b,off,none⟩ 0 0 XB (by rfl) (by omega) (fun j u hj=>by rw [List.getElem?_eq_none (by omega)] at hj;cases hj) HB1.out (by unfold maxLen;omega) (by omega) (by omega) ?_;intro v3 w5 hown3 hgrow3 _;have b45:Below (w.heap.size+1) w4 w5:=grown_below hgrow3 (fun k hk=>(hrl2 k hk).1) (by omega);have HBL5:=Lib.hid (HBL4.out.trans (b45.mono (by omega)));have HO3:=Lib.hid hown3;clear hgrow3 b45 hown3))
  rw [←HR.out]
  have hcat: [] ++XA++fcells (key,cx)++XB=(cs.take k++(key,cx)::cs.drop (k+1)).flatMap fcells:=by rw [←HXA.out, ←HXB.out];simp
  have hll:(o.take k++(key,x)::o.drop (k+1)).length=0+k+1+0:=by
    rw [List.length_append,List.length_cons,List.length_drop,List.length_take, ←HLEN.out,Nat.min_eq_left hkl];omega
  have hown:=HO3.out
  rw [hcat, ←hll] at hown
  have hlt3:=hown.lt
  have hsh:Shows (only (fun k=>B0≤k) w) (only (Free B0 v3) w5) w.heap.size:=shows_step fun q hq hl=>⟨⟨hq,fun e=>by have:=(hlt3 q e.symm).1;omega⟩,HBL5.out.block q hl⟩
  obtain ⟨a,n,c,hv,hf,hz⟩:=isFields_of_own (B0:=B0) (B1:=w.heap.size+1) hown (by omega) (by rw [List.length_append,List.length_append,List.length_cons,List.length_cons,List.length_drop,List.length_drop,List.length_take,List.length_take,HCL.out])
    (PF.with_ HCL.out (fun i hi=>PF.closed o cs _ _ _ _ i hsh HBL5.out.size (HPF.out i hi)) ((HX.out.sub hsh).more HBL5.out.size) hks (by rw [←HLEN.out];exact hkl) (by rw [←HLEN.out];omega)) (by rw [hll];omega)
  exact ⟨⟨a,n,c,by rw [hv],hf,hz⟩,HBL5.out⟩
end Go.Proofs.YtgcfhkceejcliaaGreatDoor
namespace Go.Proofs.YtgcfhkceejcliaaGreatDoor
open Go.RowKit
def Neat (oa:Option Addr) (ol oc:Nat):Prop:=(oa=none∧ol=0∧oc=0)∨0<ol
theorem withF_length (o:List (ByteArray×V)) (key:ByteArray) (x:V):0<(withF o key x).length∧(withF o key x).length≤o.length+1:=by
  have:=fieldK_le o key
  unfold withF
  rw [List.length_append,List.length_cons,List.length_drop,List.length_take,Nat.min_eq_left this]
  refine ⟨by omega, ?_⟩
  split
  · rename_i h;have:=fieldIs_lt h;omega
  · omega
def WithPost2 (w:World) (B0:Nat) (l:List (ByteArray×V)) (e:Ending) (w':World):Prop:=
  (∃a n c,e= .returned (.slice a n c)∧IsFields (only (fun b=>B0≤b) w') w'.heap.size l a n c∧Neat a n c)∧Below w.heap.size w w'
set_option maxHeartbeats 2000000 in
set_option maxRecDepth 100000 in
theorem with_any (w:World) (B0:Nat) (hB0:B0≤w.heap.size) (o:List (ByteArray×V)) (oa:Option Addr) (ol oc:Nat) (ho:IsFields (only (fun k=>B0≤k) w) w.heap.size o oa ol oc) (hne:Neat oa ol oc) (key:ByteArray) (hks:key.size≤140737488355328) (x:V) (xk xn:Int) (xs:ByteArray) (xa:Option Addr) (xl xc:Nat) (ya:Option Addr) (yl yc:Nat) (hx:IsVal (only (fun k=>B0≤k) w) w.heap.size x ⟨xk,xn,xs,xa,xl,xc,ya,yl,yc⟩) (hfew:ol≤1000000):
    Calls Tryz.prog 76 #[.slice oa ol oc, .string key, .agg #[.int .u8 xk, .int .i64 xn, .string xs, .slice xa xl xc, .slice ya yl yc]] w (WithPost2 w B0 (withF o key x)):=by
  have go:Calls Tryz.prog 76 #[.slice oa ol oc, .string key, .agg #[.int .u8 xk, .int .i64 xn, .string xs, .slice xa xl xc, .slice ya yl yc]] w (WithPost w B0 (withF o key x)):=by
    rcases hne with ⟨rfl,rfl,rfl⟩|hp
    · have:o= [] :=List.eq_nil_of_length_eq_zero ho.len.symm
      subst this
      exact with_none w B0 hB0 key hks x ⟨xk,xn,xs,xa,xl,xc,ya,yl,yc⟩ hx
    · obtain ⟨cs,b,off,_,hab,_,_⟩:=ho.cells
      obtain ⟨rfl,hb⟩:=hab hp
      have hlen:=ho.len
      have hcap:=ho.cap
      have hkl:=fieldK_le o key
      cases his:fieldIs o key with
      | false=>
        by_cases hk:fieldK o key=oc
        · exact with_ft w B0 hB0 o b off ol oc ho key hks x ⟨xk,xn,xs,xa,xl,xc,ya,yl,yc⟩ hx hp hfew his hk
        · exact with_ff w B0 hB0 o b off ol oc ho key hks x ⟨xk,xn,xs,xa,xl,xc,ya,yl,yc⟩ hx hp hfew his (by omega)
      | true=>
        have hlt:=fieldIs_lt his
        by_cases hk:fieldK o key+1=oc
        · exact with_tt w B0 hB0 o b off ol oc ho key hks x ⟨xk,xn,xs,xa,xl,xc,ya,yl,yc⟩ hx hp hfew his hk
        · exact with_tf w B0 hB0 o b off ol oc ho key hks x ⟨xk,xn,xs,xa,xl,xc,ya,yl,yc⟩ hx hp hfew his (by omega)
  refine go.mono ?_
  rintro e w' ⟨⟨a,n,c,rfl,h1,h2⟩,h3⟩
  exact ⟨⟨a,n,c,rfl,h1, .inr (by rw [h1.len];exact (withF_length o key x).1)⟩,h3⟩
end Go.Proofs.YtgcfhkceejcliaaGreatDoor
namespace Go.Proofs.YtgcfhkceejcliaaGreatDoor
open Go.RowKit
def keyP (l:List Tk) (u:Nat):ByteArray:=match l[u]? with
  |some t=>plainS t.s
  |none=> .empty
def bL (f:List Tk→V×Nat) (l:List Tk):Nat→List V×Nat
  |0=>([],1)
  |i+1=>((bL f l i).1++ [(f (l.drop (bL f l i).2)).1],(bL f l i).2+(f (l.drop (bL f l i).2)).2)
def bO (f:List Tk→V×Nat) (l:List Tk):Nat→List (ByteArray×V)×Nat
  |0=>([],1)
  |i+1=>(withF (bO f l i).1 (keyP l (bO f l i).2) (f (l.drop (bO f l i).2)).1,(bO f l i).2+(f (l.drop (bO f l i).2)).2)
def leafP (t:Tk):V:=if t.k % 6=1 then .mk 1 (t.n % 2) .empty [] [] else if t.k % 6=2 then .mk 2 t.n .empty [] [] else if t.k % 6=3 then .mk 3 0 (plainS t.s) [] []
  else if t.k % 6=4 then .mk 4 0 .empty [] [] else if t.k % 6=5 then .mk 5 0 .empty [] [] else V.none
def oneP:Nat→List Tk→V×Nat
  |_, [] =>(V.none,0)
  |0,t::_=>(leafP t,1)
  | d+1,t::r=>if t.k % 6=4 then (.mk 4 0 .empty (bL (oneP d) (t::r) (t.m % 4).toNat).1 [],(bL (oneP d) (t::r) (t.m % 4).toNat).2)
    else if t.k % 6=5 then (.mk 5 0 .empty [] (bO (oneP d) (t::r) (t.m % 4).toNat).1,(bO (oneP d) (t::r) (t.m % 4).toNat).2)
    else (leafP t,1)
theorem bL_used {f:List Tk→V×Nat} (hf:∀l,(f l).2≤l.length) {l:List Tk} (hl:1≤l.length) (j:Nat):1≤(bL f l j).2∧(bL f l j).2≤l.length∧(bL f l j).1.length=j:=by
  induction j with
  |zero=>exact ⟨Nat.le_refl _,hl,rfl⟩
  | succ j ih=>
    have:=hf (l.drop (bL f l j).2)
    rw [List.length_drop] at this
    rw [bL]
    refine ⟨by dsimp only;omega,by dsimp only;omega,by dsimp only;rw [List.length_append,List.length_singleton];omega⟩
theorem bO_used {f:List Tk→V×Nat} (hf:∀l,(f l).2≤l.length) {l:List Tk} (hl:1≤l.length) (j:Nat):1≤(bO f l j).2∧(bO f l j).2≤l.length∧(bO f l j).1.length≤j:=by
  induction j with
  |zero=>exact ⟨Nat.le_refl _,hl,Nat.le_refl _⟩
  | succ j ih=>
    have:=hf (l.drop (bO f l j).2)
    rw [List.length_drop] at this
    rw [bO]
    refine ⟨by dsimp only;omega,by dsimp only;omega, ?_⟩
    have:=(withF_length (bO f l j).1 (keyP l (bO f l j).2) (f (l.drop (bO f l j).2)).1).2
    dsimp only;omega
theorem oneP_used (d:Nat):∀l,(oneP d l).2≤l.length:=by
  induction d with
  | zero=>
    intro l
    cases l with
    |nil=>simp [oneP]
    |cons t r=>simp [oneP]
  | succ d ih=>
    intro l
    cases l with
    |nil=>simp [oneP]
    | cons t r=>
      rw [oneP]
      split
      · exact (bL_used ih (by simp) _).2.1
      · split
        · exact (bO_used ih (by simp) _).2.1
        · simp
theorem plainS_size (s:ByteArray):(plainS s).size≤40:=by
  show (plainL s.data.toList).toArray.size≤40
  simp [plainL];omega
theorem keyP_size (l:List Tk) (u:Nat):(keyP l u).size≤40:=by
  unfold keyP
  split
  · exact plainS_size _
  · decide
end Go.Proofs.YtgcfhkceejcliaaGreatDoor
namespace Go.Proofs.YtgcfhkceejcliaaGreatDoor
open Go.RowKit
noncomputable def eqBs (a b:List UInt8):Bool:= @decide (a=b) (Classical.propDecidable _)
theorem equal_any (w:World) (B B':Nat) (a a':Option Addr) (n n' c c':Nat) (bs bs':List UInt8) (h:IsB w B a n c bs) (h':IsB w B' a' n' c' bs'):
    Calls Tryz.prog 69 #[.slice a n c, .slice a' n' c'] w fun e w'=>e= .returned (.bool (eqBs bs bs'))∧w'=w:=by
  have k1:=conv_isB h
  have k2:=conv_isB h'
  clear h h'
  by_cases e:bs=bs'
  · have hE:eqBs bs bs'=true:=by simp [eqBs,e]
    rw [hE]
    subst e
    go_enter Tryz.func69,Tryz.ntmps69
    go_wp2_with fail
    go_returns
    exact ⟨by first|rfl|simp,rfl⟩
  · have hE:eqBs bs bs'=false:=by simp [eqBs,e]
    rw [hE]
    have HE:=Lib.hid e
    clear e
    go_enter Tryz.func69,Tryz.ntmps69
    go_wp2_with fail
    go_returns
    exact ⟨by simp;exact HE.out,rfl⟩
end Go.Proofs.YtgcfhkceejcliaaGreatDoor
namespace Go.Proofs.YtgcfhkceejcliaaGreatDoor
open Go.RowKit
set_option maxHeartbeats 4000000 in
set_option maxRecDepth 100000 in
theorem plain6_any (w:World) (s:ByteArray) (hs:s.size≤140737488355328):
    Calls Tryz.prog 104 #[.string s] w fun e w'=>e= .returned (.string (plainS s))∧Below w.heap.size w w':=by
  obtain ⟨i0,hi0,hz0,hz1,hz2⟩:=info_parts ginfo8
  have hsz:s.data.toList.length=s.size:=Array.length_toList
  have HS:=Lib.hid hsz
  clear hsz
  go_enter Tryz.func104,Tryz.ntmps104
  go_wp2_with fail
  go_loopw [3,4] (fun u i wr=>∃(j:Nat) (a:Option Addr) (m c:Nat),j≤40∧j≤s.size∧i= .int .i64 j∧u= .slice a m c∧PH w wr s j (.slice a m c)) (fun _ i _=>40 - (intOf i).toNat)
  case atStart=>exact ⟨0,none,0,0,by omega,Nat.zero_le _,rfl,rfl,⟨⟨by simp [outs], .inl ⟨rfl,rfl⟩⟩,Below.refl _ _⟩⟩
  case round=>
    obtain ⟨j,a,m,c,hj,hj2,rfl,rfl,L⟩:=hrel
    have hlen:=HS.out
    by_cases h1:j<s.size
    · by_cases h2:j<40
      · have hgb:s.data.toList[j]'(by omega)=s[j]'h1:=by simp [ByteArray.getElem_eq_getElem_data]
        have hsn:=plain_snoc s.data.toList j (by omega)
        rw [hgb] at hsn
        have HSN:=Lib.hid hsn
        have hrlt:∀b,(Value.slice a m c).ownBlock=some b→w.heap.size≤b∧b<wr.heap.size:=L.own.lt
        have hb:=L.below.size
        have LL:=Lib.hid L
        have ho:=L.own
        clear hsn hgb L
        go_wp2_with (at_builtin;refine wpList_append_lies _ rfl (.tmp 15) (.tmp 20) 38 (by rfl) w.heap.size 5 i0 _ 1 1 Tryz.underlying38 hi0 hz0 hz1 hz2 rfl (by omega) (.slice a m c) j (outs ((s.data.toList.take j).map low)) (by rfl) (ho.alloc _) ⟨wr.heap.size,0,none⟩ 1 1 [.int .u8 ((s[j]'h1).toNat % 128:Int)] (by rfl) (by rfl) (World.news_of_block (cs:= #[.int .u8 ((s[j]'h1).toNat % 128:Int)]) (t:=5) (fr:=(0,0)) (heap_alloc_new wr _)) (by simp [Value.oneCell']) (by omega) (by unfold maxLen;omega) (by omega) (by simp;omega) (wr.heap.size+1) (by simp) ?_;intro g cap w7 hown7 hgrow7 hat7 hlt7)
        go_roundw
        case rel=>
          refine ⟨j+1,some ⟨g,0,none⟩,j+1,cap,by omega,by omega,by go_num,rfl,⟨?_, ?_⟩⟩
          · rw [HSN.out,outs_append]
            have e:outs [low (s[j]'h1)] = [.int .u8 ((s[j]'h1).toNat % 128:Int)] :=by simp [outs,low_nat]
            rw [e];exact hown7
          · exact (LL.out.below.trans (((Below.refl _ _).alloc (Nat.le_refl _) _).mono hb)).trans (grown_below hgrow7 (fun k hk=>(hrlt k hk).1) (by simp;omega))
        case measure=>simp [intOf];omega
      · obtain ⟨a2,n2,c2,hv2,hI⟩:=isB_of_own (bs:=(s.data.toList.take j).map low) (by rw [List.length_map,List.length_take,Nat.min_eq_left (by omega)];exact L.own)
        injection hv2 with h3 h4 h5;subst h3 h4 h5
        have hcv:=conv_isB hI
        have LL:=Lib.hid L
        have hp:((s.data.toList.take j).map low)=plainL s.data.toList:=by rw [plainL,show j=40 by omega]
        rw [hp] at hcv
        clear hI L hp
        go_wp2_with fail
        go_returns
        exact ⟨rfl,LL.out.below⟩
    · obtain ⟨a2,n2,c2,hv2,hI⟩:=isB_of_own (bs:=(s.data.toList.take j).map low) (by rw [List.length_map,List.length_take,Nat.min_eq_left (by omega)];exact L.own)
      injection hv2 with h3 h4 h5;subst h3 h4 h5
      have hcv:=conv_isB hI
      have LL:=Lib.hid L
      have hp:((s.data.toList.take j).map low)=plainL s.data.toList:=by rw [plainL,List.take_of_length_le (by omega),List.take_of_length_le (by omega)]
      rw [hp] at hcv
      clear hI L hp
      go_wp2_with fail
      go_returns
      exact ⟨rfl,LL.out.below⟩
end Go.Proofs.YtgcfhkceejcliaaGreatDoor
