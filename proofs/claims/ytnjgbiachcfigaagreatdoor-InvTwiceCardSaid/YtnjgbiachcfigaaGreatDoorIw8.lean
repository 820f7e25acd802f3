/-
  Contracts of the functions that the law reaches: slices.Delete at Val and at Field, of a.
-/
import Derived.Test.YtnjgbiachcfigaaGreatDoorIw7
namespace Go.Proofs.YtnjgbiachcfigaaGreatDoor
open Go.RowKit
set_option maxHeartbeats 8000000
set_option maxRecDepth 100000 in
theorem zg8 (w:World) (base g n c i j:Nat) (cur:Array Value) (xs:List Value) (hbg:base<=g) (hg:w.heap[g]? =some (.cells cur 36 (0,0))) (hcur:cur.size=c*5) (hij:i<j) (hj:j<=n) (hnc:n<=c) (hc:c<=maxLen)
 (hxs:cur.toList.take (n*5)=xs) (h1:∀v ∈ xs,v.oneCell'=true):
 uP 123 #[.slice (some ⟨g,0,none⟩) n c, .int .i64 (i:Int), .int .i64 (j:Int)] w (RowPost w base 36 5 (.slice (some ⟨g,0,none⟩) n c) (i+(n - j)) (xs.take (i*5)++xs.drop (j*5))):=by
 delta uP
 obtain ⟨i0,hi0,hz0,hzs,hzb⟩:=info_parts Yh
 have hc63:c<=9223372036854775807:=by unfold maxLen at hc;omega
 have hcl:cur.toList.length=c*5:=by simpa using hcur
 have hxl:xs.length=n*5:=by rw [<-hxs,List.length_take,hcl];omega
 have hdl:(xs.drop (j*5)).length=(n - j)*5:=by rw [List.length_drop,hxl];omega
 have hcell:∀j v,xs[j]? =some v->cur[j]? =some v:=fun j v hj=>by
  rw [<-hxs,List.getElem?_take] at hj
  split at hj
  .simpa using hj
  .cases hj
 obtain ⟨A,hA,hsrc⟩:∃A:Addr,(if c=j then some (⟨g,0,none⟩:Addr) else some ⟨g,j*5,none⟩)=some A/\∀t u,(xs.drop (j*5))[t]? =some u->w.drew.cell? (A.add t)=some u:=by
  by_cases h:c=j
  .refine ⟨⟨g,0,none⟩,by simp [h],fun t u hu=> ?_⟩
   rw [List.drop_eq_nil_of_le (by omega)] at hu
   simp at hu
  .refine ⟨⟨g,j*5,none⟩,by simp [h],fun t u hu=> ?_⟩
   rw [List.getElem?_drop] at hu
   rw [Addr.add_lit]
   simp only [World.cell?,show w.drew.heap=w.heap from rfl,hg]
   simpa using hcell _ u hu
 have hap:∀ty cc,(Builtin.append_ #[33,33] ty #[.slice (some ⟨g,0,none⟩) i c, .slice (some A) (n - j) cc]).run Tryz.prog w.drew= .ok (.slice (some ⟨g,0,none⟩) (i+(n - j)) c) (w.drew.setRow g (cur.toList.take (i*5)++xs.drop (j*5)++cur.toList.drop (i*5+(xs.drop (j*5)).length)).toArray):=fun ty cc=>by
  have h:=run_append_room (P:=Tryz.prog) w.drew 33 ty 36 i0 Tryz.underlying33 hi0 g i c cur hg A (n - j) cc (xs.drop (j*5)) (by rw [hzs];exact hdl) hsrc (fun v hv=>h1 v (List.mem_of_mem_drop hv)) (by omega) (by rw [hzs,hdl,hcur];omega)
  rw [hzs] at h
  exact h
 obtain ⟨C1,hC1⟩:∃C1,C1=(cur.toList.take (i*5)++xs.drop (j*5)++cur.toList.drop (i*5+(xs.drop (j*5)).length)).toArray:=⟨_,rfl⟩
 rw [<-hC1] at hap
 have hC1s:C1.size=c*5:=by rw [hC1];simp only [List.size_toArray,List.length_append,List.length_take,hcl,hdl];rw [List.length_drop,hcl];omega
 obtain ⟨z,hzz,hzc,hzo⟩:∃z,i0.zero=some z/\z.cells.size=5/\∀k,k<z.cells.size->(z.cells[k]!).oneCell'=true:=⟨_,hz0,rfl,fun k hk=>by
  have:k<5:=hk
  rcases k with _|_|_|_|_|_|k<;>first|rfl|omega⟩
 have hzv:∀w,(zeroValue 36).run Tryz.prog w= .ok z w:=fun w=>by simp [zeroValue,typeInfo,hi0,hzz]
 have hgW:(w.drew.setRow g C1).heap[g]? =some (.cells C1 36 (0,0)):=setRow_heap w.drew g cur C1 36 (0,0) hg
 obtain ⟨W1,hW1⟩:∃W1,w.drew.setRow g C1=W1:=⟨_,rfl⟩
 have hcr:∀ty,(Builtin.clear_ #[33] ty #[.slice (some ⟨g,(i+(n - j))*5,none⟩) (n - (i+(n - j))) (c - (i+(n - j)))]).run Tryz.prog W1= .ok (.tuple #[]) (W1.setRow g (C1.toList.take ((i+(n - j))*5)++(Builtin.zeroCells z.cells (n - (i+(n - j)))).toList++C1.toList.drop ((i+(n - j))*5+(Builtin.zeroCells z.cells (n - (i+(n - j)))).toList.length)).toArray):=fun ty=>
  zc4 W1 33 36 ty z Tryz.underlying33 hzv g ((i+(n - j))*5) (n - (i+(n - j))) _ C1 36 (by omega) (by rw [<-hW1];exact hgW) (by omega) hzo (by rw [hzc,hC1s];omega)
 obtain ⟨zs,hzs'⟩:∃zs,(Builtin.zeroCells z.cells (n - (i+(n - j)))).toList=zs:=⟨_,rfl⟩
 have hzl:zs.length=(n - (i+(n - j)))*5:=by rw [<-hzs',Array.length_toList,size_zeroCells,hzc]
 rw [hzs'] at hcr
 obtain ⟨C2,hC2⟩:∃C2,C2=(C1.toList.take ((i+(n - j))*5)++zs++C1.toList.drop ((i+(n - j))*5+zs.length)).toArray:=⟨_,rfl⟩
 rw [<-hC2] at hcr
 have hC2s:C2.size=c*5:=by
  have:C1.toList.length=c*5:=by simpa using hC1s
  rw [hC2];simp only [List.size_toArray,List.length_append,List.length_take,List.length_drop,this,hzl];omega
 have hC2t:C2.toList.take ((i+(n - j))*5)=xs.take (i*5)++xs.drop (j*5):=by
  have h:=zdm cur.toList zs (C1.toList.drop ((i+(n - j))*5+zs.length)) (i*5) (j*5) (n*5) (by omega) (by omega) (by omega)
  rw [hxs] at h
  rw [hC2,show (i+(n - j))*5=i*5+(n*5 - j*5) by omega]
  rw [show (i+(n - j))*5=i*5+(n*5 - j*5) by omega] at h
  rw [hC1] at h ⊢
  exact h
 have HS:=qh hC2s;have HT:=qh hC2t;have HL:=qh hxl;have HGW:=qh hgW
 obtain ⟨R,hR⟩:∃R,RowPost w base 36 5 (.slice (some ⟨g,0,none⟩) n c) (i+(n - j)) (xs.take (i*5)++xs.drop (j*5))=R:=⟨_,rfl⟩
 have HR:=qh hR
 have mixed:Tryz.prog.follows .mixedOrders=true:=by kernel_rfl
 have HW1:=qh hW1
 have HAP:=qh hap
 rw [hR]
 have hz1:¬((i:Int)=(j:Int)):=by omega
 have hz2:¬(c=i):=by omega
 have hz3:¬(c=i+(n - j)):=by omega
 have hic:i<=c:=by omega
 have hjc:j<=c:=by omega
 have hij2:i<=j:=by omega
 clear hR hC2s hC2t hC1s hC1 hC2 hxs hdl hxl hcl hzz hzo hzc hzv hsrc hcell hap hgW hW1 hzs' hzl
 go_enter Tryz.func123,Tryz.ntmps123
 go_wp2_with fail
 go_region_law_o (refine zcc rfl _ _ 33 rfl (.slice (some ⟨g,0,none⟩) i c) (.slice (some A) (n - j) (c - j)) (by simp [Act.eval,Act.put]) (by simp [Act.eval,Act.put]) (HAP.out _ _) ?_)
 rw [HW1.out]
 go_wp2_with fail
 rw [<-HR.out]
 exact ⟨_,rfl,⟨by simp only [List.length_append,List.length_take,List.length_drop,HL.out];omega, .inr ⟨g,c,C2,rfl,hbg,setRow_heap W1 g C1 C2 36 (0,0) (by rw [<-HW1.out];exact HGW.out),by omega,hc,HS.out,HT.out⟩⟩,
  by rw [<-HW1.out];exact ⟨rfl,rfl,rfl,by simp,fun k hk hne=>(setRow_other _ g k _ (fun e=>hne (by rw [e];rfl))).trans (setRow_other w.drew g k _ (fun e=>hne (by rw [e];rfl)))⟩, .inl rfl⟩
theorem zes (w:World) (base n i:Nat) (u:Value) (xs:List Value) (hown:w.ownsRow base 36 5 u n xs) (hi:i<n) (h1:∀v ∈ xs,v.oneCell'=true):
 uP 123 #[u, .int .i64 (i:Int), .int .i64 ((i:Int)+1)] w (RowPost w base 36 5 u (n - 1) (xs.take (i*5)++xs.drop ((i+1)*5))):=by
 delta uP
 rcases hown.2 with ⟨rfl,h0⟩|⟨g,c,cur,rfl,hbg,hg,hnc,hcm,hcs,htk⟩
 .omega
 .have h:=zg8 w base g n c i (i+1) cur xs hbg hg hcs (by omega) (by omega) hnc hcm htk h1
  rw [show i+(n - (i+1))=n - 1 by omega] at h
  exact h
set_option maxRecDepth 100000 in
theorem zpx (w:World) (base g n c i j:Nat) (cur:Array Value) (xs:List Value) (hbg:base<=g) (hg:w.heap[g]? =some (.cells cur 75 (0,0))) (hcur:cur.size=c*6) (hij:i<j) (hj:j<=n) (hnc:n<=c) (hc:c<=maxLen)
 (hxs:cur.toList.take (n*6)=xs) (h1:∀v ∈ xs,v.oneCell'=true):
 uP 80 #[.slice (some ⟨g,0,none⟩) n c, .int .i64 (i:Int), .int .i64 (j:Int)] w (RowPost w base 75 6 (.slice (some ⟨g,0,none⟩) n c) (i+(n - j)) (xs.take (i*6)++xs.drop (j*6))):=by
 delta uP
 obtain ⟨i0,hi0,hz0,hzs,hzb⟩:=info_parts Yj
 have hc63:c<=9223372036854775807:=by unfold maxLen at hc;omega
 have hcl:cur.toList.length=c*6:=by simpa using hcur
 have hxl:xs.length=n*6:=by rw [<-hxs,List.length_take,hcl];omega
 have hdl:(xs.drop (j*6)).length=(n - j)*6:=by rw [List.length_drop,hxl];omega
 have hcell:∀j v,xs[j]? =some v->cur[j]? =some v:=fun j v hj=>by
  rw [<-hxs,List.getElem?_take] at hj
  split at hj
  .simpa using hj
  .cases hj
 obtain ⟨A,hA,hsrc⟩:∃A:Addr,(if c=j then some (⟨g,0,none⟩:Addr) else some ⟨g,j*6,none⟩)=some A/\∀t u,(xs.drop (j*6))[t]? =some u->w.drew.cell? (A.add t)=some u:=by
  by_cases h:c=j
  .refine ⟨⟨g,0,none⟩,by simp [h],fun t u hu=> ?_⟩
   rw [List.drop_eq_nil_of_le (by omega)] at hu
   simp at hu
  .refine ⟨⟨g,j*6,none⟩,by simp [h],fun t u hu=> ?_⟩
   rw [List.getElem?_drop] at hu
   rw [Addr.add_lit]
   simp only [World.cell?,show w.drew.heap=w.heap from rfl,hg]
   simpa using hcell _ u hu
 have hap:∀ty cc,(Builtin.append_ #[34,34] ty #[.slice (some ⟨g,0,none⟩) i c, .slice (some A) (n - j) cc]).run Tryz.prog w.drew= .ok (.slice (some ⟨g,0,none⟩) (i+(n - j)) c) (w.drew.setRow g (cur.toList.take (i*6)++xs.drop (j*6)++cur.toList.drop (i*6+(xs.drop (j*6)).length)).toArray):=fun ty cc=>by
  have h:=run_append_room (P:=Tryz.prog) w.drew 34 ty 75 i0 Tryz.underlying34 hi0 g i c cur hg A (n - j) cc (xs.drop (j*6)) (by rw [hzs];exact hdl) hsrc (fun v hv=>h1 v (List.mem_of_mem_drop hv)) (by omega) (by rw [hzs,hdl,hcur];omega)
  rw [hzs] at h
  exact h
 obtain ⟨C1,hC1⟩:∃C1,C1=(cur.toList.take (i*6)++xs.drop (j*6)++cur.toList.drop (i*6+(xs.drop (j*6)).length)).toArray:=⟨_,rfl⟩
 rw [<-hC1] at hap
 have hC1s:C1.size=c*6:=by rw [hC1];simp only [List.size_toArray,List.length_append,List.length_take,hcl,hdl];rw [List.length_drop,hcl];omega
 obtain ⟨z,hzz,hzc,hzo⟩:∃z,i0.zero=some z/\z.cells.size=6/\∀k,k<z.cells.size->(z.cells[k]!).oneCell'=true:=⟨_,hz0,rfl,fun k hk=>by
  have:k<6:=hk
  rcases k with _|_|_|_|_|_|k<;>first|rfl|omega⟩
 have hzv:∀w,(zeroValue 75).run Tryz.prog w= .ok z w:=fun w=>by simp [zeroValue,typeInfo,hi0,hzz]
 have hgW:(w.drew.setRow g C1).heap[g]? =some (.cells C1 75 (0,0)):=setRow_heap w.drew g cur C1 75 (0,0) hg
 obtain ⟨W1,hW1⟩:∃W1,w.drew.setRow g C1=W1:=⟨_,rfl⟩
 have hcr:∀ty,(Builtin.clear_ #[34] ty #[.slice (some ⟨g,(i+(n - j))*6,none⟩) (n - (i+(n - j))) (c - (i+(n - j)))]).run Tryz.prog W1= .ok (.tuple #[]) (W1.setRow g (C1.toList.take ((i+(n - j))*6)++(Builtin.zeroCells z.cells (n - (i+(n - j)))).toList++C1.toList.drop ((i+(n - j))*6+(Builtin.zeroCells z.cells (n - (i+(n - j)))).toList.length)).toArray):=fun ty=>
  zc4 W1 34 75 ty z Tryz.underlying34 hzv g ((i+(n - j))*6) (n - (i+(n - j))) _ C1 75 (by omega) (by rw [<-hW1];exact hgW) (by omega) hzo (by rw [hzc,hC1s];omega)
 obtain ⟨zs,hzs'⟩:∃zs,(Builtin.zeroCells z.cells (n - (i+(n - j)))).toList=zs:=⟨_,rfl⟩
 have hzl:zs.length=(n - (i+(n - j)))*6:=by rw [<-hzs',Array.length_toList,size_zeroCells,hzc]
 rw [hzs'] at hcr
 obtain ⟨C2,hC2⟩:∃C2,C2=(C1.toList.take ((i+(n - j))*6)++zs++C1.toList.drop ((i+(n - j))*6+zs.length)).toArray:=⟨_,rfl⟩
 rw [<-hC2] at hcr
 have hC2s:C2.size=c*6:=by
  have:C1.toList.length=c*6:=by simpa using hC1s
  rw [hC2];simp only [List.size_toArray,List.length_append,List.length_take,List.length_drop,this,hzl];omega
 have hC2t:C2.toList.take ((i+(n - j))*6)=xs.take (i*6)++xs.drop (j*6):=by
  have h:=zdm cur.toList zs (C1.toList.drop ((i+(n - j))*6+zs.length)) (i*6) (j*6) (n*6) (by omega) (by omega) (by omega)
  rw [hxs] at h
  rw [hC2,show (i+(n - j))*6=i*6+(n*6 - j*6) by omega]
  rw [show (i+(n - j))*6=i*6+(n*6 - j*6) by omega] at h
  rw [hC1] at h ⊢
  exact h
 have HS:=qh hC2s;have HT:=qh hC2t;have HL:=qh hxl;have HGW:=qh hgW
 obtain ⟨R,hR⟩:∃R,RowPost w base 75 6 (.slice (some ⟨g,0,none⟩) n c) (i+(n - j)) (xs.take (i*6)++xs.drop (j*6))=R:=⟨_,rfl⟩
 have HR:=qh hR
 have mixed:Tryz.prog.follows .mixedOrders=true:=by kernel_rfl
 have HW1:=qh hW1
 have HAP:=qh hap
 rw [hR]
 have hz1:¬((i:Int)=(j:Int)):=by omega
 have hz2:¬(c=i):=by omega
 have hz3:¬(c=i+(n - j)):=by omega
 have hic:i<=c:=by omega
 have hjc:j<=c:=by omega
 have hij2:i<=j:=by omega
 clear hR hC2s hC2t hC1s hC1 hC2 hxs hdl hxl hcl hzz hzo hzc hzv hsrc hcell hap hgW hW1 hzs' hzl
 go_enter Tryz.func80,Tryz.ntmps80
 go_wp2_with fail
 go_region_law_o (refine zcc rfl _ _ 34 rfl (.slice (some ⟨g,0,none⟩) i c) (.slice (some A) (n - j) (c - j)) (by simp [Act.eval,Act.put]) (by simp [Act.eval,Act.put]) (HAP.out _ _) ?_)
 rw [HW1.out]
 go_wp2_with fail
 rw [<-HR.out]
 exact ⟨_,rfl,⟨by simp only [List.length_append,List.length_take,List.length_drop,HL.out];omega, .inr ⟨g,c,C2,rfl,hbg,setRow_heap W1 g C1 C2 75 (0,0) (by rw [<-HW1.out];exact HGW.out),by omega,hc,HS.out,HT.out⟩⟩,
  by rw [<-HW1.out];exact ⟨rfl,rfl,rfl,by simp,fun k hk hne=>(setRow_other _ g k _ (fun e=>hne (by rw [e];rfl))).trans (setRow_other w.drew g k _ (fun e=>hne (by rw [e];rfl)))⟩, .inl rfl⟩
theorem zoz (w:World) (base n i:Nat) (u:Value) (xs:List Value) (hown:w.ownsRow base 75 6 u n xs) (hi:i<n) (h1:∀v ∈ xs,v.oneCell'=true):
 uP 80 #[u, .int .i64 (i:Int), .int .i64 ((i:Int)+1)] w (RowPost w base 75 6 u (n - 1) (xs.take (i*6)++xs.drop ((i+1)*6))):=by
 delta uP
 rcases hown.2 with ⟨rfl,h0⟩|⟨g,c,cur,rfl,hbg,hg,hnc,hcm,hcs,htk⟩
 .omega
 .have h:=zpx w base g n c i (i+1) cur xs hbg hg hcs (by omega) (by omega) hnc hcm htk h1
  rw [show i+(n - (i+1))=n - 1 by omega] at h
  exact h
theorem zms {cl:List VC} {i:Nat} (hi:i<cl.length) {j:Nat} {v:Value} (h:(vcells cl[i])[j]? =some v):(cl.flatMap vcells)[i*5+j]? =some v:=by
 rw [<-List.getElem?_drop,za7,List.drop_eq_getElem_cons hi,List.flatMap_cons,List.getElem?_append_left (List.getElem?_eq_some_iff.1 h).1]
 exact h
theorem VRow.at_ {w:World} {base i:Nat} {u:Value} {l:List V} {cl:List VC} (h:VRow w base u l cl) (hi:i<l.length) (hi':i<cl.length):
 ∃g cap,u= .slice (some ⟨g,0,none⟩) l.length cap/\base<=g/\g<w.heap.size/\l.length<=cap/\cap<=maxLen/\ValAt w g (i*5) cl[i] /\∀q,w.frozen? ⟨g,q,none⟩=false:=by
 rcases h.own.2 with ⟨rfl,h0⟩|⟨g,cap,cur,rfl,hbg,hg,hnc,hcm,hcs,htk⟩
 .omega
 .have hc:∀j v,(vcells cl[i])[j]? =some v->w.cell? ⟨g,i*5+j,none⟩=some v:=fun j v hj=>by
   have:=h.own.cells (g:=g) rfl (i*5+j) v (zms hi' hj)
   rw [Addr.add_lit,Nat.zero_add] at this;exact this
  refine ⟨g,cap,rfl,hbg,(Array.getElem?_eq_some_iff.1 hg).1,hnc,hcm,⟨hc 0 _ rfl,hc 1 _ rfl,hc 2 _ rfl,hc 3 _ rfl,hc 4 _ rfl⟩,fun q=>by simp [World.frozen?,hg]⟩
theorem VRow.set {w:World} {base g i cap:Nat} {l:List V} {cl:List VC} {x:V} {cx:VC} (h:VRow w base (.slice (some ⟨g,0,none⟩) l.length cap) l cl) (hi:i<l.length) (hx:IsVal (only (fun k=>base<=k/\(Value.slice (some ⟨g,0,none⟩) l.length cap).ownBlock≠some k) w) w.heap.size x cx):
 VRow (setV w g (i*5) cx) base (.slice (some ⟨g,0,none⟩) l.length cap) (l.set i x) (cl.set i cx):=by
 have hl:=h.len
 have st:=Zi w g (i*5) cx
 have mv:∀ {y:V} {c:VC},IsVal (only (fun k=>base<=k/\(Value.slice (some ⟨g,0,none⟩) l.length cap).ownBlock≠some k) w) w.heap.size y c->IsVal (only (fun k=>base<=k/\(Value.slice (some ⟨g,0,none⟩) l.length cap).ownBlock≠some k) (setV w g (i*5) cx)) (setV w g (i*5) cx).heap.size y c:=fun hy=>
  hy.rowed (u:= .slice (some ⟨g,0,none⟩) l.length cap) (u':= .slice (some ⟨g,0,none⟩) l.length cap) st.grown (.inl rfl)
 refine ⟨by simp [hl],by rw [List.length_set];exact zcz h.own (by omega) cx,fun k hk hk'=> ?_⟩
 rw [List.length_set] at hk hk'
 by_cases e:i=k
 .subst e
  rw [List.getElem_set_self,List.getElem_set_self]
  exact mv hx
 .rw [List.getElem_set_ne e,List.getElem_set_ne e]
  exact mv (h.els k hk hk')
theorem QR.start2 (w:World) (t:Tk) (c:VC) (t1 t2 t3:TypeId) (W:World) (hW:W=((w.alloc (.cells (uU 0 0 { data:= #[] } none 0 0 none 0 0) t1)).alloc (.cells #[.int .u8 t.k, .int .i64 t.n, .string t.s, .int .u8 t.m] t2)).alloc (.cells (uV c) t3)):
 QR w W t c/\W.heap.size=w.heap.size+3:=by
 obtain ⟨w1,hw1⟩:∃w1,w.alloc (.cells (uU 0 0 { data:= #[] } none 0 0 none 0 0) t1)=w1:=⟨_,rfl⟩
 have s1:w1.heap.size=w.heap.size+1:=by rw [<-hw1,World.size_alloc]
 have b1:uB w w1:=by rw [<-hw1];exact (Below.refl _ _).alloc (Nat.le_refl _) _
 have c1:BC w1 w.heap.size [.int .u8 0, .int .i64 0, .string { data:= #[] }, .slice none 0 0, .slice none 0 0] :=by rw [<-hw1];exact BC.start w (uU 0 0 { data:= #[] } none 0 0 none 0 0) t1
 rw [hw1] at hW
 obtain ⟨w2,hw2⟩:∃w2,w1.alloc (.cells #[.int .u8 t.k, .int .i64 t.n, .string t.s, .int .u8 t.m] t2)=w2:=⟨_,rfl⟩
 have s2:w2.heap.size=w.heap.size+2:=by rw [<-hw2,World.size_alloc,s1]
 have b2:uB w1 w2:=by rw [<-hw2];exact (Below.refl _ _).alloc (Nat.le_refl _) _
 have c2:=BC.start w1 #[.int .u8 t.k, .int .i64 t.n, .string t.s, .int .u8 t.m] t2
 rw [hw2,s1] at c2
 rw [hw2] at hW
 subst hW
 have b3:uB w2 (w2.alloc (.cells (uV c) t3)):=(Below.refl _ _).alloc (Nat.le_refl _) _
 have c3:=BC.start w2 (uV c) t3
 rw [s2] at c3
 exact ⟨⟨(c1.keep b2 (by omega)).keep b3 (by omega),c2.keep b3 (by omega),c3,(b1.trans (b2.mono (by omega))).trans (b3.mono (by omega))⟩,by rw [World.size_alloc,s2]⟩
theorem zqr {tmps:Array Value} {W:World} {b:Nat} {c:VC} {x:Value} (ht:tmps[4]? =some (.pointer (some ⟨b,0,none⟩))) (ht':tmps[5]? =some x) (h:BC W b (vcells c)):
 (results Tryz.f36 tmps).run Tryz.prog W= .ok (.tuple #[.agg #[.int .u8 c.k, .int .i64 c.n, .string c.s, .slice c.la c.ll c.lc, .slice c.oa c.ol c.oc],x]) W:=by
 obtain ⟨r0,r1,r2,r3,r4⟩:=(⟨h.at_ 0 _ rfl,h.at_ 1 _ rfl,h.at_ 2 _ rfl,h.at_ 3 _ rfl,h.at_ 4 _ rfl⟩:W.cell? ⟨b,0,none⟩=some (.int .u8 c.k)/\W.cell? ⟨b,1,none⟩=some (.int .i64 c.n)/\W.cell? ⟨b,2,none⟩=some (.string c.s)/\W.cell? ⟨b,3,none⟩=some (.slice c.la c.ll c.lc)/\W.cell? ⟨b,4,none⟩=some (.slice c.oa c.ol c.oc))
 simp [results,Tryz.results36,go_sem,ht,ht',r0,r1,r2,r3,r4]
theorem Xk {w W:World} {c:VC} {r:V×Nat} {a:Act} (h:BC W w.heap.size (vcells c)) (hb:uB w W) (hv:IsVal (only (fun b=>w.heap.size<=b) W) W.heap.size r.1 c) (hd:a.defers= []) (ht:a.tmps[4]? =some (.pointer (some ⟨w.heap.size,0,none⟩))) (ht':a.tmps[5]? =some (.int .i64 (r.2:Int))):
 bodyPost Tryz.prog Tryz.f36 (RawPost w r) .ret a W:=
 ⟨hd,_,zqr ht ht' h,⟨c,rfl,hv⟩,hb⟩
structure BLL (w wr:World) (d:Nat) (l:List Tk) (t:Tk) (j:Nat) (a:Option Addr) (m c:Nat) (xs:List V) (cs:List VC) (u:Nat):Prop where
 rd:bL (oneP d) l j=(xs,u)
 len:xs.length=j
 cen:cs.length=j
 box:QR w wr t ⟨4,0, .empty,a,m,c,none,0,0⟩
 row:RowV wr (w.heap.size+3) (.slice a m c) xs cs
theorem BLL.round {w wr w4 w6 w7:World} {d:Nat} {l:List Tk} {t:Tk} {j:Nat} {a:Option Addr} {m c:Nat} {xs:List V} {cs:List VC} {u:Nat} {x:V} {q:Nat} {cx:VC} {g cap:Nat}
 (h:BLL w wr d l t j a m c xs cs u) (hx:oneP d (l.drop u)=(x,q)) (hb4:uB wr w4) (hI:IsVal (only (fun b=>wr.heap.size<=b) w4) w4.heap.size x cx) (hb6:uB w4 w6)
 (hown:w7.ownsRow (w.heap.size+3) 36 5 (.slice (some ⟨g,0,none⟩) (j+1) cap) (j+1) (cs.flatMap vcells++vcells cx)) (hg:w6.grownBy w7 (Value.slice a m c).ownBlock)
 (hat:(Value.slice a m c).ownBlock=some g∨w4.heap.size<=g):
 BLL w (w7.setCell ⟨w.heap.size+2,3,none⟩ (.slice (some ⟨g,0,none⟩) (j+1) cap)) d l t (j+1) (some ⟨g,0,none⟩) (j+1) cap (xs++ [x]) (cs++ [cx]) (u+q):=by
 have hrow:=h.row.later (PV.closed xs cs) (.of_below 0 hb4) (by omega)
 have hrlt:∀b,(Value.slice a m c).ownBlock=some b->w.heap.size+3<=b/\b<wr.heap.size:=h.row.lt
 have hsz:=h.box.val.lt
 have hsz4:=hb4.size
 have hsz6:=hb6.size
 have hgb:Below (w.heap.size+3) w6 w7:=Zj hg (fun b hb=>(hrlt b hb).1) (by omega)
 have hb67:Below (w.heap.size+3) w4 w7:=(hb6.mono (by omega)).trans hgb
 obtain ⟨s1,s2⟩:=PV.snoc (l:=xs) (cs:=cs) (by rw [h.len,h.cen]) x cx
 have hnew:PV (xs++ [x]) (cs++ [cx]) (only (Free (w.heap.size+3) (.slice a m c)) w4) w4.heap.size xs.length:=s1 _ _ (hI.sub (Zd fun b hb _=>⟨⟨by omega,fun e=>by have:=(hrlt b e.symm).2;omega⟩,rfl⟩))
 have hpush:=Row.push (PV.closed (xs++ [x]) (cs++ [cx])) hrow hb6 hg (u':= .slice (some ⟨g,0,none⟩) (j+1) cap) (news:=vcells cx) (by rw [h.len];exact hown) (by
  rcases hat with e|e
  .left;rw [e];rfl
  .right;intro b hb;have:g=b:=by simpa [Value.ownBlock] using hb
   omega) hnew s2
 have hbox:=(h.box.next hb4).below_ hb67 (Nat.le_refl _)
 refine ⟨?_,by simp [h.len],by simp [h.cen], ?_, ?_⟩
 .rw [bL,h.rd]
  dsimp only
  rw [hx]
 .exact ⟨hbox.res.far (by omega),hbox.tok.far (by omega),hbox.val.set (i:=3) (x:= .slice (some ⟨g,0,none⟩) (j+1) cap) (by simp [vcells]),hbox.below.trans ((RStep.self (b:=w.heap.size+2) (o:=3)).below (by have:=hbox.val.lt;omega)|>.mono (by omega))⟩
 .have hr2:RowV w7 (w.heap.size+3) (.slice (some ⟨g,0,none⟩) (j+1) cap) (xs++ [x]) (cs++ [cx]):=by
   show Row _ _ _ _ _ _ _ _
   rw [Y4,List.length_append,List.length_singleton]
   exact hpush
  exact hr2.set (PV.closed (xs++ [x]) (cs++ [cx])) (by omega)
structure BLO (w wr:World) (d:Nat) (l:List Tk) (t:Tk) (j:Nat) (a:Option Addr) (m c:Nat) (o:List (ByteArray×V)) (u:Nat):Prop where
 rd:bO (oneP d) l j=(o,u)
 box:QR w wr t ⟨5,0, .empty,none,0,0,a,m,c⟩
 neat:Neat a m c
 fld:IsFields (only (fun k=>w.heap.size+3<=k) wr) wr.heap.size o a m c
theorem IsFields.far {W W':World} {b base:Nat} {l:List (ByteArray×V)} {a:Option Addr} {n c:Nat} (h:IsFields (only (fun k=>base<=k) W) W.heap.size l a n c) (s:RStep W W' b) (hb:b<base):IsFields (only (fun k=>base<=k) W') W'.heap.size l a n c:=
 (IsFields.sub (Zd fun k hk hl=>⟨hk,s.block k hl (by omega)⟩) h).more s.size
theorem IsFields.behind {W W':World} {base:Nat} {l:List (ByteArray×V)} {a:Option Addr} {n c:Nat} (h:IsFields (only (fun k=>base<=k) W) W.heap.size l a n c) (hb:uB W W'):IsFields (only (fun k=>base<=k) W') W'.heap.size l a n c:=
 (IsFields.sub (Zd fun k hk hl=>⟨hk,hb.block k hl⟩) h).more hb.size
theorem BLO.round {w wr w5 w6:World} {d:Nat} {l:List Tk} {t:Tk} {j:Nat} {a:Option Addr} {m c:Nat} {o:List (ByteArray×V)} {u:Nat} {x:V} {q:Nat} {a':Option Addr} {m' c':Nat} {key:ByteArray}
 (h:BLO w wr d l t j a m c o u) (hx:oneP d (l.drop u)=(x,q)) (hk:keyP l u=key) (hb5:uB wr w5) (hb6:uB w5 w6)
 (hf:IsFields (only (fun b=>w.heap.size+3<=b) w6) w6.heap.size (withF o key x) a' m' c') (hne:Neat a' m' c'):
 BLO w (w6.setCell ⟨w.heap.size+2,4,none⟩ (.slice a' m' c')) d l t (j+1) a' m' c' (withF o key x) (u+q):=by
 have hbox:=(h.box.next hb5).next hb6
 have hsz:=hbox.val.lt
 refine ⟨?_, ?_,hne,hf.far (RStep.self (b:=w.heap.size+2) (o:=4)) (by omega)⟩
 .rw [bO,h.rd]
  dsimp only
  rw [hx,hk]
 .exact ⟨hbox.res.far (by omega),hbox.tok.far (by omega),hbox.val.set (i:=4) (x:= .slice a' m' c') (by simp [vcells]),hbox.below.trans ((RStep.self (b:=w.heap.size+2) (o:=4)).below (by omega)|>.mono (by omega))⟩
theorem zjz {w:World} {B:Nat} {o:List (ByteArray×V)} {a:Option Addr} {n c:Nat} (h:IsFields w B o a n c) (k:Int) (hk0:0<=k) (hk1:k<256):IsVal w B (.mk k 0 .empty [] o) ⟨k,0, .empty,none,0,0,a,n,c⟩:=
 IsVal.of_lists (c:=⟨k,0, .empty,none,0,0,a,n,c⟩) (l:= []) ⟨hk0,hk1,(by decide:(-9223372036854775808:Int)<=0),(by decide:(0:Int)<=9223372036854775807),(by decide:ByteArray.empty.size<=140737488355328),(by decide:(0:Nat)<=0),(by decide:(0:Nat)<=9223372036854775807),(by decide:(0:Nat)<=1466015503701),h.cap,h.max,h.few⟩ ⟨rfl,(by decide:(0:Nat)<=0),(by decide:(0:Nat)<=9223372036854775807),(by decide:(0:Nat)<=1466015503701),0,0,fun _=>vzero,fun h=>absurd h (Nat.lt_irrefl 0),fun i h=>absurd h (by simp)⟩ h
theorem zgv (w:World) (B:Nat):IsFields w B [] none 0 0:=
 ⟨rfl,Nat.le_refl _,by omega,by omega,0,0,fun _=>vzero,fun h=>absurd h (by omega),fun i h=>absurd h (by simp)⟩
theorem zp9 (x:Int):bits BinOp.and IntKind.i64 x 1=x % 2:=by
 have h:bits BinOp.and IntKind.i64 x 1=IntKind.i64.wrap (((BitVec.ofInt 64 x &&& BitVec.ofInt 64 1).toNat:Nat):Int):=rfl
 have e:(BitVec.ofInt 64 1).toNat=1:=by decide
 rw [h,BitVec.toNat_and,e,Nat.and_one_is_mod,BitVec.toNat_ofInt,IntKind.wrap_i64]
 have e2:((2 ^ 64:Nat):Int)=18446744073709551616:=by decide
 rw [e2]
 omega
set_option maxRecDepth 100000 in
theorem zcq (w:World) (dd:Int) (a:Option Addr) (c:Nat):
 uP 36 #[.slice a 0 c, .int .i64 dd] w (RawPost w (V.none,0)):=by
 delta uP
 go_enter Tryz.func36,Tryz.ntmps36
 generalize hQ0:bodyPost _ _ _=Q0
 have HQ:=qh hQ0
 clear hQ0
 go_wp2_with fail
 rw [<-HQ.out]
 exact Xk (c:=vzero) (BC.start w (uU 0 0 { data:= #[] } none 0 0 none 0 0) _) ((Below.refl _ _).alloc (Nat.le_refl _) _) (Zq _ _) rfl rfl rfl
set_option maxRecDepth 100000 in
theorem zhf (w:World) (dd:Int) (t:Tk) (r:List Tk) (a:Option Addr) (n c:Nat) (h:IsToks w w.heap.size (t::r) a n c) (hk:t.k % 6=0):
 uP 36 #[.slice a n c, .int .i64 dd] w (RawPost w (leafP t,1)):=by
 delta uP
 obtain ⟨b,o,hp,rfl,hb,htk,hbd⟩:=h.get (k:=0) (by have:=h.len;rw [this];simp)
 have ht:TkAt w b o t:=by simpa using htk
 replace hbd:t.Bnd:=by simpa using hbd
 have c0:=ht.c0;have c1:=ht.c1;have c2:=ht.c2;have c3:=ht.c3
 have b2:=hbd.m0;have b3:=hbd.m1
 have hnp:0<n:=by rw [h.len];simp
 have hne:((n:Int)==0)=false:=by simp;omega
 have hk2:Int.tmod t.k 6=0:=by rw [Int.tmod_eq_emod_of_nonneg hbd.k0];exact hk
 have HBD:=qh hbd
 have hR:leafP t=V.none:=by rw [leafP];simp [hk]
 have HR:=qh hR
 have hz:=BC.start w (uU 0 0 { data:= #[] } none 0 0 none 0 0) 36
 have hb2:uB w (w.alloc (.cells (uU 0 0 { data:= #[] } none 0 0 none 0 0) 36)):=(Below.refl _ _).alloc (Nat.le_refl _) _
 have HZ:=qh hz
 have HB2:=qh hb2
 rw [hR]
 clear h ht htk hp hbd hk hR hz hb2
 go_enter Tryz.func36,Tryz.ntmps36
 generalize hQ0:bodyPost _ _ _=Q0
 have HQ:=qh hQ0
 clear hQ0
 go_wp2_with fail
 rw [<-HQ.out]
 have A:=BC.start w (uU 0 0 { data:= #[] } none 0 0 none 0 0) 36
 have B1:uB w (w.alloc (.cells (uU 0 0 { data:= #[] } none 0 0 none 0 0) 36)):=(Below.refl _ _).alloc (Nat.le_refl _) _
 exact Xk (c:=⟨0,0, .empty,none,0,0,none,0,0⟩) (A.keep ((Below.refl _ _).alloc (Nat.le_refl _) _) A.lt) (B1.alloc B1.size _) (Zq _ _) rfl rfl rfl
set_option maxRecDepth 100000 in
theorem zn4 (w:World) (dd:Int) (t:Tk) (r:List Tk) (a:Option Addr) (n c:Nat) (h:IsToks w w.heap.size (t::r) a n c) (hk:t.k % 6=1):
 uP 36 #[.slice a n c, .int .i64 dd] w (RawPost w (leafP t,1)):=by
 delta uP
 obtain ⟨b,o,hp,rfl,hb,htk,hbd⟩:=h.get (k:=0) (by have:=h.len;rw [this];simp)
 have ht:TkAt w b o t:=by simpa using htk
 replace hbd:t.Bnd:=by simpa using hbd
 have c0:=ht.c0;have c1:=ht.c1;have c2:=ht.c2;have c3:=ht.c3
 have b2:=hbd.m0;have b3:=hbd.m1
 have hnp:0<n:=by rw [h.len];simp
 have hne:((n:Int)==0)=false:=by simp;omega
 have hk2:Int.tmod t.k 6=1:=by rw [Int.tmod_eq_emod_of_nonneg hbd.k0];exact hk
 have HBD:=qh hbd
 have hR:leafP t=V.mk 1 (t.n % 2) .empty [] [] :=by rw [leafP];simp [hk]
 have HR:=qh hR
 have hz:=BC.start w (uU 0 0 { data:= #[] } none 0 0 none 0 0) 36
 have hb2:uB w (w.alloc (.cells (uU 0 0 { data:= #[] } none 0 0 none 0 0) 36)):=(Below.refl _ _).alloc (Nat.le_refl _) _
 have HZ:=qh hz
 have HB2:=qh hb2
 rw [hR]
 clear h ht htk hp hbd hk hR hz hb2
 go_enter Tryz.func36,Tryz.ntmps36
 generalize hQ0:bodyPost _ _ _=Q0
 have HQ:=qh hQ0
 clear hQ0
 go_wp2_with fail
 rw [zp9]
 rw [<-HQ.out]
 have A:=BC.start w (uU 1 (t.n % 2) { data:= #[] } none 0 0 none 0 0) 36
 have B1:uB w (w.alloc (.cells (uU 1 (t.n % 2) { data:= #[] } none 0 0 none 0 0) 36)):=(Below.refl _ _).alloc (Nat.le_refl _) _
 exact Xk (c:=⟨1,t.n % 2, .empty,none,0,0,none,0,0⟩) (A.keep ((Below.refl _ _).alloc (Nat.le_refl _) _) A.lt) (B1.alloc B1.size _) (Qg _ _ _ _ _ (by omega) (by omega) (by omega) (by omega) (by decide)) rfl rfl rfl
set_option maxRecDepth 100000 in
theorem zi7 (w:World) (dd:Int) (t:Tk) (r:List Tk) (a:Option Addr) (n c:Nat) (h:IsToks w w.heap.size (t::r) a n c) (hk:t.k % 6=2):
 uP 36 #[.slice a n c, .int .i64 dd] w (RawPost w (leafP t,1)):=by
 delta uP
 obtain ⟨b,o,hp,rfl,hb,htk,hbd⟩:=h.get (k:=0) (by have:=h.len;rw [this];simp)
 have ht:TkAt w b o t:=by simpa using htk
 replace hbd:t.Bnd:=by simpa using hbd
 have c0:=ht.c0;have c1:=ht.c1;have c2:=ht.c2;have c3:=ht.c3
 have b2:=hbd.m0;have b3:=hbd.m1
 have hnp:0<n:=by rw [h.len];simp
 have hne:((n:Int)==0)=false:=by simp;omega
 have hk2:Int.tmod t.k 6=2:=by rw [Int.tmod_eq_emod_of_nonneg hbd.k0];exact hk
 have HBD:=qh hbd
 have hR:leafP t=V.mk 2 t.n .empty [] [] :=by rw [leafP];simp [hk]
 have HR:=qh hR
 have hz:=BC.start w (uU 0 0 { data:= #[] } none 0 0 none 0 0) 36
 have hb2:uB w (w.alloc (.cells (uU 0 0 { data:= #[] } none 0 0 none 0 0) 36)):=(Below.refl _ _).alloc (Nat.le_refl _) _
 have HZ:=qh hz
 have HB2:=qh hb2
 rw [hR]
 clear h ht htk hp hbd hk hR hz hb2
 go_enter Tryz.func36,Tryz.ntmps36
 generalize hQ0:bodyPost _ _ _=Q0
 have HQ:=qh hQ0
 clear hQ0
 go_wp2_with fail
 rw [<-HQ.out]
 have A:=BC.start w (uU 2 t.n { data:= #[] } none 0 0 none 0 0) 36
 have B1:uB w (w.alloc (.cells (uU 2 t.n { data:= #[] } none 0 0 none 0 0) 36)):=(Below.refl _ _).alloc (Nat.le_refl _) _
 exact Xk (c:=⟨2,t.n, .empty,none,0,0,none,0,0⟩) (A.keep ((Below.refl _ _).alloc (Nat.le_refl _) _) A.lt) (B1.alloc B1.size _) (Qg _ _ _ _ _ (by omega) (by omega) HBD.out.n0 HBD.out.n1 (by decide)) rfl rfl rfl
set_option maxRecDepth 100000 in
theorem zqz (w:World) (dd:Int) (t:Tk) (r:List Tk) (a:Option Addr) (n c:Nat) (h:IsToks w w.heap.size (t::r) a n c) (hk:t.k % 6=3):
 uP 36 #[.slice a n c, .int .i64 dd] w (RawPost w (leafP t,1)):=by
 delta uP
 obtain ⟨b,o,hp,rfl,hb,htk,hbd⟩:=h.get (k:=0) (by have:=h.len;rw [this];simp)
 have ht:TkAt w b o t:=by simpa using htk
 replace hbd:t.Bnd:=by simpa using hbd
 have c0:=ht.c0;have c1:=ht.c1;have c2:=ht.c2;have c3:=ht.c3
 have b2:=hbd.m0;have b3:=hbd.m1
 have hnp:0<n:=by rw [h.len];simp
 have hne:((n:Int)==0)=false:=by simp;omega
 have hk2:Int.tmod t.k 6=3:=by rw [Int.tmod_eq_emod_of_nonneg hbd.k0];exact hk
 have HBD:=qh hbd
 have hR:leafP t=V.mk 3 0 (plainS t.s) [] [] :=by rw [leafP];simp [hk]
 have HR:=qh hR
 have hz:=BC.start w (uU 0 0 { data:= #[] } none 0 0 none 0 0) 36
 have hb2:uB w (w.alloc (.cells (uU 0 0 { data:= #[] } none 0 0 none 0 0) 36)):=(Below.refl _ _).alloc (Nat.le_refl _) _
 have HZ:=qh hz
 have HB2:=qh hb2
 rw [hR]
 have HA:=qh (hb2.alloc hb2.size (.cells #[.int .u8 t.k, .int .i64 t.n, .string t.s, .int .u8 t.m] 73))
 have HK:=qh (hz.keep ((Below.refl _ _).alloc (Nat.le_refl _) (.cells #[.int .u8 t.k, .int .i64 t.n, .string t.s, .int .u8 t.m] 73)) hz.lt)
 clear h ht htk hp hbd hk hR hz hb2
 go_enter Tryz.func36,Tryz.ntmps36
 generalize hQ0:bodyPost _ _ _=Q0
 have HQ:=qh hQ0
 clear hQ0
 go_wp2_with fail
 refine (zd9 _ t.s HBD.out.s1).mono ?_
 rintro e w3 ⟨rfl,hb3⟩
 have D:=HK.out.keep hb3 (by simp;omega)
 obtain ⟨r0,r1,r2,r3,r4⟩:=row5 D.at_
 have g0:=D.fr 0;have g1:=D.fr 1;have g2:=D.fr 2;have g3:=D.fr 3;have g4:=D.fr 4
 have zs3:w.heap.size<w3.heap.size:=D.lt
 have HD3:=qh D
 have HB3:=qh (HA.out.trans (hb3.mono (by simp;omega)))
 obtain ⟨ps,hps,hpz⟩:∃ps,plainS t.s=ps/\ps.size<=140737488355328:=⟨_,rfl,Nat.le_trans (Xb _) (by omega)⟩
 have HPS:=qh hpz
 rw [hps] at HQ ⊢
 clear D hb3 hps hpz
 go_wp2_with fail
 rw [<-HQ.out]
 have s1:RStep w3 (((((w3.setCell ⟨w.heap.size,0,none⟩ (.int .u8 3)).setCell ⟨w.heap.size,1,none⟩ (.int .i64 0)).setCell ⟨w.heap.size,2,none⟩ (.string ps)).setCell ⟨w.heap.size,3,none⟩ (.slice none 0 0)).setCell ⟨w.heap.size,4,none⟩ (.slice none 0 0)) w.heap.size:=(((RStep.self.trans RStep.self).trans RStep.self).trans RStep.self).trans RStep.self
 have hbc:BC (((((w3.setCell ⟨w.heap.size,0,none⟩ (.int .u8 3)).setCell ⟨w.heap.size,1,none⟩ (.int .i64 0)).setCell ⟨w.heap.size,2,none⟩ (.string ps)).setCell ⟨w.heap.size,3,none⟩ (.slice none 0 0)).setCell ⟨w.heap.size,4,none⟩ (.slice none 0 0)) w.heap.size (vcells ⟨3,0,ps,none,0,0,none,0,0⟩):=((((HD3.out.set (i:=0) (x:= .int .u8 3) (by simp)).set (i:=1) (x:= .int .i64 0) (by simp)).set (i:=2) (x:= .string ps) (by simp)).set (i:=3) (x:= .slice none 0 0) (by simp)).set (i:=4) (x:= .slice none 0 0) (by simp)
 exact Xk (c:=⟨3,0,ps,none,0,0,none,0,0⟩) hbc (HB3.out.trans (s1.below (by omega))) (Qg _ _ 3 0 ps (by omega) (by omega) (by omega) (by omega) HPS.out) rfl rfl rfl
set_option maxRecDepth 100000 in
theorem zpk (w:World) (dd:Int) (hd0:0<=dd) (hd:dd<=5) (d:Nat) (t:Tk) (r:List Tk) (a:Option Addr) (n c:Nat) (h:IsToks w w.heap.size (t::r) a n c) (IH:∀(W:World) (l:List Tk) (a:Option Addr) (n c:Nat),IsToks W W.heap.size l a n c->uP 36 #[.slice a n c, .int .i64 (dd+1)] W (RawPost W (oneP d l))) (hk:t.k % 6=4):
 uP 36 #[.slice a n c, .int .i64 dd] w (RawPost w (oneP (d+1) (t::r))):=by
 delta uP
 obtain ⟨i0,hi0,hz0,hz1,hz2⟩:=info_parts Yh
 have hw1:IntKind.i64.wrap (dd+1)=dd+1:=IntWalk.i64_in _ (by omega)
 obtain ⟨b,o,hp,rfl,hb,htk,hbd⟩:=h.get (k:=0) (by have:=h.len;rw [this];simp)
 have ht:TkAt w b o t:=by simpa using htk
 replace hbd:t.Bnd:=by simpa using hbd
 have c0:=ht.c0;have c1:=ht.c1;have c2:=ht.c2;have c3:=ht.c3
 have b0:=hbd.k0;have b1:=hbd.k1;have b2:=hbd.m0;have b3:=hbd.m1
 have hlen:=h.len
 have hcap:=h.cap
 have hmax:=h.max
 have hnp:0<n:=by rw [hlen];simp
 have hne:((n:Int)==0)=false:=by simp;omega
 obtain ⟨K,hK⟩:∃K:Nat,(t.m % 4).toNat=K:=⟨_,rfl⟩
 have hK1:t.m % 4=(K:Int):=by omega
 have hK2:Int.tmod t.m 4=(K:Int):=by rw [Int.tmod_eq_emod_of_nonneg b2];exact hK1
 have hK3:K<=3:=by omega
 have hk2:Int.tmod t.k 6=4:=by rw [Int.tmod_eq_emod_of_nonneg b0];exact hk
 have HI:=qh h
 have HQR:=qh (QR.start2 w t ⟨4,0, .empty,none,0,0,none,0,0⟩ 36 73 36)
 have HBD:=qh hbd
 have IHH:=qh IH
 have HLEN:=qh hlen
 have HKK:=qh hK
 have HK:=qh hk
 clear h ht htk hp hbd IH hlen hK hk
 go_enter Tryz.func36,Tryz.ntmps36
 generalize hQ0:bodyPost _ _ _=Q0
 have HQ:=qh hQ0
 clear hQ0
 go_wp2_with fail
 go_loopw [7,9,10,11] (fun u i _ _ wr=>∃(j:Nat) (a':Option Addr) (m c':Nat) (xs:List V) (cs:List VC) (un:Nat),j<=K/\u= .int .i64 un/\i= .int .u8 j/\BLL w wr d (t::r) t j a' m c' xs cs un) (fun _ i _ _ _=>K - (intOf i).toNat)
 case atStart=>exact ⟨0,none,0,0, [], [],1,Nat.zero_le _,rfl,rfl,⟨rfl,rfl,rfl,(HQR.out _ rfl).1,Row.nil _ _ _ _ _⟩⟩
 case round=>
  obtain ⟨j,a',m,c',xs,cs,un,hj,rfl,rfl,L⟩:=hrel
  have k0:=L.box.tok.at_ 0 _ rfl;have k3:=L.box.tok.at_ 3 _ rfl
  obtain ⟨v0,v1,v2,v3,v4⟩:=row5 L.box.val.at_
  have p0:=L.box.val.fr 3
  obtain ⟨r0,r1,r2,r3,r4⟩:=row5 L.box.res.at_
  have g0:=L.box.res.fr 0;have g1:=L.box.res.fr 1;have g2:=L.box.res.fr 2;have g3:=L.box.res.fr 3;have g4:=L.box.res.fr 4
  have zs2:=L.box.val.lt;have zs1:=L.box.tok.lt;have zs0:=L.box.res.lt
  obtain ⟨hu1,hu2,hol⟩:1<=un/\un<=n/\xs.length=j:=by
   have:=zb7 (Jn d) (l:=t::r) (by simp) j
   rw [L.rd] at this
   exact ⟨this.1,by rw [HLEN.out];exact this.2.1,this.2.2⟩
  by_cases hlt:j<K
  .have hz9:c=un->n - un=0:=by omega
   obtain ⟨⟨x,q⟩,hx⟩:∃p,oneP d ((t::r).drop un)=p:=⟨_,rfl⟩
   have hq2:un+q<=n:=by have:=Jn d ((t::r).drop un);rw [hx,List.length_drop] at this;have:=HLEN.out;dsimp only at*;omega
   have HX:=qh hx
   have HC:Hid (∀W,uB w W->uP 36 #[if c=un then .slice (some ⟨b,o,none⟩) 0 0 else .slice (some ⟨b,o+un*4,none⟩) (n - un) (c - un), .int .i64 (dd+1)] W (RawPost W (x,q))):=by
    intro W hW
    have HIW:=(HI.out.later_ hW).drop un hu2
    rw [<-HX.out]
    by_cases hc:c=un
    .rw [if_pos hc];exact IHH.out W _ _ _ _ (HIW.none_left (hz9 hc))
    .rw [if_neg hc];rw [Option.map_some,Zw] at HIW;exact IHH.out W _ _ _ _ HIW
   have LL:=qh L
   clear L hx
   by_cases hc:c=un
   .replace HC:=HC.out
    simp only [if_pos hc] at HC
    replace HC:=qh HC
    have hz:=hz9 hc
    clear hz9
    subst hc
    go_wp2_with fail
    refine (HC.out _ LL.out.box.below).mono ?_
    rintro e w4 ⟨⟨cx,rfl,hI4⟩,hb4⟩
    have L:=LL.out
    have B4:=L.box.next hb4
    have k0:=B4.tok.at_ 0 _ rfl;have k3:=B4.tok.at_ 3 _ rfl
    obtain ⟨v0,v1,v2,v3,v4⟩:=row5 B4.val.at_
    have p0:=B4.val.fr 3
    obtain ⟨r0,r1,r2,r3,r4⟩:=row5 B4.res.at_
    have g0:=B4.res.fr 0;have g1:=B4.res.fr 1;have g2:=B4.res.fr 2;have g3:=B4.res.fr 3;have g4:=B4.res.fr 4
    have zt2:=B4.val.lt;have zt1:=B4.tok.lt;have zt0:=B4.res.lt
    have hrow:RowV w4 (w.heap.size+3) (.slice a' m c') xs cs:=L.row.later (PV.closed xs cs) (.of_below 0 hb4) (by omega)
    have hne2:(Value.slice a' m c').ownBlock≠some (w.heap.size+2):=fun e=>by have:=(L.row.lt _ e).1;omega
    have ho4:=hrow.own
    rw [L.len] at ho4
    have hu3:(c:Int)+q<=9223372036854775807:=by omega
    have HI4:=qh hI4
    have HB4:=qh hb4
    have hnw:∀jj u,(vcells cx)[jj]? =some u->((w4.alloc (.cells (uV cx) 36)).alloc (.cells (uV cx) 36)).cell? ((⟨w4.heap.size+1,0,none⟩:Addr).add jj)=some u:=by
     have:=World.news_of_block (t:=36) (fr:=(0,0)) (heap_alloc_new (w4.alloc (.cells (uV cx) 36)) (.cells (uV cx) 36))
     intro jj u hu
     simpa using this jj u (by simpa [vcells] using hu)
    have HNW:=qh hnw
    have HB44:=qh B4
    clear L B4 hrow hI4 hb4 hnw
    go_wp2_with (at_builtin;refine wpList_append_lies _ rfl (.tmp 71) (.tmp 73) 33 (by rfl) (w.heap.size+3) 36 i0 _ 5 80 Tryz.underlying33 hi0 hz0 hz1 hz2 rfl (by omega) (.slice a' m c') j (cs.flatMap vcells) (by rfl) ((ho4.alloc _).alloc _) ⟨w4.heap.size+1,0,none⟩ 1 1 (vcells cx) (by rfl) (by rfl) HNW.out (by simp [vcells,Value.oneCell']) (by omega) (by unfold maxLen;omega) (by omega) (by simp;omega) (w4.heap.size+1+1) (by simp) ?_;intro g cap w7 hown7 hgrow7 hat7 hlt7;have hc7:w7.cell? ⟨w.heap.size+2,3,none⟩=some (.slice a' m c'):=(hgrow7.cell_far ⟨w.heap.size+2,3,none⟩ (by simp;omega) (Ne.symm hne2)).trans (Za ((Below.refl _ _).alloc (by simp) _) (Za ((Below.refl _ _).alloc (Nat.le_refl _) _) (HB44.out.val.at_ 3 _ rfl) zt2) zt2);have hf7:w7.frozen? ⟨w.heap.size+2,3,none⟩=false:=(hgrow7.frozen_far ⟨w.heap.size+2,3,none⟩ (by simp;omega) (Ne.symm hne2)).trans ((((Below.refl _ _).alloc (by simp) _:Below w4.heap.size (w4.alloc _) ((w4.alloc _).alloc _)).frozen (p:=⟨w.heap.size+2,3,none⟩) zt2).trans ((((Below.refl _ _).alloc (Nat.le_refl _) _:uB w4 (w4.alloc _)).frozen (p:=⟨w.heap.size+2,3,none⟩) zt2).trans (HB44.out.val.fr 3))))
    go_roundw
    case rel=>exact ⟨j+1,some ⟨g,0,none⟩,j+1,cap,xs++ [x],cs++ [cx],c+q,by omega,by go_num,by go_num,LL.out.round HX.out HB4.out HI4.out (((Below.refl _ _).alloc (Nat.le_refl _) _).alloc (by simp) _) hown7 hgrow7 (hat7.imp_right fun e=>by omega)⟩
    case measure=>simp [intOf];omega
   .replace HC:=HC.out
    simp only [if_neg hc] at HC
    replace HC:=qh HC
    have huc:un<c:=by omega
    clear hz9 hc
    go_wp2_with fail
    refine (HC.out _ LL.out.box.below).mono ?_
    rintro e w4 ⟨⟨cx,rfl,hI4⟩,hb4⟩
    have L:=LL.out
    have B4:=L.box.next hb4
    have k0:=B4.tok.at_ 0 _ rfl;have k3:=B4.tok.at_ 3 _ rfl
    obtain ⟨v0,v1,v2,v3,v4⟩:=row5 B4.val.at_
    have p0:=B4.val.fr 3
    obtain ⟨r0,r1,r2,r3,r4⟩:=row5 B4.res.at_
    have g0:=B4.res.fr 0;have g1:=B4.res.fr 1;have g2:=B4.res.fr 2;have g3:=B4.res.fr 3;have g4:=B4.res.fr 4
    have zt2:=B4.val.lt;have zt1:=B4.tok.lt;have zt0:=B4.res.lt
    have hrow:RowV w4 (w.heap.size+3) (.slice a' m c') xs cs:=L.row.later (PV.closed xs cs) (.of_below 0 hb4) (by omega)
    have hne2:(Value.slice a' m c').ownBlock≠some (w.heap.size+2):=fun e=>by have:=(L.row.lt _ e).1;omega
    have ho4:=hrow.own
    rw [L.len] at ho4
    have hu3:(un:Int)+q<=9223372036854775807:=by omega
    have HI4:=qh hI4
    have HB4:=qh hb4
    have hnw:∀jj u,(vcells cx)[jj]? =some u->((w4.alloc (.cells (uV cx) 36)).alloc (.cells (uV cx) 36)).cell? ((⟨w4.heap.size+1,0,none⟩:Addr).add jj)=some u:=by
     have:=World.news_of_block (t:=36) (fr:=(0,0)) (heap_alloc_new (w4.alloc (.cells (uV cx) 36)) (.cells (uV cx) 36))
     intro jj u hu
     simpa using this jj u (by simpa [vcells] using hu)
    have HNW:=qh hnw
    have HB44:=qh B4
    clear L B4 hrow hI4 hb4 hnw
    go_wp2_with (at_builtin;refine wpList_append_lies _ rfl (.tmp 71) (.tmp 73) 33 (by rfl) (w.heap.size+3) 36 i0 _ 5 80 Tryz.underlying33 hi0 hz0 hz1 hz2 rfl (by omega) (.slice a' m c') j (cs.flatMap vcells) (by rfl) ((ho4.alloc _).alloc _) ⟨w4.heap.size+1,0,none⟩ 1 1 (vcells cx) (by rfl) (by rfl) HNW.out (by simp [vcells,Value.oneCell']) (by omega) (by unfold maxLen;omega) (by omega) (by simp;omega) (w4.heap.size+1+1) (by simp) ?_;intro g cap w7 hown7 hgrow7 hat7 hlt7;have hc7:w7.cell? ⟨w.heap.size+2,3,none⟩=some (.slice a' m c'):=(hgrow7.cell_far ⟨w.heap.size+2,3,none⟩ (by simp;omega) (Ne.symm hne2)).trans (Za ((Below.refl _ _).alloc (by simp) _) (Za ((Below.refl _ _).alloc (Nat.le_refl _) _) (HB44.out.val.at_ 3 _ rfl) zt2) zt2);have hf7:w7.frozen? ⟨w.heap.size+2,3,none⟩=false:=(hgrow7.frozen_far ⟨w.heap.size+2,3,none⟩ (by simp;omega) (Ne.symm hne2)).trans ((((Below.refl _ _).alloc (by simp) _:Below w4.heap.size (w4.alloc _) ((w4.alloc _).alloc _)).frozen (p:=⟨w.heap.size+2,3,none⟩) zt2).trans ((((Below.refl _ _).alloc (Nat.le_refl _) _:uB w4 (w4.alloc _)).frozen (p:=⟨w.heap.size+2,3,none⟩) zt2).trans (HB44.out.val.fr 3))))
    go_roundw
    case rel=>exact ⟨j+1,some ⟨g,0,none⟩,j+1,cap,xs++ [x],cs++ [cx],un+q,by omega,by go_num,by go_num,LL.out.round HX.out HB4.out HI4.out (((Below.refl _ _).alloc (Nat.le_refl _) _).alloc (by simp) _) hown7 hgrow7 (hat7.imp_right fun e=>by omega)⟩
    case measure=>simp [intOf];omega
  .have hjn:j=K:=by omega
   subst hjn
   have hR:oneP (d+1) (t::r)=(.mk 4 0 .empty xs [],un):=by
    rw [oneP,if_pos HK.out,HKK.out,L.rd]
   have hv:=RowV.val L.row (lo:=w.heap.size+3) (by rw [L.len,L.cen]) (Nat.le_refl _) 4 (by omega) (by omega) (by rw [L.len];omega)
   have HV:=qh hv
   have HR:=qh hR
   have LB:=qh L.box
   clear L hv hR
   go_wp2_with fail
   have ST:=LB.out.stored ⟨4,0, .empty,a',m,c',none,0,0⟩
   rw [<-HQ.out,HR.out]
   exact Xk (c:=⟨4,0, .empty,a',m,c',none,0,0⟩) ST.1 ST.2.1 ((Zm HV.out ST.2.2 (by omega)).sub (Zd fun k hk _=>⟨by omega,rfl⟩)) rfl rfl rfl
set_option maxRecDepth 100000 in
theorem zkd (w:World) (dd:Int) (hd0:0<=dd) (hd:dd<=5) (d:Nat) (t:Tk) (r:List Tk) (a:Option Addr) (n c:Nat) (h:IsToks w w.heap.size (t::r) a n c) (IH:∀(W:World) (l:List Tk) (a:Option Addr) (n c:Nat),IsToks W W.heap.size l a n c->uP 36 #[.slice a n c, .int .i64 (dd+1)] W (RawPost W (oneP d l))) (hk:t.k % 6=5):
 uP 36 #[.slice a n c, .int .i64 dd] w (RawPost w (oneP (d+1) (t::r))):=by
 delta uP
 have hw1:IntKind.i64.wrap (dd+1)=dd+1:=IntWalk.i64_in _ (by omega)
 obtain ⟨b,o,hp,rfl,hb,htk,hbd⟩:=h.get (k:=0) (by have:=h.len;rw [this];simp)
 have ht:TkAt w b o t:=by simpa using htk
 replace hbd:t.Bnd:=by simpa using hbd
 have c0:=ht.c0;have c1:=ht.c1;have c2:=ht.c2;have c3:=ht.c3
 have b0:=hbd.k0;have b1:=hbd.k1;have b2:=hbd.m0;have b3:=hbd.m1
 have hlen:=h.len
 have hcap:=h.cap
 have hmax:=h.max
 have hnp:0<n:=by rw [hlen];simp
 have hne:((n:Int)==0)=false:=by simp;omega
 obtain ⟨K,hK⟩:∃K:Nat,(t.m % 4).toNat=K:=⟨_,rfl⟩
 have hK1:t.m % 4=(K:Int):=by omega
 have hK2:Int.tmod t.m 4=(K:Int):=by rw [Int.tmod_eq_emod_of_nonneg b2];exact hK1
 have hK3:K<=3:=by omega
 have hk2:Int.tmod t.k 6=5:=by rw [Int.tmod_eq_emod_of_nonneg b0];exact hk
 have HI:=qh h
 have HQR:=qh (QR.start2 w t ⟨5,0, .empty,none,0,0,none,0,0⟩ 36 73 36)
 have HBD:=qh hbd
 have IHH:=qh IH
 have HLEN:=qh hlen
 have HKK:=qh hK
 have HK:=qh hk
 clear h ht htk hp hbd IH hlen hK hk
 go_enter Tryz.func36,Tryz.ntmps36
 generalize hQ0:bodyPost _ _ _=Q0
 have HQ:=qh hQ0
 clear hQ0
 go_wp2_with fail
 go_loopw [7,13,14,15,16] (fun u i _ _ _ wr=>∃(j:Nat) (a':Option Addr) (m c':Nat) (os:List (ByteArray×V)) (un:Nat),j<=K/\u= .int .i64 un/\i= .int .u8 j/\BLO w wr d (t::r) t j a' m c' os un) (fun _ i _ _ _ _=>K - (intOf i).toNat)
 case atStart=>exact ⟨0,none,0,0, [],1,Nat.zero_le _,rfl,rfl,⟨rfl,(HQR.out _ rfl).1, .inl ⟨rfl,rfl,rfl⟩,zgv _ _⟩⟩
 case round=>
  obtain ⟨j,a',m,c',os,un,hj,rfl,rfl,L⟩:=hrel
  have k0:=L.box.tok.at_ 0 _ rfl;have k3:=L.box.tok.at_ 3 _ rfl
  obtain ⟨v0,v1,v2,v3,v4⟩:=row5 L.box.val.at_
  have p0:=L.box.val.fr 4
  obtain ⟨r0,r1,r2,r3,r4⟩:=row5 L.box.res.at_
  have g0:=L.box.res.fr 0;have g1:=L.box.res.fr 1;have g2:=L.box.res.fr 2;have g3:=L.box.res.fr 3;have g4:=L.box.res.fr 4
  have zs2:=L.box.val.lt;have zs1:=L.box.tok.lt;have zs0:=L.box.res.lt
  obtain ⟨hu1,hu2,hol⟩:1<=un/\un<=n/\os.length<=j:=by
   have:=zdz (Jn d) (l:=t::r) (by simp) j
   rw [L.rd] at this
   exact ⟨this.1,by rw [HLEN.out];exact this.2.1,this.2.2⟩
  by_cases hlt:j<K
  .have hz9:c=un->n - un=0:=by omega
   obtain ⟨⟨x,q⟩,hx⟩:∃p,oneP d ((t::r).drop un)=p:=⟨_,rfl⟩
   have hq2:un+q<=n:=by have:=Jn d ((t::r).drop un);rw [hx,List.length_drop] at this;have:=HLEN.out;dsimp only at*;omega
   have HX:=qh hx
   have HC:Hid (∀W,uB w W->uP 36 #[if c=un then .slice (some ⟨b,o,none⟩) 0 0 else .slice (some ⟨b,o+un*4,none⟩) (n - un) (c - un), .int .i64 (dd+1)] W (RawPost W (x,q))):=by
    intro W hW
    have HIW:=(HI.out.later_ hW).drop un hu2
    rw [<-HX.out]
    by_cases hc:c=un
    .rw [if_pos hc];exact IHH.out W _ _ _ _ (HIW.none_left (hz9 hc))
    .rw [if_neg hc];rw [Option.map_some,Zw] at HIW;exact IHH.out W _ _ _ _ HIW
   have LL:=qh L
   clear L hx
   obtain ⟨key,hkey,hks⟩:∃key,keyP (t::r) un=key/\key.size<=40:=⟨_,rfl,zcd _ _⟩
   have HKEY:=qh hkey
   by_cases hul:un<n
   .obtain ⟨b2,o2,hp2,e2,hb2,htk2,hbd2⟩:=(HI.out.keep LL.out.box.below).get hul
    injection e2 with e2;injection e2 with e2 e3;subst e2 e3
    have hk4:plainS ((t::r)[un]'hp2).s=key:=by rw [<-hkey,keyP,List.getElem?_eq_getElem hp2]
    obtain ⟨ks,hks2⟩:∃ks,((t::r)[un]'hp2).s=ks:=⟨_,rfl⟩
    have d2:=htk2.c2
    have hsz2:=hbd2.s1
    rw [hks2] at d2 hsz2 hk4
    have HPL:=qh (zd9 wr ks hsz2)
    rw [hk4] at HPL
    have hne8:c≠un:=by omega
    replace HC:=HC.out
    simp only [if_neg hne8] at HC
    replace HC:=qh HC
    have huc:un<c:=by omega
    have hbw:b<wr.heap.size:=World.block_lt_of_cell? wr _ d2
    clear hz9 hne8 htk2 hbd2 hk4 hks2 hkey
    go_wp2_with fail
    refine (HPL.out).mono ?_
    rintro e w3 ⟨rfl,hb3⟩
    have B3:=LL.out.box.next hb3
    have HB3:=qh hb3
    have HBL3:=qh B3.below
    clear B3 hb3
    go_wp2_with fail
    refine (HC.out _ HBL3.out).mono ?_
    rintro e w4 ⟨⟨cx,rfl,hI4⟩,hb4⟩
    have L:=LL.out
    have hb34:uB wr w4:=HB3.out.trans (hb4.mono HB3.out.size)
    have B4:=L.box.next hb34
    have k0:=B4.tok.at_ 0 _ rfl;have k3:=B4.tok.at_ 3 _ rfl
    obtain ⟨v0,v1,v2,v3,v4⟩:=row5 B4.val.at_
    have p0:=B4.val.fr 4
    obtain ⟨r0,r1,r2,r3,r4⟩:=row5 B4.res.at_
    have g0:=B4.res.fr 0;have g1:=B4.res.fr 1;have g2:=B4.res.fr 2;have g3:=B4.res.fr 3;have g4:=B4.res.fr 4
    have zt2:=B4.val.lt;have zt1:=B4.tok.lt;have zt0:=B4.res.lt
    have hs3:=HB3.out.size
    have HW:=qh (K6 (w4.alloc (.cells (uV cx) 36)) (w.heap.size+3) (by simp;omega) os a' m c' (L.fld.behind (hb34.alloc hb34.size _)) L.neat key (by omega) x cx.k cx.n cx.s cx.la cx.ll cx.lc cx.oa cx.ol cx.oc ((hI4.sub (Zd fun k hk hl=>⟨by omega,((Below.refl _ _).alloc (Nat.le_refl _) _:uB w4 (w4.alloc (.cells (uV cx) 36))).block k hl⟩)).more (by simp)) (by rw [L.fld.len];omega))
    have HB5:=qh (hb34.alloc hb34.size (.cells (uV cx) 36))
    have HB4:=qh B4
    have hu3:(un:Int)+q<=9223372036854775807:=by omega
    clear L B4 hI4 hb4 hb34
    go_wp2_with fail
    refine (HW.out).mono ?_
    rintro e w6 ⟨⟨a2,n2,c2,rfl,hf6,hne6⟩,hb6⟩
    have B6:=(HB4.out.next ((Below.refl _ _).alloc (Nat.le_refl _) (.cells (uV cx) 36))).next hb6
    have v4:=B6.val.at_ 4 _ rfl;have p0:=B6.val.fr 4;have zu2:=B6.val.lt
    have HF6:=qh hf6;have HN6:=qh hne6;have HB6:=qh hb6
    clear B6 hf6 hne6 hb6
    go_wp2_with fail
    go_roundw
    case rel=>exact ⟨j+1,a2,n2,c2,withF os key x,un+q,by omega,by go_num,by go_num,LL.out.round HX.out HKEY.out HB5.out HB6.out HF6.out HN6.out⟩
    case measure=>simp [intOf];omega
   .have hk4:key= .empty:=by rw [<-hkey,keyP,List.getElem?_eq_none (by rw [<-HLEN.out];omega)]
    have hk5:key=({ data:= #[] } :ByteArray):=hk4
    have HB3:=qh (Below.refl wr.heap.size wr)
    by_cases hc:c=un
    .replace HC:=HC.out
     simp only [if_pos hc] at HC
     replace HC:=qh HC
     have hz:=hz9 hc
     clear hz9
     subst hc
     subst hk5
     clear hk4 hkey
     go_wp2_with fail
     refine (HC.out _ LL.out.box.below).mono ?_
     rintro e w4 ⟨⟨cx,rfl,hI4⟩,hb4⟩
     have L:=LL.out
     have hb34:uB wr w4:=HB3.out.trans (hb4.mono HB3.out.size)
     have B4:=L.box.next hb34
     have k0:=B4.tok.at_ 0 _ rfl;have k3:=B4.tok.at_ 3 _ rfl
     obtain ⟨v0,v1,v2,v3,v4⟩:=row5 B4.val.at_
     have p0:=B4.val.fr 4
     obtain ⟨r0,r1,r2,r3,r4⟩:=row5 B4.res.at_
     have g0:=B4.res.fr 0;have g1:=B4.res.fr 1;have g2:=B4.res.fr 2;have g3:=B4.res.fr 3;have g4:=B4.res.fr 4
     have zt2:=B4.val.lt;have zt1:=B4.tok.lt;have zt0:=B4.res.lt
     have hs3:=HB3.out.size
     have HW:=qh (K6 (w4.alloc (.cells (uV cx) 36)) (w.heap.size+3) (by simp;omega) os a' m c' (L.fld.behind (hb34.alloc hb34.size _)) L.neat { data:= #[] } (by omega) x cx.k cx.n cx.s cx.la cx.ll cx.lc cx.oa cx.ol cx.oc ((hI4.sub (Zd fun k hk hl=>⟨by omega,((Below.refl _ _).alloc (Nat.le_refl _) _:uB w4 (w4.alloc (.cells (uV cx) 36))).block k hl⟩)).more (by simp)) (by rw [L.fld.len];omega))
     have HB5:=qh (hb34.alloc hb34.size (.cells (uV cx) 36))
     have HB4:=qh B4
     have hu3:(c:Int)+q<=9223372036854775807:=by omega
     clear L B4 hI4 hb4 hb34
     go_wp2_with fail
     refine (HW.out).mono ?_
     rintro e w6 ⟨⟨a2,n2,c2,rfl,hf6,hne6⟩,hb6⟩
     have B6:=(HB4.out.next ((Below.refl _ _).alloc (Nat.le_refl _) (.cells (uV cx) 36))).next hb6
     have v4:=B6.val.at_ 4 _ rfl;have p0:=B6.val.fr 4;have zu2:=B6.val.lt
     have HF6:=qh hf6;have HN6:=qh hne6;have HB6:=qh hb6
     clear B6 hf6 hne6 hb6
     go_wp2_with fail
     go_roundw
     case rel=>exact ⟨j+1,a2,n2,c2,withF os { data:= #[] } x,c+q,by omega,by go_num,by go_num,LL.out.round HX.out HKEY.out HB5.out HB6.out HF6.out HN6.out⟩
     case measure=>simp [intOf];omega
    .replace HC:=HC.out
     simp only [if_neg hc] at HC
     replace HC:=qh HC
     have huc:un<c:=by omega
     clear hz9 hc
     subst hk5
     clear hk4 hkey
     go_wp2_with fail
     refine (HC.out _ LL.out.box.below).mono ?_
     rintro e w4 ⟨⟨cx,rfl,hI4⟩,hb4⟩
     have L:=LL.out
     have hb34:uB wr w4:=HB3.out.trans (hb4.mono HB3.out.size)
     have B4:=L.box.next hb34
     have k0:=B4.tok.at_ 0 _ rfl;have k3:=B4.tok.at_ 3 _ rfl
     obtain ⟨v0,v1,v2,v3,v4⟩:=row5 B4.val.at_
     have p0:=B4.val.fr 4
     obtain ⟨r0,r1,r2,r3,r4⟩:=row5 B4.res.at_
     have g0:=B4.res.fr 0;have g1:=B4.res.fr 1;have g2:=B4.res.fr 2;have g3:=B4.res.fr 3;have g4:=B4.res.fr 4
     have zt2:=B4.val.lt;have zt1:=B4.tok.lt;have zt0:=B4.res.lt
     have hs3:=HB3.out.size
     have HW:=qh (K6 (w4.alloc (.cells (uV cx) 36)) (w.heap.size+3) (by simp;omega) os a' m c' (L.fld.behind (hb34.alloc hb34.size _)) L.neat { data:= #[] } (by omega) x cx.k cx.n cx.s cx.la cx.ll cx.lc cx.oa cx.ol cx.oc ((hI4.sub (Zd fun k hk hl=>⟨by omega,((Below.refl _ _).alloc (Nat.le_refl _) _:uB w4 (w4.alloc (.cells (uV cx) 36))).block k hl⟩)).more (by simp)) (by rw [L.fld.len];omega))
     have HB5:=qh (hb34.alloc hb34.size (.cells (uV cx) 36))
     have HB4:=qh B4
     have hu3:(un:Int)+q<=9223372036854775807:=by omega
     clear L B4 hI4 hb4 hb34
     go_wp2_with fail
     refine (HW.out).mono ?_
     rintro e w6 ⟨⟨a2,n2,c2,rfl,hf6,hne6⟩,hb6⟩
     have B6:=(HB4.out.next ((Below.refl _ _).alloc (Nat.le_refl _) (.cells (uV cx) 36))).next hb6
     have v4:=B6.val.at_ 4 _ rfl;have p0:=B6.val.fr 4;have zu2:=B6.val.lt
     have HF6:=qh hf6;have HN6:=qh hne6;have HB6:=qh hb6
     clear B6 hf6 hne6 hb6
     go_wp2_with fail
     go_roundw
     case rel=>exact ⟨j+1,a2,n2,c2,withF os { data:= #[] } x,un+q,by omega,by go_num,by go_num,LL.out.round HX.out HKEY.out HB5.out HB6.out HF6.out HN6.out⟩
     case measure=>simp [intOf];omega
  .have hjn:j=K:=by omega
   subst hjn
   have hR:oneP (d+1) (t::r)=(.mk 5 0 .empty [] os,un):=by
    rw [oneP,if_neg (by rw [HK.out];decide),if_pos HK.out,HKK.out,L.rd]
   have hv:=zjz L.fld 5 (by omega) (by omega)
   have HV:=qh hv
   have HR:=qh hR
   have LB:=qh L.box
   clear L hv hR
   go_wp2_with fail
   have ST:=LB.out.stored ⟨5,0, .empty,none,0,0,a',m,c'⟩
   rw [<-HQ.out,HR.out]
   exact Xk (c:=⟨5,0, .empty,none,0,0,a',m,c'⟩) ST.1 ST.2.1 ((Zm HV.out ST.2.2 (by omega)).sub (Zd fun k hk _=>⟨by omega,rfl⟩)) rfl rfl rfl
set_option maxRecDepth 100000 in
theorem zni (w:World) (t:Tk) (r:List Tk) (a:Option Addr) (n c:Nat) (h:IsToks w w.heap.size (t::r) a n c) (hk:t.k % 6=4):
 uP 36 #[.slice a n c, .int .i64 6] w (RawPost w (leafP t,1)):=by
 delta uP
 obtain ⟨b,o,hp,rfl,hb,htk,hbd⟩:=h.get (k:=0) (by have:=h.len;rw [this];simp)
 have ht:TkAt w b o t:=by simpa using htk
 replace hbd:t.Bnd:=by simpa using hbd
 have c0:=ht.c0;have c1:=ht.c1;have c2:=ht.c2;have c3:=ht.c3
 have b2:=hbd.m0;have b3:=hbd.m1
 have hnp:0<n:=by rw [h.len];simp
 have hne:((n:Int)==0)=false:=by simp;omega
 obtain ⟨K,hK⟩:∃K:Nat,(t.m % 4).toNat=K:=⟨_,rfl⟩
 have hK2:Int.tmod t.m 4=(K:Int):=by rw [Int.tmod_eq_emod_of_nonneg b2];omega
 have hk2:Int.tmod t.k 6=4:=by rw [Int.tmod_eq_emod_of_nonneg hbd.k0];exact hk
 have HQR:=qh (QR.start2 w t ⟨4,0, .empty,none,0,0,none,0,0⟩ 36 73 36)
 have hR:leafP t= .mk 4 0 .empty [] [] :=by rw [leafP];simp [hk]
 rw [hR]
 clear h ht htk hp hbd hK hk hR
 go_enter Tryz.func36,Tryz.ntmps36
 generalize hQ0:bodyPost _ _ _=Q0
 have HQ:=qh hQ0
 clear hQ0
 go_wp2_with fail
 go_loopw [7,9,10,11] (fun u i _ _ wr=>u= .int .i64 1/\i= .int .u8 0/\QR w wr t ⟨4,0, .empty,none,0,0,none,0,0⟩) (fun _ _ _ _ _=>0)
 case atStart=>exact ⟨rfl,rfl,(HQR.out _ rfl).1⟩
 case round=>
  obtain ⟨rfl,rfl,L⟩:=hrel
  have k0:=L.tok.at_ 0 _ rfl;have k3:=L.tok.at_ 3 _ rfl
  obtain ⟨v0,v1,v2,v3,v4⟩:=row5 L.val.at_
  obtain ⟨r0,r1,r2,r3,r4⟩:=row5 L.res.at_
  have g0:=L.res.fr 0;have g1:=L.res.fr 1;have g2:=L.res.fr 2;have g3:=L.res.fr 3;have g4:=L.res.fr 4
  have zs2:=L.val.lt;have zs1:=L.tok.lt;have zs0:=L.res.lt
  have LB:=qh L
  clear L
  by_cases hK0:0<K
  all_goals
   go_wp2_with fail
   have ST:=LB.out.stored ⟨4,0, .empty,none,0,0,none,0,0⟩
   rw [<-HQ.out]
   exact Xk (c:=⟨4,0, .empty,none,0,0,none,0,0⟩) ST.1 ST.2.1 (Qg _ _ 4 0 .empty (by omega) (by omega) (by omega) (by omega) (by decide)) rfl rfl rfl
set_option maxRecDepth 100000 in
theorem zju (w:World) (t:Tk) (r:List Tk) (a:Option Addr) (n c:Nat) (h:IsToks w w.heap.size (t::r) a n c) (hk:t.k % 6=5):
 uP 36 #[.slice a n c, .int .i64 6] w (RawPost w (leafP t,1)):=by
 delta uP
 obtain ⟨b,o,hp,rfl,hb,htk,hbd⟩:=h.get (k:=0) (by have:=h.len;rw [this];simp)
 have ht:TkAt w b o t:=by simpa using htk
 replace hbd:t.Bnd:=by simpa using hbd
 have c0:=ht.c0;have c1:=ht.c1;have c2:=ht.c2;have c3:=ht.c3
 have b2:=hbd.m0;have b3:=hbd.m1
 have hnp:0<n:=by rw [h.len];simp
 have hne:((n:Int)==0)=false:=by simp;omega
 obtain ⟨K,hK⟩:∃K:Nat,(t.m % 4).toNat=K:=⟨_,rfl⟩
 have hK2:Int.tmod t.m 4=(K:Int):=by rw [Int.tmod_eq_emod_of_nonneg b2];omega
 have hk2:Int.tmod t.k 6=5:=by rw [Int.tmod_eq_emod_of_nonneg hbd.k0];exact hk
 have HQR:=qh (QR.start2 w t ⟨5,0, .empty,none,0,0,none,0,0⟩ 36 73 36)
 have hR:leafP t= .mk 5 0 .empty [] [] :=by rw [leafP];simp [hk]
 rw [hR]
 clear h ht htk hp hbd hK hk hR
 go_enter Tryz.func36,Tryz.ntmps36
 generalize hQ0:bodyPost _ _ _=Q0
 have HQ:=qh hQ0
 clear hQ0
 go_wp2_with fail
 go_loopw [7,13,14,15,16] (fun u i _ _ _ wr=>u= .int .i64 1/\i= .int .u8 0/\QR w wr t ⟨5,0, .empty,none,0,0,none,0,0⟩) (fun _ _ _ _ _ _=>0)
 case atStart=>exact ⟨rfl,rfl,(HQR.out _ rfl).1⟩
 case round=>
  obtain ⟨rfl,rfl,L⟩:=hrel
  have k0:=L.tok.at_ 0 _ rfl;have k3:=L.tok.at_ 3 _ rfl
  obtain ⟨v0,v1,v2,v3,v4⟩:=row5 L.val.at_
  obtain ⟨r0,r1,r2,r3,r4⟩:=row5 L.res.at_
  have g0:=L.res.fr 0;have g1:=L.res.fr 1;have g2:=L.res.fr 2;have g3:=L.res.fr 3;have g4:=L.res.fr 4
  have zs2:=L.val.lt;have zs1:=L.tok.lt;have zs0:=L.res.lt
  have LB:=qh L
  clear L
  by_cases hK0:0<K
  all_goals
   go_wp2_with fail
   have ST:=LB.out.stored ⟨5,0, .empty,none,0,0,none,0,0⟩
   rw [<-HQ.out]
   exact Xk (c:=⟨5,0, .empty,none,0,0,none,0,0⟩) ST.1 ST.2.1 (Qg _ _ 5 0 .empty (by omega) (by omega) (by omega) (by omega) (by decide)) rfl rfl rfl
theorem zll (k:Int):k % 6=0∨k % 6=1∨k % 6=2∨k % 6=3∨k % 6=4∨k % 6=5:=by omega
theorem zey (w:World) (dd:Int) (t:Tk) (r:List Tk) (a:Option Addr) (n c:Nat) (h:IsToks w w.heap.size (t::r) a n c) (h4:¬t.k % 6=4) (h5:¬t.k % 6=5):
 uP 36 #[.slice a n c, .int .i64 dd] w (RawPost w (leafP t,1)):=by
 delta uP
 rcases zll t.k with hk|hk|hk|hk|hk|hk
 .exact zhf w dd t r a n c h hk
 .exact zn4 w dd t r a n c h hk
 .exact zi7 w dd t r a n c h hk
 .exact zqz w dd t r a n c h hk
 .exact absurd hk h4
 .exact absurd hk h5
end Go.Proofs.YtnjgbiachcfigaaGreatDoor
