/-
  Contracts of the functions that the law reaches: slices.Delete at Val and at Field, of a.
-/
import Derived.Test.YtnjgbiachcfigaaGreatDoorCt12
import Derived.Deep.CutBlock
import Derived.Shelf.Spec.SlicesInsert
namespace Go.Proofs.YtnjgbiachcfigaaGreatDoor
open Go.RowKit
set_option maxHeartbeats 8000000
theorem zhr {z:Array Value} (hz:0<z.size) (h:∀k,k<z.size->(z[k]!).oneCell'=true) (n:Nat):∀v ∈ (Builtin.zeroCells z n).toList,v.oneCell'=true:=by
 intro v hv
 simp only [Builtin.zeroCells,Array.toList_map,List.mem_map] at hv
 obtain ⟨k,_,rfl⟩:=hv
 exact h _ (Nat.mod_lt _ hz)
theorem zcn {α:Type} (L zs M:List α) (p q r:Nat) (hp:p<=q) (hq:q<=r) (hr:r<=L.length):
 (((L.take p++(L.take r).drop q++L.drop (p+((L.take r).drop q).length)).take (p+(r - q))++zs++M).take (p+(r - q)))=(L.take r).take p++(L.take r).drop q:=by
 have h1:(L.take p++(L.take r).drop q++L.drop (p+((L.take r).drop q).length)).take (p+(r - q))=L.take p++(L.take r).drop q:=by
  rw [List.take_left' (by simp;omega)]
 rw [h1,List.append_assoc,List.take_left' (by simp;omega),List.take_take,Nat.min_eq_left (by omega)]
theorem zci {P:Program} {ops:Array Oper} {o:Oper} {a:Act} {w:World} {K:Act->World->Prop} {Q:Exit->Act->World->Prop} {E:Prop}
 (hg:o.guard=none) (s x:Operand) (t:TypeId) (hop:o.op=Op.call { callee:=Callee.builtin Builtin.append,args:= #[s,x],argTypes:= #[t,t] })
 (v u:Value) (hs:a.eval s=v) (hx:a.eval x=u) {v':Value} {w':World} (hr:(Builtin.append_ #[t,t] o.type #[v,u]).run P w= .ok v' w') (hK:K (a.put o.dst v') w'):
 if Region.wanted o (yielded ops a.tmps)=true then Oper.wp P o a w K Q else E:=by
 have hw:Region.wanted o (yielded ops a.tmps)=true:=by simp [Region.wanted,hg]
 rw [if_pos hw]
 unfold Oper.wp
 simp [execOp,hop,resolve,invoke,builtin,hs,hx,hr,Result.andThen]
 exact hK
theorem zca {P:Program} (w:World) (t e ty:TypeId) (z:Value) (ht:P.underlying t=some (.slice e)) (hv:∀w,(zeroValue e).run P w= .ok z w) (g o n c:Nat) (cur:Array Value) (tc:TypeId) (hn:0<n) (hg:w.heap[g]? =some (.cells cur tc (0,0)))
 (hz:0<z.cells.size) (h1:∀k,k<z.cells.size->(z.cells[k]!).oneCell'=true) (hfit:o+n*z.cells.size<=cur.size):
 (Builtin.clear_ #[t] ty #[.slice (some ⟨g,o,none⟩) n c]).run P w= .ok (.tuple #[]) (w.setRow g (cur.toList.take o++(Builtin.zeroCells z.cells n).toList++cur.toList.drop (o+(Builtin.zeroCells z.cells n).toList.length)).toArray):=by
 have hst:=run_storeCells_at P g o tc (Builtin.zeroCells z.cells n).toList 0 cur w hg (by rw [Array.length_toList,size_zeroCells];simpa using hfit) (zhr hz h1 n)
 simp only [Nat.add_zero] at hst
 obtain ⟨m,rfl⟩:∃m,n=m+1:=⟨n - 1,by omega⟩
 simp [Builtin.clear_,run_underlying ht,hv,hst]
set_option maxRecDepth 100000 in
theorem zf2 (w:World) (base g n c i j:Nat) (cur:Array Value) (xs:List Value) (hbg:base<=g) (hg:w.heap[g]? =some (.cells cur 36 (0,0))) (hcur:cur.size=c*5) (hij:i<j) (hj:j<=n) (hnc:n<=c) (hc:c<=maxLen)
 (hxs:cur.toList.take (n*5)=xs) (h1:∀v ∈ xs,v.oneCell'=true):
 Calls Tryz.prog 123 #[.slice (some ⟨g,0,none⟩) n c, .int .i64 (i:Int), .int .i64 (j:Int)] w (RowPost w base 36 5 (.slice (some ⟨g,0,none⟩) n c) (i+(n - j)) (xs.take (i*5)++xs.drop (j*5))):=by
 obtain ⟨i0,hi0,hz0,hzs,hzb⟩:=info_parts Yc
 have hc63:c<=9223372036854775807:=by unfold maxLen at hc;omega
 have hcl:cur.toList.length=c*5:=by simpa using hcur
 have hxl:xs.length=n*5:=by rw [<-hxs,List.length_take,hcl];omega
 have hdl:(xs.drop (j*5)).length=(n - j)*5:=by rw [List.length_drop,hxl];omega
 have hcell:∀j v,xs[j]? =some v->cur[j]? =some v:=fun j v hj=>by
  rw [<-hxs,List.getElem?_take] at hj
  split at hj
  .simpa using hj
  .cases hj
 obtain ⟨A,hA,hsrc⟩:∃A:Addr,(if c=j then some (⟨g,0,none⟩:Addr) else some ⟨g,j*5,none⟩)=some A/\∀t u,(xs.drop (j*5))[t]? =some u->w.drew.cell? (A.add t)=some u:=by
  by_cases h:c=j
  .refine ⟨⟨g,0,none⟩,by simp [h],fun t u hu=> ?_⟩
   rw [List.drop_eq_nil_of_le (by omega)] at hu
   simp at hu
  .refine ⟨⟨g,j*5,none⟩,by simp [h],fun t u hu=> ?_⟩
   rw [List.getElem?_drop] at hu
   rw [Addr.add_lit]
   simp only [World.cell?,show w.drew.heap=w.heap from rfl,hg]
   simpa using hcell _ u hu
 have hap:∀ty cc,(Builtin.append_ #[33,33] ty #[.slice (some ⟨g,0,none⟩) i c, .slice (some A) (n - j) cc]).run Tryz.prog w.drew= .ok (.slice (some ⟨g,0,none⟩) (i+(n - j)) c) (w.drew.setRow g (cur.toList.take (i*5)++xs.drop (j*5)++cur.toList.drop (i*5+(xs.drop (j*5)).length)).toArray):=fun ty cc=>by
  have h:=run_append_room (P:=Tryz.prog) w.drew 33 ty 36 i0 Tryz.underlying33 hi0 g i c cur hg A (n - j) cc (xs.drop (j*5)) (by rw [hzs];exact hdl) hsrc (fun v hv=>h1 v (List.mem_of_mem_drop hv)) (by omega) (by rw [hzs,hdl,hcur];omega)
  rw [hzs] at h
  exact h
 obtain ⟨C1,hC1⟩:∃C1,C1=(cur.toList.take (i*5)++xs.drop (j*5)++cur.toList.drop (i*5+(xs.drop (j*5)).length)).toArray:=⟨_,rfl⟩
 rw [<-hC1] at hap
 have hC1s:C1.size=c*5:=by rw [hC1];simp only [List.size_toArray,List.length_append,List.length_take,hcl,hdl];rw [List.length_drop,hcl];omega
 obtain ⟨z,hzz,hzc,hzo⟩:∃z,i0.zero=some z/\z.cells.size=5/\∀k,k<z.cells.size->(z.cells[k]!).oneCell'=true:=⟨_,hz0,rfl,fun k hk=>by
  have:k<5:=hk
  rcases k with _|_|_|_|_|_|k<;>first|rfl|omega⟩
 have hzv:∀w,(zeroValue 36).run Tryz.prog w= .ok z w:=fun w=>by simp [zeroValue,typeInfo,hi0,hzz]
 have hgW:(w.drew.setRow g C1).heap[g]? =some (.cells C1 36 (0,0)):=setRow_heap w.drew g cur C1 36 (0,0) hg
 obtain ⟨W1,hW1⟩:∃W1,w.drew.setRow g C1=W1:=⟨_,rfl⟩
 have hcr:∀ty,(Builtin.clear_ #[33] ty #[.slice (some ⟨g,(i+(n - j))*5,none⟩) (n - (i+(n - j))) (c - (i+(n - j)))]).run Tryz.prog W1= .ok (.tuple #[]) (W1.setRow g (C1.toList.take ((i+(n - j))*5)++(Builtin.zeroCells z.cells (n - (i+(n - j)))).toList++C1.toList.drop ((i+(n - j))*5+(Builtin.zeroCells z.cells (n - (i+(n - j)))).toList.length)).toArray):=fun ty=>
  zca W1 33 36 ty z Tryz.underlying33 hzv g ((i+(n - j))*5) (n - (i+(n - j))) _ C1 36 (by omega) (by rw [<-hW1];exact hgW) (by omega) hzo (by rw [hzc,hC1s];omega)
 obtain ⟨zs,hzs'⟩:∃zs,(Builtin.zeroCells z.cells (n - (i+(n - j)))).toList=zs:=⟨_,rfl⟩
 have hzl:zs.length=(n - (i+(n - j)))*5:=by rw [<-hzs',Array.length_toList,size_zeroCells,hzc]
 rw [hzs'] at hcr
 obtain ⟨C2,hC2⟩:∃C2,C2=(C1.toList.take ((i+(n - j))*5)++zs++C1.toList.drop ((i+(n - j))*5+zs.length)).toArray:=⟨_,rfl⟩
 rw [<-hC2] at hcr
 have hC2s:C2.size=c*5:=by
  have:C1.toList.length=c*5:=by simpa using hC1s
  rw [hC2];simp only [List.size_toArray,List.length_append,List.length_take,List.length_drop,this,hzl];omega
 have hC2t:C2.toList.take ((i+(n - j))*5)=xs.take (i*5)++xs.drop (j*5):=by
  have h:=zcn cur.toList zs (C1.toList.drop ((i+(n - j))*5+zs.length)) (i*5) (j*5) (n*5) (by omega) (by omega) (by omega)
  rw [hxs] at h
  rw [hC2,show (i+(n - j))*5=i*5+(n*5 - j*5) by omega]
  rw [show (i+(n - j))*5=i*5+(n*5 - j*5) by omega] at h
  rw [hC1] at h ⊢
  exact h
 have HS:=qh hC2s;have HT:=qh hC2t;have HL:=qh hxl;have HGW:=qh hgW
 obtain ⟨R,hR⟩:∃R,RowPost w base 36 5 (.slice (some ⟨g,0,none⟩) n c) (i+(n - j)) (xs.take (i*5)++xs.drop (j*5))=R:=⟨_,rfl⟩
 have HR:=qh hR
 have mixed:Tryz.prog.follows .mixedOrders=true:=by kernel_rfl
 have HW1:=qh hW1
 have HAP:=qh hap
 rw [hR]
 have hz1:¬((i:Int)=(j:Int)):=by omega
 have hz2:¬(c=i):=by omega
 have hz3:¬(c=i+(n - j)):=by omega
 have hic:i<=c:=by omega
 have hjc:j<=c:=by omega
 have hij2:i<=j:=by omega
 clear hR hC2s hC2t hC1s hC1 hC2 hxs hdl hxl hcl hzz hzo hzc hzv hsrc hcell hap hgW hW1 hzs' hzl
 go_enter Tryz.func123,Tryz.ntmps123
 go_wp2_with fail
 go_region_law_o (refine zci rfl _ _ 33 rfl (.slice (some ⟨g,0,none⟩) i c) (.slice (some A) (n - j) (c - j)) (by simp [Act.eval,Act.put]) (by simp [Act.eval,Act.put]) (HAP.out _ _) ?_)
 rw [HW1.out]
 go_wp2_with fail
 rw [<-HR.out]
 exact ⟨_,rfl,⟨by simp only [List.length_append,List.length_take,List.length_drop,HL.out];omega, .inr ⟨g,c,C2,rfl,hbg,setRow_heap W1 g C1 C2 36 (0,0) (by rw [<-HW1.out];exact HGW.out),by omega,hc,HS.out,HT.out⟩⟩,
  by rw [<-HW1.out];exact ⟨rfl,rfl,rfl,by simp,fun k hk hne=>(setRow_other _ g k _ (fun e=>hne (by rw [e];rfl))).trans (setRow_other w.drew g k _ (fun e=>hne (by rw [e];rfl)))⟩, .inl rfl⟩
theorem zbb (w:World) (base n i:Nat) (u:Value) (xs:List Value) (hown:w.ownsRow base 36 5 u n xs) (hi:i<n) (h1:∀v ∈ xs,v.oneCell'=true):
 Calls Tryz.prog 123 #[u, .int .i64 (i:Int), .int .i64 ((i:Int)+1)] w (RowPost w base 36 5 u (n - 1) (xs.take (i*5)++xs.drop ((i+1)*5))):=by
 rcases hown.2 with ⟨rfl,h0⟩|⟨g,c,cur,rfl,hbg,hg,hnc,hcm,hcs,htk⟩
 .omega
 .have h:=zf2 w base g n c i (i+1) cur xs hbg hg hcs (by omega) (by omega) hnc hcm htk h1
  rw [show i+(n - (i+1))=n - 1 by omega] at h
  exact h
set_option maxRecDepth 100000 in
theorem zid (w:World) (base g n c i j:Nat) (cur:Array Value) (xs:List Value) (hbg:base<=g) (hg:w.heap[g]? =some (.cells cur 75 (0,0))) (hcur:cur.size=c*6) (hij:i<j) (hj:j<=n) (hnc:n<=c) (hc:c<=maxLen)
 (hxs:cur.toList.take (n*6)=xs) (h1:∀v ∈ xs,v.oneCell'=true):
 Calls Tryz.prog 80 #[.slice (some ⟨g,0,none⟩) n c, .int .i64 (i:Int), .int .i64 (j:Int)] w (RowPost w base 75 6 (.slice (some ⟨g,0,none⟩) n c) (i+(n - j)) (xs.take (i*6)++xs.drop (j*6))):=by
 obtain ⟨i0,hi0,hz0,hzs,hzb⟩:=info_parts Ya
 have hc63:c<=9223372036854775807:=by unfold maxLen at hc;omega
 have hcl:cur.toList.length=c*6:=by simpa using hcur
 have hxl:xs.length=n*6:=by rw [<-hxs,List.length_take,hcl];omega
 have hdl:(xs.drop (j*6)).length=(n - j)*6:=by rw [List.length_drop,hxl];omega
 have hcell:∀j v,xs[j]? =some v->cur[j]? =some v:=fun j v hj=>by
  rw [<-hxs,List.getElem?_take] at hj
  split at hj
  .simpa using hj
  .cases hj
 obtain ⟨A,hA,hsrc⟩:∃A:Addr,(if c=j then some (⟨g,0,none⟩:Addr) else some ⟨g,j*6,none⟩)=some A/\∀t u,(xs.drop (j*6))[t]? =some u->w.drew.cell? (A.add t)=some u:=by
  by_cases h:c=j
  .refine ⟨⟨g,0,none⟩,by simp [h],fun t u hu=> ?_⟩
   rw [List.drop_eq_nil_of_le (by omega)] at hu
   simp at hu
  .refine ⟨⟨g,j*6,none⟩,by simp [h],fun t u hu=> ?_⟩
   rw [List.getElem?_drop] at hu
   rw [Addr.add_lit]
   simp only [World.cell?,show w.drew.heap=w.heap from rfl,hg]
   simpa using hcell _ u hu
 have hap:∀ty cc,(Builtin.append_ #[34,34] ty #[.slice (some ⟨g,0,none⟩) i c, .slice (some A) (n - j) cc]).run Tryz.prog w.drew= .ok (.slice (some ⟨g,0,none⟩) (i+(n - j)) c) (w.drew.setRow g (cur.toList.take (i*6)++xs.drop (j*6)++cur.toList.drop (i*6+(xs.drop (j*6)).length)).toArray):=fun ty cc=>by
  have h:=run_append_room (P:=Tryz.prog) w.drew 34 ty 75 i0 Tryz.underlying34 hi0 g i c cur hg A (n - j) cc (xs.drop (j*6)) (by rw [hzs];exact hdl) hsrc (fun v hv=>h1 v (List.mem_of_mem_drop hv)) (by omega) (by rw [hzs,hdl,hcur];omega)
  rw [hzs] at h
  exact h
 obtain ⟨C1,hC1⟩:∃C1,C1=(cur.toList.take (i*6)++xs.drop (j*6)++cur.toList.drop (i*6+(xs.drop (j*6)).length)).toArray:=⟨_,rfl⟩
 rw [<-hC1] at hap
 have hC1s:C1.size=c*6:=by rw [hC1];simp only [List.size_toArray,List.length_append,List.length_take,hcl,hdl];rw [List.length_drop,hcl];omega
 obtain ⟨z,hzz,hzc,hzo⟩:∃z,i0.zero=some z/\z.cells.size=6/\∀k,k<z.cells.size->(z.cells[k]!).oneCell'=true:=⟨_,hz0,rfl,fun k hk=>by
  have:k<6:=hk
  rcases k with _|_|_|_|_|_|k<;>first|rfl|omega⟩
 have hzv:∀w,(zeroValue 75).run Tryz.prog w= .ok z w:=fun w=>by simp [zeroValue,typeInfo,hi0,hzz]
 have hgW:(w.drew.setRow g C1).heap[g]? =some (.cells C1 75 (0,0)):=setRow_heap w.drew g cur C1 75 (0,0) hg
 obtain ⟨W1,hW1⟩:∃W1,w.drew.setRow g C1=W1:=⟨_,rfl⟩
 have hcr:∀ty,(Builtin.clear_ #[34] ty #[.slice (some ⟨g,(i+(n - j))*6,none⟩) (n - (i+(n - j))) (c - (i+(n - j)))]).run Tryz.prog W1= .ok (.tuple #[]) (W1.setRow g (C1.toList.take ((i+(n - j))*6)++(Builtin.zeroCells z.cells (n - (i+(n - j)))).toList++C1.toList.drop ((i+(n - j))*6+(Builtin.zeroCells z.cells (n - (i+(n - j)))).toList.length)).toArray):=fun ty=>
  zca W1 34 75 ty z Tryz.underlying34 hzv g ((i+(n - j))*6) (n - (i+(n - j))) _ C1 75 (by omega) (by rw [<-hW1];exact hgW) (by omega) hzo (by rw [hzc,hC1s];omega)
 obtain ⟨zs,hzs'⟩:∃zs,(Builtin.zeroCells z.cells (n - (i+(n - j)))).toList=zs:=⟨_,rfl⟩
 have hzl:zs.length=(n - (i+(n - j)))*6:=by rw [<-hzs',Array.length_toList,size_zeroCells,hzc]
 rw [hzs'] at hcr
 obtain ⟨C2,hC2⟩:∃C2,C2=(C1.toList.take ((i+(n - j))*6)++zs++C1.toList.drop ((i+(n - j))*6+zs.length)).toArray:=⟨_,rfl⟩
 rw [<-hC2] at hcr
 have hC2s:C2.size=c*6:=by
  have:C1.toList.length=c*6:=by simpa using hC1s
  rw [hC2];simp only [List.size_toArray,List.length_append,List.length_take,List.length_drop,this,hzl];omega
 have hC2t:C2.toList.take ((i+(n - j))*6)=xs.take (i*6)++xs.drop (j*6):=by
  have h:=zcn cur.toList zs (C1.toList.drop ((i+(n - j))*6+zs.length)) (i*6) (j*6) (n*6) (by omega) (by omega) (by omega)
  rw [hxs] at h
  rw [hC2,show (i+(n - j))*6=i*6+(n*6 - j*6) by omega]
  rw [show (i+(n - j))*6=i*6+(n*6 - j*6) by omega] at h
  rw [hC1] at h ⊢
  exact h
 have HS:=qh hC2s;have HT:=qh hC2t;have HL:=qh hxl;have HGW:=qh hgW
 obtain ⟨R,hR⟩:∃R,RowPost w base 75 6 (.slice (some ⟨g,0,none⟩) n c) (i+(n - j)) (xs.take (i*6)++xs.drop (j*6))=R:=⟨_,rfl⟩
 have HR:=qh hR
 have mixed:Tryz.prog.follows .mixedOrders=true:=by kernel_rfl
 have HW1:=qh hW1
 have HAP:=qh hap
 rw [hR]
 have hz1:¬((i:Int)=(j:Int)):=by omega
 have hz2:¬(c=i):=by omega
 have hz3:¬(c=i+(n - j)):=by omega
 have hic:i<=c:=by omega
 have hjc:j<=c:=by omega
 have hij2:i<=j:=by omega
 clear hR hC2s hC2t hC1s hC1 hC2 hxs hdl hxl hcl hzz hzo hzc hzv hsrc hcell hap hgW hW1 hzs' hzl
 go_enter Tryz.func80,Tryz.ntmps80
 go_wp2_with fail
 go_region_law_o (refine zci rfl _ _ 34 rfl (.slice (some ⟨g,0,none⟩) i c) (.slice (some A) (n - j) (c - j)) (by simp [Act.eval,Act.put]) (by simp [Act.eval,Act.put]) (HAP.out _ _) ?_)
 rw [HW1.out]
 go_wp2_with fail
 rw [<-HR.out]
 exact ⟨_,rfl,⟨by simp only [List.length_append,List.length_take,List.length_drop,HL.out];omega, .inr ⟨g,c,C2,rfl,hbg,setRow_heap W1 g C1 C2 75 (0,0) (by rw [<-HW1.out];exact HGW.out),by omega,hc,HS.out,HT.out⟩⟩,
  by rw [<-HW1.out];exact ⟨rfl,rfl,rfl,by simp,fun k hk hne=>(setRow_other _ g k _ (fun e=>hne (by rw [e];rfl))).trans (setRow_other w.drew g k _ (fun e=>hne (by rw [e];rfl)))⟩, .inl rfl⟩
theorem zim (w:World) (base n i:Nat) (u:Value) (xs:List Value) (hown:w.ownsRow base 75 6 u n xs) (hi:i<n) (h1:∀v ∈ xs,v.oneCell'=true):
 Calls Tryz.prog 80 #[u, .int .i64 (i:Int), .int .i64 ((i:Int)+1)] w (RowPost w base 75 6 u (n - 1) (xs.take (i*6)++xs.drop ((i+1)*6))):=by
 rcases hown.2 with ⟨rfl,h0⟩|⟨g,c,cur,rfl,hbg,hg,hnc,hcm,hcs,htk⟩
 .omega
 .have h:=zid w base g n c i (i+1) cur xs hbg hg hcs (by omega) (by omega) hnc hcm htk h1
  rw [show i+(n - (i+1))=n - 1 by omega] at h
  exact h
theorem zhf {cl:List VC} {i:Nat} (hi:i<cl.length) {j:Nat} {v:Value} (h:(vcells cl[i])[j]? =some v):(cl.flatMap vcells)[i*5+j]? =some v:=by
 rw [<-List.getElem?_drop,Kh,List.drop_eq_getElem_cons hi,List.flatMap_cons,List.getElem?_append_left (List.getElem?_eq_some_iff.1 h).1]
 exact h
theorem VRow.at_ {w:World} {base i:Nat} {u:Value} {l:List V} {cl:List VC} (h:VRow w base u l cl) (hi:i<l.length) (hi':i<cl.length):
 ∃g cap,u= .slice (some ⟨g,0,none⟩) l.length cap/\base<=g/\g<w.heap.size/\l.length<=cap/\cap<=maxLen/\ValAt w g (i*5) cl[i] /\∀q,w.frozen? ⟨g,q,none⟩=false:=by
 rcases h.own.2 with ⟨rfl,h0⟩|⟨g,cap,cur,rfl,hbg,hg,hnc,hcm,hcs,htk⟩
 .omega
 .have hc:∀j v,(vcells cl[i])[j]? =some v->w.cell? ⟨g,i*5+j,none⟩=some v:=fun j v hj=>by
   have:=h.own.cells (g:=g) rfl (i*5+j) v (zhf hi' hj)
   rw [Addr.add_lit,Nat.zero_add] at this;exact this
  refine ⟨g,cap,rfl,hbg,(Array.getElem?_eq_some_iff.1 hg).1,hnc,hcm,⟨hc 0 _ rfl,hc 1 _ rfl,hc 2 _ rfl,hc 3 _ rfl,hc 4 _ rfl⟩,fun q=>by simp [World.frozen?,hg]⟩
theorem VRow.set {w:World} {base g i cap:Nat} {l:List V} {cl:List VC} {x:V} {cx:VC} (h:VRow w base (.slice (some ⟨g,0,none⟩) l.length cap) l cl) (hi:i<l.length) (hx:IsVal (only (fun k=>base<=k/\(Value.slice (some ⟨g,0,none⟩) l.length cap).ownBlock≠some k) w) w.heap.size x cx):
 VRow (setV w g (i*5) cx) base (.slice (some ⟨g,0,none⟩) l.length cap) (l.set i x) (cl.set i cx):=by
 have hl:=h.len
 have st:=Zi w g (i*5) cx
 have mv:∀ {y:V} {c:VC},IsVal (only (fun k=>base<=k/\(Value.slice (some ⟨g,0,none⟩) l.length cap).ownBlock≠some k) w) w.heap.size y c->IsVal (only (fun k=>base<=k/\(Value.slice (some ⟨g,0,none⟩) l.length cap).ownBlock≠some k) (setV w g (i*5) cx)) (setV w g (i*5) cx).heap.size y c:=fun hy=>
  hy.rowed (u:= .slice (some ⟨g,0,none⟩) l.length cap) (u':= .slice (some ⟨g,0,none⟩) l.length cap) st.grown (.inl rfl)
 refine ⟨by simp [hl],by rw [List.length_set];exact zbr h.own (by omega) cx,fun k hk hk'=> ?_⟩
 rw [List.length_set] at hk hk'
 by_cases e:i=k
 .subst e
  rw [List.getElem_set_self,List.getElem_set_self]
  exact mv hx
 .rw [List.getElem_set_ne e,List.getElem_set_ne e]
  exact mv (h.els k hk hk')
end Go.Proofs.YtnjgbiachcfigaaGreatDoor
