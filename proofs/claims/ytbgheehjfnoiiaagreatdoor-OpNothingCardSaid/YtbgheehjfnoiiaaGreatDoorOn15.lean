/-
  Contracts of the functions that the law reaches: slices.Insert at Val and at Field, of.
-/
import Derived.Test.YtbgheehjfnoiiaaGreatDoorOn7
import Derived.Deep.CutBlock
import Derived.Lib.Overlaps
import Derived.Laws.Externs
import Derived.Lib.AppendZerosOnto
import Derived.Shelf.Spec.SlicesInsert
namespace Go.Proofs.YtbgheehjfnoiiaaGreatDoor
open Go.RowKit
set_option maxHeartbeats 8000000
set_option maxRecDepth 100000 in
theorem zi7 (w:World) (base g n c i vb:Nat) (cur:Array Value) (tv:TypeId) (vs:List Value) (xs:List Value) (hbg:base<=g) (hg:w.heap[g]? =some (.cells cur 29 (0,0))) (hcur:cur.size=c*5) (hi:i<n) (hroom:n+1<=c) (hc:c<=maxLen)
 (hvb:w.heap[vb]? =some (.cells vs.toArray tv (0,0))) (hne:vb≠g) (hvl:vs.length=5) (h1v:∀v ∈ vs,v.oneCell'=true) (hxs:cur.toList.take (n*5)=xs) (h1:∀v ∈ xs,v.oneCell'=true):
 uP 155 #[.slice (some ⟨g,0,none⟩) n c, .int .i64 (i:Int), .slice (some ⟨vb,0,none⟩) 1 1] w (RowPost w base 29 5 (.slice (some ⟨g,0,none⟩) n c) (n+1) (xs.take (i*5)++vs++xs.drop (i*5))):=by
 delta uP
 obtain ⟨i0,hi0,hz0,hzs,hzb⟩:=info_parts Z9
 have hsz:(Tryz.prog.info? 29).map (·.size)=some 5:=by rw [hi0];simp [hzs]
 have hc63:c<=9223372036854775807:=by unfold maxLen at hc;omega
 have hz2:¬((i:Int)=(n:Int)):=by omega
 have hz3:¬((c:Int)<(n:Int)+1):=by omega
 have hcl:cur.toList.length=c*5:=by simpa using hcur
 have hxl:xs.length=n*5:=by rw [<-hxs,List.length_take,hcl];omega
 have hfz:∀k,w.frozen? ⟨vb,k,none⟩=false:=fun k=>by simp [World.frozen?,hvb]
 have hov:∀lb cb,(callFunc 175 #[.slice (some ⟨vb,0,none⟩) 1 1, .slice (some ⟨g,(i+1)*5,none⟩) lb cb]).run Tryz.prog w= .ok (.value (.bool false)) w:=fun lb cb=>by
  rw [run_callFunc_extern Tryz.func175 (by kernel_rfl) (by kernel_rfl) (by kernel_rfl) (e:=Extern.SlicesOverlaps.overlaps #[26,26] #[4]) (by kernel_rfl),
   Lib.run_overlaps_apart w 26 4 29 Tryz.underlying26 5 (fun w=>by simp [sizeOf,typeInfo,hi0,hzs]) ⟨vb,0,none⟩ ⟨g,(i+1)*5,none⟩ 1 1 lb cb hne tv 29 vs.length (c*5) (by simp [World.shape?,hvb]) (by simp [World.shape?,hg,hcur]) (by omega) (hfz _) (hfz _)]
  rfl
 have hdl:(xs.drop (i*5)).length=(n - i)*5:=by rw [List.length_drop,hxl];omega
 have hcp1:∀W,W.heap=w.heap->∀ty dc sc,(Builtin.copy_ #[26,26] ty #[.slice (some ⟨g,(i+1)*5,none⟩) (n - i) dc, .slice (some ⟨g,i*5,none⟩) (n+1 - i) sc]).run Tryz.prog W= .ok (goInt ((n - i:Nat))) (W.setRow g (cur.toList.take ((i+1)*5)++xs.drop (i*5)++cur.toList.drop ((i+1)*5+(xs.drop (i*5)).length)).toArray):=fun W hW ty dc sc=>
  Xb W _ _ ty 29 5 g ((i+1)*5) (n - i) dc ⟨g,i*5,none⟩ (n+1 - i) sc cur 29 (xs.drop (i*5)) Tryz.underlying26 hsz (by rw [hW];exact hg) (n - i) (by simp only [Nat.min_def];split<;>omega) hdl
   (fun j v hj=>by
    rw [Addr.add_lit]
    simp only [World.cell?,hW,hg]
    rw [List.getElem?_drop, <-hxs,List.getElem?_take] at hj
    split at hj
    .simpa using hj
    .cases hj)
   (by rw [hdl,hcur];omega) (fun v hv=>h1 v (List.mem_of_mem_drop hv))
 obtain ⟨C1,hC1⟩:∃C1,C1=(cur.toList.take ((i+1)*5)++xs.drop (i*5)++cur.toList.drop ((i+1)*5+(xs.drop (i*5)).length)).toArray:=⟨_,rfl⟩
 rw [<-hC1] at hcp1
 have hC1s:C1.size=c*5:=by rw [hC1];simp only [List.size_toArray,List.length_append,List.length_take,List.length_drop,hcl,hxl];omega
 have hcp2:∀W,W.heap[g]? =some (.cells C1 29 (0,0))->W.heap[vb]? =some (.cells vs.toArray tv (0,0))->∀ty dc,(Builtin.copy_ #[26,26] ty #[.slice (some ⟨g,i*5,none⟩) (n+1 - i) dc, .slice (some ⟨vb,0,none⟩) 1 1]).run Tryz.prog W= .ok (goInt (1:Nat)) (W.setRow g (C1.toList.take (i*5)++vs++C1.toList.drop (i*5+vs.length)).toArray):=fun W hWg hWv ty dc=>
  Xb W _ _ ty 29 5 g (i*5) (n+1 - i) dc ⟨vb,0,none⟩ 1 1 C1 29 vs Tryz.underlying26 hsz hWg 1 (by simp only [Nat.min_def];split<;>omega) (by omega)
   (fun j v hj=>by rw [Addr.add_lit];simp only [World.cell?,hWv];simpa using hj)
   (by omega) h1v
 have hfin:(C1.toList.take (i*5)++vs++C1.toList.drop (i*5+vs.length)).take ((n+1)*5)=xs.take (i*5)++vs++xs.drop (i*5):=by
  have h:=zab cur.toList vs (i*5) (n*5) (by omega) (by omega)
  rw [hxs] at h
  rw [hC1]
  rw [hdl,show (i+1)*5+(n - i)*5=n*5+vs.length by omega,show (i+1)*5=i*5+vs.length by omega,show (n+1)*5=n*5+vs.length by omega]
  exact h
 have hfs:(C1.toList.take (i*5)++vs++C1.toList.drop (i*5+vs.length)).toArray.size=c*5:=by
  have:C1.toList.length=c*5:=by simpa using hC1s
  simp only [List.size_toArray,List.length_append,List.length_take,List.length_drop,this];omega
 have hC2g:(w.drew.setRow g C1).heap[g]? =some (.cells C1 29 (0,0)):=setRow_heap w.drew g cur C1 29 (0,0) hg
 have hC2v:(w.drew.setRow g C1).heap[vb]? =some (.cells vs.toArray tv (0,0)):=(setRow_other w.drew g vb C1 hne).trans hvb
 have HF:=qh hfin;have HS:=qh hfs;have HG2:=qh hC2g;have HL:=qh hxl;have HV:=qh hvl
 obtain ⟨R,hR⟩:∃R,RowPost w base 29 5 (.slice (some ⟨g,0,none⟩) n c) (n+1) (xs.take (i*5)++vs++xs.drop (i*5))=R:=⟨_,rfl⟩
 have HR:=qh hR
 rw [hR]
 have hw1:IntKind.i64.wrap ((i:Int)+(1:Int))=(i:Int)+(1:Int):=by rw [IntKind.wrap_i64];omega
 have hb1:(0:Int)<=(i:Int)+(1:Int):=by omega
 have hin:i<=n:=by omega
 have htn:((i:Int)+(1:Int)).toNat=i+1:=by omega
 have hb2:¬(c=i+1):=by omega
 have hb3:(i:Int)<=(n:Int)+(1:Int):=by omega
 have hb4:¬(c=i):=by omega
 clear hR hfin hfs hC1s hC1 hxs hvl hdl hxl hcl
 have mixed:Tryz.prog.follows .mixedOrders=true:=by kernel_rfl
 go_enter Tryz.func155,Tryz.ntmps155
 go_wp2_with (simp only [hov])
 go_region_law_o (refine step_copy_runI rfl _ _ 26 26 rfl (.slice (some ⟨g,(i+1)*5,none⟩) (n - i) (c - (i+1))) (.slice (some ⟨g,i*5,none⟩) (n+1 - i) (c - i)) (by simp [Act.eval,Act.put]) (by simp [Act.eval,Act.put]) (hcp1 w.drew rfl _ _ _) ?_)
 obtain ⟨W1,hW1⟩:∃W1,w.drew.setRow g C1=W1:=⟨_,rfl⟩
 rw [hW1] at hC2g hC2v ⊢
 go_wp2_with (at_builtin;refine wpList_copy_runI _ rfl _ _ 26 26 rfl _ _ rfl rfl (hcp2 _ hC2g hC2v _ _) ?_)
 rw [<-HR.out, <-List.append_assoc]
 exact ⟨_,rfl,⟨by simp only [List.length_append,List.length_take,List.length_drop,HL.out,HV.out];omega, .inr ⟨g,c,_,rfl,hbg,setRow_heap W1 g C1 _ 29 (0,0) hC2g,hroom,hc,HS.out,HF.out⟩⟩,
  by subst hW1;exact ⟨rfl,rfl,rfl,by simp,fun k hk hne=>(setRow_other _ g k _ (fun e=>hne (by rw [e];rfl))).trans (setRow_other w.drew g k _ (fun e=>hne (by rw [e];rfl)))⟩, .inl rfl⟩
set_option maxRecDepth 100000 in
theorem zj5 (w:World) (base n vb:Nat) (tv:TypeId) (u:Value) (vs:List Value) (xs:List Value) (hown:w.ownsRow base 29 5 u n xs) (hB:base<=w.heap.size) (hn:n+1<=1466015503701)
 (hvb:w.heap[vb]? =some (.cells vs.toArray tv (0,0))) (hvl:vs.length=5) (h1v:∀v ∈ vs,v.oneCell'=true):
 uP 155 #[u, .int .i64 (n:Int), .slice (some ⟨vb,0,none⟩) 1 1] w (RowPost w base 29 5 u (n+1) (xs.take (n*5)++vs++xs.drop (n*5))):=by
 delta uP
 obtain ⟨i0,hi0,hz0,hzs,hzb⟩:=info_parts Z9
 have hxl:xs.length=n*5:=hown.1
 rw [List.take_of_length_le (by omega),List.drop_eq_nil_of_le (by omega),List.append_nil]
 have hnews:∀j v,vs[j]? =some v->w.cell? ((⟨vb,0,none⟩:Addr).add j)=some v:=fun j v hj=>by
  rw [Addr.add_lit];simp only [World.cell?,hvb];simpa using hj
 obtain ⟨R,hR⟩:∃R,RowPost w base 29 5 u (n+1) (xs++vs)=R:=⟨_,rfl⟩
 have HR:=qh hR
 rw [hR]
 have HO:=qh hown
 have hf:∃(ba:Option Addr) (cc:Nat),u= .slice ba n cc/\n<=cc/\cc<=maxLen/\∀z,ba=some z->z.spot=none:=by
  rcases hown.2 with ⟨rfl,rfl⟩|⟨g,cap,cur,rfl,_,_,h3,h4,_⟩
  .exact ⟨none,0,rfl,Nat.le_refl _,Nat.zero_le _,fun z hz=>by cases hz⟩
  .exact ⟨_,cap,rfl,h3,h4,fun z hz=>by cases hz;rfl⟩
 obtain ⟨ba,cc,rfl,hcc,hcm,hsp⟩:=hf
 have hcc63:cc<=9223372036854775807:=by unfold maxLen at hcm;omega
 have mixed:Tryz.prog.follows .mixedOrders=true:=by kernel_rfl
 clear hR hown hxl
 have hfin:∀v' w',w'.ownsRow base 29 5 v' (n+1) (xs++vs)->w.grownBy w' (Value.slice ba n cc).ownBlock->(v'.ownBlock=(Value.slice ba n cc).ownBlock∨v'.ownBlock=some w.heap.size)->R (.returned v') w':=fun v' w' h1 h2 h3=>by
  rw [<-HR.out];exact ⟨v',rfl,h1,h2,h3⟩
 have HFIN:=qh hfin
 clear hfin
 have hd:n*5 - n*5=0:=by omega
 rcases ba with _|⟨g,o,sp⟩
 .go_enter Tryz.func155,Tryz.ntmps155
  go_wp2_with (at_builtin;refine wpList_append_own_at _ rfl (.tmp 23) (.tmp 24) 26 (by rfl) base 29 i0 _ 5 80 Tryz.underlying26 hi0 hz0 hzs hzb rfl (by omega) _ n xs (by rfl) HO.out ⟨vb,0,none⟩ 1 1 vs (by rfl) (by omega) hnews h1v (by unfold maxLen;omega) (by omega) hB ?_;intro v' w1 hown' hgrow _ hat)
  exact HFIN.out _ _ hown' hgrow hat
 .obtain rfl:sp=none:=hsp _ rfl
  go_enter Tryz.func155,Tryz.ntmps155
  go_wp2_with (at_builtin;refine wpList_append_own_at _ rfl (.tmp 23) (.tmp 24) 26 (by rfl) base 29 i0 _ 5 80 Tryz.underlying26 hi0 hz0 hzs hzb rfl (by omega) _ n xs (by rfl) HO.out ⟨vb,0,none⟩ 1 1 vs (by rfl) (by omega) hnews h1v (by unfold maxLen;omega) (by omega) hB ?_;intro v' w1 hown' hgrow _ hat)
  all_goals exact HFIN.out _ _ hown' hgrow hat
set_option maxRecDepth 100000 in
theorem zlv (w:World) (base g n c i vb:Nat) (cur:Array Value) (tv:TypeId) (vs:List Value) (xs:List Value) (hB:base<=w.heap.size) (hg:w.heap[g]? =some (.cells cur 29 (0,0))) (hcur:cur.size=c*5) (hi:i<n) (hnc:n<=c) (hroom:c<n+1) (hn:n+1<=1466015503701)
 (hvb:w.heap[vb]? =some (.cells vs.toArray tv (0,0))) (hvl:vs.length=5) (h1v:∀v ∈ vs,v.oneCell'=true) (hxs:cur.toList.take (n*5)=xs) (h1:∀v ∈ xs,v.oneCell'=true):
 uP 155 #[.slice (some ⟨g,0,none⟩) n c, .int .i64 (i:Int), .slice (some ⟨vb,0,none⟩) 1 1] w (RowPost w base 29 5 (.slice (some ⟨g,0,none⟩) n c) (n+1) (xs.take (i*5)++vs++xs.drop (i*5))):=by
 delta uP
 obtain ⟨i0,hi0,hz0,hzs,hzb⟩:=info_parts Z9
 have hsz:(Tryz.prog.info? 29).map (·.size)=some 5:=by rw [hi0];simp [hzs]
 have hcl:cur.toList.length=c*5:=by simpa using hcur
 have hxl:xs.length=n*5:=by rw [<-hxs,List.length_take,hcl];omega
 have hgw:g<w.heap.size:=(Array.getElem?_eq_some_iff.1 hg).1
 have hvw:vb<w.heap.size:=(Array.getElem?_eq_some_iff.1 hvb).1
 have hcell:∀j v,xs[j]? =some v->cur[j]? =some v:=fun j v hj=>by
  rw [<-hxs,List.getElem?_take] at hj
  split at hj
  .simpa using hj
  .cases hj
 have hold:(Builtin.firstCells i0.size i (.slice (some ⟨g,0,none⟩) i c)).run Tryz.prog w.drew= .ok (xs.take (i*5)).toArray w.drew:=by
  rw [hzs]
  exact run_firstCells_some w.drew 5 i ⟨g,0,none⟩ i c (xs.take (i*5)) (by rw [List.length_take];omega) (fun j v hj=>by
   rw [Addr.add_lit]
   rw [List.getElem?_take] at hj
   split at hj
   .have:=hcell j v hj
    simp only [World.cell?,show w.drew.heap=w.heap from rfl,hg];simpa using this
   .cases hj)
 have hkk:(n:Int)+(1:Int) - (i:Int)=((n+1 - i:Nat):Int):=by omega
 have hik:i+(n+1 - i)=n+1:=by omega
 obtain ⟨z,hzz⟩:∃z,i0.zero=some z/\z.cells.size=5:=⟨_,hz0,rfl⟩
 have hrz:∀ty,(Builtin.append_ #[26,3] ty #[.slice (some ⟨g,0,none⟩) i c, .int .i64 ((n:Int)+(1:Int) - (i:Int))]).run Tryz.prog w=
  .ok (.slice (some ⟨w.heap.size,0,none⟩) (n+1) (grownCap w (n+1) c 29)) (w.drew.alloc (.cells ((xs.take (i*5)).toArray++Builtin.zeroCells z.cells (n+1 - i)++Builtin.zeroCells z.cells (grownCap w (n+1) c 29 - (n+1))) 29)):=fun ty=>by
  have h:=Lib.run_append_grow_zeros w 26 3 ty 29 i0 _ .i64 .i64 Tryz.underlying26 Tryz.underlying3 hi0 hzz.1 (some ⟨g,0,none⟩) i c (xs.take (i*5)) hold (n+1 - i) (by omega) (by omega) (by omega) (by omega) (by rw [hzb];omega) (by rw [hzb,hik];exact growslice_fits hroom (by omega))
  rw [hik] at h
  rw [hkk]
  exact h
 obtain ⟨G,hG⟩:∃G,G=grownCap w (n+1) c 29:=⟨_,rfl⟩
 have hGn:n+1<=G:=by rw [hG];exact grownCap_ge w _ _ _
 have hGm:G<=maxLen:=by rw [hG];exact grownCap_le_maxLen w (n+1) c 29 (by unfold maxLen;omega)
 have hG63:G<=9223372036854775807:=by unfold maxLen at hGm;omega
 obtain ⟨ROW,hROW⟩:∃ROW:Array Value,ROW=(xs.take (i*5)).toArray++Builtin.zeroCells z.cells (n+1 - i)++Builtin.zeroCells z.cells (G - (n+1)):=⟨_,rfl⟩
 rw [<-hG] at hrz
 rw [<-hROW] at hrz
 have hRs:ROW.size=G*5:=by
  rw [hROW]
  simp only [Array.size_append,size_zeroCells,List.size_toArray,List.length_take,hxl,hzz.2]
  omega
 have hRt:ROW.toList.take (i*5)=xs.take (i*5):=by
  rw [hROW]
  simp only [Array.toList_append,List.append_assoc]
  rw [List.take_left' (by rw [List.length_take];omega)]
 obtain ⟨N,hN⟩:∃N,w.heap.size=N:=⟨_,rfl⟩
 rw [hN] at hrz hgw hvw hB
 have hcpA:∀W,W.heap[N]? =some (.cells ROW 29 (0,0))->W.heap[vb]? =some (.cells vs.toArray tv (0,0))->∀ty dc,(Builtin.copy_ #[26,26] ty #[.slice (some ⟨N,i*5,none⟩) (n+1 - i) dc, .slice (some ⟨vb,0,none⟩) 1 1]).run Tryz.prog W= .ok (goInt (1:Nat)) (W.setRow N (ROW.toList.take (i*5)++vs++ROW.toList.drop (i*5+vs.length)).toArray):=fun W hWg hWv ty dc=>
  Xb W _ _ ty 29 5 N (i*5) (n+1 - i) dc ⟨vb,0,none⟩ 1 1 ROW 29 vs Tryz.underlying26 hsz hWg 1 (by simp only [Nat.min_def];split<;>omega) (by omega)
   (fun j v hj=>by rw [Addr.add_lit];simp only [World.cell?,hWv];simpa using hj)
   (by omega) h1v
 obtain ⟨C1,hC1⟩:∃C1,C1=(ROW.toList.take (i*5)++vs++ROW.toList.drop (i*5+vs.length)).toArray:=⟨_,rfl⟩
 rw [<-hC1] at hcpA
 have hRl:ROW.toList.length=G*5:=by simpa using hRs
 have hC1s:C1.size=G*5:=by rw [hC1];simp only [List.size_toArray,List.length_append,List.length_take,List.length_drop,hRl];omega
 have hdl:(xs.drop (i*5)).length=(n - i)*5:=by rw [List.length_drop,hxl];omega
 have hcpB:∀W,W.heap[N]? =some (.cells C1 29 (0,0))->W.heap[g]? =some (.cells cur 29 (0,0))->∀ty dc sc,(Builtin.copy_ #[26,26] ty #[.slice (some ⟨N,(i+1)*5,none⟩) (n - i) dc, .slice (some ⟨g,i*5,none⟩) (n - i) sc]).run Tryz.prog W= .ok (goInt ((n - i:Nat))) (W.setRow N (C1.toList.take ((i+1)*5)++xs.drop (i*5)++C1.toList.drop ((i+1)*5+(xs.drop (i*5)).length)).toArray):=fun W hWn hWg ty dc sc=>
  Xb W _ _ ty 29 5 N ((i+1)*5) (n - i) dc ⟨g,i*5,none⟩ (n - i) sc C1 29 (xs.drop (i*5)) Tryz.underlying26 hsz hWn (n - i) (by simp only [Nat.min_def];split<;>omega) hdl
   (fun j v hj=>by
    rw [Addr.add_lit]
    simp only [World.cell?,hWg]
    rw [List.getElem?_drop] at hj
    have:=hcell _ v hj
    simpa using this)
   (by rw [hdl,hC1s];omega) (fun v hv=>h1 v (List.mem_of_mem_drop hv))
 have hfin:(C1.toList.take ((i+1)*5)++xs.drop (i*5)++C1.toList.drop ((i+1)*5+(xs.drop (i*5)).length)).take ((n+1)*5)=xs.take (i*5)++vs++xs.drop (i*5):=by
  have h:=zby ROW.toList vs xs (i*5) (by omega) hRt (by omega)
  rw [hC1,show (i+1)*5=i*5+vs.length by omega,show (n+1)*5=xs.length+vs.length by omega]
  exact h
 have hfs:(C1.toList.take ((i+1)*5)++xs.drop (i*5)++C1.toList.drop ((i+1)*5+(xs.drop (i*5)).length)).toArray.size=G*5:=by
  have:C1.toList.length=G*5:=by simpa using hC1s
  simp only [List.size_toArray,List.length_append,List.length_take,this,hdl];rw [List.length_drop,this];omega
 have HF:=qh hfin;have HS:=qh hfs;have HL:=qh hxl;have HV:=qh hvl
 obtain ⟨R,hR⟩:∃R,RowPost w base 29 5 (.slice (some ⟨g,0,none⟩) n c) (n+1) (xs.take (i*5)++vs++xs.drop (i*5))=R:=⟨_,rfl⟩
 have HR:=qh hR
 rw [hR]
 have hz2:¬((i:Int)=(n:Int)):=by omega
 have hz3:(c:Int)<(n:Int)+(1:Int):=by omega
 have hw1:IntKind.i64.wrap ((i:Int)+(1:Int))=(i:Int)+(1:Int):=by rw [IntKind.wrap_i64];omega
 have hb1:(0:Int)<=(i:Int)+(1:Int):=by omega
 have hin:i<=n:=by omega
 have htn:((i:Int)+(1:Int)).toNat=i+1:=by omega
 have hb3:(i:Int)<=(n:Int):=by omega
 have hGi:¬(G=i):=by omega
 have hGim:¬(G=i+1):=by omega
 have hci:¬(c=i):=by omega
 have hc63:c<=9223372036854775807:=by omega
 have mixed:Tryz.prog.follows .mixedOrders=true:=by kernel_rfl
 have HN:=qh hN
 have ha1:(w.drew.alloc (.cells ROW 29)).heap[N]? =some (.cells ROW 29 (0,0)):=by rw [<-hN];exact heap_alloc_new w.drew _
 have ha2:(w.drew.alloc (.cells ROW 29)).heap[vb]? =some (.cells vs.toArray tv (0,0)):=(heap_alloc_old w.drew _ (by rw [<-hN] at hvw;exact hvw)).trans hvb
 have ha3:(w.drew.alloc (.cells ROW 29)).heap[g]? =some (.cells cur 29 (0,0)):=(heap_alloc_old w.drew _ (by rw [<-hN] at hgw;exact hgw)).trans hg
 have hW1:w.grownBy (w.drew.alloc (.cells ROW 29)) (some N):=⟨rfl,rfl,rfl,by simp,fun k hk hne=>heap_alloc_old w.drew _ hk⟩
 obtain ⟨W1,hW⟩:∃W1,w.drew.alloc (.cells ROW 29)=W1:=⟨_,rfl⟩
 rw [hW] at hrz ha1 ha2 ha3 hW1
 have hb1':(W1.setRow N C1).heap[N]? =some (.cells C1 29 (0,0)):=setRow_heap W1 N ROW C1 29 (0,0) ha1
 have hb3':(W1.setRow N C1).heap[g]? =some (.cells cur 29 (0,0)):=(setRow_other W1 N g C1 (by omega)).trans ha3
 have HW1:=qh hW1;have HB1:=qh hb1';have HB3:=qh hb3'
 clear hkk hik hold hROW hG hRl hRs hRt hC1 hC1s hR hfin hfs hdl hxl hcl hvl hN hcell hzz ha3 hW1 hb1' hb3' hW hxs
 go_enter Tryz.func155,Tryz.ntmps155
 go_wp2_with (at_builtin;refine Lib.wpList_append_run _ rfl _ _ _ _ rfl _ _ rfl rfl _ _ (hrz _) ?_)
 go_region_law_o (refine step_copy_runI rfl _ _ 26 26 rfl (.slice (some ⟨N,(i+1)*5,none⟩) (n - i) (G - (i+1))) (.slice (some ⟨g,i*5,none⟩) (n - i) (c - i)) (by simp [Act.eval,Act.put]) (by simp [Act.eval,Act.put]) (hcpB (W1.setRow N C1).drew HB1.out HB3.out _ _ _) ?_)
 go_wp2_with fail
 rw [<-HR.out, <-List.append_assoc]
 exact ⟨_,rfl,⟨by simp only [List.length_append,List.length_take,List.length_drop,HL.out,HV.out];omega, .inr ⟨N,G,_,rfl,hB,setRow_heap (W1.setRow N C1).drew N C1 _ 29 (0,0) HB1.out,hGn,hGm,by have h:=HS.out;rwa [List.length_drop] at h,by have h:=HF.out;rwa [List.length_drop] at h⟩⟩,
  ⟨HW1.out.os,HW1.out.tape,HW1.out.output,by simpa using HW1.out.size,fun k hk hne=>(setRow_other _ N k _ (by rw [HN.out] at hk;omega)).trans ((setRow_other W1 N k _ (by rw [HN.out] at hk;omega)).trans (HW1.out.block k hk (by rw [HN.out] at hk;simp;omega)))⟩, .inr (by rw [HN.out];rfl)⟩
theorem zdl (w:World) (base n i vb:Nat) (tv:TypeId) (u:Value) (vs:List Value) (xs:List Value) (hown:w.ownsRow base 29 5 u n xs) (hB:base<=w.heap.size) (hi:i<=n) (hn:n+1<=1466015503701)
 (hvb:w.heap[vb]? =some (.cells vs.toArray tv (0,0))) (hne:u.ownBlock≠some vb) (hvl:vs.length=5) (h1v:∀v ∈ vs,v.oneCell'=true) (h1:∀v ∈ xs,v.oneCell'=true):
 uP 155 #[u, .int .i64 (i:Int), .slice (some ⟨vb,0,none⟩) 1 1] w (RowPost w base 29 5 u (n+1) (xs.take (i*5)++vs++xs.drop (i*5))):=by
 delta uP
 by_cases h:i=n
 .subst h
  exact zj5 w base i vb tv u vs xs hown hB hn hvb hvl h1v
 .rcases hown.2 with ⟨rfl,h0⟩|⟨g,c,cur,rfl,hbg,hg,hnc,hcm,hcs,htk⟩
  .omega
  .by_cases hroom:n+1<=c
   .exact zi7 w base g n c i vb cur tv vs xs hbg hg hcs (by omega) hroom hcm hvb (fun e=>hne (by rw [e];rfl)) hvl h1v htk h1
   .exact zlv w base g n c i vb cur tv vs xs hB hg hcs (by omega) hnc (by omega) hn hvb hvl h1v htk h1
set_option maxRecDepth 100000 in
theorem zgy (w:World) (base g n c i vb:Nat) (cur:Array Value) (tv:TypeId) (vs:List Value) (xs:List Value) (hbg:base<=g) (hg:w.heap[g]? =some (.cells cur 62 (0,0))) (hcur:cur.size=c*6) (hi:i<n) (hroom:n+1<=c) (hc:c<=maxLen)
 (hvb:w.heap[vb]? =some (.cells vs.toArray tv (0,0))) (hne:vb≠g) (hvl:vs.length=6) (h1v:∀v ∈ vs,v.oneCell'=true) (hxs:cur.toList.take (n*6)=xs) (h1:∀v ∈ xs,v.oneCell'=true):
 uP 115 #[.slice (some ⟨g,0,none⟩) n c, .int .i64 (i:Int), .slice (some ⟨vb,0,none⟩) 1 1] w (RowPost w base 62 6 (.slice (some ⟨g,0,none⟩) n c) (n+1) (xs.take (i*6)++vs++xs.drop (i*6))):=by
 delta uP
 obtain ⟨i0,hi0,hz0,hzs,hzb⟩:=info_parts Ya
 have hsz:(Tryz.prog.info? 62).map (·.size)=some 6:=by rw [hi0];simp [hzs]
 have hc63:c<=9223372036854775807:=by unfold maxLen at hc;omega
 have hz2:¬((i:Int)=(n:Int)):=by omega
 have hz3:¬((c:Int)<(n:Int)+1):=by omega
 have hcl:cur.toList.length=c*6:=by simpa using hcur
 have hxl:xs.length=n*6:=by rw [<-hxs,List.length_take,hcl];omega
 have hfz:∀k,w.frozen? ⟨vb,k,none⟩=false:=fun k=>by simp [World.frozen?,hvb]
 have hov:∀lb cb,(callFunc 153 #[.slice (some ⟨vb,0,none⟩) 1 1, .slice (some ⟨g,(i+1)*6,none⟩) lb cb]).run Tryz.prog w= .ok (.value (.bool false)) w:=fun lb cb=>by
  rw [run_callFunc_extern Tryz.func153 (by kernel_rfl) (by kernel_rfl) (by kernel_rfl) (e:=Extern.SlicesOverlaps.overlaps #[27,27] #[4]) (by kernel_rfl),
   Lib.run_overlaps_apart w 27 4 62 Tryz.underlying27 6 (fun w=>by simp [sizeOf,typeInfo,hi0,hzs]) ⟨vb,0,none⟩ ⟨g,(i+1)*6,none⟩ 1 1 lb cb hne tv 62 vs.length (c*6) (by simp [World.shape?,hvb]) (by simp [World.shape?,hg,hcur]) (by omega) (hfz _) (hfz _)]
  rfl
 have hdl:(xs.drop (i*6)).length=(n - i)*6:=by rw [List.length_drop,hxl];omega
 have hcp1:∀W,W.heap=w.heap->∀ty dc sc,(Builtin.copy_ #[27,27] ty #[.slice (some ⟨g,(i+1)*6,none⟩) (n - i) dc, .slice (some ⟨g,i*6,none⟩) (n+1 - i) sc]).run Tryz.prog W= .ok (goInt ((n - i:Nat))) (W.setRow g (cur.toList.take ((i+1)*6)++xs.drop (i*6)++cur.toList.drop ((i+1)*6+(xs.drop (i*6)).length)).toArray):=fun W hW ty dc sc=>
  Xb W _ _ ty 62 6 g ((i+1)*6) (n - i) dc ⟨g,i*6,none⟩ (n+1 - i) sc cur 62 (xs.drop (i*6)) Tryz.underlying27 hsz (by rw [hW];exact hg) (n - i) (by simp only [Nat.min_def];split<;>omega) hdl
   (fun j v hj=>by
    rw [Addr.add_lit]
    simp only [World.cell?,hW,hg]
    rw [List.getElem?_drop, <-hxs,List.getElem?_take] at hj
    split at hj
    .simpa using hj
    .cases hj)
   (by rw [hdl,hcur];omega) (fun v hv=>h1 v (List.mem_of_mem_drop hv))
 obtain ⟨C1,hC1⟩:∃C1,C1=(cur.toList.take ((i+1)*6)++xs.drop (i*6)++cur.toList.drop ((i+1)*6+(xs.drop (i*6)).length)).toArray:=⟨_,rfl⟩
 rw [<-hC1] at hcp1
 have hC1s:C1.size=c*6:=by rw [hC1];simp only [List.size_toArray,List.length_append,List.length_take,List.length_drop,hcl,hxl];omega
 have hcp2:∀W,W.heap[g]? =some (.cells C1 62 (0,0))->W.heap[vb]? =some (.cells vs.toArray tv (0,0))->∀ty dc,(Builtin.copy_ #[27,27] ty #[.slice (some ⟨g,i*6,none⟩) (n+1 - i) dc, .slice (some ⟨vb,0,none⟩) 1 1]).run Tryz.prog W= .ok (goInt (1:Nat)) (W.setRow g (C1.toList.take (i*6)++vs++C1.toList.drop (i*6+vs.length)).toArray):=fun W hWg hWv ty dc=>
  Xb W _ _ ty 62 6 g (i*6) (n+1 - i) dc ⟨vb,0,none⟩ 1 1 C1 62 vs Tryz.underlying27 hsz hWg 1 (by simp only [Nat.min_def];split<;>omega) (by omega)
   (fun j v hj=>by rw [Addr.add_lit];simp only [World.cell?,hWv];simpa using hj)
   (by omega) h1v
 have hfin:(C1.toList.take (i*6)++vs++C1.toList.drop (i*6+vs.length)).take ((n+1)*6)=xs.take (i*6)++vs++xs.drop (i*6):=by
  have h:=zab cur.toList vs (i*6) (n*6) (by omega) (by omega)
  rw [hxs] at h
  rw [hC1]
  rw [hdl,show (i+1)*6+(n - i)*6=n*6+vs.length by omega,show (i+1)*6=i*6+vs.length by omega,show (n+1)*6=n*6+vs.length by omega]
  exact h
 have hfs:(C1.toList.take (i*6)++vs++C1.toList.drop (i*6+vs.length)).toArray.size=c*6:=by
  have:C1.toList.length=c*6:=by simpa using hC1s
  simp only [List.size_toArray,List.length_append,List.length_take,List.length_drop,this];omega
 have hC2g:(w.drew.setRow g C1).heap[g]? =some (.cells C1 62 (0,0)):=setRow_heap w.drew g cur C1 62 (0,0) hg
 have hC2v:(w.drew.setRow g C1).heap[vb]? =some (.cells vs.toArray tv (0,0)):=(setRow_other w.drew g vb C1 hne).trans hvb
 have HF:=qh hfin;have HS:=qh hfs;have HG2:=qh hC2g;have HL:=qh hxl;have HV:=qh hvl
 obtain ⟨R,hR⟩:∃R,RowPost w base 62 6 (.slice (some ⟨g,0,none⟩) n c) (n+1) (xs.take (i*6)++vs++xs.drop (i*6))=R:=⟨_,rfl⟩
 have HR:=qh hR
 rw [hR]
 have hw1:IntKind.i64.wrap ((i:Int)+(1:Int))=(i:Int)+(1:Int):=by rw [IntKind.wrap_i64];omega
 have hb1:(0:Int)<=(i:Int)+(1:Int):=by omega
 have hin:i<=n:=by omega
 have htn:((i:Int)+(1:Int)).toNat=i+1:=by omega
 have hb2:¬(c=i+1):=by omega
 have hb3:(i:Int)<=(n:Int)+(1:Int):=by omega
 have hb4:¬(c=i):=by omega
 clear hR hfin hfs hC1s hC1 hxs hvl hdl hxl hcl
 have mixed:Tryz.prog.follows .mixedOrders=true:=by kernel_rfl
 go_enter Tryz.func115,Tryz.ntmps115
 go_wp2_with (simp only [hov])
 go_region_law_o (refine step_copy_runI rfl _ _ 27 27 rfl (.slice (some ⟨g,(i+1)*6,none⟩) (n - i) (c - (i+1))) (.slice (some ⟨g,i*6,none⟩) (n+1 - i) (c - i)) (by simp [Act.eval,Act.put]) (by simp [Act.eval,Act.put]) (hcp1 w.drew rfl _ _ _) ?_)
 obtain ⟨W1,hW1⟩:∃W1,w.drew.setRow g C1=W1:=⟨_,rfl⟩
 rw [hW1] at hC2g hC2v ⊢
 go_wp2_with (at_builtin;refine wpList_copy_runI _ rfl _ _ 27 27 rfl _ _ rfl rfl (hcp2 _ hC2g hC2v _ _) ?_)
 rw [<-HR.out, <-List.append_assoc]
 exact ⟨_,rfl,⟨by simp only [List.length_append,List.length_take,List.length_drop,HL.out,HV.out];omega, .inr ⟨g,c,_,rfl,hbg,setRow_heap W1 g C1 _ 62 (0,0) hC2g,hroom,hc,HS.out,HF.out⟩⟩,
  by subst hW1;exact ⟨rfl,rfl,rfl,by simp,fun k hk hne=>(setRow_other _ g k _ (fun e=>hne (by rw [e];rfl))).trans (setRow_other w.drew g k _ (fun e=>hne (by rw [e];rfl)))⟩, .inl rfl⟩
set_option maxRecDepth 100000 in
theorem zjw (w:World) (base n vb:Nat) (tv:TypeId) (u:Value) (vs:List Value) (xs:List Value) (hown:w.ownsRow base 62 6 u n xs) (hB:base<=w.heap.size) (hn:n+1<=1466015503701)
 (hvb:w.heap[vb]? =some (.cells vs.toArray tv (0,0))) (hvl:vs.length=6) (h1v:∀v ∈ vs,v.oneCell'=true):
 uP 115 #[u, .int .i64 (n:Int), .slice (some ⟨vb,0,none⟩) 1 1] w (RowPost w base 62 6 u (n+1) (xs.take (n*6)++vs++xs.drop (n*6))):=by
 delta uP
 obtain ⟨i0,hi0,hz0,hzs,hzb⟩:=info_parts Ya
 have hxl:xs.length=n*6:=hown.1
 rw [List.take_of_length_le (by omega),List.drop_eq_nil_of_le (by omega),List.append_nil]
 have hnews:∀j v,vs[j]? =some v->w.cell? ((⟨vb,0,none⟩:Addr).add j)=some v:=fun j v hj=>by
  rw [Addr.add_lit];simp only [World.cell?,hvb];simpa using hj
 obtain ⟨R,hR⟩:∃R,RowPost w base 62 6 u (n+1) (xs++vs)=R:=⟨_,rfl⟩
 have HR:=qh hR
 rw [hR]
 have HO:=qh hown
 have hf:∃(ba:Option Addr) (cc:Nat),u= .slice ba n cc/\n<=cc/\cc<=maxLen/\∀z,ba=some z->z.spot=none:=by
  rcases hown.2 with ⟨rfl,rfl⟩|⟨g,cap,cur,rfl,_,_,h3,h4,_⟩
  .exact ⟨none,0,rfl,Nat.le_refl _,Nat.zero_le _,fun z hz=>by cases hz⟩
  .exact ⟨_,cap,rfl,h3,h4,fun z hz=>by cases hz;rfl⟩
 obtain ⟨ba,cc,rfl,hcc,hcm,hsp⟩:=hf
 have hcc63:cc<=9223372036854775807:=by unfold maxLen at hcm;omega
 have mixed:Tryz.prog.follows .mixedOrders=true:=by kernel_rfl
 clear hR hown hxl
 have hfin:∀v' w',w'.ownsRow base 62 6 v' (n+1) (xs++vs)->w.grownBy w' (Value.slice ba n cc).ownBlock->(v'.ownBlock=(Value.slice ba n cc).ownBlock∨v'.ownBlock=some w.heap.size)->R (.returned v') w':=fun v' w' h1 h2 h3=>by
  rw [<-HR.out];exact ⟨v',rfl,h1,h2,h3⟩
 have HFIN:=qh hfin
 clear hfin
 have hd:n*6 - n*6=0:=by omega
 rcases ba with _|⟨g,o,sp⟩
 .go_enter Tryz.func115,Tryz.ntmps115
  go_wp2_with (at_builtin;refine wpList_append_own_at _ rfl (.tmp 23) (.tmp 24) 27 (by rfl) base 62 i0 _ 6 96 Tryz.underlying27 hi0 hz0 hzs hzb rfl (by omega) _ n xs (by rfl) HO.out ⟨vb,0,none⟩ 1 1 vs (by rfl) (by omega) hnews h1v (by unfold maxLen;omega) (by omega) hB ?_;intro v' w1 hown' hgrow _ hat)
  exact HFIN.out _ _ hown' hgrow hat
 .obtain rfl:sp=none:=hsp _ rfl
  go_enter Tryz.func115,Tryz.ntmps115
  go_wp2_with (at_builtin;refine wpList_append_own_at _ rfl (.tmp 23) (.tmp 24) 27 (by rfl) base 62 i0 _ 6 96 Tryz.underlying27 hi0 hz0 hzs hzb rfl (by omega) _ n xs (by rfl) HO.out ⟨vb,0,none⟩ 1 1 vs (by rfl) (by omega) hnews h1v (by unfold maxLen;omega) (by omega) hB ?_;intro v' w1 hown' hgrow _ hat)
  all_goals exact HFIN.out _ _ hown' hgrow hat
set_option maxRecDepth 100000 in
theorem zkq (w:World) (base g n c i vb:Nat) (cur:Array Value) (tv:TypeId) (vs:List Value) (xs:List Value) (hB:base<=w.heap.size) (hg:w.heap[g]? =some (.cells cur 62 (0,0))) (hcur:cur.size=c*6) (hi:i<n) (hnc:n<=c) (hroom:c<n+1) (hn:n+1<=1466015503701)
 (hvb:w.heap[vb]? =some (.cells vs.toArray tv (0,0))) (hvl:vs.length=6) (h1v:∀v ∈ vs,v.oneCell'=true) (hxs:cur.toList.take (n*6)=xs) (h1:∀v ∈ xs,v.oneCell'=true):
 uP 115 #[.slice (some ⟨g,0,none⟩) n c, .int .i64 (i:Int), .slice (some ⟨vb,0,none⟩) 1 1] w (RowPost w base 62 6 (.slice (some ⟨g,0,none⟩) n c) (n+1) (xs.take (i*6)++vs++xs.drop (i*6))):=by
 delta uP
 obtain ⟨i0,hi0,hz0,hzs,hzb⟩:=info_parts Ya
 have hsz:(Tryz.prog.info? 62).map (·.size)=some 6:=by rw [hi0];simp [hzs]
 have hcl:cur.toList.length=c*6:=by simpa using hcur
 have hxl:xs.length=n*6:=by rw [<-hxs,List.length_take,hcl];omega
 have hgw:g<w.heap.size:=(Array.getElem?_eq_some_iff.1 hg).1
 have hvw:vb<w.heap.size:=(Array.getElem?_eq_some_iff.1 hvb).1
 have hcell:∀j v,xs[j]? =some v->cur[j]? =some v:=fun j v hj=>by
  rw [<-hxs,List.getElem?_take] at hj
  split at hj
  .simpa using hj
  .cases hj
 have hold:(Builtin.firstCells i0.size i (.slice (some ⟨g,0,none⟩) i c)).run Tryz.prog w.drew= .ok (xs.take (i*6)).toArray w.drew:=by
  rw [hzs]
  exact run_firstCells_some w.drew 6 i ⟨g,0,none⟩ i c (xs.take (i*6)) (by rw [List.length_take];omega) (fun j v hj=>by
   rw [Addr.add_lit]
   rw [List.getElem?_take] at hj
   split at hj
   .have:=hcell j v hj
    simp only [World.cell?,show w.drew.heap=w.heap from rfl,hg];simpa using this
   .cases hj)
 have hkk:(n:Int)+(1:Int) - (i:Int)=((n+1 - i:Nat):Int):=by omega
 have hik:i+(n+1 - i)=n+1:=by omega
 obtain ⟨z,hzz⟩:∃z,i0.zero=some z/\z.cells.size=6:=⟨_,hz0,rfl⟩
 have hrz:∀ty,(Builtin.append_ #[27,3] ty #[.slice (some ⟨g,0,none⟩) i c, .int .i64 ((n:Int)+(1:Int) - (i:Int))]).run Tryz.prog w=
  .ok (.slice (some ⟨w.heap.size,0,none⟩) (n+1) (grownCap w (n+1) c 62)) (w.drew.alloc (.cells ((xs.take (i*6)).toArray++Builtin.zeroCells z.cells (n+1 - i)++Builtin.zeroCells z.cells (grownCap w (n+1) c 62 - (n+1))) 62)):=fun ty=>by
  have h:=Lib.run_append_grow_zeros w 27 3 ty 62 i0 _ .i64 .i64 Tryz.underlying27 Tryz.underlying3 hi0 hzz.1 (some ⟨g,0,none⟩) i c (xs.take (i*6)) hold (n+1 - i) (by omega) (by omega) (by omega) (by omega) (by rw [hzb];omega) (by rw [hzb,hik];exact growslice_fits hroom (by omega))
  rw [hik] at h
  rw [hkk]
  exact h
 obtain ⟨G,hG⟩:∃G,G=grownCap w (n+1) c 62:=⟨_,rfl⟩
 have hGn:n+1<=G:=by rw [hG];exact grownCap_ge w _ _ _
 have hGm:G<=maxLen:=by rw [hG];exact grownCap_le_maxLen w (n+1) c 62 (by unfold maxLen;omega)
 have hG63:G<=9223372036854775807:=by unfold maxLen at hGm;omega
 obtain ⟨ROW,hROW⟩:∃ROW:Array Value,ROW=(xs.take (i*6)).toArray++Builtin.zeroCells z.cells (n+1 - i)++Builtin.zeroCells z.cells (G - (n+1)):=⟨_,rfl⟩
 rw [<-hG] at hrz
 rw [<-hROW] at hrz
 have hRs:ROW.size=G*6:=by
  rw [hROW]
  simp only [Array.size_append,size_zeroCells,List.size_toArray,List.length_take,hxl,hzz.2]
  omega
 have hRt:ROW.toList.take (i*6)=xs.take (i*6):=by
  rw [hROW]
  simp only [Array.toList_append,List.append_assoc]
  rw [List.take_left' (by rw [List.length_take];omega)]
 obtain ⟨N,hN⟩:∃N,w.heap.size=N:=⟨_,rfl⟩
 rw [hN] at hrz hgw hvw hB
 have hcpA:∀W,W.heap[N]? =some (.cells ROW 62 (0,0))->W.heap[vb]? =some (.cells vs.toArray tv (0,0))->∀ty dc,(Builtin.copy_ #[27,27] ty #[.slice (some ⟨N,i*6,none⟩) (n+1 - i) dc, .slice (some ⟨vb,0,none⟩) 1 1]).run Tryz.prog W= .ok (goInt (1:Nat)) (W.setRow N (ROW.toList.take (i*6)++vs++ROW.toList.drop (i*6+vs.length)).toArray):=fun W hWg hWv ty dc=>
  Xb W _ _ ty 62 6 N (i*6) (n+1 - i) dc ⟨vb,0,none⟩ 1 1 ROW 62 vs Tryz.underlying27 hsz hWg 1 (by simp only [Nat.min_def];split<;>omega) (by omega)
   (fun j v hj=>by rw [Addr.add_lit];simp only [World.cell?,hWv];simpa using hj)
   (by omega) h1v
 obtain ⟨C1,hC1⟩:∃C1,C1=(ROW.toList.take (i*6)++vs++ROW.toList.drop (i*6+vs.length)).toArray:=⟨_,rfl⟩
 rw [<-hC1] at hcpA
 have hRl:ROW.toList.length=G*6:=by simpa using hRs
 have hC1s:C1.size=G*6:=by rw [hC1];simp only [List.size_toArray,List.length_append,List.length_take,List.length_drop,hRl];omega
 have hdl:(xs.drop (i*6)).length=(n - i)*6:=by rw [List.length_drop,hxl];omega
 have hcpB:∀W,W.heap[N]? =some (.cells C1 62 (0,0))->W.heap[g]? =some (.cells cur 62 (0,0))->∀ty dc sc,(Builtin.copy_ #[27,27] ty #[.slice (some ⟨N,(i+1)*6,none⟩) (n - i) dc, .slice (some ⟨g,i*6,none⟩) (n - i) sc]).run Tryz.prog W= .ok (goInt ((n - i:Nat))) (W.setRow N (C1.toList.take ((i+1)*6)++xs.drop (i*6)++C1.toList.drop ((i+1)*6+(xs.drop (i*6)).length)).toArray):=fun W hWn hWg ty dc sc=>
  Xb W _ _ ty 62 6 N ((i+1)*6) (n - i) dc ⟨g,i*6,none⟩ (n - i) sc C1 62 (xs.drop (i*6)) Tryz.underlying27 hsz hWn (n - i) (by simp only [Nat.min_def];split<;>omega) hdl
   (fun j v hj=>by
    rw [Addr.add_lit]
    simp only [World.cell?,hWg]
    rw [List.getElem?_drop] at hj
    have:=hcell _ v hj
    simpa using this)
   (by rw [hdl,hC1s];omega) (fun v hv=>h1 v (List.mem_of_mem_drop hv))
 have hfin:(C1.toList.take ((i+1)*6)++xs.drop (i*6)++C1.toList.drop ((i+1)*6+(xs.drop (i*6)).length)).take ((n+1)*6)=xs.take (i*6)++vs++xs.drop (i*6):=by
  have h:=zby ROW.toList vs xs (i*6) (by omega) hRt (by omega)
  rw [hC1,show (i+1)*6=i*6+vs.length by omega,show (n+1)*6=xs.length+vs.length by omega]
  exact h
 have hfs:(C1.toList.take ((i+1)*6)++xs.drop (i*6)++C1.toList.drop ((i+1)*6+(xs.drop (i*6)).length)).toArray.size=G*6:=by
  have:C1.toList.length=G*6:=by simpa using hC1s
  simp only [List.size_toArray,List.length_append,List.length_take,this,hdl];rw [List.length_drop,this];omega
 have HF:=qh hfin;have HS:=qh hfs;have HL:=qh hxl;have HV:=qh hvl
 obtain ⟨R,hR⟩:∃R,RowPost w base 62 6 (.slice (some ⟨g,0,none⟩) n c) (n+1) (xs.take (i*6)++vs++xs.drop (i*6))=R:=⟨_,rfl⟩
 have HR:=qh hR
 rw [hR]
 have hz2:¬((i:Int)=(n:Int)):=by omega
 have hz3:(c:Int)<(n:Int)+(1:Int):=by omega
 have hw1:IntKind.i64.wrap ((i:Int)+(1:Int))=(i:Int)+(1:Int):=by rw [IntKind.wrap_i64];omega
 have hb1:(0:Int)<=(i:Int)+(1:Int):=by omega
 have hin:i<=n:=by omega
 have htn:((i:Int)+(1:Int)).toNat=i+1:=by omega
 have hb3:(i:Int)<=(n:Int):=by omega
 have hGi:¬(G=i):=by omega
 have hGim:¬(G=i+1):=by omega
 have hci:¬(c=i):=by omega
 have hc63:c<=9223372036854775807:=by omega
 have mixed:Tryz.prog.follows .mixedOrders=true:=by kernel_rfl
 have HN:=qh hN
 have ha1:(w.drew.alloc (.cells ROW 62)).heap[N]? =some (.cells ROW 62 (0,0)):=by rw [<-hN];exact heap_alloc_new w.drew _
 have ha2:(w.drew.alloc (.cells ROW 62)).heap[vb]? =some (.cells vs.toArray tv (0,0)):=(heap_alloc_old w.drew _ (by rw [<-hN] at hvw;exact hvw)).trans hvb
 have ha3:(w.drew.alloc (.cells ROW 62)).heap[g]? =some (.cells cur 62 (0,0)):=(heap_alloc_old w.drew _ (by rw [<-hN] at hgw;exact hgw)).trans hg
 have hW1:w.grownBy (w.drew.alloc (.cells ROW 62)) (some N):=⟨rfl,rfl,rfl,by simp,fun k hk hne=>heap_alloc_old w.drew _ hk⟩
 obtain ⟨W1,hW⟩:∃W1,w.drew.alloc (.cells ROW 62)=W1:=⟨_,rfl⟩
 rw [hW] at hrz ha1 ha2 ha3 hW1
 have hb1':(W1.setRow N C1).heap[N]? =some (.cells C1 62 (0,0)):=setRow_heap W1 N ROW C1 62 (0,0) ha1
 have hb3':(W1.setRow N C1).heap[g]? =some (.cells cur 62 (0,0)):=(setRow_other W1 N g C1 (by omega)).trans ha3
 have HW1:=qh hW1;have HB1:=qh hb1';have HB3:=qh hb3'
 clear hkk hik hold hROW hG hRl hRs hRt hC1 hC1s hR hfin hfs hdl hxl hcl hvl hN hcell hzz ha3 hW1 hb1' hb3' hW hxs
 go_enter Tryz.func115,Tryz.ntmps115
 go_wp2_with (at_builtin;refine Lib.wpList_append_run _ rfl _ _ _ _ rfl _ _ rfl rfl _ _ (hrz _) ?_)
 go_region_law_o (refine step_copy_runI rfl _ _ 27 27 rfl (.slice (some ⟨N,(i+1)*6,none⟩) (n - i) (G - (i+1))) (.slice (some ⟨g,i*6,none⟩) (n - i) (c - i)) (by simp [Act.eval,Act.put]) (by simp [Act.eval,Act.put]) (hcpB (W1.setRow N C1).drew HB1.out HB3.out _ _ _) ?_)
 go_wp2_with fail
 rw [<-HR.out, <-List.append_assoc]
 exact ⟨_,rfl,⟨by simp only [List.length_append,List.length_take,List.length_drop,HL.out,HV.out];omega, .inr ⟨N,G,_,rfl,hB,setRow_heap (W1.setRow N C1).drew N C1 _ 62 (0,0) HB1.out,hGn,hGm,by have h:=HS.out;rwa [List.length_drop] at h,by have h:=HF.out;rwa [List.length_drop] at h⟩⟩,
  ⟨HW1.out.os,HW1.out.tape,HW1.out.output,by simpa using HW1.out.size,fun k hk hne=>(setRow_other _ N k _ (by rw [HN.out] at hk;omega)).trans ((setRow_other W1 N k _ (by rw [HN.out] at hk;omega)).trans (HW1.out.block k hk (by rw [HN.out] at hk;simp;omega)))⟩, .inr (by rw [HN.out];rfl)⟩
theorem zni (w:World) (base n i vb:Nat) (tv:TypeId) (u:Value) (vs:List Value) (xs:List Value) (hown:w.ownsRow base 62 6 u n xs) (hB:base<=w.heap.size) (hi:i<=n) (hn:n+1<=1466015503701)
 (hvb:w.heap[vb]? =some (.cells vs.toArray tv (0,0))) (hne:u.ownBlock≠some vb) (hvl:vs.length=6) (h1v:∀v ∈ vs,v.oneCell'=true) (h1:∀v ∈ xs,v.oneCell'=true):
 uP 115 #[u, .int .i64 (i:Int), .slice (some ⟨vb,0,none⟩) 1 1] w (RowPost w base 62 6 u (n+1) (xs.take (i*6)++vs++xs.drop (i*6))):=by
 delta uP
 by_cases h:i=n
 .subst h
  exact zjw w base i vb tv u vs xs hown hB hn hvb hvl h1v
 .rcases hown.2 with ⟨rfl,h0⟩|⟨g,c,cur,rfl,hbg,hg,hnc,hcm,hcs,htk⟩
  .omega
  .by_cases hroom:n+1<=c
   .exact zgy w base g n c i vb cur tv vs xs hbg hg hcs (by omega) hroom hcm hvb (fun e=>hne (by rw [e];rfl)) hvl h1v htk h1
   .exact zkq w base g n c i vb cur tv vs xs hB hg hcs (by omega) hnc (by omega) hn hvb hvl h1v htk h1
end Go.Proofs.YtbgheehjfnoiiaaGreatDoor
