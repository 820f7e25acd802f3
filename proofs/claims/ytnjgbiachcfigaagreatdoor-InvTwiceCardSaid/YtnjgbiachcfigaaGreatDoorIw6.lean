/-
  Contracts of the functions that the law reaches: slices.Clone at values and at fields..
-/
import Derived.Test.YtnjgbiachcfigaaGreatDoorIw5
import Derived.Lib.SliceRun
import Derived.Deep.CutBlock
import Derived.Deep.LoopGhost
namespace Go.Proofs.YtnjgbiachcfigaaGreatDoor
open Go.RowKit
set_option maxHeartbeats 8000000
set_option maxRecDepth 100000 in
theorem zkq (w:World) (a:Option Addr) (n c:Nat) (cs:List Value) (h0:a=none->n=0) (hp:∀ad,a=some ad->∀j u,cs[j]? =some u->w.cell? (ad.add j)=some u) (hl:cs.length=n*5) (h1:∀u ∈ cs,u.oneCell'=true) (hbig:n*80<=140737488355328):
 uP 116 #[.slice a n c] w fun e w'=>(∃v',e= .returned v'/\w'.ownsRow w.heap.size 36 5 v' n cs)/\uB w w':=by
 delta uB uP
 obtain ⟨i0,hi0,hz0,hz1,hz2⟩:=info_parts Yh
 have hq:∀(w:World) (a:Option Addr) (n c n' c':Nat),(binOp .eql 33 (.slice a n c) (.slice none n' c')).run Tryz.prog w= .ok (.bool a.isNone) w:=fun w a n c n' c'=>Lib.run_eql_slice_nil w _ _ a n c n' c' Tryz.underlying33
 cases a with
 | none=>
   obtain rfl:=h0 rfl
   obtain rfl:cs= [] :=List.length_eq_zero_iff.1 (by omega)
   clear hp hl h1 hbig h0
   go_enter Tryz.func116,Tryz.ntmps116
   go_wp2_with fail
   go_ret
   exact ⟨⟨_,rfl,⟨rfl, .inl ⟨rfl,rfl⟩⟩⟩,Below.refl _ _⟩
 | some ad=>
   have HP:=qh hp
   have HL:=qh hl
   have H1:=qh h1
   clear hp hl h1 h0
   go_enter Tryz.func116,Tryz.ntmps116
   go_wp2_with (at_builtin;refine Z1 _ rfl (.tmp 5) (.tmp 6) 33 (by rfl) w.heap.size 36 i0 _ 5 80 Tryz.underlying33 hi0 hz0 hz1 hz2 rfl (by omega) _ 0 [] (by rfl) (World.ownsRow_made w #[] 0 (Nat.le_refl _) (Nat.zero_le _) rfl) (some ad) n c cs (by rfl) ⟨(fun h=>by cases h),fun ad h j u hj=>Lib.cell?_alloc_some _ (HP.out ad h j u hj)⟩ HL.out H1.out (by unfold maxLen;omega) (by omega) (by simp) ?_;intro v' w1 hown hgrow)
   go_ret
   exact ⟨⟨v',rfl,by simpa using hown⟩,((Below.refl _ w).alloc (Nat.le_refl _) _).grown hgrow (by simp) (by intro k hk;simp [Value.ownBlock] at hk;omega)⟩
set_option maxRecDepth 100000 in
theorem zq8 (w:World) (a:Option Addr) (n c:Nat) (cs:List Value) (h0:a=none->n=0) (hp:∀ad,a=some ad->∀j u,cs[j]? =some u->w.cell? (ad.add j)=some u) (hl:cs.length=n*6) (h1:∀u ∈ cs,u.oneCell'=true) (hbig:n*96<=140737488355328):
 uP 117 #[.slice a n c] w fun e w'=>(∃v',e= .returned v'/\w'.ownsRow w.heap.size 75 6 v' n cs)/\uB w w':=by
 delta uB uP
 obtain ⟨i0,hi0,hz0,hz1,hz2⟩:=info_parts Yj
 have hq:∀(w:World) (a:Option Addr) (n c n' c':Nat),(binOp .eql 34 (.slice a n c) (.slice none n' c')).run Tryz.prog w= .ok (.bool a.isNone) w:=fun w a n c n' c'=>Lib.run_eql_slice_nil w _ _ a n c n' c' Tryz.underlying34
 cases a with
 | none=>
   obtain rfl:=h0 rfl
   obtain rfl:cs= [] :=List.length_eq_zero_iff.1 (by omega)
   clear hp hl h1 hbig h0
   go_enter Tryz.func117,Tryz.ntmps117
   go_wp2_with fail
   go_ret
   exact ⟨⟨_,rfl,⟨rfl, .inl ⟨rfl,rfl⟩⟩⟩,Below.refl _ _⟩
 | some ad=>
   have HP:=qh hp
   have HL:=qh hl
   have H1:=qh h1
   clear hp hl h1 h0
   go_enter Tryz.func117,Tryz.ntmps117
   go_wp2_with (at_builtin;refine Z1 _ rfl (.tmp 5) (.tmp 6) 34 (by rfl) w.heap.size 75 i0 _ 6 96 Tryz.underlying34 hi0 hz0 hz1 hz2 rfl (by omega) _ 0 [] (by rfl) (World.ownsRow_made w #[] 0 (Nat.le_refl _) (Nat.zero_le _) rfl) (some ad) n c cs (by rfl) ⟨(fun h=>by cases h),fun ad h j u hj=>Lib.cell?_alloc_some _ (HP.out ad h j u hj)⟩ HL.out H1.out (by unfold maxLen;omega) (by omega) (by simp) ?_;intro v' w1 hown hgrow)
   go_ret
   exact ⟨⟨v',rfl,by simpa using hown⟩,((Below.refl _ w).alloc (Nat.le_refl _) _).grown hgrow (by simp) (by intro k hk;simp [Value.ownBlock] at hk;omega)⟩
theorem zcn {e:Ending} {w w':World} {base:Nat} {T:TypeId} {sz n:Nat} {cs:List Value} (h:(∃v',e= .returned v'/\w'.ownsRow base T sz v' n cs)/\Below base w w'):(∃a' m' c',e= .returned (.slice a' m' c')/\w'.ownsRow base T sz (.slice a' m' c') n cs)/\Below base w w':=by
 obtain ⟨⟨v',rfl,ho⟩,hb⟩:=h
 rcases ho.2 with ⟨rfl,_⟩|⟨g,cap,cur,rfl,_⟩
 .exact ⟨⟨_,_,_,rfl,ho⟩,hb⟩
 .exact ⟨⟨_,_,_,rfl,ho⟩,hb⟩
theorem IsVals.clone {w:World} {l:List V} {a:Option Addr} {n c:Nat} (h:IsVals w w.heap.size l a n c):
 ∃ cl:List VC,cl.length=l.length/\(∀i (h:i<l.length) (h':i<cl.length),IsVal w w.heap.size l[i] cl[i])/\
   ∀W,uB w W->uP 116 #[.slice a n c] W fun e w'=>(∃a' m' c',e= .returned (.slice a' m' c')/\w'.ownsRow W.heap.size 36 5 (.slice a' m' c') n (cl.flatMap vcells))/\uB W w':=by
 delta uB uP
 obtain ⟨cl,h1,h2,h3⟩:=h.cells
 have hlen:=h.len;have hfew:=h.few
 have hfl:(cl.flatMap vcells).length=n*5:=by rw [Zn vcells 5 (fun _=>rfl),h1,hlen]
 refine ⟨cl,h1,fun i hi hi'=>by have:=h3 i hi hi;rw [List.getD_eq_getElem?_getD,List.getElem?_eq_getElem hi'] at this;exact this,fun W hW=>(zkq W a n c _ (fun e=> ?_) (fun ad e j u hj=> ?_) hfl (fun u hu=> ?_) (by omega)).mono fun e w' hq=>zcn hq⟩
 .by_cases h0:0<n
  .obtain ⟨b,o,f,hp,ha,_⟩:=h.get h0
   rw [e] at ha;cases ha
  .omega
 .have hj2:=(List.getElem?_eq_some_iff.1 hj).1
  obtain ⟨b,o,f,hp,ha,_⟩:=h.get (k:=0) (by omega)
  obtain ⟨h4,h5⟩:=h2 b o ha (by omega)
  rw [ha] at e;injection e with e;subst e
  rw [Addr.add_lit];exact Za hW (h5 j u hj) h4
 .obtain ⟨v,_,hv⟩:=List.mem_flatMap.1 hu
  simp only [vcells,List.mem_cons,List.mem_nil_iff,or_false] at hv
  rcases hv with rfl|rfl|rfl|rfl|rfl<;>rfl
theorem IsFields.clone {w:World} {o:List (ByteArray×V)} {a:Option Addr} {n c:Nat} (h:IsFields w w.heap.size o a n c):
 ∃ co:List (ByteArray×VC),co.length=o.length/\(∀i (h:i<o.length) (h':i<co.length),(co[i].1=o[i].1/\o[i].1.size<=140737488355328)/\IsVal w w.heap.size o[i].2 co[i].2)/\
   ∀W,uB w W->uP 117 #[.slice a n c] W fun e w'=>(∃a' m' c',e= .returned (.slice a' m' c')/\w'.ownsRow W.heap.size 75 6 (.slice a' m' c') n (co.flatMap fcells))/\uB W w':=by
 delta uB uP
 obtain ⟨co,b,off,h1,h2,h5,h3⟩:=h.cells
 have hlen:=h.len;have hfew:=h.few
 have hfl:(co.flatMap fcells).length=n*6:=by rw [Zn fcells 6 (fun _=>rfl),h1,hlen]
 refine ⟨co,h1,fun i hi hi'=>by have:=h3 i hi hi;rw [List.getD_eq_getElem?_getD,List.getElem?_eq_getElem hi'] at this;exact ⟨⟨this.1,this.2.1⟩,this.2.2⟩,fun W hW=>(zq8 W a n c _ (fun e=> ?_) (fun ad e j u hj=> ?_) hfl (fun u hu=> ?_) (by omega)).mono fun e w' hq=>zcn hq⟩
 .by_cases h0:0<n
  .obtain ⟨ha,_⟩:=h2 h0
   rw [e] at ha;cases ha
  .omega
 .have hj2:=(List.getElem?_eq_some_iff.1 hj).1
  obtain ⟨ha,hb⟩:=h2 (by omega)
  rw [ha] at e;injection e with e;subst e
  rw [Addr.add_lit];exact Za hW (h5 j u hj) hb
 .obtain ⟨v,_,hv⟩:=List.mem_flatMap.1 hu
  simp only [fcells,List.mem_cons,List.mem_nil_iff,or_false] at hv
  rcases hv with rfl|rfl|rfl|rfl|rfl|rfl<;>rfl
structure Cl2 (w W:World) (k n:Int) (s:ByteArray) (u uo:Value) (cl:List VC) (co:List (ByteArray×VC)) (ll ol:Nat):Prop where
 box:BC W w.heap.size [.int .u8 k, .int .i64 n, .string s,u,uo]
 res:BC W (w.heap.size+1) (vcells vzero)
 rowL:W.ownsRow (w.heap.size+2) 36 5 u ll (cl.flatMap vcells)
 rowO:W.ownsRow (w.heap.size+2) 75 6 uo ol (co.flatMap fcells)
 apart:∀g,u.ownBlock=some g->uo.ownBlock≠some g
 below:Below w.heap.size w W
theorem Cl2.make {w wb W:World} {k n:Int} {s:ByteArray} {u uo z3 z4:Value} {cl:List VC} {co:List (ByteArray×VC)} {ll ol:Nat} (hx:BC wb w.heap.size [.int .u8 k, .int .i64 n, .string s,z3,z4]) (hr:BC wb (w.heap.size+1) (vcells vzero)) (hb0:uB w wb) (hsz:wb.heap.size=w.heap.size+2) (hb:uB wb W)
 (rL:W.ownsRow wb.heap.size 36 5 u ll (cl.flatMap vcells)) (rO:W.ownsRow wb.heap.size 75 6 uo ol (co.flatMap fcells)) (ap:∀g,u.ownBlock=some g->uo.ownBlock≠some g):Cl2 w ((W.setCell ⟨w.heap.size,3,none⟩ u).setCell ⟨w.heap.size,4,none⟩ uo) k n s u uo cl co ll ol:=by
 have st:RStep W ((W.setCell ⟨w.heap.size,3,none⟩ u).setCell ⟨w.heap.size,4,none⟩ uo) w.heap.size:=RStep.self.trans RStep.self
 have x1:=hx.keep hb hx.lt
 have r1:=hr.keep hb hr.lt
 have x2:=(x1.set (i:=3) (x:=u) (by simp)).set (i:=4) (x:=uo) (by simp)
 refine ⟨x2,r1.next st (by omega), ?_, ?_,ap,(hb0.trans (hb.mono hb0.size)).set_ (Nat.le_refl _)|>.set_ (Nat.le_refl _)⟩
 .rw [hsz] at rL
  refine rL.kept st.grown (.inr fun e=> ?_)
  have:=(rL.lt _ e).1;omega
 .rw [hsz] at rO
  refine rO.kept st.grown (.inr fun e=> ?_)
  have:=(rO.lt _ e).1;omega
theorem Cl2.makeL {w wb w4 w5:World} {k n:Int} {s:ByteArray} {u uo z3 z4:Value} {cl:List VC} {co:List (ByteArray×VC)} {ll ol:Nat} (hx:BC wb w.heap.size [.int .u8 k, .int .i64 n, .string s,z3,z4]) (hr:BC wb (w.heap.size+1) (vcells vzero)) (hb0:uB w wb) (hsz:wb.heap.size=w.heap.size+2)
 (hb4:Below wb.drew.heap.size wb.drew w4) (rl:w4.ownsRow wb.drew.heap.size 36 5 u ll (cl.flatMap vcells)) (hb5:uB w4 w5) (ro:w5.ownsRow w4.heap.size 75 6 uo ol (co.flatMap fcells)):Cl2 w ((w5.setCell ⟨w.heap.size,3,none⟩ u).setCell ⟨w.heap.size,4,none⟩ uo) k n s u uo cl co ll ol:=by
 have b4:uB wb w4:=(Zf wb).trans hb4
 have rl5:=rl.kept (row:=none) ⟨hb5.os,hb5.tape,hb5.output,hb5.size,fun k hk _=>hb5.block k hk⟩ (by cases hv:u.ownBlock<;>simp)
 exact Cl2.make hx hr hb0 hsz (b4.trans (hb5.mono b4.size)) rl5 (ro.mono b4.size) fun g h1 h2=>by
  have h3:=(rl.lt g h1).2;have h4:=(ro.lt g h2).1;omega
theorem Cl2.makeO {w wb w4 w5:World} {k n:Int} {s:ByteArray} {u uo z3 z4:Value} {cl:List VC} {co:List (ByteArray×VC)} {ll ol:Nat} (hx:BC wb w.heap.size [.int .u8 k, .int .i64 n, .string s,z3,z4]) (hr:BC wb (w.heap.size+1) (vcells vzero)) (hb0:uB w wb) (hsz:wb.heap.size=w.heap.size+2)
 (hb4:Below wb.drew.heap.size wb.drew w4) (ro:w4.ownsRow wb.drew.heap.size 75 6 uo ol (co.flatMap fcells)) (hb5:uB w4 w5) (rl:w5.ownsRow w4.heap.size 36 5 u ll (cl.flatMap vcells)):Cl2 w ((w5.setCell ⟨w.heap.size,3,none⟩ u).setCell ⟨w.heap.size,4,none⟩ uo) k n s u uo cl co ll ol:=by
 have b4:uB wb w4:=(Zf wb).trans hb4
 have ro5:=ro.kept (row:=none) ⟨hb5.os,hb5.tape,hb5.output,hb5.size,fun k hk _=>hb5.block k hk⟩ (by cases hv:uo.ownBlock<;>simp)
 exact Cl2.make hx hr hb0 hsz (b4.trans (hb5.mono b4.size)) (rl.mono b4.size) ro5 fun g h1 h2=>by
  have h3:=(rl.lt g h1).1;have h4:=(ro.lt g h2).2;omega
theorem Cl2.half {w W:World} {k n:Int} {s:ByteArray} {u uo:Value} {cl:List VC} {co:List (ByteArray×VC)} {l:List V} {o:List (ByteArray×V)} (h:Cl2 w W k n s u uo cl co l.length o.length) (h1:cl.length=l.length) (h2:∀i (h:i<l.length) (h':i<cl.length),IsVal w w.heap.size l[i] cl[i]) (h3:co.length=o.length) (h4:∀i (h:i<o.length) (h':i<co.length),(co[i].1=o[i].1/\o[i].1.size<=140737488355328)/\IsVal w w.heap.size o[i].2 co[i].2):
 Half w W (w.heap.size+2) l o u uo cl co 0 (fun _=>W.heap.size):=
 ⟨h1,h3,fun i hi hi'=>(h4 i hi hi').1,h.rowL,h.rowO,h.apart,fun g hg=>(h.rowL.lt g hg).2,fun g hg=>(h.rowO.lt g hg).2,Nat.succ_le_of_lt h.res.lt,rfl,Nat.zero_le _,fun _ _ _ _=>Nat.le_refl _,fun i hi hi' hij=>absurd hij (by omega),fun i hi hi' hij=>absurd hij (by omega),fun i hi hi' _=>h2 i hi hi',fun i hi hi' _=>(h4 i hi hi').2⟩
structure KC (w wr:World) (k n:Int) (s:ByteArray) (l:List V) (o:List (ByteArray×V)) (u uo:Value) (cl:List VC) (co:List (ByteArray×VC)) (j:Nat) (S:Nat->Nat):Prop where
 half:Half w wr (w.heap.size+2) l o u uo cl co j S
 box:BC wr w.heap.size [.int .u8 k, .int .i64 n, .string s,u,uo]
 res:BC wr (w.heap.size+1) (vcells vzero)
 below:Below w.heap.size w wr
theorem Cl2.kc {w W:World} {k n:Int} {s:ByteArray} {u uo:Value} {cl:List VC} {co:List (ByteArray×VC)} {l:List V} {o:List (ByteArray×V)} {ll ol:Nat} (h:Cl2 w W k n s u uo cl co ll ol) (e1:ll=l.length) (e2:ol=o.length) (h1:cl.length=l.length) (h2:∀i (h:i<l.length) (h':i<cl.length),IsVal w w.heap.size l[i] cl[i]) (h3:co.length=o.length) (h4:∀i (h:i<o.length) (h':i<co.length),(co[i].1=o[i].1/\o[i].1.size<=140737488355328)/\IsVal w w.heap.size o[i].2 co[i].2):
 KC w W k n s l o u uo cl co 0 (fun _=>W.heap.size):=by
 subst e1 e2
 exact ⟨h.half h1 h2 h3 h4,h.box,h.res,h.below⟩
structure RowAt (W:World) (g j:Nat) (f:VC) (um uc:Nat):Prop where
 at_:ValAt W g j f
 fr:∀q,W.frozen? ⟨g,q,none⟩=false
 lt:g<W.heap.size
theorem KC.rowL {w wr:World} {k n:Int} {s:ByteArray} {l:List V} {o:List (ByteArray×V)} {uo:Value} {ua:Option Addr} {um uc:Nat} {cl:List VC} {co:List (ByteArray×VC)} {j:Nat} {S:Nat->Nat} (h:KC w wr k n s l o (.slice ua um uc) uo cl co j S) {i:Nat} (hi:i<um):
 um=l.length/\um<=uc/\uc<=9223372036854775807/\∃g f,∃hl:i<l.length,∃hc:i<cl.length,ua=some ⟨g,0,none⟩/\cl[i] =f/\w.heap.size+2<=g/\RowAt wr g (i*5) f um uc:=by
 have h1:=h.half.rowL
 have hcl:=h.half.lenL
 rcases h1.2 with ⟨e,e2⟩|⟨g,cap,cur,e,hb,hg,hc1,hc2,_⟩
 .injection e with e3 e4 e5;omega
 .injection e with e3 e4 e5
  subst e3 e4 e5
  refine ⟨rfl,hc1,by unfold maxLen at hc2;omega,g,cl[i]'(by omega),hi,by omega,rfl,rfl,hb, ?_,fun q=>h1.frozenAt q,(h1.lt g rfl).2⟩
  have hbc:∀j v,(cl.flatMap vcells)[j]? =some v->wr.cell? ⟨g,j,none⟩=some v:=fun j v hj=>by
   have hlen:(cl.flatMap vcells).length=l.length*5:=h1.1
   rw [h1.cellAt j (by have:=(List.getElem?_eq_some_iff.1 hj).1;omega)];exact hj
  exact Y2 ⟨hbc,fun j=>h1.frozenAt j,(h1.lt g rfl).2⟩ (by omega)
theorem RowAt.later {W W':World} {g j:Nat} {f:VC} {um uc:Nat} (h:RowAt W g j f um uc) (hb:uB W W'):RowAt W' g j f um uc:=
 ⟨⟨Za hb h.at_.c0 h.lt,Za hb h.at_.c1 h.lt,Za hb h.at_.c2 h.lt,Za hb h.at_.c3 h.lt,Za hb h.at_.c4 h.lt⟩,fun q=>by
   have h1:=h.fr q
   have h2:=hb.block g h.lt
   simp only [World.frozen?] at h1 ⊢
   rw [h2];exact h1,Nat.lt_of_lt_of_le h.lt hb.size⟩
theorem KC.stepL {w wr w4:World} {k n:Int} {s:ByteArray} {l:List V} {o:List (ByteArray×V)} {uo:Value} {g um uc:Nat} {cl:List VC} {co:List (ByteArray×VC)} {j:Nat} {S:Nat->Nat} (h:KC w wr k n s l o (.slice (some ⟨g,0,none⟩) um uc) uo cl co j S) (hj:j<l.length) (hg:w.heap.size+2<=g) {cx:VC}
 (hb:Below wr.drew.heap.size wr.drew w4) (hs:SepI w4 wr.drew.heap.size w4.heap.size l[j] cx):KC w (setV w4 g (j*5) cx) k n s l o (.slice (some ⟨g,0,none⟩) um uc) uo (cl.set j cx) co (j+1) (more S j w4.heap.size):=by
 have hb4:uB wr w4:=(Zf wr).trans hb
 have st:=Zi w4 g (j*5) cx
 exact ⟨h.half.stepL hj rfl hb4 hs,(h.box.keep hb4 h.box.lt).next st (by omega),(h.res.keep hb4 h.res.lt).next st (by omega),(h.below.trans (hb4.mono h.below.size)).trans (st.lowC (by omega) (by have:=h.below.size;have:=hb4.size;omega))⟩
theorem KC.rowO {w wr:World} {k n:Int} {s:ByteArray} {l:List V} {o:List (ByteArray×V)} {u:Value} {va:Option Addr} {vm vc:Nat} {cl:List VC} {co:List (ByteArray×VC)} {j:Nat} {S:Nat->Nat} (h:KC w wr k n s l o u (.slice va vm vc) cl co j S) {i:Nat} (hi:i<vm):
 vm=o.length/\vm<=vc/\vc<=9223372036854775807/\∃g f,∃hl:i<o.length,∃hc:i<co.length,va=some ⟨g,0,none⟩/\co[i].2=f/\w.heap.size+2<=g/\RowAt wr g (i*6+1) f vm vc/\wr.cell? ⟨g,i*6,none⟩=some (.string o[i].1):=by
 have h1:=h.half.rowO
 have hco:=h.half.lenO
 rcases h1.2 with ⟨e,e2⟩|⟨g,cap,cur,e,hb,hg,hc1,hc2,_⟩
 .injection e with e3 e4 e5;omega
 .injection e with e3 e4 e5
  subst e3 e4 e5
  have hbc:∀j v,(co.flatMap fcells)[j]? =some v->wr.cell? ⟨g,j,none⟩=some v:=fun j v hj=>by
   have hlen:(co.flatMap fcells).length=o.length*6:=h1.1
   rw [h1.cellAt j (by have:=(List.getElem?_eq_some_iff.1 hj).1;omega)];exact hj
  obtain ⟨g1,g2⟩:=Yd (W:=wr) (g:=g) ⟨hbc,fun j=>h1.frozenAt j,(h1.lt g rfl).2⟩ (i:=i) (by omega)
  obtain ⟨k1,k2⟩:=h.half.keys i hi (by omega)
  exact ⟨rfl,hc1,by unfold maxLen at hc2;omega,g,(co[i]'(by omega)).2,hi,by omega,rfl,rfl,hb,⟨g2,fun q=>h1.frozenAt q,(h1.lt g rfl).2⟩,by rw [<-k1];exact g1⟩
theorem KC.stepO {w wr w4:World} {k n:Int} {s:ByteArray} {l:List V} {o:List (ByteArray×V)} {u:Value} {g um uc:Nat} {cl:List VC} {co:List (ByteArray×VC)} {j:Nat} {S:Nat->Nat} (h:KC w wr k n s l o u (.slice (some ⟨g,0,none⟩) um uc) cl co (l.length+j) S) (hj:j<o.length) (hjc:j<co.length) (hg:w.heap.size+2<=g) {cx:VC}
 (hb:Below wr.drew.heap.size wr.drew w4) (hs:SepI w4 wr.drew.heap.size w4.heap.size o[j].2 cx):KC w (setV w4 g (j*6+1) cx) k n s l o u (.slice (some ⟨g,0,none⟩) um uc) cl (co.set j (co[j].1,cx)) (l.length+(j+1)) (more S (l.length+j) w4.heap.size):=by
 have hb4:uB wr w4:=(Zf wr).trans hb
 have st:=Zi w4 g (j*6+1) cx
 exact ⟨h.half.stepO hj rfl hjc hb4 hs,(h.box.keep hb4 h.box.lt).next st (by omega),(h.res.keep hb4 h.res.lt).next st (by omega),(h.below.trans (hb4.mono h.below.size)).trans (st.lowC (by omega) (by have:=h.below.size;have:=hb4.size;omega))⟩
theorem KC.lens {w wr:World} {k n:Int} {s:ByteArray} {l:List V} {o:List (ByteArray×V)} {ua va:Option Addr} {um uc vm vc:Nat} {cl:List VC} {co:List (ByteArray×VC)} {j:Nat} {S:Nat->Nat} (h:KC w wr k n s l o (.slice ua um uc) (.slice va vm vc) cl co j S):(um=l.length/\um<=uc/\uc<=9223372036854775807)/\vm=o.length/\vm<=vc/\vc<=9223372036854775807:=by
 constructor
 .rcases h.half.rowL.2 with ⟨e,e2⟩|⟨g,cap,cur,e,hb,hg,hc1,hc2,_⟩
  .injection e with e3 e4 e5;omega
  .injection e with e3 e4 e5;unfold maxLen at hc2;omega
 .rcases h.half.rowO.2 with ⟨e,e2⟩|⟨g,cap,cur,e,hb,hg,hc1,hc2,_⟩
  .injection e with e3 e4 e5;omega
  .injection e with e3 e4 e5;unfold maxLen at hc2;omega
theorem zoa {tmps:Array Value} {W:World} {b:Nat} {c:VC} (ht:tmps[2]? =some (.pointer (some ⟨b,0,none⟩))) (h:BC W b (vcells c)):
 (results Tryz.f78 tmps).run Tryz.prog W= .ok (.agg #[.int .u8 c.k, .int .i64 c.n, .string c.s, .slice c.la c.ll c.lc, .slice c.oa c.ol c.oc]) W:=by
 obtain ⟨r0,r1,r2,r3,r4⟩:=row5 h.at_
 simp [results,Tryz.results78,go_sem,ht,r0,r1,r2,r3,r4]
def VCPost (w:World) (k n:Int) (s:ByteArray) (l:List V) (o:List (ByteArray×V)) (e:Ending) (w':World):Prop:=
 (∃(la:Option Addr) (ll lc:Nat) (oa:Option Addr) (ol oc:Nat) (cl:List VC) (co:List (ByteArray×VC)) (S:Nat->Nat),e= .returned (.agg #[.int .u8 k, .int .i64 n, .string s, .slice la ll lc, .slice oa ol oc])/\Half w w' w.heap.size l o (.slice la ll lc) (.slice oa ol oc) cl co (l.length+o.length) S/\(ll<=lc/\lc<=9223372036854775807)/\(ol<=oc/\oc<=9223372036854775807))/\Below w.heap.size w w'
def VNew (w:World) (x:V) (e:Ending) (w':World):Prop:=
 (∃c:VC,e= .returned (.agg #[.int .u8 c.k, .int .i64 c.n, .string c.s, .slice c.la c.ll c.lc, .slice c.oa c.ol c.oc])/\SepI w' w.heap.size w'.heap.size x c)/\Below w.heap.size w w'
def VCopyIH (x:V):Prop:=∀(W:World) (c:VC),IsVal W W.heap.size x c->Calls Tryz.prog 78 #[.agg #[.int .u8 c.k, .int .i64 c.n, .string c.s, .slice c.la c.ll c.lc, .slice c.oa c.ol c.oc]] W (VNew W x)
set_option maxRecDepth 100000 in
theorem zck (l:List V) (o:List (ByteArray×V)) (IHl:∀x ∈ l,VCopyIH x) (IHo:∀x ∈ o,VCopyIH x.2) (w:World) (k n:Int) (s:ByteArray) (la:Option Addr) (ll lc:Nat) (oa:Option Addr) (ol oc:Nat) (h1:IsVals w w.heap.size l la ll lc) (h2:IsFields w w.heap.size o oa ol oc):
 uP 78 #[.agg (uU k n s la ll lc oa ol oc)] w (VCPost w k n s l o):=by
 delta uU uP
 have HLN:=qh h1.len
 have HON:=qh h2.len
 have k1:=h1.few;have k3:=h2.few
 obtain ⟨cl,cl1,cl2,cl3⟩:=h1.clone
 obtain ⟨co,co1,co2,co3⟩:=h2.clone
 have HC1:=qh cl1;have HC2:=qh cl2;have HC3:=qh cl3
 have HO1:=qh co1;have HO2:=qh co2;have HO3:=qh co3
 have HIL:=qh IHl
 have HIO:=qh IHo
 clear h1 h2 IHl IHo cl1 cl2 cl3 co1 co2 co3
 go_enter Tryz.func78,Tryz.ntmps78
 generalize hQ0:bodyPost _ _ _=Q0
 have HQ:=qh hQ0
 clear hQ0
 go_upto_region 1 with fail
 have hbz:uB w ((w.alloc (.cells (uU k n s la ll lc oa ol oc) 36)).alloc (.cells (uU 0 0 { data:= #[] } none 0 0 none 0 0) 36)):=((Below.refl _ _).alloc (Nat.le_refl _) _).alloc (by simp) _
 have hsz:((w.alloc (.cells (uU k n s la ll lc oa ol oc) 36)).alloc (.cells (uU 0 0 { data:= #[] } none 0 0 none 0 0) 36)).heap.size=w.heap.size+2:=by simp
 have hbx:BC ((w.alloc (.cells (uU k n s la ll lc oa ol oc) 36)).alloc (.cells (uU 0 0 { data:= #[] } none 0 0 none 0 0) 36)) w.heap.size [.int .u8 k, .int .i64 n, .string s, .slice la ll lc, .slice oa ol oc] :=(BC.start w (uU k n s la ll lc oa ol oc) 36).keep ((Below.refl _ _).alloc (Nat.le_refl _) _) (by simp)
 have hbr:BC ((w.alloc (.cells (uU k n s la ll lc oa ol oc) 36)).alloc (.cells (uU 0 0 { data:= #[] } none 0 0 none 0 0) 36)) (w.heap.size+1) (vcells vzero):=by
  have h1:=BC.start (w.alloc (.cells (uU k n s la ll lc oa ol oc) 36)) #[.int .u8 0, .int .i64 0, .string { data:= #[] }, .slice none 0 0, .slice none 0 0] 36
  rw [World.size_alloc] at h1;exact h1
 generalize World.alloc _ _=wb at hbz hsz hbx hbr ⊢
 have hbd:uB w wb.drew:=hbz.drew
 have hxd:BC wb.drew w.heap.size [.int .u8 k, .int .i64 n, .string s, .slice la ll lc, .slice oa ol oc] :=⟨fun j x hj=>hbx.at_ j x hj,hbx.fr,hbx.lt⟩
 have HBX:=qh hbx;have HBR:=qh hbr;have HBZ:=qh hbz;have HSZ:=qh hsz;have HBD:=qh hbd;have HXD:=qh hxd
 have y3:=hxd.at_ 3 _ rfl;have y4:=hxd.at_ 4 _ rfl
 have f3:=hxd.fr 3;have f4:=hxd.fr 4
 have zx:=hxd.lt
 clear hbx hbr hbz hsz hbd hxd
 go_cut [] from 5 to 12 (fun wx=>∃(ua:Option Addr) (um uc:Nat) (va:Option Addr) (vm vc:Nat),Cl2 w wx k n s (.slice ua um uc) (.slice va vm vc) cl co ll ol)
 case first=>
  go_wp2_with fail
  refine wp_region_noPanic ?_
  go_region_law
   (first
    |(go_simp;go_at_call 116;(with_reducible refine (HC3.out _ HBD.out).mono ?_);rintro e w4 ⟨⟨ua,um,uc,rfl,rl4⟩,hb4⟩;have HRL:=qh rl4;have HB4:Hid (Below wb.drew.heap.size wb.drew w4):=qh hb4;have x4:=HXD.out.keep hb4 HXD.out.lt;have t3:=x4.at_ 3 _ rfl;have t4:=x4.at_ 4 _ rfl;have s3:=x4.fr 3;have s4:=x4.fr 4;have zx4:=x4.lt;have HW4:=qh (HBD.out.trans (hb4.mono HBD.out.size));clear rl4 hb4 x4)
    |(go_simp;go_at_call 117;(with_reducible refine (HO3.out _ HW4.out).mono ?_);rintro e w5 ⟨⟨va,vm,vc,rfl,ro5⟩,hb5⟩;have HRO5:=qh ro5;have HB5:Hid (uB w4 w5):=qh hb5;have x5:=(HXD.out.keep HB4.out HXD.out.lt).keep hb5 zx4;have p3:=x5.at_ 3 _ rfl;have p4:=x5.at_ 4 _ rfl;have q3:=x5.fr 3;have q4:=x5.fr 4;have zx5:=x5.lt;clear ro5 hb5 x5)
    |(go_simp;go_at_call 117;(with_reducible refine (HO3.out _ HBD.out).mono ?_);rintro e w4 ⟨⟨va,vm,vc,rfl,ro4⟩,hb4⟩;have HRO:=qh ro4;have HB4:Hid (Below wb.drew.heap.size wb.drew w4):=qh hb4;have x4:=HXD.out.keep hb4 HXD.out.lt;have t3:=x4.at_ 3 _ rfl;have t4:=x4.at_ 4 _ rfl;have s3:=x4.fr 3;have s4:=x4.fr 4;have zx4:=x4.lt;have HW4:=qh (HBD.out.trans (hb4.mono HBD.out.size));clear ro4 hb4 x4)
    |(go_simp;go_at_call 116;(with_reducible refine (HC3.out _ HW4.out).mono ?_);rintro e w5 ⟨⟨ua,um,uc,rfl,rl5⟩,hb5⟩;have HRL5:=qh rl5;have HB5:Hid (uB w4 w5):=qh hb5;have x5:=(HXD.out.keep HB4.out HXD.out.lt).keep hb5 zx4;have p3:=x5.at_ 3 _ rfl;have p4:=x5.at_ 4 _ rfl;have q3:=x5.fr 3;have q4:=x5.fr 4;have zx5:=x5.lt;clear rl5 hb5 x5))
  all_goals
   (first
    |(with_reducible refine Zt (P:=fun W=>Cl2 w W k n s (.slice ua um uc) (.slice va vm vc) cl co ll ol) (Cl2.makeL HBX.out HBR.out HBZ.out HSZ.out HB4.out HRL.out HB5.out HRO5.out) ?_)
    |(with_reducible refine Zt (P:=fun W=>Cl2 w W k n s (.slice ua um uc) (.slice va vm vc) cl co ll ol) (Cl2.makeO HBX.out HBR.out HBZ.out HSZ.out HB4.out HRO.out HB5.out HRL5.out) ?_))
   rintro W hC
   have HCW:=qh hC
   clear hC
   go_wp2_with fail
   go_meet
   exact ⟨_,_,_,_,_,_,HCW.out⟩
 case rest=>
 clear y3 y4 f3 f4 zx
 obtain ⟨ua,um,uc,va,vm,vc,hC⟩:=hcut
 have HKC:=qh (hC.kc HLN.out HON.out HC1.out HC2.out HO1.out HO2.out)
 have b3:=hC.box.at_ 3 _ rfl
 have zb:=hC.box.lt
 clear hC
 go_wp2_with fail
 go_loopw [3,16] (fun _ i wr=>∃(j:Nat) (cl':List VC) (S:Nat->Nat),j<=um/\i= .int .i64 j/\KC w wr k n s l o (.slice ua um uc) (.slice va vm vc) cl' co j S) (fun _ i _=>um - (intOf i).toNat)
 case atStart=>exact ⟨0,cl,_,Nat.zero_le _,rfl,HKC.out⟩
 case round =>
  obtain ⟨j,cl',S,hj,rfl,L⟩:=hrel
  clear b3 zb
  by_cases hlt:j<um
  .obtain ⟨e1,e2,e3,g,f,hjl,hjc,rfl,hf,hg,R⟩:=L.rowL hlt
   have hI:IsVal w w.heap.size l[j] f:=by rw [<-hf];exact L.half.oldL j hjl hjc (Nat.le_refl _)
   have HCI:Hid (∀W,Below wr.heap.size wr.drew W->uP 78 #[.agg (uV f)] W (VNew W l[j])):=fun W hW=>HIL.out l[j] (List.getElem_mem hjl) W f (hI.later_ (L.below.trans (((Zf wr).trans hW).mono L.below.size)))
   have y3:=L.box.at_ 3 _ rfl
   have zx:=L.box.lt
   have c0:=R.at_.c0;have c1:=R.at_.c1;have c2:=R.at_.c2;have c3:=R.at_.c3;have c4:=R.at_.c4
   have zg:=R.lt
   have HL:=qh L;have HR:=qh R;have HF:=qh hf
   clear L R hI hf e1
   go_wp2_with fail
   refine wp_region_noPanic ?_
   go_region_law
    (first
     |(go_simp;go_at_call 78;(with_reducible refine (HCI.out _ (Below.refl _ _)).mono ?_);rintro e w4 ⟨⟨cx,rfl,hS⟩,hb4⟩;have HS4:=qh hS;have HB4:Hid (Below wr.drew.heap.size wr.drew w4):=qh hb4;have x4:=(HL.out.box.keep ((Zf wr).trans hb4) zx);have t3:=x4.at_ 3 _ rfl;have zx4:=x4.lt;have R4:=HR.out.later ((Zf wr).trans hb4);have d0:=R4.at_.c0;have d1:=R4.at_.c1;have d2:=R4.at_.c2;have d3:=R4.at_.c3;have d4:=R4.at_.c4;have e0:=R4.fr (j*5);have e1':=R4.fr (j*5+1);have e2':=R4.fr (j*5+2);have e3':=R4.fr (j*5+3);have e4':=R4.fr (j*5+4);have zg4:=R4.lt;clear hS hb4 x4 R4))
   all_goals
    refine Zt (P:=fun W=>KC w W k n s l o (.slice (some ⟨g,0,none⟩) um uc) (.slice va vm vc) (cl'.set j cx) co (j+1) (more S j w4.heap.size)) (HL.out.stepL hjl hg HB4.out HS4.out) ?_
    rintro W hK
    have HK:=qh hK
    clear hK
    go_wp2_with fail
    go_roundw
    case rel=>exact ⟨j+1,_,_,by omega,by go_num,HK.out⟩
    case measure=>simp [intOf];omega
  .have hjn:j=um:=by omega
   obtain ⟨w1,hw1⟩:∃w1,w1=wr:=⟨_,rfl⟩
   subst hw1
   have y4:=L.box.at_ 4 _ rfl
   have zx:=L.box.lt
   have hlens:=L.lens
   have hK0:KC w w1 k n s l o (.slice ua um uc) (.slice va vm vc) cl' co (l.length+0) S:=by have h:=L;rw [hjn,hlens.1.1] at h;rw [hlens.1.1];exact h
   have HLS:=qh hlens
   have HK0:=qh hK0
   clear L hlens hK0 hjn
   go_wp2_with fail
   go_loopw [4,33] (fun _ i wr=>∃(j:Nat) (co':List (ByteArray×VC)) (S:Nat->Nat),j<=vm/\i= .int .i64 j/\KC w wr k n s l o (.slice ua um uc) (.slice va vm vc) cl' co' (l.length+j) S) (fun _ i _=>vm - (intOf i).toNat)
   case atStart=>exact ⟨0,co,_,Nat.zero_le _,rfl,HK0.out⟩
   case round=>
    obtain ⟨j,co',S,hj,rfl,L⟩:=hrel
    clear y4 zx
    by_cases hlt:j<vm
    .obtain ⟨e1,e2,e3,g,f,hjl,hjc,rfl,hf,hg,R,hkey⟩:=L.rowO hlt
     have hI:IsVal w w.heap.size o[j].2 f:=by rw [<-hf];exact L.half.oldO j hjl hjc (Nat.le_refl _)
     have HCI:Hid (∀W,Below wr.heap.size wr.drew W->uP 78 #[.agg (uV f)] W (VNew W o[j].2)):=fun W hW=>HIO.out o[j] (List.getElem_mem hjl) W f (hI.later_ (L.below.trans (((Zf wr).trans hW).mono L.below.size)))
     have y4:=L.box.at_ 4 _ rfl
     have zx:=L.box.lt
     have c0:=R.at_.c0;have c1:=R.at_.c1;have c2:=R.at_.c2;have c3:=R.at_.c3;have c4:=R.at_.c4
     have zg:=R.lt
     have HL:=qh L;have HR:=qh R;have HF:=qh hf
     clear L R hI hf e1
     go_wp2_with fail
     refine wp_region_noPanic ?_
     go_region_law
      (first
       |(go_simp;go_at_call 78;(with_reducible refine (HCI.out _ (Below.refl _ _)).mono ?_);rintro e w4 ⟨⟨cx,rfl,hS⟩,hb4⟩;have HS4:=qh hS;have HB4:Hid (Below wr.drew.heap.size wr.drew w4):=qh hb4;have x4:=(HL.out.box.keep ((Zf wr).trans hb4) zx);have t4:=x4.at_ 4 _ rfl;have zx4:=x4.lt;have R4:=HR.out.later ((Zf wr).trans hb4);have d0:=R4.at_.c0;have d1:=R4.at_.c1;have d2:=R4.at_.c2;have d3:=R4.at_.c3;have d4:=R4.at_.c4;have e0:=R4.fr (j*6+1);have e1':=R4.fr (j*6+1+1);have e2':=R4.fr (j*6+1+2);have e3':=R4.fr (j*6+1+3);have e4':=R4.fr (j*6+1+4);have zg4:=R4.lt;clear hS hb4 x4 R4))
     all_goals
      refine Zt (P:=fun W=>KC w W k n s l o (.slice ua um uc) (.slice (some ⟨g,0,none⟩) vm vc) cl' (co'.set j (co'[j].1,cx)) (l.length+(j+1)) (more S (l.length+j) w4.heap.size)) (HL.out.stepO hjl hjc hg HB4.out HS4.out) ?_
      rintro W hK
      have HK:=qh hK
      clear hK
      go_wp2_with fail
      go_roundw
      case rel=>exact ⟨j+1,_,_,by omega,by go_num,HK.out⟩
      case measure=>simp [intOf];omega
    .have hjn:j=vm:=by omega
     have HJ:=qh hjn
     obtain ⟨b0,b1,b2,b3,b4⟩:=row5 L.box.at_
     obtain ⟨r0,r1,r2,r3,r4⟩:=row5 L.res.at_
     have f0:=L.res.fr 0;have f1:=L.res.fr 1;have f2:=L.res.fr 2;have f3:=L.res.fr 3;have f4:=L.res.fr 4
     have zx:=L.box.lt;have zy:=L.res.lt
     have HL:=qh L
     clear L hjn
     go_wp2_with fail
     rw [<-HQ.out]
     have hF:KC w wr k n s l o (.slice ua um uc) (.slice va vm vc) cl' co' (l.length+o.length) S:=by have h:=HL.out;rw [HJ.out,HLS.out.2.1] at h;rw [HLS.out.2.1];exact h
     have st:=Zi wr (w.heap.size+1) 0 ⟨k,n,s,ua,um,uc,va,vm,vc⟩
     have hbx:=Z5 hF.res ⟨k,n,s,ua,um,uc,va,vm,vc⟩
     exact ⟨rfl,_,zoa rfl hbx,⟨⟨ua,um,uc,va,vm,vc,cl',co',S,rfl,hF.half.next st (by simp),HLS.out.1.2,HLS.out.2.2⟩,hF.below.trans (st.lowC (by omega) hF.below.size)⟩⟩
theorem VCPost.new {w:World} {v:V} {c0:VC} (h:IsVal w w.heap.size v c0) {e:Ending} {w':World} (hc:VCPost w c0.k c0.n c0.s v.ls v.os e w'):VNew w v e w':=by
 obtain ⟨k,n,s,l,o,rfl⟩:=v.eta
 obtain ⟨rfl,rfl,rfl,hb,h1,h2⟩:=h.lists
 obtain ⟨⟨la,ll,lc,oa,ol,oc,cl,co,S,rfl,hh,⟨g1,g2⟩,g3,g4⟩,hbl⟩:=hc
 have m1:=h1.len;have m2:=h1.few;have m3:=h2.len;have m4:=h2.few
 have hl1:ll=l.length:=by
  rcases hh.rowL.2 with ⟨e,e2⟩|⟨g,cap,cur,e,_⟩
  .injection e with e3 e4 e5;rw [e4];exact e2.symm
  .injection e
 have hl2:ol=o.length:=by
  rcases hh.rowO.2 with ⟨e,e2⟩|⟨g,cap,cur,e,_⟩
  .injection e with e3 e4 e5;rw [e4];exact e2.symm
  .injection e
 exact ⟨⟨⟨c0.k,c0.n,c0.s,la,ll,lc,oa,ol,oc⟩,rfl,hh.done (c:=⟨c0.k,c0.n,c0.s,la,ll,lc,oa,ol,oc⟩) ⟨hb.k0,hb.k1,hb.n0,hb.n1,hb.s1,g1,g2,by dsimp only;omega,g3,g4,by dsimp only;omega⟩⟩,hbl⟩
theorem zby (v:V):VCopyIH v:=by
 induction v using V.ind with
 | h k n s l o ihl iho=>
   intro W c h
   obtain ⟨rfl,rfl,rfl,hb,h1,h2⟩:=h.lists
   exact (zck l o ihl iho W c.k c.n c.s c.la c.ll c.lc c.oa c.ol c.oc h1 h2).mono fun e w' hc=>VCPost.new h hc
theorem zqx (w:World) (v:V) (c:VC) (h:IsVal w w.heap.size v c):
 uP 78 #[.agg (uV c)] w (VCPost w c.k c.n c.s v.ls v.os):=by
 delta uV uP
 obtain ⟨k,n,s,l,o,rfl⟩:=v.eta
 obtain ⟨_,_,_,_,h1,h2⟩:=h.lists
 exact zck l o (fun x _=>zby x) (fun x _=>zby x.2) w c.k c.n c.s c.la c.ll c.lc c.oa c.ol c.oc h1 h2
theorem VCPost.whole {w:World} {v:V} {c0:VC} (h:IsVal w w.heap.size v c0) {e:Ending} {w':World} (hc:VCPost w c0.k c0.n c0.s v.ls v.os e w'):(∃d:VC,e= .returned (.agg #[.int .u8 d.k, .int .i64 d.n, .string d.s, .slice d.la d.ll d.lc, .slice d.oa d.ol d.oc])/\Whole w' w.heap.size v d)/\uB w w':=by
 delta uB
 obtain ⟨k,n,s,l,o,rfl⟩:=v.eta
 obtain ⟨rfl,rfl,rfl,hb,h1,h2⟩:=h.lists
 obtain ⟨⟨la,ll,lc,oa,ol,oc,cl,co,S,rfl,hh,⟨g1,g2⟩,g3,g4⟩,hbl⟩:=hc
 have m1:=h1.len;have m2:=h1.few;have m3:=h2.len;have m4:=h2.few
 have hl1:ll=l.length:=by
  rcases hh.rowL.2 with ⟨e,e2⟩|⟨g,cap,cur,e,_⟩
  .injection e with e3 e4 e5;rw [e4];exact e2.symm
  .injection e
 have hl2:ol=o.length:=by
  rcases hh.rowO.2 with ⟨e,e2⟩|⟨g,cap,cur,e,_⟩
  .injection e with e3 e4 e5;rw [e4];exact e2.symm
  .injection e
 exact ⟨⟨⟨c0.k,c0.n,c0.s,la,ll,lc,oa,ol,oc⟩,rfl,rfl,⟨hb.k0,hb.k1,hb.n0,hb.n1,hb.s1,g1,g2,by dsimp only;omega,g3,g4,by dsimp only;omega⟩,cl,co,S,w,hh⟩,hbl⟩
theorem Xa (w:World) (v:V) (c:VC) (h:IsVal w w.heap.size v c):
 uP 78 #[.agg (uV c)] w fun e w'=>(∃d:VC,e= .returned (.agg #[.int .u8 d.k, .int .i64 d.n, .string d.s, .slice d.la d.ll d.lc, .slice d.oa d.ol d.oc])/\Whole w' w.heap.size v d)/\uB w w':=
 (zqx w v c h).mono fun _ _ hc=>hc.whole h
def IntoPost (w:World) (v:V) (c:VC) (s:St) (e:Ending) (w':World):Prop:=
 Below w.heap.size w w'/\((e= .returned (.pointer none)/\stepP v s=none)∨∃(x:V) (k g q q':Nat) (cx:VC),e= .returned (.pointer (some ⟨g,q',none⟩))/\stepP v s=some (x,k)/\IsVal w w.heap.size x cx/\ValAt w g q' cx/\g<w.heap.size/\
  ((s.list=true/\c.la=some ⟨g,q,none⟩/\q'=q+k*5)∨(s.list=false/\c.oa=some ⟨g,q,none⟩/\q'=q+k*6+1)))
set_option maxRecDepth 100000 in
theorem zgk (w:World) (b o:Nat) (v:V) (c:VC) (s:St) (hv:ValAt w b o c) (hI:IsVal w w.heap.size v c) (hs:s.list=true):
 uP 115 #[.pointer (some ⟨b,o,none⟩), .agg #[.bool s.list, .int .i64 s.i, .string s.key]] w (IntoPost w v c s):=by
 delta uP
 obtain ⟨vk,vn,vs,l,ol,rfl⟩:=v.eta
 obtain ⟨rfl,rfl,rfl,hb,h1,h2⟩:=hI.lists
 have c0:=hv.c0;have c3:=hv.c3
 have hbw:b<w.heap.size:=World.block_lt_of_cell? w _ c0
 have hln:=h1.len
 have k1:=h1.max;have k2:=h1.few
 obtain ⟨R,hR⟩:∃R,IntoPost w (.mk c.k c.n c.s l ol) c s=R:=⟨_,rfl⟩
 have HR:=qh hR
 rw [hR]
 have hal:uB w (w.alloc (.cells #[.bool s.list, .int .i64 s.i, .string s.key] 77)):=(Below.refl _ _).alloc (Nat.le_refl _) _
 have HAL:=qh hal
 have hno:¬(c.k=4/\0<=s.i/\s.i<l.length)->stepP (.mk c.k c.n c.s l ol) s=none:=fun h=>by
  unfold stepP;rw [if_pos hs,if_neg (show ¬((V.mk c.k c.n c.s l ol).kd=4/\0<=s.i/\s.i<((V.mk c.k c.n c.s l ol).ls.length:Int)) from h)]
 have HNO:=qh hno
 have HH1:=qh h1;have HL:=qh hln;have HS:=qh hs
 clear hno hR hal h2 hI hv hb
 by_cases e1:c.k=4
 .by_cases e2:s.i<0
  .have HST:Hid (stepP (.mk c.k c.n c.s l ol) s=none):=HNO.out (fun h=>by omega)
   have f1:(c.k !=4)=false:=by simp [e1]
   have f2:decide (s.i<0)=true:=decide_eq_true e2
   rw [hs] at HAL ⊢
   clear e1 e2 hln hs
   go_enter Tryz.func115,Tryz.ntmps115
   go_wp2_with fail
   go_quiet (fail)
   go_wp2_with fail
   rw [<-HR.out]
   exact ⟨Ye HAL.out _, .inl ⟨rfl,HST.out⟩⟩
  .have f1:(c.k !=4)=false:=by simp [e1]
   have f2:decide (s.i<0)=false:=decide_eq_false e2
   by_cases e3:s.i<(c.ll:Int)
   .obtain ⟨k,hk⟩:∃k:Nat,s.i=k:=⟨s.i.toNat,by omega⟩
    have hlt:k<c.ll:=by omega
    obtain ⟨g,q,f,hp,ha,hgB,hfv,hfI⟩:=h1.get hlt
    have HST:Hid (stepP (.mk c.k c.n c.s l ol) s=some (l[k]'hp,k)):=by
     show _=_
     unfold stepP
     have e4:(V.mk c.k c.n c.s l ol).kd=4/\0<=s.i/\s.i<((V.mk c.k c.n c.s l ol).ls.length:Int):=⟨e1,by omega,by show s.i<(l.length:Int);omega⟩
     rw [if_pos hs,if_pos e4,hk]
     show some (l.getD k V.none,k)=_
     simp [List.getD_eq_getElem?_getD,hp]
    have HFV:=qh hfv;have HFI:=qh hfI;have HA:=qh ha
    have f3:decide ((k:Int)≥(c.ll:Int))=false:=by simp;omega
    have f2':decide ((k:Int)<0)=false:=by simp
    rw [hk] at HAL
    rw [hs] at HAL ⊢
    rw [hk]
    rw [ha] at c3
    have HK:=qh hk
    clear e1 e2 e3 f2 hln hfv hfI ha hk h1 hs
    go_enter Tryz.func115,Tryz.ntmps115
    go_wp2_with fail
    go_quiet (fail)
    go_wp2_with fail
    go_quiet (fail)
    go_wp2_with fail
    rw [<-HR.out]
    exact ⟨Ye (Ye HAL.out _) _, .inr ⟨l[k]'hp,k,g,q,q+k*5,f,rfl,HST.out,HFI.out,HFV.out,hgB, .inl ⟨HS.out,HA.out,rfl⟩⟩⟩
   .have HST:Hid (stepP (.mk c.k c.n c.s l ol) s=none):=HNO.out (fun h=>by omega)
    have f3:decide (s.i≥(c.ll:Int))=true:=by simp;omega
    rw [hs] at HAL ⊢
    clear e1 e2 e3 hln hs
    go_enter Tryz.func115,Tryz.ntmps115
    go_wp2_with fail
    go_quiet (fail)
    go_wp2_with fail
    rw [<-HR.out]
    exact ⟨Ye HAL.out _, .inl ⟨rfl,HST.out⟩⟩
 .have f1:(c.k !=4)=true:=by simp [e1]
  have HST:Hid (stepP (.mk c.k c.n c.s l ol) s=none):=HNO.out (fun h=>e1 h.1)
  rw [hs] at HAL ⊢
  clear e1 hs
  go_enter Tryz.func115,Tryz.ntmps115
  go_wp2_with fail
  go_quiet (fail)
  go_wp2_with fail
  rw [<-HR.out]
  exact ⟨Ye HAL.out _, .inl ⟨rfl,HST.out⟩⟩
theorem zjr {o:List (ByteArray×V)} {key:ByteArray} (h:fieldIs o key=true):fieldK o key<o.length:=by
 unfold fieldIs at h
 by_cases hl:fieldK o key<o.length
 .exact hl
 .rw [List.getElem?_eq_none (by omega)] at h;simp at h
set_option maxRecDepth 100000 in
theorem zip (w:World) (b o:Nat) (v:V) (c:VC) (s:St) (hv:ValAt w b o c) (hI:IsVal w w.heap.size v c) (hs:s.list=false):
 uP 115 #[.pointer (some ⟨b,o,none⟩), .agg #[.bool s.list, .int .i64 s.i, .string s.key]] w (IntoPost w v c s):=by
 delta uP
 obtain ⟨vk,vn,vs,l,ol,rfl⟩:=v.eta
 obtain ⟨rfl,rfl,rfl,hb,h1,h2⟩:=hI.lists
 have hbw:b<w.heap.size:=World.block_lt_of_cell? w _ hv.c0
 have k1:=h2.max;have k2:=h2.few
 obtain ⟨is,his⟩:∃is,fieldIs ol s.key=is:=⟨_,rfl⟩
 obtain ⟨fk,hfk⟩:∃fk,fieldK ol s.key=fk:=⟨_,rfl⟩
 have HC:Hid (∀W,uB w W->uP 79 #[.agg (uV c), .string s.key] W fun e w'=>e= .returned (.tuple #[.int .i64 (fk:Int), .bool is])/\uB W w'):=fun W hW=>by
  rw [<-his, <-hfk];exact Qj W ol s.key c (h2.later_ hW)
 obtain ⟨R,hR⟩:∃R,IntoPost w (.mk c.k c.n c.s l ol) c s=R:=⟨_,rfl⟩
 have HR:=qh hR
 rw [hR]
 have hno:¬(c.k=5/\is=true)->stepP (.mk c.k c.n c.s l ol) s=none:=fun h=>by
  unfold stepP
  rw [if_neg (by rw [hs];simp),if_neg (show ¬((V.mk c.k c.n c.s l ol).kd=5/\fieldIs (V.mk c.k c.n c.s l ol).os s.key=true) from fun e=>h ⟨e.1,by rw [<-his];exact e.2⟩)]
 have hyes:c.k=5/\is=true->∃(x:V) (g q:Nat) (f:VC),fk<c.ol/\stepP (.mk c.k c.n c.s l ol) s=some (x,fk)/\c.oa=some ⟨g,q,none⟩/\g<w.heap.size/\ValAt w g (q+fk*6+1) f/\IsVal w w.heap.size x f:=fun h=>by
  have hlt:fk<ol.length:=by rw [<-hfk];exact zjr (by rw [his];exact h.2)
  obtain ⟨g,q,f,hp,ha,hgB,hkey,hks,hfv,hfI⟩:=h2.get (k:=fk) (by have:=h2.len;omega)
  refine ⟨_,g,q,f,by have:=h2.len;omega, ?_,ha,hgB,hfv,hfI⟩
  unfold stepP
  rw [if_neg (by rw [hs];simp),if_pos (show (V.mk c.k c.n c.s l ol).kd=5/\fieldIs (V.mk c.k c.n c.s l ol).os s.key=true from ⟨h.1,by rw [<-h.2, <-his];rfl⟩)]
  show some ((ol.getD (fieldK ol s.key) (.empty,V.none)).2,fieldK ol s.key)=_
  rw [hfk]
  simp [List.getD_eq_getElem?_getD,hlt]
 have hal:uB w (w.alloc (.cells #[.bool false, .int .i64 s.i, .string s.key] 77)):=(Below.refl _ _).alloc (Nat.le_refl _) _
 have hbx:BC (w.alloc (.cells #[.bool false, .int .i64 s.i, .string s.key] 77)) w.heap.size [.bool false, .int .i64 s.i, .string s.key] :=BC.start w #[.bool false, .int .i64 s.i, .string s.key] 77
 have hzz:(w.alloc (.cells #[.bool false, .int .i64 s.i, .string s.key] 77)).heap.size=w.heap.size+1:=World.size_alloc ..
 obtain ⟨oa,hoa⟩:∃oa,c.oa=oa:=⟨_,rfl⟩
 have HOA:=qh hoa
 have HV4:Hid (w.cell? ⟨b,o+4,none⟩=some (.slice oa c.ol c.oc)):=by show _=_;rw [<-hoa];exact hv.c4
 clear hoa
 have HNO:=qh hno;have HYES:=qh hyes;have HS:=qh hs;have HV:=qh hv
 rw [hs]
 clear hno hyes hR h1 h2 hI hv hb hs his hfk
 go_enter Tryz.func115,Tryz.ntmps115
 go_upto_region 5 with fail
 generalize World.alloc _ _=wb at hal hbx hzz ⊢
 have HFB:Hid (∀W,Below wb.heap.size wb.drew W->W.cell? ⟨w.heap.size,2,none⟩=some (.string s.key)/\W.cell? ⟨b,o,none⟩=some (.int .u8 c.k)/\W.cell? ⟨b,o+1,none⟩=some (.int .i64 c.n)/\W.cell? ⟨b,o+2,none⟩=some (.string c.s)/\W.cell? ⟨b,o+3,none⟩=some (.slice c.la c.ll c.lc)/\W.cell? ⟨b,o+4,none⟩=some (.slice oa c.ol c.oc)):=by
  intro W hW
  have h3:=(Zf wb).trans hW
  have hk:∀q u,w.cell? ⟨b,q,none⟩=some u->W.cell? ⟨b,q,none⟩=some u:=fun q u h=>Za (hal.trans (h3.mono hal.size)) h hbw
  exact ⟨Za h3 (hbx.at_ 2 _ rfl) hbx.lt,hk _ _ HV.out.c0,hk _ _ HV.out.c1,hk _ _ HV.out.c2,hk _ _ HV.out.c3,hk _ _ HV4.out⟩
 have HCW:Hid (∀W,Below wb.heap.size wb.drew W->uP 79 #[.agg (uU c.k c.n c.s c.la c.ll c.lc oa c.ol c.oc), .string s.key] W fun e w'=>e= .returned (.tuple #[.int .i64 (fk:Int), .bool is])/\uB W w'):=fun W hW=>by rw [<-HOA.out];exact HC.out W (hal.trans (((Zf wb).trans hW).mono hal.size))
 have HAL:=qh hal
 clear hal hbx
 refine wp_region_noPanic ?_
 go_region_held_law (fun W=>W.cell? ⟨w.heap.size,2,none⟩=some (.string s.key)/\W.cell? ⟨b,o,none⟩=some (.int .u8 c.k)/\W.cell? ⟨b,o+1,none⟩=some (.int .i64 c.n)/\W.cell? ⟨b,o+2,none⟩=some (.string c.s)/\W.cell? ⟨b,o+3,none⟩=some (.slice c.la c.ll c.lc)/\W.cell? ⟨b,o+4,none⟩=some (.slice oa c.ol c.oc))
  ((refine HFB.out _ ?_;(first|(with_reducible exact bl4)|(with_reducible exact Below.refl _ _))))
  (first
   |(go_at_call 79;(with_reducible refine (HCW.out _ (Below.refl _ _)).mono ?_);rintro e w4 ⟨rfl,hb4⟩;have bl4:Below wb.heap.size wb.drew w4:=hb4))
 refine NoPanic.normal ?_
 have hb4:uB w w4:=HAL.out.trans (((Zf wb).trans bl4).mono HAL.out.size)
 have d0:=Za hb4 HV.out.c0 hbw;have d4:=Za hb4 HV4.out hbw
 have hbw4:b<w4.heap.size:=Nat.lt_of_lt_of_le hbw hb4.size
 have HB4:=qh hb4
 clear hb4 bl4
 by_cases e5:c.k=5
 .have f1:(c.k !=5)=false:=by simp [e5]
  cases is with
  | true=>
    obtain ⟨x,g,q,f,hlt,hst,ha,hgB,hfv,hfI⟩:=HYES.out ⟨e5,rfl⟩
    have HST:=qh hst;have HA:=qh ha;have HFV:=qh hfv;have HFI:=qh hfI
    have hoa2:oa=some ⟨g,q,none⟩:=by rw [<-HOA.out];exact ha
    subst hoa2
    clear hst ha hfv hfI e5
    go_wp2_with fail
    rw [<-HR.out]
    exact ⟨HB4.out, .inr ⟨x,fk,g,q,q+fk*6+1,f,rfl,HST.out,HFI.out,HFV.out,hgB, .inr ⟨HS.out,HA.out,rfl⟩⟩⟩
  | false=>
    have HST:Hid (stepP (.mk c.k c.n c.s l ol) s=none):=HNO.out (fun h=>by cases h.2)
    clear e5
    go_wp2_with fail
    rw [<-HR.out]
    exact ⟨HB4.out, .inl ⟨rfl,HST.out⟩⟩
 .have f1:(c.k !=5)=true:=by simp [e5]
  have HST:Hid (stepP (.mk c.k c.n c.s l ol) s=none):=HNO.out (fun h=>e5 h.1)
  clear e5
  go_wp2_with fail
  rw [<-HR.out]
  exact ⟨HB4.out, .inl ⟨rfl,HST.out⟩⟩
theorem zeq (w:World) (b o:Nat) (v:V) (c:VC) (s:St) (hv:ValAt w b o c) (hI:IsVal w w.heap.size v c):
 uP 115 #[.pointer (some ⟨b,o,none⟩), .agg #[.bool s.list, .int .i64 s.i, .string s.key]] w (IntoPost w v c s):=by
 delta uP
 cases hs:s.list with
 |true=>rw [<-hs];exact zgk w b o v c s hv hI hs
 |false=>rw [<-hs];exact zip w b o v c s hv hI hs
theorem IsVal.child {w:World} {B:Nat} {v x:V} {c:VC} {s:St} {k:Nat} (h:IsVal w B v c) (hs:stepP v s=some (x,k)):
 (s.list=true/\∃g q cx,c.la=some ⟨g,q,none⟩/\g<B/\ValAt w g (q+k*5) cx/\IsVal w B x cx)∨(s.list=false/\∃g q cx,c.oa=some ⟨g,q,none⟩/\g<B/\ValAt w g (q+k*6+1) cx/\IsVal w B x cx):=by
 obtain ⟨vk,vn,vs,l,ol,rfl⟩:=v.eta
 obtain ⟨rfl,rfl,rfl,hb,h1,h2⟩:=h.lists
 rcases Yy hs with ⟨hl,_,_,hk,hx⟩|⟨hl,_,_,hk,hx⟩
 .have hk:k<l.length:=hk
  have hx:l[k] =x:=hx
  obtain ⟨g,q,f,hp,ha,hgB,hfv,hfI⟩:=h1.get (k:=k) (by have:=h1.len;omega)
  exact .inl ⟨hl,g,q,f,ha,hgB,hfv,by rw [<-hx];exact hfI⟩
 .have hk:k<ol.length:=hk
  have hx:ol[k].2=x:=hx
  obtain ⟨g,q,f,hp,ha,hgB,hkey,hks,hfv,hfI⟩:=h2.get (k:=k) (by have:=h2.len;omega)
  exact .inr ⟨hl,g,q,f,ha,hgB,hfv,by rw [<-hx];exact hfI⟩
theorem zcb {w:World} {b o:Nat} {c d:VC} (h:ValAt w b o c) (g:ValAt w b o d):c=d:=by
 obtain ⟨h0,h1,h2,h3,h4⟩:=h
 obtain ⟨g0,g1,g2,g3,g4⟩:=g
 rw [h0] at g0;rw [h1] at g1;rw [h2] at g2;rw [h3] at g3;rw [h4] at g4
 obtain ⟨ck,cn,cs,cla,cll,clc,coa,col,coc⟩:=c
 obtain ⟨dk,dn,ds,dla,dll,dlc,doa,dol,doc⟩:=d
 simp only [Option.some.injEq,Value.int.injEq,Value.string.injEq,Value.slice.injEq,true_and] at g0 g1 g2 g3 g4
 simp only [VC.mk.injEq]
 exact ⟨g0,g1,g2,g3.1,g3.2.1,g3.2.2,g4.1,g4.2.1,g4.2.2⟩
theorem Way.one {w:World} {b o:Nat} {v:V} {p:List St} {b1 o1:Nat} {x:V} (h:Way w b o v p b1 o1 x):∀ {b2 o2:Nat} {y:V},Way w b o v p b2 o2 y->b1=b2/\o1=o2/\x=y:=by
 induction h with
 |nil b o v=>intro b2 o2 y g;cases g;exact ⟨rfl,rfl,rfl⟩
 | list b o v x y c s r k g q b' o' hv hi hs hl ha h ih=>
   intro b2 o2 y2 e
   cases e with
   | list _ _ _ x2 _ c2 _ _ k2 g2 q2 _ _ hv2 hi2 hs2 hl2 ha2 h2=>
     obtain rfl:=zcb hv hv2
     rw [hs] at hs2;injection hs2 with hs2;injection hs2 with e1 e2
     subst e1 e2
     rw [ha] at ha2;injection ha2 with ha2;injection ha2 with e1 e2
     subst e1 e2
     exact ih h2
   |obj _ _ _ x2 _ c2 _ _ k2 g2 q2 _ _ hv2 hi2 hs2 hl2 ha2 h2=>rw [hl] at hl2;cases hl2
 | obj b o v x y c s r k g q b' o' hv hi hs hl ha h ih=>
   intro b2 o2 y2 e
   cases e with
   | obj _ _ _ x2 _ c2 _ _ k2 g2 q2 _ _ hv2 hi2 hs2 hl2 ha2 h2=>
     obtain rfl:=zcb hv hv2
     rw [hs] at hs2;injection hs2 with hs2;injection hs2 with e1 e2
     subst e1 e2
     rw [ha] at ha2;injection ha2 with ha2;injection ha2 with e1 e2
     subst e1 e2
     exact ih h2
   |list _ _ _ x2 _ c2 _ _ k2 g2 q2 _ _ hv2 hi2 hs2 hl2 ha2 h2=>rw [hl] at hl2;cases hl2
theorem Way.snoc {w:World} {b o:Nat} {v:V} {p:List St} {b1 o1:Nat} {x:V} (h:Way w b o v p b1 o1 x):∀ {s:St} {b2 o2:Nat} {y:V},Way w b1 o1 x [s] b2 o2 y->Way w b o v (p++ [s]) b2 o2 y:=by
 induction h with
 |nil b o v=>exact fun g=>g
 |list b o v x y c s r k g q b' o' hv hi hs hl ha h ih=>exact fun e=> .list b o v x _ c s _ k g q _ _ hv hi hs hl ha (ih e)
 |obj b o v x y c s r k g q b' o' hv hi hs hl ha h ih=>exact fun e=> .obj b o v x _ c s _ k g q _ _ hv hi hs hl ha (ih e)
set_option maxRecDepth 100000 in
theorem zl8 (w:World) (b o:Nat) (x:V) (c:VC) (hv:ValAt w b o c) (hI:IsVal w w.heap.size x c) (ob:Nat) (z:VC) (hz:BC w ob (vcells z)):
 uP 77 #[.pointer (some ⟨b,o,none⟩), .pointer (some ⟨ob,0,none⟩)] w fun e w'=>e= .returned (.tuple #[])/\∃(w4:World) (d:VC),Whole w4 w.heap.size x d/\uB w w4/\w'=setV w4 ob 0 d:=by
 delta uB uP
 have HC:=qh (Xa w x c hI)
 have c0:=hv.c0;have c1:=hv.c1;have c2:=hv.c2;have c3:=hv.c3;have c4:=hv.c4
 have hbw:b<w.heap.size:=World.block_lt_of_cell? w _ c0
 have HZ:=qh hz
 clear hv hI hz
 go_enter Tryz.func77,Tryz.ntmps77
 go_wp2_with fail
 refine HC.out.mono ?_
 rintro e w4 ⟨⟨d,rfl,hh⟩,hbl⟩
 have Z4:=HZ.out.keep hbl HZ.out.lt
 obtain ⟨z0,z1,z2,z3,z4⟩:=row5 Z4.at_
 have f0:=Z4.fr 0;have f1:=Z4.fr 1;have f2:=Z4.fr 2;have f3:=Z4.fr 3;have f4:=Z4.fr 4
 have zl:=Z4.lt
 have HH:=qh hh;have HB:=qh hbl
 clear Z4 hh hbl
 go_wp2_with fail
 refine ⟨rfl, .tuple #[],by simp [results,Tryz.results77,go_sem],rfl,w4,d,HH.out,HB.out,rfl⟩
set_option maxRecDepth 100000 in
theorem zj2 (w:World) (b o:Nat) (c0:VC) (hv:ValAt w b o c0) (hf:∀q,w.frozen? ⟨b,q,none⟩=false) (xb:Nat) (x:V) (c:VC) (hx:BC w xb (vcells c)) (hI:IsVal w w.heap.size x c):
 uP 84 #[.pointer (some ⟨b,o,none⟩), .pointer (some ⟨xb,0,none⟩)] w fun e w'=>e= .returned (.tuple #[])/\∃(w4:World) (d:VC),Whole w4 w.heap.size x d/\uB w w4/\w'=setV w4 b o d:=by
 delta uB uP
 have HC:=qh (Xa w x c hI)
 have hbw:b<w.heap.size:=World.block_lt_of_cell? w _ hv.c0
 obtain ⟨y0,y1,y2,y3,y4⟩:=row5 hx.at_
 have hxw:=hx.lt
 have HV:=qh hv;have HF:=qh hf
 clear hv hI hx hf
 go_enter Tryz.func84,Tryz.ntmps84
 go_wp2_with fail
 refine HC.out.mono ?_
 rintro e w4 ⟨⟨d,rfl,hh⟩,hbl⟩
 have z0:=Za hbl HV.out.c0 hbw;have z1:=Za hbl HV.out.c1 hbw;have z2:=Za hbl HV.out.c2 hbw;have z3:=Za hbl HV.out.c3 hbw;have z4:=Za hbl HV.out.c4 hbw
 have hfr:∀q,w4.frozen? ⟨b,q,none⟩=false:=fun q=>by rw [Y0 (hbl.block b hbw)];exact HF.out q
 have f0:=hfr o;have f1:=hfr (o+1);have f2:=hfr (o+2);have f3:=hfr (o+3);have f4:=hfr (o+4)
 have zl:b<w4.heap.size:=Nat.lt_of_lt_of_le hbw hbl.size
 have HH:=qh hh;have HB:=qh hbl
 clear hh hbl hfr
 go_wp2_with fail
 refine ⟨rfl, .tuple #[],by simp [results,Tryz.results84,go_sem],rfl,w4,d,HH.out,HB.out,rfl⟩
theorem znp (q:List St):∀(v:V) (r:List St),getP v (q++r)=(getP v q).bind fun x=>getP x r:=by
 induction q with
 |nil=>intro v r;rfl
 | cons s q ih=>
   intro v r
   simp only [List.cons_append,getP]
   cases stepP v s with
   |none=>rfl
   |some u=>exact ih u.1 r
theorem Way.get {w:World} {b o:Nat} {v:V} {p:List St} {b1 o1:Nat} {x:V} (h:Way w b o v p b1 o1 x):getP v p=some x:=by
 induction h with
 |nil b o v=>rfl
 |list b o v x y c s r k g q b' o' hv hi hs hl ha h ih=>unfold getP;rw [hs];exact ih
 |obj b o v x y c s r k g q b' o' hv hi hs hl ha h ih=>unfold getP;rw [hs];exact ih
theorem zcv {v x:V} {p:List St} {j:Nat} (hj:j<p.length) (hg:getP v (p.take j)=some x) (hs:stepP x p[j] =none):getP v p=none:=by
 have e:p=p.take j++(p[j] ::p.drop (j+1)):=by rw [<-List.drop_eq_getElem_cons hj,List.take_append_drop]
 rw [e,znp,hg]
 show getP x _=none
 unfold getP
 rw [hs]
structure Spot (w:World) (b o:Nat) (v:V) (p:List St) (b1 o1:Nat) (x:V) (cx:VC):Prop where
 way:Way w b o v p b1 o1 x
 at_:ValAt w b1 o1 cx
 val:IsVal w w.heap.size x cx
 lt:b1<w.heap.size
theorem Spot.next {w:World} {b o:Nat} {v:V} {p:List St} {b1 o1:Nat} {x:V} {cx:VC} {s:St} {x2:V} {k g q q':Nat} (h:Spot w b o v p b1 o1 x cx) (hs:stepP x s=some (x2,k))
 (hr:(s.list=true/\cx.la=some ⟨g,q,none⟩/\q'=q+k*5)∨(s.list=false/\cx.oa=some ⟨g,q,none⟩/\q'=q+k*6+1)):∃c2,Spot w b o v (p++ [s]) g q' x2 c2:=by
 rcases h.val.child hs with ⟨hl,g2,q2,c2,ha,hgB,hfv,hfI⟩|⟨hl,g2,q2,c2,ha,hgB,hfv,hfI⟩
 .rcases hr with ⟨_,ha2,rfl⟩|⟨hl2,_⟩
  .rw [ha] at ha2;injection ha2 with ha2;injection ha2 with e1 e2
   subst e1 e2
   exact ⟨c2,h.way.snoc (.list _ _ _ x2 _ cx s [] k g2 q2 _ _ h.at_ h.val hs hl ha (.nil _ _ _)),hfv,hfI,hgB⟩
  .rw [hl] at hl2;cases hl2
 .rcases hr with ⟨hl2,_⟩|⟨_,ha2,rfl⟩
  .rw [hl] at hl2;cases hl2
  .rw [ha] at ha2;injection ha2 with ha2;injection ha2 with e1 e2
   subst e1 e2
   exact ⟨c2,h.way.snoc (.obj _ _ _ x2 _ cx s [] k g2 q2 _ _ h.at_ h.val hs hl ha (.nil _ _ _)),hfv,hfI,hgB⟩
set_option maxRecDepth 100000 in
theorem zhp (w:World) (b o:Nat) (v:V) (c:VC) (p:List St) (pa:Option Addr) (pl pc:Nat) (hv:ValAt w b o c) (hI:IsVal w w.heap.size v c) (hp:IsSteps w w.heap.size p pa pl pc) (cap:Value) (QG:World->Nat->Nat->V->VC->World->Prop)
 (HDO:Hid (∀W b1 o1 x cx,uB w W->Spot w b o v p b1 o1 x cx->uP 77 #[.pointer (some ⟨b1,o1,none⟩),cap] W fun e w'=>e= .returned (.tuple #[])/\QG W b1 o1 x cx w')):
 uP 76 #[.pointer (some ⟨b,o,none⟩), .slice pa pl pc, .func (.func 77) #[] #[cap]] w fun e w'=>(e= .returned (.int .u16 30)/\getP v p=none/\uB w w')∨(e= .returned (.int .u16 0)/\∃W b1 o1 x cx,uB w W/\Spot w b o v p b1 o1 x cx/\QG W b1 o1 x cx w'):=by
 delta uB uP
 have eg:=enters_of Tryz.func77 (by kernel_rfl) rfl
 have k1:=hp.max;have k2:=hp.few
 have HLn:=qh hp.len
 have HP:=qh hp
 have hsp:Spot w b o v (p.take 0) b o v c:=⟨.nil _ _ _,hv,hI,World.block_lt_of_cell? w _ hv.c0⟩
 have HSP:=qh hsp
 clear hv hI hp hsp
 go_enter Tryz.func76,Tryz.ntmps76
 go_wp2_with fail
 go_loopw [0,8,11] (fun u _ i wr=>∃(j b1 o1:Nat) (x:V) (cx:VC),j<=pl/\i= .int .i64 j/\u= .pointer (some ⟨b1,o1,none⟩)/\Spot w b o v (p.take j) b1 o1 x cx/\uB w wr) (fun _ _ i _=>pl - (intOf i).toNat)
 case atStart=>exact ⟨0,b,o,v,c,Nat.zero_le _,rfl,rfl,HSP.out,Below.refl _ _⟩
 case round=>
  obtain ⟨j,b1,o1,x,cx,hj,rfl,rfl,hS,hbl⟩:=hrel
  have HS:=qh hS;have HBL:=qh hbl
  clear hS hbl
  by_cases hlt:j<pl
  .have hjp:j<p.length:=by have:=HLn.out;omega
   obtain ⟨sb,so,hp2,rfl,hsb,hst,hsbnd⟩:=(HP.out.keep HBL.out).get hlt
   obtain ⟨st,hste⟩:∃st,p[j]'hjp=st:=⟨_,rfl⟩
   have hst2:StepAt wr sb (so+j*3) st:=by rw [<-hste];exact hst
   have s0:=hst2.c0;have s1:=hst2.c1;have s2:=hst2.c2
   have hsbw:sb<wr.heap.size:=World.block_lt_of_cell? wr _ s0
   have HI:Hid (∀W,uB wr W->uP 115 #[.pointer (some ⟨b1,o1,none⟩), .agg #[.bool st.list, .int .i64 st.i, .string st.key]] W (IntoPost W x cx st)):=fun W hW=>by
    have h2:=HBL.out.trans (hW.mono HBL.out.size)
    exact zeq W b1 o1 x cx st ⟨Za h2 HS.out.at_.c0 HS.out.lt,Za h2 HS.out.at_.c1 HS.out.lt,Za h2 HS.out.at_.c2 HS.out.lt,Za h2 HS.out.at_.c3 HS.out.lt,Za h2 HS.out.at_.c4 HS.out.lt⟩ (HS.out.val.later_ h2)
   have HST:=qh hste
   clear hst hst2 hste
   go_wp2_with fail
   refine (HI.out _ ((Below.refl _ _).alloc (Nat.le_refl _) _)).mono ?_
   rintro e w5 ⟨hb5,(⟨rfl,hno⟩|⟨x2,k,g,q,q',c2,rfl,hyes,_,_,_,hr⟩)⟩
   .have hb6:uB w w5:=HBL.out.trans ((((Below.refl wr.heap.size wr).alloc (Nat.le_refl _) _).trans (hb5.mono (by simp))).mono HBL.out.size)
    have hgn:=zcv hjp HS.out.way.get (by rw [HST.out];exact hno)
    have HB6:=qh hb6;have HGN:=qh hgn
    clear hb5 hno hb6 hgn
    go_wp2_with fail
    go_returns
    exact .inl ⟨rfl,HGN.out,HB6.out⟩
   .have hb6:uB w w5:=HBL.out.trans ((((Below.refl wr.heap.size wr).alloc (Nat.le_refl _) _).trans (hb5.mono (by simp))).mono HBL.out.size)
    obtain ⟨c3,hS3⟩:=HS.out.next hyes hr
    have hS4:Spot w b o v (p.take (j+1)) g q' x2 c3:=by rw [List.take_succ_eq_append_getElem hjp,HST.out];exact hS3
    have HB6:=qh hb6;have HS4:=qh hS4
    clear hb5 hyes hr hb6 hS3 hS4
    go_wp2_with fail
    go_roundw
    case rel=>exact ⟨j+1,g,q',x2,c3,by omega,by go_num,rfl,HS4.out,HB6.out⟩
    case measure=>simp [intOf];omega
  .have hjn:p.take j=p:=List.take_of_length_le (by have:=HLn.out;omega)
   have hS2:=HS.out
   rw [hjn] at hS2
   have HC:=qh (HDO.out wr b1 o1 x cx HBL.out hS2)
   have HS2:=qh hS2
   clear hS2 hjn
   go_wp2_with fail
   refine HC.out.mono ?_
   rintro e w5 ⟨rfl,hq⟩
   have HQG:=qh hq
   clear hq
   go_wp2_with fail
   go_returns
   exact .inr ⟨rfl,wr,b1,o1,x,cx,HBL.out,HS2.out,HQG.out⟩
set_option maxRecDepth 100000 in
theorem zof (w:World) (b o:Nat) (v:V) (c:VC) (p:List St) (pa:Option Addr) (pl pc:Nat) (hv:ValAt w b o c) (hI:IsVal w w.heap.size v c) (hp:IsSteps w w.heap.size p pa pl pc) (cap:Value) (QG:World->Nat->Nat->V->VC->World->Prop)
 (HDO:Hid (∀W b1 o1 x cx,uB w W->Spot w b o v p b1 o1 x cx->uP 84 #[.pointer (some ⟨b1,o1,none⟩),cap] W fun e w'=>e= .returned (.tuple #[])/\QG W b1 o1 x cx w')):
 uP 76 #[.pointer (some ⟨b,o,none⟩), .slice pa pl pc, .func (.func 84) #[] #[cap]] w fun e w'=>(e= .returned (.int .u16 30)/\getP v p=none/\uB w w')∨(e= .returned (.int .u16 0)/\∃W b1 o1 x cx,uB w W/\Spot w b o v p b1 o1 x cx/\QG W b1 o1 x cx w'):=by
 delta uB uP
 have eg:=enters_of Tryz.func84 (by kernel_rfl) rfl
 have k1:=hp.max;have k2:=hp.few
 have HLn:=qh hp.len
 have HP:=qh hp
 have hsp:Spot w b o v (p.take 0) b o v c:=⟨.nil _ _ _,hv,hI,World.block_lt_of_cell? w _ hv.c0⟩
 have HSP:=qh hsp
 clear hv hI hp hsp
 go_enter Tryz.func76,Tryz.ntmps76
 go_wp2_with fail
 go_loopw [0,8,11] (fun u _ i wr=>∃(j b1 o1:Nat) (x:V) (cx:VC),j<=pl/\i= .int .i64 j/\u= .pointer (some ⟨b1,o1,none⟩)/\Spot w b o v (p.take j) b1 o1 x cx/\uB w wr) (fun _ _ i _=>pl - (intOf i).toNat)
 case atStart=>exact ⟨0,b,o,v,c,Nat.zero_le _,rfl,rfl,HSP.out,Below.refl _ _⟩
 case round=>
  obtain ⟨j,b1,o1,x,cx,hj,rfl,rfl,hS,hbl⟩:=hrel
  have HS:=qh hS;have HBL:=qh hbl
  clear hS hbl
  by_cases hlt:j<pl
  .have hjp:j<p.length:=by have:=HLn.out;omega
   obtain ⟨sb,so,hp2,rfl,hsb,hst,hsbnd⟩:=(HP.out.keep HBL.out).get hlt
   obtain ⟨st,hste⟩:∃st,p[j]'hjp=st:=⟨_,rfl⟩
   have hst2:StepAt wr sb (so+j*3) st:=by rw [<-hste];exact hst
   have s0:=hst2.c0;have s1:=hst2.c1;have s2:=hst2.c2
   have hsbw:sb<wr.heap.size:=World.block_lt_of_cell? wr _ s0
   have HI:Hid (∀W,uB wr W->uP 115 #[.pointer (some ⟨b1,o1,none⟩), .agg #[.bool st.list, .int .i64 st.i, .string st.key]] W (IntoPost W x cx st)):=fun W hW=>by
    have h2:=HBL.out.trans (hW.mono HBL.out.size)
    exact zeq W b1 o1 x cx st ⟨Za h2 HS.out.at_.c0 HS.out.lt,Za h2 HS.out.at_.c1 HS.out.lt,Za h2 HS.out.at_.c2 HS.out.lt,Za h2 HS.out.at_.c3 HS.out.lt,Za h2 HS.out.at_.c4 HS.out.lt⟩ (HS.out.val.later_ h2)
   have HST:=qh hste
   clear hst hst2 hste
   go_wp2_with fail
   refine (HI.out _ ((Below.refl _ _).alloc (Nat.le_refl _) _)).mono ?_
   rintro e w5 ⟨hb5,(⟨rfl,hno⟩|⟨x2,k,g,q,q',c2,rfl,hyes,_,_,_,hr⟩)⟩
   .have hb6:uB w w5:=HBL.out.trans ((((Below.refl wr.heap.size wr).alloc (Nat.le_refl _) _).trans (hb5.mono (by simp))).mono HBL.out.size)
    have hgn:=zcv hjp HS.out.way.get (by rw [HST.out];exact hno)
    have HB6:=qh hb6;have HGN:=qh hgn
    clear hb5 hno hb6 hgn
    go_wp2_with fail
    go_returns
    exact .inl ⟨rfl,HGN.out,HB6.out⟩
   .have hb6:uB w w5:=HBL.out.trans ((((Below.refl wr.heap.size wr).alloc (Nat.le_refl _) _).trans (hb5.mono (by simp))).mono HBL.out.size)
    obtain ⟨c3,hS3⟩:=HS.out.next hyes hr
    have hS4:Spot w b o v (p.take (j+1)) g q' x2 c3:=by rw [List.take_succ_eq_append_getElem hjp,HST.out];exact hS3
    have HB6:=qh hb6;have HS4:=qh hS4
    clear hb5 hyes hr hb6 hS3 hS4
    go_wp2_with fail
    go_roundw
    case rel=>exact ⟨j+1,g,q',x2,c3,by omega,by go_num,rfl,HS4.out,HB6.out⟩
    case measure=>simp [intOf];omega
  .have hjn:p.take j=p:=List.take_of_length_le (by have:=HLn.out;omega)
   have hS2:=HS.out
   rw [hjn] at hS2
   have HC:=qh (HDO.out wr b1 o1 x cx HBL.out hS2)
   have HS2:=qh hS2
   clear hS2 hjn
   go_wp2_with fail
   refine HC.out.mono ?_
   rintro e w5 ⟨rfl,hq⟩
   have HQG:=qh hq
   clear hq
   go_wp2_with fail
   go_returns
   exact .inr ⟨rfl,wr,b1,o1,x,cx,HBL.out,HS2.out,HQG.out⟩
theorem zeb {w:World} {b:Nat} {c:VC} (h:BC w b (vcells c)):ValAt w b 0 c:=⟨h.at_ 0 _ rfl,h.at_ 1 _ rfl,h.at_ 2 _ rfl,h.at_ 3 _ rfl,h.at_ 4 _ rfl⟩
theorem Jy (W:World) (b o:Nat) (d:VC):(setV W b o d).heap.size=W.heap.size:=by simp [setV]
def PGetPost (w:World) (v:V) (p:List St) (e:Ending) (w':World):Prop:=
 Below w.heap.size w w'/\((e= .returned (.tuple #[.agg #[.int .u8 0, .int .i64 0, .string { data:= #[] }, .slice none 0 0, .slice none 0 0], .int .u16 30])/\getP v p=none)∨∃(x:V) (d:VC),e= .returned (.tuple #[.agg #[.int .u8 d.k, .int .i64 d.n, .string d.s, .slice d.la d.ll d.lc, .slice d.oa d.ol d.oc], .int .u16 0])/\getP v p=some x/\Whole w' w.heap.size x d)
end Go.Proofs.YtnjgbiachcfigaaGreatDoor
