/-
  Contracts of the functions that the law reaches: (*work).field (the program's).
-/
import Derived.Test.YtbgheehjfnoiiaaGreatDoorOn26
namespace Go.Proofs.YtbgheehjfnoiiaaGreatDoor
open Go.RowKit
set_option maxHeartbeats 8000000
structure Gr2 (w w':World) (B:Nat) (u:Option Nat):Prop where
 os:w'.os=w.os
 tape:w'.tape=w.tape
 output:w'.output=w.output
 size:w.heap.size<=w'.heap.size
 block:∀k,k<w.heap.size->k≠B->some k≠u->w'.heap[k]? =w.heap[k]?
theorem Gr2.refl (w:World) (B:Nat) (u:Option Nat):Gr2 w w B u:=⟨rfl,rfl,rfl,Nat.le_refl _,fun _ _ _ _=>rfl⟩
theorem Gr2.below {a w w':World} {B:Nat} {u:Option Nat} (h:Gr2 a w B u) (hb:uB w w'):Gr2 a w' B u:=
 ⟨hb.os.trans h.os,hb.tape.trans h.tape,hb.output.trans h.output,Nat.le_trans h.size hb.size,fun k hk h1 h2=>(hb.block k (Nat.lt_of_lt_of_le hk h.size)).trans (h.block k hk h1 h2)⟩
theorem Gr2.grown {a w w':World} {B:Nat} {u v:Option Nat} (h:Gr2 a w B u) (hg:w.grownBy w' v) (hv:v=u∨∀k,v=some k->a.heap.size<=k):Gr2 a w' B u:=
 ⟨hg.os.trans h.os,hg.tape.trans h.tape,hg.output.trans h.output,Nat.le_trans h.size hg.size,fun k hk h1 h2=>(hg.block k (Nat.lt_of_lt_of_le hk h.size) (fun e=>by
  rcases hv with hv|hv
  .exact h2 (hv ▸ e)
  .have:=hv k e.symm;omega)).trans (h.block k hk h1 h2)⟩
theorem Gr2.set {a w:World} {B:Nat} {u:Option Nat} (h:Gr2 a w B u) (i:Nat) (x:Value):Gr2 a (w.setCell ⟨B,i,none⟩ x) B u:=by
 have hg:=(RStep.self:RStep w (w.setCell ⟨B,i,none⟩ x) B).grown
 exact ⟨hg.os.trans h.os,hg.tape.trans h.tape,hg.output.trans h.output,Nat.le_trans h.size hg.size,fun k hk h1 h2=>(hg.block k (Nat.lt_of_lt_of_le hk h.size) (fun e=>h1 (by injection e))).trans (h.block k hk h1 h2)⟩
theorem Gr2.low {w W:World} {B base:Nat} {u:Option Nat} (h:Gr2 w W B u) (hw:base<=w.heap.size) (hB:base<=B) (hu:∀k,u=some k->base<=k):Below base w W:=
 ⟨h.os,h.tape,h.output,h.size,fun k hk=>h.block k (by omega) (by omega) (fun e=>by have:=hu k e.symm;omega)⟩
theorem FRow.del_any {W:World} {base i:Nat} {S:Nat->Prop} {u:Value} {o:List (ByteArray×V)} {co:List (ByteArray×VC)} (h:FRow W base S u o co) (hi:i<o.length):
 uP 114 #[u, .int .i64 (i:Int), .int .i64 ((i:Int)+1)] W fun e w'=>∃v',e= .returned v'/\(∃co',FRow w' base S v' (o.take i++o.drop (i+1)) co')/\W.grownBy w' u.ownBlock/\(v'.ownBlock=u.ownBlock∨v'.ownBlock=some W.heap.size):=by
 delta uP
 refine (zju W base o.length i u (co.flatMap fcells) h.own hi (Yr co)).mono ?_
 rintro e w' ⟨v',rfl,ho,hg,hu⟩
 exact ⟨v',rfl,⟨_,h.rem hi ho hg hu⟩,hg,hu⟩
theorem FRow.ins_any {W:World} {base i vb:Nat} {S:Nat->Prop} {u:Value} {o:List (ByteArray×V)} {co:List (ByteArray×VC)} {key:ByteArray} {x:V} {cx:VC} (h:FRow W base S u o co) (hB:base<=W.heap.size) (hi:i<=o.length) (hn:o.length+1<=1466015503701) (hks:key.size<=140737488355328) (hx:IsVal (only (fun k=>S k/\u.ownBlock≠some k) W) W.heap.size x cx)
 (hvb:W.heap[vb]? =some (.cells #[.string key, .int .u8 cx.k, .int .i64 cx.n, .string cx.s, .slice cx.la cx.ll cx.lc, .slice cx.oa cx.ol cx.oc] 62 (0,0))) (hne:u.ownBlock≠some vb):
 uP 115 #[u, .int .i64 (i:Int), .slice (some ⟨vb,0,none⟩) 1 1] W fun e w'=>∃v',e= .returned v'/\(∃co',FRow w' base S v' (o.take i++(key,x)::o.drop i) co')/\W.grownBy w' u.ownBlock/\(v'.ownBlock=u.ownBlock∨v'.ownBlock=some W.heap.size):=by
 delta uP
 refine (zni W base o.length i vb 62 u (fcells (key,cx)) (co.flatMap fcells) h.own hB hi hn hvb hne rfl (Xp key cx) (Yr co)).mono ?_
 rintro e w' ⟨v',rfl,ho,hg,hu⟩
 exact ⟨v',rfl,⟨_,h.ins hi hks hx ho hg hu⟩,hg,hu⟩
theorem FRow.slice {w:World} {base:Nat} {S:Nat->Prop} {u:Value} {o:List (ByteArray×V)} {co:List (ByteArray×VC)} (h:FRow w base S u o co):∃a n c,u= .slice a n c:=by
 rcases h.own.2 with ⟨e,_⟩|⟨g,cap,cur,e,_⟩
 .exact ⟨_,_,_,e⟩
 .exact ⟨_,_,_,e⟩
theorem FRow.beside {w:World} {base B i:Nat} {u v:Value} {o:List (ByteArray×V)} {co:List (ByteArray×VC)} (h:FRow w base (fun k=>base<=k/\k≠B) u o co) (hne:u.ownBlock≠some B):FRow (w.setCell ⟨B,i,none⟩ v) base (fun k=>base<=k/\k≠B) u o co:=by
 have hg:=(RStep.self:RStep w (w.setCell ⟨B,i,none⟩ v) B).grown
 exact ⟨h.len,h.own.kept hg (.inr hne),h.keys,fun j hj hj'=>((h.els j hj hj').sub (Ze fun k hk hl=>⟨hk,hg.block k hl (fun e=>hk.1.2 (by injection e))⟩)).more hg.size⟩
def WFPost (w:World) (B base:Nat) (d:VC) (cc:CC) (o:List (ByteArray×V)) (e:Ending) (w':World):Prop:=
 e= .returned (.tuple #[])/\∃a n c,BC w' B (wcells ⟨d.k,d.n,d.s,d.la,d.ll,d.lc,a,n,c⟩ cc)/\IsFields (only (fun k=>base<=k/\k≠B) w') w'.heap.size o a n c/\Gr2 w w' B (Value.slice d.oa d.ol d.oc).ownBlock
theorem Zo {P:Program} {md:Region.Mode} {ops:Array Oper} {Q:Exit->Act->World->Prop} {S:World->Prop} {i:Nat} {d:Option Nat} {oi:Oper} {v:Value} {fuel:Nat} {listed:Array Bool} {a:Act} {w:World} (hi:ops[i]? =some oi) (hd:oi.dst=d)
 (hs:Region.noSelect ops=true) (hf:Region.free md ops listed i=true) (hr:(Region.ready md ops listed).contains i=true)
 (hQ:∀c a w,Q (.panic c) (a.put oi.dst v) w->Q (.panic c) a w) (hy:YieldsIf P ops S oi v a) (hS:S w)
 (h:wpAnyH P md ops Q S fuel (listed.setIfInBounds i true) (a.put d v) w):wpAnyH P md ops Q S (fuel+1) listed a w:=by
 subst hd
 exact wpAnyH_take hi hs hf hr hQ hy hS h
structure WF (w W:World) (B base:Nat) (d:VC) (cc:CC) (o:List (ByteArray×V)) (u:Option Nat) (oa:Option Addr) (ol oc:Nat):Prop where
 box:BC W B (wcells ⟨d.k,d.n,d.s,d.la,d.ll,d.lc,oa,ol,oc⟩ cc)
 row:∃co,FRow W base (fun k=>base<=k/\k≠B) (.slice oa ol oc) o co
 own:(Value.slice oa ol oc).ownBlock=u∨∃g,(Value.slice oa ol oc).ownBlock=some g/\w.heap.size<=g
 ne:(Value.slice oa ol oc).ownBlock≠some B
 gr:Gr2 w W B u
theorem WF.post {w W:World} {B base:Nat} {d:VC} {cc:CC} {o:List (ByteArray×V)} {oa:Option Addr} {ol oc:Nat} (h:WF w W B base d cc o (Value.slice d.oa d.ol d.oc).ownBlock oa ol oc) (hfew:o.length<=1466015503701):WFPost w B base d cc o (.returned (.tuple #[])) W:=by
 obtain ⟨co,hF⟩:=h.row
 obtain ⟨a,n,c,e,hI,_⟩:=hF.flds (fun g hg=>⟨(hF.own.lt g hg).1,fun e=>h.ne (by rw [hg,e])⟩) hfew
 injection e with e1 e2 e3
 subst e1 e2 e3
 exact ⟨rfl,_,_,_,h.box,hI,h.gr⟩
theorem WF.later {w W W':World} {B base:Nat} {d:VC} {cc:CC} {o:List (ByteArray×V)} {u:Option Nat} {oa:Option Addr} {ol oc:Nat} (h:WF w W B base d cc o u oa ol oc) (hb:uB W W'):WF w W' B base d cc o u oa ol oc:=by
 obtain ⟨co,hF⟩:=h.row
 exact ⟨h.box.keep hb h.box.lt,⟨co,hF.later hb⟩,h.own,h.ne,h.gr.below hb⟩
theorem WF.stored {w W W':World} {B base:Nat} {d:VC} {cc:CC} {o o':List (ByteArray×V)} {u:Option Nat} {oa:Option Addr} {ol oc:Nat} {a:Option Addr} {n c:Nat} (h:WF w W B base d cc o u oa ol oc) (hw:B<w.heap.size) {co':List (ByteArray×VC)} (hF:FRow W' base (fun k=>base<=k/\k≠B) (.slice a n c) o' co') (hg:W.grownBy W' (Value.slice oa ol oc).ownBlock) (hu:(Value.slice a n c).ownBlock=(Value.slice oa ol oc).ownBlock∨(Value.slice a n c).ownBlock=some W.heap.size):
 WF w (W'.setCell ⟨B,4,none⟩ (.slice a n c)) B base d cc o' u a n c:=by
 have hs:=h.gr.size
 have hne:(Value.slice a n c).ownBlock≠some B:=by
  rcases hu with hu|hu
  .rw [hu];exact h.ne
  .rw [hu];intro e;injection e with e;omega
 refine ⟨?_,⟨co',hF.beside hne⟩, ?_,hne, ?_⟩
 .exact (h.box.grown hg h.ne).set (i:=4) (x:= .slice a n c) (by simp [wcells,vcells])
 .rcases hu with hu|hu
  .rw [hu];exact h.own
  .exact .inr ⟨_,hu,hs⟩
 .refine (h.gr.grown hg ?_).set 4 _
  rcases h.own with e|⟨g,e,hg'⟩
  .exact .inl e
  .exact .inr fun k hk=>by rw [e] at hk;injection hk with hk;omega
set_option maxRecDepth 100000 in
theorem zjn (W0 w:World) (B base:Nat) (d:VC) (cc:CC) (x xv:V) (co:List (ByteArray×VC)) (hB:BC w B (wcells d cc)) (hW0:uB W0 w) (hbase:W0.heap.size<=base) (hbB:base<=B) (hx:IsFields w w.heap.size x.os d.oa d.ol d.oc) (hF:FRow w base (fun k=>base<=k/\k≠B) (.slice d.oa d.ol d.oc) x.os co) (hne:(Value.slice d.oa d.ol d.oc).ownBlock≠some B) (hxv:IsVal W0 W0.heap.size xv cc.v) (hk:cc.k=3) (his:fieldIs x.os cc.key=true) (hfew:x.os.length<=100000000) (hks:cc.key.size<=140737488355328):
 uP 68 #[.pointer (some ⟨B,0,none⟩)] w (WFPost w B base d cc (newF x.os cc.key xv true)):=by
 delta uP
 have hkl:=Yo x.os cc.key
 have hB0:=hB.lt
 have HF0:Hid (WF w w B base d cc x.os (Value.slice d.oa d.ol d.oc).ownBlock d.oa d.ol d.oc):=qh ⟨hB,⟨co,hF⟩, .inl rfl,hne,Gr2.refl _ _ _⟩
 have HVF:Hid (∀W,uB w W->uP 113 #[.agg (uV d), .string cc.key] W fun e w'=>e= .returned (.tuple #[.int .i64 (fieldK x.os cc.key:Int), .bool (fieldIs x.os cc.key)])/\uB W w'):=fun W hW=>Jo W x.os cc.key d (hx.later_ hW)
 have HCV:Hid (∀W,uB W0 W->uP 46 #[.agg (uV cc.v)] W fun e w'=>(∃f:VC,e= .returned (.agg #[.int .u8 f.k, .int .i64 f.n, .string f.s, .slice f.la f.ll f.lc, .slice f.oa f.ol f.oc])/\Whole w' W.heap.size xv f)/\uB W w'):=fun W hW=>Yt W xv cc.v (hxv.later_ hW)
 have hul:∀k,(Value.slice d.oa d.ol d.oc).ownBlock=some k->base<=k:=fun k hk=>(hF.own.lt k hk).1
 have HLOW:Hid (∀W,Gr2 w W B (Value.slice d.oa d.ol d.oc).ownBlock->uB W0 W):=qh fun W h=>hW0.trans ((h.low (by omega) hbB hul).mono hbase)
 have hBW:=hW0.size
 obtain ⟨FK,hFK⟩:∃FK,fieldK x.os cc.key=FK:=⟨_,rfl⟩
 obtain ⟨o,ho⟩:∃o,x.os=o:=⟨_,rfl⟩
 have HLT:=qh (Xg his)
 rw [hFK,ho] at HLT
 rw [hFK,his] at HVF
 rw [hFK,ho] at hkl
 have HR:Hid (newF x.os cc.key xv true=o.take FK++o.drop (FK+1)):=qh (by rw [newF,if_pos rfl,remF,his,if_pos rfl,hFK,ho])
 have HK3:=qh hk;clear hk
 rw [ho] at HF0 hfew
 have HKL:=qh hkl
 have HFEW:=qh hfew
 have c4:=hB.at_ 4 _ rfl;have c0:=hB.at_ 0 _ rfl;have c1:=hB.at_ 1 _ rfl;have c2:=hB.at_ 2 _ rfl;have c3:=hB.at_ 3 _ rfl;have c7:=hB.at_ 7 _ rfl
 have HBD:=qh (Zf w)
 have HKS:=qh hks
 have HBB:=qh hbB
 have HBA:=qh hbase
 have HB0:=qh hB0
 have hw1:IntKind.i64.wrap ((FK:Int)+1)=(FK:Int)+1:=IntWalk.i64_in _ (by omega)
 have mixed:Tryz.prog.follows .mixedOrders=true:=by kernel_rfl
 clear hB hW0 hbase hbB hx hF hne hxv his hfew hks hul hkl hFK ho hBW
 go_enter Tryz.func68,Tryz.ntmps68
 go_wp2_with fail
 go_region_with (go_simp;go_at_call 113;(with_reducible refine (HVF.out _ HBD.out).mono ?_);rintro e w1 ⟨rfl,hb1⟩;have HB1:=qh ((Zf w).trans hb1);clear hb1)
 all_goals (
  have HF1:=qh (HF0.out.later HB1.out)
  have y4:=HF1.out.box.at_ 4 _ rfl;have f4:=HF1.out.box.fr 4;have z1:=HF1.out.box.lt
  obtain ⟨co1,hF1⟩:=HF1.out.row
  have HDL:=qh (hF1.del_any (i:=FK) HLT.out)
  clear hF1
  go_wp2_with fail
  refine HDL.out.mono ?_
  rintro e w2 ⟨v2,rfl,⟨co2,hF2⟩,hg2,hu2⟩
  obtain ⟨a2,n2,c2,rfl⟩:=hF2.slice
  have HS2:=qh (HF1.out.stored HB0.out hF2 hg2 hu2)
  have BX2:=HF1.out.box.grown hg2 HF1.out.ne
  have x5:=BX2.at_ 5 _ rfl;rw [HK3.out] at x5;have x4:=BX2.at_ 4 _ rfl;have g4:=BX2.fr 4;have z2:=BX2.lt
  clear hF2 hg2 hu2 BX2
  go_wp2_with fail
  have HFIN:=HS2.out.post (by have:=HFEW.out;simp;omega)
  exact ⟨rfl, .tuple #[],by simp [results,Tryz.results68,go_sem],by rw [HR.out];exact HFIN⟩)
theorem zgg (o:List (ByteArray×V)) (key:ByteArray) (v:V) {FK:Nat} {IS:Bool} (hFK:fieldK o key=FK) (his:fieldIs o key=IS) (hkl:FK<=o.length) (hfew:o.length<=100000000):∃o2:List (ByteArray×V),(o2=if IS=true then o.take FK++o.drop (FK+1) else o)/\newF o key v false=o2.take FK++(key,v)::o2.drop FK/\FK<=o2.length/\o2.length+1<=1466015503701/\(o2.take FK++(key,v)::o2.drop FK).length<=1466015503701/\(IS=true->FK<o.length):=by
 have hlt:IS=true->FK<o.length:=fun h=>by rw [<-hFK];exact Xg (by rw [his,h])
 refine ⟨_,rfl, ?_, ?_, ?_, ?_,hlt⟩
 .cases IS with
  | true=>
    have h:=zmd o key v
    rw [remF,his,if_pos rfl,hFK] at h
    rw [newF,if_neg (by simp),if_pos rfl,h]
  |false=>rw [newF,if_neg (by simp),withF,his,if_neg (by simp),hFK,if_neg (by simp)]
 all_goals
  cases IS with
  |true=>have:=hlt rfl;simp;omega
  |false=>simp;omega
set_option maxRecDepth 100000 in
theorem zal (W0 w:World) (B base:Nat) (d:VC) (cc:CC) (x xv:V) (co:List (ByteArray×VC)) (hB:BC w B (wcells d cc)) (hW0:uB W0 w) (hbase:W0.heap.size<=base) (hbB:base<=B) (hx:IsFields w w.heap.size x.os d.oa d.ol d.oc) (hF:FRow w base (fun k=>base<=k/\k≠B) (.slice d.oa d.ol d.oc) x.os co) (hne:(Value.slice d.oa d.ol d.oc).ownBlock≠some B) (hxv:IsVal W0 W0.heap.size xv cc.v) (hk:cc.k=2) (hfew:x.os.length<=100000000) (hks:cc.key.size<=140737488355328):
 uP 68 #[.pointer (some ⟨B,0,none⟩)] w (WFPost w B base d cc (newF x.os cc.key xv false)):=by
 delta uP
 have hkl:=Yo x.os cc.key
 have hB0:=hB.lt
 have HF0:Hid (WF w w B base d cc x.os (Value.slice d.oa d.ol d.oc).ownBlock d.oa d.ol d.oc):=qh ⟨hB,⟨co,hF⟩, .inl rfl,hne,Gr2.refl _ _ _⟩
 have HVF:Hid (∀W,uB w W->uP 113 #[.agg (uV d), .string cc.key] W fun e w'=>e= .returned (.tuple #[.int .i64 (fieldK x.os cc.key:Int), .bool (fieldIs x.os cc.key)])/\uB W w'):=fun W hW=>Jo W x.os cc.key d (hx.later_ hW)
 have HCV:Hid (∀W,uB W0 W->uP 46 #[.agg (uV cc.v)] W fun e w'=>(∃f:VC,e= .returned (.agg #[.int .u8 f.k, .int .i64 f.n, .string f.s, .slice f.la f.ll f.lc, .slice f.oa f.ol f.oc])/\Whole w' W.heap.size xv f)/\uB W w'):=fun W hW=>Yt W xv cc.v (hxv.later_ hW)
 have hul:∀k,(Value.slice d.oa d.ol d.oc).ownBlock=some k->base<=k:=fun k hk=>(hF.own.lt k hk).1
 have HLOW:Hid (∀W,Gr2 w W B (Value.slice d.oa d.ol d.oc).ownBlock->uB W0 W):=qh fun W h=>hW0.trans ((h.low (by omega) hbB hul).mono hbase)
 have hBW:=hW0.size
 obtain ⟨FK,hFK⟩:∃FK,fieldK x.os cc.key=FK:=⟨_,rfl⟩
 obtain ⟨o,ho⟩:∃o,x.os=o:=⟨_,rfl⟩
 obtain ⟨IS,his⟩:∃IS,fieldIs x.os cc.key=IS:=⟨_,rfl⟩
 rw [hFK,his] at HVF
 rw [hFK,ho] at hkl
 obtain ⟨o2,ho2,hR,hko,hno,hnl,hlt⟩:=zgg (FK:=FK) (IS:=IS) o cc.key xv (by rw [<-ho];exact hFK) (by rw [<-ho];exact his) hkl (by rw [<-ho];exact hfew)
 rw [<-ho] at hR
 have HR:=qh hR;have HKO:=qh hko;have HNO:=qh hno;have HNL:=qh hnl;have HLT:=qh hlt;have HO2:=qh ho2
 have HK3:=qh hk;clear hk hR hko hno hnl hlt ho2
 rw [ho] at HF0 hfew
 have HKL:=qh hkl
 have HFEW:=qh hfew
 have c4:=hB.at_ 4 _ rfl;have c0:=hB.at_ 0 _ rfl;have c1:=hB.at_ 1 _ rfl;have c2:=hB.at_ 2 _ rfl;have c3:=hB.at_ 3 _ rfl;have c7:=hB.at_ 7 _ rfl
 have HBD:=qh (Zf w)
 have HKS:=qh hks
 have HBB:=qh hbB
 have HBA:=qh hbase
 have HB0:=qh hB0
 have hw1:IntKind.i64.wrap ((FK:Int)+1)=(FK:Int)+1:=IntWalk.i64_in _ (by omega)
 have mixed:Tryz.prog.follows .mixedOrders=true:=by kernel_rfl
 clear hB hW0 hbase hbB hx hF hne hxv his hfew hks hul hkl hFK ho hBW
 go_enter Tryz.func68,Tryz.ntmps68
 go_wp2_with fail
 go_region_with (go_simp;go_at_call 113;(with_reducible refine (HVF.out _ HBD.out).mono ?_);rintro e w1 ⟨rfl,hb1⟩;have HB1:=qh ((Zf w).trans hb1);clear hb1)
 all_goals (
  have HF1:=qh (HF0.out.later HB1.out)
  have hzw1:=HB1.out.size
  go_upto_if 17 with fail
  go_cut [] from 18 to 30 (fun wx=>∃(a2:Option Addr) (n2 c2:Nat),Hid (WF w wx B base d cc o2 (Value.slice d.oa d.ol d.oc).ownBlock a2 n2 c2))
  case first=>
   cases IS with
   | true=>
     have y4:=HF1.out.box.at_ 4 _ rfl;have f4:=HF1.out.box.fr 4;have z1:=HF1.out.box.lt
     obtain ⟨co1,hF1⟩:=HF1.out.row
     have HDL:=qh (hF1.del_any (i:=FK) (HLT.out rfl))
     clear hF1
     go_wp2_with fail
     refine HDL.out.mono ?_
     rintro e w2 ⟨v2,rfl,⟨co2,hF2⟩,hg2,hu2⟩
     obtain ⟨a2,n2,c2,rfl⟩:=hF2.slice
     have HS2:=qh (HF1.out.stored HB0.out hF2 hg2 hu2)
     have BX2:=HF1.out.box.grown hg2 HF1.out.ne
     have x4:=BX2.at_ 4 _ rfl;have g4:=BX2.fr 4;have z2:=BX2.lt
     clear hF2 hg2 hu2 BX2
     go_wp2_with fail
     go_meet
     exact ⟨a2,n2,c2,qh (by rw [HO2.out,if_pos (by trivial)];exact HS2.out)⟩
   | false=>
     go_wp2_with fail
     go_meet
     exact ⟨_,_,_,qh (by rw [HO2.out,if_neg (by simp)];exact HF1.out)⟩
  case rest=>
  obtain ⟨a2,n2,c2,HS3⟩:=hcut
  have y5:=HS3.out.box.at_ 5 _ rfl;rw [HK3.out] at y5;have z3:=HS3.out.box.lt
  go_upto_region 4 with fail
  clear y5 z3
  have q4:=HS3.out.box.at_ 4 _ rfl;have q7:=HS3.out.box.at_ 7 _ rfl;have q11:=HS3.out.box.at_ 11 _ rfl;have q12:=HS3.out.box.at_ 12 _ rfl;have q13:=HS3.out.box.at_ 13 _ rfl;have q14:=HS3.out.box.at_ 14 _ rfl;have q15:=HS3.out.box.at_ 15 _ rfl;have h4:=HS3.out.box.fr 4;have z3:=HS3.out.box.lt
  have HBD3:=qh ((HLOW.out _ HS3.out.gr).drew)
  have HZ3:=qh (HS3.out.gr.size)
  clear HF0 HVF HBD q7 q11 q12 q13 q14 q15
  have HSP:Hid (∀(W:World) (d':VC),BC W B (wcells d' cc)->W.cell? ⟨B,7,none⟩=some (.string cc.key)/\W.cell? ⟨B,11,none⟩=some (.int .u8 cc.v.k)/\W.cell? ⟨B,12,none⟩=some (.int .i64 cc.v.n)/\W.cell? ⟨B,13,none⟩=some (.string cc.v.s)/\W.cell? ⟨B,14,none⟩=some (.slice cc.v.la cc.v.ll cc.v.lc)/\W.cell? ⟨B,15,none⟩=some (.slice cc.v.oa cc.v.ol cc.v.oc)):=qh fun W d' h=>⟨h.at_ 7 _ rfl,h.at_ 11 _ rfl,h.at_ 12 _ rfl,h.at_ 13 _ rfl,h.at_ 14 _ rfl,h.at_ 15 _ rfl⟩
  have HK0:=qh (HSP.out _ _ (HS3.out.later (Zf wc)).box)
  refine wp_region_noPanic ?_
  refine wp_region_held_drew (S:=fun W=>W.cell? ⟨B,7,none⟩=some (.string cc.key)/\W.cell? ⟨B,11,none⟩=some (.int .u8 cc.v.k)/\W.cell? ⟨B,12,none⟩=some (.int .i64 cc.v.n)/\W.cell? ⟨B,13,none⟩=some (.string cc.v.s)/\W.cell? ⟨B,14,none⟩=some (.slice cc.v.la cc.v.ll cc.v.lc)/\W.cell? ⟨B,15,none⟩=some (.slice cc.v.oa cc.v.ol cc.v.oc)) (by kernel_rfl) HK0.out (fun hHeld=> ?_)
  refine Zo (i:=0) (d:=some 37) (v:= ?_) rfl rfl (by kernel_rfl) (by kernel_rfl) (by kernel_rfl) (fun _ _ _ h=>h) (Or.inl ⟨by rfl, ?_⟩) (by assumption) ?_
  rotate_left
  .intro w' hSw
   obtain ⟨s7,s11,s12,s13,s14,s15⟩:=hSw
   go_simp
   all_goals (with_reducible rfl)
  simp only [Act.put,List.setIfInBounds_toArray,List.set_cons_zero,List.set_cons_succ]
  refine Zo (i:=1) (d:=some 38) (v:= ?_) rfl rfl (by kernel_rfl) (by kernel_rfl) (by kernel_rfl) (fun _ _ _ h=>h) (Or.inl ⟨by rfl, ?_⟩) (by assumption) ?_
  rotate_left
  .intro w' hSw
   obtain ⟨s7,s11,s12,s13,s14,s15⟩:=hSw
   go_simp
   all_goals (with_reducible rfl)
  simp only [Act.put,List.setIfInBounds_toArray,List.set_cons_zero,List.set_cons_succ]
  refine Zo (i:=2) (d:=some 39) (v:= ?_) rfl rfl (by kernel_rfl) (by kernel_rfl) (by kernel_rfl) (fun _ _ _ h=>h) (Or.inl ⟨by rfl, ?_⟩) (by assumption) ?_
  rotate_left
  .intro w' hSw
   obtain ⟨s7,s11,s12,s13,s14,s15⟩:=hSw
   go_simp
   all_goals (with_reducible rfl)
  simp only [Act.put,List.setIfInBounds_toArray,List.set_cons_zero,List.set_cons_succ]
  refine Zo (i:=3) (d:=some 40) (v:= ?_) rfl rfl (by kernel_rfl) (by kernel_rfl) (by kernel_rfl) (fun _ _ _ h=>h) (Or.inl ⟨by rfl, ?_⟩) (by assumption) ?_
  rotate_left
  .intro w' hSw
   obtain ⟨s7,s11,s12,s13,s14,s15⟩:=hSw
   go_simp
   all_goals (with_reducible rfl)
  simp only [Act.put,List.setIfInBounds_toArray,List.set_cons_zero,List.set_cons_succ]
  refine Zo (i:=4) (d:=some 41) (v:= ?_) rfl rfl (by kernel_rfl) (by kernel_rfl) (by kernel_rfl) (fun _ _ _ h=>h) (Or.inl ⟨by rfl, ?_⟩) (by assumption) ?_
  rotate_left
  .intro w' hSw
   obtain ⟨s7,s11,s12,s13,s14,s15⟩:=hSw
   go_simp
   all_goals (with_reducible rfl)
  simp only [Act.put,List.setIfInBounds_toArray,List.set_cons_zero,List.set_cons_succ]
  refine Zo (i:=6) (d:=some 43) (v:= ?_) rfl rfl (by kernel_rfl) (by kernel_rfl) (by kernel_rfl) (fun _ _ _ h=>h) (Or.inl ⟨by rfl, ?_⟩) (by assumption) ?_
  rotate_left
  .intro w' hSw
   obtain ⟨s7,s11,s12,s13,s14,s15⟩:=hSw
   go_simp
   all_goals (with_reducible rfl)
  simp only [Act.put,List.setIfInBounds_toArray,List.set_cons_zero,List.set_cons_succ]
  refine Zo (i:=7) (d:=some 44) (v:= ?_) rfl rfl (by kernel_rfl) (by kernel_rfl) (by kernel_rfl) (fun _ _ _ h=>h) (Or.inl ⟨by rfl, ?_⟩) (by assumption) ?_
  rotate_left
  .intro w' hSw
   obtain ⟨s7,s11,s12,s13,s14,s15⟩:=hSw
   go_simp
   all_goals (with_reducible rfl)
  simp only [Act.put,List.setIfInBounds_toArray,List.set_cons_zero,List.set_cons_succ]
  refine Zo (i:=8) (d:=some 45) (v:= ?_) rfl rfl (by kernel_rfl) (by kernel_rfl) (by kernel_rfl) (fun _ _ _ h=>h) (Or.inl ⟨by rfl, ?_⟩) (by assumption) ?_
  rotate_left
  .intro w' hSw
   obtain ⟨s7,s11,s12,s13,s14,s15⟩:=hSw
   go_simp
   all_goals (with_reducible rfl)
  simp only [Act.put,List.setIfInBounds_toArray,List.set_cons_zero,List.set_cons_succ]
  refine Zo (i:=9) (d:=some 46) (v:= ?_) rfl rfl (by kernel_rfl) (by kernel_rfl) (by kernel_rfl) (fun _ _ _ h=>h) (Or.inl ⟨by rfl, ?_⟩) (by assumption) ?_
  rotate_left
  .intro w' hSw
   obtain ⟨s7,s11,s12,s13,s14,s15⟩:=hSw
   go_simp
   all_goals (with_reducible rfl)
  simp only [Act.put,List.setIfInBounds_toArray,List.set_cons_zero,List.set_cons_succ]
  refine Zo (i:=10) (d:=some 47) (v:= ?_) rfl rfl (by kernel_rfl) (by kernel_rfl) (by kernel_rfl) (fun _ _ _ h=>h) (Or.inl ⟨by rfl, ?_⟩) (by assumption) ?_
  rotate_left
  .intro w' hSw
   obtain ⟨s7,s11,s12,s13,s14,s15⟩:=hSw
   go_simp
   all_goals (with_reducible rfl)
  simp only [Act.put,List.setIfInBounds_toArray,List.set_cons_zero,List.set_cons_succ]
  refine Zo (i:=11) (d:=some 48) (v:= ?_) rfl rfl (by kernel_rfl) (by kernel_rfl) (by kernel_rfl) (fun _ _ _ h=>h) (Or.inl ⟨by rfl, ?_⟩) (by assumption) ?_
  rotate_left
  .intro w' hSw
   obtain ⟨s7,s11,s12,s13,s14,s15⟩:=hSw
   go_simp
   all_goals (with_reducible rfl)
  simp only [Act.put,List.setIfInBounds_toArray,List.set_cons_zero,List.set_cons_succ]
  refine Zo (i:=12) (d:=some 49) (v:= ?_) rfl rfl (by kernel_rfl) (by kernel_rfl) (by kernel_rfl) (fun _ _ _ h=>h) (Or.inl ⟨by rfl, ?_⟩) (by assumption) ?_
  rotate_left
  .intro w' hSw
   obtain ⟨s7,s11,s12,s13,s14,s15⟩:=hSw
   go_simp
   all_goals (with_reducible rfl)
  simp only [Act.put,List.setIfInBounds_toArray,List.set_cons_zero,List.set_cons_succ]
  refine Zo (i:=13) (d:=some 50) (v:= ?_) rfl rfl (by kernel_rfl) (by kernel_rfl) (by kernel_rfl) (fun _ _ _ h=>h) (Or.inl ⟨by rfl, ?_⟩) (by assumption) ?_
  rotate_left
  .intro w' hSw
   obtain ⟨s7,s11,s12,s13,s14,s15⟩:=hSw
   go_simp
   all_goals (with_reducible rfl)
  simp only [Act.put,List.setIfInBounds_toArray,List.set_cons_zero,List.set_cons_succ]
  refine Zo (i:=14) (d:=some 51) (v:= ?_) rfl rfl (by kernel_rfl) (by kernel_rfl) (by kernel_rfl) (fun _ _ _ h=>h) (Or.inl ⟨by rfl, ?_⟩) (by assumption) ?_
  rotate_left
  .intro w' hSw
   obtain ⟨s7,s11,s12,s13,s14,s15⟩:=hSw
   go_simp
   all_goals (with_reducible rfl)
  simp only [Act.put,List.setIfInBounds_toArray,List.set_cons_zero,List.set_cons_succ]
  refine Zo (i:=15) (d:=some 52) (v:= ?_) rfl rfl (by kernel_rfl) (by kernel_rfl) (by kernel_rfl) (fun _ _ _ h=>h) (Or.inl ⟨by rfl, ?_⟩) (by assumption) ?_
  rotate_left
  .intro w' hSw
   obtain ⟨s7,s11,s12,s13,s14,s15⟩:=hSw
   go_simp
   all_goals (with_reducible rfl)
  simp only [Act.put,List.setIfInBounds_toArray,List.set_cons_zero,List.set_cons_succ]
  refine Zo (i:=16) (d:=some 53) (v:= ?_) rfl rfl (by kernel_rfl) (by kernel_rfl) (by kernel_rfl) (fun _ _ _ h=>h) (Or.inl ⟨by rfl, ?_⟩) (by assumption) ?_
  rotate_left
  .intro w' hSw
   obtain ⟨s7,s11,s12,s13,s14,s15⟩:=hSw
   go_simp
   all_goals (with_reducible rfl)
  simp only [Act.put,List.setIfInBounds_toArray,List.set_cons_zero,List.set_cons_succ]
  refine wpAnyH_ready (rs:= [5,17]) (by kernel_rfl) (by simp) ?_
  refine AllReadyH.cons rfl (fun K hK=> ?_) (AllReadyH.cons rfl (fun K hK=> ?_) AllReadyH.nil)
  .go_simp
   refine hK.out _ _ HK0.out (fun _=> ?_)
   clear hK K
   try simp only [Act.put,List.setIfInBounds_toArray,List.set_cons_zero,List.set_cons_succ]
   refine wpAnyH_ready (rs:= [17]) (by kernel_rfl) (by simp) ?_
   refine AllReadyH.cons rfl (fun K hK=> ?_) AllReadyH.nil
   go_simp
   go_at_call 46
   (with_reducible refine (HCV.out _ HBD3.out).mono ?_)
   rintro e w4 ⟨⟨f,rfl,hW4⟩,hb4⟩
   have hB34:uB wc w4:=(Zf wc).trans hb4
   have HF4:=qh (HS3.out.later hB34)
   have p4:=HF4.out.box.at_ 4 _ rfl;have i4:=HF4.out.box.fr 4;have z4:=HF4.out.box.lt
   have HFA:=qh (HF4.out.later ((Below.refl _ _).alloc (Nat.le_refl _) (.cells #[.string cc.key, .int .u8 f.k, .int .i64 f.n, .string f.s, .slice f.la f.ll f.lc, .slice f.oa f.ol f.oc] 62)))
   have HK4:=qh (HSP.out _ _ HF4.out.box)
   have HKA:=qh (HSP.out _ _ HFA.out.box)
   obtain ⟨co4,hF4⟩:=HFA.out.row
   have hos:∀k,(Value.slice a2 n2 c2).ownBlock=some k->k<wc.heap.size:=(fun k hk=>(by obtain ⟨co3,hF3⟩:=HS3.out.row;exact (hF3.own.lt k hk).2))
   have HIN:=qh (hF4.ins_any (i:=FK) (key:=cc.key) (x:=xv) (cx:=f) (vb:=w4.heap.size) (by have:=HB0.out;have:=HBB.out;have:=HZ3.out;have:=hB34.size;simp;omega) HKO.out HNO.out HKS.out (((hW4.sepI.isVal).sub (Ze fun k hk hl=>⟨⟨⟨by have:=HB0.out;have:=HBB.out;have:=HZ3.out;have:wc.heap.size<=k:=hk;omega,by have:=HB0.out;have:=HZ3.out;have:wc.heap.size<=k:=hk;omega⟩,fun e=>by have:=hos k e;have:wc.heap.size<=k:=hk;omega⟩,by first|exact heap_alloc_old w4 _ k hl|exact heap_alloc_old w4 _ hl⟩)).more (by simp)) (heap_alloc_new w4 _) (fun e=>by have:=hos _ e;have:=hB34.size;omega))
   clear hW4 hb4 hB34 hF4 hos
   refine hK.out _ _ HK4.out (fun _=> ?_)
   clear hK K
   try simp only [Act.put,List.setIfInBounds_toArray,List.set_cons_zero,List.set_cons_succ]
   refine Zo (i:=18) (d:=some 55) (v:= ?_) rfl rfl (by kernel_rfl) (by kernel_rfl) (by kernel_rfl) (fun _ _ _ h=>h) (Or.inl ⟨by rfl, ?_⟩) (by assumption) ?_
   rotate_left
   .intro w' hSw
    obtain ⟨s7,s11,s12,s13,s14,s15⟩:=hSw
    go_simp
    all_goals (with_reducible rfl)
   simp only [Act.put,List.setIfInBounds_toArray,List.set_cons_zero,List.set_cons_succ]
   refine wpAnyH_ready (rs:= [19]) (by kernel_rfl) (by simp) ?_
   refine AllReadyH.cons rfl (fun K hK=> ?_) AllReadyH.nil
   go_simp
   refine hK.out _ _ HKA.out (fun _=> ?_)
   clear hK K
   try simp only [Act.put,List.setIfInBounds_toArray,List.set_cons_zero,List.set_cons_succ]
   refine wpAnyH_ready (rs:= [20]) (by kernel_rfl) (by simp) ?_
   refine AllReadyH.cons rfl (fun K hK=> ?_) AllReadyH.nil
   go_simp
   go_at_call 115
   (with_reducible refine HIN.out.mono ?_)
   rintro e w5 ⟨v5,rfl,⟨co5,hF5⟩,hg5,hu5⟩
   obtain ⟨a5,n5,c5,rfl⟩:=hF5.slice
   have BX5:=HFA.out.box.grown hg5 HFA.out.ne
   have j4:=BX5.fr 4;have m4:=BX5.at_ 4 _ rfl;have z5:=BX5.lt
   have HS5:=qh (HFA.out.stored HB0.out hF5 hg5 hu5)
   have HK5:=qh (HSP.out _ _ BX5)
   have HK6:=qh (HSP.out _ _ HS5.out.box)
   clear hF5 hg5 hu5 BX5
   refine hK.out _ _ HK5.out (fun _=> ?_)
   clear hK K
   try simp only [Act.put,List.setIfInBounds_toArray,List.set_cons_zero,List.set_cons_succ]
   refine Zo (i:=21) (d:=some 58) (v:= ?_) rfl rfl (by kernel_rfl) (by kernel_rfl) (by kernel_rfl) (fun _ _ _ h=>h) (Or.inl ⟨by rfl, ?_⟩) (by assumption) ?_
   rotate_left
   .intro w' hSw
    obtain ⟨s7,s11,s12,s13,s14,s15⟩:=hSw
    go_simp
    all_goals (with_reducible rfl)
   simp only [Act.put,List.setIfInBounds_toArray,List.set_cons_zero,List.set_cons_succ]
   refine Zo (i:=22) (d:=some 59) (v:= ?_) rfl rfl (by kernel_rfl) (by kernel_rfl) (by kernel_rfl) (fun _ _ _ h=>h) (Or.inl ⟨by rfl, ?_⟩) (by assumption) ?_
   rotate_left
   .intro w' hSw
    obtain ⟨s7,s11,s12,s13,s14,s15⟩:=hSw
    go_simp
    all_goals (with_reducible rfl)
   simp only [Act.put,List.setIfInBounds_toArray,List.set_cons_zero,List.set_cons_succ]
   refine Zo (i:=23) (d:=some 60) (v:= ?_) rfl rfl (by kernel_rfl) (by kernel_rfl) (by kernel_rfl) (fun _ _ _ h=>h) (Or.inl ⟨by rfl, ?_⟩) (by assumption) ?_
   rotate_left
   .intro w' hSw
    obtain ⟨s7,s11,s12,s13,s14,s15⟩:=hSw
    go_simp
    all_goals (with_reducible rfl)
   simp only [Act.put,List.setIfInBounds_toArray,List.set_cons_zero,List.set_cons_succ]
   refine wpAnyH_ready (rs:= [24]) (by kernel_rfl) (by simp) ?_
   refine AllReadyH.cons rfl (fun K hK=> ?_) AllReadyH.nil
   go_simp
   refine hK.out _ _ HK6.out (fun _=> ?_)
   clear hK K
   try simp only [Act.put,List.setIfInBounds_toArray,List.set_cons_zero,List.set_cons_succ]
   refine wpAnyH_done (by kernel_rfl) ?_ _
   refine NoPanic.normal ?_
   go_wp2_with fail
   have HFIN:=HS5.out.post HNL.out
   exact ⟨rfl, .tuple #[],by simp [results,Tryz.results68,go_sem],by rw [HR.out];exact HFIN⟩
  .go_simp
   go_at_call 46
   (with_reducible refine (HCV.out _ HBD3.out).mono ?_)
   rintro e w4 ⟨⟨f,rfl,hW4⟩,hb4⟩
   have hB34:uB wc w4:=(Zf wc).trans hb4
   have HF4:=qh (HS3.out.later hB34)
   have p4:=HF4.out.box.at_ 4 _ rfl;have i4:=HF4.out.box.fr 4;have z4:=HF4.out.box.lt
   have HFA:=qh (HF4.out.later ((Below.refl _ _).alloc (Nat.le_refl _) (.cells #[.string cc.key, .int .u8 f.k, .int .i64 f.n, .string f.s, .slice f.la f.ll f.lc, .slice f.oa f.ol f.oc] 62)))
   have HK4:=qh (HSP.out _ _ HF4.out.box)
   have HKA:=qh (HSP.out _ _ HFA.out.box)
   obtain ⟨co4,hF4⟩:=HFA.out.row
   have hos:∀k,(Value.slice a2 n2 c2).ownBlock=some k->k<wc.heap.size:=(fun k hk=>(by obtain ⟨co3,hF3⟩:=HS3.out.row;exact (hF3.own.lt k hk).2))
   have HIN:=qh (hF4.ins_any (i:=FK) (key:=cc.key) (x:=xv) (cx:=f) (vb:=w4.heap.size) (by have:=HB0.out;have:=HBB.out;have:=HZ3.out;have:=hB34.size;simp;omega) HKO.out HNO.out HKS.out (((hW4.sepI.isVal).sub (Ze fun k hk hl=>⟨⟨⟨by have:=HB0.out;have:=HBB.out;have:=HZ3.out;have:wc.heap.size<=k:=hk;omega,by have:=HB0.out;have:=HZ3.out;have:wc.heap.size<=k:=hk;omega⟩,fun e=>by have:=hos k e;have:wc.heap.size<=k:=hk;omega⟩,by first|exact heap_alloc_old w4 _ k hl|exact heap_alloc_old w4 _ hl⟩)).more (by simp)) (heap_alloc_new w4 _) (fun e=>by have:=hos _ e;have:=hB34.size;omega))
   clear hW4 hb4 hB34 hF4 hos
   refine hK.out _ _ HK4.out (fun _=> ?_)
   clear hK K
   try simp only [Act.put,List.setIfInBounds_toArray,List.set_cons_zero,List.set_cons_succ]
   refine Zo (i:=18) (d:=some 55) (v:= ?_) rfl rfl (by kernel_rfl) (by kernel_rfl) (by kernel_rfl) (fun _ _ _ h=>h) (Or.inl ⟨by rfl, ?_⟩) (by assumption) ?_
   rotate_left
   .intro w' hSw
    obtain ⟨s7,s11,s12,s13,s14,s15⟩:=hSw
    go_simp
    all_goals (with_reducible rfl)
   simp only [Act.put,List.setIfInBounds_toArray,List.set_cons_zero,List.set_cons_succ]
   refine wpAnyH_ready (rs:= [5,19]) (by kernel_rfl) (by simp) ?_
   refine AllReadyH.cons rfl (fun K hK=> ?_) (AllReadyH.cons rfl (fun K hK=> ?_) AllReadyH.nil)
   .go_simp
    refine hK.out _ _ HK4.out (fun _=> ?_)
    clear hK K
    try simp only [Act.put,List.setIfInBounds_toArray,List.set_cons_zero,List.set_cons_succ]
    refine wpAnyH_ready (rs:= [19]) (by kernel_rfl) (by simp) ?_
    refine AllReadyH.cons rfl (fun K hK=> ?_) AllReadyH.nil
    go_simp
    refine hK.out _ _ HKA.out (fun _=> ?_)
    clear hK K
    try simp only [Act.put,List.setIfInBounds_toArray,List.set_cons_zero,List.set_cons_succ]
    refine wpAnyH_ready (rs:= [20]) (by kernel_rfl) (by simp) ?_
    refine AllReadyH.cons rfl (fun K hK=> ?_) AllReadyH.nil
    go_simp
    go_at_call 115
    (with_reducible refine HIN.out.mono ?_)
    rintro e w5 ⟨v5,rfl,⟨co5,hF5⟩,hg5,hu5⟩
    obtain ⟨a5,n5,c5,rfl⟩:=hF5.slice
    have BX5:=HFA.out.box.grown hg5 HFA.out.ne
    have j4:=BX5.fr 4;have m4:=BX5.at_ 4 _ rfl;have z5:=BX5.lt
    have HS5:=qh (HFA.out.stored HB0.out hF5 hg5 hu5)
    have HK5:=qh (HSP.out _ _ BX5)
    have HK6:=qh (HSP.out _ _ HS5.out.box)
    clear hF5 hg5 hu5 BX5
    refine hK.out _ _ HK5.out (fun _=> ?_)
    clear hK K
    try simp only [Act.put,List.setIfInBounds_toArray,List.set_cons_zero,List.set_cons_succ]
    refine Zo (i:=21) (d:=some 58) (v:= ?_) rfl rfl (by kernel_rfl) (by kernel_rfl) (by kernel_rfl) (fun _ _ _ h=>h) (Or.inl ⟨by rfl, ?_⟩) (by assumption) ?_
    rotate_left
    .intro w' hSw
     obtain ⟨s7,s11,s12,s13,s14,s15⟩:=hSw
     go_simp
     all_goals (with_reducible rfl)
    simp only [Act.put,List.setIfInBounds_toArray,List.set_cons_zero,List.set_cons_succ]
    refine Zo (i:=22) (d:=some 59) (v:= ?_) rfl rfl (by kernel_rfl) (by kernel_rfl) (by kernel_rfl) (fun _ _ _ h=>h) (Or.inl ⟨by rfl, ?_⟩) (by assumption) ?_
    rotate_left
    .intro w' hSw
     obtain ⟨s7,s11,s12,s13,s14,s15⟩:=hSw
     go_simp
     all_goals (with_reducible rfl)
    simp only [Act.put,List.setIfInBounds_toArray,List.set_cons_zero,List.set_cons_succ]
    refine Zo (i:=23) (d:=some 60) (v:= ?_) rfl rfl (by kernel_rfl) (by kernel_rfl) (by kernel_rfl) (fun _ _ _ h=>h) (Or.inl ⟨by rfl, ?_⟩) (by assumption) ?_
    rotate_left
    .intro w' hSw
     obtain ⟨s7,s11,s12,s13,s14,s15⟩:=hSw
     go_simp
     all_goals (with_reducible rfl)
    simp only [Act.put,List.setIfInBounds_toArray,List.set_cons_zero,List.set_cons_succ]
    refine wpAnyH_ready (rs:= [24]) (by kernel_rfl) (by simp) ?_
    refine AllReadyH.cons rfl (fun K hK=> ?_) AllReadyH.nil
    go_simp
    refine hK.out _ _ HK6.out (fun _=> ?_)
    clear hK K
    try simp only [Act.put,List.setIfInBounds_toArray,List.set_cons_zero,List.set_cons_succ]
    refine wpAnyH_done (by kernel_rfl) ?_ _
    refine NoPanic.normal ?_
    go_wp2_with fail
    have HFIN:=HS5.out.post HNL.out
    exact ⟨rfl, .tuple #[],by simp [results,Tryz.results68,go_sem],by rw [HR.out];exact HFIN⟩
   .go_simp
    refine hK.out _ _ HKA.out (fun _=> ?_)
    clear hK K
    try simp only [Act.put,List.setIfInBounds_toArray,List.set_cons_zero,List.set_cons_succ]
    refine wpAnyH_ready (rs:= [5]) (by kernel_rfl) (by simp) ?_
    refine AllReadyH.cons rfl (fun K hK=> ?_) AllReadyH.nil
    go_simp
    refine hK.out _ _ HKA.out (fun _=> ?_)
    clear hK K
    try simp only [Act.put,List.setIfInBounds_toArray,List.set_cons_zero,List.set_cons_succ]
    refine wpAnyH_ready (rs:= [20]) (by kernel_rfl) (by simp) ?_
    refine AllReadyH.cons rfl (fun K hK=> ?_) AllReadyH.nil
    go_simp
    go_at_call 115
    (with_reducible refine HIN.out.mono ?_)
    rintro e w5 ⟨v5,rfl,⟨co5,hF5⟩,hg5,hu5⟩
    obtain ⟨a5,n5,c5,rfl⟩:=hF5.slice
    have BX5:=HFA.out.box.grown hg5 HFA.out.ne
    have j4:=BX5.fr 4;have m4:=BX5.at_ 4 _ rfl;have z5:=BX5.lt
    have HS5:=qh (HFA.out.stored HB0.out hF5 hg5 hu5)
    have HK5:=qh (HSP.out _ _ BX5)
    have HK6:=qh (HSP.out _ _ HS5.out.box)
    clear hF5 hg5 hu5 BX5
    refine hK.out _ _ HK5.out (fun _=> ?_)
    clear hK K
    try simp only [Act.put,List.setIfInBounds_toArray,List.set_cons_zero,List.set_cons_succ]
    refine Zo (i:=21) (d:=some 58) (v:= ?_) rfl rfl (by kernel_rfl) (by kernel_rfl) (by kernel_rfl) (fun _ _ _ h=>h) (Or.inl ⟨by rfl, ?_⟩) (by assumption) ?_
    rotate_left
    .intro w' hSw
     obtain ⟨s7,s11,s12,s13,s14,s15⟩:=hSw
     go_simp
     all_goals (with_reducible rfl)
    simp only [Act.put,List.setIfInBounds_toArray,List.set_cons_zero,List.set_cons_succ]
    refine Zo (i:=22) (d:=some 59) (v:= ?_) rfl rfl (by kernel_rfl) (by kernel_rfl) (by kernel_rfl) (fun _ _ _ h=>h) (Or.inl ⟨by rfl, ?_⟩) (by assumption) ?_
    rotate_left
    .intro w' hSw
     obtain ⟨s7,s11,s12,s13,s14,s15⟩:=hSw
     go_simp
     all_goals (with_reducible rfl)
    simp only [Act.put,List.setIfInBounds_toArray,List.set_cons_zero,List.set_cons_succ]
    refine Zo (i:=23) (d:=some 60) (v:= ?_) rfl rfl (by kernel_rfl) (by kernel_rfl) (by kernel_rfl) (fun _ _ _ h=>h) (Or.inl ⟨by rfl, ?_⟩) (by assumption) ?_
    rotate_left
    .intro w' hSw
     obtain ⟨s7,s11,s12,s13,s14,s15⟩:=hSw
     go_simp
     all_goals (with_reducible rfl)
    simp only [Act.put,List.setIfInBounds_toArray,List.set_cons_zero,List.set_cons_succ]
    refine wpAnyH_ready (rs:= [24]) (by kernel_rfl) (by simp) ?_
    refine AllReadyH.cons rfl (fun K hK=> ?_) AllReadyH.nil
    go_simp
    refine hK.out _ _ HK6.out (fun _=> ?_)
    clear hK K
    try simp only [Act.put,List.setIfInBounds_toArray,List.set_cons_zero,List.set_cons_succ]
    refine wpAnyH_done (by kernel_rfl) ?_ _
    refine NoPanic.normal ?_
    go_wp2_with fail
    have HFIN:=HS5.out.post HNL.out
    exact ⟨rfl, .tuple #[],by simp [results,Tryz.results68,go_sem],by rw [HR.out];exact HFIN⟩
 )
end Go.Proofs.YtbgheehjfnoiiaaGreatDoor
