/-
  Contracts of the functions that the law reaches: conciliatorlaw03.Walk: a path into a.
-/
import Derived.Test.YtfoahkbnheijcaaDoorCq32
import Derived.Test.YtfoahkbnheijcaaDoorCq13
namespace Go.Proofs.YtfoahkbnheijcaaDoor
open Go.RowKit
set_option maxHeartbeats 16000000
theorem zja:(Tryd.prog.info? 57).map (fun i=>(i.zero,i.size,i.bytes))=some (some (.agg #[.bool false, .int .i64 0, .string { data:= #[] }]),3,32):=by kernel_rfl
def walkP:V->List UInt8->List St
 |_, [] => []
 | v,b::r=>if 0<v.ls.length then ⟨true,(b.toNat % v.ls.length:Nat), .empty⟩::walkP (v.ls.getD (b.toNat % v.ls.length) V.none) r
   else if 0<v.os.length then ⟨false,0,(v.os.getD (b.toNat % v.os.length) (.empty,V.none)).1⟩::walkP (v.os.getD (b.toNat % v.os.length) (.empty,V.none)).2 r
   else walkP v r
theorem zlz (l:List UInt8):∀v,(walkP v l).length<=l.length:=by
 induction l with
 |nil=>intro v;simp [walkP]
 | cons b r ih=>
   intro v
   unfold walkP
   split
   .have:=ih (v.ls.getD (b.toNat % v.ls.length) V.none);simp only [List.length_cons];omega
   .split
    .have:=ih (v.os.getD (b.toNat % v.os.length) (.empty,V.none)).2;simp only [List.length_cons];omega
    .have:=ih v;simp only [List.length_cons];omega
theorem zem {w:World} {B1:Nat} {S:Nat->Prop} {v:Value} {l:List St} (hown:w.ownsRow B1 57 3 v l.length (l.flatMap scells)) (hS:∀k,B1<=k->S k) (hb:∀s ∈ l,s.Bnd) (hfew:l.length<=1466015503701):
 ∃a n c,v= .slice a n c/\IsSteps (only S w) w.heap.size l a n c:=by
 obtain ⟨a,c,hv,hr⟩:=OwnRow.of (base':=B1) hown (Nat.le_refl _)
 refine ⟨a,l.length,c,hv,rfl,hr.cap,hr.max,hfew, ?_⟩
 by_cases hn:0<l.length
 .obtain ⟨g,e,hg,hbc⟩:=hr.row (.inl hn)
  refine ⟨g,0,fun _=>⟨e,hbc.lt⟩,fun i hi=>⟨?_,hb _ (List.getElem_mem hi)⟩⟩
  have hc:∀t x,t<3->(scells l[i])[t]? =some x->(only S w).cell? ⟨g,0+i*3+t,none⟩=some x:=fun t x ht hx=>by
   rw [Nat.zero_add]
   exact Z1 (hS g hg) (hbc.at_ _ _ ((Xm scells 3 (fun _=>rfl) l i t hi ht).trans hx))
  exact ⟨hc 0 _ (by omega) rfl,hc 1 _ (by omega) rfl,hc 2 _ (by omega) rfl⟩
 .exact ⟨0,0,fun h=>absurd h hn,fun i hi=>absurd hi (by omega)⟩
def WalkPost (w:World) (l:List St) (e:Ending) (w':World):Prop:=
 (∃a n c,e= .returned (.slice a n c)/\IsSteps (only (fun b=>w.heap.size<=b) w') w'.heap.size l a n c)/\Below w.heap.size w w'
structure WKH (w wr:World) (v x:V) (c:VC) (bs:List UInt8) (j:Nat) (u:Value) (xs:List St):Prop where
 rd:xs++walkP x ((bs.take 8).drop j)=walkP v (bs.take 8)
 few:xs.length<=j
 bnd:∀s ∈ xs,s.Bnd
 val:IsVal w w.heap.size x c
 box:BC wr w.heap.size (vcells c)
 own:wr.ownsRow (w.heap.size+1) 57 3 u xs.length (xs.flatMap scells)
 below:Below w.heap.size w wr
theorem zcr (a b:Nat):Int.tmod (a:Int) (b:Int)=((a % b:Nat):Int):=by
 rw [Int.tmod_eq_emod_of_nonneg (by omega)];omega
theorem za3 (w:World) (n:Nat) (s:St) (t:TypeId):∀j u,(scells s)[j]? =some u->((w.drewN n).alloc (.cells #[.bool s.list, .int .i64 s.i, .string s.key] t)).cell? ((⟨w.heap.size,0,none⟩:Addr).add j)=some u:=
 World.news_of_block (t:=t) (fr:=(0,0)) (heap_alloc_new (w.drewN n) (.cells #[.bool s.list, .int .i64 s.i, .string s.key] t))
theorem WKH.round {w wr w7:World} {v x x':V} {c c':VC} {bs:List UInt8} {j:Nat} {u u':Value} {xs:List St} {s:St} (h:WKH w wr v x c bs j u xs) (hrd:(xs++ [s])++walkP x' ((bs.take 8).drop (j+1))=walkP v (bs.take 8)) (hs:s.Bnd) (hv:IsVal w w.heap.size x' c') (hb7:Below (w.heap.size+1) wr w7) (hown:w7.ownsRow (w.heap.size+1) 57 3 u' (xs.length+1) (xs.flatMap scells++scells s)):
 WKH w (((((w7.setCell ⟨w.heap.size,0,none⟩ (.int .u8 c'.k)).setCell ⟨w.heap.size,1,none⟩ (.int .i64 c'.n)).setCell ⟨w.heap.size,2,none⟩ (.string c'.s)).setCell ⟨w.heap.size,3,none⟩ (.slice c'.la c'.ll c'.lc)).setCell ⟨w.heap.size,4,none⟩ (.slice c'.oa c'.ol c'.oc)) v x' c' bs (j+1) u' (xs++ [s]):=by
 have hz:=h.box.lt
 have hst:=Zk w7 w.heap.size 0 c'
 have hbx:=h.box.keep hb7 (by omega)
 refine ⟨hrd,by rw [List.length_append,List.length_singleton];have:=h.few;omega,fun s' h'=> ?_,hv,Zz hbx c', ?_,Below.set5' (h.below.trans (hb7.mono (by omega))) (Nat.le_refl _) _ _ _ _ _⟩
 .rcases List.mem_append.1 h' with h1|h1
  .exact h.bnd s' h1
  .rw [List.mem_singleton.1 h1];exact hs
 .rw [Xl,List.length_append,List.length_singleton]
  refine hown.kept (row:=some w.heap.size) ⟨hst.os,hst.tape,hst.output,hst.size,fun k hk hne=>hst.block k hk (fun e=>hne (by rw [e]))⟩ ?_
  right;intro e;have:=(hown.lt _ e).1;omega
set_option maxRecDepth 100000 in
theorem J6 (w:World) (vk vn:Int) (vs:ByteArray) (la:Option Addr) (ll lc:Nat) (oa:Option Addr) (ol oc:Nat) (v:V) (hv:IsVal w w.heap.size v ⟨vk,vn,vs,la,ll,lc,oa,ol,oc⟩) (bs:List UInt8) (a:Option Addr) (n c:Nat) (hB:IsB w w.heap.size a n c bs):
 Calls Tryd.prog 19 #[.agg #[.int .u8 vk, .int .i64 vn, .string vs, .slice la ll lc, .slice oa ol oc], .slice a n c] w (WalkPost w (walkP v (bs.take 8))):=by
 obtain ⟨i0,hi0,hz0,hz1,hz2⟩:=info_parts zja
 have hmax:=hB.max;have hcap:=hB.cap
 have HLN:=qh hB.len
 have HBS:=qh hB
 have HV:=qh hv
 have HST:=qh (BC.start w #[.int .u8 vk, .int .i64 vn, .string vs, .slice la ll lc, .slice oa ol oc] 31)
 obtain ⟨R,hR⟩:∃R,WalkPost w (walkP v (bs.take 8))=R:=⟨_,rfl⟩
 rw [hR]
 have HR:=qh hR
 clear hB hv hR
 go_enter Tryd.func19,Tryd.ntmps19
 go_wp2_with fail
 go_loopw [5,6,7,8] (fun u i _ _ wr=>∃(j:Nat) (x:V) (cx:VC) (ua:Option Addr) (m uc:Nat) (xs:List St),j<=n/\j<=8/\i= .int .i64 j/\u= .slice ua m uc/\WKH w wr v x cx bs j (.slice ua m uc) xs) (fun _ i _ _ _=>8 - (intOf i).toNat)
 case atStart=>exact ⟨0,v,_,none,0,0, [],Nat.zero_le _,Nat.zero_le _,rfl,rfl,⟨rfl,Nat.le_refl _,fun s h=>(by cases h),HV.out,HST.out,⟨rfl, .inl ⟨rfl,rfl⟩⟩,(Below.refl _ _).alloc (Nat.le_refl _) _⟩⟩
 case round=>
  obtain ⟨j,x,cx,ua,m,uc,xs,hj,hj8,rfl,rfl,L⟩:=hrel
  obtain ⟨v0,v1,v2,v3,v4⟩:=row5 L.box.at_
  have e0:=L.box.fr 0;have e1:=L.box.fr 1;have e2:=L.box.fr 2;have e3:=L.box.fr 3;have e4:=L.box.fr 4
  have zs:=L.box.lt
  have hfx:=L.few
  have HL:=qh L
  by_cases hcont:j<n/\j<8
  .obtain ⟨hlt,hlt8⟩:=hcont
   obtain ⟨b,q,h5,h6⟩:=HBS.out.at_
   obtain ⟨rfl,hbB⟩:=h5 (by omega)
   have hjl:j<bs.length:=by rw [<-HLN.out];exact hlt
   have hcj:=Zb L.below (h6 j hjl) hbB
   obtain ⟨y,hy⟩:∃y,bs[j].toNat=y:=⟨_,rfl⟩
   rw [hy] at hcj
   have hy2:y<256:=by rw [<-hy];exact UInt8.toNat_lt _
   have hbw:b<wr.heap.size:=World.block_lt_of_cell? wr _ hcj
   have hdr:(bs.take 8).drop j=bs[j] ::(bs.take 8).drop (j+1):=by
    have h8:j<(bs.take 8).length:=by rw [List.length_take];omega
    rw [List.drop_eq_getElem_cons h8,List.getElem_take]
   have hrd:=L.rd
   rw [hdr] at hrd
   obtain ⟨kx,nx,sx,lx,ox,rfl⟩:=x.eta
   obtain ⟨ck,cn,cs,cla,cll,clc,coa,col,coc⟩:=cx
   obtain ⟨f1,f2,f3,hbd,hvl,hvo⟩:=L.val.lists
   dsimp only at f1 f2 f3 hvl hvo v0 v1 v2 v3 v4
   subst f1 f2 f3
   have k1:=hvl.few;have k2:=hvl.max;have k3:=hvo.few;have k4:=hvo.max
   have hown:=L.own
   have hw1:IntKind.i64.wrap (y:Int)=y:=IntWalk.i64_in _ (by omega)
   have hrlt:∀g,(Value.slice ua m uc).ownBlock=some g->w.heap.size+1<=g:=fun g hg=>(L.own.lt g hg).1
   have hzb:=L.below.size
   have HBL:=qh L.below
   by_cases hll:0<cll
   .have hkl:y % cll<cll:=Nat.mod_lt _ hll
    obtain ⟨k,hk⟩:∃k,y % cll=k:=⟨_,rfl⟩
    rw [hk] at hkl
    have htm:Int.tmod (y:Int) (cll:Int)=(k:Int):=by rw [zcr,hk]
    have hne:((cll:Int)==0)=false:=by simp;omega
    have hw2:IntKind.i64.wrap (k:Int)=k:=IntWalk.i64_in _ (by omega)
    obtain ⟨b2,q2,f,hp,rfl,hb2,hvf,hIf⟩:=hvl.get hkl
    have HVF:=qh hvf
    have HIF:=qh hIf
    have hb2w:b2<wr.heap.size:=by omega
    have hnx:(xs++ [⟨true,(k:Int), .empty⟩])++walkP lx[k] ((bs.take 8).drop (j+1))=walkP v (bs.take 8):=by
     rw [<-hrd,walkP,if_pos (show 0<(V.mk ck cn cs lx ox).ls.length by show 0<lx.length;rw [<-hvl.len];exact hll)]
     have e:(V.mk ck cn cs lx ox).ls=lx:=rfl
     rw [e, <-hvl.len,hy,hk,List.append_assoc]
     simp [List.getD_eq_getElem?_getD,hp]
    have HNX:=qh hnx
    clear L hrd hdr hy hnx hvf hIf h5 h6 hvl hvo hbd
    go_wp2_with fail
    go_quiet (fail)
    go_wp2_with (at_builtin;refine wpList_append_lies _ rfl (.tmp 32) (.tmp 35) 23 (by rfl) (w.heap.size+1) 57 i0 _ 3 32 Tryd.underlying23 hi0 hz0 hz1 hz2 rfl (by omega) (.slice ua m uc) xs.length (xs.flatMap scells) (by rfl) ((Yo hown _).alloc _) ⟨wr.heap.size,0,none⟩ 1 1 (scells (⟨true,(k:Int), .empty⟩:St)) (by rfl) (by rfl) (za3 wr _ (⟨true,(k:Int), .empty⟩:St) _) (by simp [scells,Value.oneCell']) (by omega) (by unfold maxLen;omega) (by omega) (by first|omega|(rw [Zv];omega)) (wr.heap.size+1) (by first|exact Zv _ _ _|simp) ?_;intro g cap w7 hown7 hgrow7 hat7 hlt7;have hb7:Below (w.heap.size+1) wr w7:=(((Xh wr _).alloc (Nat.le_refl _) _).mono (Nat.succ_le_of_lt zs)).trans (Zj hgrow7 hrlt (by first|omega|(rw [Zv];omega)));have V7:=HL.out.box.keep hb7 (by omega);obtain ⟨p0,p1,p2,p3,p4⟩:=row5 V7.at_;have q0:=V7.fr 0;have q1:=V7.fr 1;have q2':=V7.fr 2;have q3:=V7.fr 3;have q4:=V7.fr 4;have zs7:=V7.lt;have F7:=(HVF.out.keep HBL.out hb2).keep hb7 (by omega);have c0:=F7.c0;have c1:=F7.c1;have c2:=F7.c2;have c3:=F7.c3;have c4:=F7.c4;have hb27:b2<w7.heap.size:=World.block_lt_of_cell? w7 _ c0)
    go_roundw
    case rel=>exact ⟨j+1,lx[k],f,some ⟨g,0,none⟩,xs.length+1,cap,xs++ [⟨true,(k:Int), .empty⟩],by omega,by omega,by go_num,rfl,HL.out.round HNX.out ⟨by show _<=(k:Int);omega,by show (k:Int)<=_;omega,by show ByteArray.empty.size<=_;decide⟩ HIF.out hb7 hown7⟩
    case measure=>simp [intOf];omega
   .have hl0:cll=0:=by omega
    by_cases hol:0<col
    .have hkl:y % col<col:=Nat.mod_lt _ hol
     obtain ⟨k,hk⟩:∃k,y % col=k:=⟨_,rfl⟩
     rw [hk] at hkl
     have htm:Int.tmod (y:Int) (col:Int)=(k:Int):=by rw [zcr,hk]
     have hne:((col:Int)==0)=false:=by simp;omega
     have hw2:IntKind.i64.wrap (k:Int)=k:=IntWalk.i64_in _ (by omega)
     obtain ⟨b2,q2,f,hp,rfl,hb2,hky,hks,hvf,hIf⟩:=hvo.get hkl
     have HVF:=qh hvf
     have HIF:=qh hIf
     have hb2w:b2<wr.heap.size:=by omega
     obtain ⟨sk,hsk⟩:∃sk,ox[k].1=sk:=⟨_,rfl⟩
     rw [hsk] at hky hks
     have hkyw:=Zb HBL.out hky hb2
     have hlx:lx.length=0:=by rw [<-hvl.len];exact hl0
     have hnx:(xs++ [⟨false,0,sk⟩])++walkP ox[k].2 ((bs.take 8).drop (j+1))=walkP v (bs.take 8):=by
      have e:(V.mk ck cn cs lx ox).ls=lx:=rfl
      have e2:(V.mk ck cn cs lx ox).os=ox:=rfl
      rw [<-hrd,walkP,e,e2,if_neg (by omega),if_pos (by rw [<-hvo.len];exact hol), <-hvo.len,hy,hk,List.append_assoc, <-hsk]
      simp [List.getD_eq_getElem?_getD,hp]
     have HNX:=qh hnx
     subst hl0
     clear L hrd hdr hy hnx hvf hIf h5 h6 hvl hvo hbd hky hsk hlx
     go_wp2_with fail
     go_quiet (fail)
     go_wp2_with (at_builtin;refine wpList_append_lies _ rfl (.tmp 55) (.tmp 63) 23 (by rfl) (w.heap.size+1) 57 i0 _ 3 32 Tryd.underlying23 hi0 hz0 hz1 hz2 rfl (by omega) (.slice ua m uc) xs.length (xs.flatMap scells) (by rfl) ((Yo hown _).alloc _) ⟨wr.heap.size,0,none⟩ 1 1 (scells (⟨false,0,sk⟩:St)) (by rfl) (by rfl) (za3 wr _ (⟨false,0,sk⟩:St) _) (by simp [scells,Value.oneCell']) (by omega) (by unfold maxLen;omega) (by omega) (by first|omega|(rw [Zv];omega)) (wr.heap.size+1) (by first|exact Zv _ _ _|simp) ?_;intro g cap w7 hown7 hgrow7 hat7 hlt7;have hb7:Below (w.heap.size+1) wr w7:=(((Xh wr _).alloc (Nat.le_refl _) _).mono (Nat.succ_le_of_lt zs)).trans (Zj hgrow7 hrlt (by first|omega|(rw [Zv];omega)));have V7:=HL.out.box.keep hb7 (by omega);obtain ⟨p0,p1,p2,p3,p4⟩:=row5 V7.at_;have q0:=V7.fr 0;have q1:=V7.fr 1;have q2':=V7.fr 2;have q3:=V7.fr 3;have q4:=V7.fr 4;have zs7:=V7.lt;have F7:=(HVF.out.keep HBL.out hb2).keep hb7 (by omega);have c0:=F7.c0;have c1:=F7.c1;have c2:=F7.c2;have c3:=F7.c3;have c4:=F7.c4;have hb27:b2<w7.heap.size:=World.block_lt_of_cell? w7 _ c0)
     go_roundw
     case rel=>exact ⟨j+1,ox[k].2,f,some ⟨g,0,none⟩,xs.length+1,cap,xs++ [⟨false,0,sk⟩],by omega,by omega,by go_num,rfl,HL.out.round HNX.out ⟨by show _<=(0:Int);omega,by show (0:Int)<=_;omega,hks⟩ HIF.out hb7 hown7⟩
     case measure=>simp [intOf];omega
    .have ho0:col=0:=by omega
     have hnx:xs++walkP (.mk ck cn cs lx ox) ((bs.take 8).drop (j+1))=walkP v (bs.take 8):=by
      have e:(V.mk ck cn cs lx ox).ls=lx:=rfl
      have e2:(V.mk ck cn cs lx ox).os=ox:=rfl
      rw [<-hrd]
      conv=>rhs;rw [walkP,e,e2,if_neg (by rw [<-hvl.len];omega),if_neg (by rw [<-hvo.len];omega)]
     have HNX:=qh hnx
     subst hl0 ho0
     clear L hrd hdr hy hnx h5 h6 hvl hvo hbd
     go_wp2_with fail
     go_roundw
     case rel=>exact ⟨j+1,_,_,ua,m,uc,xs,by omega,by omega,by go_num,rfl,⟨HNX.out,by omega,HL.out.bnd,HL.out.val,HL.out.box,HL.out.own,HL.out.below⟩⟩
     case measure=>simp [intOf];omega
  .have hdr:(bs.take 8).drop j= [] :=by
    apply List.drop_eq_nil_of_le
    rw [List.length_take, <-HLN.out];omega
   have hrd:=L.rd
   rw [hdr,walkP,List.append_nil] at hrd
   have HRD:=qh hrd
   have hex:¬j<n∨(j<n/\¬j<8):=by omega
   clear L hrd hdr hcont
   rcases hex with hq|⟨hq,hq8⟩
   all_goals
    go_wp2_with fail
    rw [<-HR.out, <-HRD.out]
    obtain ⟨a9,n9,c9,hv9,hs9⟩:=zem (S:=fun b=>w.heap.size<=b) HL.out.own (fun k hk=>by omega) HL.out.bnd (by omega)
    exact ⟨⟨a9,n9,c9,by rw [hv9];rfl,hs9⟩,HL.out.below⟩
structure Ac where
 path:List UInt8
 k:Int
 i:Int
 j:Int
 n:Int
 s:ByteArray
 v:List Tk
structure AC where
 pa:Option Addr
 pl:Nat
 pc:Nat
 k:Int
 i:Int
 j:Int
 n:Int
 s:ByteArray
 va:Option Addr
 vl:Nat
 vc:Nat
structure AC.Bnd (c:AC):Prop where
 k0:0<=c.k
 k1:c.k<256
 i0: -9223372036854775808<=c.i
 i1:c.i<=9223372036854775807
 j0: -9223372036854775808<=c.j
 j1:c.j<=9223372036854775807
 n0: -9223372036854775808<=c.n
 n1:c.n<=9223372036854775807
 s1:c.s.size<=140737488355328
inductive IsAct (w:World) (B:Nat):Ac->AC->Prop
 |mk (c:AC) (p:List UInt8) (v:List Tk) (hb:c.Bnd) (hp:IsB w B c.pa c.pl c.pc p) (hv:IsToks w B v c.va c.vl c.vc):IsAct w B ⟨p,c.k,c.i,c.j,c.n,c.s,v⟩ c
def acells (c:AC):List Value:= [.slice c.pa c.pl c.pc, .int .u8 c.k, .int .i64 c.i, .int .i64 c.j, .int .i64 c.n, .string c.s, .slice c.va c.vl c.vc]
theorem Zx {W:World} {b:Nat} {c0:CC} (h:BC W b (ccells c0)) (d:CC):BC ((((((((((((W.setCell ⟨b,0,none⟩ (.int .u8 d.k)).setCell ⟨b,1,none⟩ (.slice d.pa d.pl d.pc)).setCell ⟨b,2,none⟩ (.string d.key)).setCell ⟨b,3,none⟩ (.int .i64 d.i)).setCell ⟨b,4,none⟩ (.int .i64 d.j)).setCell ⟨b,5,none⟩ (.int .i64 d.n)).setCell ⟨b,6,none⟩ (.int .u8 d.v.k)).setCell ⟨b,7,none⟩ (.int .i64 d.v.n)).setCell ⟨b,8,none⟩ (.string d.v.s)).setCell ⟨b,9,none⟩ (.slice d.v.la d.v.ll d.v.lc)).setCell ⟨b,10,none⟩ (.slice d.v.oa d.v.ol d.v.oc)).setCell ⟨b,11,none⟩ (.string d.s)) b (ccells d):=
 ((((((((((((h.set (i:=0) (x:= .int .u8 d.k) (by simp [ccells])).set (i:=1) (x:= .slice d.pa d.pl d.pc) (by simp [ccells])).set (i:=2) (x:= .string d.key) (by simp [ccells])).set (i:=3) (x:= .int .i64 d.i) (by simp [ccells])).set (i:=4) (x:= .int .i64 d.j) (by simp [ccells])).set (i:=5) (x:= .int .i64 d.n) (by simp [ccells])).set (i:=6) (x:= .int .u8 d.v.k) (by simp [ccells])).set (i:=7) (x:= .int .i64 d.v.n) (by simp [ccells])).set (i:=8) (x:= .string d.v.s) (by simp [ccells])).set (i:=9) (x:= .slice d.v.la d.v.ll d.v.lc) (by simp [ccells])).set (i:=10) (x:= .slice d.v.oa d.v.ol d.v.oc) (by simp [ccells])).set (i:=11) (x:= .string d.s) (by simp [ccells]))
theorem _root_.Go.RowKit.Below.setC {B b:Nat} {a W:World} (h:Below B a W) (hb:B<=b) (d:CC):Below B a ((((((((((((W.setCell ⟨b,0,none⟩ (.int .u8 d.k)).setCell ⟨b,1,none⟩ (.slice d.pa d.pl d.pc)).setCell ⟨b,2,none⟩ (.string d.key)).setCell ⟨b,3,none⟩ (.int .i64 d.i)).setCell ⟨b,4,none⟩ (.int .i64 d.j)).setCell ⟨b,5,none⟩ (.int .i64 d.n)).setCell ⟨b,6,none⟩ (.int .u8 d.v.k)).setCell ⟨b,7,none⟩ (.int .i64 d.v.n)).setCell ⟨b,8,none⟩ (.string d.v.s)).setCell ⟨b,9,none⟩ (.slice d.v.la d.v.ll d.v.lc)).setCell ⟨b,10,none⟩ (.slice d.v.oa d.v.ol d.v.oc)).setCell ⟨b,11,none⟩ (.string d.s)):=
 ((((((((((((h.set_ hb).set_ hb).set_ hb).set_ hb).set_ hb).set_ hb).set_ hb).set_ hb).set_ hb).set_ hb).set_ hb).set_ hb)
structure AB (w W:World) (c:CC) (a:AC) (d:CC:=czero):Prop where
 c:BC W w.heap.size (ccells c)
 a:BC W (w.heap.size+1) (acells a)
 r:BC W (w.heap.size+1+1) (ccells d)
 below:Below w.heap.size w W
theorem AB.startd (w:World) (c:CC) (a:AC) (d:CC) (t1 t2 t3:TypeId):AB w (((w.alloc (.cells #[.int .u8 c.k, .slice c.pa c.pl c.pc, .string c.key, .int .i64 c.i, .int .i64 c.j, .int .i64 c.n, .int .u8 c.v.k, .int .i64 c.v.n, .string c.v.s, .slice c.v.la c.v.ll c.v.lc, .slice c.v.oa c.v.ol c.v.oc, .string c.s] t1)).alloc (.cells #[.slice a.pa a.pl a.pc, .int .u8 a.k, .int .i64 a.i, .int .i64 a.j, .int .i64 a.n, .string a.s, .slice a.va a.vl a.vc] t2)).alloc (.cells #[.int .u8 d.k, .slice d.pa d.pl d.pc, .string d.key, .int .i64 d.i, .int .i64 d.j, .int .i64 d.n, .int .u8 d.v.k, .int .i64 d.v.n, .string d.v.s, .slice d.v.la d.v.ll d.v.lc, .slice d.v.oa d.v.ol d.v.oc, .string d.s] t3)) c a d:=by
 obtain ⟨w1,hw1⟩:∃w1,w.alloc (.cells #[.int .u8 c.k, .slice c.pa c.pl c.pc, .string c.key, .int .i64 c.i, .int .i64 c.j, .int .i64 c.n, .int .u8 c.v.k, .int .i64 c.v.n, .string c.v.s, .slice c.v.la c.v.ll c.v.lc, .slice c.v.oa c.v.ol c.v.oc, .string c.s] t1)=w1:=⟨_,rfl⟩
 have s1:w1.heap.size=w.heap.size+1:=by rw [<-hw1,World.size_alloc]
 have b1:Below w.heap.size w w1:=by rw [<-hw1];exact (Below.refl _ _).alloc (Nat.le_refl _) _
 have c1:BC w1 w.heap.size (ccells c):=by rw [<-hw1];exact BC.start w #[.int .u8 c.k, .slice c.pa c.pl c.pc, .string c.key, .int .i64 c.i, .int .i64 c.j, .int .i64 c.n, .int .u8 c.v.k, .int .i64 c.v.n, .string c.v.s, .slice c.v.la c.v.ll c.v.lc, .slice c.v.oa c.v.ol c.v.oc, .string c.s] t1
 rw [hw1]
 obtain ⟨w2,hw2⟩:∃w2,w1.alloc (.cells #[.slice a.pa a.pl a.pc, .int .u8 a.k, .int .i64 a.i, .int .i64 a.j, .int .i64 a.n, .string a.s, .slice a.va a.vl a.vc] t2)=w2:=⟨_,rfl⟩
 have s2:w2.heap.size=w.heap.size+1+1:=by rw [<-hw2,World.size_alloc,s1]
 have b2:Below w1.heap.size w1 w2:=by rw [<-hw2];exact (Below.refl _ _).alloc (Nat.le_refl _) _
 have c2:=BC.start w1 #[.slice a.pa a.pl a.pc, .int .u8 a.k, .int .i64 a.i, .int .i64 a.j, .int .i64 a.n, .string a.s, .slice a.va a.vl a.vc] t2
 rw [hw2,s1] at c2
 rw [hw2]
 have b3:Below w2.heap.size w2 (w2.alloc (.cells #[.int .u8 d.k, .slice d.pa d.pl d.pc, .string d.key, .int .i64 d.i, .int .i64 d.j, .int .i64 d.n, .int .u8 d.v.k, .int .i64 d.v.n, .string d.v.s, .slice d.v.la d.v.ll d.v.lc, .slice d.v.oa d.v.ol d.v.oc, .string d.s] t3)):=(Below.refl _ _).alloc (Nat.le_refl _) _
 have c3:=BC.start w2 #[.int .u8 d.k, .slice d.pa d.pl d.pc, .string d.key, .int .i64 d.i, .int .i64 d.j, .int .i64 d.n, .int .u8 d.v.k, .int .i64 d.v.n, .string d.v.s, .slice d.v.la d.v.ll d.v.lc, .slice d.v.oa d.v.ol d.v.oc, .string d.s] t3
 rw [s2] at c3
 exact ⟨(c1.keep b2 (by omega)).keep b3 (by omega),c2.keep b3 (by omega),c3,(b1.trans (b2.mono (by omega))).trans (b3.mono (by omega))⟩
theorem AB.start (w:World) (c:CC) (a:AC) (t1 t2 t3:TypeId):AB w (((w.alloc (.cells #[.int .u8 c.k, .slice c.pa c.pl c.pc, .string c.key, .int .i64 c.i, .int .i64 c.j, .int .i64 c.n, .int .u8 c.v.k, .int .i64 c.v.n, .string c.v.s, .slice c.v.la c.v.ll c.v.lc, .slice c.v.oa c.v.ol c.v.oc, .string c.s] t1)).alloc (.cells #[.slice a.pa a.pl a.pc, .int .u8 a.k, .int .i64 a.i, .int .i64 a.j, .int .i64 a.n, .string a.s, .slice a.va a.vl a.vc] t2)).alloc (.cells #[.int .u8 0, .slice none 0 0, .string { data:= #[] }, .int .i64 0, .int .i64 0, .int .i64 0, .int .u8 0, .int .i64 0, .string { data:= #[] }, .slice none 0 0, .slice none 0 0, .string { data:= #[] }] t3)) c a:=
 AB.startd w c a czero t1 t2 t3
theorem AB.next {w W W':World} {c d:CC} {a:AC} {B:Nat} (h:AB w W c a d) (hb:Below B W W') (hB:w.heap.size+3<=B):AB w W' c a d:=
 ⟨h.c.keep hb (by omega),h.a.keep hb (by omega),h.r.keep hb (by omega),h.below.trans (hb.mono (by omega))⟩
theorem AB.facts {w W:World} {c d:CC} {a:AC} (B:AB w W c a d):W.cell? ⟨w.heap.size,0,none⟩=some (.int .u8 c.k)/\W.cell? ⟨w.heap.size,1,none⟩=some (.slice c.pa c.pl c.pc)/\W.cell? ⟨w.heap.size,2,none⟩=some (.string c.key)/\W.cell? ⟨w.heap.size,3,none⟩=some (.int .i64 c.i)/\W.cell? ⟨w.heap.size,4,none⟩=some (.int .i64 c.j)/\W.cell? ⟨w.heap.size,5,none⟩=some (.int .i64 c.n)/\W.cell? ⟨w.heap.size,6,none⟩=some (.int .u8 c.v.k)/\W.cell? ⟨w.heap.size,7,none⟩=some (.int .i64 c.v.n)/\W.cell? ⟨w.heap.size,8,none⟩=some (.string c.v.s)/\W.cell? ⟨w.heap.size,9,none⟩=some (.slice c.v.la c.v.ll c.v.lc)/\W.cell? ⟨w.heap.size,10,none⟩=some (.slice c.v.oa c.v.ol c.v.oc)/\W.cell? ⟨w.heap.size,11,none⟩=some (.string c.s)/\W.cell? ⟨w.heap.size+1,0,none⟩=some (.slice a.pa a.pl a.pc)/\W.cell? ⟨w.heap.size+1,1,none⟩=some (.int .u8 a.k)/\W.cell? ⟨w.heap.size+1,2,none⟩=some (.int .i64 a.i)/\W.cell? ⟨w.heap.size+1,3,none⟩=some (.int .i64 a.j)/\W.cell? ⟨w.heap.size+1,4,none⟩=some (.int .i64 a.n)/\W.cell? ⟨w.heap.size+1,5,none⟩=some (.string a.s)/\W.cell? ⟨w.heap.size+1,6,none⟩=some (.slice a.va a.vl a.vc)/\W.cell? ⟨w.heap.size+1+1,0,none⟩=some (.int .u8 d.k)/\W.cell? ⟨w.heap.size+1+1,1,none⟩=some (.slice d.pa d.pl d.pc)/\W.cell? ⟨w.heap.size+1+1,2,none⟩=some (.string d.key)/\W.cell? ⟨w.heap.size+1+1,3,none⟩=some (.int .i64 d.i)/\W.cell? ⟨w.heap.size+1+1,4,none⟩=some (.int .i64 d.j)/\W.cell? ⟨w.heap.size+1+1,5,none⟩=some (.int .i64 d.n)/\W.cell? ⟨w.heap.size+1+1,6,none⟩=some (.int .u8 d.v.k)/\W.cell? ⟨w.heap.size+1+1,7,none⟩=some (.int .i64 d.v.n)/\W.cell? ⟨w.heap.size+1+1,8,none⟩=some (.string d.v.s)/\W.cell? ⟨w.heap.size+1+1,9,none⟩=some (.slice d.v.la d.v.ll d.v.lc)/\W.cell? ⟨w.heap.size+1+1,10,none⟩=some (.slice d.v.oa d.v.ol d.v.oc)/\W.cell? ⟨w.heap.size+1+1,11,none⟩=some (.string d.s)/\W.frozen? ⟨w.heap.size,0,none⟩=false/\W.frozen? ⟨w.heap.size,1,none⟩=false/\W.frozen? ⟨w.heap.size,2,none⟩=false/\W.frozen? ⟨w.heap.size,3,none⟩=false/\W.frozen? ⟨w.heap.size,4,none⟩=false/\W.frozen? ⟨w.heap.size,5,none⟩=false/\W.frozen? ⟨w.heap.size,6,none⟩=false/\W.frozen? ⟨w.heap.size,7,none⟩=false/\W.frozen? ⟨w.heap.size,8,none⟩=false/\W.frozen? ⟨w.heap.size,9,none⟩=false/\W.frozen? ⟨w.heap.size,10,none⟩=false/\W.frozen? ⟨w.heap.size,11,none⟩=false/\W.frozen? ⟨w.heap.size+1+1,0,none⟩=false/\W.frozen? ⟨w.heap.size+1+1,1,none⟩=false/\W.frozen? ⟨w.heap.size+1+1,2,none⟩=false/\W.frozen? ⟨w.heap.size+1+1,3,none⟩=false/\W.frozen? ⟨w.heap.size+1+1,4,none⟩=false/\W.frozen? ⟨w.heap.size+1+1,5,none⟩=false/\W.frozen? ⟨w.heap.size+1+1,6,none⟩=false/\W.frozen? ⟨w.heap.size+1+1,7,none⟩=false/\W.frozen? ⟨w.heap.size+1+1,8,none⟩=false/\W.frozen? ⟨w.heap.size+1+1,9,none⟩=false/\W.frozen? ⟨w.heap.size+1+1,10,none⟩=false/\W.frozen? ⟨w.heap.size+1+1,11,none⟩=false/\w.heap.size<W.heap.size/\w.heap.size+1<W.heap.size/\w.heap.size+1+1<W.heap.size:=
 ⟨B.c.at_ 0 _ rfl,B.c.at_ 1 _ rfl,B.c.at_ 2 _ rfl,B.c.at_ 3 _ rfl,B.c.at_ 4 _ rfl,B.c.at_ 5 _ rfl,B.c.at_ 6 _ rfl,B.c.at_ 7 _ rfl,B.c.at_ 8 _ rfl,B.c.at_ 9 _ rfl,B.c.at_ 10 _ rfl,B.c.at_ 11 _ rfl,B.a.at_ 0 _ rfl,B.a.at_ 1 _ rfl,B.a.at_ 2 _ rfl,B.a.at_ 3 _ rfl,B.a.at_ 4 _ rfl,B.a.at_ 5 _ rfl,B.a.at_ 6 _ rfl,B.r.at_ 0 _ rfl,B.r.at_ 1 _ rfl,B.r.at_ 2 _ rfl,B.r.at_ 3 _ rfl,B.r.at_ 4 _ rfl,B.r.at_ 5 _ rfl,B.r.at_ 6 _ rfl,B.r.at_ 7 _ rfl,B.r.at_ 8 _ rfl,B.r.at_ 9 _ rfl,B.r.at_ 10 _ rfl,B.r.at_ 11 _ rfl,B.c.fr 0,B.c.fr 1,B.c.fr 2,B.c.fr 3,B.c.fr 4,B.c.fr 5,B.c.fr 6,B.c.fr 7,B.c.fr 8,B.c.fr 9,B.c.fr 10,B.c.fr 11,B.r.fr 0,B.r.fr 1,B.r.fr 2,B.r.fr 3,B.r.fr 4,B.r.fr 5,B.r.fr 6,B.r.fr 7,B.r.fr 8,B.r.fr 9,B.r.fr 10,B.r.fr 11,B.c.lt,B.a.lt,B.r.lt⟩
end Go.Proofs.YtfoahkbnheijcaaDoor
