/-
  Contracts of the functions that the law reaches: conciliatorlaw03.Walk: a path into a.
-/
import Derived.Test.YtnjgbiachcfigaaGreatDoorIa26
import Derived.Test.YtnjgbiachcfigaaGreatDoorIa27
namespace Go.Proofs.YtnjgbiachcfigaaGreatDoor
open Go.RowKit
set_option maxHeartbeats 16000000
theorem Kf:(Tryz.prog.info? 77).map (fun i=>(i.zero,i.size,i.bytes))=some (some (.agg #[.bool false, .int .i64 0, .string { data:= #[] }]),3,32):=by kernel_rfl
def walkP:V->List UInt8->List St
 |_, [] => []
 | v,b::r=>if 0<v.ls.length then ⟨true,(b.toNat % v.ls.length:Nat), .empty⟩::walkP (v.ls.getD (b.toNat % v.ls.length) V.none) r
   else if 0<v.os.length then ⟨false,0,(v.os.getD (b.toNat % v.os.length) (.empty,V.none)).1⟩::walkP (v.os.getD (b.toNat % v.os.length) (.empty,V.none)).2 r
   else walkP v r
theorem J9 {w:World} {B1:Nat} {S:Nat->Prop} {v:Value} {l:List St} (hown:w.ownsRow B1 77 3 v l.length (l.flatMap scells)) (hS:∀k,B1<=k->S k) (hb:∀s ∈ l,s.Bnd) (hfew:l.length<=1466015503701):
 ∃a n c,v= .slice a n c/\IsSteps (only S w) w.heap.size l a n c:=by
 obtain ⟨a,c,hv,hr⟩:=OwnRow.of (base':=B1) hown (Nat.le_refl _)
 refine ⟨a,l.length,c,hv,rfl,hr.cap,hr.max,hfew, ?_⟩
 by_cases hn:0<l.length
 .obtain ⟨g,e,hg,hbc⟩:=hr.row (.inl hn)
  refine ⟨g,0,fun _=>⟨e,hbc.lt⟩,fun i hi=>⟨?_,hb _ (List.getElem_mem hi)⟩⟩
  have hc:∀t x,t<3->(scells l[i])[t]? =some x->(only S w).cell? ⟨g,0+i*3+t,none⟩=some x:=fun t x ht hx=>by
   rw [Nat.zero_add]
   exact Z1 (hS g hg) (hbc.at_ _ _ ((Yx scells 3 (fun _=>rfl) l i t hi ht).trans hx))
  exact ⟨hc 0 _ (by omega) rfl,hc 1 _ (by omega) rfl,hc 2 _ (by omega) rfl⟩
 .exact ⟨0,0,fun h=>absurd h hn,fun i hi=>absurd hi (by omega)⟩
def WalkPost (w:World) (l:List St) (e:Ending) (w':World):Prop:=
 (∃a n c,e= .returned (.slice a n c)/\IsSteps (only (fun b=>w.heap.size<=b) w') w'.heap.size l a n c)/\Below w.heap.size w w'
structure WKH (w wr:World) (v x:V) (c:VC) (bs:List UInt8) (j:Nat) (u:Value) (xs:List St):Prop where
 rd:xs++walkP x ((bs.take 8).drop j)=walkP v (bs.take 8)
 few:xs.length<=j
 bnd:∀s ∈ xs,s.Bnd
 val:IsVal w w.heap.size x c
 box:BC wr w.heap.size (vcells c)
 own:wr.ownsRow (w.heap.size+1) 77 3 u xs.length (xs.flatMap scells)
 below:Below w.heap.size w wr
theorem zca (a b:Nat):Int.tmod (a:Int) (b:Int)=((a % b:Nat):Int):=by
 rw [Int.tmod_eq_emod_of_nonneg (by omega)];omega
theorem zc9 (w:World) (n:Nat) (s:St) (t:TypeId):∀j u,(scells s)[j]? =some u->((w.drewN n).alloc (.cells #[.bool s.list, .int .i64 s.i, .string s.key] t)).cell? ((⟨w.heap.size,0,none⟩:Addr).add j)=some u:=
 World.news_of_block (t:=t) (fr:=(0,0)) (heap_alloc_new (w.drewN n) (.cells #[.bool s.list, .int .i64 s.i, .string s.key] t))
theorem WKH.round {w wr w7:World} {v x x':V} {c c':VC} {bs:List UInt8} {j:Nat} {u u':Value} {xs:List St} {s:St} (h:WKH w wr v x c bs j u xs) (hrd:(xs++ [s])++walkP x' ((bs.take 8).drop (j+1))=walkP v (bs.take 8)) (hs:s.Bnd) (hv:IsVal w w.heap.size x' c') (hb7:Below (w.heap.size+1) wr w7) (hown:w7.ownsRow (w.heap.size+1) 77 3 u' (xs.length+1) (xs.flatMap scells++scells s)):
 WKH w (((((w7.setCell ⟨w.heap.size,0,none⟩ (.int .u8 c'.k)).setCell ⟨w.heap.size,1,none⟩ (.int .i64 c'.n)).setCell ⟨w.heap.size,2,none⟩ (.string c'.s)).setCell ⟨w.heap.size,3,none⟩ (.slice c'.la c'.ll c'.lc)).setCell ⟨w.heap.size,4,none⟩ (.slice c'.oa c'.ol c'.oc)) v x' c' bs (j+1) u' (xs++ [s]):=by
 have hz:=h.box.lt
 have hst:=Zh w7 w.heap.size 0 c'
 have hbx:=h.box.keep hb7 (by omega)
 refine ⟨hrd,by rw [List.length_append,List.length_singleton];have:=h.few;omega,fun s' h'=> ?_,hv,Zx hbx c', ?_,Below.set5' (h.below.trans (hb7.mono (by omega))) (Nat.le_refl _) _ _ _ _ _⟩
 .rcases List.mem_append.1 h' with h1|h1
  .exact h.bnd s' h1
  .rw [List.mem_singleton.1 h1];exact hs
 .rw [Xd,List.length_append,List.length_singleton]
  refine hown.kept (row:=some w.heap.size) ⟨hst.os,hst.tape,hst.output,hst.size,fun k hk hne=>hst.block k hk (fun e=>hne (by rw [e]))⟩ ?_
  right;intro e;have:=(hown.lt _ e).1;omega
set_option maxRecDepth 100000 in
theorem zgp (w:World) (vk vn:Int) (vs:ByteArray) (la:Option Addr) (ll lc:Nat) (oa:Option Addr) (ol oc:Nat) (v:V) (hv:IsVal w w.heap.size v ⟨vk,vn,vs,la,ll,lc,oa,ol,oc⟩) (bs:List UInt8) (a:Option Addr) (n c:Nat) (hB:IsB w w.heap.size a n c bs):
 uP 37 #[.agg (uU vk vn vs la ll lc oa ol oc), .slice a n c] w (WalkPost w (walkP v (bs.take 8))):=by
 delta uU uP
 obtain ⟨i0,hi0,hz0,hz1,hz2⟩:=info_parts Kf
 have hmax:=hB.max;have hcap:=hB.cap
 have HLN:=qh hB.len
 have HBS:=qh hB
 have HV:=qh hv
 have HST:=qh (BC.start w (uU vk vn vs la ll lc oa ol oc) 36)
 obtain ⟨R,hR⟩:∃R,WalkPost w (walkP v (bs.take 8))=R:=⟨_,rfl⟩
 rw [hR]
 have HR:=qh hR
 clear hB hv hR
 go_enter Tryz.func37,Tryz.ntmps37
 go_wp2_with fail
 go_loopw [5,6,7,8] (fun u i _ _ wr=>∃(j:Nat) (x:V) (cx:VC) (ua:Option Addr) (m uc:Nat) (xs:List St),j<=n/\j<=8/\i= .int .i64 j/\u= .slice ua m uc/\WKH w wr v x cx bs j (.slice ua m uc) xs) (fun _ i _ _ _=>8 - (intOf i).toNat)
 case atStart=>exact ⟨0,v,_,none,0,0, [],Nat.zero_le _,Nat.zero_le _,rfl,rfl,⟨rfl,Nat.le_refl _,fun s h=>(by cases h),HV.out,HST.out,⟨rfl, .inl ⟨rfl,rfl⟩⟩,(Below.refl _ _).alloc (Nat.le_refl _) _⟩⟩
 case round=>
  obtain ⟨j,x,cx,ua,m,uc,xs,hj,hj8,rfl,rfl,L⟩:=hrel
  obtain ⟨v0,v1,v2,v3,v4⟩:=row5 L.box.at_
  have e0:=L.box.fr 0;have e1:=L.box.fr 1;have e2:=L.box.fr 2;have e3:=L.box.fr 3;have e4:=L.box.fr 4
  have zs:=L.box.lt
  have hfx:=L.few
  have HL:=qh L
  by_cases hcont:j<n/\j<8
  .obtain ⟨hlt,hlt8⟩:=hcont
   obtain ⟨b,q,h5,h6⟩:=HBS.out.at_
   obtain ⟨rfl,hbB⟩:=h5 (by omega)
   have hjl:j<bs.length:=by rw [<-HLN.out];exact hlt
   have hcj:=Zb L.below (h6 j hjl) hbB
   obtain ⟨y,hy⟩:∃y,bs[j].toNat=y:=⟨_,rfl⟩
   rw [hy] at hcj
   have hy2:y<256:=by rw [<-hy];exact UInt8.toNat_lt _
   have hbw:b<wr.heap.size:=World.block_lt_of_cell? wr _ hcj
   have hdr:(bs.take 8).drop j=bs[j] ::(bs.take 8).drop (j+1):=by
    have h8:j<(bs.take 8).length:=by rw [List.length_take];omega
    rw [List.drop_eq_getElem_cons h8,List.getElem_take]
   have hrd:=L.rd
   rw [hdr] at hrd
   obtain ⟨kx,nx,sx,lx,ox,rfl⟩:=x.eta
   obtain ⟨ck,cn,cs,cla,cll,clc,coa,col,coc⟩:=cx
   obtain ⟨f1,f2,f3,hbd,hvl,hvo⟩:=L.val.lists
   dsimp only at f1 f2 f3 hvl hvo v0 v1 v2 v3 v4
   subst f1 f2 f3
   have k1:=hvl.few;have k2:=hvl.max;have k3:=hvo.few;have k4:=hvo.max
   have hown:=L.own
   have hw1:IntKind.i64.wrap (y:Int)=y:=IntWalk.i64_in _ (by omega)
   have hrlt:∀g,(Value.slice ua m uc).ownBlock=some g->w.heap.size+1<=g:=fun g hg=>(L.own.lt g hg).1
   have hzb:=L.below.size
   have HBL:=qh L.below
   by_cases hll:0<cll
   .have hkl:y % cll<cll:=Nat.mod_lt _ hll
    obtain ⟨k,hk⟩:∃k,y % cll=k:=⟨_,rfl⟩
    rw [hk] at hkl
    have htm:Int.tmod (y:Int) (cll:Int)=(k:Int):=by rw [zca,hk]
    have hne:((cll:Int)==0)=false:=by simp;omega
    have hw2:IntKind.i64.wrap (k:Int)=k:=IntWalk.i64_in _ (by omega)
    obtain ⟨b2,q2,f,hp,rfl,hb2,hvf,hIf⟩:=hvl.get hkl
    have HVF:=qh hvf
    have HIF:=qh hIf
    have hb2w:b2<wr.heap.size:=by omega
    have hnx:(xs++ [⟨true,(k:Int), .empty⟩])++walkP lx[k] ((bs.take 8).drop (j+1))=walkP v (bs.take 8):=by
     rw [<-hrd,walkP,if_pos (show 0<(V.mk ck cn cs lx ox).ls.length by show 0<lx.length;rw [<-hvl.len];exact hll)]
     have e:(V.mk ck cn cs lx ox).ls=lx:=rfl
     rw [e, <-hvl.len,hy,hk,List.append_assoc]
     simp [List.getD_eq_getElem?_getD,hp]
    have HNX:=qh hnx
    clear L hrd hdr hy hnx hvf hIf h5 h6 hvl hvo hbd
    go_wp2_with fail
    go_quiet (fail)
    go_wp2_with (at_builtin;refine wpList_append_lies _ rfl (.tmp 32) (.tmp 35) 27 (by rfl) (w.heap.size+1) 77 i0 _ 3 32 Tryz.underlying27 hi0 hz0 hz1 hz2 rfl (by omega) (.slice ua m uc) xs.length (xs.flatMap scells) (by rfl) ((Yw hown _).alloc _) ⟨wr.heap.size,0,none⟩ 1 1 (scells (⟨true,(k:Int), .empty⟩:St)) (by rfl) (by rfl) (zc9 wr _ (⟨true,(k:Int), .empty⟩:St) _) (by simp [scells,Value.oneCell']) (by omega) (by unfold maxLen;omega) (by omega) (by first|omega|(rw [Zv];omega)) (wr.heap.size+1) (by first|exact Zv _ _ _|simp) ?_;intro g cap w7 hown7 hgrow7 hat7 hlt7;have hb7:Below (w.heap.size+1) wr w7:=(((Xi wr _).alloc (Nat.le_refl _) _).mono (Nat.succ_le_of_lt zs)).trans (Zi hgrow7 hrlt (by first|omega|(rw [Zv];omega)));have V7:=HL.out.box.keep hb7 (by omega);obtain ⟨p0,p1,p2,p3,p4⟩:=row5 V7.at_;have q0:=V7.fr 0;have q1:=V7.fr 1;have q2':=V7.fr 2;have q3:=V7.fr 3;have q4:=V7.fr 4;have zs7:=V7.lt;have F7:=(HVF.out.keep HBL.out hb2).keep hb7 (by omega);have c0:=F7.c0;have c1:=F7.c1;have c2:=F7.c2;have c3:=F7.c3;have c4:=F7.c4;have hb27:b2<w7.heap.size:=World.block_lt_of_cell? w7 _ c0)
    go_roundw
    case rel=>exact ⟨j+1,lx[k],f,some ⟨g,0,none⟩,xs.length+1,cap,xs++ [⟨true,(k:Int), .empty⟩],by omega,by omega,by go_num,rfl,HL.out.round HNX.out ⟨by show _<=(k:Int);omega,by show (k:Int)<=_;omega,by show ByteArray.empty.size<=_;decide⟩ HIF.out hb7 hown7⟩
    case measure=>simp [intOf];omega
   .have hl0:cll=0:=by omega
    by_cases hol:0<col
    .have hkl:y % col<col:=Nat.mod_lt _ hol
     obtain ⟨k,hk⟩:∃k,y % col=k:=⟨_,rfl⟩
     rw [hk] at hkl
     have htm:Int.tmod (y:Int) (col:Int)=(k:Int):=by rw [zca,hk]
     have hne:((col:Int)==0)=false:=by simp;omega
     have hw2:IntKind.i64.wrap (k:Int)=k:=IntWalk.i64_in _ (by omega)
     obtain ⟨b2,q2,f,hp,rfl,hb2,hky,hks,hvf,hIf⟩:=hvo.get hkl
     have HVF:=qh hvf
     have HIF:=qh hIf
     have hb2w:b2<wr.heap.size:=by omega
     obtain ⟨sk,hsk⟩:∃sk,ox[k].1=sk:=⟨_,rfl⟩
     rw [hsk] at hky hks
     have hkyw:=Zb HBL.out hky hb2
     have hlx:lx.length=0:=by rw [<-hvl.len];exact hl0
     have hnx:(xs++ [⟨false,0,sk⟩])++walkP ox[k].2 ((bs.take 8).drop (j+1))=walkP v (bs.take 8):=by
      have e:(V.mk ck cn cs lx ox).ls=lx:=rfl
      have e2:(V.mk ck cn cs lx ox).os=ox:=rfl
      rw [<-hrd,walkP,e,e2,if_neg (by omega),if_pos (by rw [<-hvo.len];exact hol), <-hvo.len,hy,hk,List.append_assoc, <-hsk]
      simp [List.getD_eq_getElem?_getD,hp]
     have HNX:=qh hnx
     subst hl0
     clear L hrd hdr hy hnx hvf hIf h5 h6 hvl hvo hbd hky hsk hlx
     go_wp2_with fail
     go_quiet (fail)
     go_wp2_with (at_builtin;refine wpList_append_lies _ rfl (.tmp 55) (.tmp 63) 27 (by rfl) (w.heap.size+1) 77 i0 _ 3 32 Tryz.underlying27 hi0 hz0 hz1 hz2 rfl (by omega) (.slice ua m uc) xs.length (xs.flatMap scells) (by rfl) ((Yw hown _).alloc _) ⟨wr.heap.size,0,none⟩ 1 1 (scells (⟨false,0,sk⟩:St)) (by rfl) (by rfl) (zc9 wr _ (⟨false,0,sk⟩:St) _) (by simp [scells,Value.oneCell']) (by omega) (by unfold maxLen;omega) (by omega) (by first|omega|(rw [Zv];omega)) (wr.heap.size+1) (by first|exact Zv _ _ _|simp) ?_;intro g cap w7 hown7 hgrow7 hat7 hlt7;have hb7:Below (w.heap.size+1) wr w7:=(((Xi wr _).alloc (Nat.le_refl _) _).mono (Nat.succ_le_of_lt zs)).trans (Zi hgrow7 hrlt (by first|omega|(rw [Zv];omega)));have V7:=HL.out.box.keep hb7 (by omega);obtain ⟨p0,p1,p2,p3,p4⟩:=row5 V7.at_;have q0:=V7.fr 0;have q1:=V7.fr 1;have q2':=V7.fr 2;have q3:=V7.fr 3;have q4:=V7.fr 4;have zs7:=V7.lt;have F7:=(HVF.out.keep HBL.out hb2).keep hb7 (by omega);have c0:=F7.c0;have c1:=F7.c1;have c2:=F7.c2;have c3:=F7.c3;have c4:=F7.c4;have hb27:b2<w7.heap.size:=World.block_lt_of_cell? w7 _ c0)
     go_roundw
     case rel=>exact ⟨j+1,ox[k].2,f,some ⟨g,0,none⟩,xs.length+1,cap,xs++ [⟨false,0,sk⟩],by omega,by omega,by go_num,rfl,HL.out.round HNX.out ⟨by show _<=(0:Int);omega,by show (0:Int)<=_;omega,hks⟩ HIF.out hb7 hown7⟩
     case measure=>simp [intOf];omega
    .have ho0:col=0:=by omega
     have hnx:xs++walkP (.mk ck cn cs lx ox) ((bs.take 8).drop (j+1))=walkP v (bs.take 8):=by
      have e:(V.mk ck cn cs lx ox).ls=lx:=rfl
      have e2:(V.mk ck cn cs lx ox).os=ox:=rfl
      rw [<-hrd]
      conv=>rhs;rw [walkP,e,e2,if_neg (by rw [<-hvl.len];omega),if_neg (by rw [<-hvo.len];omega)]
     have HNX:=qh hnx
     subst hl0 ho0
     clear L hrd hdr hy hnx h5 h6 hvl hvo hbd
     go_wp2_with fail
     go_roundw
     case rel=>exact ⟨j+1,_,_,ua,m,uc,xs,by omega,by omega,by go_num,rfl,⟨HNX.out,by omega,HL.out.bnd,HL.out.val,HL.out.box,HL.out.own,HL.out.below⟩⟩
     case measure=>simp [intOf];omega
  .have hdr:(bs.take 8).drop j= [] :=by
    apply List.drop_eq_nil_of_le
    rw [List.length_take, <-HLN.out];omega
   have hrd:=L.rd
   rw [hdr,walkP,List.append_nil] at hrd
   have HRD:=qh hrd
   have hex:¬j<n∨(j<n/\¬j<8):=by omega
   clear L hrd hdr hcont
   rcases hex with hq|⟨hq,hq8⟩
   all_goals
    go_wp2_with fail
    rw [<-HR.out, <-HRD.out]
    obtain ⟨a9,n9,c9,hv9,hs9⟩:=J9 (S:=fun b=>w.heap.size<=b) HL.out.own (fun k hk=>by omega) HL.out.bnd (by omega)
    exact ⟨⟨a9,n9,c9,by rw [hv9];rfl,hs9⟩,HL.out.below⟩
structure Ac where
 path:List UInt8
 k:Int
 i:Int
 j:Int
 n:Int
 s:ByteArray
 v:List Tk
structure AC where
 pa:Option Addr
 pl:Nat
 pc:Nat
 k:Int
 i:Int
 j:Int
 n:Int
 s:ByteArray
 va:Option Addr
 vl:Nat
 vc:Nat
structure AC.Bnd (c:AC):Prop where
 k0:0<=c.k
 k1:c.k<256
 i0: -9223372036854775808<=c.i
 i1:c.i<=9223372036854775807
 j0: -9223372036854775808<=c.j
 j1:c.j<=9223372036854775807
 n0: -9223372036854775808<=c.n
 n1:c.n<=9223372036854775807
 s1:c.s.size<=140737488355328
inductive IsAct (w:World) (B:Nat):Ac->AC->Prop
 |mk (c:AC) (p:List UInt8) (v:List Tk) (hb:c.Bnd) (hp:IsB w B c.pa c.pl c.pc p) (hv:IsToks w B v c.va c.vl c.vc):IsAct w B ⟨p,c.k,c.i,c.j,c.n,c.s,v⟩ c
def acells (c:AC):List Value:= [.slice c.pa c.pl c.pc, .int .u8 c.k, .int .i64 c.i, .int .i64 c.j, .int .i64 c.n, .string c.s, .slice c.va c.vl c.vc]
abbrev uA (c:AC):Array Value:= #[.slice c.pa c.pl c.pc, .int .u8 c.k, .int .i64 c.i, .int .i64 c.j, .int .i64 c.n, .string c.s, .slice c.va c.vl c.vc]
theorem Zm {W:World} {b:Nat} {c0:CC} (h:BC W b (ccells c0)) (d:CC):BC ((((((((((((W.setCell ⟨b,0,none⟩ (.int .u8 d.k)).setCell ⟨b,1,none⟩ (.slice d.pa d.pl d.pc)).setCell ⟨b,2,none⟩ (.string d.key)).setCell ⟨b,3,none⟩ (.int .i64 d.i)).setCell ⟨b,4,none⟩ (.int .i64 d.j)).setCell ⟨b,5,none⟩ (.int .i64 d.n)).setCell ⟨b,6,none⟩ (.int .u8 d.v.k)).setCell ⟨b,7,none⟩ (.int .i64 d.v.n)).setCell ⟨b,8,none⟩ (.string d.v.s)).setCell ⟨b,9,none⟩ (.slice d.v.la d.v.ll d.v.lc)).setCell ⟨b,10,none⟩ (.slice d.v.oa d.v.ol d.v.oc)).setCell ⟨b,11,none⟩ (.string d.s)) b (ccells d):=
 ((((((((((((h.set (i:=0) (x:= .int .u8 d.k) (by simp [ccells])).set (i:=1) (x:= .slice d.pa d.pl d.pc) (by simp [ccells])).set (i:=2) (x:= .string d.key) (by simp [ccells])).set (i:=3) (x:= .int .i64 d.i) (by simp [ccells])).set (i:=4) (x:= .int .i64 d.j) (by simp [ccells])).set (i:=5) (x:= .int .i64 d.n) (by simp [ccells])).set (i:=6) (x:= .int .u8 d.v.k) (by simp [ccells])).set (i:=7) (x:= .int .i64 d.v.n) (by simp [ccells])).set (i:=8) (x:= .string d.v.s) (by simp [ccells])).set (i:=9) (x:= .slice d.v.la d.v.ll d.v.lc) (by simp [ccells])).set (i:=10) (x:= .slice d.v.oa d.v.ol d.v.oc) (by simp [ccells])).set (i:=11) (x:= .string d.s) (by simp [ccells]))
theorem _root_.Go.RowKit.Below.setC {B b:Nat} {a W:World} (h:Below B a W) (hb:B<=b) (d:CC):Below B a ((((((((((((W.setCell ⟨b,0,none⟩ (.int .u8 d.k)).setCell ⟨b,1,none⟩ (.slice d.pa d.pl d.pc)).setCell ⟨b,2,none⟩ (.string d.key)).setCell ⟨b,3,none⟩ (.int .i64 d.i)).setCell ⟨b,4,none⟩ (.int .i64 d.j)).setCell ⟨b,5,none⟩ (.int .i64 d.n)).setCell ⟨b,6,none⟩ (.int .u8 d.v.k)).setCell ⟨b,7,none⟩ (.int .i64 d.v.n)).setCell ⟨b,8,none⟩ (.string d.v.s)).setCell ⟨b,9,none⟩ (.slice d.v.la d.v.ll d.v.lc)).setCell ⟨b,10,none⟩ (.slice d.v.oa d.v.ol d.v.oc)).setCell ⟨b,11,none⟩ (.string d.s)):=
 ((((((((((((h.set_ hb).set_ hb).set_ hb).set_ hb).set_ hb).set_ hb).set_ hb).set_ hb).set_ hb).set_ hb).set_ hb).set_ hb)
structure AB (w W:World) (c:CC) (a:AC) (d:CC:=czero):Prop where
 c:BC W w.heap.size (ccells c)
 a:BC W (w.heap.size+1) (acells a)
 r:BC W (w.heap.size+1+1) (ccells d)
 below:Below w.heap.size w W
theorem AB.startd (w:World) (c:CC) (a:AC) (d:CC) (t1 t2 t3:TypeId):AB w (((w.alloc (.cells #[.int .u8 c.k, .slice c.pa c.pl c.pc, .string c.key, .int .i64 c.i, .int .i64 c.j, .int .i64 c.n, .int .u8 c.v.k, .int .i64 c.v.n, .string c.v.s, .slice c.v.la c.v.ll c.v.lc, .slice c.v.oa c.v.ol c.v.oc, .string c.s] t1)).alloc (.cells #[.slice a.pa a.pl a.pc, .int .u8 a.k, .int .i64 a.i, .int .i64 a.j, .int .i64 a.n, .string a.s, .slice a.va a.vl a.vc] t2)).alloc (.cells #[.int .u8 d.k, .slice d.pa d.pl d.pc, .string d.key, .int .i64 d.i, .int .i64 d.j, .int .i64 d.n, .int .u8 d.v.k, .int .i64 d.v.n, .string d.v.s, .slice d.v.la d.v.ll d.v.lc, .slice d.v.oa d.v.ol d.v.oc, .string d.s] t3)) c a d:=by
 obtain ⟨w1,hw1⟩:∃w1,w.alloc (.cells (uC c) t1)=w1:=⟨_,rfl⟩
 have s1:w1.heap.size=w.heap.size+1:=by rw [<-hw1,World.size_alloc]
 have b1:uB w w1:=by rw [<-hw1];exact (Below.refl _ _).alloc (Nat.le_refl _) _
 have c1:BC w1 w.heap.size (ccells c):=by rw [<-hw1];exact BC.start w (uC c) t1
 rw [hw1]
 obtain ⟨w2,hw2⟩:∃w2,w1.alloc (.cells (uA a) t2)=w2:=⟨_,rfl⟩
 have s2:w2.heap.size=w.heap.size+1+1:=by rw [<-hw2,World.size_alloc,s1]
 have b2:uB w1 w2:=by rw [<-hw2];exact (Below.refl _ _).alloc (Nat.le_refl _) _
 have c2:=BC.start w1 (uA a) t2
 rw [hw2,s1] at c2
 rw [hw2]
 have b3:uB w2 (w2.alloc (.cells (uC d) t3)):=(Below.refl _ _).alloc (Nat.le_refl _) _
 have c3:=BC.start w2 (uC d) t3
 rw [s2] at c3
 exact ⟨(c1.keep b2 (by omega)).keep b3 (by omega),c2.keep b3 (by omega),c3,(b1.trans (b2.mono (by omega))).trans (b3.mono (by omega))⟩
theorem AB.start (w:World) (c:CC) (a:AC) (t1 t2 t3:TypeId):AB w (((w.alloc (.cells #[.int .u8 c.k, .slice c.pa c.pl c.pc, .string c.key, .int .i64 c.i, .int .i64 c.j, .int .i64 c.n, .int .u8 c.v.k, .int .i64 c.v.n, .string c.v.s, .slice c.v.la c.v.ll c.v.lc, .slice c.v.oa c.v.ol c.v.oc, .string c.s] t1)).alloc (.cells #[.slice a.pa a.pl a.pc, .int .u8 a.k, .int .i64 a.i, .int .i64 a.j, .int .i64 a.n, .string a.s, .slice a.va a.vl a.vc] t2)).alloc (.cells #[.int .u8 0, .slice none 0 0, .string { data:= #[] }, .int .i64 0, .int .i64 0, .int .i64 0, .int .u8 0, .int .i64 0, .string { data:= #[] }, .slice none 0 0, .slice none 0 0, .string { data:= #[] }] t3)) c a:=
 AB.startd w c a czero t1 t2 t3
theorem AB.next {w W W':World} {c d:CC} {a:AC} {B:Nat} (h:AB w W c a d) (hb:Below B W W') (hB:w.heap.size+3<=B):AB w W' c a d:=
 ⟨h.c.keep hb (by omega),h.a.keep hb (by omega),h.r.keep hb (by omega),h.below.trans (hb.mono (by omega))⟩
theorem AB.facts {w W:World} {c d:CC} {a:AC} (B:AB w W c a d):W.cell? ⟨w.heap.size,0,none⟩=some (.int .u8 c.k)/\W.cell? ⟨w.heap.size,1,none⟩=some (.slice c.pa c.pl c.pc)/\W.cell? ⟨w.heap.size,2,none⟩=some (.string c.key)/\W.cell? ⟨w.heap.size,3,none⟩=some (.int .i64 c.i)/\W.cell? ⟨w.heap.size,4,none⟩=some (.int .i64 c.j)/\W.cell? ⟨w.heap.size,5,none⟩=some (.int .i64 c.n)/\W.cell? ⟨w.heap.size,6,none⟩=some (.int .u8 c.v.k)/\W.cell? ⟨w.heap.size,7,none⟩=some (.int .i64 c.v.n)/\W.cell? ⟨w.heap.size,8,none⟩=some (.string c.v.s)/\W.cell? ⟨w.heap.size,9,none⟩=some (.slice c.v.la c.v.ll c.v.lc)/\W.cell? ⟨w.heap.size,10,none⟩=some (.slice c.v.oa c.v.ol c.v.oc)/\W.cell? ⟨w.heap.size,11,none⟩=some (.string c.s)/\W.cell? ⟨w.heap.size+1,0,none⟩=some (.slice a.pa a.pl a.pc)/\W.cell? ⟨w.heap.size+1,1,none⟩=some (.int .u8 a.k)/\W.cell? ⟨w.heap.size+1,2,none⟩=some (.int .i64 a.i)/\W.cell? ⟨w.heap.size+1,3,none⟩=some (.int .i64 a.j)/\W.cell? ⟨w.heap.size+1,4,none⟩=some (.int .i64 a.n)/\W.cell? ⟨w.heap.size+1,5,none⟩=some (.string a.s)/\W.cell? ⟨w.heap.size+1,6,none⟩=some (.slice a.va a.vl a.vc)/\W.cell? ⟨w.heap.size+1+1,0,none⟩=some (.int .u8 d.k)/\W.cell? ⟨w.heap.size+1+1,1,none⟩=some (.slice d.pa d.pl d.pc)/\W.cell? ⟨w.heap.size+1+1,2,none⟩=some (.string d.key)/\W.cell? ⟨w.heap.size+1+1,3,none⟩=some (.int .i64 d.i)/\W.cell? ⟨w.heap.size+1+1,4,none⟩=some (.int .i64 d.j)/\W.cell? ⟨w.heap.size+1+1,5,none⟩=some (.int .i64 d.n)/\W.cell? ⟨w.heap.size+1+1,6,none⟩=some (.int .u8 d.v.k)/\W.cell? ⟨w.heap.size+1+1,7,none⟩=some (.int .i64 d.v.n)/\W.cell? ⟨w.heap.size+1+1,8,none⟩=some (.string d.v.s)/\W.cell? ⟨w.heap.size+1+1,9,none⟩=some (.slice d.v.la d.v.ll d.v.lc)/\W.cell? ⟨w.heap.size+1+1,10,none⟩=some (.slice d.v.oa d.v.ol d.v.oc)/\W.cell? ⟨w.heap.size+1+1,11,none⟩=some (.string d.s)/\W.frozen? ⟨w.heap.size,0,none⟩=false/\W.frozen? ⟨w.heap.size,1,none⟩=false/\W.frozen? ⟨w.heap.size,2,none⟩=false/\W.frozen? ⟨w.heap.size,3,none⟩=false/\W.frozen? ⟨w.heap.size,4,none⟩=false/\W.frozen? ⟨w.heap.size,5,none⟩=false/\W.frozen? ⟨w.heap.size,6,none⟩=false/\W.frozen? ⟨w.heap.size,7,none⟩=false/\W.frozen? ⟨w.heap.size,8,none⟩=false/\W.frozen? ⟨w.heap.size,9,none⟩=false/\W.frozen? ⟨w.heap.size,10,none⟩=false/\W.frozen? ⟨w.heap.size,11,none⟩=false/\W.frozen? ⟨w.heap.size+1+1,0,none⟩=false/\W.frozen? ⟨w.heap.size+1+1,1,none⟩=false/\W.frozen? ⟨w.heap.size+1+1,2,none⟩=false/\W.frozen? ⟨w.heap.size+1+1,3,none⟩=false/\W.frozen? ⟨w.heap.size+1+1,4,none⟩=false/\W.frozen? ⟨w.heap.size+1+1,5,none⟩=false/\W.frozen? ⟨w.heap.size+1+1,6,none⟩=false/\W.frozen? ⟨w.heap.size+1+1,7,none⟩=false/\W.frozen? ⟨w.heap.size+1+1,8,none⟩=false/\W.frozen? ⟨w.heap.size+1+1,9,none⟩=false/\W.frozen? ⟨w.heap.size+1+1,10,none⟩=false/\W.frozen? ⟨w.heap.size+1+1,11,none⟩=false/\w.heap.size<W.heap.size/\w.heap.size+1<W.heap.size/\w.heap.size+1+1<W.heap.size:=
 ⟨B.c.at_ 0 _ rfl,B.c.at_ 1 _ rfl,B.c.at_ 2 _ rfl,B.c.at_ 3 _ rfl,B.c.at_ 4 _ rfl,B.c.at_ 5 _ rfl,B.c.at_ 6 _ rfl,B.c.at_ 7 _ rfl,B.c.at_ 8 _ rfl,B.c.at_ 9 _ rfl,B.c.at_ 10 _ rfl,B.c.at_ 11 _ rfl,B.a.at_ 0 _ rfl,B.a.at_ 1 _ rfl,B.a.at_ 2 _ rfl,B.a.at_ 3 _ rfl,B.a.at_ 4 _ rfl,B.a.at_ 5 _ rfl,B.a.at_ 6 _ rfl,B.r.at_ 0 _ rfl,B.r.at_ 1 _ rfl,B.r.at_ 2 _ rfl,B.r.at_ 3 _ rfl,B.r.at_ 4 _ rfl,B.r.at_ 5 _ rfl,B.r.at_ 6 _ rfl,B.r.at_ 7 _ rfl,B.r.at_ 8 _ rfl,B.r.at_ 9 _ rfl,B.r.at_ 10 _ rfl,B.r.at_ 11 _ rfl,B.c.fr 0,B.c.fr 1,B.c.fr 2,B.c.fr 3,B.c.fr 4,B.c.fr 5,B.c.fr 6,B.c.fr 7,B.c.fr 8,B.c.fr 9,B.c.fr 10,B.c.fr 11,B.r.fr 0,B.r.fr 1,B.r.fr 2,B.r.fr 3,B.r.fr 4,B.r.fr 5,B.r.fr 6,B.r.fr 7,B.r.fr 8,B.r.fr 9,B.r.fr 10,B.r.fr 11,B.c.lt,B.a.lt,B.r.lt⟩
theorem zdj (z:V):∀(l:List V) (k:Nat) (hk:k<l.length),weightL (l.set k z)+l[k].weight=weightL l+z.weight:=by
 intro l
 induction l with
 |nil=>intro k hk;cases hk
 | cons a r ih=>
   intro k hk
   cases k with
   |zero=>simp only [List.set_cons_zero,List.getElem_cons_zero,weightL];omega
   | succ k=>
     have:=ih k (by simpa using hk)
     simp only [List.set_cons_succ,List.getElem_cons_succ,weightL];omega
theorem zh4 (z:V) (o:List (ByteArray×V)) (k:Nat) (hk:k<o.length):weightO (putO o k z)+o[k].2.weight=weightO o+z.weight:=by
 have e:putO o k z=o.set k (o[k].1,z):=by simp [putO,List.getD_eq_getElem?_getD,hk]
 rw [e]
 clear e
 induction o generalizing k with
 |nil=>cases hk
 | cons a r ih=>
   cases k with
   |zero=>simp only [List.set_cons_zero,List.getElem_cons_zero,weightO,Yp];omega
   | succ k=>
     have:=ih k (by simpa using hk)
     simp only [List.set_cons_succ,List.getElem_cons_succ,weightO];omega
theorem znj (p:List St):∀ {v x y z:V},getP v p=some x->putP v p y=some z->z.weight+x.weight=v.weight+y.weight:=by
 induction p with
 |nil=>intro v x y z h1 h2;injection h1 with h1;injection h2 with h2;subst h1 h2;omega
 | cons s r ih=>
   intro v x y z h1 h2
   unfold getP at h1
   unfold putP at h2
   cases hs:stepP v s with
   |none=>rw [hs] at h1;cases h1
   | some q=>
     rw [hs] at h1 h2
     dsimp only at h1 h2
     cases hp:putP q.1 r y with
     |none=>rw [hp] at h2;cases h2
     | some u=>
       rw [hp] at h2
       dsimp only at h2
       injection h2 with h2
       have hi:=ih h1 hp
       obtain ⟨kk,n,t,l,o,rfl⟩:=v.eta
       rcases Xm (x:=q.1) (k:=q.2) hs with ⟨hl,_,_,hk,e⟩|⟨hl,_,_,hk,e⟩
       .rw [if_pos hl] at h2
        have hw:=zdj u l q.2 hk
        have e2:(l[q.2]'hk)=q.1:=e
        rw [e2] at hw
        subst h2
        simp only [V.setL,V.weight];omega
       .rw [if_neg (by simp [hl])] at h2
        have hw:=zh4 u o q.2 hk
        have e2:(o[q.2]'hk).2=q.1:=e
        rw [e2] at hw
        subst h2
        simp only [V.setO,V.weight];omega
def otherF (key:ByteArray) (o:List (ByteArray×V)):List (ByteArray×V):=o.filter fun f=>decide (f.1.toList≠key.toList)
theorem zl6 (key:ByteArray) (o:List (ByteArray×V)):weightO (otherF key o)<=weightO o/\((∃f ∈ o,f.1=key)->weightO (otherF key o)+key.size<=weightO o):=by
 induction o with
 |nil=>exact ⟨Nat.le_refl _,fun ⟨_,h,_⟩=>by cases h⟩
 | cons a r ih=>
   unfold otherF at ih ⊢
   rw [List.filter_cons]
   by_cases h:a.1.toList=key.toList
   .rw [if_neg (by simp [h])]
    have he:a.1=key:=by
     have h2:=congrArg List.toArray h
     rw [ByteArray.toList_eq,ByteArray.toList_eq] at h2
     exact ByteArray.ext (by simpa using h2)
    simp only [weightO,Yp,he]
    exact ⟨by omega,fun _=>by omega⟩
   .rw [if_pos (by simp [h])]
    simp only [weightO]
    refine ⟨by omega,fun ⟨f,hf,e⟩=> ?_⟩
    rcases List.mem_cons.1 hf with rfl|hf
    .exact absurd (by rw [e]) h
    .have:=ih.2 ⟨f,hf,e⟩;omega
def owed (key:ByteArray) (v:V) (d:Bool):Nat:=cond d 0 (key.size+v.weight)
theorem zfj (key:ByteArray) (v:V):∀(o acc:List (ByteArray×V)) (d:Bool),weightO (o.foldl (fldStep key v) (acc,d)).1+owed key v (o.foldl (fldStep key v) (acc,d)).2<=weightO acc+weightO (otherF key o)+owed key v d:=by
 intro o
 induction o with
 |nil=>intro acc d;exact Nat.le_refl _
 | cons a r ih=>
   intro acc d
   have o1:owed key v true=0:=rfl
   have o2:owed key v false=key.size+v.weight:=rfl
   have w0:weightO ([] :List (ByteArray×V))=0:=rfl
   rw [List.foldl_cons]
   by_cases h:a.1.toList=key.toList
   .have ho:otherF key (a::r)=otherF key r:=by rw [otherF,List.filter_cons,if_neg (by simp [h])];rfl
    rw [ho]
    by_cases h1:d=false/\Op.bytesLess a.1.toList key.toList=false
    .have e:fldStep key v (acc,d) a=(acc++ [(key,v)],true):=by rw [fldStep,if_pos h1,if_pos h]
     rw [e]
     have:=ih (acc++ [(key,v)]) true
     rw [Y3] at this
     simp only [weightO,Yp] at this
     rw [h1.1]
     omega
    .have e:fldStep key v (acc,d) a=(acc,d):=by rw [fldStep,if_neg h1,if_pos h]
     rw [e]
     exact ih acc d
   .have ho:otherF key (a::r)=a::otherF key r:=by rw [otherF,List.filter_cons,if_pos (by simp [h])];rfl
    rw [ho]
    by_cases h1:d=false/\Op.bytesLess a.1.toList key.toList=false
    .have e:fldStep key v (acc,d) a=(acc++ [(key,v)] ++ [a],true):=by rw [fldStep,if_pos h1,if_neg h]
     rw [e]
     have:=ih (acc++ [(key,v)] ++ [a]) true
     rw [Y3,Y3] at this
     simp only [weightO,Yp] at this ⊢
     rw [h1.1]
     omega
    .have e:fldStep key v (acc,d) a=(acc++ [a],d):=by rw [fldStep,if_neg h1,if_neg h]
     rw [e]
     have:=ih (acc++ [a]) d
     rw [Y3] at this
     simp only [weightO] at this ⊢
     omega
theorem zjr (o:List (ByteArray×V)) (key:ByteArray) (v:V) (del:Bool) (K:Nat) (hK:key.size<=K∨∃f ∈ o,f.1=key):weightO (fieldsDo o key v del)<=weightO o+v.weight+K:=by
 have h:=zfj key v o [] del
 have h2:=zl6 key o
 have w0:weightO ([] :List (ByteArray×V))=0:=rfl
 have hd:owed key v del<=key.size+v.weight:=by cases del<;>simp [owed]
 have h3:weightO (fieldsDo o key v del)<=weightO (otherF key o)+(key.size+v.weight):=by
  unfold fieldsDo
  split
  .rename_i hf
   rw [hf] at h
   have o2:owed key v false=key.size+v.weight:=rfl
   rw [Y3]
   simp only [weightO,Yp] at h ⊢
   omega
  .omega
 rcases hK with hK|hK
 .omega
 .have:=h2.2 hK;omega
theorem zb1 (l:List V) (i:Nat) (v:V):weightL (insL l i v)=weightL l+v.weight:=by
 rw [insL,Xr]
 have h:=Xr (l.take i) (l.drop i)
 rw [List.take_append_drop] at h
 simp only [weightL];omega
theorem zc2 (l:List V) (i:Nat):weightL (remL l i)<=weightL l/\(i<l.length->weightL (remL l i)+(l.getD i V.none).weight<=weightL l):=by
 rw [remL,Xr]
 have h:=Xr (l.take i) (l.drop i)
 rw [List.take_append_drop] at h
 by_cases hi:i<l.length
 .rw [List.drop_eq_getElem_cons hi] at h
  simp only [weightL] at h
  have e:l.getD i V.none=l[i] :=by simp [List.getD_eq_getElem?_getD,hi]
  rw [e]
  exact ⟨by omega,fun _=>by omega⟩
 .rw [List.drop_eq_nil_of_le (by omega)] at h ⊢
  exact ⟨by omega,fun h=>absurd h hi⟩
theorem zlq (l:List V) (k i j:Int) (v:V) (hm:(k≠4/\k≠5/\k≠6)->i.toNat<l.length):weightL (listDo l k i j v)<=weightL l+v.weight:=by
 unfold listDo
 split
 .rw [zb1];exact Nat.le_refl _
 .split
  .have:=(zc2 l i.toNat).1;omega
  .split
   .by_cases h:i.toNat<l.length
    .have:=zdj v l i.toNat h;omega
    .rw [List.set_eq_of_length_le (by omega)];omega
   .rw [zb1]
    have:=(zc2 l i.toNat).2 (hm ⟨by omega,by omega,by omega⟩);omega
theorem zen (f:Nat):∀(i:Nat) (l:List UInt8),(cutsP f i l).Pairwise (· <= ·):=by
 induction f with
 |zero=>intro i l;simp [cutsP]
 | succ f ih=>
   intro i l
   unfold cutsP
   split
   .simp
   .refine List.pairwise_cons.2 ⟨fun x hx=> ?_,ih _ _⟩
    have:=(Jo _ _ _ x hx).1;omega
theorem zjc (s:ByteArray) {i j:Nat} (hij:i<=j) (hj:j<(cuts s).length):(cuts s).getD i 0<=(cuts s).getD j 0:=by
 have hp:(cuts s).Pairwise (· <= ·):=by
  unfold cuts
  refine List.pairwise_append.2 ⟨zen _ _ _,by simp,fun x hx y hy=> ?_⟩
  have:=(Jo _ _ _ x hx).2
  have e:s.data.toList.length=s.size:=Array.length_toList
  rw [List.mem_singleton.1 hy];omega
 have hi:i<(cuts s).length:=by omega
 simp only [List.getD_eq_getElem?_getD,List.getElem?_eq_getElem hi,List.getElem?_eq_getElem hj,Option.getD_some]
 by_cases e:i=j
 .subst e;exact Nat.le_refl _
 .exact List.pairwise_iff_getElem.1 hp i j hi hj (by omega)
theorem zmc {s:ByteArray} {k i n:Int} {cs:ByteArray} (h:tCheck s k i n=0):(textDo s k i n cs).size<=s.size+cs.size:=by
 obtain ⟨hk,h0,h1⟩:=Js h
 unfold textDo
 split
 .rw [ByteArray.size_append,ByteArray.size_append,ByteArray.size_extract,ByteArray.size_extract];omega
 .rename_i hne
  have hl:=Yh s
  have ht:textN s=(cuts s).length - 1:=rfl
  have hup:=zjc s (i:=i.toNat) (j:=(i+n).toNat) (by omega) (by omega)
  rw [ByteArray.size_append,ByteArray.size_extract,ByteArray.size_extract];omega
structure FXB (w W:World) (c:CC) (a:AC) (x:VC):Prop where
 c:BC W w.heap.size (ccells c)
 a:BC W (w.heap.size+1) (acells a)
 x:BC W (w.heap.size+1+1) (vcells x)
 r:BC W (w.heap.size+1+1+1) (ccells czero)
 below:Below w.heap.size w W
theorem FXB.start (w:World) (c:CC) (a:AC) (x:VC) (t1 t2 t3 t4:TypeId):FXB w ((((w.alloc (.cells #[.int .u8 c.k, .slice c.pa c.pl c.pc, .string c.key, .int .i64 c.i, .int .i64 c.j, .int .i64 c.n, .int .u8 c.v.k, .int .i64 c.v.n, .string c.v.s, .slice c.v.la c.v.ll c.v.lc, .slice c.v.oa c.v.ol c.v.oc, .string c.s] t1)).alloc (.cells #[.slice a.pa a.pl a.pc, .int .u8 a.k, .int .i64 a.i, .int .i64 a.j, .int .i64 a.n, .string a.s, .slice a.va a.vl a.vc] t2)).alloc (.cells #[.int .u8 x.k, .int .i64 x.n, .string x.s, .slice x.la x.ll x.lc, .slice x.oa x.ol x.oc] t3)).alloc (.cells #[.int .u8 0, .slice none 0 0, .string { data:= #[] }, .int .i64 0, .int .i64 0, .int .i64 0, .int .u8 0, .int .i64 0, .string { data:= #[] }, .slice none 0 0, .slice none 0 0, .string { data:= #[] }] t4)) c a x:=by
 obtain ⟨w1,hw1⟩:∃w1,w.alloc (.cells (uC c) t1)=w1:=⟨_,rfl⟩
 have s1:w1.heap.size=w.heap.size+1:=by rw [<-hw1,World.size_alloc]
 have b1:uB w w1:=by rw [<-hw1];exact (Below.refl _ _).alloc (Nat.le_refl _) _
 have c1:BC w1 w.heap.size (ccells c):=by rw [<-hw1];exact BC.start w (uC c) t1
 rw [hw1]
 obtain ⟨w2,hw2⟩:∃w2,w1.alloc (.cells (uA a) t2)=w2:=⟨_,rfl⟩
 have s2:w2.heap.size=w.heap.size+1+1:=by rw [<-hw2,World.size_alloc,s1]
 have b2:uB w1 w2:=by rw [<-hw2];exact (Below.refl _ _).alloc (Nat.le_refl _) _
 have c2:=BC.start w1 (uA a) t2
 rw [hw2,s1] at c2
 rw [hw2]
 obtain ⟨w3,hw3⟩:∃w3,w2.alloc (.cells (uV x) t3)=w3:=⟨_,rfl⟩
 have s3:w3.heap.size=w.heap.size+1+1+1:=by rw [<-hw3,World.size_alloc,s2]
 have b3:uB w2 w3:=by rw [<-hw3];exact (Below.refl _ _).alloc (Nat.le_refl _) _
 have c3:=BC.start w2 (uV x) t3
 rw [hw3,s2] at c3
 rw [hw3]
 have b4:uB w3 (w3.alloc (.cells #[.int .u8 0, .slice none 0 0, .string { data:= #[] }, .int .i64 0, .int .i64 0, .int .i64 0, .int .u8 0, .int .i64 0, .string { data:= #[] }, .slice none 0 0, .slice none 0 0, .string { data:= #[] }] t4)):=(Below.refl _ _).alloc (Nat.le_refl _) _
 have c4:=BC.start w3 #[.int .u8 0, .slice none 0 0, .string { data:= #[] }, .int .i64 0, .int .i64 0, .int .i64 0, .int .u8 0, .int .i64 0, .string { data:= #[] }, .slice none 0 0, .slice none 0 0, .string { data:= #[] }] t4
 rw [s3] at c4
 exact ⟨((c1.keep b2 (by omega)).keep b3 (by omega)).keep b4 (by omega),(c2.keep b3 (by omega)).keep b4 (by omega),c3.keep b4 (by omega),c4,((b1.trans (b2.mono (by omega))).trans (b3.mono (by omega))).trans (b4.mono (by omega))⟩
theorem FXB.next {w W W':World} {c:CC} {a:AC} {x:VC} {B:Nat} (h:FXB w W c a x) (hb:Below B W W') (hB:w.heap.size+4<=B):FXB w W' c a x:=
 ⟨h.c.keep hb (by omega),h.a.keep hb (by omega),h.x.keep hb (by omega),h.r.keep hb (by omega),h.below.trans (hb.mono (by omega))⟩
theorem FXB.key {w W:World} {c:CC} {a:AC} {x:VC} (h:FXB w W c a x) (s:ByteArray):FXB w (W.setCell ⟨w.heap.size,2,none⟩ (.string s)) { c with key:=s } a x:=
 ⟨h.c.set (i:=2) (x:= .string s) (by simp [ccells]),h.a.far (by omega),h.x.far (by omega),h.r.far (by omega),h.below.set_ (Nat.le_refl _)⟩
theorem FXB.facts {w W:World} {c:CC} {a:AC} {x:VC} (B:FXB w W c a x):W.cell? ⟨w.heap.size,0,none⟩=some (.int .u8 c.k)/\W.cell? ⟨w.heap.size,1,none⟩=some (.slice c.pa c.pl c.pc)/\W.cell? ⟨w.heap.size,2,none⟩=some (.string c.key)/\W.cell? ⟨w.heap.size,3,none⟩=some (.int .i64 c.i)/\W.cell? ⟨w.heap.size,4,none⟩=some (.int .i64 c.j)/\W.cell? ⟨w.heap.size,5,none⟩=some (.int .i64 c.n)/\W.cell? ⟨w.heap.size,6,none⟩=some (.int .u8 c.v.k)/\W.cell? ⟨w.heap.size,7,none⟩=some (.int .i64 c.v.n)/\W.cell? ⟨w.heap.size,8,none⟩=some (.string c.v.s)/\W.cell? ⟨w.heap.size,9,none⟩=some (.slice c.v.la c.v.ll c.v.lc)/\W.cell? ⟨w.heap.size,10,none⟩=some (.slice c.v.oa c.v.ol c.v.oc)/\W.cell? ⟨w.heap.size,11,none⟩=some (.string c.s)/\W.cell? ⟨w.heap.size+1,0,none⟩=some (.slice a.pa a.pl a.pc)/\W.cell? ⟨w.heap.size+1,1,none⟩=some (.int .u8 a.k)/\W.cell? ⟨w.heap.size+1,2,none⟩=some (.int .i64 a.i)/\W.cell? ⟨w.heap.size+1,3,none⟩=some (.int .i64 a.j)/\W.cell? ⟨w.heap.size+1,4,none⟩=some (.int .i64 a.n)/\W.cell? ⟨w.heap.size+1,5,none⟩=some (.string a.s)/\W.cell? ⟨w.heap.size+1,6,none⟩=some (.slice a.va a.vl a.vc)/\W.cell? ⟨w.heap.size+1+1,0,none⟩=some (.int .u8 x.k)/\W.cell? ⟨w.heap.size+1+1,1,none⟩=some (.int .i64 x.n)/\W.cell? ⟨w.heap.size+1+1,2,none⟩=some (.string x.s)/\W.cell? ⟨w.heap.size+1+1,3,none⟩=some (.slice x.la x.ll x.lc)/\W.cell? ⟨w.heap.size+1+1,4,none⟩=some (.slice x.oa x.ol x.oc)/\W.cell? ⟨w.heap.size+1+1+1,0,none⟩=some (.int .u8 0)/\W.cell? ⟨w.heap.size+1+1+1,1,none⟩=some (.slice none 0 0)/\W.cell? ⟨w.heap.size+1+1+1,2,none⟩=some (.string { data:= #[] })/\W.cell? ⟨w.heap.size+1+1+1,3,none⟩=some (.int .i64 0)/\W.cell? ⟨w.heap.size+1+1+1,4,none⟩=some (.int .i64 0)/\W.cell? ⟨w.heap.size+1+1+1,5,none⟩=some (.int .i64 0)/\W.cell? ⟨w.heap.size+1+1+1,6,none⟩=some (.int .u8 0)/\W.cell? ⟨w.heap.size+1+1+1,7,none⟩=some (.int .i64 0)/\W.cell? ⟨w.heap.size+1+1+1,8,none⟩=some (.string { data:= #[] })/\W.cell? ⟨w.heap.size+1+1+1,9,none⟩=some (.slice none 0 0)/\W.cell? ⟨w.heap.size+1+1+1,10,none⟩=some (.slice none 0 0)/\W.cell? ⟨w.heap.size+1+1+1,11,none⟩=some (.string { data:= #[] })/\W.frozen? ⟨w.heap.size,0,none⟩=false/\W.frozen? ⟨w.heap.size,1,none⟩=false/\W.frozen? ⟨w.heap.size,2,none⟩=false/\W.frozen? ⟨w.heap.size,3,none⟩=false/\W.frozen? ⟨w.heap.size,4,none⟩=false/\W.frozen? ⟨w.heap.size,5,none⟩=false/\W.frozen? ⟨w.heap.size,6,none⟩=false/\W.frozen? ⟨w.heap.size,7,none⟩=false/\W.frozen? ⟨w.heap.size,8,none⟩=false/\W.frozen? ⟨w.heap.size,9,none⟩=false/\W.frozen? ⟨w.heap.size,10,none⟩=false/\W.frozen? ⟨w.heap.size,11,none⟩=false/\W.frozen? ⟨w.heap.size+1+1+1,0,none⟩=false/\W.frozen? ⟨w.heap.size+1+1+1,1,none⟩=false/\W.frozen? ⟨w.heap.size+1+1+1,2,none⟩=false/\W.frozen? ⟨w.heap.size+1+1+1,3,none⟩=false/\W.frozen? ⟨w.heap.size+1+1+1,4,none⟩=false/\W.frozen? ⟨w.heap.size+1+1+1,5,none⟩=false/\W.frozen? ⟨w.heap.size+1+1+1,6,none⟩=false/\W.frozen? ⟨w.heap.size+1+1+1,7,none⟩=false/\W.frozen? ⟨w.heap.size+1+1+1,8,none⟩=false/\W.frozen? ⟨w.heap.size+1+1+1,9,none⟩=false/\W.frozen? ⟨w.heap.size+1+1+1,10,none⟩=false/\W.frozen? ⟨w.heap.size+1+1+1,11,none⟩=false/\w.heap.size<W.heap.size/\w.heap.size+1<W.heap.size/\w.heap.size+1+1<W.heap.size/\w.heap.size+1+1+1<W.heap.size:=
 ⟨B.c.at_ 0 _ rfl,B.c.at_ 1 _ rfl,B.c.at_ 2 _ rfl,B.c.at_ 3 _ rfl,B.c.at_ 4 _ rfl,B.c.at_ 5 _ rfl,B.c.at_ 6 _ rfl,B.c.at_ 7 _ rfl,B.c.at_ 8 _ rfl,B.c.at_ 9 _ rfl,B.c.at_ 10 _ rfl,B.c.at_ 11 _ rfl,B.a.at_ 0 _ rfl,B.a.at_ 1 _ rfl,B.a.at_ 2 _ rfl,B.a.at_ 3 _ rfl,B.a.at_ 4 _ rfl,B.a.at_ 5 _ rfl,B.a.at_ 6 _ rfl,B.x.at_ 0 _ rfl,B.x.at_ 1 _ rfl,B.x.at_ 2 _ rfl,B.x.at_ 3 _ rfl,B.x.at_ 4 _ rfl,B.r.at_ 0 _ rfl,B.r.at_ 1 _ rfl,B.r.at_ 2 _ rfl,B.r.at_ 3 _ rfl,B.r.at_ 4 _ rfl,B.r.at_ 5 _ rfl,B.r.at_ 6 _ rfl,B.r.at_ 7 _ rfl,B.r.at_ 8 _ rfl,B.r.at_ 9 _ rfl,B.r.at_ 10 _ rfl,B.r.at_ 11 _ rfl,B.c.fr 0,B.c.fr 1,B.c.fr 2,B.c.fr 3,B.c.fr 4,B.c.fr 5,B.c.fr 6,B.c.fr 7,B.c.fr 8,B.c.fr 9,B.c.fr 10,B.c.fr 11,B.r.fr 0,B.r.fr 1,B.r.fr 2,B.r.fr 3,B.r.fr 4,B.r.fr 5,B.r.fr 6,B.r.fr 7,B.r.fr 8,B.r.fr 9,B.r.fr 10,B.r.fr 11,B.c.lt,B.a.lt,B.x.lt,B.r.lt⟩
set_option maxRecDepth 100000 in
theorem zez (w:World) (vk vn:Int) (vs:ByteArray) (la:Option Addr) (ll lc:Nat) (oa:Option Addr) (ol oc:Nat) (v:V) (hv:IsVal w w.heap.size v ⟨vk,vn,vs,la,ll,lc,oa,ol,oc⟩) (hw:v.weight<=100000000) (p:List St) (xv:V) (cc:CC) (hcb:cc.Bnd) (hp:IsSteps w w.heap.size p cc.pa cc.pl cc.pc) (hxv:IsVal w w.heap.size xv cc.v) (hxw:xv.weight<=4611686018427387904) (hT:Tabs w) (he:checkP v ⟨cc.k,p,cc.key,cc.i,cc.j,cc.n,xv,cc.s⟩=0) (hk:cc.k=2∨cc.k=3):
 uP 16 #[.agg #[.int .u8 vk, .int .i64 vn, .string vs, .slice la ll lc, .slice oa ol oc], .agg #[.int .u8 cc.k, .slice cc.pa cc.pl cc.pc, .string cc.key, .int .i64 cc.i, .int .i64 cc.j, .int .i64 cc.n, .int .u8 cc.v.k, .int .i64 cc.v.n, .string cc.v.s, .slice cc.v.la cc.v.ll cc.v.lc, .slice cc.v.oa cc.v.ol cc.v.oc, .string cc.s]] w (DoPost w (doP v ⟨cc.k,p,cc.key,cc.i,cc.j,cc.n,xv,cc.s⟩)):=by
 delta uP
 obtain ⟨_,x,hg,hkd⟩:=Zw he
 dsimp only at hg hkd
 have hxw2:=Zy p hg
 have HCK:Hid (∀W,uB w W->uP 34 #[.agg #[.int .u8 vk, .int .i64 vn, .string vs, .slice la ll lc, .slice oa ol oc], .agg #[.int .u8 cc.k, .slice cc.pa cc.pl cc.pc, .string cc.key, .int .i64 cc.i, .int .i64 cc.j, .int .i64 cc.n, .int .u8 cc.v.k, .int .i64 cc.v.n, .string cc.v.s, .slice cc.v.la cc.v.ll cc.v.lc, .slice cc.v.oa cc.v.ol cc.v.oc, .string cc.s]] W fun e w'=>e= .returned (.int .i64 0)/\uB W w'):=fun W hW=>by
  have:=Xx W vk vn vs la ll lc oa ol oc v (hv.later_ hW) (by omega) p xv cc hcb (hp.later_ hW) (hxv.later_ hW) (by omega) (hT.below hW)
  rw [he] at this;exact this
 have HGT:Hid (∀W,uB w W->uP 38 #[.agg #[.int .u8 vk, .int .i64 vn, .string vs, .slice la ll lc, .slice oa ol oc], .slice cc.pa cc.pl cc.pc] W (GetPost W (some x))):=fun W hW=>by rw [<-hg];exact Xn W vk vn vs la ll lc oa ol oc v (hv.later_ hW) p cc.pa cc.pl cc.pc (hp.later_ hW)
 have HPT:Hid (∀(W:World) (y:V) (k n:Int) (s:ByteArray) (a:Option Addr) (m c:Nat) (a':Option Addr) (m' c':Nat),uB w W->IsVal W W.heap.size y ⟨k,n,s,a,m,c,a',m',c'⟩->uP 51 #[.agg #[.int .u8 vk, .int .i64 vn, .string vs, .slice la ll lc, .slice oa ol oc], .slice cc.pa cc.pl cc.pc, .agg #[.int .u8 k, .int .i64 n, .string s, .slice a m c, .slice a' m' c']] W (GetPost W (putP v p y))):=fun W y k n s a m c a' m' c' hW hy=>Q7 y k n s a m c a' m' c' p W vk vn vs la ll lc oa ol oc v (hv.later_ hW) cc.pa cc.pl cc.pc (hp.later_ hW) hy
 have hdo:doP v ⟨cc.k,p,cc.key,cc.i,cc.j,cc.n,xv,cc.s⟩=doneQ (putP v p (doneP x ⟨cc.k,p,cc.key,cc.i,cc.j,cc.n,xv,cc.s⟩)):=Y8 he hg
 rw [hdo]
 have HB:=qh (DB.start w ⟨vk,vn,vs,la,ll,lc,oa,ol,oc⟩ cc 36 39 36)
 have HTT:=qh hT
 have HXV:=qh hxv
 have HCB:=qh hcb
 have HKD:=qh hkd
 have hsw:=x.str_weight
 obtain ⟨kx,nx,sx,lx,ox,rfl⟩:=x.eta
 dsimp only [V.str,V.ls,V.os] at hsw
 obtain ⟨Y,hY⟩:∃Y,doneP (.mk kx nx sx lx ox) ⟨cc.k,p,cc.key,cc.i,cc.j,cc.n,xv,cc.s⟩=Y:=⟨_,rfl⟩
 rw [hY]
 obtain ⟨z,hPR⟩:=Ym p hg Y
 rw [hPR,Xb]
 have HY:=qh hY
 have HPR:=qh hPR
 clear hv hp hxv hT hcb hdo hY hPR he hg hkd
 rcases hk with hk|hk
 all_goals
  have HK:=qh hk
  clear hk
  go_enter Tryz.func16,Tryz.ntmps16
  generalize hQ0:bodyPost _ _ _=Q0
  have HQ:=qh hQ0
  clear hQ0
  go_wp2_with fail
  refine (HCK.out _ HB.out.below).mono ?_
  rintro e W ⟨rfl,hb1⟩
  have B:=HB.out.next hb1 (by simp)
  obtain ⟨v0,v1,v2,v3,v4⟩:=row5 B.v.at_
  obtain ⟨b0,b1,b2,b3,b4,b5,b6,b7,b8,b9,b10,b11⟩:=row12 B.c.at_
  obtain ⟨r0,r1,r2,r3,r4⟩:=row5 B.r.at_
  have f0:=B.r.fr 0;have f1:=B.r.fr 1;have f2:=B.r.fr 2;have f3:=B.r.fr 3;have f4:=B.r.fr 4
  have z0:=B.v.lt;have z1:=B.c.lt;have z2:=B.r.lt
  have HBW:=qh B
  clear B hb1
  go_wp2_with fail
  refine (HGT.out _ HBW.out.below).mono ?_
  rintro e W2 ⟨⟨d,rfl,hI⟩,hb2⟩
  have B2:=HBW.out.next hb2 (Nat.succ_le_of_lt z2)
  obtain ⟨e1,e2,e3,hbd,hl,ho⟩:=hI.lists
  subst e1 e2 e3
  clear v0 v1 v2 v3 v4 r0 r1 r2 r3 r4 f0 f1 f2 f3 f4 b0 b1 b2 b3 b4 b5 b6 b7 b8 b9 b10 b11
  obtain ⟨v0,v1,v2,v3,v4⟩:=row5 B2.v.at_
  obtain ⟨b0,b1,b2,b3,b4,b5,b6,b7,b8,b9,b10,b11⟩:=row12 B2.c.at_
  obtain ⟨r0,r1,r2,r3,r4⟩:=row5 B2.r.at_
  have f0:=B2.r.fr 0;have f1:=B2.r.fr 1;have f2:=B2.r.fr 2;have f3:=B2.r.fr 3;have f4:=B2.r.fr 4
  have z0:=B2.v.lt;have z1:=B2.c.lt;have z2:=B2.r.lt
  have zW:=HBW.out.below.size
  have zW2:=hb2.size
  have z22:=B2.r.lt
  have HB2:=qh B2
  have HI:=qh hI
  have HBD:=qh hbd
  have HL:=qh hl
  have HO:=qh ho
  have HAL:=qh (((Below.refl _ _).alloc (Nat.le_refl _) (.cells #[.int .u8 d.k, .int .i64 d.n, .string d.s, .slice d.la d.ll d.lc, .slice d.oa d.ol d.oc] 36)):uB W2 _)
  clear B2 hI hbd hl ho hb2
  rw [HK.out] at b0
  have HFL:Hid (uP 48 #[.slice d.oa d.ol d.oc, .agg #[.int .u8 cc.k, .slice cc.pa cc.pl cc.pc, .string cc.key, .int .i64 cc.i, .int .i64 cc.j, .int .i64 cc.n, .int .u8 cc.v.k, .int .i64 cc.v.n, .string cc.v.s, .slice cc.v.la cc.v.ll cc.v.lc, .slice cc.v.oa cc.v.ol cc.v.oc, .string cc.s]] (W2.alloc (.cells #[.int .u8 d.k, .int .i64 d.n, .string d.s, .slice d.la d.ll d.lc, .slice d.oa d.ol d.oc] 36)) (FieldsPost (W2.alloc (.cells #[.int .u8 d.k, .int .i64 d.n, .string d.s, .slice d.la d.ll d.lc, .slice d.oa d.ol d.oc] 36)) (fun k=>W.heap.size<=k/\k≠W2.heap.size) (fieldsDo ox cc.key xv (cc.k==3)))):=by
   have hb3:=HB2.out.below.trans (HAL.out.mono HB2.out.below.size)
   refine zkj (W2.alloc (.cells #[.int .u8 d.k, .int .i64 d.n, .string d.s, .slice d.la d.ll d.lc, .slice d.oa d.ol d.oc] 36)) (fun k=>W.heap.size<=k/\k≠W2.heap.size) (fun k hk=>by rw [World.size_alloc] at hk;omega) ox d.oa d.ol d.oc ?_ cc xv (HXV.out.later_ hb3) HCB.out.key1 (by have:=HO.out.len;omega)
   exact (IsFields.sub (Zd fun k hk hl=>⟨⟨hk,by omega⟩,HAL.out.block k hl⟩) HO.out).more HAL.out.size
  rw [HK.out] at HFL
  go_wp2_with fail
  refine HFL.out.mono ?_
  rintro e w4 ⟨⟨a4,n4,c4,rfl,hI4⟩,hb4⟩
  have hbw4:uB W2 w4:=HAL.out.trans (hb4.mono (by simp))
  have B4:=HB2.out.next hbw4 (Nat.succ_le_of_lt z2)
  have X4:BC w4 W2.heap.size (vcells d):=(BC.start W2 #[.int .u8 d.k, .int .i64 d.n, .string d.s, .slice d.la d.ll d.lc, .slice d.oa d.ol d.oc] 36).keep hb4 (by simp)
  obtain ⟨x0,x1,x2,x3,x4⟩:=row5 X4.at_
  have xf0:=X4.fr 2;have xf1:=X4.fr 3;have xf2:=X4.fr 4
  have xlt:=X4.lt
  clear v0 v1 v2 v3 v4 r0 r1 r2 r3 r4 f0 f1 f2 f3 f4 b0 b1 b2 b3 b4 b5 b6 b7 b8 b9 b10 b11
  obtain ⟨v0,v1,v2,v3,v4⟩:=row5 B4.v.at_
  obtain ⟨b0,b1,b2,b3,b4,b5,b6,b7,b8,b9,b10,b11⟩:=row12 B4.c.at_
  obtain ⟨r0,r1,r2,r3,r4⟩:=row5 B4.r.at_
  have f0:=B4.r.fr 0;have f1:=B4.r.fr 1;have f2:=B4.r.fr 2;have f3:=B4.r.fr 3;have f4:=B4.r.fr 4
  have z0:=B4.v.lt;have z1:=B4.c.lt;have z2:=B4.r.lt
  have HBW4:=qh hbw4
  clear B4 X4 hb4 hbw4
  have HI4:=qh hI4
  clear hI4
  go_wp2_with fail
  have hbl4:uB W2 (w4.setCell ⟨W2.heap.size,4,none⟩ (.slice a4 n4 c4)):=HBW4.out.set_ (Nat.le_refl _)
  have hx4:=(HI.out.sub (Zl _ _ _)).later_ hbl4
  obtain ⟨_,_,_,_,hl4,ho4⟩:=hx4.lists
  have HB4:=qh (HB2.out.next hbl4 (Nat.succ_le_of_lt z22))
  have HCALL:Hid (uP 51 #[.agg #[.int .u8 vk, .int .i64 vn, .string vs, .slice la ll lc, .slice oa ol oc], .slice cc.pa cc.pl cc.pc, .agg #[.int .u8 d.k, .int .i64 d.n, .string d.s, .slice d.la d.ll d.lc, .slice a4 n4 c4]] (w4.setCell ⟨W2.heap.size,4,none⟩ (.slice a4 n4 c4)) (GetPost (w4.setCell ⟨W2.heap.size,4,none⟩ (.slice a4 n4 c4)) (some z))):=by
   have:=HPT.out (w4.setCell ⟨W2.heap.size,4,none⟩ (.slice a4 n4 c4)) Y d.k d.n d.s d.la d.ll d.lc a4 n4 c4 HB4.out.below (by
    have hYe:Y= .mk d.k d.n d.s lx (fieldsDo ox cc.key xv (cc.k==3)):=by
     rw [<-HY.out,doneP,if_neg (by have:=HK.out;dsimp only;omega),if_pos (by have:=HK.out;dsimp only;omega)];rfl
    have hst:RStep w4 (w4.setCell ⟨W2.heap.size,4,none⟩ (.slice a4 n4 c4)) W2.heap.size:=RStep.self
    rw [hYe,HK.out]
    exact Yy HBD.out.k0 HBD.out.k1 HBD.out.n0 HBD.out.n1 HBD.out.s1 hl4 ((IsFields.sub (fun b o u hb h=>by
     obtain ⟨hs,hc⟩:=Z8 h
     exact hst.cell hc hs.2) HI4.out).more hst.size))
   rw [HPR.out] at this;exact this
  clear hx4 hl4 ho4
  refine HCALL.out.mono ?_
  rintro e W6 ⟨⟨d6,rfl,hz⟩,hb6⟩
  have B6:=HB4.out.next hb6 (Nat.succ_le_of_lt HB4.out.r.lt)
  clear v0 v1 v2 v3 v4 r0 r1 r2 r3 r4 f0 f1 f2 f3 f4 b0 b1 b2 b3 b4 b5 b6 b7 b8 b9 b10 b11
  obtain ⟨v0,v1,v2,v3,v4⟩:=row5 B6.v.at_
  obtain ⟨b0,b1,b2,b3,b4,b5,b6,b7,b8,b9,b10,b11⟩:=row12 B6.c.at_
  obtain ⟨r0,r1,r2,r3,r4⟩:=row5 B6.r.at_
  have f0:=B6.r.fr 0;have f1:=B6.r.fr 1;have f2:=B6.r.fr 2;have f3:=B6.r.fr 3;have f4:=B6.r.fr 4
  have z0:=B6.v.lt;have z1:=B6.c.lt;have z2:=B6.r.lt
  have HB6:=qh B6
  have hz4:=HB4.out.below.size
  have hz5:=HB4.out.r.lt
  have HZ:=qh hz
  clear B6 hb6 hz
  go_wp2_with fail
  rw [<-HQ.out]
  have ST:=HB6.out.result d6
  have hst:=Zh W6 (w.heap.size+1+1) 0 d6
  exact Qc (r:=(z,0)) ST.1 ((Zn (base:=w.heap.size+1+1+1) (HZ.out.sub (Zd fun k hk _=>⟨Nat.le_trans (Nat.succ_le_of_lt hz5) hk,rfl⟩)) hst (by omega)).sub (Zd fun k hk _=>⟨by omega,rfl⟩)) ST.2 rfl rfl rfl
theorem PGetPost.gen {w:World} {v:V} {p:List St} {e:Ending} {w':World} (h:PGetPost w v p e w'):∃(d:VC) (er:Int),e= .returned (.tuple #[.agg #[.int .u8 d.k, .int .i64 d.n, .string d.s, .slice d.la d.ll d.lc, .slice d.oa d.ol d.oc], .int .u16 er])/\Hid ((getP v p=none/\er=30)∨∃x,getP v p=some x/\er=0/\Whole w' w.heap.size x d)/\uB w w':=by
 delta uB
 obtain ⟨hb,⟨rfl,hn⟩|⟨x,d,rfl,hg,hW⟩⟩:=h
 .exact ⟨vzero,30,rfl,qh (.inl ⟨hn,rfl⟩),hb⟩
 .exact ⟨d,0,rfl,qh (.inr ⟨x,hg,rfl,hW⟩),hb⟩
set_option maxRecDepth 100000 in
theorem Xw (w:World) (vk vn:Int) (vs:ByteArray) (la:Option Addr) (ll lc:Nat) (oa:Option Addr) (ol oc:Nat) (v:V) (hv:IsVal w w.heap.size v ⟨vk,vn,vs,la,ll,lc,oa,ol,oc⟩) (hw:v.weight<=1000000000000) (p:List St) (xv:V) (cc:CC) (hcb:cc.Bnd) (hp:IsSteps w w.heap.size p cc.pa cc.pl cc.pc) (hxv:IsVal w w.heap.size xv cc.v) (hxw:xv.weight<=4611686018427387904) (hT:Tabs w):
 uP 35 #[.agg (uU vk vn vs la ll lc oa ol oc), .agg (uC cc)] w fun e w'=>e= .returned (.int .u16 (checkP v ⟨cc.k,p,cc.key,cc.i,cc.j,cc.n,xv,cc.s⟩))/\uB w w':=by
 delta uU uC uB uP
 have HSD:Hid (∀W,uB w W->uP 19 #[.agg (uC cc)] W fun e w'=>e= .returned (.bool (cmSound ⟨cc.k,p,cc.key,cc.i,cc.j,cc.n,xv,cc.s⟩))/\uB W w'):=fun W hW=>zds _ W (hT.below hW) cc (.mk cc p xv hcb (hp.later_ hW) (hxv.later_ hW)) (by show xv.weight<=_;omega)
 have HGT:Hid (∀W,uB w W->uP 42 #[.agg (uU vk vn vs la ll lc oa ol oc), .slice cc.pa cc.pl cc.pc] W (PGetPost W v p)):=fun W hW=>Xz W v ⟨vk,vn,vs,la,ll,lc,oa,ol,oc⟩ p cc.pa cc.pl cc.pc (hv.later_ hW) (hp.later_ hW)
 have HKD:Hid (∀W x (d:VC),uB w W->IsVal W W.heap.size x d->getP v p=some x->uP 70 #[.agg (uV d), .agg (uC cc)] W fun e w'=>e= .returned (.int .u16 (kindsP x cc.k cc.i cc.j cc.n cc.key))/\uB W w'):=fun W x d hW hI hg=>by
  have h1:=Zy p hg
  have h2:=x.str_weight.1
  have h3:=(Xl hI).1
  exact zme W d.k d.n d.s d.la d.ll d.lc d.oa d.ol d.oc x hI (by rw [<-h3];omega) cc hcb
 obtain ⟨sd,hsd⟩:∃sd,cmSound ⟨cc.k,p,cc.key,cc.i,cc.j,cc.n,xv,cc.s⟩=sd:=⟨_,rfl⟩
 rw [hsd] at HSD
 obtain ⟨R,hR⟩:∃R,checkP v ⟨cc.k,p,cc.key,cc.i,cc.j,cc.n,xv,cc.s⟩=R:=⟨_,rfl⟩
 rw [hR]
 simp only [checkP,hsd] at hR
 have HR:=qh hR
 have HB:=qh (KBk.start w ⟨vk,vn,vs,la,ll,lc,oa,ol,oc⟩ cc 36 39)
 clear hR hsd hv hp hxv hxw hw hT hcb
 go_enter Tryz.func35,Tryz.ntmps35
 go_wp2_with fail
 refine (HSD.out _ HB.out.below).mono ?_
 rintro e W ⟨rfl,hb1⟩
 have B:=HB.out.next hb1 (by simp)
 obtain ⟨v0,v1,v2,v3,v4⟩:=row5 B.v.at_
 obtain ⟨b0,b1,b2,b3,b4,b5,b6,b7,b8,b9,b10,b11⟩:=row12 B.c.at_
 have z0:=B.v.lt;have z1:=B.c.lt
 have HBW:=qh B
 clear B hb1
 cases sd with
 | false=>
   obtain rfl:R=60:=by rw [<-HR.out];rfl
   go_wp2_with fail
   go_returns
   exact ⟨rfl,HBW.out.below⟩
 | true=>
   go_wp2_with fail
   refine (HGT.out _ HBW.out.below).mono ?_
   rintro e W2 h2
   obtain ⟨d,er,rfl,hrel,hb2⟩:=PGetPost.gen h2
   clear h2
   have B2:=HBW.out.next hb2 (Nat.succ_le_of_lt z1)
   clear v0 v1 v2 v3 v4 b0 b1 b2 b3 b4 b5 b6 b7 b8 b9 b10 b11
   obtain ⟨v0,v1,v2,v3,v4⟩:=row5 B2.v.at_
   obtain ⟨b0,b1,b2,b3,b4,b5,b6,b7,b8,b9,b10,b11⟩:=row12 B2.c.at_
   have z0:=B2.v.lt;have z1:=B2.c.lt
   have hbl2:=B2.below
   have HB2:=qh (hbl2.alloc hbl2.size (.cells (uV d) 36))
   clear hb2 B2
   rcases hrel.out with ⟨hg,rfl⟩|⟨x,hg,rfl,hI⟩
   .obtain rfl:R=30:=by rw [<-HR.out,hg];rfl
    clear hg hbl2
    go_wp2_with fail
    go_returns
    exact ⟨rfl,HB2.out⟩
   .have HK:Hid (uP 70 #[.agg (uV d), .agg (uC cc)] (W2.alloc (.cells (uV d) 36)) fun e w'=>e= .returned (.int .u16 (kindsP x cc.k cc.i cc.j cc.n cc.key))/\uB (W2.alloc (.cells (uV d) 36)) w'):=HKD.out _ x d HB2.out ((hI.sepI.isVal.sub (Zl _ _ _)).later_ ((Below.refl _ _).alloc (Nat.le_refl _) _)) hg
    obtain rfl:R=kindsP x cc.k cc.i cc.j cc.n cc.key:=by rw [<-HR.out,hg];rfl
    clear hg hI hrel hbl2
    go_wp2_with fail
    refine HK.out.mono ?_
    rintro e W3 ⟨rfl,hb3⟩
    go_wp2_with fail
    go_returns
    exact ⟨rfl,HB2.out.trans (hb3.mono HB2.out.size)⟩
theorem zlb (w:World) (l:List V) (a:Option Addr) (n c:Nat) (hl:IsVals w w.heap.size l a n c) (hfew:n<=100000000) (cc:CC) (x:V) (hx:IsVal w w.heap.size x cc.v) (hc:lCheck n cc.k cc.i cc.j=0):
 uP 82 #[.slice a n c, .agg (uC cc)] w (SeqPost w (listDo l cc.k cc.i cc.j x)):=by
 delta uC uP
 obtain ⟨h4,h7,_⟩:=Yr hc
 by_cases k4:cc.k=4
 .exact ze7 w l a n c hl hfew cc x hx hc k4
 by_cases k5:cc.k=5
 .exact zgf w l a n c hl hfew cc x hc k5
 by_cases k6:cc.k=6
 .exact zep w l a n c hl hfew cc x hx hc k6
 exact zid w l a n c hl hfew cc x hc (by omega)
set_option maxRecDepth 100000 in
theorem zjs (w:World) (B:Nat) (d:VC) (cc:CC) (l:List V) (xv:V) (hB:BC w B (wcells d cc)) (hl:IsVals w w.heap.size l d.la d.ll d.lc) (hfew:l.length<=100000000) (hx:IsVal w w.heap.size xv cc.v) (hc:lCheck l.length cc.k cc.i cc.j=0):
 uP 45 #[.pointer (some ⟨B,0,none⟩)] w fun e w'=>e= .returned (.tuple #[])/\∃W a n c,uB w W/\w'=W.setCell ⟨B,3,none⟩ (.slice a n c)/\IsVals (only (fun b=>w.heap.size<=b) W) W.heap.size (listDo l cc.k cc.i cc.j xv) a n c:=by
 delta uB uP
 have hlen:=hl.len
 have HTD:Hid (∀W,uB w W->uP 82 #[.slice d.la d.ll d.lc, .agg (uC cc)] W fun e w'=>(∃a n c,e= .returned (.tuple #[.slice a n c, .int .u16 0])/\IsVals (only (fun b=>W.heap.size<=b) w') w'.heap.size (listDo l cc.k cc.i cc.j xv) a n c)/\uB W w'):=qh fun W hW=>zlb W l d.la d.ll d.lc (hl.later_ hW) (by omega) cc xv (hx.later_ hW) (by rw [hlen];exact hc)
 have HB:=qh hB
 have HBD:=qh (Zf w)
 have c3:=hB.at_ 3 _ rfl;have f3:=hB.fr 3
 have c5:=hB.at_ 5 _ rfl;have c6:=hB.at_ 6 _ rfl;have c7:=hB.at_ 7 _ rfl;have c8:=hB.at_ 8 _ rfl;have c9:=hB.at_ 9 _ rfl;have c10:=hB.at_ 10 _ rfl;have c11:=hB.at_ 11 _ rfl;have c12:=hB.at_ 12 _ rfl;have c13:=hB.at_ 13 _ rfl;have c14:=hB.at_ 14 _ rfl;have c15:=hB.at_ 15 _ rfl;have c16:=hB.at_ 16 _ rfl
 have zs:=hB.lt
 have mixed:Tryz.prog.follows .mixedOrders=true:=by kernel_rfl
 obtain ⟨TD,hTD⟩:∃TD,listDo l cc.k cc.i cc.j xv=TD:=⟨_,rfl⟩
 rw [hTD] at HTD ⊢
 clear hB hTD hc hfew hl hlen hx
 go_enter Tryz.func45,Tryz.ntmps45
 go_wp2_with fail
 go_region_with (go_simp;go_at_call 82;(with_reducible refine (HTD.out _ HBD.out).mono ?_);rintro e w4 ⟨⟨a4,n4,m4,rfl,hI⟩,hb4⟩;have B4:=HB.out.keep ((Zf w).trans hb4) HB.out.lt;have g3:=B4.at_ 3 _ rfl;have f3':=B4.fr 3;have z4:=B4.lt;have HB4:=qh ((Zf w).trans hb4);have HI:=qh hI;clear hb4 B4 hI)
 all_goals (go_wp2_with fail;exact ⟨rfl, .tuple #[],by simp [results,Tryz.results45,go_sem],rfl,w4,a4,n4,m4,HB4.out,rfl,HI.out⟩)
end Go.Proofs.YtnjgbiachcfigaaGreatDoor
