/-
  Contracts of the functions that the law reaches: conciliatorref04.Do, where it may be.
-/
import Derived.Test.YtnjgbiachcfigaaGreatDoorIw18
import Derived.Test.YtnjgbiachcfigaaGreatDoorIw23
namespace Go.Proofs.YtnjgbiachcfigaaGreatDoor
open Go.RowKit
set_option maxHeartbeats 16000000
set_option maxRecDepth 100000 in
theorem zbv (w:World) (s:ByteArray) (c:CC) (hb:c.Bnd) (hs:s.size<=1000000000000) (hT:Tabs w) (hc:tCheck s c.k c.i c.n=0):
 uP 49 #[.string s, .agg #[.int .u8 c.k, .slice c.pa c.pl c.pc, .string c.key, .int .i64 c.i, .int .i64 c.j, .int .i64 c.n, .int .u8 c.v.k, .int .i64 c.v.n, .string c.v.s, .slice c.v.la c.v.ll c.v.lc, .slice c.v.oa c.v.ol c.v.oc, .string c.s]] w fun e w'=>e= .returned (.tuple #[.string (textDo s c.k c.i c.n c.s), .int .i64 0])/\Below w.heap.size w w':=by
 delta uP
 have HCK:Hid (∀W,Below w.heap.size w W->uP 85 #[.string s, .agg #[.int .u8 c.k, .slice c.pa c.pl c.pc, .string c.key, .int .i64 c.i, .int .i64 c.j, .int .i64 c.n, .int .u8 c.v.k, .int .i64 c.v.n, .string c.v.s, .slice c.v.la c.v.ll c.v.lc, .slice c.v.oa c.v.ol c.v.oc, .string c.s]] W fun e w'=>e= .returned (.int .i64 0)/\Below W.heap.size W w'):=fun W hW=>by
  have:=zc7 W s c hb hs (hT.below hW)
  rw [hc] at this;exact this
 obtain ⟨hk,hi0,hi1⟩:=J0 hc
 have hcl:=Yo s
 have hcle:=J8 s
 obtain ⟨C,hC⟩:∃C,cuts s=C:=⟨_,rfl⟩
 have HCU:Hid (∀W,Below w.heap.size w W->uP 86 #[.string s] W (IntsPost W C)):=fun W hW=>by rw [<-hC];exact zek W s hs (hT.below hW)
 have HBX:=qh (BC.start w #[.int .u8 c.k, .slice c.pa c.pl c.pc, .string c.key, .int .i64 c.i, .int .i64 c.j, .int .i64 c.n, .int .u8 c.v.k, .int .i64 c.v.n, .string c.v.s, .slice c.v.la c.v.ll c.v.lc, .slice c.v.oa c.v.ol c.v.oc, .string c.s] 39)
 have HAL:=qh ((Below.refl _ _).alloc (Nat.le_refl _) (.cells #[.int .u8 c.k, .slice c.pa c.pl c.pc, .string c.key, .int .i64 c.i, .int .i64 c.j, .int .i64 c.n, .int .u8 c.v.k, .int .i64 c.v.n, .string c.v.s, .slice c.v.la c.v.ll c.v.lc, .slice c.v.oa c.v.ol c.v.oc, .string c.s] 39):Below w.heap.size w _)
 obtain ⟨R,hR⟩:∃R,textDo s c.k c.i c.n c.s=R:=⟨_,rfl⟩
 rw [hR]
 rw [textDo,hC] at hR
 rw [hC] at hcl hcle
 rw [textN,hC] at hi1
 obtain ⟨I,hI⟩:∃I:Nat,c.i=I:=⟨c.i.toNat,by omega⟩
 have hIl:I<C.length:=by omega
 rw [hI,Int.toNat_natCast,List.getD_eq_getElem?_getD,List.getElem?_eq_getElem hIl,Option.getD_some] at hR
 have hpl:=hcle I hIl
 obtain ⟨p,hp⟩:∃p,C[I] =p:=⟨_,rfl⟩
 rw [hp] at hR hpl
 have HP:=qh hp
 have hk2:(c.k=8)∨(c.k=9/\∃J:Nat,c.n=J/\I+J<C.length):=by
  rw [textN,hC] at hk
  rcases hk with h|⟨h1,h2,h3⟩
  .exact .inl h
  .exact .inr ⟨h1,c.n.toNat,by omega,by omega⟩
 obtain ⟨ck,hck⟩:∃ck,c.k=ck:=⟨_,rfl⟩
 obtain ⟨cn,hcn⟩:∃cn,c.n=cn:=⟨_,rfl⟩
 rw [hck,hcn] at hR hk2
 rw [hck,hI,hcn] at HCK HBX HAL ⊢
 have HCLE:=qh hcle
 have hsz:s.size<=9223372036854775807:=by omega
 have hs1:=hb.s1
 have hq1:¬(9223372036854775807<p+c.s.size):=by omega
 have hq2:¬(9223372036854775807<p+c.s.size+(s.size - p)):=by omega
 clear hC hT hb hc hk hck hcn hi0 hi1 hcle hI hp
 rcases hk2 with e8|⟨e9,J,hJ,hIJ⟩
 .cases e8
  rw [if_pos rfl] at hR
  have HR:=qh hR
  clear hR
  go_enter Tryz.func49,Tryz.ntmps49
  go_wp2_with fail
  refine (HCK.out _ HAL.out).mono ?_
  rintro e w1 ⟨rfl,hb1⟩
  have D1:=HBX.out.keep hb1 (by simp)
  have hbl1:=HAL.out.trans (hb1.mono (by simp))
  have HD1:=qh D1
  have HBL1:=qh hbl1
  clear D1 hb1 hbl1
  go_wp2_with fail
  refine (HCU.out _ HBL1.out).mono ?_
  rintro e w2 ⟨⟨g,gc,rfl,hc1,hc2,hgl,hcell⟩,hb2⟩
  have D2:=HD1.out.keep hb2 HD1.out.lt
  obtain ⟨b0,b1,b2,b3,b4,b5,b6,b7,b8,b9,b10,b11⟩:=row12 D2.at_
  have zs:=D2.lt
  have hcI:=hcell I hIl
  rw [HP.out] at hcI
  have HBL2:=qh (HBL1.out.trans (hb2.mono HBL1.out.size))
  clear D2 hb2 hcell
  go_wp2_with fail
  go_region
  go_wp2_with fail
  go_returns
  exact ⟨by rw [<-HR.out];rfl,HBL2.out.drew⟩
 .cases e9
  cases hJ
  rw [if_neg (by omega),show ((I:Int)+(J:Int)).toNat=I+J by omega,List.getD_eq_getElem?_getD,List.getElem?_eq_getElem hIJ,Option.getD_some] at hR
  have hql:=HCLE.out (I+J) hIJ
  obtain ⟨q,hq⟩:∃q,C[I+J] =q:=⟨_,rfl⟩
  rw [hq] at hR hql
  have HQ:=qh hq
  have hw:IntKind.i64.wrap ((I:Int)+(J:Int))=((I+J:Nat):Int):=by rw [IntWalk.i64_in _ (by omega)];omega
  have hq1:¬(9223372036854775807<p+(s.size - q)):=by omega
  have HR:=qh hR
  clear hR hq
  go_enter Tryz.func49,Tryz.ntmps49
  go_wp2_with fail
  refine (HCK.out _ HAL.out).mono ?_
  rintro e w1 ⟨rfl,hb1⟩
  have D1:=HBX.out.keep hb1 (by simp)
  have hbl1:=HAL.out.trans (hb1.mono (by simp))
  have HD1:=qh D1
  have HBL1:=qh hbl1
  clear D1 hb1 hbl1
  go_wp2_with fail
  refine (HCU.out _ HBL1.out).mono ?_
  rintro e w2 ⟨⟨g,gc,rfl,hc1,hc2,hgl,hcell⟩,hb2⟩
  have D2:=HD1.out.keep hb2 HD1.out.lt
  obtain ⟨b0,b1,b2,b3,b4,b5,b6,b7,b8,b9,b10,b11⟩:=row12 D2.at_
  have zs:=D2.lt
  have hcI:=hcell I hIl
  rw [HP.out] at hcI
  have hcJ:=hcell (I+J) hIJ
  rw [HQ.out] at hcJ
  have HBL2:=qh (HBL1.out.trans (hb2.mono HBL1.out.size))
  clear D2 hb2 hcell
  go_wp2_with fail
  go_region
  go_wp2_with fail
  go_returns
  exact ⟨by rw [<-HR.out];rfl,HBL2.out.drew⟩
theorem Xc {w:World} {base:Nat} {T:TypeId} {sz:Nat} {u:Value} {n:Nat} {cells:List Value} (h:w.ownsRow base T sz u n cells) (k:Nat):(w.drewN k).ownsRow base T sz u n cells:=
 h.kept (row:=none) ⟨rfl,rfl,rfl,Nat.le_refl _,fun _ _ _=>rfl⟩ (by cases u.ownBlock<;>simp)
theorem Z0 (w:World) (n:Nat) (o:Obj):((w.drewN n).alloc o).heap.size=w.heap.size+1:=World.size_alloc (w.drewN n) o
def walkP:V->List UInt8->List St
 |_, [] => []
 | v,b::r=>if 0<v.ls.length then ⟨true,(b.toNat % v.ls.length:Nat), .empty⟩::walkP (v.ls.getD (b.toNat % v.ls.length) V.none) r
   else if 0<v.os.length then ⟨false,0,(v.os.getD (b.toNat % v.os.length) (.empty,V.none)).1⟩::walkP (v.os.getD (b.toNat % v.os.length) (.empty,V.none)).2 r
   else walkP v r
def WalkPost (w:World) (l:List St) (e:Ending) (w':World):Prop:=
 (∃a n c,e= .returned (.slice a n c)/\IsSteps (only (fun b=>w.heap.size<=b) w') w'.heap.size l a n c)/\Below w.heap.size w w'
structure WKH (w wr:World) (v x:V) (c:VC) (bs:List UInt8) (j:Nat) (u:Value) (xs:List St):Prop where
 rd:xs++walkP x ((bs.take 8).drop j)=walkP v (bs.take 8)
 few:xs.length<=j
 bnd:∀s ∈ xs,s.Bnd
 val:IsVal w w.heap.size x c
 box:BC wr w.heap.size (vcells c)
 own:wr.ownsRow (w.heap.size+1) 77 3 u xs.length (xs.flatMap scells)
 below:Below w.heap.size w wr
theorem zd5 (a b:Nat):Int.tmod (a:Int) (b:Int)=((a % b:Nat):Int):=by
 rw [Int.tmod_eq_emod_of_nonneg (by omega)];omega
theorem ze3 (w:World) (n:Nat) (s:St) (t:TypeId):∀j u,(scells s)[j]? =some u->((w.drewN n).alloc (.cells #[.bool s.list, .int .i64 s.i, .string s.key] t)).cell? ((⟨w.heap.size,0,none⟩:Addr).add j)=some u:=
 World.news_of_block (t:=t) (fr:=(0,0)) (heap_alloc_new (w.drewN n) (.cells #[.bool s.list, .int .i64 s.i, .string s.key] t))
theorem WKH.round {w wr w7:World} {v x x':V} {c c':VC} {bs:List UInt8} {j:Nat} {u u':Value} {xs:List St} {s:St} (h:WKH w wr v x c bs j u xs) (hrd:(xs++ [s])++walkP x' ((bs.take 8).drop (j+1))=walkP v (bs.take 8)) (hs:s.Bnd) (hv:IsVal w w.heap.size x' c') (hb7:Below (w.heap.size+1) wr w7) (hown:w7.ownsRow (w.heap.size+1) 77 3 u' (xs.length+1) (xs.flatMap scells++scells s)):
 WKH w (((((w7.setCell ⟨w.heap.size,0,none⟩ (.int .u8 c'.k)).setCell ⟨w.heap.size,1,none⟩ (.int .i64 c'.n)).setCell ⟨w.heap.size,2,none⟩ (.string c'.s)).setCell ⟨w.heap.size,3,none⟩ (.slice c'.la c'.ll c'.lc)).setCell ⟨w.heap.size,4,none⟩ (.slice c'.oa c'.ol c'.oc)) v x' c' bs (j+1) u' (xs++ [s]):=by
 have hz:=h.box.lt
 have hst:=Zi w7 w.heap.size 0 c'
 have hbx:=h.box.keep hb7 (by omega)
 refine ⟨hrd,by rw [List.length_append,List.length_singleton];have:=h.few;omega,fun s' h'=> ?_,hv,Z5 hbx c', ?_,Below.set5' (h.below.trans (hb7.mono (by omega))) (Nat.le_refl _) _ _ _ _ _⟩
 .rcases List.mem_append.1 h' with h1|h1
  .exact h.bnd s' h1
  .rw [List.mem_singleton.1 h1];exact hs
 .rw [Y4,List.length_append,List.length_singleton]
  refine hown.kept (row:=some w.heap.size) ⟨hst.os,hst.tape,hst.output,hst.size,fun k hk hne=>hst.block k hk (fun e=>hne (by rw [e]))⟩ ?_
  right;intro e;have:=(hown.lt _ e).1;omega
set_option maxRecDepth 100000 in
theorem zi0 (w:World) (vk vn:Int) (vs:ByteArray) (la:Option Addr) (ll lc:Nat) (oa:Option Addr) (ol oc:Nat) (v:V) (hv:IsVal w w.heap.size v ⟨vk,vn,vs,la,ll,lc,oa,ol,oc⟩) (bs:List UInt8) (a:Option Addr) (n c:Nat) (hB:IsB w w.heap.size a n c bs):
 uP 37 #[.agg (uU vk vn vs la ll lc oa ol oc), .slice a n c] w (WalkPost w (walkP v (bs.take 8))):=by
 delta uU uP
 obtain ⟨i0,hi0,hz0,hz1,hz2⟩:=info_parts zaa
 have hmax:=hB.max;have hcap:=hB.cap
 have HLN:=qh hB.len
 have HBS:=qh hB
 have HV:=qh hv
 have HST:=qh (BC.start w (uU vk vn vs la ll lc oa ol oc) 36)
 obtain ⟨R,hR⟩:∃R,WalkPost w (walkP v (bs.take 8))=R:=⟨_,rfl⟩
 rw [hR]
 have HR:=qh hR
 clear hB hv hR
 go_enter Tryz.func37,Tryz.ntmps37
 go_wp2_with fail
 go_loopw [5,6,7,8] (fun u i _ _ wr=>∃(j:Nat) (x:V) (cx:VC) (ua:Option Addr) (m uc:Nat) (xs:List St),j<=n/\j<=8/\i= .int .i64 j/\u= .slice ua m uc/\WKH w wr v x cx bs j (.slice ua m uc) xs) (fun _ i _ _ _=>8 - (intOf i).toNat)
 case atStart=>exact ⟨0,v,_,none,0,0, [],Nat.zero_le _,Nat.zero_le _,rfl,rfl,⟨rfl,Nat.le_refl _,fun s h=>(by cases h),HV.out,HST.out,⟨rfl, .inl ⟨rfl,rfl⟩⟩,(Below.refl _ _).alloc (Nat.le_refl _) _⟩⟩
 case round=>
  obtain ⟨j,x,cx,ua,m,uc,xs,hj,hj8,rfl,rfl,L⟩:=hrel
  obtain ⟨v0,v1,v2,v3,v4⟩:=row5 L.box.at_
  have e0:=L.box.fr 0;have e1:=L.box.fr 1;have e2:=L.box.fr 2;have e3:=L.box.fr 3;have e4:=L.box.fr 4
  have zs:=L.box.lt
  have hfx:=L.few
  have HL:=qh L
  by_cases hcont:j<n/\j<8
  .obtain ⟨hlt,hlt8⟩:=hcont
   obtain ⟨b,q,h5,h6⟩:=HBS.out.at_
   obtain ⟨rfl,hbB⟩:=h5 (by omega)
   have hjl:j<bs.length:=by rw [<-HLN.out];exact hlt
   have hcj:=Za L.below (h6 j hjl) hbB
   obtain ⟨y,hy⟩:∃y,bs[j].toNat=y:=⟨_,rfl⟩
   rw [hy] at hcj
   have hy2:y<256:=by rw [<-hy];exact UInt8.toNat_lt _
   have hbw:b<wr.heap.size:=World.block_lt_of_cell? wr _ hcj
   have hdr:(bs.take 8).drop j=bs[j] ::(bs.take 8).drop (j+1):=by
    have h8:j<(bs.take 8).length:=by rw [List.length_take];omega
    rw [List.drop_eq_getElem_cons h8,List.getElem_take]
   have hrd:=L.rd
   rw [hdr] at hrd
   obtain ⟨kx,nx,sx,lx,ox,rfl⟩:=x.eta
   obtain ⟨ck,cn,cs,cla,cll,clc,coa,col,coc⟩:=cx
   obtain ⟨f1,f2,f3,hbd,hvl,hvo⟩:=L.val.lists
   dsimp only at f1 f2 f3 hvl hvo v0 v1 v2 v3 v4
   subst f1 f2 f3
   have k1:=hvl.few;have k2:=hvl.max;have k3:=hvo.few;have k4:=hvo.max
   have hown:=L.own
   have hw1:IntKind.i64.wrap (y:Int)=y:=IntWalk.i64_in _ (by omega)
   have hrlt:∀g,(Value.slice ua m uc).ownBlock=some g->w.heap.size+1<=g:=fun g hg=>(L.own.lt g hg).1
   have hzb:=L.below.size
   have HBL:=qh L.below
   by_cases hll:0<cll
   .have hkl:y % cll<cll:=Nat.mod_lt _ hll
    obtain ⟨k,hk⟩:∃k,y % cll=k:=⟨_,rfl⟩
    rw [hk] at hkl
    have htm:Int.tmod (y:Int) (cll:Int)=(k:Int):=by rw [zd5,hk]
    have hne:((cll:Int)==0)=false:=by simp;omega
    have hw2:IntKind.i64.wrap (k:Int)=k:=IntWalk.i64_in _ (by omega)
    obtain ⟨b2,q2,f,hp,rfl,hb2,hvf,hIf⟩:=hvl.get hkl
    have HVF:=qh hvf
    have HIF:=qh hIf
    have hb2w:b2<wr.heap.size:=by omega
    have hnx:(xs++ [⟨true,(k:Int), .empty⟩])++walkP lx[k] ((bs.take 8).drop (j+1))=walkP v (bs.take 8):=by
     rw [<-hrd,walkP,if_pos (show 0<(V.mk ck cn cs lx ox).ls.length by show 0<lx.length;rw [<-hvl.len];exact hll)]
     have e:(V.mk ck cn cs lx ox).ls=lx:=rfl
     rw [e, <-hvl.len,hy,hk,List.append_assoc]
     simp [List.getD_eq_getElem?_getD,hp]
    have HNX:=qh hnx
    clear L hrd hdr hy hnx hvf hIf h5 h6 hvl hvo hbd
    go_wp2_with fail
    go_quiet (fail)
    go_wp2_with (at_builtin;refine wpList_append_lies _ rfl (.tmp 32) (.tmp 35) 27 (by rfl) (w.heap.size+1) 77 i0 _ 3 32 Tryz.underlying27 hi0 hz0 hz1 hz2 rfl (by omega) (.slice ua m uc) xs.length (xs.flatMap scells) (by rfl) ((Xc hown _).alloc _) ⟨wr.heap.size,0,none⟩ 1 1 (scells (⟨true,(k:Int), .empty⟩:St)) (by rfl) (by rfl) (ze3 wr _ (⟨true,(k:Int), .empty⟩:St) _) (by simp [scells,Value.oneCell']) (by omega) (by unfold maxLen;omega) (by omega) (by first|omega|(rw [Z0];omega)) (wr.heap.size+1) (by first|exact Z0 _ _ _|simp) ?_;intro g cap w7 hown7 hgrow7 hat7 hlt7;have hb7:Below (w.heap.size+1) wr w7:=(((Xs wr _).alloc (Nat.le_refl _) _).mono (Nat.succ_le_of_lt zs)).trans (Zj hgrow7 hrlt (by first|omega|(rw [Z0];omega)));have V7:=HL.out.box.keep hb7 (by omega);obtain ⟨p0,p1,p2,p3,p4⟩:=row5 V7.at_;have q0:=V7.fr 0;have q1:=V7.fr 1;have q2':=V7.fr 2;have q3:=V7.fr 3;have q4:=V7.fr 4;have zs7:=V7.lt;have F7:=(HVF.out.keep HBL.out hb2).keep hb7 (by omega);have c0:=F7.c0;have c1:=F7.c1;have c2:=F7.c2;have c3:=F7.c3;have c4:=F7.c4;have hb27:b2<w7.heap.size:=World.block_lt_of_cell? w7 _ c0)
    go_roundw
    case rel=>exact ⟨j+1,lx[k],f,some ⟨g,0,none⟩,xs.length+1,cap,xs++ [⟨true,(k:Int), .empty⟩],by omega,by omega,by go_num,rfl,HL.out.round HNX.out ⟨by show _<=(k:Int);omega,by show (k:Int)<=_;omega,by show ByteArray.empty.size<=_;decide⟩ HIF.out hb7 hown7⟩
    case measure=>simp [intOf];omega
   .have hl0:cll=0:=by omega
    by_cases hol:0<col
    .have hkl:y % col<col:=Nat.mod_lt _ hol
     obtain ⟨k,hk⟩:∃k,y % col=k:=⟨_,rfl⟩
     rw [hk] at hkl
     have htm:Int.tmod (y:Int) (col:Int)=(k:Int):=by rw [zd5,hk]
     have hne:((col:Int)==0)=false:=by simp;omega
     have hw2:IntKind.i64.wrap (k:Int)=k:=IntWalk.i64_in _ (by omega)
     obtain ⟨b2,q2,f,hp,rfl,hb2,hky,hks,hvf,hIf⟩:=hvo.get hkl
     have HVF:=qh hvf
     have HIF:=qh hIf
     have hb2w:b2<wr.heap.size:=by omega
     obtain ⟨sk,hsk⟩:∃sk,ox[k].1=sk:=⟨_,rfl⟩
     rw [hsk] at hky hks
     have hkyw:=Za HBL.out hky hb2
     have hlx:lx.length=0:=by rw [<-hvl.len];exact hl0
     have hnx:(xs++ [⟨false,0,sk⟩])++walkP ox[k].2 ((bs.take 8).drop (j+1))=walkP v (bs.take 8):=by
      have e:(V.mk ck cn cs lx ox).ls=lx:=rfl
      have e2:(V.mk ck cn cs lx ox).os=ox:=rfl
      rw [<-hrd,walkP,e,e2,if_neg (by omega),if_pos (by rw [<-hvo.len];exact hol), <-hvo.len,hy,hk,List.append_assoc, <-hsk]
      simp [List.getD_eq_getElem?_getD,hp]
     have HNX:=qh hnx
     subst hl0
     clear L hrd hdr hy hnx hvf hIf h5 h6 hvl hvo hbd hky hsk hlx
     go_wp2_with fail
     go_quiet (fail)
     go_wp2_with (at_builtin;refine wpList_append_lies _ rfl (.tmp 55) (.tmp 63) 27 (by rfl) (w.heap.size+1) 77 i0 _ 3 32 Tryz.underlying27 hi0 hz0 hz1 hz2 rfl (by omega) (.slice ua m uc) xs.length (xs.flatMap scells) (by rfl) ((Xc hown _).alloc _) ⟨wr.heap.size,0,none⟩ 1 1 (scells (⟨false,0,sk⟩:St)) (by rfl) (by rfl) (ze3 wr _ (⟨false,0,sk⟩:St) _) (by simp [scells,Value.oneCell']) (by omega) (by unfold maxLen;omega) (by omega) (by first|omega|(rw [Z0];omega)) (wr.heap.size+1) (by first|exact Z0 _ _ _|simp) ?_;intro g cap w7 hown7 hgrow7 hat7 hlt7;have hb7:Below (w.heap.size+1) wr w7:=(((Xs wr _).alloc (Nat.le_refl _) _).mono (Nat.succ_le_of_lt zs)).trans (Zj hgrow7 hrlt (by first|omega|(rw [Z0];omega)));have V7:=HL.out.box.keep hb7 (by omega);obtain ⟨p0,p1,p2,p3,p4⟩:=row5 V7.at_;have q0:=V7.fr 0;have q1:=V7.fr 1;have q2':=V7.fr 2;have q3:=V7.fr 3;have q4:=V7.fr 4;have zs7:=V7.lt;have F7:=(HVF.out.keep HBL.out hb2).keep hb7 (by omega);have c0:=F7.c0;have c1:=F7.c1;have c2:=F7.c2;have c3:=F7.c3;have c4:=F7.c4;have hb27:b2<w7.heap.size:=World.block_lt_of_cell? w7 _ c0)
     go_roundw
     case rel=>exact ⟨j+1,ox[k].2,f,some ⟨g,0,none⟩,xs.length+1,cap,xs++ [⟨false,0,sk⟩],by omega,by omega,by go_num,rfl,HL.out.round HNX.out ⟨by show _<=(0:Int);omega,by show (0:Int)<=_;omega,hks⟩ HIF.out hb7 hown7⟩
     case measure=>simp [intOf];omega
    .have ho0:col=0:=by omega
     have hnx:xs++walkP (.mk ck cn cs lx ox) ((bs.take 8).drop (j+1))=walkP v (bs.take 8):=by
      have e:(V.mk ck cn cs lx ox).ls=lx:=rfl
      have e2:(V.mk ck cn cs lx ox).os=ox:=rfl
      rw [<-hrd]
      conv=>rhs;rw [walkP,e,e2,if_neg (by rw [<-hvl.len];omega),if_neg (by rw [<-hvo.len];omega)]
     have HNX:=qh hnx
     subst hl0 ho0
     clear L hrd hdr hy hnx h5 h6 hvl hvo hbd
     go_wp2_with fail
     go_roundw
     case rel=>exact ⟨j+1,_,_,ua,m,uc,xs,by omega,by omega,by go_num,rfl,⟨HNX.out,by omega,HL.out.bnd,HL.out.val,HL.out.box,HL.out.own,HL.out.below⟩⟩
     case measure=>simp [intOf];omega
  .have hdr:(bs.take 8).drop j= [] :=by
    apply List.drop_eq_nil_of_le
    rw [List.length_take, <-HLN.out];omega
   have hrd:=L.rd
   rw [hdr,walkP,List.append_nil] at hrd
   have HRD:=qh hrd
   have hex:¬j<n∨(j<n/\¬j<8):=by omega
   clear L hrd hdr hcont
   rcases hex with hq|⟨hq,hq8⟩
   all_goals
    go_wp2_with fail
    rw [<-HR.out, <-HRD.out]
    obtain ⟨a9,n9,c9,hv9,hs9⟩:=zba (S:=fun b=>w.heap.size<=b) HL.out.own (fun k hk=>by omega) HL.out.bnd (by omega)
    exact ⟨⟨a9,n9,c9,by rw [hv9];rfl,hs9⟩,HL.out.below⟩
abbrev uA (c:AC):Array Value:= #[.slice c.pa c.pl c.pc, .int .u8 c.k, .int .i64 c.i, .int .i64 c.j, .int .i64 c.n, .string c.s, .slice c.va c.vl c.vc]
structure AB (w W:World) (c:CC) (a:AC) (d:CC:=czero):Prop where
 c:BC W w.heap.size (ccells c)
 a:BC W (w.heap.size+1) (acells a)
 r:BC W (w.heap.size+1+1) (ccells d)
 below:Below w.heap.size w W
theorem AB.startd (w:World) (c:CC) (a:AC) (d:CC) (t1 t2 t3:TypeId):AB w (((w.alloc (.cells #[.int .u8 c.k, .slice c.pa c.pl c.pc, .string c.key, .int .i64 c.i, .int .i64 c.j, .int .i64 c.n, .int .u8 c.v.k, .int .i64 c.v.n, .string c.v.s, .slice c.v.la c.v.ll c.v.lc, .slice c.v.oa c.v.ol c.v.oc, .string c.s] t1)).alloc (.cells #[.slice a.pa a.pl a.pc, .int .u8 a.k, .int .i64 a.i, .int .i64 a.j, .int .i64 a.n, .string a.s, .slice a.va a.vl a.vc] t2)).alloc (.cells #[.int .u8 d.k, .slice d.pa d.pl d.pc, .string d.key, .int .i64 d.i, .int .i64 d.j, .int .i64 d.n, .int .u8 d.v.k, .int .i64 d.v.n, .string d.v.s, .slice d.v.la d.v.ll d.v.lc, .slice d.v.oa d.v.ol d.v.oc, .string d.s] t3)) c a d:=by
 obtain ⟨w1,hw1⟩:∃w1,w.alloc (.cells (uC c) t1)=w1:=⟨_,rfl⟩
 have s1:w1.heap.size=w.heap.size+1:=by rw [<-hw1,World.size_alloc]
 have b1:uB w w1:=by rw [<-hw1];exact (Below.refl _ _).alloc (Nat.le_refl _) _
 have c1:BC w1 w.heap.size (ccells c):=by rw [<-hw1];exact BC.start w (uC c) t1
 rw [hw1]
 obtain ⟨w2,hw2⟩:∃w2,w1.alloc (.cells (uA a) t2)=w2:=⟨_,rfl⟩
 have s2:w2.heap.size=w.heap.size+1+1:=by rw [<-hw2,World.size_alloc,s1]
 have b2:uB w1 w2:=by rw [<-hw2];exact (Below.refl _ _).alloc (Nat.le_refl _) _
 have c2:=BC.start w1 (uA a) t2
 rw [hw2,s1] at c2
 rw [hw2]
 have b3:uB w2 (w2.alloc (.cells (uC d) t3)):=(Below.refl _ _).alloc (Nat.le_refl _) _
 have c3:=BC.start w2 (uC d) t3
 rw [s2] at c3
 exact ⟨(c1.keep b2 (by omega)).keep b3 (by omega),c2.keep b3 (by omega),c3,(b1.trans (b2.mono (by omega))).trans (b3.mono (by omega))⟩
theorem AB.start (w:World) (c:CC) (a:AC) (t1 t2 t3:TypeId):AB w (((w.alloc (.cells #[.int .u8 c.k, .slice c.pa c.pl c.pc, .string c.key, .int .i64 c.i, .int .i64 c.j, .int .i64 c.n, .int .u8 c.v.k, .int .i64 c.v.n, .string c.v.s, .slice c.v.la c.v.ll c.v.lc, .slice c.v.oa c.v.ol c.v.oc, .string c.s] t1)).alloc (.cells #[.slice a.pa a.pl a.pc, .int .u8 a.k, .int .i64 a.i, .int .i64 a.j, .int .i64 a.n, .string a.s, .slice a.va a.vl a.vc] t2)).alloc (.cells #[.int .u8 0, .slice none 0 0, .string { data:= #[] }, .int .i64 0, .int .i64 0, .int .i64 0, .int .u8 0, .int .i64 0, .string { data:= #[] }, .slice none 0 0, .slice none 0 0, .string { data:= #[] }] t3)) c a:=
 AB.startd w c a czero t1 t2 t3
theorem AB.next {w W W':World} {c d:CC} {a:AC} {B:Nat} (h:AB w W c a d) (hb:Below B W W') (hB:w.heap.size+3<=B):AB w W' c a d:=
 ⟨h.c.keep hb (by omega),h.a.keep hb (by omega),h.r.keep hb (by omega),h.below.trans (hb.mono (by omega))⟩
theorem AB.facts {w W:World} {c d:CC} {a:AC} (B:AB w W c a d):W.cell? ⟨w.heap.size,0,none⟩=some (.int .u8 c.k)/\W.cell? ⟨w.heap.size,1,none⟩=some (.slice c.pa c.pl c.pc)/\W.cell? ⟨w.heap.size,2,none⟩=some (.string c.key)/\W.cell? ⟨w.heap.size,3,none⟩=some (.int .i64 c.i)/\W.cell? ⟨w.heap.size,4,none⟩=some (.int .i64 c.j)/\W.cell? ⟨w.heap.size,5,none⟩=some (.int .i64 c.n)/\W.cell? ⟨w.heap.size,6,none⟩=some (.int .u8 c.v.k)/\W.cell? ⟨w.heap.size,7,none⟩=some (.int .i64 c.v.n)/\W.cell? ⟨w.heap.size,8,none⟩=some (.string c.v.s)/\W.cell? ⟨w.heap.size,9,none⟩=some (.slice c.v.la c.v.ll c.v.lc)/\W.cell? ⟨w.heap.size,10,none⟩=some (.slice c.v.oa c.v.ol c.v.oc)/\W.cell? ⟨w.heap.size,11,none⟩=some (.string c.s)/\W.cell? ⟨w.heap.size+1,0,none⟩=some (.slice a.pa a.pl a.pc)/\W.cell? ⟨w.heap.size+1,1,none⟩=some (.int .u8 a.k)/\W.cell? ⟨w.heap.size+1,2,none⟩=some (.int .i64 a.i)/\W.cell? ⟨w.heap.size+1,3,none⟩=some (.int .i64 a.j)/\W.cell? ⟨w.heap.size+1,4,none⟩=some (.int .i64 a.n)/\W.cell? ⟨w.heap.size+1,5,none⟩=some (.string a.s)/\W.cell? ⟨w.heap.size+1,6,none⟩=some (.slice a.va a.vl a.vc)/\W.cell? ⟨w.heap.size+1+1,0,none⟩=some (.int .u8 d.k)/\W.cell? ⟨w.heap.size+1+1,1,none⟩=some (.slice d.pa d.pl d.pc)/\W.cell? ⟨w.heap.size+1+1,2,none⟩=some (.string d.key)/\W.cell? ⟨w.heap.size+1+1,3,none⟩=some (.int .i64 d.i)/\W.cell? ⟨w.heap.size+1+1,4,none⟩=some (.int .i64 d.j)/\W.cell? ⟨w.heap.size+1+1,5,none⟩=some (.int .i64 d.n)/\W.cell? ⟨w.heap.size+1+1,6,none⟩=some (.int .u8 d.v.k)/\W.cell? ⟨w.heap.size+1+1,7,none⟩=some (.int .i64 d.v.n)/\W.cell? ⟨w.heap.size+1+1,8,none⟩=some (.string d.v.s)/\W.cell? ⟨w.heap.size+1+1,9,none⟩=some (.slice d.v.la d.v.ll d.v.lc)/\W.cell? ⟨w.heap.size+1+1,10,none⟩=some (.slice d.v.oa d.v.ol d.v.oc)/\W.cell? ⟨w.heap.size+1+1,11,none⟩=some (.string d.s)/\W.frozen? ⟨w.heap.size,0,none⟩=false/\W.frozen? ⟨w.heap.size,1,none⟩=false/\W.frozen? ⟨w.heap.size,2,none⟩=false/\W.frozen? ⟨w.heap.size,3,none⟩=false/\W.frozen? ⟨w.heap.size,4,none⟩=false/\W.frozen? ⟨w.heap.size,5,none⟩=false/\W.frozen? ⟨w.heap.size,6,none⟩=false/\W.frozen? ⟨w.heap.size,7,none⟩=false/\W.frozen? ⟨w.heap.size,8,none⟩=false/\W.frozen? ⟨w.heap.size,9,none⟩=false/\W.frozen? ⟨w.heap.size,10,none⟩=false/\W.frozen? ⟨w.heap.size,11,none⟩=false/\W.frozen? ⟨w.heap.size+1+1,0,none⟩=false/\W.frozen? ⟨w.heap.size+1+1,1,none⟩=false/\W.frozen? ⟨w.heap.size+1+1,2,none⟩=false/\W.frozen? ⟨w.heap.size+1+1,3,none⟩=false/\W.frozen? ⟨w.heap.size+1+1,4,none⟩=false/\W.frozen? ⟨w.heap.size+1+1,5,none⟩=false/\W.frozen? ⟨w.heap.size+1+1,6,none⟩=false/\W.frozen? ⟨w.heap.size+1+1,7,none⟩=false/\W.frozen? ⟨w.heap.size+1+1,8,none⟩=false/\W.frozen? ⟨w.heap.size+1+1,9,none⟩=false/\W.frozen? ⟨w.heap.size+1+1,10,none⟩=false/\W.frozen? ⟨w.heap.size+1+1,11,none⟩=false/\w.heap.size<W.heap.size/\w.heap.size+1<W.heap.size/\w.heap.size+1+1<W.heap.size:=
 ⟨B.c.at_ 0 _ rfl,B.c.at_ 1 _ rfl,B.c.at_ 2 _ rfl,B.c.at_ 3 _ rfl,B.c.at_ 4 _ rfl,B.c.at_ 5 _ rfl,B.c.at_ 6 _ rfl,B.c.at_ 7 _ rfl,B.c.at_ 8 _ rfl,B.c.at_ 9 _ rfl,B.c.at_ 10 _ rfl,B.c.at_ 11 _ rfl,B.a.at_ 0 _ rfl,B.a.at_ 1 _ rfl,B.a.at_ 2 _ rfl,B.a.at_ 3 _ rfl,B.a.at_ 4 _ rfl,B.a.at_ 5 _ rfl,B.a.at_ 6 _ rfl,B.r.at_ 0 _ rfl,B.r.at_ 1 _ rfl,B.r.at_ 2 _ rfl,B.r.at_ 3 _ rfl,B.r.at_ 4 _ rfl,B.r.at_ 5 _ rfl,B.r.at_ 6 _ rfl,B.r.at_ 7 _ rfl,B.r.at_ 8 _ rfl,B.r.at_ 9 _ rfl,B.r.at_ 10 _ rfl,B.r.at_ 11 _ rfl,B.c.fr 0,B.c.fr 1,B.c.fr 2,B.c.fr 3,B.c.fr 4,B.c.fr 5,B.c.fr 6,B.c.fr 7,B.c.fr 8,B.c.fr 9,B.c.fr 10,B.c.fr 11,B.r.fr 0,B.r.fr 1,B.r.fr 2,B.r.fr 3,B.r.fr 4,B.r.fr 5,B.r.fr 6,B.r.fr 7,B.r.fr 8,B.r.fr 9,B.r.fr 10,B.r.fr 11,B.c.lt,B.a.lt,B.r.lt⟩
theorem Q4 {tmps:Array Value} {W:World} {b:Nat} {d:CC} (ht:tmps[6]? =some (.pointer (some ⟨b,0,none⟩))) (h:BC W b (ccells d)):
 (results Tryz.f40 tmps).run Tryz.prog W= .ok (.agg #[.int .u8 d.k, .slice d.pa d.pl d.pc, .string d.key, .int .i64 d.i, .int .i64 d.j, .int .i64 d.n, .int .u8 d.v.k, .int .i64 d.v.n, .string d.v.s, .slice d.v.la d.v.ll d.v.lc, .slice d.v.oa d.v.ol d.v.oc, .string d.s]) W:=by
 obtain ⟨r0,r1,r2,r3,r4,r5,r6,r7,r8,r9,r10,r11⟩:=row12 h.at_
 simp [results,Tryz.results40,go_sem,ht,r0,r1,r2,r3,r4,r5,r6,r7,r8,r9,r10,r11]
def listK (n:Nat) (k:Int):Int:=if n=0 then 4 else 4+k % 4
def listA (n:Nat) (a:AC) (c:CC) (cv:VC):CC:=
 { c with k:=listK n a.k,i:=if listK n a.k=4 then max a.i 0 % ((n:Int)+1) else max a.i 0 % n,j:=if listK n a.k=7 then max a.j 0 % n else c.j,v:=cv }
noncomputable def listV (n:Nat) (k:Int) (l:List Tk):V:=if listK n k=4∨listK n k=6 then (oneP 6 (l.take 60)).1 else V.none
def ListAPost (w:World) (n:Nat) (a:AC) (c:CC) (l:List Tk) (e:Ending) (w':World):Prop:=
 (∃cv:VC,e= .returned (.agg #[.int .u8 (listA n a c cv).k, .slice (listA n a c cv).pa (listA n a c cv).pl (listA n a c cv).pc, .string (listA n a c cv).key, .int .i64 (listA n a c cv).i, .int .i64 (listA n a c cv).j, .int .i64 (listA n a c cv).n, .int .u8 (listA n a c cv).v.k, .int .i64 (listA n a c cv).v.n, .string (listA n a c cv).v.s, .slice (listA n a c cv).v.la (listA n a c cv).v.ll (listA n a c cv).v.lc, .slice (listA n a c cv).v.oa (listA n a c cv).v.ol (listA n a c cv).v.oc, .string (listA n a c cv).s])/\IsVal (only (fun b=>w.heap.size<=b) w') w'.heap.size (listV n a.k l) cv)/\Below w.heap.size w w'
set_option maxRecDepth 100000 in
theorem zg5 (w:World) (c:CC) (hcv:c.v=vzero) (a:AC) (ha:a.Bnd) (l:List Tk) (hv:IsToks w w.heap.size l a.va a.vl a.vc):
 uP 40 #[.agg (uC c), .agg (uA a), .int .i64 0] w (ListAPost w 0 a c l):=by
 delta uC uA uP
 have HBD:Hid (∀W,uB w W->uP 13 #[.slice a.va a.vl a.vc] W fun e w'=>(∃cv:VC,e= .returned (.agg #[.int .u8 cv.k, .int .i64 cv.n, .string cv.s, .slice cv.la cv.ll cv.lc, .slice cv.oa cv.ol cv.oc])/\IsVal (only (fun b=>W.heap.size<=b) w') w'.heap.size (oneP 6 (l.take 60)).1 cv)/\uB W w'):=fun W hW=>Yf W l _ _ _ (hv.later_ hW)
 have HB:=qh (AB.start w { c with k:=4,i:=0 } a 39 25 39)
 have hK:listK 0 a.k=4:=by simp [listK]
 have hA:listA 0 a c=fun cv=> { c with k:=4,i:=0,v:=cv } :=by funext cv;rw [listA,hK];simp
 have hV:listV 0 a.k l=(oneP 6 (l.take 60)).1:=by rw [listV,hK];simp
 obtain ⟨PP,hPP⟩:∃PP,ListAPost w 0 a c l=PP:=⟨_,rfl⟩
 have HPP:=qh hPP
 have HA:=qh hA;have HV:=qh hV;have HCV:=qh hcv
 rw [hPP]
 have i0:=ha.i0;have i1:=ha.i1;have j0:=ha.j0;have j1:=ha.j1;have k0:=ha.k0
 clear hPP hA hV hcv hK ha hv
 go_enter Tryz.func40,Tryz.ntmps40
 generalize hQ0:bodyPost _ _ _=Q0
 have HQ:=qh hQ0
 clear hQ0
 go_wp2_with fail
 refine (HBD.out _ HB.out.below).mono ?_
 rintro e w1 ⟨⟨cv,rfl,hv1⟩,hb1⟩
 have B:=HB.out.next hb1 (by simp)
 obtain ⟨b0,b1,b2,b3,b4,b5,b6,b7,b8,b9,b10,b11,a0,a1,a2,a3,a4,a5,a6,r0,r1,r2,r3,r4,r5,r6,r7,r8,r9,r10,r11,bf0,bf1,bf2,bf3,bf4,bf5,bf6,bf7,bf8,bf9,bf10,bf11,rf0,rf1,rf2,rf3,rf4,rf5,rf6,rf7,rf8,rf9,rf10,rf11,z0,z1,z2⟩:=B.facts
 have HBW:=qh B
 have hz1:w.heap.size+1+1+1<=w1.heap.size:=by omega
 have hv2:=Zm (Zm hv1 (Zi w1 w.heap.size 6 cv) (by simp;try omega)) (Xz _ (w.heap.size+1+1) { c with k:=4,i:=0,v:=cv }) (by simp)
 have h2:=Zp (((((HBW.out.r.far (o:=6) (x:= .int .u8 cv.k) (show w.heap.size+1+1≠w.heap.size by omega)).far (o:=7) (x:= .int .i64 cv.n) (show w.heap.size+1+1≠w.heap.size by omega)).far (o:=8) (x:= .string cv.s) (show w.heap.size+1+1≠w.heap.size by omega)).far (o:=9) (x:= .slice cv.la cv.ll cv.lc) (show w.heap.size+1+1≠w.heap.size by omega)).far (o:=10) (x:= .slice cv.oa cv.ol cv.oc) (show w.heap.size+1+1≠w.heap.size by omega)) { c with k:=4,i:=0,v:=cv }
 have h3:=Below.setC (((((HBW.out.below.set_ (o:=6) (x:= .int .u8 cv.k) (Nat.le_refl _)).set_ (o:=7) (x:= .int .i64 cv.n) (Nat.le_refl _)).set_ (o:=8) (x:= .string cv.s) (Nat.le_refl _)).set_ (o:=9) (x:= .slice cv.la cv.ll cv.lc) (Nat.le_refl _)).set_ (o:=10) (x:= .slice cv.oa cv.ol cv.oc) (Nat.le_refl _)) (show w.heap.size<=w.heap.size+1+1 by omega) { c with k:=4,i:=0,v:=cv }
 dsimp only at h2 h3 hv2
 have H2:=qh h2
 have H3:=qh h3
 have HV2:=qh hv2
 clear h2 h3 hv1 hv2 B hb1
 go_wp2_with fail
 rw [<-HQ.out]
 generalize hA:({ tmps:=_,defers:=_ } :Act)=A
 have h4:A.tmps[6]? =some (.pointer (some ⟨w.heap.size+1+1,0,none⟩)):=by rw [<-hA];rfl
 have h5:A.defers= [] :=by rw [<-hA]
 clear hA
 rw [<-HPP.out]
 refine ⟨h5,_,Q4 h4 H2.out, ?_⟩
 exact ⟨⟨cv,by rw [HA.out],by rw [HV.out];exact HV2.out.sub (Zd fun k hk _=>⟨by simp at hk;omega,rfl⟩)⟩,H3.out⟩
set_option maxRecDepth 100000 in
theorem zpd (w:World) (c:CC) (hcv:c.v=vzero) (a:AC) (ha:a.Bnd) (n:Nat) (hn:n<=1466015503701) (hn0:0<n) (hk:a.k % 4=0) (l:List Tk) (hv:IsToks w w.heap.size l a.va a.vl a.vc):
 uP 40 #[.agg (uC c), .agg (uA a), .int .i64 n] w (ListAPost w n a c l):=by
 delta uC uA uP
 have HBD:Hid (∀W,uB w W->uP 13 #[.slice a.va a.vl a.vc] W fun e w'=>(∃cv:VC,e= .returned (.agg #[.int .u8 cv.k, .int .i64 cv.n, .string cv.s, .slice cv.la cv.ll cv.lc, .slice cv.oa cv.ol cv.oc])/\IsVal (only (fun b=>W.heap.size<=b) w') w'.heap.size (oneP 6 (l.take 60)).1 cv)/\uB W w'):=fun W hW=>Yf W l _ _ _ (hv.later_ hW)
 have HB:=qh (AB.start w { c with k:=4,i:=max a.i 0 % ((n:Int)+1) } a 39 25 39)
 have hK:listK n a.k=4:=by rw [listK,if_neg (by omega)];omega
 have hA:listA n a c=fun cv=> { c with k:=4,i:=max a.i 0 % ((n:Int)+1),v:=cv } :=by funext cv;rw [listA,hK];simp
 have hV:listV n a.k l=(oneP 6 (l.take 60)).1:=by rw [listV,hK];simp
 obtain ⟨PP,hPP⟩:∃PP,ListAPost w n a c l=PP:=⟨_,rfl⟩
 have HPP:=qh hPP
 have HA:=qh hA;have HV:=qh hV;have HCV:=qh hcv
 rw [hPP]
 have i0:=ha.i0;have i1:=ha.i1;have j0:=ha.j0;have j1:=ha.j1;have k0:=ha.k0
 clear hPP hA hV hcv hK ha hv
 have hI0:0<=max a.i 0 % (n:Int):=Int.emod_nonneg _ (by omega)
 have hI1:max a.i 0 % (n:Int)<n:=Int.emod_lt_of_pos _ (by omega)
 have hJ0:0<=max a.j 0 % (n:Int):=Int.emod_nonneg _ (by omega)
 have hJ1:max a.j 0 % (n:Int)<n:=Int.emod_lt_of_pos _ (by omega)
 go_enter Tryz.func40,Tryz.ntmps40
 generalize hQ0:bodyPost _ _ _=Q0
 have HQ:=qh hQ0
 clear hQ0
 go_wp2_with fail
 refine (HBD.out _ HB.out.below).mono ?_
 rintro e w1 ⟨⟨cv,rfl,hv1⟩,hb1⟩
 have B:=HB.out.next hb1 (by simp)
 obtain ⟨b0,b1,b2,b3,b4,b5,b6,b7,b8,b9,b10,b11,a0,a1,a2,a3,a4,a5,a6,r0,r1,r2,r3,r4,r5,r6,r7,r8,r9,r10,r11,bf0,bf1,bf2,bf3,bf4,bf5,bf6,bf7,bf8,bf9,bf10,bf11,rf0,rf1,rf2,rf3,rf4,rf5,rf6,rf7,rf8,rf9,rf10,rf11,z0,z1,z2⟩:=B.facts
 have HBW:=qh B
 have hz1:w.heap.size+1+1+1<=w1.heap.size:=by omega
 have hv2:=Zm (Zm hv1 (Zi w1 w.heap.size 6 cv) (by simp;try omega)) (Xz _ (w.heap.size+1+1) { c with k:=4,i:=max a.i 0 % ((n:Int)+1),v:=cv }) (by simp)
 have h2:=Zp (((((HBW.out.r.far (o:=6) (x:= .int .u8 cv.k) (show w.heap.size+1+1≠w.heap.size by omega)).far (o:=7) (x:= .int .i64 cv.n) (show w.heap.size+1+1≠w.heap.size by omega)).far (o:=8) (x:= .string cv.s) (show w.heap.size+1+1≠w.heap.size by omega)).far (o:=9) (x:= .slice cv.la cv.ll cv.lc) (show w.heap.size+1+1≠w.heap.size by omega)).far (o:=10) (x:= .slice cv.oa cv.ol cv.oc) (show w.heap.size+1+1≠w.heap.size by omega)) { c with k:=4,i:=max a.i 0 % ((n:Int)+1),v:=cv }
 have h3:=Below.setC (((((HBW.out.below.set_ (o:=6) (x:= .int .u8 cv.k) (Nat.le_refl _)).set_ (o:=7) (x:= .int .i64 cv.n) (Nat.le_refl _)).set_ (o:=8) (x:= .string cv.s) (Nat.le_refl _)).set_ (o:=9) (x:= .slice cv.la cv.ll cv.lc) (Nat.le_refl _)).set_ (o:=10) (x:= .slice cv.oa cv.ol cv.oc) (Nat.le_refl _)) (show w.heap.size<=w.heap.size+1+1 by omega) { c with k:=4,i:=max a.i 0 % ((n:Int)+1),v:=cv }
 dsimp only at h2 h3 hv2
 have H2:=qh h2
 have H3:=qh h3
 have HV2:=qh hv2
 clear h2 h3 hv1 hv2 B hb1
 go_wp2_with fail
 rw [<-HQ.out]
 generalize hA:({ tmps:=_,defers:=_ } :Act)=A
 have h4:A.tmps[6]? =some (.pointer (some ⟨w.heap.size+1+1,0,none⟩)):=by rw [<-hA];rfl
 have h5:A.defers= [] :=by rw [<-hA]
 clear hA
 rw [<-HPP.out]
 refine ⟨h5,_,Q4 h4 H2.out, ?_⟩
 exact ⟨⟨cv,by rw [HA.out],by rw [HV.out];exact HV2.out.sub (Zd fun k hk _=>⟨by simp at hk;omega,rfl⟩)⟩,H3.out⟩
set_option maxRecDepth 100000 in
theorem zpc (w:World) (c:CC) (hcv:c.v=vzero) (a:AC) (ha:a.Bnd) (n:Nat) (hn:n<=1466015503701) (hn0:0<n) (hk:a.k % 4=1) (l:List Tk) (hv:IsToks w w.heap.size l a.va a.vl a.vc):
 uP 40 #[.agg (uC c), .agg (uA a), .int .i64 n] w (ListAPost w n a c l):=by
 delta uC uA uP
 have HBD:Hid (∀W,uB w W->uP 13 #[.slice a.va a.vl a.vc] W fun e w'=>(∃cv:VC,e= .returned (.agg #[.int .u8 cv.k, .int .i64 cv.n, .string cv.s, .slice cv.la cv.ll cv.lc, .slice cv.oa cv.ol cv.oc])/\IsVal (only (fun b=>W.heap.size<=b) w') w'.heap.size (oneP 6 (l.take 60)).1 cv)/\uB W w'):=fun W hW=>Yf W l _ _ _ (hv.later_ hW)
 have HB:=qh (AB.startd w { c with k:=5,i:=max a.i 0 % (n:Int) } a { c with k:=5,i:=max a.i 0 % (n:Int) } 39 25 39)
 have hK:listK n a.k=5:=by rw [listK,if_neg (by omega)];omega
 have hA:listA n a c=fun cv=> { c with k:=5,i:=max a.i 0 % (n:Int),v:=cv } :=by funext cv;rw [listA,hK];simp
 have hV:listV n a.k l=V.none:=by rw [listV,hK];simp
 obtain ⟨PP,hPP⟩:∃PP,ListAPost w n a c l=PP:=⟨_,rfl⟩
 have HPP:=qh hPP
 have HA:=qh hA;have HV:=qh hV;have HCV:=qh hcv
 rw [hPP]
 have i0:=ha.i0;have i1:=ha.i1;have j0:=ha.j0;have j1:=ha.j1;have k0:=ha.k0
 clear hPP hA hV hcv hK ha hv
 have hI0:0<=max a.i 0 % (n:Int):=Int.emod_nonneg _ (by omega)
 have hI1:max a.i 0 % (n:Int)<n:=Int.emod_lt_of_pos _ (by omega)
 have hJ0:0<=max a.j 0 % (n:Int):=Int.emod_nonneg _ (by omega)
 have hJ1:max a.j 0 % (n:Int)<n:=Int.emod_lt_of_pos _ (by omega)
 go_enter Tryz.func40,Tryz.ntmps40
 generalize hQ0:bodyPost _ _ _=Q0
 have HQ:=qh hQ0
 clear hQ0
 go_wp2_with fail
 have H2:=qh HB.out.r
 have H3:=qh HB.out.below
 rw [<-HQ.out]
 generalize hA:({ tmps:=_,defers:=_ } :Act)=A
 have h4:A.tmps[6]? =some (.pointer (some ⟨w.heap.size+1+1,0,none⟩)):=by rw [<-hA];rfl
 have h5:A.defers= [] :=by rw [<-hA]
 clear hA
 rw [<-HPP.out]
 refine ⟨h5,_,Q4 h4 H2.out, ?_⟩
 exact ⟨⟨c.v,by rw [HA.out],by rw [HV.out,HCV.out];exact Zq _ _⟩,H3.out⟩
set_option maxRecDepth 100000 in
theorem zmy (w:World) (c:CC) (hcv:c.v=vzero) (a:AC) (ha:a.Bnd) (n:Nat) (hn:n<=1466015503701) (hn0:0<n) (hk:a.k % 4=2) (l:List Tk) (hv:IsToks w w.heap.size l a.va a.vl a.vc):
 uP 40 #[.agg (uC c), .agg (uA a), .int .i64 n] w (ListAPost w n a c l):=by
 delta uC uA uP
 have HBD:Hid (∀W,uB w W->uP 13 #[.slice a.va a.vl a.vc] W fun e w'=>(∃cv:VC,e= .returned (.agg #[.int .u8 cv.k, .int .i64 cv.n, .string cv.s, .slice cv.la cv.ll cv.lc, .slice cv.oa cv.ol cv.oc])/\IsVal (only (fun b=>W.heap.size<=b) w') w'.heap.size (oneP 6 (l.take 60)).1 cv)/\uB W w'):=fun W hW=>Yf W l _ _ _ (hv.later_ hW)
 have HB:=qh (AB.start w { c with k:=6,i:=max a.i 0 % (n:Int) } a 39 25 39)
 have hK:listK n a.k=6:=by rw [listK,if_neg (by omega)];omega
 have hA:listA n a c=fun cv=> { c with k:=6,i:=max a.i 0 % (n:Int),v:=cv } :=by funext cv;rw [listA,hK];simp
 have hV:listV n a.k l=(oneP 6 (l.take 60)).1:=by rw [listV,hK];simp
 obtain ⟨PP,hPP⟩:∃PP,ListAPost w n a c l=PP:=⟨_,rfl⟩
 have HPP:=qh hPP
 have HA:=qh hA;have HV:=qh hV;have HCV:=qh hcv
 rw [hPP]
 have i0:=ha.i0;have i1:=ha.i1;have j0:=ha.j0;have j1:=ha.j1;have k0:=ha.k0
 clear hPP hA hV hcv hK ha hv
 have hI0:0<=max a.i 0 % (n:Int):=Int.emod_nonneg _ (by omega)
 have hI1:max a.i 0 % (n:Int)<n:=Int.emod_lt_of_pos _ (by omega)
 have hJ0:0<=max a.j 0 % (n:Int):=Int.emod_nonneg _ (by omega)
 have hJ1:max a.j 0 % (n:Int)<n:=Int.emod_lt_of_pos _ (by omega)
 go_enter Tryz.func40,Tryz.ntmps40
 generalize hQ0:bodyPost _ _ _=Q0
 have HQ:=qh hQ0
 clear hQ0
 go_wp2_with fail
 refine (HBD.out _ HB.out.below).mono ?_
 rintro e w1 ⟨⟨cv,rfl,hv1⟩,hb1⟩
 have B:=HB.out.next hb1 (by simp)
 obtain ⟨b0,b1,b2,b3,b4,b5,b6,b7,b8,b9,b10,b11,a0,a1,a2,a3,a4,a5,a6,r0,r1,r2,r3,r4,r5,r6,r7,r8,r9,r10,r11,bf0,bf1,bf2,bf3,bf4,bf5,bf6,bf7,bf8,bf9,bf10,bf11,rf0,rf1,rf2,rf3,rf4,rf5,rf6,rf7,rf8,rf9,rf10,rf11,z0,z1,z2⟩:=B.facts
 have HBW:=qh B
 have hz1:w.heap.size+1+1+1<=w1.heap.size:=by omega
 have hv2:=Zm (Zm hv1 (Zi w1 w.heap.size 6 cv) (by simp;try omega)) (Xz _ (w.heap.size+1+1) { c with k:=6,i:=max a.i 0 % (n:Int),v:=cv }) (by simp)
 have h2:=Zp (((((HBW.out.r.far (o:=6) (x:= .int .u8 cv.k) (show w.heap.size+1+1≠w.heap.size by omega)).far (o:=7) (x:= .int .i64 cv.n) (show w.heap.size+1+1≠w.heap.size by omega)).far (o:=8) (x:= .string cv.s) (show w.heap.size+1+1≠w.heap.size by omega)).far (o:=9) (x:= .slice cv.la cv.ll cv.lc) (show w.heap.size+1+1≠w.heap.size by omega)).far (o:=10) (x:= .slice cv.oa cv.ol cv.oc) (show w.heap.size+1+1≠w.heap.size by omega)) { c with k:=6,i:=max a.i 0 % (n:Int),v:=cv }
 have h3:=Below.setC (((((HBW.out.below.set_ (o:=6) (x:= .int .u8 cv.k) (Nat.le_refl _)).set_ (o:=7) (x:= .int .i64 cv.n) (Nat.le_refl _)).set_ (o:=8) (x:= .string cv.s) (Nat.le_refl _)).set_ (o:=9) (x:= .slice cv.la cv.ll cv.lc) (Nat.le_refl _)).set_ (o:=10) (x:= .slice cv.oa cv.ol cv.oc) (Nat.le_refl _)) (show w.heap.size<=w.heap.size+1+1 by omega) { c with k:=6,i:=max a.i 0 % (n:Int),v:=cv }
 dsimp only at h2 h3 hv2
 have H2:=qh h2
 have H3:=qh h3
 have HV2:=qh hv2
 clear h2 h3 hv1 hv2 B hb1
 go_wp2_with fail
 rw [<-HQ.out]
 generalize hA:({ tmps:=_,defers:=_ } :Act)=A
 have h4:A.tmps[6]? =some (.pointer (some ⟨w.heap.size+1+1,0,none⟩)):=by rw [<-hA];rfl
 have h5:A.defers= [] :=by rw [<-hA]
 clear hA
 rw [<-HPP.out]
 refine ⟨h5,_,Q4 h4 H2.out, ?_⟩
 exact ⟨⟨cv,by rw [HA.out],by rw [HV.out];exact HV2.out.sub (Zd fun k hk _=>⟨by simp at hk;omega,rfl⟩)⟩,H3.out⟩
set_option maxRecDepth 100000 in
theorem zm8 (w:World) (c:CC) (hcv:c.v=vzero) (a:AC) (ha:a.Bnd) (n:Nat) (hn:n<=1466015503701) (hn0:0<n) (hk:a.k % 4=3) (l:List Tk) (hv:IsToks w w.heap.size l a.va a.vl a.vc):
 uP 40 #[.agg (uC c), .agg (uA a), .int .i64 n] w (ListAPost w n a c l):=by
 delta uC uA uP
 have HBD:Hid (∀W,uB w W->uP 13 #[.slice a.va a.vl a.vc] W fun e w'=>(∃cv:VC,e= .returned (.agg #[.int .u8 cv.k, .int .i64 cv.n, .string cv.s, .slice cv.la cv.ll cv.lc, .slice cv.oa cv.ol cv.oc])/\IsVal (only (fun b=>W.heap.size<=b) w') w'.heap.size (oneP 6 (l.take 60)).1 cv)/\uB W w'):=fun W hW=>Yf W l _ _ _ (hv.later_ hW)
 have HB:=qh (AB.startd w { c with k:=7,i:=max a.i 0 % (n:Int),j:=max a.j 0 % (n:Int) } a { c with k:=7,i:=max a.i 0 % (n:Int),j:=max a.j 0 % (n:Int) } 39 25 39)
 have hK:listK n a.k=7:=by rw [listK,if_neg (by omega)];omega
 have hA:listA n a c=fun cv=> { c with k:=7,i:=max a.i 0 % (n:Int),j:=max a.j 0 % (n:Int),v:=cv } :=by funext cv;rw [listA,hK];simp
 have hV:listV n a.k l=V.none:=by rw [listV,hK];simp
 obtain ⟨PP,hPP⟩:∃PP,ListAPost w n a c l=PP:=⟨_,rfl⟩
 have HPP:=qh hPP
 have HA:=qh hA;have HV:=qh hV;have HCV:=qh hcv
 rw [hPP]
 have i0:=ha.i0;have i1:=ha.i1;have j0:=ha.j0;have j1:=ha.j1;have k0:=ha.k0
 clear hPP hA hV hcv hK ha hv
 have hI0:0<=max a.i 0 % (n:Int):=Int.emod_nonneg _ (by omega)
 have hI1:max a.i 0 % (n:Int)<n:=Int.emod_lt_of_pos _ (by omega)
 have hJ0:0<=max a.j 0 % (n:Int):=Int.emod_nonneg _ (by omega)
 have hJ1:max a.j 0 % (n:Int)<n:=Int.emod_lt_of_pos _ (by omega)
 go_enter Tryz.func40,Tryz.ntmps40
 generalize hQ0:bodyPost _ _ _=Q0
 have HQ:=qh hQ0
 clear hQ0
 go_wp2_with fail
 have H2:=qh HB.out.r
 have H3:=qh HB.out.below
 rw [<-HQ.out]
 generalize hA:({ tmps:=_,defers:=_ } :Act)=A
 have h4:A.tmps[6]? =some (.pointer (some ⟨w.heap.size+1+1,0,none⟩)):=by rw [<-hA];rfl
 have h5:A.defers= [] :=by rw [<-hA]
 clear hA
 rw [<-HPP.out]
 refine ⟨h5,_,Q4 h4 H2.out, ?_⟩
 exact ⟨⟨c.v,by rw [HA.out],by rw [HV.out,HCV.out];exact Zq _ _⟩,H3.out⟩
theorem zqp (w:World) (c:CC) (hcv:c.v=vzero) (a:AC) (ha:a.Bnd) (n:Nat) (hn:n<=1466015503701) (l:List Tk) (hv:IsToks w w.heap.size l a.va a.vl a.vc):
 uP 40 #[.agg (uC c), .agg (uA a), .int .i64 n] w (ListAPost w n a c l):=by
 delta uC uA uP
 by_cases hn0:0<n
 .have h4:a.k % 4=0∨a.k % 4=1∨a.k % 4=2∨a.k % 4=3:=by omega
  rcases h4 with h|h|h|h
  .exact zpd w c hcv a ha n hn hn0 h l hv
  .exact zpc w c hcv a ha n hn hn0 h l hv
  .exact zmy w c hcv a ha n hn hn0 h l hv
  .exact zm8 w c hcv a ha n hn hn0 h l hv
 .obtain rfl:n=0:=by omega
  exact zg5 w c hcv a ha l hv
def textA (n:Nat) (a:AC) (c:CC):CC:=
 if 0<n/\a.k % 2=0 then { c with k:=9,i:=max a.i 0 % n,s:= .empty,n:=1+max a.j 0 % ((n:Int) - max a.i 0 % n) }
 else { c with k:=8,i:=max a.i 0 % ((n:Int)+1),s:= { data:= #[120] } ++plainS a.s }
theorem zbg {tmps:Array Value} {W:World} {b:Nat} {d:CC} (ht:tmps[6]? =some (.pointer (some ⟨b,0,none⟩))) (h:BC W b (ccells d)):
 (results Tryz.f39 tmps).run Tryz.prog W= .ok (.agg #[.int .u8 d.k, .slice d.pa d.pl d.pc, .string d.key, .int .i64 d.i, .int .i64 d.j, .int .i64 d.n, .int .u8 d.v.k, .int .i64 d.v.n, .string d.v.s, .slice d.v.la d.v.ll d.v.lc, .slice d.v.oa d.v.ol d.v.oc, .string d.s]) W:=by
 obtain ⟨r0,r1,r2,r3,r4,r5,r6,r7,r8,r9,r10,r11⟩:=row12 h.at_
 simp [results,Tryz.results39,go_sem,ht,r0,r1,r2,r3,r4,r5,r6,r7,r8,r9,r10,r11]
set_option maxRecDepth 100000 in
theorem zo3 (w:World) (c:CC) (a:AC) (ha:a.Bnd):
 uP 39 #[.agg (uC c), .agg (uA a), .int .i64 0] w fun e w'=>e= .returned (.agg #[.int .u8 (textA 0 a c).k, .slice (textA 0 a c).pa (textA 0 a c).pl (textA 0 a c).pc, .string (textA 0 a c).key, .int .i64 (textA 0 a c).i, .int .i64 (textA 0 a c).j, .int .i64 (textA 0 a c).n, .int .u8 (textA 0 a c).v.k, .int .i64 (textA 0 a c).v.n, .string (textA 0 a c).v.s, .slice (textA 0 a c).v.la (textA 0 a c).v.ll (textA 0 a c).v.lc, .slice (textA 0 a c).v.oa (textA 0 a c).v.ol (textA 0 a c).v.oc, .string (textA 0 a c).s])/\uB w w':=by
 delta uC uA uB uP
 have HPL:Hid (∀W,uP 74 #[.string a.s] W fun e w'=>e= .returned (.string (plainS a.s))/\uB W w'):=fun W=>X5 W a.s ha.s1
 obtain ⟨ps,hps⟩:∃ps,plainS a.s=ps:=⟨_,rfl⟩
 have hpz:ps.size<=40:=by rw [<-hps];exact Xb _
 rw [hps] at HPL
 have HB:=qh (AB.start w { c with k:=8,i:=0 } a 39 25 39)
 obtain ⟨D,hD⟩:∃D,textA 0 a c=D:=⟨_,rfl⟩
 rw [hD]
 have HD:=qh hD
 have HPS:=qh hps
 have i0:=ha.i0;have i1:=ha.i1;have j0:=ha.j0;have j1:=ha.j1;have k0:=ha.k0
 clear hps hD ha
 go_enter Tryz.func39,Tryz.ntmps39
 generalize hQ0:bodyPost _ _ _=Q0
 have HQ:=qh hQ0
 clear hQ0
 go_wp2_with fail
 refine (HPL.out _).mono ?_
 rintro e w1 ⟨rfl,hb1⟩
 have B:=HB.out.next hb1 (by simp)
 obtain ⟨b0,b1,b2,b3,b4,b5,b6,b7,b8,b9,b10,b11,a0,a1,a2,a3,a4,a5,a6,r0,r1,r2,r3,r4,r5,r6,r7,r8,r9,r10,r11,bf0,bf1,bf2,bf3,bf4,bf5,bf6,bf7,bf8,bf9,bf10,bf11,rf0,rf1,rf2,rf3,rf4,rf5,rf6,rf7,rf8,rf9,rf10,rf11,z0,z1,z2⟩:=B.facts
 have HBW:=qh B
 have hq1:¬(9223372036854775807<1+ps.size):=by omega
 clear B hb1
 have h2:=Zp (HBW.out.r.far (o:=11) (x:= .string ({ data:= #[120] } ++ps)) (show w.heap.size+1+1≠w.heap.size by omega)) { c with k:=8,i:=0,s:= { data:= #[120] } ++ps }
 have h3:=Below.setC (HBW.out.below.set_ (o:=11) (x:= .string ({ data:= #[120] } ++ps)) (Nat.le_refl _)) (show w.heap.size<=w.heap.size+1+1 by omega) { c with k:=8,i:=0,s:= { data:= #[120] } ++ps }
 dsimp only at h2 h3
 have H2:=qh h2
 have H3:=qh h3
 clear h2 h3
 go_wp2_with fail
 obtain rfl:D= { c with k:=8,i:=0,s:= { data:= #[120] } ++ps } :=by rw [<-HD.out,textA,if_neg (by omega),HPS.out];simp
 rw [<-HQ.out]
 generalize hA:({ tmps:=_,defers:=_ } :Act)=A
 have h4:A.tmps[6]? =some (.pointer (some ⟨w.heap.size+1+1,0,none⟩)):=by rw [<-hA];rfl
 have h5:A.defers= [] :=by rw [<-hA]
 clear hA
 exact ⟨h5,_,zbg h4 H2.out,rfl,H3.out⟩
set_option maxRecDepth 100000 in
theorem zhd (w:World) (c:CC) (a:AC) (ha:a.Bnd) (n:Nat) (hn:n<=1000000000000) (hn0:0<n) (hk:¬a.k % 2=0):
 uP 39 #[.agg (uC c), .agg (uA a), .int .i64 n] w fun e w'=>e= .returned (.agg #[.int .u8 (textA n a c).k, .slice (textA n a c).pa (textA n a c).pl (textA n a c).pc, .string (textA n a c).key, .int .i64 (textA n a c).i, .int .i64 (textA n a c).j, .int .i64 (textA n a c).n, .int .u8 (textA n a c).v.k, .int .i64 (textA n a c).v.n, .string (textA n a c).v.s, .slice (textA n a c).v.la (textA n a c).v.ll (textA n a c).v.lc, .slice (textA n a c).v.oa (textA n a c).v.ol (textA n a c).v.oc, .string (textA n a c).s])/\uB w w':=by
 delta uC uA uB uP
 have HPL:Hid (∀W,uP 74 #[.string a.s] W fun e w'=>e= .returned (.string (plainS a.s))/\uB W w'):=fun W=>X5 W a.s ha.s1
 obtain ⟨ps,hps⟩:∃ps,plainS a.s=ps:=⟨_,rfl⟩
 have hpz:ps.size<=40:=by rw [<-hps];exact Xb _
 rw [hps] at HPL
 have HB:=qh (AB.start w { c with k:=8,i:=max a.i 0 % ((n:Int)+1) } a 39 25 39)
 obtain ⟨D,hD⟩:∃D,textA n a c=D:=⟨_,rfl⟩
 rw [hD]
 have HD:=qh hD
 have HPS:=qh hps
 have i0:=ha.i0;have i1:=ha.i1;have j0:=ha.j0;have j1:=ha.j1;have k0:=ha.k0
 clear hps hD ha
 go_enter Tryz.func39,Tryz.ntmps39
 generalize hQ0:bodyPost _ _ _=Q0
 have HQ:=qh hQ0
 clear hQ0
 go_wp2_with fail
 refine (HPL.out _).mono ?_
 rintro e w1 ⟨rfl,hb1⟩
 have B:=HB.out.next hb1 (by simp)
 obtain ⟨b0,b1,b2,b3,b4,b5,b6,b7,b8,b9,b10,b11,a0,a1,a2,a3,a4,a5,a6,r0,r1,r2,r3,r4,r5,r6,r7,r8,r9,r10,r11,bf0,bf1,bf2,bf3,bf4,bf5,bf6,bf7,bf8,bf9,bf10,bf11,rf0,rf1,rf2,rf3,rf4,rf5,rf6,rf7,rf8,rf9,rf10,rf11,z0,z1,z2⟩:=B.facts
 have HBW:=qh B
 have hq1:¬(9223372036854775807<1+ps.size):=by omega
 clear B hb1
 have h2:=Zp (HBW.out.r.far (o:=11) (x:= .string ({ data:= #[120] } ++ps)) (show w.heap.size+1+1≠w.heap.size by omega)) { c with k:=8,i:=max a.i 0 % ((n:Int)+1),s:= { data:= #[120] } ++ps }
 have h3:=Below.setC (HBW.out.below.set_ (o:=11) (x:= .string ({ data:= #[120] } ++ps)) (Nat.le_refl _)) (show w.heap.size<=w.heap.size+1+1 by omega) { c with k:=8,i:=max a.i 0 % ((n:Int)+1),s:= { data:= #[120] } ++ps }
 dsimp only at h2 h3
 have H2:=qh h2
 have H3:=qh h3
 clear h2 h3
 go_wp2_with fail
 obtain rfl:D= { c with k:=8,i:=max a.i 0 % ((n:Int)+1),s:= { data:= #[120] } ++ps } :=by rw [<-HD.out,textA,if_neg (by omega),HPS.out]
 rw [<-HQ.out]
 generalize hA:({ tmps:=_,defers:=_ } :Act)=A
 have h4:A.tmps[6]? =some (.pointer (some ⟨w.heap.size+1+1,0,none⟩)):=by rw [<-hA];rfl
 have h5:A.defers= [] :=by rw [<-hA]
 clear hA
 exact ⟨h5,_,zbg h4 H2.out,rfl,H3.out⟩
set_option maxRecDepth 100000 in
theorem zok (w:World) (c:CC) (a:AC) (ha:a.Bnd) (n:Nat) (hn:n<=1000000000000) (hn0:0<n) (hk:a.k % 2=0):
 uP 39 #[.agg (uC c), .agg (uA a), .int .i64 n] w fun e w'=>e= .returned (.agg #[.int .u8 (textA n a c).k, .slice (textA n a c).pa (textA n a c).pl (textA n a c).pc, .string (textA n a c).key, .int .i64 (textA n a c).i, .int .i64 (textA n a c).j, .int .i64 (textA n a c).n, .int .u8 (textA n a c).v.k, .int .i64 (textA n a c).v.n, .string (textA n a c).v.s, .slice (textA n a c).v.la (textA n a c).v.ll (textA n a c).v.lc, .slice (textA n a c).v.oa (textA n a c).v.ol (textA n a c).v.oc, .string (textA n a c).s])/\uB w w':=by
 delta uC uA uB uP
 have HPL:Hid (∀W,uP 74 #[.string a.s] W fun e w'=>e= .returned (.string (plainS a.s))/\uB W w'):=fun W=>X5 W a.s ha.s1
 obtain ⟨ps,hps⟩:∃ps,plainS a.s=ps:=⟨_,rfl⟩
 have hpz:ps.size<=40:=by rw [<-hps];exact Xb _
 rw [hps] at HPL
 have HB:=qh (AB.start w { c with k:=8,i:=max a.i 0 % ((n:Int)+1) } a 39 25 39)
 obtain ⟨D,hD⟩:∃D,textA n a c=D:=⟨_,rfl⟩
 rw [hD]
 have HD:=qh hD
 have HPS:=qh hps
 have i0:=ha.i0;have i1:=ha.i1;have j0:=ha.j0;have j1:=ha.j1;have k0:=ha.k0
 clear hps hD ha
 go_enter Tryz.func39,Tryz.ntmps39
 generalize hQ0:bodyPost _ _ _=Q0
 have HQ:=qh hQ0
 clear hQ0
 go_wp2_with fail
 refine (HPL.out _).mono ?_
 rintro e w1 ⟨rfl,hb1⟩
 have B:=HB.out.next hb1 (by simp)
 obtain ⟨b0,b1,b2,b3,b4,b5,b6,b7,b8,b9,b10,b11,a0,a1,a2,a3,a4,a5,a6,r0,r1,r2,r3,r4,r5,r6,r7,r8,r9,r10,r11,bf0,bf1,bf2,bf3,bf4,bf5,bf6,bf7,bf8,bf9,bf10,bf11,rf0,rf1,rf2,rf3,rf4,rf5,rf6,rf7,rf8,rf9,rf10,rf11,z0,z1,z2⟩:=B.facts
 have HBW:=qh B
 have hq1:¬(9223372036854775807<1+ps.size):=by omega
 clear B hb1
 have hI0:0<=max a.i 0 % (n:Int):=Int.emod_nonneg _ (by omega)
 have hI1:max a.i 0 % (n:Int)<n:=Int.emod_lt_of_pos _ (by omega)
 have hJ0:0<=max a.j 0 % ((n:Int) - max a.i 0 % n):=Int.emod_nonneg _ (by omega)
 have hJ1:max a.j 0 % ((n:Int) - max a.i 0 % n)<(n:Int) - max a.i 0 % n:=Int.emod_lt_of_pos _ (by omega)
 have h2:=Zp (((((HBW.out.r.far (o:=11) (x:= .string ({ data:= #[120] } ++ps)) (show w.heap.size+1+1≠w.heap.size by omega)).far (o:=0) (x:= .int .u8 9) (show w.heap.size+1+1≠w.heap.size by omega)).far (o:=11) (x:= .string { data:= #[] }) (show w.heap.size+1+1≠w.heap.size by omega)).far (o:=3) (x:= .int .i64 (max a.i 0 % n)) (show w.heap.size+1+1≠w.heap.size by omega)).far (o:=5) (x:= .int .i64 (1+max a.j 0 % ((n:Int) - max a.i 0 % n))) (show w.heap.size+1+1≠w.heap.size by omega)) { c with k:=9,i:=max a.i 0 % n,s:= { data:= #[] },n:=1+max a.j 0 % ((n:Int) - max a.i 0 % n) }
 have h3:=Below.setC (((((HBW.out.below.set_ (o:=11) (x:= .string ({ data:= #[120] } ++ps)) (Nat.le_refl _)).set_ (o:=0) (x:= .int .u8 9) (Nat.le_refl _)).set_ (o:=11) (x:= .string { data:= #[] }) (Nat.le_refl _)).set_ (o:=3) (x:= .int .i64 (max a.i 0 % n)) (Nat.le_refl _)).set_ (o:=5) (x:= .int .i64 (1+max a.j 0 % ((n:Int) - max a.i 0 % n))) (Nat.le_refl _)) (show w.heap.size<=w.heap.size+1+1 by omega) { c with k:=9,i:=max a.i 0 % n,s:= { data:= #[] },n:=1+max a.j 0 % ((n:Int) - max a.i 0 % n) }
 dsimp only at h2 h3
 have H2:=qh h2
 have H3:=qh h3
 clear h2 h3
 go_wp2_with fail
 obtain rfl:D= { c with k:=9,i:=max a.i 0 % n,s:= .empty,n:=1+max a.j 0 % ((n:Int) - max a.i 0 % n) } :=by rw [<-HD.out,textA,if_pos ⟨hn0,hk⟩]
 rw [<-HQ.out]
 generalize hA:({ tmps:=_,defers:=_ } :Act)=A
 have h4:A.tmps[6]? =some (.pointer (some ⟨w.heap.size+1+1,0,none⟩)):=by rw [<-hA];rfl
 have h5:A.defers= [] :=by rw [<-hA]
 clear hA
 exact ⟨h5,_,zbg h4 H2.out,rfl,H3.out⟩
theorem zlb (w:World) (c:CC) (a:AC) (ha:a.Bnd) (n:Nat) (hn:n<=1000000000000):
 uP 39 #[.agg (uC c), .agg (uA a), .int .i64 n] w fun e w'=>e= .returned (.agg #[.int .u8 (textA n a c).k, .slice (textA n a c).pa (textA n a c).pl (textA n a c).pc, .string (textA n a c).key, .int .i64 (textA n a c).i, .int .i64 (textA n a c).j, .int .i64 (textA n a c).n, .int .u8 (textA n a c).v.k, .int .i64 (textA n a c).v.n, .string (textA n a c).v.s, .slice (textA n a c).v.la (textA n a c).v.ll (textA n a c).v.lc, .slice (textA n a c).v.oa (textA n a c).v.ol (textA n a c).v.oc, .string (textA n a c).s])/\uB w w':=by
 delta uC uA uB uP
 by_cases hn0:0<n
 .by_cases hk:a.k % 2=0
  .exact zok w c a ha n hn hn0 hk
  .exact zhd w c a ha n hn hn0 hk
 .obtain rfl:n=0:=by omega
  exact zo3 w c a ha
def xAt (v:V) (p:List St):V:=(getP v p).getD V.none
def trimN (v:V) (p:List St):Nat->Nat
 |0=>0
 |n+1=>if (xAt v (p.take (n+1))).kd<2 then trimN v p n else n+1
def wayP (v:V) (bs:List UInt8):List St:=(walkP v (bs.take 8)).take 5
def aimPath (v:V) (bs:List UInt8):List St:=(wayP v bs).take (trimN v (wayP v bs) (wayP v bs).length)
noncomputable def fieldKey (o:List (ByteArray×V)) (a:AC):ByteArray:=if 0<o.length/\0<a.k % 3 then (o.getD (max a.i 0 % o.length).toNat (.empty,V.none)).1 else plainS a.s
noncomputable def fieldB (o:List (ByteArray×V)) (a:AC):Bool:=fieldIs o (fieldKey o a) && decide (a.k % 2=0)
noncomputable def fieldA (o:List (ByteArray×V)) (a:AC) (c:CC) (cv:VC):CC:= { c with k:=if fieldB o a=true then 3 else 2,key:=fieldKey o a,v:=cv }
noncomputable def fieldV (o:List (ByteArray×V)) (a:AC) (l:List Tk):V:=if fieldB o a=true then V.none else (oneP 6 (l.take 60)).1
def Ac.bare (a:Ac):AC:=⟨none,0,0,a.k,a.i,a.j,a.n,a.s,none,0,0⟩
def cmOf (p:List St) (v:V) (d:CC):Cm:=⟨d.k,p,d.key,d.i,d.j,d.n,v,d.s⟩
noncomputable def oneX (x:V) (p:List St) (a:Ac):Option Cm:=
 if x.kd=2 then some ⟨1,p, .empty,0,0,a.n,V.none, .empty⟩
 else if x.kd=3 then some (cmOf p V.none (textA x.str.size a.bare czero))
 else if x.kd=4 then some (cmOf p (listV x.ls.length a.k a.v) (listA x.ls.length a.bare czero vzero))
 else if x.kd=5 then some (cmOf p (fieldV x.os a.bare a.v) (fieldA x.os a.bare czero vzero))
 else none
noncomputable def oneC (v:V) (a:Ac):Option Cm:=oneX (xAt v (aimPath v a.path)) (aimPath v a.path) a
structure Small (v:V) (c:Cm):Prop where
 sv:c.v.weight<=20000
 ss:c.s.size<=41
 sp:c.path.length<=5
 sk:c.key.size<=40∨∀x,getP v c.path=some x->∃f ∈ x.os,f.1=c.key
theorem Jq {v:V} {a:Ac} {c:Cm} (h:oneC v a=some c):Small v c:=by
 have hpl:(aimPath v a.path).length<=5:=by unfold aimPath wayP;rw [List.length_take,List.length_take];omega
 unfold oneC at h
 obtain ⟨p,hp⟩:∃p,aimPath v a.path=p:=⟨_,rfl⟩
 rw [hp] at h hpl
 have hps:=Xb a.s
 have hb:=(Y7 a.v).2.1
 have hn:=Jd
 unfold oneX at h
 split at h
 .injection h with h;subst h
  exact ⟨by dsimp only;omega,Nat.zero_le _,hpl, .inl (Nat.zero_le _)⟩
 .split at h
  .injection h with h;subst h
   unfold textA
   split
   .exact ⟨by show V.none.weight<=_;omega,Nat.zero_le _,hpl, .inl (Nat.zero_le _)⟩
   .refine ⟨by show V.none.weight<=_;omega, ?_,hpl, .inl (Nat.zero_le _)⟩
    show ({ data:= #[120] } ++plainS a.s:ByteArray).size<=41
    rw [ByteArray.size_append]
    have:({ data:= #[120] } :ByteArray).size=1:=rfl
    omega
  .split at h
   .injection h with h;subst h
    refine ⟨?_,Nat.zero_le _,hpl, .inl (Nat.zero_le _)⟩
    show (listV _ _ _).weight<=_
    unfold listV
    split<;>omega
   .split at h
    .injection h with h;subst h
     refine ⟨?_,Nat.zero_le _,hpl, ?_⟩
     .show (fieldV _ _ _).weight<=_
      unfold fieldV
      split<;>omega
     .show (fieldKey _ _).size<=40∨∀x,getP v p=some x->∃f ∈ x.os,f.1=fieldKey _ _
      unfold fieldKey
      split
      .rename_i hc
       right
       intro x hx
       have hxx:xAt v p=x:=by rw [xAt,hx];rfl
       rw [hxx] at hc ⊢
       have hlt:(max a.bare.i 0 % (x.os.length:Int)).toNat<x.os.length:=by
        have h1:=Int.emod_nonneg (max a.bare.i 0) (show (x.os.length:Int)≠0 by omega)
        have h2:=Int.emod_lt_of_pos (max a.bare.i 0) (show (0:Int)<x.os.length by omega)
        omega
       refine ⟨x.os[(max a.bare.i 0 % (x.os.length:Int)).toNat]'hlt,List.getElem_mem _, ?_⟩
       simp only [List.getD_eq_getElem?_getD,List.getElem?_eq_getElem hlt,Option.getD_some]
      .left;exact hps
    .cases h
def kc2:Cm:=⟨1, [⟨false,0,kA⟩], .empty,0,0,2,V.none, .empty⟩
def sliceN:Value->Nat
 | .slice _ n _=>n
 |_=>0
theorem IsSteps.take {w:World} {B:Nat} {l:List St} {a:Option Addr} {n c:Nat} (h:IsSteps w B l a n c) (k:Nat) (hk:k<=n):IsSteps w B (l.take k) a k c:=by
 obtain ⟨h1,h2,h3,h4,b,o,h5,h6⟩:=h
 refine ⟨by rw [List.length_take];omega,by omega,h3,by omega,b,o,fun hn=>h5 (by omega),fun i hi=> ?_⟩
 rw [List.length_take] at hi
 rw [List.getElem_take];exact h6 i (by omega)
theorem Qk {W W':World} {S S':Nat->Prop} {B:Nat} {p:List St} {a:Option Addr} {n c:Nat} (h:IsSteps (only S W) B p a n c) (hB:B=W.heap.size) (hz:W.heap.size<=W'.heap.size) (hs:∀k,S k->k<W.heap.size->S' k/\W'.heap[k]? =W.heap[k]?):IsSteps (only S' W') W'.heap.size p a n c:=by
 subst hB;exact (h.sub (Zd hs)).more hz
theorem GetPost.any {w w':World} {r:Option V} {e:Ending} (h:GetPost w r e w'):∃(c:VC) (i:Int),e= .returned (.tuple #[.agg #[.int .u8 c.k, .int .i64 c.n, .string c.s, .slice c.la c.ll c.lc, .slice c.oa c.ol c.oc], .int .i64 i])/\IsVal (only (fun b=>w.heap.size<=b) w') w'.heap.size (r.getD V.none) c/\uB w w':=by
 delta uB
 obtain ⟨h1,h2⟩:=h
 cases r with
 |none=>exact ⟨vzero,30,h1,Zq _ _,h2⟩
 |some x=>obtain ⟨c,e,hI⟩:=h1;exact ⟨c,0,e,hI,h2⟩
structure OH (w wr:World) (c:VC) (a:AC) (xb:Nat) (x:V) (cx:VC):Prop where
 v:BC wr w.heap.size (vcells c)
 a:BC wr (w.heap.size+1) (acells a)
 r:BC wr (w.heap.size+1+1) (ccells czero)
 bx:BC wr xb (vcells cx)
 val:IsVal (only (fun b=>b≠xb) wr) wr.heap.size x cx
 lo:w.heap.size+3<=xb
 below:Below w.heap.size w wr
structure OH0 (w W:World) (c:VC) (a:AC):Prop where
 v:BC W w.heap.size (vcells c)
 a:BC W (w.heap.size+1) (acells a)
 r:BC W (w.heap.size+1+1) (ccells czero)
 below:Below w.heap.size w W
theorem OH0.next {w W W':World} {c:VC} {a:AC} {B:Nat} (h:OH0 w W c a) (hb:Below B W W') (hB:w.heap.size+3<=B):OH0 w W' c a:=
 ⟨h.v.keep hb (by omega),h.a.keep hb (by omega),h.r.keep hb (by omega),h.below.trans (hb.mono (by omega))⟩
end Go.Proofs.YtnjgbiachcfigaaGreatDoor
