/-
  Contracts of the functions that the law reaches: conciliatorref03.step: what stands one.
-/
import Derived.Test.YtnjgbiachcfigaaGreatDoorIw3
import Derived.Deep.RegionHeldLaw
import Derived.Lib.MapLaws
namespace Go.Proofs.YtnjgbiachcfigaaGreatDoor
open Go.RowKit
set_option maxHeartbeats 8000000
set_option maxRecDepth 100000 in
theorem zhu (w:World) (vk vn:Int) (vs:ByteArray) (la:Option Addr) (ll lc:Nat) (oa:Option Addr) (ol oc:Nat) (v:V) (w0:World) (B0:Nat) (hb0:Below B0 w0 w) (hB0:B0<=w.heap.size) (hv:IsVal w0 B0 v ⟨vk,vn,vs,la,ll,lc,oa,ol,oc⟩) (s:St) (hs:s.Bnd) (hl:s.list=false):
 uP 73 #[.agg (uU vk vn vs la ll lc oa ol oc), .agg #[.bool s.list, .int .i64 s.i, .string s.key]] w (StepPost w0 B0 w (stepP v s)):=by
 delta uU uP
 obtain ⟨sl,si,sk⟩:=s
 dsimp only at hl hs ⊢
 subst hl
 have hi0:=hs.i0;have hi1:=hs.i1
 dsimp only at hi0 hi1
 obtain ⟨k',n',s',l,o,rfl⟩:=v.eta
 obtain ⟨ek,en,es,hbd,hvl,hvo⟩:=hv.lists
 dsimp only at ek en es hbd hvl hvo
 subst ek en es
 have k1:=hvl.few;have k2:=hvl.max;have k3:=hvo.few;have k4:=hvo.max
 have HL:=qh hvl
 have HO:=qh hvo
 have HLN:=qh hvl.len
 have HON:=qh hvo.len
 have HB:=qh (SB.start w ⟨vk,vn,vs,la,ll,lc,oa,ol,oc⟩ ⟨false,si,sk⟩ 36 77 36)
 obtain ⟨R,hR⟩:∃R,stepP (.mk vk vn vs l o) ⟨false,si,sk⟩=R:=⟨_,rfl⟩
 rw [hR]
 clear hvl hvo hv hs hbd
 have HF:Hid (∀W,uB w W->uP 75 #[.agg (uU vk vn vs la ll lc oa ol oc), .string sk] W fun e w'=>e= .returned (.tuple #[.int .i64 (fieldK o sk:Int), .bool (fieldIs o sk)])/\uB W w'):=fun W hW=>Yi W o sk vk vn vs la ll lc oa ol oc (((HO.out.keep hb0).more hB0).later_ hW)
 obtain ⟨K,hK⟩:∃K,fieldK o sk=K:=⟨_,rfl⟩
 obtain ⟨is,hi⟩:∃is,fieldIs o sk=is:=⟨_,rfl⟩
 rw [hK,hi] at HF
 by_cases h4:vk=5
 case neg=>
  have f0:(vk !=5)=true:=by simp [h4]
  clear hK hi
  obtain rfl:R=none:=by rw [<-hR];simp [stepP,V.kd,h4]
  clear hR
  go_enter Tryz.func73,Tryz.ntmps73
  generalize hQ0:bodyPost _ _ _=Q0
  have HQ:=qh hQ0
  clear hQ0
  go_wp2_with fail
  refine (HF.out _ HB.out.below).mono ?_
  rintro e W ⟨rfl,hb1⟩
  have B:=HB.out.next hb1
  obtain ⟨v0,v1,v2,v3,v4⟩:=row5 B.v.at_
  have s0:=B.s.at_ 0 _ rfl;have s1:=B.s.at_ 1 _ rfl;have s2:=B.s.at_ 2 _ rfl
  obtain ⟨r0,r1,r2,r3,r4⟩:=row5 B.r.at_
  have f0:=B.r.fr 0;have f1:=B.r.fr 1;have f2:=B.r.fr 2;have f3:=B.r.fr 3;have f4:=B.r.fr 4
  have zs0:=B.v.lt;have zs1:=B.s.lt;have zs2:=B.r.lt
  have HBB:=qh B
  clear B hb1
  go_wp2_with fail
  rw [<-HQ.out]
  have ST:=HBB.out.stored ⟨0,0, { data:= #[] },none,0,0,none,0,0⟩
  exact Jg ST.1 ST.2 rfl rfl rfl rfl
 case pos=>
  cases h4
  cases is with
  | false=>
    clear hK
    obtain rfl:R=none:=by rw [<-hR];simp [stepP,V.os,hi]
    clear hR hi
    go_enter Tryz.func73,Tryz.ntmps73
    generalize hQ0:bodyPost _ _ _=Q0
    have HQ:=qh hQ0
    clear hQ0
    go_wp2_with fail
    refine (HF.out _ HB.out.below).mono ?_
    rintro e W ⟨rfl,hb1⟩
    have B:=HB.out.next hb1
    obtain ⟨v0,v1,v2,v3,v4⟩:=row5 B.v.at_
    have s0:=B.s.at_ 0 _ rfl;have s1:=B.s.at_ 1 _ rfl;have s2:=B.s.at_ 2 _ rfl
    obtain ⟨r0,r1,r2,r3,r4⟩:=row5 B.r.at_
    have f0:=B.r.fr 0;have f1:=B.r.fr 1;have f2:=B.r.fr 2;have f3:=B.r.fr 3;have f4:=B.r.fr 4
    have zs0:=B.v.lt;have zs1:=B.s.lt;have zs2:=B.r.lt
    have HBB:=qh B
    clear B hb1
    go_wp2_with fail
    rw [<-HQ.out]
    have ST:=HBB.out.stored ⟨0,0, { data:= #[] },none,0,0,none,0,0⟩
    exact Jg ST.1 ST.2 rfl rfl rfl rfl
  | true=>
    have hj:K<ol:=by have:=Z8 hi;rw [hK, <-HON.out] at this;exact this
    obtain ⟨b,q,f,hp,rfl,hbB,_,_,hvf,hI⟩:=HO.out.get hj
    obtain rfl:R=some (o[K].2,K):=by rw [<-hR];simp [stepP,V.kd,V.os,hK,hi,hp]
    have HI:=qh hI
    have HVF:=qh hvf
    clear hR hI hvf hK hi
    go_enter Tryz.func73,Tryz.ntmps73
    generalize hQ0:bodyPost _ _ _=Q0
    have HQ:=qh hQ0
    clear hQ0
    go_wp2_with fail
    refine (HF.out _ HB.out.below).mono ?_
    rintro e W ⟨rfl,hb1⟩
    have B:=HB.out.next hb1
    obtain ⟨v0,v1,v2,v3,v4⟩:=row5 B.v.at_
    have s0:=B.s.at_ 0 _ rfl;have s1:=B.s.at_ 1 _ rfl;have s2:=B.s.at_ 2 _ rfl
    obtain ⟨r0,r1,r2,r3,r4⟩:=row5 B.r.at_
    have f0:=B.r.fr 0;have f1:=B.r.fr 1;have f2:=B.r.fr 2;have f3:=B.r.fr 3;have f4:=B.r.fr 4
    have zs0:=B.v.lt;have zs1:=B.s.lt;have zs2:=B.r.lt
    have hbw:b<w.heap.size:=Nat.lt_of_lt_of_le hbB hB0
    have hvf:=((HVF.out.keep hb0 hbB).keep HB.out.below hbw).keep hb1 (by have:=HB.out.below.size;omega)
    have c0:=hvf.c0;have c1:=hvf.c1;have c2:=hvf.c2;have c3:=hvf.c3;have c4:=hvf.c4
    have hbw:b<W.heap.size:=World.block_lt_of_cell? W _ c0
    have HBB:=qh B
    clear B hb1 hvf
    go_wp2_with fail
    rw [<-HQ.out]
    have ST:=HBB.out.stored f
    exact zda (k:=K) ST.1 HI.out ST.2 rfl rfl rfl rfl
theorem K8 (w:World) (vk vn:Int) (vs:ByteArray) (la:Option Addr) (ll lc:Nat) (oa:Option Addr) (ol oc:Nat) (v:V) (w0:World) (B0:Nat) (hb0:Below B0 w0 w) (hB0:B0<=w.heap.size) (hv:IsVal w0 B0 v ⟨vk,vn,vs,la,ll,lc,oa,ol,oc⟩) (s:St) (hs:s.Bnd):
 uP 73 #[.agg (uU vk vn vs la ll lc oa ol oc), .agg #[.bool s.list, .int .i64 s.i, .string s.key]] w (StepPost w0 B0 w (stepP v s)):=by
 delta uU uP
 cases hl:s.list with
 |true=>have:=zht w vk vn vs la ll lc oa ol oc v w0 B0 hb0 hB0 hv s hs hl;rw [hl] at this;exact this
 |false=>have:=zhu w vk vn vs la ll lc oa ol oc v w0 B0 hb0 hB0 hv s hs hl;rw [hl] at this;exact this
def NewVal (w:World) (x:V) (e:Ending) (w':World):Prop:=
 (∃c:VC,e= .returned (.agg #[.int .u8 c.k, .int .i64 c.n, .string c.s, .slice c.la c.ll c.lc, .slice c.oa c.ol c.oc])/\IsVal (only (fun b=>w.heap.size<=b) w') w'.heap.size x c)/\Below w.heap.size w w'
def CopyIH (x:V):Prop:=∀(W:World) (c:VC),IsVal W W.heap.size x c->Calls Tryz.prog 30 #[.agg #[.int .u8 c.k, .int .i64 c.n, .string c.s, .slice c.la c.ll c.lc, .slice c.oa c.ol c.oc]] W (NewVal W x)
theorem CL.start (w:World) (c0:VC) (t1 t2:TypeId) (l:List V):CL1 w ((w.alloc (.cells (uV c0) t1)).alloc (.cells (uU 0 0 { data:= #[] } none 0 0 none 0 0) t2)) c0 l 0 none 0 0 [] [] :=by
 delta uV uU
 refine ⟨rfl,rfl,rfl,(BC.start w (uV c0) t1).keep ((Below.refl _ _).alloc (Nat.le_refl _) _) (by simp), ?_,((Below.refl _ _).alloc (Nat.le_refl _) _).alloc (by simp) _,Row.nil _ _ _ _ _⟩
 have:=BC.start (w.alloc (.cells (uV c0) t1)) #[.int .u8 0, .int .i64 0, .string { data:= #[] }, .slice none 0 0, .slice none 0 0] t2
 rw [World.size_alloc] at this
 exact this
theorem zqa {tmps:Array Value} {W:World} {b:Nat} {c:VC} (ht:tmps[2]? =some (.pointer (some ⟨b,0,none⟩))) (h:BC W b (vcells c)):
 (results Tryz.f30 tmps).run Tryz.prog W= .ok (.agg #[.int .u8 c.k, .int .i64 c.n, .string c.s, .slice c.la c.ll c.lc, .slice c.oa c.ol c.oc]) W:=by
 obtain ⟨r0,r1,r2,r3,r4⟩:=(⟨h.at_ 0 _ rfl,h.at_ 1 _ rfl,h.at_ 2 _ rfl,h.at_ 3 _ rfl,h.at_ 4 _ rfl⟩:W.cell? ⟨b,0,none⟩=some (.int .u8 c.k)/\W.cell? ⟨b,1,none⟩=some (.int .i64 c.n)/\W.cell? ⟨b,2,none⟩=some (.string c.s)/\W.cell? ⟨b,3,none⟩=some (.slice c.la c.ll c.lc)/\W.cell? ⟨b,4,none⟩=some (.slice c.oa c.ol c.oc))
 simp [results,Tryz.results30,go_sem,ht,r0,r1,r2,r3,r4]
theorem zlg {w W:World} {k n:Int} {s:ByteArray} {l:List V} {o:List (ByteArray×V)} {a:Option Addr} {m c:Nat} {a':Option Addr} {m' c':Nat} {cl:List VC} {co:List (ByteArray×VC)} {x:Act}
 (h:BC W (w.heap.size+1) (vcells ⟨k,n,s,a,m,c,a',m',c'⟩)) (hf:Fresh W w.heap.size l o a m c a' m' c' cl co) (hb:uB w W) (hd:x.defers= []) (ht:x.tmps[2]? =some (.pointer (some ⟨w.heap.size+1,0,none⟩))):
 bodyPost Tryz.prog Tryz.f30 (CopyPost w k n s l o) .ret x W:=
 ⟨hd,_,zqa ht h,⟨_,_,_,_,_,_,_,_,rfl,hf⟩,hb⟩
set_option maxRecDepth 100000 in
theorem zfo (l:List V) (o:List (ByteArray×V)) (IHl:∀x ∈ l,CopyIH x) (IHo:∀x ∈ o,CopyIH x.2) (w:World) (k n:Int) (s:ByteArray) (la:Option Addr) (ll lc:Nat) (oa:Option Addr) (ol oc:Nat) (h1:IsVals w w.heap.size l la ll lc) (h2:IsFields w w.heap.size o oa ol oc):
 uP 30 #[.agg (uU k n s la ll lc oa ol oc)] w (CopyPost w k n s l o):=by
 delta uU uP
 obtain ⟨i0,hi0,hz0,hz1,hz2⟩:=info_parts Yh
 obtain ⟨j0,hj0,hy0,hy1,hy2⟩:=info_parts Yj
 have k1:=h1.few;have k2:=h1.max;have k3:=h2.few;have k4:=h2.max
 have HLN:=qh h1.len
 have HON:=qh h2.len
 have HL:=qh h1
 have HO:=qh h2
 have HIL:=qh IHl
 have HIO:=qh IHo
 have HST:=qh (CL.start w ⟨k,n,s,la,ll,lc,oa,ol,oc⟩ 36 36 l)
 clear h1 h2 IHl IHo
 go_enter Tryz.func30,Tryz.ntmps30
 generalize hQ0:bodyPost _ _ _=Q0
 have HQ:=qh hQ0
 clear hQ0
 go_wp2_with fail
 go_loopw [3,4] (fun u i wr=>∃(j:Nat) (a:Option Addr) (m c:Nat) (xs:List V) (cs:List VC),j<=ll/\i= .int .i64 j/\u= .slice a m c/\CL1 w wr ⟨k,n,s,la,ll,lc,oa,ol,oc⟩ l j a m c xs cs) (fun _ i _=>ll - (intOf i).toNat)
 case atStart=>exact ⟨0,none,0,0, [], [],Nat.zero_le _,rfl,rfl,HST.out⟩
 case round =>
  obtain ⟨j,a,m,c,xs,cs,hj,rfl,rfl,L⟩:=hrel
  obtain ⟨b0,b1,b2,b3,b4⟩:=row5 L.box.at_
  have g0:=L.box.fr 3;have g1:=L.box.fr 4
  have zs0:=L.box.lt;have zs1:=L.res.lt
  by_cases hlt:j<ll
  .obtain ⟨b,q,f,hp,rfl,hbB,hv,hI⟩:=(HL.out.keep L.below).get hlt
   have c0:=hv.c0;have c1:=hv.c1;have c2:=hv.c2;have c3:=hv.c3;have c4:=hv.c4
   have hbw:b<wr.heap.size:=World.block_lt_of_cell? wr _ c0
   have HC:Hid (uP 30 #[.agg (uV f)] wr (NewVal wr l[j])):=HIL.out l[j] (List.getElem_mem hp) wr f (hI.more L.below.size)
   have LL:=qh L
   clear L hv hI
   go_wp2_with fail
   refine HC.out.mono ?_
   rintro e w4 ⟨⟨cx,rfl,hI4⟩,hb4⟩
   have L:=LL.out
   have hrow:RowV w4 (w.heap.size+2) (.slice a m c) xs cs:=L.row.later (PV.closed xs cs) (.of_below 0 hb4) (by omega)
   have ho4:=hrow.own
   rw [L.len] at ho4
   have hsz4:=hb4.size
   have HI4:=qh hI4
   have HB4:=qh hb4
   clear L hrow hI4 hb4
   go_wp2_with (at_builtin;refine wpList_append_lies _ rfl (.tmp 14) (.tmp 21) 33 (by rfl) (w.heap.size+2) 36 i0 _ 5 80 Tryz.underlying33 hi0 hz0 hz1 hz2 rfl (by omega) (.slice a m c) j (cs.flatMap vcells) (by rfl) (ho4.alloc _) ⟨w4.heap.size,0,none⟩ 1 1 (vcells cx) (by rfl) (by rfl) (World.news_of_block (t:=36) (fr:=(0,0)) (heap_alloc_new w4 (.cells (uV cx) 36))) (by simp [vcells,Value.oneCell']) (by omega) (by unfold maxLen;omega) (by omega) (by simp;omega) (w4.heap.size+1) (by simp) ?_;intro g cap w7 hown7 hgrow7 hat7 hlt7)
   go_roundw
   case rel=>exact ⟨j+1,some ⟨g,0,none⟩,j+1,cap,xs++ [l[j]],cs++ [cx],by omega,by go_num,rfl,LL.out.round hp rfl HB4.out HI4.out ((Below.refl _ _).alloc (Nat.le_refl _) _) hown7 hgrow7 (hat7.imp_right fun e=>by omega)⟩
   case measure=>simp [intOf];omega
  .have hjn:j=ll:=by omega
   subst hjn
   obtain ⟨w1,hw1⟩:∃w1,w1=wr:=⟨_,rfl⟩
   subst hw1
   have LL:=qh L
   clear L
   go_wp2_with fail
   go_loopw [5,6] (fun u i wr=>∃(i':Nat) (a':Option Addr) (m' c':Nat) (xs':List (ByteArray×V)) (cs':List (ByteArray×VC)),i'<=ol/\i= .int .i64 i'/\u= .slice a' m' c'/\CL2 w1 wr o i' a' m' c' xs' cs') (fun _ i _=>ol - (intOf i).toNat)
   case atStart=>exact ⟨0,none,0,0, [], [],Nat.zero_le _,rfl,rfl,⟨rfl,rfl,rfl,by omega,Below.refl _ _,Row.nil _ _ _ _ _⟩⟩
   case round=>
    obtain ⟨i',a',m',c',xs',cs',hi',rfl,rfl,L⟩:=hrel
    have zs9:=LL.out.below.size
    have zs8:=LL.out.box.lt
    have zt9:=L.below.size
    have BX:=LL.out.box.keep L.below zs0
    have BR:=LL.out.res.keep L.below zs1
    obtain ⟨b0,b1,b2,b3,b4⟩:=row5 BX.at_
    obtain ⟨r0,r1,r2,r3,r4⟩:=row5 BR.at_
    have g0:=BX.fr 3;have g1:=BX.fr 4
    have f0:=BR.fr 0;have f1:=BR.fr 1;have f2:=BR.fr 2;have f3:=BR.fr 3;have f4:=BR.fr 4
    have zs0:=BX.lt;have zs1:=BR.lt
    have HBX:=qh BX
    have HBR:=qh BR
    clear BX BR
    by_cases hlt:i'<ol
    .obtain ⟨b,q,f,hp,rfl,hbB,hkey,hks,hv,hI⟩:=((HO.out.keep LL.out.below).keep (L.below.mono zs9)).get hlt
     have c0:=hv.c0;have c1:=hv.c1;have c2:=hv.c2;have c3:=hv.c3;have c4:=hv.c4
     have hbw:b<wr.heap.size:=World.block_lt_of_cell? wr _ hkey
     obtain ⟨sk,hsk⟩:∃sk,o[i'].1=sk:=⟨_,rfl⟩
     rw [hsk] at hkey hks
     have HSK:=qh hsk
     have HC:Hid (uP 30 #[.agg (uV f)] wr.drew (NewVal wr.drew o[i'].2)):=HIO.out o[i'] (List.getElem_mem hp) wr.drew f ((hI.keep ((Zf wr).mono (by omega))).more (by show w.heap.size<=wr.heap.size;omega))
     have HFO:Hid (∀W,Below wr.drew.heap.size wr.drew W->W.ownsRow w1.heap.size 75 6 (.slice a' m' c') i' (cs'.flatMap fcells)/\wr.heap.size<=W.heap.size):=by
      intro W hW
      have ho:=((L.row.later (rb:=0) (PF.closed xs' cs') (.of_below _ (Zf wr)) (by omega)).later (rb:=0) (PF.closed xs' cs') (.of_below _ hW) (by omega)).own
      rw [L.len] at ho
      exact ⟨ho,hW.size⟩
     have HFB:Hid (∀W,Below w1.heap.size wr.drew W->W.cell? ⟨w.heap.size,4,none⟩=some (.slice (some ⟨b,q,none⟩) ol oc)/\W.cell? ⟨b,q+i'*6,none⟩=some (.string sk)/\W.cell? ⟨b,q+i'*6+1,none⟩=some (.int .u8 f.k)/\W.cell? ⟨b,q+i'*6+1+1,none⟩=some (.int .i64 f.n)/\W.cell? ⟨b,q+i'*6+1+2,none⟩=some (.string f.s)/\W.cell? ⟨b,q+i'*6+1+3,none⟩=some (.slice f.la f.ll f.lc)/\W.cell? ⟨b,q+i'*6+1+4,none⟩=some (.slice f.oa f.ol f.oc)):=by
      intro W hW
      have hk:∀b o u,b<w1.heap.size->wr.cell? ⟨b,o,none⟩=some u->W.cell? ⟨b,o,none⟩=some u:=fun b o u hb h=>Za hW (Za (Zf wr) h (by omega)) hb
      exact ⟨hk _ _ _ zs8 b4,hk _ _ _ (by omega) hkey,hk _ _ _ (by omega) c0,hk _ _ _ (by omega) c1,hk _ _ _ (by omega) c2,hk _ _ _ (by omega) c3,hk _ _ _ (by omega) c4⟩
     have hrlt:∀g,(Value.slice a' m' c').ownBlock=some g->w1.heap.size<=g:=fun g hg=>(L.row.lt g hg).1
     have LM:=qh L
     clear L hv hI hsk
     go_wp2_with fail
     refine wp_region_noPanic ?_
     go_region_held_law (fun W=>W.cell? ⟨w.heap.size,4,none⟩=some (.slice (some ⟨b,q,none⟩) ol oc)/\W.cell? ⟨b,q+i'*6,none⟩=some (.string sk)/\W.cell? ⟨b,q+i'*6+1,none⟩=some (.int .u8 f.k)/\W.cell? ⟨b,q+i'*6+1+1,none⟩=some (.int .i64 f.n)/\W.cell? ⟨b,q+i'*6+1+2,none⟩=some (.string f.s)/\W.cell? ⟨b,q+i'*6+1+3,none⟩=some (.slice f.la f.ll f.lc)/\W.cell? ⟨b,q+i'*6+1+4,none⟩=some (.slice f.oa f.ol f.oc))
      (first|exact HFB.out _ (Below.refl _ _)|exact HFB.out _ (hb4.mono zt9)|exact HFB.out _ ((hb4.mono zt9).alloc (Nat.le_trans zt9 hb4.size) _)|exact HFB.out _ hb5)
      (first
       |(go_at_call 30;refine (HC.out).mono ?_;rintro e w4 ⟨⟨cx,rfl,hI4⟩,hb4⟩;obtain ⟨ho4,hz4⟩:=HFO.out w4 hb4)
       |(refine step_append_lies _ (by rfl) _ _ _ (by rfl) w1.heap.size 75 j0 _ 6 96 (by kernel_rfl) hj0 hy0 hy1 hy2 rfl (by omega) (.slice a' m' c') i' (cs'.flatMap fcells) (by rfl) (ho4.alloc _) ⟨w4.heap.size,0,none⟩ 1 1 (fcells (sk,cx)) (by rfl) (by rfl) (World.news_of_block (t:=75) (fr:=(0,0)) (heap_alloc_new w4 _)) (by simp [fcells,Value.oneCell']) (by omega) (by unfold maxLen;omega) (by omega) (by simp;omega) (w4.heap.size+1) (by simp) ?_;intro g cap w5 hown5 hgrow5 hat5 hlt5;have hb5:=((hb4.mono zt9).alloc (Nat.le_trans zt9 hb4.size) _).trans (Zj hgrow5 hrlt (by simp;omega))))
     all_goals
      refine NoPanic.normal ?_
      go_wp2_with fail
      go_roundw
      case rel=>exact ⟨i'+1,some ⟨g,0,none⟩,i'+1,cap,xs'++ [(sk,o[i'].2)],cs'++ [(sk,cx)],by omega,by go_num,rfl,(LM.out.behind (Zf wr)).round hp HSK.out rfl hks hb4 hI4 ((Below.refl _ _).alloc (Nat.le_refl _) _) hown5 hgrow5 (hat5.imp_right fun e=>by omega)⟩
      case measure=>simp [intOf];omega
    .have hin:i'=ol:=by omega
     subst hin
     have LM:=qh L
     clear L
     go_wp2_with fail
     rw [<-HQ.out]
     have W1:=RStep.self (W:=wr) (b:=w.heap.size) (o:=3) (x:= .slice a m c)
     have W2:=W1.trans (RStep.self (o:=4) (x:= .slice a' m' c'))
     have W3:=Zi ((wr.setCell ⟨w.heap.size,3,none⟩ (.slice a m c)).setCell ⟨w.heap.size,4,none⟩ (.slice a' m' c')) (w.heap.size+1) 0 ⟨k,n,s,a,m,c,a',m',c'⟩
     have hbw:uB w wr:=LL.out.below.trans (LM.out.below.mono zs9)
     have hfin:=Z5 ((HBR.out.far (o:=3) (x:= .slice a m c) (show w.heap.size+1≠w.heap.size by omega)).far (o:=4) (x:= .slice a' m' c') (show w.heap.size+1≠w.heap.size by omega)) ⟨k,n,s,a,m,c,a',m',c'⟩
     exact zlg hfin (zn5 LL.out LM.out (by rw [<-HLN.out];omega) (by rw [<-HON.out];omega) (by rw [<-HLN.out];omega) (by rw [<-HON.out];omega) (Nat.le_trans W2.size W3.size) (fun q hq h1 h2=>(W3.block q (Nat.lt_of_lt_of_le hq W2.size) h2).trans (W2.block q hq h1))) ((hbw.trans (W2.below (by omega)|>.mono (by omega))).trans (W3.below (by have:=W2.size;omega)|>.mono (by omega))) rfl rfl
theorem Fresh.new {w:World} {v:V} {c0:VC} (h:IsVal w w.heap.size v c0) {e:Ending} {w':World} (hc:CopyPost w c0.k c0.n c0.s v.ls v.os e w'):NewVal w v e w':=by
 obtain ⟨k,n,s,l,o,rfl⟩:=v.eta
 obtain ⟨rfl,rfl,rfl,hb,_,_⟩:=h.lists
 obtain ⟨⟨a,m,c,a',m',c',cl,co,rfl,hf⟩,hbl⟩:=hc
 exact ⟨⟨⟨c0.k,c0.n,c0.s,a,m,c,a',m',c'⟩,rfl,hf.val hb.k0 hb.k1 hb.n0 hb.n1 hb.s1⟩,hbl⟩
theorem Yp (v:V):CopyIH v:=by
 induction v using V.ind with
 | h k n s l o ihl iho=>
   intro W c h
   obtain ⟨rfl,rfl,rfl,hb,h1,h2⟩:=h.lists
   exact (zfo l o ihl iho W c.k c.n c.s c.la c.ll c.lc c.oa c.ol c.oc h1 h2).mono fun e w' hc=>Fresh.new h hc
theorem _root_.Go.RowKit.Below.set_ {B b o:Nat} {a w:World} {x:Value} (h:Below B a w) (hb:B<=b):Below B a (w.setCell ⟨b,o,none⟩ x):=
 h.trans ⟨rfl,rfl,rfl,by simp,fun k hk=>heap_setCell_other _ _ _ _ (show k≠b by omega)⟩
theorem Zr (w:World) (o:Obj):Below w.heap.size w.drew (w.alloc o).drew:=(Below.refl w.heap.size w.drew).alloc (Nat.le_refl _) o
theorem Xn {w W:World} {cs:Array Value} {t:TypeId} (hb:Below (w.alloc (.cells cs t)).drew.heap.size (w.alloc (.cells cs t)).drew W):BC W w.heap.size cs.toList:=
 ((BC.start w cs t).keep (Zf _) (by simp)).keep hb (show w.heap.size<(w.alloc (.cells cs t)).heap.size by simp)
theorem _root_.Go.RowKit.Below.set5' {B b:Nat} {a w:World} (h:Below B a w) (hb:B<=b) (x0 x1 x2 x3 x4:Value):Below B a (((((w.setCell ⟨b,0,none⟩ x0).setCell ⟨b,1,none⟩ x1).setCell ⟨b,2,none⟩ x2).setCell ⟨b,3,none⟩ x3).setCell ⟨b,4,none⟩ x4):=
 ((((h.set_ hb).set_ hb).set_ hb).set_ hb).set_ hb
theorem _root_.Go.RowKit.Below.set5 {B:Nat} {a w:World} (h:Below B a w) (x0 x1 x2 x3 x4:Value):Below B a (((((w.setCell ⟨B,0,none⟩ x0).setCell ⟨B,1,none⟩ x1).setCell ⟨B,2,none⟩ x2).setCell ⟨B,3,none⟩ x3).setCell ⟨B,4,none⟩ x4):=h.set5' (Nat.le_refl _) _ _ _ _ _
theorem StepPost.gen {w0:World} {B0:Nat} {w:World} {r:Option (V×Nat)} {e:Ending} {w':World} (h:StepPost w0 B0 w r e w'):∃(d:VC) (k er:Int),e= .returned (.tuple #[.agg #[.int .u8 d.k, .int .i64 d.n, .string d.s, .slice d.la d.ll d.lc, .slice d.oa d.ol d.oc], .int .i64 k, .int .i64 er])/\Hid ((r=none/\er=30)∨∃q,r=some q/\k=(q.2:Int)/\er=0/\IsVal w0 B0 q.1 d)/\uB w w':=by
 delta uB
 obtain ⟨h1,h2⟩:=h
 cases r with
 |none=>exact ⟨vzero,0,30,h1, .inl ⟨rfl,rfl⟩,h2⟩
 | some q=>
   obtain ⟨c,h3,h4⟩:=h1
   exact ⟨c,q.2,0,h3, .inr ⟨q,rfl,rfl,rfl,h4⟩,h2⟩
theorem Zt {Q:Exit->Act->World->Prop} {a:Act} {W0:World} (P:World->Prop) (h0:P W0) (h:∀W,P W->Q .normal a W):NoPanic Q .normal a W0:=h W0 h0
theorem Ja {w w4:World} (h:Below w.heap.size w.drew w4) (hz:w.heap.size<=w4.heap.size) (d:VC) (t:TypeId):BC (w4.alloc (.cells (uV d) t)) w4.heap.size (vcells d)/\Below w.heap.size w.drew (w4.alloc (.cells (uV d) t))/\w.heap.size<=w4.heap.size:=
 ⟨BC.start w4 (uV d) t,h.alloc hz _,hz⟩
theorem Jr {w w4:World} (h:Below w.heap.size w.drew w4) (d:VC) (x:BC w4 w.heap.size [.int .u8 0, .int .i64 0, .string { data:= #[] }, .slice none 0 0, .slice none 0 0]):BC (((((w4.setCell ⟨w.heap.size,0,none⟩ (.int .u8 d.k)).setCell ⟨w.heap.size,1,none⟩ (.int .i64 d.n)).setCell ⟨w.heap.size,2,none⟩ (.string d.s)).setCell ⟨w.heap.size,3,none⟩ (.slice d.la d.ll d.lc)).setCell ⟨w.heap.size,4,none⟩ (.slice d.oa d.ol d.oc)) w.heap.size (vcells d)/\Below w.heap.size w.drew (((((w4.setCell ⟨w.heap.size,0,none⟩ (.int .u8 d.k)).setCell ⟨w.heap.size,1,none⟩ (.int .i64 d.n)).setCell ⟨w.heap.size,2,none⟩ (.string d.s)).setCell ⟨w.heap.size,3,none⟩ (.slice d.la d.ll d.lc)).setCell ⟨w.heap.size,4,none⟩ (.slice d.oa d.ol d.oc))/\w.heap.size<=w.heap.size:=
 ⟨Z5 (c0:=vzero) x d,Below.set5' h (Nat.le_refl _) _ _ _ _ _,Nat.le_refl _⟩
def GetPost (w:World) (r:Option V) (e:Ending) (w':World):Prop:=
 (match r with
  |some x=>∃c:VC,e= .returned (.tuple #[.agg #[.int .u8 c.k, .int .i64 c.n, .string c.s, .slice c.la c.ll c.lc, .slice c.oa c.ol c.oc], .int .i64 0])/\IsVal (only (fun b=>w.heap.size<=b) w') w'.heap.size x c
  |none=>e= .returned (.tuple #[.agg #[.int .u8 0, .int .i64 0, .string { data:= #[] }, .slice none 0 0, .slice none 0 0], .int .i64 30]))/\Below w.heap.size w w'
theorem ze2 {tmps:Array Value} {W:World} {b:Nat} {c:VC} {x:Value} (ht:tmps[4]? =some (.pointer (some ⟨b,0,none⟩))) (hx:tmps[5]? =some x) (h:BC W b (vcells c)):
 (results Tryz.f38 tmps).run Tryz.prog W= .ok (.tuple #[.agg #[.int .u8 c.k, .int .i64 c.n, .string c.s, .slice c.la c.ll c.lc, .slice c.oa c.ol c.oc],x]) W:=by
 obtain ⟨r0,r1,r2,r3,r4⟩:=(⟨h.at_ 0 _ rfl,h.at_ 1 _ rfl,h.at_ 2 _ rfl,h.at_ 3 _ rfl,h.at_ 4 _ rfl⟩:W.cell? ⟨b,0,none⟩=some (.int .u8 c.k)/\W.cell? ⟨b,1,none⟩=some (.int .i64 c.n)/\W.cell? ⟨b,2,none⟩=some (.string c.s)/\W.cell? ⟨b,3,none⟩=some (.slice c.la c.ll c.lc)/\W.cell? ⟨b,4,none⟩=some (.slice c.oa c.ol c.oc))
 simp [results,Tryz.results38,go_sem,ht,hx,r0,r1,r2,r3,r4]
theorem zj5 {w W:World} {x:Act} (h:BC W (w.heap.size+1) (vcells vzero)) (hb:uB w W) (hd:x.defers= []) (ht:x.tmps[4]? =some (.pointer (some ⟨w.heap.size+1,0,none⟩))) (hx:x.tmps[5]? =some (.int .i64 30)):
 bodyPost Tryz.prog Tryz.f38 (GetPost w none) .ret x W:=⟨hd,_,ze2 ht hx h,rfl,hb⟩
theorem zpz {w W:World} {x:Act} {c:VC} {v:V} (h:BC W (w.heap.size+1) (vcells c)) (hv:IsVal (only (fun b=>w.heap.size<=b) W) W.heap.size v c) (hb:uB w W) (hd:x.defers= []) (ht:x.tmps[4]? =some (.pointer (some ⟨w.heap.size+1,0,none⟩))) (hx:x.tmps[5]? =some (.int .i64 0)):
 bodyPost Tryz.prog Tryz.f38 (GetPost w (some v)) .ret x W:=⟨hd,_,ze2 ht hx h,⟨c,rfl,hv⟩,hb⟩
structure GB (w W:World) (c:VC):Prop where
 v:BC W w.heap.size (vcells c)
 r:BC W (w.heap.size+1) (vcells vzero)
 below:Below w.heap.size w W
theorem GB.start (w:World) (c:VC) (t1 t3:TypeId):GB w ((w.alloc (.cells (uV c) t1)).alloc (.cells (uU 0 0 { data:= #[] } none 0 0 none 0 0) t3)) c:=by
 delta uV uU
 have h:=CL.start w c t1 t3 []
 exact ⟨h.box,h.res,h.below⟩
theorem GB.next {w W W':World} {c:VC} {B:Nat} (h:GB w W c) (hb:Below B W W') (hB:w.heap.size+2<=B):GB w W' c:=
 ⟨h.v.keep hb (by omega),h.r.keep hb (by omega),h.below.trans (hb.mono (by omega))⟩
theorem GB.store {w W:World} {c:VC} (h:GB w W c) (d:VC):GB w (((((W.setCell ⟨w.heap.size,0,none⟩ (.int .u8 d.k)).setCell ⟨w.heap.size,1,none⟩ (.int .i64 d.n)).setCell ⟨w.heap.size,2,none⟩ (.string d.s)).setCell ⟨w.heap.size,3,none⟩ (.slice d.la d.ll d.lc)).setCell ⟨w.heap.size,4,none⟩ (.slice d.oa d.ol d.oc)) d:=
 ⟨Z5 h.v d,h.r.next (Zi W w.heap.size 0 d) (by omega),Below.set5' h.below (Nat.le_refl _) _ _ _ _ _⟩
theorem GB.result {w W:World} {c:VC} (h:GB w W c) (d:VC):BC (((((W.setCell ⟨w.heap.size+1,0,none⟩ (.int .u8 d.k)).setCell ⟨w.heap.size+1,1,none⟩ (.int .i64 d.n)).setCell ⟨w.heap.size+1,2,none⟩ (.string d.s)).setCell ⟨w.heap.size+1,3,none⟩ (.slice d.la d.ll d.lc)).setCell ⟨w.heap.size+1,4,none⟩ (.slice d.oa d.ol d.oc)) (w.heap.size+1) (vcells d)/\uB w (((((W.setCell ⟨w.heap.size+1,0,none⟩ (.int .u8 d.k)).setCell ⟨w.heap.size+1,1,none⟩ (.int .i64 d.n)).setCell ⟨w.heap.size+1,2,none⟩ (.string d.s)).setCell ⟨w.heap.size+1,3,none⟩ (.slice d.la d.ll d.lc)).setCell ⟨w.heap.size+1,4,none⟩ (.slice d.oa d.ol d.oc)):=
 ⟨Z5 h.r d,Below.set5' h.below (by omega) _ _ _ _ _⟩
set_option maxRecDepth 100000 in
theorem X3 (w:World) (vk vn:Int) (vs:ByteArray) (la:Option Addr) (ll lc:Nat) (oa:Option Addr) (ol oc:Nat) (v:V) (hv:IsVal w w.heap.size v ⟨vk,vn,vs,la,ll,lc,oa,ol,oc⟩) (p:List St) (a:Option Addr) (n c:Nat) (hp:IsSteps w w.heap.size p a n c):
 uP 38 #[.agg (uU vk vn vs la ll lc oa ol oc), .slice a n c] w (GetPost w (getP v p)):=by
 delta uU uP
 have k1:=hp.few;have k2:=hp.max
 have HLN:=qh hp.len
 have HP:=qh hp
 have HV:=qh hv
 have HB:=qh (GB.start w ⟨vk,vn,vs,la,ll,lc,oa,ol,oc⟩ 36 36)
 obtain ⟨R,hR⟩:∃R,getP v p=R:=⟨_,rfl⟩
 rw [hR]
 have HR:=qh hR
 clear hp hv hR
 go_enter Tryz.func38,Tryz.ntmps38
 generalize hQ0:bodyPost _ _ _=Q0
 have HQ:=qh hQ0
 clear hQ0
 go_wp2_with fail
 go_loopw [6,7,8,9] (fun i _ _ _ wr=>∃(j:Nat) (x:V) (c:VC),j<=n/\i= .int .i64 j/\Hid (getP x (p.drop j)=R)/\Hid (IsVal w w.heap.size x c)/\GB w wr c) (fun i _ _ _ _=>n - (intOf i).toNat)
 case atStart=>exact ⟨0,v,_,Nat.zero_le _,rfl,HR,HV,HB.out⟩
 case round=>
  obtain ⟨j,x,cx,hj,rfl,HX,HXV,B⟩:=hrel
  clear HB HR HV
  obtain ⟨v0,v1,v2,v3,v4⟩:=row5 B.v.at_
  obtain ⟨r0,r1,r2,r3,r4⟩:=row5 B.r.at_
  have e0:=B.v.fr 0;have e1:=B.v.fr 1;have e2:=B.v.fr 2;have e3:=B.v.fr 3;have e4:=B.v.fr 4
  have f0:=B.r.fr 0;have f1:=B.r.fr 1;have f2:=B.r.fr 2;have f3:=B.r.fr 3;have f4:=B.r.fr 4
  have zs0:=B.v.lt;have zs1:=B.r.lt
  have HBB:=qh B
  by_cases hlt:j<n
  .obtain ⟨b,q,hpl,rfl,hbB,hs,hsb⟩:=HP.out.get hlt
   have hs:=hs.keep B.below hbB
   obtain ⟨s,hse⟩:∃s,p[j] =s:=⟨_,rfl⟩
   rw [hse] at hs hsb
   have s0:=hs.c0;have s1:=hs.c1;have s2:=hs.c2
   have hbw:b<wr.heap.size:=World.block_lt_of_cell? wr _ s0
   have hdr:p.drop j=s::p.drop (j+1):=by rw [<-hse];exact List.drop_eq_getElem_cons hpl
   have HDR:=qh hdr
   have hzs:=B.below.size
   have HC:Hid (∀W,Below wr.heap.size wr.drew W->uP 73 #[.agg (uV cx), .agg #[.bool s.list, .int .i64 s.i, .string s.key]] W (StepPost w w.heap.size W (stepP x s))):=fun W hW=>K8 W cx.k cx.n cx.s cx.la cx.ll cx.lc cx.oa cx.ol cx.oc x w w.heap.size ((HBB.out.below.trans ((Zf wr).mono hzs)).trans (hW.mono hzs)) (Nat.le_trans hzs hW.size) HXV.out s hsb
   have HFB:Hid (∀W,Below wr.heap.size wr.drew W->W.cell? ⟨w.heap.size,0,none⟩=some (.int .u8 cx.k)/\W.cell? ⟨w.heap.size,1,none⟩=some (.int .i64 cx.n)/\W.cell? ⟨w.heap.size,2,none⟩=some (.string cx.s)/\W.cell? ⟨w.heap.size,3,none⟩=some (.slice cx.la cx.ll cx.lc)/\W.cell? ⟨w.heap.size,4,none⟩=some (.slice cx.oa cx.ol cx.oc)/\W.cell? ⟨b,q+j*3,none⟩=some (.bool s.list)/\W.cell? ⟨b,q+j*3+1,none⟩=some (.int .i64 s.i)/\W.cell? ⟨b,q+j*3+2,none⟩=some (.string s.key)):=by
    intro W hW
    have hk:∀b o u,b<wr.heap.size->wr.cell? ⟨b,o,none⟩=some u->W.cell? ⟨b,o,none⟩=some u:=fun b o u hb h=>Za hW (Za (Zf wr) h hb) hb
    exact ⟨hk _ _ _ zs0 v0,hk _ _ _ zs0 v1,hk _ _ _ zs0 v2,hk _ _ _ zs0 v3,hk _ _ _ zs0 v4,hk _ _ _ hbw s0,hk _ _ _ hbw s1,hk _ _ _ hbw s2⟩
   have HST:=qh (show stepP x s=stepP x s from rfl)
   clear B hs hdr HST
   go_wp2_with fail
   refine wp_region_noPanic ?_
   go_region_held_law (fun W=>W.cell? ⟨w.heap.size,0,none⟩=some (.int .u8 cx.k)/\W.cell? ⟨w.heap.size,1,none⟩=some (.int .i64 cx.n)/\W.cell? ⟨w.heap.size,2,none⟩=some (.string cx.s)/\W.cell? ⟨w.heap.size,3,none⟩=some (.slice cx.la cx.ll cx.lc)/\W.cell? ⟨w.heap.size,4,none⟩=some (.slice cx.oa cx.ol cx.oc)/\W.cell? ⟨b,q+j*3,none⟩=some (.bool s.list)/\W.cell? ⟨b,q+j*3+1,none⟩=some (.int .i64 s.i)/\W.cell? ⟨b,q+j*3+2,none⟩=some (.string s.key))
    ((refine HFB.out _ ?_;(first|(with_reducible exact bl4)|(with_reducible exact Below.refl _ _)|(with_reducible exact Zr _ _)|(with_reducible exact Below.set5 bl4 _ _ _ _ _)|(with_reducible exact Below.set5' (Below.alloc bl4 bz4 _) bz4 _ _ _ _ _)|(with_reducible exact Below.alloc bl4 bz4 _))))
    (first
     |(go_at_call 73;(with_reducible refine (HC.out _ (Below.refl _ _)).mono ?_);rintro e w4 h4;obtain ⟨d,kk,er,rfl,hrel,hb4⟩:=StepPost.gen h4;clear h4;have bl4:Below wr.heap.size wr.drew w4:=hb4;have bz4:wr.heap.size<=w4.heap.size:=hb4.size)
     |(go_at_call 73;(with_reducible refine (HC.out _ (Zr _ _)).mono ?_);rintro e w4 h4;obtain ⟨d,kk,er,rfl,hrel,hb4⟩:=StepPost.gen h4;clear h4;have bl4:Below wr.heap.size wr.drew w4:=(Zr _ _).trans (hb4.mono (by simp));have bz4:wr.heap.size<=w4.heap.size:=bl4.size;have XB:=Xn hb4;obtain ⟨xc0,xc1,xc2,xc3,xc4⟩:=row5 XB.at_;have xg0:=XB.fr 0;have xg1:=XB.fr 1;have xg2:=XB.fr 2;have xg3:=XB.fr 3;have xg4:=XB.fr 4;have xl:=XB.lt))
   all_goals
    (first
     |(with_reducible refine Zt (P:=fun W=>BC W w4.heap.size (vcells d)/\Below wr.heap.size wr.drew W/\wr.heap.size<=w4.heap.size) (Ja bl4 bz4 d _) ?_)
     |(with_reducible refine Zt (P:=fun W=>BC W wr.heap.size (vcells d)/\Below wr.heap.size wr.drew W/\wr.heap.size<=wr.heap.size) (Jr bl4 d XB) ?_))
    rintro W ⟨XF,hbW,hxb⟩
    have B2:=HBB.out.next ((Zf wr).trans hbW) (Nat.succ_le_of_lt zs1)
    clear v0 v1 v2 v3 v4 r0 r1 r2 r3 r4 e0 e1 e2 e3 e4 f0 f1 f2 f3 f4 s0 s1 s2 hb4 bl4
    obtain ⟨v0,v1,v2,v3,v4⟩:=row5 B2.v.at_
    obtain ⟨r0,r1,r2,r3,r4⟩:=row5 B2.r.at_
    have e0:=B2.v.fr 0;have e1:=B2.v.fr 1;have e2:=B2.v.fr 2;have e3:=B2.v.fr 3;have e4:=B2.v.fr 4
    have f0:=B2.r.fr 0;have f1:=B2.r.fr 1;have f2:=B2.r.fr 2;have f3:=B2.r.fr 3;have f4:=B2.r.fr 4
    obtain ⟨y0,y1,y2,y3,y4⟩:=row5 XF.at_
    have zt0:=B2.v.lt;have zt1:=B2.r.lt;have zt2:=XF.lt
    have HB2:=qh B2
    clear B2 XF hbW
    rcases hrel.out with ⟨hst,rfl⟩|⟨qq,hst,rfl,rfl,hI⟩
    .obtain rfl:R=none:=by rw [<-HX.out,HDR.out,getP,hst]
     clear hst
     go_wp2_with fail
     rw [<-HQ.out]
     have ST:=HB2.out.result ⟨0,0, { data:= #[] },none,0,0,none,0,0⟩
     exact zj5 ST.1 ST.2 rfl rfl rfl
    .have hnx:getP qq.1 (p.drop (j+1))=R:=by rw [<-HX.out,HDR.out,getP,hst]
     have HNX:=qh hnx
     have HI:=qh hI
     clear hst hnx hI
     go_wp2_with fail
     go_roundw
     case rel=>exact ⟨j+1,qq.1,d,by omega,by go_num,HNX,HI,HB2.out.store d⟩
     case measure=>simp [intOf];omega
  .have hjn:j=n:=by omega
   subst hjn
   obtain rfl:R=some x:=by rw [<-HX.out,HLN.out,List.drop_length,getP]
   have HC:Hid (uP 30 #[.agg (uV cx)] wr (NewVal wr x)):=Yp x wr cx ((HXV.out.keep B.below).more B.below.size)
   clear B
   go_wp2_with fail
   refine HC.out.mono ?_
   rintro e w4 ⟨⟨d,rfl,hI4⟩,hb4⟩
   have B2:=HBB.out.next hb4 (Nat.succ_le_of_lt zs1)
   clear v0 v1 v2 v3 v4 r0 r1 r2 r3 r4 e0 e1 e2 e3 e4 f0 f1 f2 f3 f4
   obtain ⟨r0,r1,r2,r3,r4⟩:=row5 B2.r.at_
   have f0:=B2.r.fr 0;have f1:=B2.r.fr 1;have f2:=B2.r.fr 2;have f3:=B2.r.fr 3;have f4:=B2.r.fr 4
   have zt0:=B2.v.lt;have zt1:=B2.r.lt
   have HB2:=qh B2
   have HI:=qh hI4
   clear B2 hI4 hb4
   go_wp2_with fail
   rw [<-HQ.out]
   have ST:=HB2.out.result d
   exact zpz ST.1 ((Zm HI.out (Zi w4 (w.heap.size+1) 0 d) zs1).sub (Zd fun k hk _=>⟨by have:=HBB.out.below.size;omega,rfl⟩)) ST.2 rfl rfl rfl
theorem GetPost.gen {w:World} {r:Option V} {e:Ending} {w':World} (h:GetPost w r e w'):∃(d:VC) (er:Int),e= .returned (.tuple #[.agg #[.int .u8 d.k, .int .i64 d.n, .string d.s, .slice d.la d.ll d.lc, .slice d.oa d.ol d.oc], .int .i64 er])/\Hid ((r=none/\er=30)∨∃z,r=some z/\er=0/\IsVal (only (fun b=>w.heap.size<=b) w') w'.heap.size z d)/\uB w w':=by
 delta uB
 obtain ⟨h1,h2⟩:=h
 cases r with
 |none=>exact ⟨vzero,30,h1, .inl ⟨rfl,rfl⟩,h2⟩
 | some q=>
   obtain ⟨c,h3,h4⟩:=h1
   exact ⟨c,0,h3, .inr ⟨q,rfl,rfl,h4⟩,h2⟩
theorem Kg {cs:List (ByteArray×VC)} {k j:Nat} {u:Value} (h:((cs.take k).flatMap fcells)[j]? =some u):(cs.flatMap fcells)[j]? =some u:=by
 have e:cs.flatMap fcells=(cs.take k).flatMap fcells++(cs.drop k).flatMap fcells:=by rw [<-List.flatMap_append,List.take_append_drop]
 rw [e,List.getElem?_append_left (List.getElem?_eq_some_iff.1 h).1];exact h
theorem Kl {cs:List (ByteArray×VC)} {k j:Nat} {u:Value} (hk:k<=cs.length) (h:((cs.drop k).flatMap fcells)[j]? =some u):(cs.flatMap fcells)[k*6+j]? =some u:=by
 have e:cs.flatMap fcells=(cs.take k).flatMap fcells++(cs.drop k).flatMap fcells:=by rw [<-List.flatMap_append,List.take_append_drop]
 have hl:((cs.take k).flatMap fcells).length=k*6:=by rw [Zn fcells 6 (fun _=>rfl),List.length_take,Nat.min_eq_left hk]
 rw [e,List.getElem?_append_right (by omega),hl,Nat.add_sub_cancel_left];exact h
theorem PF.with_ {o:List (ByteArray×V)} {cs:List (ByteArray×VC)} {W:World} {B:Nat} {key:ByteArray} {x:V} {cx:VC} {k k':Nat} (hl:cs.length=o.length) (h:∀i,i<o.length->PF o cs W B i) (hx:IsVal W B x cx) (hks:key.size<=140737488355328) (hk:k<=o.length) (hk':k'<=o.length):
 ∀i,i<(o.take k++(key,x)::o.drop k').length->PF (o.take k++(key,x)::o.drop k') (cs.take k++(key,cx)::cs.drop k') W B i:=by
 intro i _ hi
 have l1:(o.take k).length=k:=by rw [List.length_take,Nat.min_eq_left hk]
 have l2:(cs.take k).length=k:=by rw [List.length_take,Nat.min_eq_left (by omega)]
 rw [List.getD_eq_getElem?_getD]
 by_cases e1:i<k
 .have e2:(cs.take k++(key,cx)::cs.drop k')[i]? =cs[i]? :=by
   rw [List.getElem?_append_left (by omega),List.getElem?_take_of_lt e1]
  have e3:(o.take k++(key,x)::o.drop k')[i] =o[i]'(by omega):=by
   rw [List.getElem_append_left (by omega),List.getElem_take]
  rw [e2,e3, <-List.getD_eq_getElem?_getD]
  exact h i (by omega) (by omega)
 .by_cases e4:i=k
  .subst e4
   have e2:(cs.take i++(key,cx)::cs.drop k')[i]? =some (key,cx):=by
    rw [List.getElem?_append_right (by omega),l2,Nat.sub_self];rfl
   have e3:(o.take i++(key,x)::o.drop k')[i] =(key,x):=by
    rw [List.getElem_append_right (by omega)];simp [l1]
   rw [e2,e3]
   exact ⟨rfl,hks,hx⟩
  .obtain ⟨m,rfl⟩:∃m,i=k+1+m:=⟨i - k - 1,by omega⟩
   rw [List.length_append,List.length_cons,List.length_drop,l1] at hi
   have e2:(cs.take k++(key,cx)::cs.drop k')[k+1+m]? =cs[k'+m]? :=by
    rw [List.getElem?_append_right (by omega),l2,show k+1+m - k=m+1 by omega,List.getElem?_cons_succ,List.getElem?_drop]
   have e3:(o.take k++(key,x)::o.drop k')[k+1+m]'(by rw [List.length_append,List.length_cons,List.length_drop,l1];omega)=o[k'+m]'(by omega):=by
    rw [List.getElem_append_right (by omega)]
    simp only [l1,show k+1+m - k=m+1 by omega,List.getElem_cons_succ,List.getElem_drop]
   rw [e2,e3, <-List.getD_eq_getElem?_getD]
   exact h (k'+m) (by omega) (by omega)
theorem IsFields.sub {w w':World} {B:Nat} {l:List (ByteArray×V)} {a:Option Addr} {n c:Nat} (hs:Shows w w' B) (h:IsFields w B l a n c):IsFields w' B l a n c:=by
 obtain ⟨h1,h2,h3,h4,b,o,f,h5,h6⟩:=h
 refine ⟨h1,h2,h3,h4,b,o,f,h5,fun i hi=> ?_⟩
 have hB:=(h5 (by omega)).2
 obtain ⟨g1,g2,g3,g4⟩:=h6 i hi
 exact ⟨hs _ _ _ hB g1,g2,g3.sub hs hB,g4.sub hs⟩
theorem X9 (key:ByteArray) (cx:VC):∀u ∈ fcells (key,cx),u.oneCell'=true:=by simp [fcells,Value.oneCell']
theorem Y6 (cs:List (ByteArray×VC)):∀u ∈ cs.flatMap fcells,u.oneCell'=true:=by
 intro u hu
 obtain ⟨c,_,hc⟩:=List.mem_flatMap.1 hu
 exact X9 c.1 c.2 u hc
set_option maxRecDepth 100000 in
theorem zf5 (w:World) (B0:Nat) (hB0:B0<=w.heap.size) (o:List (ByteArray×V)) (b off ol oc:Nat) (ho:IsFields (only (fun k=>B0<=k) w) w.heap.size o (some ⟨b,off,none⟩) ol oc) (key:ByteArray) (hks:key.size<=140737488355328) (x:V) (cx:VC) (hx:IsVal (only (fun k=>B0<=k) w) w.heap.size x cx) (hpos:0<ol) (hfew:ol<=1000000) (his:fieldIs o key=false) (hke:fieldK o key<oc):
 uP 72 #[.slice (some ⟨b,off,none⟩) ol oc, .string key, .agg (uV cx)] w (WithPost w B0 (withF o key x)):=by
 delta uV uP
 obtain ⟨i0,hi0,hz0,hz1,hz2⟩:=info_parts Yj
 have hlen:=ho.len
 have hcap:=ho.cap
 have hmax:=ho.max
 obtain ⟨cs,b2,off2,hcl,hab,hcell,hpf⟩:=ho.cells
 have HCELL:Hid (∀W,uB w W->∀j u,(cs.flatMap fcells)[j]? =some u->W.cell? ⟨b,off+j,none⟩=some u):=by
  intro W hW j u hj
  have hjl:=(List.getElem?_eq_some_iff.1 hj).1
  rw [Zn fcells 6 (fun _=>rfl),hcl, <-hlen] at hjl
  obtain ⟨e,hb2⟩:=hab (by omega)
  injection e with e;injection e with e1 e2
  subst e1 e2
  exact Za hW (Z9 (hcell j u hj)).2 hb2
 obtain ⟨k,hk⟩:∃k,fieldK o key=k:=⟨_,rfl⟩
 rw [hk] at hke
 have hkl:k<=ol:=by rw [<-hk,hlen];exact Z7 o key
 have hkl2:=hkl
 have hkc:k<=cs.length:=by rw [hcl, <-hlen];exact hkl
 have hkc2:k<=cs.length:=by rw [hcl, <-hlen];omega
 have HF:Hid (∀W,uB w W->uP 75 #[.agg (uU 0 0 { data:= #[] } none 0 0 (some ⟨b,off,none⟩) ol oc), .string key] W fun e w'=>e= .returned (.tuple #[.int .i64 (k:Int), .bool false])/\uB W w'):=by
  intro W hW
  have hof:IsFields W W.heap.size o (some ⟨b,off,none⟩) ol oc:=(IsFields.keep (IsFields.sub (Zk (fun k=>B0<=k) w _) ho) hW).more hW.size
  have:=Yi W o key 0 0 { data:= #[] } none 0 0 (some ⟨b,off,none⟩) ol oc hof
  rw [hk,his] at this;exact this
 have hwf:withF o key x=o.take k++(key,x)::o.drop (k):=by rw [withF,his,hk];rfl
 rw [hwf]
 have HBX:=qh (BC.start w (uV cx) 36)
 have HAL:=qh ((Below.refl _ _).alloc (Nat.le_refl _) (.cells (uV cx) 36):uB w _)
 have HX:=qh hx
 have HPF:=qh hpf
 have HCL:=qh hcl
 have HLEN:=qh hlen
 obtain ⟨R,hR⟩:∃R,WithPost w B0 (o.take k++(key,x)::o.drop (k))=R:=⟨_,rfl⟩
 rw [hR]
 have HR:=qh hR
 obtain ⟨XA,hXA⟩:∃XA,(cs.take k).flatMap fcells=XA:=⟨_,rfl⟩
 obtain ⟨XB,hXB⟩:∃XB,(cs.drop (k)).flatMap fcells=XB:=⟨_,rfl⟩
 have hla:XA.length=k*6:=by rw [<-hXA,Zn fcells 6 (fun _=>rfl),List.length_take,Nat.min_eq_left hkc]
 have hlb:XB.length=(ol - (k))*6:=by rw [<-hXB,Zn fcells 6 (fun _=>rfl),List.length_drop,hcl, <-hlen]
 have HA1:Hid (∀u ∈ XA,u.oneCell'=true):=by unfold Hid;rw [<-hXA];exact Y6 _
 have HB1:Hid (∀u ∈ XB,u.oneCell'=true):=by unfold Hid;rw [<-hXB];exact Y6 _
 have HCA:Hid (∀W,uB w W->∀j u,XA[j]? =some u->W.cell? ((⟨b,off,none⟩:Addr).add j)=some u):=by
  intro W hW j u hj
  rw [<-hXA] at hj
  rw [Zw];exact HCELL.out W hW j u (Kg hj)
 have HCB:Hid (∀W,uB w W->∀j u,XB[j]? =some u->W.cell? ((⟨b,off+(k)*6,none⟩:Addr).add j)=some u):=by
  intro W hW j u hj
  rw [<-hXB] at hj
  rw [Zw,Nat.add_assoc];exact HCELL.out W hW _ u (Kl hkc2 hj)
 have HXA:=qh hXA
 have HXB:=qh hXB
 clear ho hab hcell hk his hx hpf hcl hlen hwf hR hXA hXB hkc hkc2
 go_enter Tryz.func72,Tryz.ntmps72
 go_wp2_with fail
 refine (HF.out _ HAL.out).mono ?_
 rintro e w1 ⟨rfl,hb1⟩
 have bl1:=HAL.out.trans (hb1.mono (by simp))
 have HBX1:=qh (HBX.out.keep hb1 (by simp))
 have zs1:w.heap.size<w1.heap.size:=HBX1.out.lt
 have HBL1:=qh bl1
 have ho1:w1.ownsRow (w.heap.size+1) 75 6 (.slice none 0 0) 0 [] :=⟨rfl, .inl ⟨rfl,rfl⟩⟩
 clear hb1 bl1
 go_wp2_with (first
  |(at_builtin;refine wpList_append_own _ rfl (.tmp 17) (.tmp 20) 34 (by rfl) (w.heap.size+1) 75 i0 _ 6 96 Tryz.underlying34 hi0 hz0 hz1 hz2 rfl (by omega) (.slice none 0 0) 0 [] (by rfl) ho1 ⟨b,off,none⟩ k oc XA (by rfl) hla (HCA.out _ HBL1.out) HA1.out (by unfold maxLen;omega) (by omega) (by omega) ?_;intro v1 w2 hown1 hgrow1 _;have b12:Below (w.heap.size+1) w1 w2:=Zj hgrow1 (fun k hk=>by simp [Value.ownBlock] at hk) (by omega);have BX2:=HBX1.out.keep b12 (by omega);obtain ⟨x0,x1,x2,x3,x4⟩:=row5 BX2.at_;have zs2:=BX2.lt;have HBL2:=qh (HBL1.out.trans (b12.mono (by omega)));have HO1:=qh hown1;have hrl:∀g,v1.ownBlock=some g->w.heap.size+1<=g/\g<w2.heap.size:=hown1.lt;have ho2:=hown1.alloc (.cells #[.string key, .int .u8 cx.k, .int .i64 cx.n, .string cx.s, .slice cx.la cx.ll cx.lc, .slice cx.oa cx.ol cx.oc] 75);have hnw:∀j u,(fcells (key,cx))[j]? =some u->(w2.alloc (.cells #[.string key, .int .u8 cx.k, .int .i64 cx.n, .string cx.s, .slice cx.la cx.ll cx.lc, .slice cx.oa cx.ol cx.oc] 75)).cell? ((⟨w2.heap.size,0,none⟩:Addr).add j)=some u:=World.news_of_block (t:=75) (fr:=(0,0)) (heap_alloc_new w2 (.cells #[.string key, .int .u8 cx.k, .int .i64 cx.n, .string cx.s, .slice cx.la cx.ll cx.lc, .slice cx.oa cx.ol cx.oc] 75));have HNW:=qh hnw;clear hnw hown1 hgrow1 BX2 b12)
  |(at_builtin;refine wpList_append_own _ rfl (.tmp 22) (.tmp 26) 34 (by rfl) (w.heap.size+1) 75 i0 _ 6 96 Tryz.underlying34 hi0 hz0 hz1 hz2 rfl (by omega) v1 (0+k) ([] ++XA) (by rfl) ho2 ⟨w2.heap.size,0,none⟩ 1 1 (fcells (key,cx)) (by rfl) (by rfl) HNW.out (X9 key cx) (by unfold maxLen;omega) (by omega) (by simp;omega) ?_;intro v2 w4 hown2 hgrow2 _;have b24:Below (w.heap.size+1) w2 w4:=(((Below.refl w2.heap.size w2).alloc (Nat.le_refl _) (.cells #[.string key, .int .u8 cx.k, .int .i64 cx.n, .string cx.s, .slice cx.la cx.ll cx.lc, .slice cx.oa cx.ol cx.oc] 75)).mono (by omega)).trans (Zj hgrow2 (fun k hk=>(hrl k hk).1) (by simp;omega));have HBL4:=qh (HBL2.out.trans (b24.mono (by omega)));have zs4:w.heap.size<w4.heap.size:=Nat.lt_of_lt_of_le zs2 b24.size;have hrl2:∀g,v2.ownBlock=some g->w.heap.size+1<=g/\g<w4.heap.size:=hown2.lt;have HO2:=qh hown2;clear hgrow2 b24 hown2)
  |(at_builtin;refine wpList_append_own _ rfl (.tmp 31) (.tmp 34) 34 (by rfl) (w.heap.size+1) 75 i0 _ 6 96 Tryz.underlying34 hi0 hz0 hz1 hz2 rfl (by omega) v2 (0+k+1) ([] ++XA++fcells (key,cx)) (by rfl) HO2.out ⟨b,off+(k)*6,none⟩ (ol - (k)) (oc - (k)) XB (by rfl) (by omega) (HCB.out _ HBL4.out) HB1.out (by unfold maxLen;omega) (by omega) (by omega) ?_;intro v3 w5 hown3 hgrow3 _;have b45:Below (w.heap.size+1) w4 w5:=Zj hgrow3 (fun k hk=>(hrl2 k hk).1) (by omega);have HBL5:=qh (HBL4.out.trans (b45.mono (by omega)));have HO3:=qh hown3;clear hgrow3 b45 hown3))
 rw [<-HR.out]
 have hcat: [] ++XA++fcells (key,cx)++XB=(cs.take k++(key,cx)::cs.drop (k)).flatMap fcells:=by rw [<-HXA.out, <-HXB.out];simp
 have hll:(o.take k++(key,x)::o.drop (k)).length=0+k+1+(ol - (k)):=by
  rw [List.length_append,List.length_cons,List.length_drop,List.length_take, <-HLEN.out,Nat.min_eq_left hkl];omega
 have hown:=HO3.out
 rw [hcat, <-hll] at hown
 have hlt3:=hown.lt
 have hsh:Shows (only (fun k=>B0<=k) w) (only (Free B0 v3) w5) w.heap.size:=Zd fun q hq hl=>⟨⟨hq,fun e=>by have:=(hlt3 q e.symm).1;omega⟩,HBL5.out.block q hl⟩
 obtain ⟨a,n,c,hv,hf,hz⟩:=Jm (B0:=B0) (B1:=w.heap.size+1) hown (by omega) (by rw [List.length_append,List.length_append,List.length_cons,List.length_cons,List.length_drop,List.length_drop,List.length_take,List.length_take,HCL.out])
  (PF.with_ HCL.out (fun i hi=>PF.closed o cs _ _ _ _ i hsh HBL5.out.size (HPF.out i hi)) ((HX.out.sub hsh).more HBL5.out.size) hks (by rw [<-HLEN.out];exact hkl) (by rw [<-HLEN.out];omega)) (by rw [hll];omega)
 exact ⟨⟨a,n,c,by rw [hv],hf,hz⟩,HBL5.out⟩
theorem zoo {P:Program} (w:World) (base:Nat) (t ty e:TypeId) (i:TypeInfo) (size:Nat) (ht:P.underlying t=some (.slice e)) (hi:P.info? e=some i)
 (v:Value) (n:Nat) (xs:List Value) (hown:w.ownsRow base e size v n xs):
 (Builtin.append_ #[t,t] ty #[v, .slice none 0 0]).run P w= .ok v w:=by
 rcases hown.2 with ⟨rfl,rfl⟩|⟨g,cap,cur,rfl,hbg,hg,hnc,hcm,hcs,htake⟩
 .simp [Builtin.append_,run_underlying ht,sizeOf,typeInfo,hi,Builtin.lenOf,Builtin.firstCells]
 .simp [Builtin.append_,run_underlying ht,sizeOf,typeInfo,hi,Builtin.lenOf,Builtin.firstCells,storeCells,hnc]
theorem zbi {P:Program} (w:World) {ops:Array Oper} {rest:List Oper} {o:Oper} {a:Act} {Q:Exit->Act->World->Prop} (hgd:o.guard=none) (s x:Operand) (t:TypeId)
 (ho:o.op= .call { callee:= .builtin .append,args:= #[s,x],argTypes:= #[t,t] })
 (base:Nat) (e:TypeId) (i:TypeInfo) (size:Nat) (ht:P.underlying t=some (.slice e)) (hi:P.info? e=some i)
 (v:Value) (n:Nat) (xs:List Value) (hs:a.eval s=v) (hown:w.ownsRow base e size v n xs)
 (hx:a.eval x= .slice none 0 0)
 (h:wpList P ops Q rest (a.put o.dst v) w):wpList P ops Q (o::rest) a w:=
 wpList_plain hgd fun _ hK=>by
  have hr:=zoo (P:=P) w base t o.type e i size ht hi v n xs hown
  unfold Oper.wp execOp
  simp only [ho,resolve,invoke,builtin,Sem.run_bind,Sem.run_pure,Result.andThen_ok,List.map_toArray,List.map_cons,List.map_nil,hs,hx,hr]
  exact hK _ _ h
def insL {α:Type} (l:List α) (i:Nat) (x:α):List α:=l.take i++x::l.drop i
def remL {α:Type} (l:List α) (i:Nat):List α:=l.take i++l.drop (i+1)
structure Piece (w:World) (a:Option Addr) (m c:Nat) (cells:List Value):Prop where
 nil:a=none->m=0/\c=0/\cells= []
 get:∀ad,a=some ad->∀j u,cells[j]? =some u->w.cell? (ad.add j)=some u
theorem Z1 {P:Program} (w:World) {ops:Array Oper} {rest:List Oper} {o:Oper} {a:Act} {Q:Exit->Act->World->Prop} (hgd:o.guard=none) (s x:Operand) (t:TypeId)
 (ho:o.op= .call { callee:= .builtin .append,args:= #[s,x],argTypes:= #[t,t] })
 (base:Nat) (e:TypeId) (i:TypeInfo) (z:Value) (size bytes:Nat) (ht:P.underlying t=some (.slice e)) (hi:P.info? e=some i) (hz:i.zero=some z)
 (hsize:i.size=size) (hby:i.bytes=bytes) (hzs:z.cells.size=size) (hsz:0<size)
 (v:Value) (n:Nat) (xs:List Value) (hs:a.eval s=v) (hown:w.ownsRow base e size v n xs)
 (sa:Option Addr) (m c:Nat) (news:List Value) (hx:a.eval x= .slice sa m c) (hp:Piece w sa m c news) (hl:news.length=m*size) (h1:∀u ∈ news,u.oneCell'=true)
 (h63:n+m<=maxLen) (hbytes:(n+m)*bytes<=140737488355328) (hbase:base<=w.heap.size)
 (h:∀v' w',w'.ownsRow base e size v' (n+m) (xs++news)->w.grownBy w' v.ownBlock->wpList P ops Q rest (a.put o.dst v') w'):wpList P ops Q (o::rest) a w:=by
 cases sa with
 | none=>
   obtain ⟨rfl,rfl,rfl⟩:=hp.nil rfl
   refine zbi w hgd s x t ho base e i size ht hi v n xs hs hown hx ?_
   exact h v w (by simpa using hown) ⟨rfl,rfl,rfl,Nat.le_refl _,fun _ _ _=>rfl⟩
 | some ad=>
   exact wpList_append_own w hgd s x t ho base e i z size bytes ht hi hz hsize hby hzs hsz v n xs hs hown ad m c news hx hl (hp.get ad rfl) h1 h63 hbytes hbase fun v' w' h2 h3 _=>h v' w' h2 h3
theorem Ya (cs:List VC):∀u ∈ cs.flatMap vcells,u.oneCell'=true:=by
 intro u hu
 obtain ⟨c,_,hc⟩:=List.mem_flatMap.1 hu
 simp [vcells] at hc
 rcases hc with rfl|rfl|rfl|rfl|rfl<;>rfl
theorem IsVals.cells {w:World} {B:Nat} {l:List V} {a:Option Addr} {n c:Nat} (h:IsVals w B l a n c):
 ∃cs:List VC,cs.length=l.length/\(∀b off,a=some ⟨b,off,none⟩->0<n->b<B/\∀j u,(cs.flatMap vcells)[j]? =some u->w.cell? ⟨b,off+j,none⟩=some u)/\∀i,i<l.length->PV l cs w B i:=by
 obtain ⟨h1,h2,h3,h4,b,off,f,h5,h6⟩:=h
 have hget:∀i (_:i<l.length),((List.range l.length).map f)[i]? =some (f i):=by
  intro i hi
  simp [hi]
 refine ⟨(List.range l.length).map f,by simp,fun b' off' e hn=> ?_,fun i hi h=> ?_⟩
 .obtain ⟨e2,hb⟩:=h5 hn
  rw [e] at e2
  injection e2 with e2;injection e2 with e2 e3
  subst e2 e3
  refine ⟨hb,fun j u hj=> ?_⟩
  have hjl:j<l.length*5:=by
   have:=(List.getElem?_eq_some_iff.1 hj).1
   rw [Zn vcells 5 (fun _=>rfl)] at this
   simpa using this
  have hi:j / 5<l.length:=by omega
  have hd:j=j / 5*5+j % 5:=by omega
  have hm:j % 5<5:=by omega
  rw [hd,Yv vcells 5 (fun _=>rfl) _ (j / 5) (j % 5) (by simpa using hi) hm] at hj
  have he:((List.range l.length).map f)[j / 5]'(by simpa using hi)=f (j / 5):=by simp
  rw [he] at hj
  obtain ⟨g1,g2⟩:=h6 (j / 5) hi
  rw [hd, <-Nat.add_assoc]
  obtain ⟨m,hmm⟩:∃m,j % 5=m:=⟨_,rfl⟩
  rw [hmm] at hj hm ⊢
  match m,hm with
  |0,_=>rw [<-hj];exact g1.c0
  |1,_=>rw [<-hj];exact g1.c1
  |2,_=>rw [<-hj];exact g1.c2
  |3,_=>rw [<-hj];exact g1.c3
  |4,_=>rw [<-hj];exact g1.c4
 .rw [List.getD_eq_getElem?_getD,hget i hi]
  exact (h6 i hi).2
def Neat2 (a:Option Addr) (c:Nat):Prop:=(a=none/\c=0)∨∃b off,a=some ⟨b,off,none⟩
theorem Qt {w:World} {B0 B1:Nat} {v:Value} {l:List V} {cs:List VC} (hown:w.ownsRow B1 36 5 v l.length (cs.flatMap vcells)) (hB:B0<=B1) (hl:cs.length=l.length) (hels:∀i,i<l.length->PV l cs (only (Free B0 v) w) w.heap.size i) (hfew:l.length<=1466015503701):
 ∃a n c,v= .slice a n c/\IsVals (only (fun b=>B0<=b) w) w.heap.size l a n c/\Neat2 a c:=by
 have hown2:w.ownsRow B0 36 5 v l.length (cs.flatMap vcells):=by
  refine ⟨hown.1, ?_⟩
  rcases hown.2 with h|⟨g,cap,cur,h1,h2,h3⟩
  .exact .inl h
  .exact .inr ⟨g,cap,cur,h1,Nat.le_trans hB h2,h3⟩
 have hv:∃a n c,v= .slice a n c/\Neat2 a c:=by
  rcases hown.2 with ⟨h,_⟩|⟨g,cap,cur,h1,_⟩
  .exact ⟨_,_,_,h, .inl ⟨rfl,rfl⟩⟩
  .exact ⟨_,_,_,h1, .inr ⟨g,0,rfl⟩⟩
 obtain ⟨a,n,c,rfl,hz⟩:=hv
 have hrow:RowV w B0 (.slice a n c) l cs:=⟨hown2,hels⟩
 have:=(RowV.val hrow (lo:=B0) hl (Nat.le_refl _) 4 (by omega) (by omega) hfew).lists
 exact ⟨a,n,c,rfl,this.2.2.2.2.1,hz⟩
def cutsP:Nat->Nat->List UInt8->List Nat
 |0,_,_=> []
 |f+1,i,l=>if l= [] then [] else i::cutsP f (i+(Lib.decodeL l).2) (l.drop (Lib.decodeL l).2)
def cuts (s:ByteArray):List Nat:=cutsP s.size 0 s.data.toList++ [s.size]
def textN (s:ByteArray):Nat:=(cuts s).length - 1
theorem zkm (f:Nat):∀(g i:Nat) (l:List UInt8),l.length<=f->f<=g->cutsP g i l=cutsP f i l:=by
 induction f with
 | zero=>
   intro g i l hl _
   have:l= [] :=List.length_eq_zero_iff.1 (by omega)
   subst this
   cases g<;>simp [cutsP]
 | succ f ih=>
   intro g i l hl hg
   obtain ⟨g',rfl⟩:∃g',g=g'+1:=⟨g - 1,by omega⟩
   unfold cutsP
   by_cases h:l= []
   .simp [h]
   .rw [if_neg h,if_neg h]
    have:=Lib.decodeL_width l
    rw [ih g' _ _ (by rw [List.length_drop];omega) (by omega)]
theorem Y8 {l:List UInt8} (h:l≠ []) (i:Nat):cutsP l.length i l=i::cutsP (l.drop (Lib.decodeL l).2).length (i+(Lib.decodeL l).2) (l.drop (Lib.decodeL l).2):=by
 obtain ⟨m,hm⟩:∃m,l.length=m+1:=⟨l.length - 1,by have:=List.length_pos_iff.2 h;omega⟩
 rw [hm,cutsP,if_neg h]
 have:=Lib.decodeL_width l
 rw [zkm _ m _ _ (Nat.le_refl _) (by rw [List.length_drop];omega)]
theorem znn (f:Nat):∀(i:Nat) (l:List UInt8),(cutsP f i l).length<=l.length:=by
 induction f with
 |zero=>intro i l;simp [cutsP]
 | succ f ih=>
   intro i l
   unfold cutsP
   split
   .simp
   .rename_i h
    have:=ih (i+(Lib.decodeL l).2) (l.drop (Lib.decodeL l).2)
    have h1:=Lib.decodeL_width l
    have h2:=List.length_pos_iff.2 h
    rw [List.length_drop] at this
    rw [List.length_cons];omega
theorem Kn (f:Nat):∀(i:Nat) (l:List UInt8),∀x ∈ cutsP f i l,i<=x/\x<=i+l.length:=by
 induction f with
 |zero=>intro i l x hx;simp [cutsP] at hx
 | succ f ih=>
   intro i l x hx
   unfold cutsP at hx
   split at hx
   .cases hx
   .rename_i h
    rcases List.mem_cons.1 hx with rfl|hx
    .omega
    .have:=ih _ _ x hx
     have h1:=Lib.decodeL_le l h
     rw [List.length_drop] at this
     omega
theorem Yo (s:ByteArray):0<(cuts s).length/\(cuts s).length<=s.size+1:=by
 have:=znn s.size 0 s.data.toList
 have e:s.data.toList.length=s.size:=Array.length_toList
 unfold cuts
 rw [List.length_append,List.length_singleton]
 omega
theorem J8 (s:ByteArray) (k:Nat) (h:k<(cuts s).length):(cuts s)[k] <=s.size:=by
 have hm:=List.getElem_mem h
 rcases List.mem_append.1 hm with h1|h1
 .have:=(Kn _ _ _ _ h1).2
  have e:s.data.toList.length=s.size:=Array.length_toList
  omega
 .have:=List.mem_singleton.1 h1;omega
def scells (s:St):List Value:= [.bool s.list, .int .i64 s.i, .string s.key]
def czero:CC:=⟨0,none,0,0, .empty,0,0,0,vzero, .empty⟩
def ccells (c:CC):List Value:= [.int .u8 c.k, .slice c.pa c.pl c.pc, .string c.key, .int .i64 c.i, .int .i64 c.j, .int .i64 c.n, .int .u8 c.v.k, .int .i64 c.v.n, .string c.v.s, .slice c.v.la c.v.ll c.v.lc, .slice c.v.oa c.v.ol c.v.oc, .string c.s]
def PC (l:List Cm) (cs:List CC):World->Nat->Nat->Prop:=fun W B i=>∀h:i<l.length,IsComp W B l[i] (cs.getD i czero)
theorem PC.closed (l:List Cm) (cs:List CC):Closed (PC l cs):=fun _ _ _ _ _ hs hB h hi=>((h hi).sub hs).more hB
theorem PC.snoc {l:List Cm} {cs:List CC} (hl:cs.length=l.length) (x:Cm) (c:CC):(∀W B,IsComp W B x c->PC (l++ [x]) (cs++ [c]) W B l.length)/\∀W B i,i<l.length->PC l cs W B i->PC (l++ [x]) (cs++ [c]) W B i:=by
 constructor
 .intro W B h hi
  simpa [List.getD_eq_getElem?_getD, <-hl] using h
 .intro W B i hi h hi2
  have h:=h hi
  have e:(cs++ [c]).getD i czero=cs.getD i czero:=by simp [List.getD_eq_getElem?_getD,List.getElem?_append_left (show i<cs.length by omega)]
  rw [List.getElem_append_left hi,e]
  exact h
abbrev RowC (w:World) (base:Nat) (u:Value) (l:List Cm) (cs:List CC):Prop:=Row 39 12 w base u l.length (cs.flatMap ccells) (PC l cs)
theorem RowC.comps {w:World} {base lo:Nat} {l:List Cm} {cs:List CC} {a:Option Addr} {n cap:Nat} (h:RowC w base (.slice a n cap) l cs) (hl:cs.length=l.length) (hlo:lo<=base) (hfew:l.length<=1466015503701):
 IsComps (only (fun b=>lo<=b) w) w.heap.size l a n cap:=by
 obtain ⟨h1,h2⟩:=Row.shows (PC.closed l cs) h hlo
 have hown:=h.own
 have hlt:=h.lt
 rcases hown.2 with ⟨e,hn⟩|⟨g,cap',cur,e,hbg,hg,hnc,hcm,hcs,htake⟩
 .injection e with e1 e2 e3;subst e1 e2 e3
  have:l= [] :=List.length_eq_zero_iff.1 hn
  subst this
  exact .nil _ _
 .injection e with e1 e2 e3;subst e1 e2 e3
  refine ⟨rfl,hnc,by simpa [maxLen] using hcm,hfew,g,0,fun i=>cs.getD i czero,fun _=>⟨rfl,(hlt g rfl).2⟩,fun i hi=>⟨?_,h2 i hi hi⟩⟩
  have hi':i<cs.length:=by omega
  have hc:∀t x,t<12->(ccells cs[i])[t]? =some x->(only (fun b=>lo<=b) w).cell? ⟨g,0+i*12+t,none⟩=some x:=fun t x ht hx=>by
   rw [Nat.zero_add]
   exact h1 g rfl (i*12+t) x ((Yv ccells 12 (fun _=>rfl) cs i t hi' ht).trans hx)
  have he:cs.getD i czero=cs[i] :=by simp [List.getD_eq_getElem?_getD,hi']
  simp only [he]
  exact ⟨hc 0 _ (by omega) rfl,hc 1 _ (by omega) rfl,hc 2 _ (by omega) rfl,hc 3 _ (by omega) rfl,hc 4 _ (by omega) rfl,hc 5 _ (by omega) rfl,⟨hc 6 _ (by omega) rfl,hc 7 _ (by omega) rfl,hc 8 _ (by omega) rfl,hc 9 _ (by omega) rfl,hc 10 _ (by omega) rfl⟩,hc 11 _ (by omega) rfl⟩
end Go.Proofs.YtnjgbiachcfigaaGreatDoor
namespace Go.Proofs.YtnjgbiachcfigaaGreatDoor
open Go.RowKit Go.Shelf
attribute [local go_sem] Oper.semAt_some
def VWeight (v:V):Prop:=v.weight<=4611686018427387904->∀(w:World) (c:VC),IsVal w w.heap.size v c->
    Calls Tryz.prog 58 #[.agg #[.int .u8 c.k, .int .i64 c.n, .string c.s, .slice c.la c.ll c.lc, .slice c.oa c.ol c.oc]] w fun e w'=>e= .returned (.int .i64 v.weight)/\Below w.heap.size w w'
theorem ValAt.own {β:Type} (b o:Nat) (c:β->VC):Own (fun (x:β) W=>ValAt W b o (c x)):=
 fun _ _ _ _ hs hg hr=>⟨cell_kept hs.c0 hg hr,cell_kept hs.c1 hg hr,cell_kept hs.c2 hg hr,cell_kept hs.c3 hg hr,cell_kept hs.c4 hg hr⟩
theorem Jb {W W':World} (h:uB W W'):KeepsOthers W W':=
 ⟨h.size,fun k _ hk _=>(h.block k (Array.getElem?_eq_some_iff.1 hk).1).trans hk⟩
theorem zjj {w:World} {P:V->Prop} (pre:List (Kid w P)) (x:Kid w P):weightO ((pre++ [x]).map Kid.pair)=weightO (pre.map Kid.pair)+(x.kk.size+x.v.weight):=by
 rw [List.map_append,Y5];simp [weightO,Yl,Kid.pair]
theorem wsum (d a b c:Int) (hd:d=a+(b+c)):wrap64 d=IntKind.i64.wrap (wrap64 a+IntKind.i64.wrap (b+c)):=by
 subst hd
 simp only [IntKind.wrap_i64,wrap64]
 omega
theorem zbo {x:Int} (h0: -9223372036854775808<=x) (h1:x<=9223372036854775807):wrap64 x=x:=by unfold wrap64;omega
theorem zjd (l:List V) (o:List (ByteArray×V)):weightO (pairs l o)=weightL l+weightO o:=by
 unfold pairs
 rw [Y5]
 congr 1
 induction l with
 |nil=>rfl
 |cons v r ih=>simp only [List.map_cons,weightO,Yl,weightL,ih];simp [ByteArray.size]
end Go.Proofs.YtnjgbiachcfigaaGreatDoor
