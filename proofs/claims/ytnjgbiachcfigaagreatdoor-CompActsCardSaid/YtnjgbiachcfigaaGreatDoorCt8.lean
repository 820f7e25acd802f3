/-
  Contracts of the functions that the law reaches: conciliatorref01.Copy: the same value.
-/
import Derived.Test.YtnjgbiachcfigaaGreatDoorCt7
import Derived.Deep.RegionHeldLaw
namespace Go.Proofs.YtnjgbiachcfigaaGreatDoor
open Go.RowKit
set_option maxHeartbeats 8000000
def NewVal (w:World) (x:V) (e:Ending) (w':World):Prop:=
 (∃c:VC,e= .returned (.agg #[.int .u8 c.k, .int .i64 c.n, .string c.s, .slice c.la c.ll c.lc, .slice c.oa c.ol c.oc])/\IsVal (only (fun b=>w.heap.size<=b) w') w'.heap.size x c)/\Below w.heap.size w w'
def CopyIH (x:V):Prop:=∀(W:World) (c:VC),IsVal W W.heap.size x c->Calls Tryz.prog 30 #[.agg #[.int .u8 c.k, .int .i64 c.n, .string c.s, .slice c.la c.ll c.lc, .slice c.oa c.ol c.oc]] W (NewVal W x)
theorem CL.start (w:World) (c0:VC) (t1 t2:TypeId) (l:List V):CL1 w ((w.alloc (.cells #[.int .u8 c0.k, .int .i64 c0.n, .string c0.s, .slice c0.la c0.ll c0.lc, .slice c0.oa c0.ol c0.oc] t1)).alloc (.cells #[.int .u8 0, .int .i64 0, .string { data:= #[] }, .slice none 0 0, .slice none 0 0] t2)) c0 l 0 none 0 0 [] [] :=by
 refine ⟨rfl,rfl,rfl,(BC.start w #[.int .u8 c0.k, .int .i64 c0.n, .string c0.s, .slice c0.la c0.ll c0.lc, .slice c0.oa c0.ol c0.oc] t1).keep ((Below.refl _ _).alloc (Nat.le_refl _) _) (by simp), ?_,((Below.refl _ _).alloc (Nat.le_refl _) _).alloc (by simp) _,Row.nil _ _ _ _ _⟩
 have:=BC.start (w.alloc (.cells #[.int .u8 c0.k, .int .i64 c0.n, .string c0.s, .slice c0.la c0.ll c0.lc, .slice c0.oa c0.ol c0.oc] t1)) #[.int .u8 0, .int .i64 0, .string { data:= #[] }, .slice none 0 0, .slice none 0 0] t2
 rw [World.size_alloc] at this
 exact this
theorem zc7 {tmps:Array Value} {W:World} {b:Nat} {c:VC} (ht:tmps[2]? =some (.pointer (some ⟨b,0,none⟩))) (h:BC W b (vcells c)):
 (results Tryz.f30 tmps).run Tryz.prog W= .ok (.agg #[.int .u8 c.k, .int .i64 c.n, .string c.s, .slice c.la c.ll c.lc, .slice c.oa c.ol c.oc]) W:=by
 obtain ⟨r0,r1,r2,r3,r4⟩:=(⟨h.at_ 0 _ rfl,h.at_ 1 _ rfl,h.at_ 2 _ rfl,h.at_ 3 _ rfl,h.at_ 4 _ rfl⟩:W.cell? ⟨b,0,none⟩=some (.int .u8 c.k)/\W.cell? ⟨b,1,none⟩=some (.int .i64 c.n)/\W.cell? ⟨b,2,none⟩=some (.string c.s)/\W.cell? ⟨b,3,none⟩=some (.slice c.la c.ll c.lc)/\W.cell? ⟨b,4,none⟩=some (.slice c.oa c.ol c.oc))
 simp [results,Tryz.results30,go_sem,ht,r0,r1,r2,r3,r4]
theorem zgx {w W:World} {k n:Int} {s:ByteArray} {l:List V} {o:List (ByteArray×V)} {a:Option Addr} {m c:Nat} {a':Option Addr} {m' c':Nat} {cl:List VC} {co:List (ByteArray×VC)} {x:Act}
 (h:BC W (w.heap.size+1) (vcells ⟨k,n,s,a,m,c,a',m',c'⟩)) (hf:Fresh W w.heap.size l o a m c a' m' c' cl co) (hb:Below w.heap.size w W) (hd:x.defers= []) (ht:x.tmps[2]? =some (.pointer (some ⟨w.heap.size+1,0,none⟩))):
 bodyPost Tryz.prog Tryz.f30 (CopyPost w k n s l o) .ret x W:=
 ⟨hd,_,zc7 ht h,⟨_,_,_,_,_,_,_,_,rfl,hf⟩,hb⟩
set_option maxRecDepth 100000 in
theorem K7 (l:List V) (o:List (ByteArray×V)) (IHl:∀x ∈ l,CopyIH x) (IHo:∀x ∈ o,CopyIH x.2) (w:World) (k n:Int) (s:ByteArray) (la:Option Addr) (ll lc:Nat) (oa:Option Addr) (ol oc:Nat) (h1:IsVals w w.heap.size l la ll lc) (h2:IsFields w w.heap.size o oa ol oc):
 Calls Tryz.prog 30 #[.agg #[.int .u8 k, .int .i64 n, .string s, .slice la ll lc, .slice oa ol oc]] w (CopyPost w k n s l o):=by
 obtain ⟨i0,hi0,hz0,hz1,hz2⟩:=info_parts Yc
 obtain ⟨j0,hj0,hy0,hy1,hy2⟩:=info_parts Ya
 have k1:=h1.few;have k2:=h1.max;have k3:=h2.few;have k4:=h2.max
 have HLN:=qh h1.len
 have HON:=qh h2.len
 have HL:=qh h1
 have HO:=qh h2
 have HIL:=qh IHl
 have HIO:=qh IHo
 have HST:=qh (CL.start w ⟨k,n,s,la,ll,lc,oa,ol,oc⟩ 36 36 l)
 clear h1 h2 IHl IHo
 go_enter Tryz.func30,Tryz.ntmps30
 generalize hQ0:bodyPost _ _ _=Q0
 have HQ:=qh hQ0
 clear hQ0
 go_wp2_with fail
 go_loopw [3,4] (fun u i wr=>∃(j:Nat) (a:Option Addr) (m c:Nat) (xs:List V) (cs:List VC),j<=ll/\i= .int .i64 j/\u= .slice a m c/\CL1 w wr ⟨k,n,s,la,ll,lc,oa,ol,oc⟩ l j a m c xs cs) (fun _ i _=>ll - (intOf i).toNat)
 case atStart=>exact ⟨0,none,0,0, [], [],Nat.zero_le _,rfl,rfl,HST.out⟩
 case round =>
  obtain ⟨j,a,m,c,xs,cs,hj,rfl,rfl,L⟩:=hrel
  obtain ⟨b0,b1,b2,b3,b4⟩:=row5 L.box.at_
  have g0:=L.box.fr 3;have g1:=L.box.fr 4
  have zs0:=L.box.lt;have zs1:=L.res.lt
  by_cases hlt:j<ll
  .obtain ⟨b,q,f,hp,rfl,hbB,hv,hI⟩:=(HL.out.keep L.below).get hlt
   have c0:=hv.c0;have c1:=hv.c1;have c2:=hv.c2;have c3:=hv.c3;have c4:=hv.c4
   have hbw:b<wr.heap.size:=World.block_lt_of_cell? wr _ c0
   have HC:Hid (Calls Tryz.prog 30 #[.agg #[.int .u8 f.k, .int .i64 f.n, .string f.s, .slice f.la f.ll f.lc, .slice f.oa f.ol f.oc]] wr (NewVal wr l[j])):=HIL.out l[j] (List.getElem_mem hp) wr f (hI.more L.below.size)
   have LL:=qh L
   clear L hv hI
   go_wp2_with fail
   refine HC.out.mono ?_
   rintro e w4 ⟨⟨cx,rfl,hI4⟩,hb4⟩
   have L:=LL.out
   have hrow:RowV w4 (w.heap.size+2) (.slice a m c) xs cs:=L.row.later (PV.closed xs cs) (.of_below 0 hb4) (by omega)
   have ho4:=hrow.own
   rw [L.len] at ho4
   have hsz4:=hb4.size
   have HI4:=qh hI4
   have HB4:=qh hb4
   clear L hrow hI4 hb4
   go_wp2_with (at_builtin;refine wpList_append_lies _ rfl (.tmp 14) (.tmp 21) 33 (by rfl) (w.heap.size+2) 36 i0 _ 5 80 Tryz.underlying33 hi0 hz0 hz1 hz2 rfl (by omega) (.slice a m c) j (cs.flatMap vcells) (by rfl) (ho4.alloc _) ⟨w4.heap.size,0,none⟩ 1 1 (vcells cx) (by rfl) (by rfl) (World.news_of_block (t:=36) (fr:=(0,0)) (heap_alloc_new w4 (.cells #[.int .u8 cx.k, .int .i64 cx.n, .string cx.s, .slice cx.la cx.ll cx.lc, .slice cx.oa cx.ol cx.oc] 36))) (by simp [vcells,Value.oneCell']) (by omega) (by unfold maxLen;omega) (by omega) (by simp;omega) (w4.heap.size+1) (by simp) ?_;intro g cap w7 hown7 hgrow7 hat7 hlt7)
   go_roundw
   case rel=>exact ⟨j+1,some ⟨g,0,none⟩,j+1,cap,xs++ [l[j]],cs++ [cx],by omega,by go_num,rfl,LL.out.round hp rfl HB4.out HI4.out ((Below.refl _ _).alloc (Nat.le_refl _) _) hown7 hgrow7 (hat7.imp_right fun e=>by omega)⟩
   case measure=>simp [intOf];omega
  .have hjn:j=ll:=by omega
   subst hjn
   obtain ⟨w1,hw1⟩:∃w1,w1=wr:=⟨_,rfl⟩
   subst hw1
   have LL:=qh L
   clear L
   go_wp2_with fail
   go_loopw [5,6] (fun u i wr=>∃(i':Nat) (a':Option Addr) (m' c':Nat) (xs':List (ByteArray×V)) (cs':List (ByteArray×VC)),i'<=ol/\i= .int .i64 i'/\u= .slice a' m' c'/\CL2 w1 wr o i' a' m' c' xs' cs') (fun _ i _=>ol - (intOf i).toNat)
   case atStart=>exact ⟨0,none,0,0, [], [],Nat.zero_le _,rfl,rfl,⟨rfl,rfl,rfl,by omega,Below.refl _ _,Row.nil _ _ _ _ _⟩⟩
   case round=>
    obtain ⟨i',a',m',c',xs',cs',hi',rfl,rfl,L⟩:=hrel
    have zs9:=LL.out.below.size
    have zs8:=LL.out.box.lt
    have zt9:=L.below.size
    have BX:=LL.out.box.keep L.below zs0
    have BR:=LL.out.res.keep L.below zs1
    obtain ⟨b0,b1,b2,b3,b4⟩:=row5 BX.at_
    obtain ⟨r0,r1,r2,r3,r4⟩:=row5 BR.at_
    have g0:=BX.fr 3;have g1:=BX.fr 4
    have f0:=BR.fr 0;have f1:=BR.fr 1;have f2:=BR.fr 2;have f3:=BR.fr 3;have f4:=BR.fr 4
    have zs0:=BX.lt;have zs1:=BR.lt
    have HBX:=qh BX
    have HBR:=qh BR
    clear BX BR
    by_cases hlt:i'<ol
    .obtain ⟨b,q,f,hp,rfl,hbB,hkey,hks,hv,hI⟩:=((HO.out.keep LL.out.below).keep (L.below.mono zs9)).get hlt
     have c0:=hv.c0;have c1:=hv.c1;have c2:=hv.c2;have c3:=hv.c3;have c4:=hv.c4
     have hbw:b<wr.heap.size:=World.block_lt_of_cell? wr _ hkey
     obtain ⟨sk,hsk⟩:∃sk,o[i'].1=sk:=⟨_,rfl⟩
     rw [hsk] at hkey hks
     have HSK:=qh hsk
     have HC:Hid (Calls Tryz.prog 30 #[.agg #[.int .u8 f.k, .int .i64 f.n, .string f.s, .slice f.la f.ll f.lc, .slice f.oa f.ol f.oc]] wr.drew (NewVal wr.drew o[i'].2)):=HIO.out o[i'] (List.getElem_mem hp) wr.drew f ((hI.keep ((Zf wr).mono (by omega))).more (by show w.heap.size<=wr.heap.size;omega))
     have HFO:Hid (∀W,Below wr.drew.heap.size wr.drew W->W.ownsRow w1.heap.size 75 6 (.slice a' m' c') i' (cs'.flatMap fcells)/\wr.heap.size<=W.heap.size):=by
      intro W hW
      have ho:=((L.row.later (rb:=0) (PF.closed xs' cs') (.of_below _ (Zf wr)) (by omega)).later (rb:=0) (PF.closed xs' cs') (.of_below _ hW) (by omega)).own
      rw [L.len] at ho
      exact ⟨ho,hW.size⟩
     have HFB:Hid (∀W,Below w1.heap.size wr.drew W->W.cell? ⟨w.heap.size,4,none⟩=some (.slice (some ⟨b,q,none⟩) ol oc)/\W.cell? ⟨b,q+i'*6,none⟩=some (.string sk)/\W.cell? ⟨b,q+i'*6+1,none⟩=some (.int .u8 f.k)/\W.cell? ⟨b,q+i'*6+1+1,none⟩=some (.int .i64 f.n)/\W.cell? ⟨b,q+i'*6+1+2,none⟩=some (.string f.s)/\W.cell? ⟨b,q+i'*6+1+3,none⟩=some (.slice f.la f.ll f.lc)/\W.cell? ⟨b,q+i'*6+1+4,none⟩=some (.slice f.oa f.ol f.oc)):=by
      intro W hW
      have hk:∀b o u,b<w1.heap.size->wr.cell? ⟨b,o,none⟩=some u->W.cell? ⟨b,o,none⟩=some u:=fun b o u hb h=>Zb hW (Zb (Zf wr) h (by omega)) hb
      exact ⟨hk _ _ _ zs8 b4,hk _ _ _ (by omega) hkey,hk _ _ _ (by omega) c0,hk _ _ _ (by omega) c1,hk _ _ _ (by omega) c2,hk _ _ _ (by omega) c3,hk _ _ _ (by omega) c4⟩
     have hrlt:∀g,(Value.slice a' m' c').ownBlock=some g->w1.heap.size<=g:=fun g hg=>(L.row.lt g hg).1
     have LM:=qh L
     clear L hv hI hsk
     go_wp2_with fail
     refine wp_region_noPanic ?_
     go_region_held_law (fun W=>W.cell? ⟨w.heap.size,4,none⟩=some (.slice (some ⟨b,q,none⟩) ol oc)/\W.cell? ⟨b,q+i'*6,none⟩=some (.string sk)/\W.cell? ⟨b,q+i'*6+1,none⟩=some (.int .u8 f.k)/\W.cell? ⟨b,q+i'*6+1+1,none⟩=some (.int .i64 f.n)/\W.cell? ⟨b,q+i'*6+1+2,none⟩=some (.string f.s)/\W.cell? ⟨b,q+i'*6+1+3,none⟩=some (.slice f.la f.ll f.lc)/\W.cell? ⟨b,q+i'*6+1+4,none⟩=some (.slice f.oa f.ol f.oc))
      (first|exact HFB.out _ (Below.refl _ _)|exact HFB.out _ (hb4.mono zt9)|exact HFB.out _ ((hb4.mono zt9).alloc (Nat.le_trans zt9 hb4.size) _)|exact HFB.out _ hb5)
      (first
       |(go_at_call 30;refine (HC.out).mono ?_;rintro e w4 ⟨⟨cx,rfl,hI4⟩,hb4⟩;obtain ⟨ho4,hz4⟩:=HFO.out w4 hb4)
       |(refine step_append_lies _ (by rfl) _ _ _ (by rfl) w1.heap.size 75 j0 _ 6 96 (by kernel_rfl) hj0 hy0 hy1 hy2 rfl (by omega) (.slice a' m' c') i' (cs'.flatMap fcells) (by rfl) (ho4.alloc _) ⟨w4.heap.size,0,none⟩ 1 1 (fcells (sk,cx)) (by rfl) (by rfl) (World.news_of_block (t:=75) (fr:=(0,0)) (heap_alloc_new w4 _)) (by simp [fcells,Value.oneCell']) (by omega) (by unfold maxLen;omega) (by omega) (by simp;omega) (w4.heap.size+1) (by simp) ?_;intro g cap w5 hown5 hgrow5 hat5 hlt5;have hb5:=((hb4.mono zt9).alloc (Nat.le_trans zt9 hb4.size) _).trans (Zj hgrow5 hrlt (by simp;omega))))
     all_goals
      refine NoPanic.normal ?_
      go_wp2_with fail
      go_roundw
      case rel=>exact ⟨i'+1,some ⟨g,0,none⟩,i'+1,cap,xs'++ [(sk,o[i'].2)],cs'++ [(sk,cx)],by omega,by go_num,rfl,(LM.out.behind (Zf wr)).round hp HSK.out rfl hks hb4 hI4 ((Below.refl _ _).alloc (Nat.le_refl _) _) hown5 hgrow5 (hat5.imp_right fun e=>by omega)⟩
      case measure=>simp [intOf];omega
    .have hin:i'=ol:=by omega
     subst hin
     have LM:=qh L
     clear L
     go_wp2_with fail
     rw [<-HQ.out]
     have W1:=RStep.self (W:=wr) (b:=w.heap.size) (o:=3) (x:= .slice a m c)
     have W2:=W1.trans (RStep.self (o:=4) (x:= .slice a' m' c'))
     have W3:=Zi ((wr.setCell ⟨w.heap.size,3,none⟩ (.slice a m c)).setCell ⟨w.heap.size,4,none⟩ (.slice a' m' c')) (w.heap.size+1) 0 ⟨k,n,s,a,m,c,a',m',c'⟩
     have hbw:Below w.heap.size w wr:=LL.out.below.trans (LM.out.below.mono zs9)
     have hfin:=Zz ((HBR.out.far (o:=3) (x:= .slice a m c) (show w.heap.size+1≠w.heap.size by omega)).far (o:=4) (x:= .slice a' m' c') (show w.heap.size+1≠w.heap.size by omega)) ⟨k,n,s,a,m,c,a',m',c'⟩
     exact zgx hfin (zex LL.out LM.out (by rw [<-HLN.out];omega) (by rw [<-HON.out];omega) (by rw [<-HLN.out];omega) (by rw [<-HON.out];omega) (Nat.le_trans W2.size W3.size) (fun q hq h1 h2=>(W3.block q (Nat.lt_of_lt_of_le hq W2.size) h2).trans (W2.block q hq h1))) ((hbw.trans (W2.below (by omega)|>.mono (by omega))).trans (W3.below (by have:=W2.size;omega)|>.mono (by omega))) rfl rfl
theorem Fresh.new {w:World} {v:V} {c0:VC} (h:IsVal w w.heap.size v c0) {e:Ending} {w':World} (hc:CopyPost w c0.k c0.n c0.s v.ls v.os e w'):NewVal w v e w':=by
 obtain ⟨k,n,s,l,o,rfl⟩:=v.eta
 obtain ⟨rfl,rfl,rfl,hb,_,_⟩:=h.lists
 obtain ⟨⟨a,m,c,a',m',c',cl,co,rfl,hf⟩,hbl⟩:=hc
 exact ⟨⟨⟨c0.k,c0.n,c0.s,a,m,c,a',m',c'⟩,rfl,hf.val hb.k0 hb.k1 hb.n0 hb.n1 hb.s1⟩,hbl⟩
theorem Yz (v:V):CopyIH v:=by
 induction v using V.ind with
 | h k n s l o ihl iho=>
   intro W c h
   obtain ⟨rfl,rfl,rfl,hb,h1,h2⟩:=h.lists
   exact (K7 l o ihl iho W c.k c.n c.s c.la c.ll c.lc c.oa c.ol c.oc h1 h2).mono fun e w' hc=>Fresh.new h hc
theorem Kd (w:World) (v:V) (vk vn:Int) (vs:ByteArray) (la:Option Addr) (ll lc:Nat) (oa:Option Addr) (ol oc:Nat) (h:IsVal w w.heap.size v ⟨vk,vn,vs,la,ll,lc,oa,ol,oc⟩):
 Calls Tryz.prog 30 #[.agg #[.int .u8 vk, .int .i64 vn, .string vs, .slice la ll lc, .slice oa ol oc]] w (CopyPost w vk vn vs v.ls v.os):=by
 obtain ⟨k,n,s,l,o,rfl⟩:=v.eta
 obtain ⟨_,_,_,_,h1,h2⟩:=h.lists
 exact K7 l o (fun x _=>Yz x) (fun x _=>Yz x.2) w vk vn vs la ll lc oa ol oc h1 h2
theorem _root_.Go.RowKit.Below.set_ {B b o:Nat} {a w:World} {x:Value} (h:Below B a w) (hb:B<=b):Below B a (w.setCell ⟨b,o,none⟩ x):=
 h.trans ⟨rfl,rfl,rfl,by simp,fun k hk=>heap_setCell_other _ _ _ _ (show k≠b by omega)⟩
theorem Zq (w:World) (o:Obj):Below w.heap.size w.drew (w.alloc o).drew:=(Below.refl w.heap.size w.drew).alloc (Nat.le_refl _) o
theorem Xt {w W:World} {cs:Array Value} {t:TypeId} (hb:Below (w.alloc (.cells cs t)).drew.heap.size (w.alloc (.cells cs t)).drew W):BC W w.heap.size cs.toList:=
 ((BC.start w cs t).keep (Zf _) (by simp)).keep hb (show w.heap.size<(w.alloc (.cells cs t)).heap.size by simp)
theorem _root_.Go.RowKit.Below.set5' {B b:Nat} {a w:World} (h:Below B a w) (hb:B<=b) (x0 x1 x2 x3 x4:Value):Below B a (((((w.setCell ⟨b,0,none⟩ x0).setCell ⟨b,1,none⟩ x1).setCell ⟨b,2,none⟩ x2).setCell ⟨b,3,none⟩ x3).setCell ⟨b,4,none⟩ x4):=
 ((((h.set_ hb).set_ hb).set_ hb).set_ hb).set_ hb
theorem _root_.Go.RowKit.Below.set5 {B:Nat} {a w:World} (h:Below B a w) (x0 x1 x2 x3 x4:Value):Below B a (((((w.setCell ⟨B,0,none⟩ x0).setCell ⟨B,1,none⟩ x1).setCell ⟨B,2,none⟩ x2).setCell ⟨B,3,none⟩ x3).setCell ⟨B,4,none⟩ x4):=h.set5' (Nat.le_refl _) _ _ _ _ _
theorem StepPost.gen {w0:World} {B0:Nat} {w:World} {r:Option (V×Nat)} {e:Ending} {w':World} (h:StepPost w0 B0 w r e w'):∃(d:VC) (k er:Int),e= .returned (.tuple #[.agg #[.int .u8 d.k, .int .i64 d.n, .string d.s, .slice d.la d.ll d.lc, .slice d.oa d.ol d.oc], .int .i64 k, .int .i64 er])/\Hid ((r=none/\er=30)∨∃q,r=some q/\k=(q.2:Int)/\er=0/\IsVal w0 B0 q.1 d)/\Below w.heap.size w w':=by
 obtain ⟨h1,h2⟩:=h
 cases r with
 |none=>exact ⟨vzero,0,30,h1, .inl ⟨rfl,rfl⟩,h2⟩
 | some q=>
   obtain ⟨c,h3,h4⟩:=h1
   exact ⟨c,q.2,0,h3, .inr ⟨q,rfl,rfl,rfl,h4⟩,h2⟩
theorem Zu {Q:Exit->Act->World->Prop} {a:Act} {W0:World} (P:World->Prop) (h0:P W0) (h:∀W,P W->Q .normal a W):NoPanic Q .normal a W0:=h W0 h0
theorem Q8 {w w4:World} (h:Below w.heap.size w.drew w4) (hz:w.heap.size<=w4.heap.size) (d:VC) (t:TypeId):BC (w4.alloc (.cells #[.int .u8 d.k, .int .i64 d.n, .string d.s, .slice d.la d.ll d.lc, .slice d.oa d.ol d.oc] t)) w4.heap.size (vcells d)/\Below w.heap.size w.drew (w4.alloc (.cells #[.int .u8 d.k, .int .i64 d.n, .string d.s, .slice d.la d.ll d.lc, .slice d.oa d.ol d.oc] t))/\w.heap.size<=w4.heap.size:=
 ⟨BC.start w4 #[.int .u8 d.k, .int .i64 d.n, .string d.s, .slice d.la d.ll d.lc, .slice d.oa d.ol d.oc] t,h.alloc hz _,hz⟩
theorem Qw {w w4:World} (h:Below w.heap.size w.drew w4) (d:VC) (x:BC w4 w.heap.size [.int .u8 0, .int .i64 0, .string { data:= #[] }, .slice none 0 0, .slice none 0 0]):BC (((((w4.setCell ⟨w.heap.size,0,none⟩ (.int .u8 d.k)).setCell ⟨w.heap.size,1,none⟩ (.int .i64 d.n)).setCell ⟨w.heap.size,2,none⟩ (.string d.s)).setCell ⟨w.heap.size,3,none⟩ (.slice d.la d.ll d.lc)).setCell ⟨w.heap.size,4,none⟩ (.slice d.oa d.ol d.oc)) w.heap.size (vcells d)/\Below w.heap.size w.drew (((((w4.setCell ⟨w.heap.size,0,none⟩ (.int .u8 d.k)).setCell ⟨w.heap.size,1,none⟩ (.int .i64 d.n)).setCell ⟨w.heap.size,2,none⟩ (.string d.s)).setCell ⟨w.heap.size,3,none⟩ (.slice d.la d.ll d.lc)).setCell ⟨w.heap.size,4,none⟩ (.slice d.oa d.ol d.oc))/\w.heap.size<=w.heap.size:=
 ⟨Zz (c0:=vzero) x d,Below.set5' h (Nat.le_refl _) _ _ _ _ _,Nat.le_refl _⟩
def GetPost (w:World) (r:Option V) (e:Ending) (w':World):Prop:=
 (match r with
  |some x=>∃c:VC,e= .returned (.tuple #[.agg #[.int .u8 c.k, .int .i64 c.n, .string c.s, .slice c.la c.ll c.lc, .slice c.oa c.ol c.oc], .int .i64 0])/\IsVal (only (fun b=>w.heap.size<=b) w') w'.heap.size x c
  |none=>e= .returned (.tuple #[.agg #[.int .u8 0, .int .i64 0, .string { data:= #[] }, .slice none 0 0, .slice none 0 0], .int .i64 30]))/\Below w.heap.size w w'
theorem zb6 {tmps:Array Value} {W:World} {b:Nat} {c:VC} {x:Value} (ht:tmps[4]? =some (.pointer (some ⟨b,0,none⟩))) (hx:tmps[5]? =some x) (h:BC W b (vcells c)):
 (results Tryz.f38 tmps).run Tryz.prog W= .ok (.tuple #[.agg #[.int .u8 c.k, .int .i64 c.n, .string c.s, .slice c.la c.ll c.lc, .slice c.oa c.ol c.oc],x]) W:=by
 obtain ⟨r0,r1,r2,r3,r4⟩:=(⟨h.at_ 0 _ rfl,h.at_ 1 _ rfl,h.at_ 2 _ rfl,h.at_ 3 _ rfl,h.at_ 4 _ rfl⟩:W.cell? ⟨b,0,none⟩=some (.int .u8 c.k)/\W.cell? ⟨b,1,none⟩=some (.int .i64 c.n)/\W.cell? ⟨b,2,none⟩=some (.string c.s)/\W.cell? ⟨b,3,none⟩=some (.slice c.la c.ll c.lc)/\W.cell? ⟨b,4,none⟩=some (.slice c.oa c.ol c.oc))
 simp [results,Tryz.results38,go_sem,ht,hx,r0,r1,r2,r3,r4]
theorem zlg {w W:World} {x:Act} (h:BC W (w.heap.size+1) (vcells vzero)) (hb:Below w.heap.size w W) (hd:x.defers= []) (ht:x.tmps[4]? =some (.pointer (some ⟨w.heap.size+1,0,none⟩))) (hx:x.tmps[5]? =some (.int .i64 30)):
 bodyPost Tryz.prog Tryz.f38 (GetPost w none) .ret x W:=⟨hd,_,zb6 ht hx h,rfl,hb⟩
theorem zif {w W:World} {x:Act} {c:VC} {v:V} (h:BC W (w.heap.size+1) (vcells c)) (hv:IsVal (only (fun b=>w.heap.size<=b) W) W.heap.size v c) (hb:Below w.heap.size w W) (hd:x.defers= []) (ht:x.tmps[4]? =some (.pointer (some ⟨w.heap.size+1,0,none⟩))) (hx:x.tmps[5]? =some (.int .i64 0)):
 bodyPost Tryz.prog Tryz.f38 (GetPost w (some v)) .ret x W:=⟨hd,_,zb6 ht hx h,⟨c,rfl,hv⟩,hb⟩
structure GB (w W:World) (c:VC):Prop where
 v:BC W w.heap.size (vcells c)
 r:BC W (w.heap.size+1) (vcells vzero)
 below:Below w.heap.size w W
theorem GB.start (w:World) (c:VC) (t1 t3:TypeId):GB w ((w.alloc (.cells #[.int .u8 c.k, .int .i64 c.n, .string c.s, .slice c.la c.ll c.lc, .slice c.oa c.ol c.oc] t1)).alloc (.cells #[.int .u8 0, .int .i64 0, .string { data:= #[] }, .slice none 0 0, .slice none 0 0] t3)) c:=by
 have h:=CL.start w c t1 t3 []
 exact ⟨h.box,h.res,h.below⟩
theorem GB.next {w W W':World} {c:VC} {B:Nat} (h:GB w W c) (hb:Below B W W') (hB:w.heap.size+2<=B):GB w W' c:=
 ⟨h.v.keep hb (by omega),h.r.keep hb (by omega),h.below.trans (hb.mono (by omega))⟩
theorem GB.store {w W:World} {c:VC} (h:GB w W c) (d:VC):GB w (((((W.setCell ⟨w.heap.size,0,none⟩ (.int .u8 d.k)).setCell ⟨w.heap.size,1,none⟩ (.int .i64 d.n)).setCell ⟨w.heap.size,2,none⟩ (.string d.s)).setCell ⟨w.heap.size,3,none⟩ (.slice d.la d.ll d.lc)).setCell ⟨w.heap.size,4,none⟩ (.slice d.oa d.ol d.oc)) d:=
 ⟨Zz h.v d,h.r.next (Zi W w.heap.size 0 d) (by omega),Below.set5' h.below (Nat.le_refl _) _ _ _ _ _⟩
theorem GB.result {w W:World} {c:VC} (h:GB w W c) (d:VC):BC (((((W.setCell ⟨w.heap.size+1,0,none⟩ (.int .u8 d.k)).setCell ⟨w.heap.size+1,1,none⟩ (.int .i64 d.n)).setCell ⟨w.heap.size+1,2,none⟩ (.string d.s)).setCell ⟨w.heap.size+1,3,none⟩ (.slice d.la d.ll d.lc)).setCell ⟨w.heap.size+1,4,none⟩ (.slice d.oa d.ol d.oc)) (w.heap.size+1) (vcells d)/\Below w.heap.size w (((((W.setCell ⟨w.heap.size+1,0,none⟩ (.int .u8 d.k)).setCell ⟨w.heap.size+1,1,none⟩ (.int .i64 d.n)).setCell ⟨w.heap.size+1,2,none⟩ (.string d.s)).setCell ⟨w.heap.size+1,3,none⟩ (.slice d.la d.ll d.lc)).setCell ⟨w.heap.size+1,4,none⟩ (.slice d.oa d.ol d.oc)):=
 ⟨Zz h.r d,Below.set5' h.below (by omega) _ _ _ _ _⟩
set_option maxRecDepth 100000 in
theorem Xo (w:World) (vk vn:Int) (vs:ByteArray) (la:Option Addr) (ll lc:Nat) (oa:Option Addr) (ol oc:Nat) (v:V) (hv:IsVal w w.heap.size v ⟨vk,vn,vs,la,ll,lc,oa,ol,oc⟩) (p:List St) (a:Option Addr) (n c:Nat) (hp:IsSteps w w.heap.size p a n c):
 Calls Tryz.prog 38 #[.agg #[.int .u8 vk, .int .i64 vn, .string vs, .slice la ll lc, .slice oa ol oc], .slice a n c] w (GetPost w (getP v p)):=by
 have k1:=hp.few;have k2:=hp.max
 have HLN:=qh hp.len
 have HP:=qh hp
 have HV:=qh hv
 have HB:=qh (GB.start w ⟨vk,vn,vs,la,ll,lc,oa,ol,oc⟩ 36 36)
 obtain ⟨R,hR⟩:∃R,getP v p=R:=⟨_,rfl⟩
 rw [hR]
 have HR:=qh hR
 clear hp hv hR
 go_enter Tryz.func38,Tryz.ntmps38
 generalize hQ0:bodyPost _ _ _=Q0
 have HQ:=qh hQ0
 clear hQ0
 go_wp2_with fail
 go_loopw [6,7,8,9] (fun i _ _ _ wr=>∃(j:Nat) (x:V) (c:VC),j<=n/\i= .int .i64 j/\Hid (getP x (p.drop j)=R)/\Hid (IsVal w w.heap.size x c)/\GB w wr c) (fun i _ _ _ _=>n - (intOf i).toNat)
 case atStart=>exact ⟨0,v,_,Nat.zero_le _,rfl,HR,HV,HB.out⟩
 case round=>
  obtain ⟨j,x,cx,hj,rfl,HX,HXV,B⟩:=hrel
  clear HB HR HV
  obtain ⟨v0,v1,v2,v3,v4⟩:=row5 B.v.at_
  obtain ⟨r0,r1,r2,r3,r4⟩:=row5 B.r.at_
  have e0:=B.v.fr 0;have e1:=B.v.fr 1;have e2:=B.v.fr 2;have e3:=B.v.fr 3;have e4:=B.v.fr 4
  have f0:=B.r.fr 0;have f1:=B.r.fr 1;have f2:=B.r.fr 2;have f3:=B.r.fr 3;have f4:=B.r.fr 4
  have zs0:=B.v.lt;have zs1:=B.r.lt
  have HBB:=qh B
  by_cases hlt:j<n
  .obtain ⟨b,q,hpl,rfl,hbB,hs,hsb⟩:=HP.out.get hlt
   have hs:=hs.keep B.below hbB
   obtain ⟨s,hse⟩:∃s,p[j] =s:=⟨_,rfl⟩
   rw [hse] at hs hsb
   have s0:=hs.c0;have s1:=hs.c1;have s2:=hs.c2
   have hbw:b<wr.heap.size:=World.block_lt_of_cell? wr _ s0
   have hdr:p.drop j=s::p.drop (j+1):=by rw [<-hse];exact List.drop_eq_getElem_cons hpl
   have HDR:=qh hdr
   have hzs:=B.below.size
   have HC:Hid (∀W,Below wr.heap.size wr.drew W->Calls Tryz.prog 73 #[.agg #[.int .u8 cx.k, .int .i64 cx.n, .string cx.s, .slice cx.la cx.ll cx.lc, .slice cx.oa cx.ol cx.oc], .agg #[.bool s.list, .int .i64 s.i, .string s.key]] W (StepPost w w.heap.size W (stepP x s))):=fun W hW=>J0 W cx.k cx.n cx.s cx.la cx.ll cx.lc cx.oa cx.ol cx.oc x w w.heap.size ((HBB.out.below.trans ((Zf wr).mono hzs)).trans (hW.mono hzs)) (Nat.le_trans hzs hW.size) HXV.out s hsb
   have HFB:Hid (∀W,Below wr.heap.size wr.drew W->W.cell? ⟨w.heap.size,0,none⟩=some (.int .u8 cx.k)/\W.cell? ⟨w.heap.size,1,none⟩=some (.int .i64 cx.n)/\W.cell? ⟨w.heap.size,2,none⟩=some (.string cx.s)/\W.cell? ⟨w.heap.size,3,none⟩=some (.slice cx.la cx.ll cx.lc)/\W.cell? ⟨w.heap.size,4,none⟩=some (.slice cx.oa cx.ol cx.oc)/\W.cell? ⟨b,q+j*3,none⟩=some (.bool s.list)/\W.cell? ⟨b,q+j*3+1,none⟩=some (.int .i64 s.i)/\W.cell? ⟨b,q+j*3+2,none⟩=some (.string s.key)):=by
    intro W hW
    have hk:∀b o u,b<wr.heap.size->wr.cell? ⟨b,o,none⟩=some u->W.cell? ⟨b,o,none⟩=some u:=fun b o u hb h=>Zb hW (Zb (Zf wr) h hb) hb
    exact ⟨hk _ _ _ zs0 v0,hk _ _ _ zs0 v1,hk _ _ _ zs0 v2,hk _ _ _ zs0 v3,hk _ _ _ zs0 v4,hk _ _ _ hbw s0,hk _ _ _ hbw s1,hk _ _ _ hbw s2⟩
   have HST:=qh (show stepP x s=stepP x s from rfl)
   clear B hs hdr HST
   go_wp2_with fail
   refine wp_region_noPanic ?_
   go_region_held_law (fun W=>W.cell? ⟨w.heap.size,0,none⟩=some (.int .u8 cx.k)/\W.cell? ⟨w.heap.size,1,none⟩=some (.int .i64 cx.n)/\W.cell? ⟨w.heap.size,2,none⟩=some (.string cx.s)/\W.cell? ⟨w.heap.size,3,none⟩=some (.slice cx.la cx.ll cx.lc)/\W.cell? ⟨w.heap.size,4,none⟩=some (.slice cx.oa cx.ol cx.oc)/\W.cell? ⟨b,q+j*3,none⟩=some (.bool s.list)/\W.cell? ⟨b,q+j*3+1,none⟩=some (.int .i64 s.i)/\W.cell? ⟨b,q+j*3+2,none⟩=some (.string s.key))
    ((refine HFB.out _ ?_;(first|(with_reducible exact bl4)|(with_reducible exact Below.refl _ _)|(with_reducible exact Zq _ _)|(with_reducible exact Below.set5 bl4 _ _ _ _ _)|(with_reducible exact Below.set5' (Below.alloc bl4 bz4 _) bz4 _ _ _ _ _)|(with_reducible exact Below.alloc bl4 bz4 _))))
    (first
     |(go_at_call 73;(with_reducible refine (HC.out _ (Below.refl _ _)).mono ?_);rintro e w4 h4;obtain ⟨d,kk,er,rfl,hrel,hb4⟩:=StepPost.gen h4;clear h4;have bl4:Below wr.heap.size wr.drew w4:=hb4;have bz4:wr.heap.size<=w4.heap.size:=hb4.size)
     |(go_at_call 73;(with_reducible refine (HC.out _ (Zq _ _)).mono ?_);rintro e w4 h4;obtain ⟨d,kk,er,rfl,hrel,hb4⟩:=StepPost.gen h4;clear h4;have bl4:Below wr.heap.size wr.drew w4:=(Zq _ _).trans (hb4.mono (by simp));have bz4:wr.heap.size<=w4.heap.size:=bl4.size;have XB:=Xt hb4;obtain ⟨xc0,xc1,xc2,xc3,xc4⟩:=row5 XB.at_;have xg0:=XB.fr 0;have xg1:=XB.fr 1;have xg2:=XB.fr 2;have xg3:=XB.fr 3;have xg4:=XB.fr 4;have xl:=XB.lt))
   all_goals
    (first
     |(with_reducible refine Zu (P:=fun W=>BC W w4.heap.size (vcells d)/\Below wr.heap.size wr.drew W/\wr.heap.size<=w4.heap.size) (Q8 bl4 bz4 d _) ?_)
     |(with_reducible refine Zu (P:=fun W=>BC W wr.heap.size (vcells d)/\Below wr.heap.size wr.drew W/\wr.heap.size<=wr.heap.size) (Qw bl4 d XB) ?_))
    rintro W ⟨XF,hbW,hxb⟩
    have B2:=HBB.out.next ((Zf wr).trans hbW) (Nat.succ_le_of_lt zs1)
    clear v0 v1 v2 v3 v4 r0 r1 r2 r3 r4 e0 e1 e2 e3 e4 f0 f1 f2 f3 f4 s0 s1 s2 hb4 bl4
    obtain ⟨v0,v1,v2,v3,v4⟩:=row5 B2.v.at_
    obtain ⟨r0,r1,r2,r3,r4⟩:=row5 B2.r.at_
    have e0:=B2.v.fr 0;have e1:=B2.v.fr 1;have e2:=B2.v.fr 2;have e3:=B2.v.fr 3;have e4:=B2.v.fr 4
    have f0:=B2.r.fr 0;have f1:=B2.r.fr 1;have f2:=B2.r.fr 2;have f3:=B2.r.fr 3;have f4:=B2.r.fr 4
    obtain ⟨y0,y1,y2,y3,y4⟩:=row5 XF.at_
    have zt0:=B2.v.lt;have zt1:=B2.r.lt;have zt2:=XF.lt
    have HB2:=qh B2
    clear B2 XF hbW
    rcases hrel.out with ⟨hst,rfl⟩|⟨qq,hst,rfl,rfl,hI⟩
    .obtain rfl:R=none:=by rw [<-HX.out,HDR.out,getP,hst]
     clear hst
     go_wp2_with fail
     rw [<-HQ.out]
     have ST:=HB2.out.result ⟨0,0, { data:= #[] },none,0,0,none,0,0⟩
     exact zlg ST.1 ST.2 rfl rfl rfl
    .have hnx:getP qq.1 (p.drop (j+1))=R:=by rw [<-HX.out,HDR.out,getP,hst]
     have HNX:=qh hnx
     have HI:=qh hI
     clear hst hnx hI
     go_wp2_with fail
     go_roundw
     case rel=>exact ⟨j+1,qq.1,d,by omega,by go_num,HNX,HI,HB2.out.store d⟩
     case measure=>simp [intOf];omega
  .have hjn:j=n:=by omega
   subst hjn
   obtain rfl:R=some x:=by rw [<-HX.out,HLN.out,List.drop_length,getP]
   have HC:Hid (Calls Tryz.prog 30 #[.agg #[.int .u8 cx.k, .int .i64 cx.n, .string cx.s, .slice cx.la cx.ll cx.lc, .slice cx.oa cx.ol cx.oc]] wr (NewVal wr x)):=Yz x wr cx ((HXV.out.keep B.below).more B.below.size)
   clear B
   go_wp2_with fail
   refine HC.out.mono ?_
   rintro e w4 ⟨⟨d,rfl,hI4⟩,hb4⟩
   have B2:=HBB.out.next hb4 (Nat.succ_le_of_lt zs1)
   clear v0 v1 v2 v3 v4 r0 r1 r2 r3 r4 e0 e1 e2 e3 e4 f0 f1 f2 f3 f4
   obtain ⟨r0,r1,r2,r3,r4⟩:=row5 B2.r.at_
   have f0:=B2.r.fr 0;have f1:=B2.r.fr 1;have f2:=B2.r.fr 2;have f3:=B2.r.fr 3;have f4:=B2.r.fr 4
   have zt0:=B2.v.lt;have zt1:=B2.r.lt
   have HB2:=qh B2
   have HI:=qh hI4
   clear B2 hI4 hb4
   go_wp2_with fail
   rw [<-HQ.out]
   have ST:=HB2.out.result d
   exact zif ST.1 ((Zm HI.out (Zi w4 (w.heap.size+1) 0 d) zs1).sub (Ze fun k hk _=>⟨by have:=HBB.out.below.size;omega,rfl⟩)) ST.2 rfl rfl rfl
end Go.Proofs.YtnjgbiachcfigaaGreatDoor
