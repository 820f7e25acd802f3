/-
  Contracts of the functions that the law reaches: raw. Raw. plain: a text of 40 bytes at.
-/
import Derived.Test.YtfoahkbnheijcaaGreatDoorMa7
namespace Go.Proofs.YtfoahkbnheijcaaGreatDoor
open Go.RowKit
set_option maxHeartbeats 8000000
set_option maxRecDepth 100000 in
theorem znw (w:World) (dd:Int) (hd0:0<=dd) (hd:dd<=19) (d:Nat) (t:Tk) (r:List Tk) (a:Option Addr) (n c:Nat) (h:IsToks w w.heap.size (t::r) a n c) (IH:∀(W:World) (l:List Tk) (a:Option Addr) (n c:Nat),IsToks W W.heap.size l a n c->Calls Tryz.prog 94 #[.slice a n c, .int .i64 (dd+1)] W (RawPost W (rawP d l))) (hk:t.k % 2=0):
 Calls Tryz.prog 94 #[.slice a n c, .int .i64 dd] w (RawPost w (rawP (d+1) (t::r))):=by
 obtain ⟨i0,hi0,hz0,hz1,hz2⟩:=info_parts Xn
 have hw1:IntKind.i64.wrap (dd+1)=dd+1:=IntWalk.i64_in _ (by omega)
 obtain ⟨b,o,hp,rfl,hb,htk,hbd⟩:=h.get (k:=0) (by have:=h.len;rw [this];simp)
 have ht:TkAt w b o t:=by simpa using htk
 replace hbd:t.Bnd:=by simpa using hbd
 have c0:=ht.c0;have c1:=ht.c1;have c2:=ht.c2;have c3:=ht.c3
 have b0:=hbd.k0;have b1:=hbd.k1;have b2:=hbd.m0;have b3:=hbd.m1
 have hlen:=h.len
 have hcap:=h.cap
 have hmax:=h.max
 have hnp:0<n:=by rw [hlen];simp
 have hne:((n:Int)==0)=false:=by simp;omega
 obtain ⟨K,hK⟩:∃K:Nat,(t.m % 4).toNat=K:=⟨_,rfl⟩
 have hK1:t.m % 4=(K:Int):=by omega
 have hK2:Int.tmod t.m 4=(K:Int):=by rw [Int.tmod_eq_emod_of_nonneg b2];exact hK1
 have hK3:K<=3:=by omega
 have HI:=qh h
 have HQR:=qh (QR.start w t 41 90 41)
 have HBD:=qh hbd
 have IHH:=qh IH
 have HLEN:=qh hlen
 have HKK:=qh hK
 clear h ht htk hp hbd IH hlen hK
 have hk2:Int.tmod t.k 2=0:=by rw [Int.tmod_eq_emod_of_nonneg b0];exact hk
 have HK:=qh hk
 clear hk
 go_enter Tryz.func94,Tryz.ntmps94
 generalize hQ0:bodyPost _ _ _=Q0
 have HQ:=qh hQ0
 clear hQ0
 go_wp2_with fail
 go_loopw [8,9,10,11] (fun u i _ _ wr=>∃(j:Nat) (a':Option Addr) (m c':Nat) (xs:List V) (cs:List VC) (un:Nat),j<=K/\u= .int .i64 un/\i= .int .u8 j/\RLL w wr d (t::r) t j a' m c' xs cs un) (fun _ i _ _ _=>K - (intOf i).toNat)
 case atStart=>exact ⟨0,none,0,0, [], [],1,Nat.zero_le _,rfl,rfl,⟨rfl,rfl,rfl,(HQR.out _ rfl).1,Row.nil _ _ _ _ _⟩⟩
 case round=>
  obtain ⟨j,a',m,c',xs,cs,un,hj,rfl,rfl,L⟩:=hrel
  have k0:=L.box.tok.at_ 0 _ rfl;have k3:=L.box.tok.at_ 3 _ rfl
  obtain ⟨v0,v1,v2,v3,v4⟩:=row5 L.box.val.at_
  have p0:=L.box.val.fr 3
  obtain ⟨r0,r1,r2,r3,r4⟩:=row5 L.box.res.at_
  have g0:=L.box.res.fr 0;have g1:=L.box.res.fr 1;have g2:=L.box.res.fr 2;have g3:=L.box.res.fr 3;have g4:=L.box.res.fr 4
  have zs2:=L.box.val.lt;have zs1:=L.box.tok.lt;have zs0:=L.box.res.lt
  obtain ⟨hu1,hu2,_⟩:1<=un/\un<=n/\True:=by
   have:=zar (Jd d) (l:=t::r) (by simp) j
   rw [L.rd] at this
   exact ⟨this.1,by rw [HLEN.out];exact this.2.1,trivial⟩
  by_cases hlt:j<K
  .have hz9:c=un->n - un=0:=by omega
   obtain ⟨⟨x,q⟩,hx⟩:∃p,rawP d ((t::r).drop un)=p:=⟨_,rfl⟩
   have hq2:un+q<=n:=by have:=Jd d ((t::r).drop un);rw [hx,List.length_drop] at this;have:=HLEN.out;dsimp only at*;omega
   have HX:=qh hx
   have HIW:=(HI.out.later_ L.box.below).drop un hu2
   have HC:Hid (Calls Tryz.prog 94 #[if c=un then .slice (some ⟨b,o,none⟩) 0 0 else .slice (some ⟨b,o+un*4,none⟩) (n - un) (c - un), .int .i64 (dd+1)] wr (RawPost wr (x,q))):=by
    unfold Hid
    rw [<-HX.out]
    by_cases hc:c=un
    .rw [if_pos hc];exact IHH.out wr _ _ _ _ (HIW.none_left (hz9 hc))
    .rw [if_neg hc];rw [Option.map_some,Zs] at HIW;exact IHH.out wr _ _ _ _ HIW
   have LL:=qh L
   clear L HIW hx
   by_cases hc:c=un
   .rw [if_pos hc] at HC
    have hz:=hz9 hc
    clear hz9
    subst hc
    go_wp2_with fail
    refine (HC.out).mono ?_
    rintro e w4 ⟨⟨cx,rfl,hI4⟩,hb4⟩
    have L:=LL.out
    have B4:=L.box.next hb4
    have k0:=B4.tok.at_ 0 _ rfl;have k3:=B4.tok.at_ 3 _ rfl
    obtain ⟨v0,v1,v2,v3,v4⟩:=row5 B4.val.at_
    have p0:=B4.val.fr 3
    obtain ⟨r0,r1,r2,r3,r4⟩:=row5 B4.res.at_
    have g0:=B4.res.fr 0;have g1:=B4.res.fr 1;have g2:=B4.res.fr 2;have g3:=B4.res.fr 3;have g4:=B4.res.fr 4
    have zt2:=B4.val.lt;have zt1:=B4.tok.lt;have zt0:=B4.res.lt
    have hrow:RowV w4 (w.heap.size+3) (.slice a' m c') xs cs:=L.row.later (PV.closed xs cs) (.of_below 0 hb4) (by omega)
    by_cases hq:q=0
    .subst hq
     have hs1:fR (rawP d) (t::r) (j+1)=(xs,c,true):=by rw [fR,if_neg (by rw [L.rd];simp),L.rd];dsimp only;rw [HX.out,if_pos rfl]
     have hs2:=J2 (f:=rawP d) (l:=t::r) (j:=j+1) (n:=K) (by rw [hs1]) (by omega)
     have hR:rawP (d+1) (t::r)=(.mk t.k t.n t.s xs [],c):=by
      rw [rawP,HKK.out,hs2,hs1];dsimp only;congr 1;rw [rawV,if_pos HK.out]
     have hv:=Qo (RowV.val hrow (lo:=w.heap.size+3) (by rw [L.len,L.cen]) (Nat.le_refl _) t.k b0 b1 (by rw [L.len];omega)) t.n t.s HBD.out.n0 HBD.out.n1 HBD.out.s1
     have HV:=qh hv
     clear hv
     have LB:=qh B4
     have HR:=qh hR
     clear L B4 hrow hs1 hs2 hR hI4 hb4
     go_wp2_with fail
     have hR:=HR.out
     have ST:=LB.out.stored ⟨t.k,t.n,t.s,a',m,c',none,0,0⟩
     rw [<-HQ.out,hR]
     exact Xj (c:=⟨t.k,t.n,t.s,a',m,c',none,0,0⟩) (ST.1.keep ((Below.refl _ _).alloc (Nat.le_refl _) _) ST.1.lt) (ST.2.1.alloc ST.2.1.size _) (((Zl HV.out ST.2.2 (by omega)).sub (Zf (S':=fun b=>w.heap.size<=b) fun k hk hl=>⟨by omega,((Below.refl _ _).alloc (Nat.le_refl _) _:Below _ _ _).block k hl⟩)).more (by simp)) rfl rfl rfl
    .exfalso;apply hq
     have h0:=HX.out
     rw [List.drop_eq_nil_of_le (by have:=HLEN.out;omega)] at h0
     cases d<;>(rw [rawP] at h0;injection h0 with h1 h2;exact h2.symm)
   .rw [if_neg hc] at HC
    have huc:un<c:=by omega
    clear hz9 hc
    go_wp2_with fail
    refine (HC.out).mono ?_
    rintro e w4 ⟨⟨cx,rfl,hI4⟩,hb4⟩
    have L:=LL.out
    have B4:=L.box.next hb4
    have k0:=B4.tok.at_ 0 _ rfl;have k3:=B4.tok.at_ 3 _ rfl
    obtain ⟨v0,v1,v2,v3,v4⟩:=row5 B4.val.at_
    have p0:=B4.val.fr 3
    obtain ⟨r0,r1,r2,r3,r4⟩:=row5 B4.res.at_
    have g0:=B4.res.fr 0;have g1:=B4.res.fr 1;have g2:=B4.res.fr 2;have g3:=B4.res.fr 3;have g4:=B4.res.fr 4
    have zt2:=B4.val.lt;have zt1:=B4.tok.lt;have zt0:=B4.res.lt
    have hrow:RowV w4 (w.heap.size+3) (.slice a' m c') xs cs:=L.row.later (PV.closed xs cs) (.of_below 0 hb4) (by omega)
    by_cases hq:q=0
    .subst hq
     have hs1:fR (rawP d) (t::r) (j+1)=(xs,un,true):=by rw [fR,if_neg (by rw [L.rd];simp),L.rd];dsimp only;rw [HX.out,if_pos rfl]
     have hs2:=J2 (f:=rawP d) (l:=t::r) (j:=j+1) (n:=K) (by rw [hs1]) (by omega)
     have hR:rawP (d+1) (t::r)=(.mk t.k t.n t.s xs [],un):=by
      rw [rawP,HKK.out,hs2,hs1];dsimp only;congr 1;rw [rawV,if_pos HK.out]
     have hv:=Qo (RowV.val hrow (lo:=w.heap.size+3) (by rw [L.len,L.cen]) (Nat.le_refl _) t.k b0 b1 (by rw [L.len];omega)) t.n t.s HBD.out.n0 HBD.out.n1 HBD.out.s1
     have HV:=qh hv
     clear hv
     have LB:=qh B4
     have HR:=qh hR
     clear L B4 hrow hs1 hs2 hR hI4 hb4
     go_wp2_with fail
     have hR:=HR.out
     have ST:=LB.out.stored ⟨t.k,t.n,t.s,a',m,c',none,0,0⟩
     rw [<-HQ.out,hR]
     exact Xj (c:=⟨t.k,t.n,t.s,a',m,c',none,0,0⟩) (ST.1.keep ((Below.refl _ _).alloc (Nat.le_refl _) _) ST.1.lt) (ST.2.1.alloc ST.2.1.size _) (((Zl HV.out ST.2.2 (by omega)).sub (Zf (S':=fun b=>w.heap.size<=b) fun k hk hl=>⟨by omega,((Below.refl _ _).alloc (Nat.le_refl _) _:Below _ _ _).block k hl⟩)).more (by simp)) rfl rfl rfl
    .have hqn:((q:Int)==0)=false:=by simp;omega
     have hne2:(Value.slice a' m c').ownBlock≠some (w.heap.size+2):=fun e=>by have:=(L.row.lt _ e).1;omega
     have ho4:=hrow.own
     rw [L.len] at ho4
     have hu3:(un:Int)+q<=9223372036854775807:=by omega
     have HI4:=qh hI4
     have HB4:=qh hb4
     have hnw:∀jj u,(vcells cx)[jj]? =some u->((w4.alloc (.cells #[.int .u8 cx.k, .int .i64 cx.n, .string cx.s, .slice cx.la cx.ll cx.lc, .slice cx.oa cx.ol cx.oc] 41)).alloc (.cells #[.int .u8 cx.k, .int .i64 cx.n, .string cx.s, .slice cx.la cx.ll cx.lc, .slice cx.oa cx.ol cx.oc] 41)).cell? ((⟨w4.heap.size+1,0,none⟩:Addr).add jj)=some u:=by
      have:=World.news_of_block (t:=41) (fr:=(0,0)) (heap_alloc_new (w4.alloc (.cells #[.int .u8 cx.k, .int .i64 cx.n, .string cx.s, .slice cx.la cx.ll cx.lc, .slice cx.oa cx.ol cx.oc] 41)) (.cells #[.int .u8 cx.k, .int .i64 cx.n, .string cx.s, .slice cx.la cx.ll cx.lc, .slice cx.oa cx.ol cx.oc] 41))
      intro jj u hu
      simpa using this jj u (by simpa [vcells] using hu)
     have HNW:=qh hnw
     have HB44:=qh B4
     clear L B4 hrow hI4 hb4 hnw
     go_wp2_with (at_builtin;refine wpList_append_lies _ rfl (.tmp 53) (.tmp 55) 38 (by rfl) (w.heap.size+3) 41 i0 _ 5 80 Tryz.underlying38 hi0 hz0 hz1 hz2 rfl (by omega) (.slice a' m c') j (cs.flatMap vcells) (by rfl) ((ho4.alloc _).alloc _) ⟨w4.heap.size+1,0,none⟩ 1 1 (vcells cx) (by rfl) (by rfl) HNW.out (by simp [vcells,Value.oneCell']) (by omega) (by unfold maxLen;omega) (by omega) (by simp;omega) (w4.heap.size+1+1) (by simp) ?_;intro g cap w7 hown7 hgrow7 hat7 hlt7;have hc7:w7.cell? ⟨w.heap.size+2,3,none⟩=some (.slice a' m c'):=(hgrow7.cell_far ⟨w.heap.size+2,3,none⟩ (by simp;omega) (Ne.symm hne2)).trans (Zd ((Below.refl _ _).alloc (by simp) _) (Zd ((Below.refl _ _).alloc (Nat.le_refl _) _) (HB44.out.val.at_ 3 _ rfl) zt2) zt2);have hf7:w7.frozen? ⟨w.heap.size+2,3,none⟩=false:=(hgrow7.frozen_far ⟨w.heap.size+2,3,none⟩ (by simp;omega) (Ne.symm hne2)).trans ((((Below.refl _ _).alloc (by simp) _:Below w4.heap.size (w4.alloc _) ((w4.alloc _).alloc _)).frozen (p:=⟨w.heap.size+2,3,none⟩) zt2).trans ((((Below.refl _ _).alloc (Nat.le_refl _) _:Below w4.heap.size w4 (w4.alloc _)).frozen (p:=⟨w.heap.size+2,3,none⟩) zt2).trans (HB44.out.val.fr 3))))
     go_roundw
     case rel=>exact ⟨j+1,some ⟨g,0,none⟩,j+1,cap,xs++ [x],cs++ [cx],un+q,by omega,by go_num,by go_num,LL.out.round HX.out hq HB4.out HI4.out (((Below.refl _ _).alloc (Nat.le_refl _) _).alloc (by simp) _) hown7 hgrow7 (hat7.imp_right fun e=>by omega)⟩
     case measure=>simp [intOf];omega
  .have hjn:j=K:=by omega
   subst hjn
   have hR:rawP (d+1) (t::r)=(.mk t.k t.n t.s xs [],un):=by
    rw [rawP,HKK.out,L.rd];dsimp only;congr 1;rw [rawV,if_pos HK.out]
   have hv:=Qo (RowV.val L.row (lo:=w.heap.size+3) (by rw [L.len,L.cen]) (Nat.le_refl _) t.k b0 b1 (by rw [L.len];omega)) t.n t.s HBD.out.n0 HBD.out.n1 HBD.out.s1
   have HV:=qh hv
   clear hv
   have LB:=qh L.box
   clear L
   go_wp2_with fail
   have ST:=LB.out.stored ⟨t.k,t.n,t.s,a',m,c',none,0,0⟩
   rw [<-HQ.out,hR]
   exact Xj (c:=⟨t.k,t.n,t.s,a',m,c',none,0,0⟩) ST.1 ST.2.1 ((Zl HV.out ST.2.2 (by omega)).sub (Zf fun k hk _=>⟨by omega,rfl⟩)) rfl rfl rfl
set_option maxRecDepth 100000 in
theorem zix (w:World) (dd:Int) (hd0:0<=dd) (hd:dd<=19) (d:Nat) (t:Tk) (r:List Tk) (a:Option Addr) (n c:Nat) (h:IsToks w w.heap.size (t::r) a n c) (IH:∀(W:World) (l:List Tk) (a:Option Addr) (n c:Nat),IsToks W W.heap.size l a n c->Calls Tryz.prog 94 #[.slice a n c, .int .i64 (dd+1)] W (RawPost W (rawP d l))) (hk:t.k % 2=1):
 Calls Tryz.prog 94 #[.slice a n c, .int .i64 dd] w (RawPost w (rawP (d+1) (t::r))):=by
 obtain ⟨i0,hi0,hz0,hz1,hz2⟩:=info_parts Xa
 have hw1:IntKind.i64.wrap (dd+1)=dd+1:=IntWalk.i64_in _ (by omega)
 obtain ⟨b,o,hp,rfl,hb,htk,hbd⟩:=h.get (k:=0) (by have:=h.len;rw [this];simp)
 have ht:TkAt w b o t:=by simpa using htk
 replace hbd:t.Bnd:=by simpa using hbd
 have c0:=ht.c0;have c1:=ht.c1;have c2:=ht.c2;have c3:=ht.c3
 have b0:=hbd.k0;have b1:=hbd.k1;have b2:=hbd.m0;have b3:=hbd.m1
 have hlen:=h.len
 have hcap:=h.cap
 have hmax:=h.max
 have hnp:0<n:=by rw [hlen];simp
 have hne:((n:Int)==0)=false:=by simp;omega
 obtain ⟨K,hK⟩:∃K:Nat,(t.m % 4).toNat=K:=⟨_,rfl⟩
 have hK1:t.m % 4=(K:Int):=by omega
 have hK2:Int.tmod t.m 4=(K:Int):=by rw [Int.tmod_eq_emod_of_nonneg b2];exact hK1
 have hK3:K<=3:=by omega
 have HI:=qh h
 have HQR:=qh (QR.start w t 41 90 41)
 have HBD:=qh hbd
 have IHH:=qh IH
 have HLEN:=qh hlen
 have HKK:=qh hK
 clear h ht htk hp hbd IH hlen hK
 have hk2:Int.tmod t.k 2=1:=by rw [Int.tmod_eq_emod_of_nonneg b0];exact hk
 have HK:=qh hk
 clear hk
 go_enter Tryz.func94,Tryz.ntmps94
 generalize hQ0:bodyPost _ _ _=Q0
 have HQ:=qh hQ0
 clear hQ0
 go_wp2_with fail
 go_loopw [8,9,10,11] (fun u i _ _ wr=>∃(j:Nat) (a':Option Addr) (m c':Nat) (xs:List V) (cs:List VC) (un:Nat),j<=K/\u= .int .i64 un/\i= .int .u8 j/\RLO w wr d (t::r) t j a' m c' xs cs un) (fun _ i _ _ _=>K - (intOf i).toNat)
 case atStart=>exact ⟨0,none,0,0, [], [],1,Nat.zero_le _,rfl,rfl,⟨rfl,rfl,rfl,(HQR.out _ rfl).1,Row.nil _ _ _ _ _⟩⟩
 case round=>
  obtain ⟨j,a',m,c',xs,cs,un,hj,rfl,rfl,L⟩:=hrel
  have k0:=L.box.tok.at_ 0 _ rfl;have k3:=L.box.tok.at_ 3 _ rfl
  obtain ⟨v0,v1,v2,v3,v4⟩:=row5 L.box.val.at_
  have p0:=L.box.val.fr 4
  obtain ⟨r0,r1,r2,r3,r4⟩:=row5 L.box.res.at_
  have g0:=L.box.res.fr 0;have g1:=L.box.res.fr 1;have g2:=L.box.res.fr 2;have g3:=L.box.res.fr 3;have g4:=L.box.res.fr 4
  have zs2:=L.box.val.lt;have zs1:=L.box.tok.lt;have zs0:=L.box.res.lt
  obtain ⟨hu1,hu2,_⟩:1<=un/\un<=n/\True:=by
   have:=zar (Jd d) (l:=t::r) (by simp) j
   rw [L.rd] at this
   exact ⟨this.1,by rw [HLEN.out];exact this.2.1,trivial⟩
  by_cases hlt:j<K
  .have hz9:c=un->n - un=0:=by omega
   obtain ⟨⟨x,q⟩,hx⟩:∃p,rawP d ((t::r).drop un)=p:=⟨_,rfl⟩
   have hq2:un+q<=n:=by have:=Jd d ((t::r).drop un);rw [hx,List.length_drop] at this;have:=HLEN.out;dsimp only at*;omega
   have HX:=qh hx
   have HIW:=(HI.out.later_ L.box.below).drop un hu2
   have HC:Hid (Calls Tryz.prog 94 #[if c=un then .slice (some ⟨b,o,none⟩) 0 0 else .slice (some ⟨b,o+un*4,none⟩) (n - un) (c - un), .int .i64 (dd+1)] wr (RawPost wr (x,q))):=by
    unfold Hid
    rw [<-HX.out]
    by_cases hc:c=un
    .rw [if_pos hc];exact IHH.out wr _ _ _ _ (HIW.none_left (hz9 hc))
    .rw [if_neg hc];rw [Option.map_some,Zs] at HIW;exact IHH.out wr _ _ _ _ HIW
   have LL:=qh L
   clear L HIW hx
   by_cases hc:c=un
   .rw [if_pos hc] at HC
    have hz:=hz9 hc
    clear hz9
    subst hc
    go_wp2_with fail
    refine (HC.out).mono ?_
    rintro e w4 ⟨⟨cx,rfl,hI4⟩,hb4⟩
    have L:=LL.out
    have B4:=L.box.next hb4
    have k0:=B4.tok.at_ 0 _ rfl;have k3:=B4.tok.at_ 3 _ rfl
    obtain ⟨v0,v1,v2,v3,v4⟩:=row5 B4.val.at_
    have p0:=B4.val.fr 4
    obtain ⟨r0,r1,r2,r3,r4⟩:=row5 B4.res.at_
    have g0:=B4.res.fr 0;have g1:=B4.res.fr 1;have g2:=B4.res.fr 2;have g3:=B4.res.fr 3;have g4:=B4.res.fr 4
    have zt2:=B4.val.lt;have zt1:=B4.tok.lt;have zt0:=B4.res.lt
    have hrow:RowF w4 (w.heap.size+3) (.slice a' m c') (fld xs) (fldc cs):=L.row.later (PF.closed (fld xs) (fldc cs)) (.of_below 0 hb4) (by omega)
    by_cases hq:q=0
    .subst hq
     have hs1:fR (rawP d) (t::r) (j+1)=(xs,c,true):=by rw [fR,if_neg (by rw [L.rd];simp),L.rd];dsimp only;rw [HX.out,if_pos rfl]
     have hs2:=J2 (f:=rawP d) (l:=t::r) (j:=j+1) (n:=K) (by rw [hs1]) (by omega)
     have hR:rawP (d+1) (t::r)=(.mk t.k t.n t.s [] (fld xs),c):=by
      rw [rawP,HKK.out,hs2,hs1];dsimp only;congr 1;rw [rawV,if_neg (by rw [HK.out];decide)];rfl
     have hv:=Qo (RowF.val hrow (lo:=w.heap.size+3) (by simp [fld,fldc,L.len,L.cen]) (Nat.le_refl _) t.k b0 b1 (by rw [show (fld xs).length=xs.length by simp [fld],L.len];omega)) t.n t.s HBD.out.n0 HBD.out.n1 HBD.out.s1
     have HV:=qh hv
     clear hv
     have LB:=qh B4
     have HR:=qh hR
     clear L B4 hrow hs1 hs2 hR hI4 hb4
     go_wp2_with fail
     have hR:=HR.out
     have ST:=LB.out.stored ⟨t.k,t.n,t.s,none,0,0,a',m,c'⟩
     rw [<-HQ.out,hR]
     exact Xj (c:=⟨t.k,t.n,t.s,none,0,0,a',m,c'⟩) (ST.1.keep ((Below.refl _ _).alloc (Nat.le_refl _) _) ST.1.lt) (ST.2.1.alloc ST.2.1.size _) (((Zl HV.out ST.2.2 (by omega)).sub (Zf (S':=fun b=>w.heap.size<=b) fun k hk hl=>⟨by omega,((Below.refl _ _).alloc (Nat.le_refl _) _:Below _ _ _).block k hl⟩)).more (by simp)) rfl rfl rfl
    .exfalso;apply hq
     have h0:=HX.out
     rw [List.drop_eq_nil_of_le (by have:=HLEN.out;omega)] at h0
     cases d<;>(rw [rawP] at h0;injection h0 with h1 h2;exact h2.symm)
   .rw [if_neg hc] at HC
    have huc:un<c:=by omega
    clear hz9 hc
    go_wp2_with fail
    refine (HC.out).mono ?_
    rintro e w4 ⟨⟨cx,rfl,hI4⟩,hb4⟩
    have L:=LL.out
    have B4:=L.box.next hb4
    have k0:=B4.tok.at_ 0 _ rfl;have k3:=B4.tok.at_ 3 _ rfl
    obtain ⟨v0,v1,v2,v3,v4⟩:=row5 B4.val.at_
    have p0:=B4.val.fr 4
    obtain ⟨r0,r1,r2,r3,r4⟩:=row5 B4.res.at_
    have g0:=B4.res.fr 0;have g1:=B4.res.fr 1;have g2:=B4.res.fr 2;have g3:=B4.res.fr 3;have g4:=B4.res.fr 4
    have zt2:=B4.val.lt;have zt1:=B4.tok.lt;have zt0:=B4.res.lt
    have hrow:RowF w4 (w.heap.size+3) (.slice a' m c') (fld xs) (fldc cs):=L.row.later (PF.closed (fld xs) (fldc cs)) (.of_below 0 hb4) (by omega)
    by_cases hq:q=0
    .subst hq
     have hs1:fR (rawP d) (t::r) (j+1)=(xs,un,true):=by rw [fR,if_neg (by rw [L.rd];simp),L.rd];dsimp only;rw [HX.out,if_pos rfl]
     have hs2:=J2 (f:=rawP d) (l:=t::r) (j:=j+1) (n:=K) (by rw [hs1]) (by omega)
     have hR:rawP (d+1) (t::r)=(.mk t.k t.n t.s [] (fld xs),un):=by
      rw [rawP,HKK.out,hs2,hs1];dsimp only;congr 1;rw [rawV,if_neg (by rw [HK.out];decide)];rfl
     have hv:=Qo (RowF.val hrow (lo:=w.heap.size+3) (by simp [fld,fldc,L.len,L.cen]) (Nat.le_refl _) t.k b0 b1 (by rw [show (fld xs).length=xs.length by simp [fld],L.len];omega)) t.n t.s HBD.out.n0 HBD.out.n1 HBD.out.s1
     have HV:=qh hv
     clear hv
     have LB:=qh B4
     have HR:=qh hR
     clear L B4 hrow hs1 hs2 hR hI4 hb4
     go_wp2_with fail
     have hR:=HR.out
     have ST:=LB.out.stored ⟨t.k,t.n,t.s,none,0,0,a',m,c'⟩
     rw [<-HQ.out,hR]
     exact Xj (c:=⟨t.k,t.n,t.s,none,0,0,a',m,c'⟩) (ST.1.keep ((Below.refl _ _).alloc (Nat.le_refl _) _) ST.1.lt) (ST.2.1.alloc ST.2.1.size _) (((Zl HV.out ST.2.2 (by omega)).sub (Zf (S':=fun b=>w.heap.size<=b) fun k hk hl=>⟨by omega,((Below.refl _ _).alloc (Nat.le_refl _) _:Below _ _ _).block k hl⟩)).more (by simp)) rfl rfl rfl
    .have hqn:((q:Int)==0)=false:=by simp;omega
     have hne2:(Value.slice a' m c').ownBlock≠some (w.heap.size+2):=fun e=>by have:=(L.row.lt _ e).1;omega
     have ho4:=hrow.own
     rw [show (fld xs).length=j by simp [fld,L.len]] at ho4
     have hu3:(un:Int)+q<=9223372036854775807:=by omega
     have HI4:=qh hI4
     have HB4:=qh hb4
     have hnw:∀jj u,(fcells (cx.s,cx))[jj]? =some u->((w4.alloc (.cells #[.int .u8 cx.k, .int .i64 cx.n, .string cx.s, .slice cx.la cx.ll cx.lc, .slice cx.oa cx.ol cx.oc] 41)).alloc (.cells #[.string cx.s, .int .u8 cx.k, .int .i64 cx.n, .string cx.s, .slice cx.la cx.ll cx.lc, .slice cx.oa cx.ol cx.oc] 98)).cell? ((⟨w4.heap.size+1,0,none⟩:Addr).add jj)=some u:=by
      have:=World.news_of_block (t:=98) (fr:=(0,0)) (heap_alloc_new (w4.alloc (.cells #[.int .u8 cx.k, .int .i64 cx.n, .string cx.s, .slice cx.la cx.ll cx.lc, .slice cx.oa cx.ol cx.oc] 41)) (.cells #[.string cx.s, .int .u8 cx.k, .int .i64 cx.n, .string cx.s, .slice cx.la cx.ll cx.lc, .slice cx.oa cx.ol cx.oc] 98))
      intro jj u hu
      simpa using this jj u (by simpa [fcells] using hu)
     have HNW:=qh hnw
     have HB44:=qh B4
     clear L B4 hrow hI4 hb4 hnw
     go_wp2_with (at_builtin;refine wpList_append_lies _ rfl (.tmp 59) (.tmp 64) 39 (by rfl) (w.heap.size+3) 98 i0 _ 6 96 Tryz.underlying39 hi0 hz0 hz1 hz2 rfl (by omega) (.slice a' m c') j ((fldc cs).flatMap fcells) (by rfl) ((ho4.alloc _).alloc _) ⟨w4.heap.size+1,0,none⟩ 1 1 (fcells (cx.s,cx)) (by rfl) (by rfl) HNW.out (by simp [fcells,Value.oneCell']) (by omega) (by unfold maxLen;omega) (by omega) (by simp;omega) (w4.heap.size+1+1) (by simp) ?_;intro g cap w7 hown7 hgrow7 hat7 hlt7;have hc7:w7.cell? ⟨w.heap.size+2,4,none⟩=some (.slice a' m c'):=(hgrow7.cell_far ⟨w.heap.size+2,4,none⟩ (by simp;omega) (Ne.symm hne2)).trans (Zd ((Below.refl _ _).alloc (by simp) _) (Zd ((Below.refl _ _).alloc (Nat.le_refl _) _) (HB44.out.val.at_ 4 _ rfl) zt2) zt2);have hf7:w7.frozen? ⟨w.heap.size+2,4,none⟩=false:=(hgrow7.frozen_far ⟨w.heap.size+2,4,none⟩ (by simp;omega) (Ne.symm hne2)).trans ((((Below.refl _ _).alloc (by simp) _:Below w4.heap.size (w4.alloc _) ((w4.alloc _).alloc _)).frozen (p:=⟨w.heap.size+2,4,none⟩) zt2).trans ((((Below.refl _ _).alloc (Nat.le_refl _) _:Below w4.heap.size w4 (w4.alloc _)).frozen (p:=⟨w.heap.size+2,4,none⟩) zt2).trans (HB44.out.val.fr 4))))
     go_roundw
     case rel=>exact ⟨j+1,some ⟨g,0,none⟩,j+1,cap,xs++ [x],cs++ [cx],un+q,by omega,by go_num,by go_num,LL.out.round HX.out hq HB4.out HI4.out (((Below.refl _ _).alloc (Nat.le_refl _) _).alloc (by simp) _) hown7 hgrow7 (hat7.imp_right fun e=>by omega)⟩
     case measure=>simp [intOf];omega
  .have hjn:j=K:=by omega
   subst hjn
   have hR:rawP (d+1) (t::r)=(.mk t.k t.n t.s [] (fld xs),un):=by
    rw [rawP,HKK.out,L.rd];dsimp only;congr 1;rw [rawV,if_neg (by rw [HK.out];decide)];rfl
   have hv:=Qo (RowF.val L.row (lo:=w.heap.size+3) (by simp [fld,fldc,L.len,L.cen]) (Nat.le_refl _) t.k b0 b1 (by rw [show (fld xs).length=xs.length by simp [fld],L.len];omega)) t.n t.s HBD.out.n0 HBD.out.n1 HBD.out.s1
   have HV:=qh hv
   clear hv
   have LB:=qh L.box
   clear L
   go_wp2_with fail
   have ST:=LB.out.stored ⟨t.k,t.n,t.s,none,0,0,a',m,c'⟩
   rw [<-HQ.out,hR]
   exact Xj (c:=⟨t.k,t.n,t.s,none,0,0,a',m,c'⟩) ST.1 ST.2.1 ((Zl HV.out ST.2.2 (by omega)).sub (Zf fun k hk _=>⟨by omega,rfl⟩)) rfl rfl rfl
set_option maxRecDepth 100000 in
theorem zen (w:World) (dd:Int) (a:Option Addr) (c:Nat):
 Calls Tryz.prog 94 #[.slice a 0 c, .int .i64 dd] w (RawPost w (V.none,0)):=by
 go_enter Tryz.func94,Tryz.ntmps94
 generalize hQ0:bodyPost _ _ _=Q0
 have HQ:=qh hQ0
 clear hQ0
 go_wp2_with fail
 rw [<-HQ.out]
 exact Xj (c:=vzero) (BC.start w #[.int .u8 0, .int .i64 0, .string { data:= #[] }, .slice none 0 0, .slice none 0 0] _) ((Below.refl _ _).alloc (Nat.le_refl _) _) (Zo _ _) rfl rfl rfl
set_option maxRecDepth 100000 in
theorem znj (w:World) (t:Tk) (r:List Tk) (a:Option Addr) (n c:Nat) (h:IsToks w w.heap.size (t::r) a n c):
 Calls Tryz.prog 94 #[.slice a n c, .int .i64 20] w (RawPost w (rawP 0 (t::r))):=by
 obtain ⟨b,o,hp,rfl,hb,htk,hbd⟩:=h.get (k:=0) (by have:=h.len;rw [this];simp)
 have ht:TkAt w b o t:=by simpa using htk
 replace hbd:t.Bnd:=by simpa using hbd
 have c0:=ht.c0;have c1:=ht.c1;have c2:=ht.c2;have c3:=ht.c3
 have b2:=hbd.m0;have b3:=hbd.m1
 have hnp:0<n:=by rw [h.len];simp
 have hne:((n:Int)==0)=false:=by simp;omega
 obtain ⟨K,hK⟩:∃K:Nat,(t.m % 4).toNat=K:=⟨_,rfl⟩
 have hK2:Int.tmod t.m 4=(K:Int):=by rw [Int.tmod_eq_emod_of_nonneg b2];omega
 have HQR:=qh (QR.start w t 41 90 41)
 have HBD:=qh hbd
 clear h ht htk hp hbd hK
 go_enter Tryz.func94,Tryz.ntmps94
 generalize hQ0:bodyPost _ _ _=Q0
 have HQ:=qh hQ0
 clear hQ0
 go_wp2_with fail
 go_loopw [8,9,10,11] (fun u i _ _ wr=>u= .int .i64 1/\i= .int .u8 0/\QR w wr t ⟨t.k,t.n,t.s,none,0,0,none,0,0⟩) (fun _ _ _ _ _=>0)
 case atStart=>exact ⟨rfl,rfl,(HQR.out _ rfl).1⟩
 case round=>
  obtain ⟨rfl,rfl,L⟩:=hrel
  have k0:=L.tok.at_ 0 _ rfl;have k3:=L.tok.at_ 3 _ rfl
  obtain ⟨v0,v1,v2,v3,v4⟩:=row5 L.val.at_
  obtain ⟨r0,r1,r2,r3,r4⟩:=row5 L.res.at_
  have g0:=L.res.fr 0;have g1:=L.res.fr 1;have g2:=L.res.fr 2;have g3:=L.res.fr 3;have g4:=L.res.fr 4
  have zs2:=L.val.lt;have zs1:=L.tok.lt;have zs0:=L.res.lt
  have LB:=qh L
  clear L
  by_cases hK0:0<K
  all_goals
   go_wp2_with fail
   have ST:=LB.out.stored ⟨t.k,t.n,t.s,none,0,0,none,0,0⟩
   rw [<-HQ.out]
   exact Xj (c:=⟨t.k,t.n,t.s,none,0,0,none,0,0⟩) ST.1 ST.2.1 (Qf _ _ t.k t.n t.s HBD.out.k0 HBD.out.k1 HBD.out.n0 HBD.out.n1 HBD.out.s1) rfl rfl rfl
theorem zft (d:Nat):∀(dd:Int),0<=dd->dd+d=20->∀(w:World) (l:List Tk) (a:Option Addr) (n c:Nat),IsToks w w.heap.size l a n c->
 Calls Tryz.prog 94 #[.slice a n c, .int .i64 dd] w (RawPost w (rawP d l)):=by
 induction d with
 | zero=>
   intro dd _ hd w l a n c h
   cases l with
   |nil=>obtain rfl:n=0:=h.len;exact zen w dd a c
   | cons t r=>
     obtain rfl:dd=20:=by omega
     exact znj w t r a n c h
 | succ d ih=>
   intro dd hd0 hd w l a n c h
   cases l with
   |nil=>obtain rfl:n=0:=h.len;exact zen w dd a c
   | cons t r=>
     have IH:=fun W l a n c h=>ih (dd+1) (by omega) (by omega) W l a n c h
     by_cases hk:t.k % 2=0
     .exact znw w dd hd0 (by omega) d t r a n c h IH hk
     .exact zix w dd hd0 (by omega) d t r a n c h IH (by omega)
theorem zm8 {tmps:Array Value} {W:World} {b:Nat} {c:VC} (ht:tmps[2]? =some (.pointer (some ⟨b,0,none⟩))) (h:BC W b (vcells c)):
 (results Tryz.f46 tmps).run Tryz.prog W= .ok (.agg #[.int .u8 c.k, .int .i64 c.n, .string c.s, .slice c.la c.ll c.lc, .slice c.oa c.ol c.oc]) W:=by
 obtain ⟨r0,r1,r2,r3,r4⟩:=(⟨h.at_ 0 _ rfl,h.at_ 1 _ rfl,h.at_ 2 _ rfl,h.at_ 3 _ rfl,h.at_ 4 _ rfl⟩:W.cell? ⟨b,0,none⟩=some (.int .u8 c.k)/\W.cell? ⟨b,1,none⟩=some (.int .i64 c.n)/\W.cell? ⟨b,2,none⟩=some (.string c.s)/\W.cell? ⟨b,3,none⟩=some (.slice c.la c.ll c.lc)/\W.cell? ⟨b,4,none⟩=some (.slice c.oa c.ol c.oc))
 simp [results,Tryz.results46,go_sem,ht,r0,r1,r2,r3,r4]
set_option maxRecDepth 100000 in
theorem zlb (w:World) (l:List Tk) (a:Option Addr) (n c:Nat) (h:IsToks w w.heap.size l a n c):
 Calls Tryz.prog 46 #[.slice a n c] w fun e w'=>(∃cv:VC,e= .returned (.agg #[.int .u8 cv.k, .int .i64 cv.n, .string cv.s, .slice cv.la cv.ll cv.lc, .slice cv.oa cv.ol cv.oc])/\IsVal (only (fun b=>w.heap.size<=b) w') w'.heap.size (rawP 20 (l.take 60)).1 cv)/\Below w.heap.size w w':=by
 have hlen:=h.len
 have hcap:=h.cap
 have hmax:=h.max
 have HD:=qh (BC.start w #[.int .u8 0, .int .i64 0, .string { data:= #[] }, .slice none 0 0, .slice none 0 0] 41)
 have hal:Below w.heap.size w (w.alloc (.cells #[.int .u8 0, .int .i64 0, .string { data:= #[] }, .slice none 0 0, .slice none 0 0] 41)):=(Below.refl _ _).alloc (Nat.le_refl _) _
 have HAL:=qh hal
 obtain ⟨N,hN⟩:∃N,min n 60=N:=⟨_,rfl⟩
 have hN2:N<=n:=by omega
 have htk:l.take N=l.take 60:=by
  by_cases hq:n<=60
  .rw [List.take_of_length_le (by omega),List.take_of_length_le (by omega)]
  .rw [show N=60 by omega]
 have HI:=qh ((h.later_ hal).take N hN2)
 rw [htk] at HI
 obtain ⟨p,hp⟩:∃p,rawP 20 (l.take 60)=p:=⟨_,rfl⟩
 have HP:=qh hp
 rw [hp]
 have hcs:(n<=60/\N=n)∨(60<n/\N=60):=by omega
 clear hN hN2
 rcases hcs with ⟨hq,rfl⟩|⟨hq,rfl⟩
 all_goals
  clear h hlen hal htk hp
  go_enter Tryz.func46,Tryz.ntmps46
  generalize hQ0:bodyPost _ _ _=Q0
  have HQ:=qh hQ0
  clear hQ0
  go_wp2_with fail
  refine (zft 20 0 (by omega) (by omega) _ _ _ _ _ HI.out).mono ?_
  rw [HP.out]
  rintro e w3 ⟨⟨cv,rfl,hI3⟩,hb3⟩
  have D:=HD.out.keep hb3 (by simp)
  obtain ⟨r0,r1,r2,r3,r4⟩:=row5 D.at_
  have g0:=D.fr 0;have g1:=D.fr 1;have g2:=D.fr 2;have g3:=D.fr 3;have g4:=D.fr 4
  have zs3:w.heap.size<w3.heap.size:=D.lt
  have HD3:=qh D
  have HI3:=qh hI3
  have HB3:=qh (HAL.out.trans (hb3.mono (by simp)))
  clear D hI3 hb3
  go_wp2_with fail
  rw [<-HQ.out]
  have s1:RStep w3 (((((w3.setCell ⟨w.heap.size,0,none⟩ (.int .u8 cv.k)).setCell ⟨w.heap.size,1,none⟩ (.int .i64 cv.n)).setCell ⟨w.heap.size,2,none⟩ (.string cv.s)).setCell ⟨w.heap.size,3,none⟩ (.slice cv.la cv.ll cv.lc)).setCell ⟨w.heap.size,4,none⟩ (.slice cv.oa cv.ol cv.oc)) w.heap.size:=(((RStep.self.trans RStep.self).trans RStep.self).trans RStep.self).trans RStep.self
  have hbc:BC (((((w3.setCell ⟨w.heap.size,0,none⟩ (.int .u8 cv.k)).setCell ⟨w.heap.size,1,none⟩ (.int .i64 cv.n)).setCell ⟨w.heap.size,2,none⟩ (.string cv.s)).setCell ⟨w.heap.size,3,none⟩ (.slice cv.la cv.ll cv.lc)).setCell ⟨w.heap.size,4,none⟩ (.slice cv.oa cv.ol cv.oc)) w.heap.size (vcells cv):=((((HD3.out.set (i:=0) (x:= .int .u8 cv.k) (by simp)).set (i:=1) (x:= .int .i64 cv.n) (by simp)).set (i:=2) (x:= .string cv.s) (by simp)).set (i:=3) (x:= .slice cv.la cv.ll cv.lc) (by simp)).set (i:=4) (x:= .slice cv.oa cv.ol cv.oc) (by simp)
  have hv:=fun ob=>(Zl (Zl HI3.out s1 (by simp)) (RStep.of_below w.heap.size ((Below.refl _ _).alloc (Nat.le_refl _) ob)) (by simp)).sub (Zf (S':=fun b=>w.heap.size<=b) fun k hk _=>⟨by simp at hk;omega,rfl⟩)
  have hB:=HB3.out.trans (s1.below (by omega))
  exact ⟨rfl,_,zm8 rfl (hbc.keep ((Below.refl _ _).alloc (Nat.le_refl _) _) hbc.lt),⟨cv,rfl,hv _⟩,hB.alloc hB.size _⟩
def low (b:UInt8):UInt8:=UInt8.ofNat (b.toNat % 128)
def plainL (l:List UInt8):List UInt8:=(l.take 40).map low
def plainS (s:ByteArray):ByteArray:=⟨(plainL s.data.toList).toArray⟩
set_option maxRecDepth 100000 in
theorem Ku {w:World} {B:Nat} {v:Value} {bs:List UInt8} (ho:w.ownsRow B 5 1 v bs.length (outs bs)):∃a n c,v= .slice a n c/\IsB w w.heap.size a n c bs:=by
 have hc:=fun g hg=>ho.cells (g:=g) hg
 have hlt:=ho.lt
 rcases ho.2 with ⟨rfl,hn⟩|⟨g,cap,cur,rfl,_,hg,hnc,hcm,_,_⟩
 .have:bs= [] :=List.length_eq_zero_iff.1 hn
  subst this
  exact ⟨none,0,0,rfl, .nil _ _⟩
 .refine ⟨_,_,_,rfl,rfl,hnc,by simpa [maxLen] using hcm,g,0,fun _=>⟨rfl,(hlt g rfl).2⟩,fun i hi=> ?_⟩
  have:=hc g rfl i (.int .u8 (bs[i].toNat:Int)) (by simp [outs,hi])
  rw [Zs] at this;exact this
theorem zed (l:List UInt8) (j:Nat) (h:j<l.length):(l.take (j+1)).map low=(l.take j).map low++ [low l[j]] :=by
 rw [Zv l j h,List.map_append];rfl
theorem zc2 (b:UInt8):(((low b).toNat:Nat):Int)=(b.toNat:Int) % 128:=by
 have h:(low b).toNat=b.toNat % 128:=by
  unfold low
  rw [UInt8.toNat_ofNat']
  omega
 rw [h];omega
structure PH (w wr:World) (s:ByteArray) (j:Nat) (u:Value):Prop where
 own:wr.ownsRow w.heap.size 5 1 u j (outs ((s.data.toList.take j).map low))
 below:Below w.heap.size w wr
set_option maxRecDepth 100000 in
theorem zeg (w:World) (s:ByteArray) (hs:s.size<=140737488355328):
 Calls Tryz.prog 96 #[.string s] w fun e w'=>e= .returned (.string (plainS s))/\Below w.heap.size w w':=by
 obtain ⟨i0,hi0,hz0,hz1,hz2⟩:=info_parts Yj
 have hsz:s.data.toList.length=s.size:=Array.length_toList
 have HS:=qh hsz
 clear hsz
 go_enter Tryz.func96,Tryz.ntmps96
 go_wp2_with fail
 go_loopw [3,4] (fun u i wr=>∃(j:Nat) (a:Option Addr) (m c:Nat),j<=40/\j<=s.size/\i= .int .i64 j/\u= .slice a m c/\PH w wr s j (.slice a m c)) (fun _ i _=>40 - (intOf i).toNat)
 case atStart=>exact ⟨0,none,0,0,by omega,Nat.zero_le _,rfl,rfl,⟨⟨by simp [outs], .inl ⟨rfl,rfl⟩⟩,Below.refl _ _⟩⟩
 case round=>
  obtain ⟨j,a,m,c,hj,hj2,rfl,rfl,L⟩:=hrel
  have hlen:=HS.out
  by_cases h1:j<s.size
  .by_cases h2:j<40
   .have hgb:s.data.toList[j]'(by omega)=s[j]'h1:=by simp [ByteArray.getElem_eq_getElem_data]
    have hsn:=zed s.data.toList j (by omega)
    rw [hgb] at hsn
    have HSN:=qh hsn
    have hrlt:∀b,(Value.slice a m c).ownBlock=some b->w.heap.size<=b/\b<wr.heap.size:=L.own.lt
    have hb:=L.below.size
    have LL:=qh L
    have ho:=L.own
    clear hsn hgb L
    go_wp2_with (at_builtin;refine wpList_append_lies _ rfl (.tmp 15) (.tmp 20) 34 (by rfl) w.heap.size 5 i0 _ 1 1 Tryz.underlying34 hi0 hz0 hz1 hz2 rfl (by omega) (.slice a m c) j (outs ((s.data.toList.take j).map low)) (by rfl) (ho.alloc _) ⟨wr.heap.size,0,none⟩ 1 1 [.int .u8 ((s[j]'h1).toNat % 128:Int)] (by rfl) (by rfl) (World.news_of_block (cs:= #[.int .u8 ((s[j]'h1).toNat % 128:Int)]) (t:=5) (fr:=(0,0)) (heap_alloc_new wr _)) (by simp [Value.oneCell']) (by omega) (by unfold maxLen;omega) (by omega) (by simp;omega) (wr.heap.size+1) (by simp) ?_;intro g cap w7 hown7 hgrow7 hat7 hlt7)
    go_roundw
    case rel=>
     refine ⟨j+1,some ⟨g,0,none⟩,j+1,cap,by omega,by omega,by go_num,rfl,⟨?_, ?_⟩⟩
     .rw [HSN.out,J4]
      have e:outs [low (s[j]'h1)] = [.int .u8 ((s[j]'h1).toNat % 128:Int)] :=by simp [outs,zc2]
      rw [e];exact hown7
     .exact (LL.out.below.trans (((Below.refl _ _).alloc (Nat.le_refl _) _).mono hb)).trans (Zi hgrow7 (fun k hk=>(hrlt k hk).1) (by simp;omega))
    case measure=>simp [intOf];omega
   .obtain ⟨a2,n2,c2,hv2,hI⟩:=Ku (bs:=(s.data.toList.take j).map low) (by rw [List.length_map,List.length_take,Nat.min_eq_left (by omega)];exact L.own)
    injection hv2 with h3 h4 h5;subst h3 h4 h5
    have hcv:=Yp hI
    have LL:=qh L
    have hp:((s.data.toList.take j).map low)=plainL s.data.toList:=by rw [plainL,show j=40 by omega]
    rw [hp] at hcv
    clear hI L hp
    go_wp2_with fail
    go_returns
    exact ⟨rfl,LL.out.below⟩
  .obtain ⟨a2,n2,c2,hv2,hI⟩:=Ku (bs:=(s.data.toList.take j).map low) (by rw [List.length_map,List.length_take,Nat.min_eq_left (by omega)];exact L.own)
   injection hv2 with h3 h4 h5;subst h3 h4 h5
   have hcv:=Yp hI
   have LL:=qh L
   have hp:((s.data.toList.take j).map low)=plainL s.data.toList:=by rw [plainL,List.take_of_length_le (by omega),List.take_of_length_le (by omega)]
   rw [hp] at hcv
   clear hI L hp
   go_wp2_with fail
   go_returns
   exact ⟨rfl,LL.out.below⟩
end Go.Proofs.YtfoahkbnheijcaaGreatDoor
