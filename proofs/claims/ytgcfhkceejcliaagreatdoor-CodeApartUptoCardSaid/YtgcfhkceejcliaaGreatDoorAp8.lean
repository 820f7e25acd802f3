/-
  Contracts of the functions that the law reaches: raw. Raw. plain: a text of 40 bytes at most, all below 128. conciliatorref01.Field: where a key stands, or would. With: an object's fields, and one more.
-/
import Derived.Test.YtgcfhkceejcliaaGreatDoorAp7
import Derived.Test.YtgcfhkceejcliaaGreatDoorAp4
import Derived.BigQuiet
import Derived.Laws.AppendOwn
namespace Go.Proofs.YtgcfhkceejcliaaGreatDoor
open Go.RowKit
set_option maxHeartbeats 8000000 in
set_option maxRecDepth 100000 in
theorem raw_list (w:World) (dd:Int) (hd0:0≤dd) (hd:dd≤19) (d:Nat) (t:Tk) (r:List Tk) (a:Option Addr) (n c:Nat) (h:IsToks w w.heap.size (t::r) a n c) (IH:∀(W:World) (l:List Tk) (a:Option Addr) (n c:Nat),IsToks W W.heap.size l a n c→Calls Tryz.prog 40 #[.slice a n c, .int .i64 (dd+1)] W (RawPost W (rawP d l))) (hk:t.k % 2=0):
    Calls Tryz.prog 40 #[.slice a n c, .int .i64 dd] w (RawPost w (rawP (d+1) (t::r))):=by
  obtain ⟨i0,hi0,hz0,hz1,hz2⟩:=info_parts ginfoV
  have hw1:IntKind.i64.wrap (dd+1)=dd+1:=IntWalk.i64_in _ (by omega)
  obtain ⟨b,o,hp,rfl,hb,htk,hbd⟩:=h.get (k:=0) (by have:=h.len;rw [this];simp)
  have ht:TkAt w b o t:=by simpa using htk
  replace hbd:t.Bnd:=by simpa using hbd
  have c0:=ht.c0;have c1:=ht.c1;have c2:=ht.c2;have c3:=ht.c3
  have b0:=hbd.k0;have b1:=hbd.k1;have b2:=hbd.m0;have b3:=hbd.m1
  have hlen:=h.len
  have hcap:=h.cap
  have hmax:=h.max
  have hnp:0<n:=by rw [hlen];simp
  have hne:((n:Int)==0)=false:=by simp;omega
  obtain ⟨K,hK⟩:∃K:Nat,(t.m % 4).toNat=K:=⟨_,rfl⟩
  have hK1:t.m % 4=(K:Int):=by omega
  have hK2:Int.tmod t.m 4=(K:Int):=by rw [Int.tmod_eq_emod_of_nonneg b2];exact hK1
  have hK3:K≤3:=by omega
  have HI:=Lib.hid h
  have HQR:=Lib.hid (QR.start w t 33 51 33)
  have HBD:=Lib.hid hbd
  have IHH:=Lib.hid IH
  have HLEN:=Lib.hid hlen
  have HKK:=Lib.hid hK
  clear h ht htk hp hbd IH hlen hK
  have hk2:Int.tmod t.k 2=0:=by rw [Int.tmod_eq_emod_of_nonneg b0];exact hk
  have HK:=Lib.hid hk
  clear hk
  go_enter Tryz.func40,Tryz.ntmps40
  generalize hQ0:bodyPost _ _ _=Q0
  have HQ:=Lib.hid hQ0
  clear hQ0
  go_wp2_with fail
  go_loopw [8,9,10,11] (fun u i _ _ wr=>∃(j:Nat) (a':Option Addr) (m c':Nat) (xs:List V) (cs:List VC) (un:Nat),j≤K∧u= .int .i64 un∧i= .int .u8 j∧RLL w wr d (t::r) t j a' m c' xs cs un) (fun _ i _ _ _=>K - (intOf i).toNat)
  case atStart=>exact ⟨0,none,0,0, [], [],1,Nat.zero_le _,rfl,rfl,⟨rfl,rfl,rfl,(HQR.out _ rfl).1,Row.nil _ _ _ _ _⟩⟩
  case round=>
    obtain ⟨j,a',m,c',xs,cs,un,hj,rfl,rfl,L⟩:=hrel
    have k0:=L.box.tok.at_ 0 _ rfl;have k3:=L.box.tok.at_ 3 _ rfl
    obtain ⟨v0,v1,v2,v3,v4⟩:=row5 L.box.val.at_
    have p0:=L.box.val.fr 3
    obtain ⟨r0,r1,r2,r3,r4⟩:=row5 L.box.res.at_
    have g0:=L.box.res.fr 0;have g1:=L.box.res.fr 1;have g2:=L.box.res.fr 2;have g3:=L.box.res.fr 3;have g4:=L.box.res.fr 4
    have zs2:=L.box.val.lt;have zs1:=L.box.tok.lt;have zs0:=L.box.res.lt
    obtain ⟨hu1,hu2,_⟩:1≤un∧un≤n∧True:=by
      have:=fR_used (rawP_used d) (l:=t::r) (by simp) j
      rw [L.rd] at this
      exact ⟨this.1,by rw [HLEN.out];exact this.2.1,trivial⟩
    by_cases hlt:j<K
    · have hz9:c=un→n - un=0:=by omega
      obtain ⟨⟨x,q⟩,hx⟩:∃p,rawP d ((t::r).drop un)=p:=⟨_,rfl⟩
      have hq2:un+q≤n:=by have:=rawP_used d ((t::r).drop un);rw [hx,List.length_drop] at this;have:=HLEN.out;dsimp only at*;omega
      have HX:=Lib.hid hx
      have HIW:=(HI.out.later_ L.box.below).drop un hu2
      have HC:Hid (Calls Tryz.prog 40 #[if c=un then .slice (some ⟨b,o,none⟩) 0 0 else .slice (some ⟨b,o+un*4,none⟩) (n - un) (c - un), .int .i64 (dd+1)] wr (RawPost wr (x,q))):=by
        unfold Hid
        rw [←HX.out]
        by_cases hc:c=un
        · rw [if_pos hc];exact IHH.out wr _ _ _ _ (HIW.none_left (hz9 hc))
        · rw [if_neg hc];rw [Option.map_some,add_at] at HIW;exact IHH.out wr _ _ _ _ HIW
      have LL:=Lib.hid L
      clear L HIW hx
      by_cases hc:c=un
      · rw [if_pos hc] at HC
        have hz:=hz9 hc
        clear hz9
        subst hc
        go_wp2_with fail
        refine (HC.out).mono ?_
        rintro e w4 ⟨⟨cx,rfl,hI4⟩,hb4⟩
        have L:=LL.out
        have B4:=L.box.next hb4
        have k0:=B4.tok.at_ 0 _ rfl;have k3:=B4.tok.at_ 3 _ rfl
        obtain ⟨v0,v1,v2,v3,v4⟩:=row5 B4.val.at_
        have p0:=B4.val.fr 3
        obtain ⟨r0,r1,r2,r3,r4⟩:=row5 B4.res.at_
        have g0:=B4.res.fr 0;have g1:=B4.res.fr 1;have g2:=B4.res.fr 2;have g3:=B4.res.fr 3;have g4:=B4.res.fr 4
        have zt2:=B4.val.lt;have zt1:=B4.tok.lt;have zt0:=B4.res.lt
        have hrow:RowV w4 (w.heap.size+3) (.slice a' m c') xs cs:=L.row.later (PV.closed xs cs) (.of_below 0 hb4) (by omega)
        by_cases hq:q=0
        · subst hq
          have hs1:fR (rawP d) (t::r) (j+1)=(xs,c,true):=by rw [fR,if_neg (by rw [L.rd];simp),L.rd];dsimp only;rw [HX.out,if_pos rfl]
          have hs2:=fR_stop (f:=rawP d) (l:=t::r) (j:=j+1) (n:=K) (by rw [hs1]) (by omega)
          have hR:rawP (d+1) (t::r)=(.mk t.k t.n t.s xs [],c):=by
            rw [rawP,HKK.out,hs2,hs1];dsimp only;congr 1;rw [rawV,if_pos HK.out]
          have hv:=isVal_with (RowV.val hrow (lo:=w.heap.size+3) (by rw [L.len,L.cen]) (Nat.le_refl _) t.k b0 b1 (by rw [L.len];omega)) t.n t.s HBD.out.n0 HBD.out.n1 HBD.out.s1
          have HV:=Lib.hid hv
          clear hv
          have LB:=Lib.hid B4
          have HR:=Lib.hid hR
          clear L B4 hrow hs1 hs2 hR hI4 hb4
          go_wp2_with fail
          have hR:=HR.out
          have ST:=LB.out.stored ⟨t.k,t.n,t.s,a',m,c',none,0,0⟩
          rw [←HQ.out,hR]
          exact raw_leave (c:=⟨t.k,t.n,t.s,a',m,c',none,0,0⟩) (ST.1.keep ((Below.refl _ _).alloc (Nat.le_refl _) _) ST.1.lt) (ST.2.1.alloc ST.2.1.size _) (((isVal_far HV.out ST.2.2 (by omega)).sub (shows_step (S':=fun b=>w.heap.size≤b) fun k hk hl=>⟨by omega,((Below.refl _ _).alloc (Nat.le_refl _) _:Below _ _ _).block k hl⟩)).more (by simp)) rfl rfl rfl
        · exfalso;apply hq
          have h0:=HX.out
          rw [List.drop_eq_nil_of_le (by have:=HLEN.out;omega)] at h0
          cases d<;>(rw [rawP] at h0;injection h0 with h1 h2;exact h2.symm)
      · rw [if_neg hc] at HC
        have huc:un<c:=by omega
        clear hz9 hc
        go_wp2_with fail
        refine (HC.out).mono ?_
        rintro e w4 ⟨⟨cx,rfl,hI4⟩,hb4⟩
        have L:=LL.out
        have B4:=L.box.next hb4
        have k0:=B4.tok.at_ 0 _ rfl;have k3:=B4.tok.at_ 3 _ rfl
        obtain ⟨v0,v1,v2,v3,v4⟩:=row5 B4.val.at_
        have p0:=B4.val.fr 3
        obtain ⟨r0,r1,r2,r3,r4⟩:=row5 B4.res.at_
        have g0:=B4.res.fr 0;have g1:=B4.res.fr 1;have g2:=B4.res.fr 2;have g3:=B4.res.fr 3;have g4:=B4.res.fr 4
        have zt2:=B4.val.lt;have zt1:=B4.tok.lt;have zt0:=B4.res.lt
        have hrow:RowV w4 (w.heap.size+3) (.slice a' m c') xs cs:=L.row.later (PV.closed xs cs) (.of_below 0 hb4) (by omega)
        by_cases hq:q=0
        · subst hq
          have hs1:fR (rawP d) (t::r) (j+1)=(xs,un,true):=by rw [fR,if_neg (by rw [L.rd];simp),L.rd];dsimp only;rw [HX.out,if_pos rfl]
          have hs2:=fR_stop (f:=rawP d) (l:=t::r) (j:=j+1) (n:=K) (by rw [hs1]) (by omega)
          have hR:rawP (d+1) (t::r)=(.mk t.k t.n t.s xs [],un):=by
            rw [rawP,HKK.out,hs2,hs1];dsimp only;congr 1;rw [rawV,if_pos HK.out]
          have hv:=isVal_with (RowV.val hrow (lo:=w.heap.size+3) (by rw [L.len,L.cen]) (Nat.le_refl _) t.k b0 b1 (by rw [L.len];omega)) t.n t.s HBD.out.n0 HBD.out.n1 HBD.out.s1
          have HV:=Lib.hid hv
          clear hv
          have LB:=Lib.hid B4
          have HR:=Lib.hid hR
          clear L B4 hrow hs1 hs2 hR hI4 hb4
          go_wp2_with fail
          have hR:=HR.out
          have ST:=LB.out.stored ⟨t.k,t.n,t.s,a',m,c',none,0,0⟩
          rw [←HQ.out,hR]
          exact raw_leave (c:=⟨t.k,t.n,t.s,a',m,c',none,0,0⟩) (ST.1.keep ((Below.refl _ _).alloc (Nat.le_refl _) _) ST.1.lt) (ST.2.1.alloc ST.2.1.size _) (((isVal_far HV.out ST.2.2 (by omega)).sub (shows_step (S':=fun b=>w.heap.size≤b) fun k hk hl=>⟨by omega,((Below.refl _ _).alloc (Nat.le_refl _) _:Below _ _ _).block k hl⟩)).more (by simp)) rfl rfl rfl
        · have hqn:((q:Int)==0)=false:=by simp;omega
          have hne2:(Value.slice a' m c').ownBlock≠some (w.heap.size+2):=fun e=>by have:=(L.row.lt _ e).1;omega
          have ho4:=hrow.own
          rw [L.len] at ho4
          have hu3:(un:Int)+q≤9223372036854775807:=by omega
          have HI4:=Lib.hid hI4
          have HB4:=Lib.hid hb4
          have hnw:∀jj u,(vcells cx)[jj]? =some u→((w4.alloc (.cells #[.int .u8 cx.k, .int .i64 cx.n, .string cx.s, .slice cx.la cx.ll cx.lc, .slice cx.oa cx.ol cx.oc] 33)).alloc (.cells #[.int .u8 cx.k, .int .i64 cx.n, .string cx.s, .slice cx.la cx.ll cx.lc, .slice cx.oa cx.ol cx.oc] 33)).cell? ((⟨w4.heap.size+1,0,none⟩:Addr).add jj)=some u:=by
            have:=World.news_of_block (t:=33) (fr:=(0,0)) (heap_alloc_new (w4.alloc (.cells #[.int .u8 cx.k, .int .i64 cx.n, .string cx.s, .slice cx.la cx.ll cx.lc, .slice cx.oa cx.ol cx.oc] 33)) (.cells #[.int .u8 cx.k, .int .i64 cx.n, .string cx.s, .slice cx.la cx.ll cx.lc, .slice cx.oa cx.ol cx.oc] 33))
            intro jj u hu
            simpa using this jj u (by simpa [vcells] using hu)
          have HNW:=Lib.hid hnw
          have HB44:=Lib.hid B4
          clear L B4 hrow hI4 hb4 hnw
          go_wp2_with (at_builtin;refine wpList_append_lies _ rfl (.tmp 53) (.tmp 55) 30 (by rfl) (w.heap.size+3) 33 i0 _ 5 80 Tryz.underlying30 hi0 hz0 hz1 hz2 rfl (by omega) (.slice a' m c') j (cs.flatMap vcells) (by rfl) ((ho4.alloc _).alloc _) ⟨w4.heap.size+1,0,none⟩ 1 1 (vcells cx) (by rfl) (by rfl) HNW.out (by simp [vcells,Value.oneCell']) (by omega) (by unfold maxLen;omega) (by omega) (by simp;omega) (w4.heap.size+1+1) (by simp) ?_;intro g cap w7 hown7 hgrow7 hat7 hlt7;have hc7:w7.cell? ⟨w.heap.size+2,3,none⟩=some (.slice a' m c'):=(hgrow7.cell_far ⟨w.heap.size+2,3,none⟩ (by simp;omega) (Ne.symm hne2)).trans (keep_cell ((Below.refl _ _).alloc (by simp) _) (keep_cell ((Below.refl _ _).alloc (Nat.le_refl _) _) (HB44.out.val.at_ 3 _ rfl) zt2) zt2);have hf7:w7.frozen? ⟨w.heap.size+2,3,none⟩=false:=(hgrow7.frozen_far ⟨w.heap.size+2,3,none⟩ (by simp;omega) (Ne.symm hne2)).trans ((((Below.refl _ _).alloc (by simp) _:Below w4.heap.size (w4.alloc _) ((w4.alloc _).alloc _)).frozen (p:=⟨w.heap.size+2,3,none⟩) zt2).trans ((((Below.refl _ _).alloc (Nat.le_refl _) _:Below w4.heap.size w4 (w4.alloc _)).frozen (p:=⟨w.heap.size+2,3,none⟩) zt2).trans (HB44.out.val.fr 3))))
          go_roundw
          case rel=>exact ⟨j+1,some ⟨g,0,none⟩,j+1,cap,xs++ [x],cs++ [cx],un+q,by omega,by go_num,by go_num,LL.out.round HX.out hq HB4.out HI4.out (((Below.refl _ _).alloc (Nat.le_refl _) _).alloc (by simp) _) hown7 hgrow7 (hat7.imp_right fun e=>by omega)⟩
          case measure=>simp [intOf];omega
    · have hjn:j=K:=by omega
      subst hjn
      have hR:rawP (d+1) (t::r)=(.mk t.k t.n t.s xs [],un):=by
        rw [rawP,HKK.out,L.rd];dsimp only;congr 1;rw [rawV,if_pos HK.out]
      have hv:=isVal_with (RowV.val L.row (lo:=w.heap.size+3) (by rw [L.len,L.cen]) (Nat.le_refl _) t.k b0 b1 (by rw [L.len];omega)) t.n t.s HBD.out.n0 HBD.out.n1 HBD.out.s1
      have HV:=Lib.hid hv
      clear hv
      have LB:=Lib.hid L.box
      clear L
      go_wp2_with fail
      have ST:=LB.out.stored ⟨t.k,t.n,t.s,a',m,c',none,0,0⟩
      rw [←HQ.out,hR]
      exact raw_leave (c:=⟨t.k,t.n,t.s,a',m,c',none,0,0⟩) ST.1 ST.2.1 ((isVal_far HV.out ST.2.2 (by omega)).sub (shows_step fun k hk _=>⟨by omega,rfl⟩)) rfl rfl rfl
set_option maxHeartbeats 8000000 in
set_option maxRecDepth 100000 in
theorem raw_obj (w:World) (dd:Int) (hd0:0≤dd) (hd:dd≤19) (d:Nat) (t:Tk) (r:List Tk) (a:Option Addr) (n c:Nat) (h:IsToks w w.heap.size (t::r) a n c) (IH:∀(W:World) (l:List Tk) (a:Option Addr) (n c:Nat),IsToks W W.heap.size l a n c→Calls Tryz.prog 40 #[.slice a n c, .int .i64 (dd+1)] W (RawPost W (rawP d l))) (hk:t.k % 2=1):
    Calls Tryz.prog 40 #[.slice a n c, .int .i64 dd] w (RawPost w (rawP (d+1) (t::r))):=by
  obtain ⟨i0,hi0,hz0,hz1,hz2⟩:=info_parts ginfoFR
  have hw1:IntKind.i64.wrap (dd+1)=dd+1:=IntWalk.i64_in _ (by omega)
  obtain ⟨b,o,hp,rfl,hb,htk,hbd⟩:=h.get (k:=0) (by have:=h.len;rw [this];simp)
  have ht:TkAt w b o t:=by simpa using htk
  replace hbd:t.Bnd:=by simpa using hbd
  have c0:=ht.c0;have c1:=ht.c1;have c2:=ht.c2;have c3:=ht.c3
  have b0:=hbd.k0;have b1:=hbd.k1;have b2:=hbd.m0;have b3:=hbd.m1
  have hlen:=h.len
  have hcap:=h.cap
  have hmax:=h.max
  have hnp:0<n:=by rw [hlen];simp
  have hne:((n:Int)==0)=false:=by simp;omega
  obtain ⟨K,hK⟩:∃K:Nat,(t.m % 4).toNat=K:=⟨_,rfl⟩
  have hK1:t.m % 4=(K:Int):=by omega
  have hK2:Int.tmod t.m 4=(K:Int):=by rw [Int.tmod_eq_emod_of_nonneg b2];exact hK1
  have hK3:K≤3:=by omega
  have HI:=Lib.hid h
  have HQR:=Lib.hid (QR.start w t 33 51 33)
  have HBD:=Lib.hid hbd
  have IHH:=Lib.hid IH
  have HLEN:=Lib.hid hlen
  have HKK:=Lib.hid hK
  clear h ht htk hp hbd IH hlen hK
  have hk2:Int.tmod t.k 2=1:=by rw [Int.tmod_eq_emod_of_nonneg b0];exact hk
  have HK:=Lib.hid hk
  clear hk
  go_enter Tryz.func40,Tryz.ntmps40
  generalize hQ0:bodyPost _ _ _=Q0
  have HQ:=Lib.hid hQ0
  clear hQ0
  go_wp2_with fail
  go_loopw [8,9,10,11] (fun u i _ _ wr=>∃(j:Nat) (a':Option Addr) (m c':Nat) (xs:List V) (cs:List VC) (un:Nat),j≤K∧u= .int .i64 un∧i= .int .u8 j∧RLO w wr d (t::r) t j a' m c' xs cs un) (fun _ i _ _ _=>K - (intOf i).toNat)
  case atStart=>exact ⟨0,none,0,0, [], [],1,Nat.zero_le _,rfl,rfl,⟨rfl,rfl,rfl,(HQR.out _ rfl).1,Row.nil _ _ _ _ _⟩⟩
  case round=>
    obtain ⟨j,a',m,c',xs,cs,un,hj,rfl,rfl,L⟩:=hrel
    have k0:=L.box.tok.at_ 0 _ rfl;have k3:=L.box.tok.at_ 3 _ rfl
    obtain ⟨v0,v1,v2,v3,v4⟩:=row5 L.box.val.at_
    have p0:=L.box.val.fr 4
    obtain ⟨r0,r1,r2,r3,r4⟩:=row5 L.box.res.at_
    have g0:=L.box.res.fr 0;have g1:=L.box.res.fr 1;have g2:=L.box.res.fr 2;have g3:=L.box.res.fr 3;have g4:=L.box.res.fr 4
    have zs2:=L.box.val.lt;have zs1:=L.box.tok.lt;have zs0:=L.box.res.lt
    obtain ⟨hu1,hu2,_⟩:1≤un∧un≤n∧True:=by
      have:=fR_used (rawP_used d) (l:=t::r) (by simp) j
      rw [L.rd] at this
      exact ⟨this.1,by rw [HLEN.out];exact this.2.1,trivial⟩
    by_cases hlt:j<K
    · have hz9:c=un→n - un=0:=by omega
      obtain ⟨⟨x,q⟩,hx⟩:∃p,rawP d ((t::r).drop un)=p:=⟨_,rfl⟩
      have hq2:un+q≤n:=by have:=rawP_used d ((t::r).drop un);rw [hx,List.length_drop] at this;have:=HLEN.out;dsimp only at*;omega
      have HX:=Lib.hid hx
      have HIW:=(HI.out.later_ L.box.below).drop un hu2
      have HC:Hid (Calls Tryz.prog 40 #[if c=un then .slice (some ⟨b,o,none⟩) 0 0 else .slice (some ⟨b,o+un*4,none⟩) (n - un) (c - un), .int .i64 (dd+1)] wr (RawPost wr (x,q))):=by
        unfold Hid
        rw [←HX.out]
        by_cases hc:c=un
        · rw [if_pos hc];exact IHH.out wr _ _ _ _ (HIW.none_left (hz9 hc))
        · rw [if_neg hc];rw [Option.map_some,add_at] at HIW;exact IHH.out wr _ _ _ _ HIW
      have LL:=Lib.hid L
      clear L HIW hx
      by_cases hc:c=un
      · rw [if_pos hc] at HC
        have hz:=hz9 hc
        clear hz9
        subst hc
        go_wp2_with fail
        refine (HC.out).mono ?_
        rintro e w4 ⟨⟨cx,rfl,hI4⟩,hb4⟩
        have L:=LL.out
        have B4:=L.box.next hb4
        have k0:=B4.tok.at_ 0 _ rfl;have k3:=B4.tok.at_ 3 _ rfl
        obtain ⟨v0,v1,v2,v3,v4⟩:=row5 B4.val.at_
        have p0:=B4.val.fr 4
        obtain ⟨r0,r1,r2,r3,r4⟩:=row5 B4.res.at_
        have g0:=B4.res.fr 0;have g1:=B4.res.fr 1;have g2:=B4.res.fr 2;have g3:=B4.res.fr 3;have g4:=B4.res.fr 4
        have zt2:=B4.val.lt;have zt1:=B4.tok.lt;have zt0:=B4.res.lt
        have hrow:RowF w4 (w.heap.size+3) (.slice a' m c') (fld xs) (fldc cs):=L.row.later (PF.closed (fld xs) (fldc cs)) (.of_below 0 hb4) (by omega)
        by_cases hq:q=0
        · subst hq
          have hs1:fR (rawP d) (t::r) (j+1)=(xs,c,true):=by rw [fR,if_neg (by rw [L.rd];simp),L.rd];dsimp only;rw [HX.out,if_pos rfl]
          have hs2:=fR_stop (f:=rawP d) (l:=t::r) (j:=j+1) (n:=K) (by rw [hs1]) (by omega)
          have hR:rawP (d+1) (t::r)=(.mk t.k t.n t.s [] (fld xs),c):=by
            rw [rawP,HKK.out,hs2,hs1];dsimp only;congr 1;rw [rawV,if_neg (by rw [HK.out];decide)];rfl
          have hv:=isVal_with (RowF.val hrow (lo:=w.heap.size+3) (by simp [fld,fldc,L.len,L.cen]) (Nat.le_refl _) t.k b0 b1 (by rw [show (fld xs).length=xs.length by simp [fld],L.len];omega)) t.n t.s HBD.out.n0 HBD.out.n1 HBD.out.s1
          have HV:=Lib.hid hv
          clear hv
          have LB:=Lib.hid B4
          have HR:=Lib.hid hR
          clear L B4 hrow hs1 hs2 hR hI4 hb4
          go_wp2_with fail
          have hR:=HR.out
          have ST:=LB.out.stored ⟨t.k,t.n,t.s,none,0,0,a',m,c'⟩
          rw [←HQ.out,hR]
          exact raw_leave (c:=⟨t.k,t.n,t.s,none,0,0,a',m,c'⟩) (ST.1.keep ((Below.refl _ _).alloc (Nat.le_refl _) _) ST.1.lt) (ST.2.1.alloc ST.2.1.size _) (((isVal_far HV.out ST.2.2 (by omega)).sub (shows_step (S':=fun b=>w.heap.size≤b) fun k hk hl=>⟨by omega,((Below.refl _ _).alloc (Nat.le_refl _) _:Below _ _ _).block k hl⟩)).more (by simp)) rfl rfl rfl
        · exfalso;apply hq
          have h0:=HX.out
          rw [List.drop_eq_nil_of_le (by have:=HLEN.out;omega)] at h0
          cases d<;>(rw [rawP] at h0;injection h0 with h1 h2;exact h2.symm)
      · rw [if_neg hc] at HC
        have huc:un<c:=by omega
        clear hz9 hc
        go_wp2_with fail
        refine (HC.out).mono ?_
        rintro e w4 ⟨⟨cx,rfl,hI4⟩,hb4⟩
        have L:=LL.out
        have B4:=L.box.next hb4
        have k0:=B4.tok.at_ 0 _ rfl;have k3:=B4.tok.at_ 3 _ rfl
        obtain ⟨v0,v1,v2,v3,v4⟩:=row5 B4.val.at_
        have p0:=B4.val.fr 4
        obtain ⟨r0,r1,r2,r3,r4⟩:=row5 B4.res.at_
        have g0:=B4.res.fr 0;have g1:=B4.res.fr 1;have g2:=B4.res.fr 2;have g3:=B4.res.fr 3;have g4:=B4.res.fr 4
        have zt2:=B4.val.lt;have zt1:=B4.tok.lt;have zt0:=B4.res.lt
        have hrow:RowF w4 (w.heap.size+3) (.slice a' m c') (fld xs) (fldc cs):=L.row.later (PF.closed (fld xs) (fldc cs)) (.of_below 0 hb4) (by omega)
        by_cases hq:q=0
        · subst hq
          have hs1:fR (rawP d) (t::r) (j+1)=(xs,un,true):=by rw [fR,if_neg (by rw [L.rd];simp),L.rd];dsimp only;rw [HX.out,if_pos rfl]
          have hs2:=fR_stop (f:=rawP d) (l:=t::r) (j:=j+1) (n:=K) (by rw [hs1]) (by omega)
          have hR:rawP (d+1) (t::r)=(.mk t.k t.n t.s [] (fld xs),un):=by
            rw [rawP,HKK.out,hs2,hs1];dsimp only;congr 1;rw [rawV,if_neg (by rw [HK.out];decide)];rfl
          have hv:=isVal_with (RowF.val hrow (lo:=w.heap.size+3) (by simp [fld,fldc,L.len,L.cen]) (Nat.le_refl _) t.k b0 b1 (by rw [show (fld xs).length=xs.length by simp [fld],L.len];omega)) t.n t.s HBD.out.n0 HBD.out.n1 HBD.out.s1
          have HV:=Lib.hid hv
          clear hv
          have LB:=Lib.hid B4
          have HR:=Lib.hid hR
          clear L B4 hrow hs1 hs2 hR hI4 hb4
          go_wp2_with fail
          have hR:=HR.out
          have ST:=LB.out.stored ⟨t.k,t.n,t.s,none,0,0,a',m,c'⟩
          rw [←HQ.out,hR]
          exact raw_leave (c:=⟨t.k,t.n,t.s,none,0,0,a',m,c'⟩) (ST.1.keep ((Below.refl _ _).alloc (Nat.le_refl _) _) ST.1.lt) (ST.2.1.alloc ST.2.1.size _) (((isVal_far HV.out ST.2.2 (by omega)).sub (shows_step (S':=fun b=>w.heap.size≤b) fun k hk hl=>⟨by omega,((Below.refl _ _).alloc (Nat.le_refl _) _:Below _ _ _).block k hl⟩)).more (by simp)) rfl rfl rfl
        · have hqn:((q:Int)==0)=false:=by simp;omega
          have hne2:(Value.slice a' m c').ownBlock≠some (w.heap.size+2):=fun e=>by have:=(L.row.lt _ e).1;omega
          have ho4:=hrow.own
          rw [show (fld xs).length=j by simp [fld,L.len]] at ho4
          have hu3:(un:Int)+q≤9223372036854775807:=by omega
          have HI4:=Lib.hid hI4
          have HB4:=Lib.hid hb4
          have hnw:∀jj u,(fcells (cx.s,cx))[jj]? =some u→((w4.alloc (.cells #[.int .u8 cx.k, .int .i64 cx.n, .string cx.s, .slice cx.la cx.ll cx.lc, .slice cx.oa cx.ol cx.oc] 33)).alloc (.cells #[.string cx.s, .int .u8 cx.k, .int .i64 cx.n, .string cx.s, .slice cx.la cx.ll cx.lc, .slice cx.oa cx.ol cx.oc] 98)).cell? ((⟨w4.heap.size+1,0,none⟩:Addr).add jj)=some u:=by
            have:=World.news_of_block (t:=98) (fr:=(0,0)) (heap_alloc_new (w4.alloc (.cells #[.int .u8 cx.k, .int .i64 cx.n, .string cx.s, .slice cx.la cx.ll cx.lc, .slice cx.oa cx.ol cx.oc] 33)) (.cells #[.string cx.s, .int .u8 cx.k, .int .i64 cx.n, .string cx.s, .slice cx.la cx.ll cx.lc, .slice cx.oa cx.ol cx.oc] 98))
            intro jj u hu
            simpa using this jj u (by simpa [fcells] using hu)
          have HNW:=Lib.hid hnw
          have HB44:=Lib.hid B4
          clear L B4 hrow hI4 hb4 hnw
          go_wp2_with (at_builtin;refine wpList_append_lies _ rfl (.tmp 59) (.tmp 64) 31 (by rfl) (w.heap.size+3) 98 i0 _ 6 96 Tryz.underlying31 hi0 hz0 hz1 hz2 rfl (by omega) (.slice a' m c') j ((fldc cs).flatMap fcells) (by rfl) ((ho4.alloc _).alloc _) ⟨w4.heap.size+1,0,none⟩ 1 1 (fcells (cx.s,cx)) (by rfl) (by rfl) HNW.out (by simp [fcells,Value.oneCell']) (by omega) (by unfold maxLen;omega) (by omega) (by simp;omega) (w4.heap.size+1+1) (by simp) ?_;intro g cap w7 hown7 hgrow7 hat7 hlt7;have hc7:w7.cell? ⟨w.heap.size+2,4,none⟩=some (.slice a' m c'):=(hgrow7.cell_far ⟨w.heap.size+2,4,none⟩ (by simp;omega) (Ne.symm hne2)).trans (keep_cell ((Below.refl _ _).alloc (by simp) _) (keep_cell ((Below.refl _ _).alloc (Nat.le_refl _) _) (HB44.out.val.at_ 4 _ rfl) zt2) zt2);have hf7:w7.frozen? ⟨w.heap.size+2,4,none⟩=false:=(hgrow7.frozen_far ⟨w.heap.size+2,4,none⟩ (by simp;omega) (Ne.symm hne2)).trans ((((Below.refl _ _).alloc (by simp) _:Below w4.heap.size (w4.alloc _) ((w4.alloc _).alloc _)).frozen (p:=⟨w.heap.size+2,4,none⟩) zt2).trans ((((Below.refl _ _).alloc (Nat.le_refl _) _:Below w4.heap.size w4 (w4.alloc _)).frozen (p:=⟨w.heap.size+2,4,none⟩) zt2).trans (HB44.out.val.fr 4))))
          go_roundw
          case rel=>exact ⟨j+1,some ⟨g,0,none⟩,j+1,cap,xs++ [x],cs++ [cx],un+q,by omega,by go_num,by go_num,LL.out.round HX.out hq HB4.out HI4.out (((Below.refl _ _).alloc (Nat.le_refl _) _).alloc (by simp) _) hown7 hgrow7 (hat7.imp_right fun e=>by omega)⟩
          case measure=>simp [intOf];omega
    · have hjn:j=K:=by omega
      subst hjn
      have hR:rawP (d+1) (t::r)=(.mk t.k t.n t.s [] (fld xs),un):=by
        rw [rawP,HKK.out,L.rd];dsimp only;congr 1;rw [rawV,if_neg (by rw [HK.out];decide)];rfl
      have hv:=isVal_with (RowF.val L.row (lo:=w.heap.size+3) (by simp [fld,fldc,L.len,L.cen]) (Nat.le_refl _) t.k b0 b1 (by rw [show (fld xs).length=xs.length by simp [fld],L.len];omega)) t.n t.s HBD.out.n0 HBD.out.n1 HBD.out.s1
      have HV:=Lib.hid hv
      clear hv
      have LB:=Lib.hid L.box
      clear L
      go_wp2_with fail
      have ST:=LB.out.stored ⟨t.k,t.n,t.s,none,0,0,a',m,c'⟩
      rw [←HQ.out,hR]
      exact raw_leave (c:=⟨t.k,t.n,t.s,none,0,0,a',m,c'⟩) ST.1 ST.2.1 ((isVal_far HV.out ST.2.2 (by omega)).sub (shows_step fun k hk _=>⟨by omega,rfl⟩)) rfl rfl rfl
set_option maxHeartbeats 2000000 in
set_option maxRecDepth 100000 in
theorem raw_nil (w:World) (dd:Int) (a:Option Addr) (c:Nat):
    Calls Tryz.prog 40 #[.slice a 0 c, .int .i64 dd] w (RawPost w (V.none,0)):=by
  go_enter Tryz.func40,Tryz.ntmps40
  generalize hQ0:bodyPost _ _ _=Q0
  have HQ:=Lib.hid hQ0
  clear hQ0
  go_wp2_with fail
  rw [←HQ.out]
  exact raw_leave (c:=vzero) (BC.start w #[.int .u8 0, .int .i64 0, .string { data:= #[] }, .slice none 0 0, .slice none 0 0] _) ((Below.refl _ _).alloc (Nat.le_refl _) _) (isVal_none _ _) rfl rfl rfl
set_option maxHeartbeats 4000000 in
set_option maxRecDepth 100000 in
theorem raw_end (w:World) (t:Tk) (r:List Tk) (a:Option Addr) (n c:Nat) (h:IsToks w w.heap.size (t::r) a n c):
    Calls Tryz.prog 40 #[.slice a n c, .int .i64 20] w (RawPost w (rawP 0 (t::r))):=by
  obtain ⟨b,o,hp,rfl,hb,htk,hbd⟩:=h.get (k:=0) (by have:=h.len;rw [this];simp)
  have ht:TkAt w b o t:=by simpa using htk
  replace hbd:t.Bnd:=by simpa using hbd
  have c0:=ht.c0;have c1:=ht.c1;have c2:=ht.c2;have c3:=ht.c3
  have b2:=hbd.m0;have b3:=hbd.m1
  have hnp:0<n:=by rw [h.len];simp
  have hne:((n:Int)==0)=false:=by simp;omega
  obtain ⟨K,hK⟩:∃K:Nat,(t.m % 4).toNat=K:=⟨_,rfl⟩
  have hK2:Int.tmod t.m 4=(K:Int):=by rw [Int.tmod_eq_emod_of_nonneg b2];omega
  have HQR:=Lib.hid (QR.start w t 33 51 33)
  have HBD:=Lib.hid hbd
  clear h ht htk hp hbd hK
  go_enter Tryz.func40,Tryz.ntmps40
  generalize hQ0:bodyPost _ _ _=Q0
  have HQ:=Lib.hid hQ0
  clear hQ0
  go_wp2_with fail
  go_loopw [8,9,10,11] (fun u i _ _ wr=>u= .int .i64 1∧i= .int .u8 0∧QR w wr t ⟨t.k,t.n,t.s,none,0,0,none,0,0⟩) (fun _ _ _ _ _=>0)
  case atStart=>exact ⟨rfl,rfl,(HQR.out _ rfl).1⟩
  case round=>
    obtain ⟨rfl,rfl,L⟩:=hrel
    have k0:=L.tok.at_ 0 _ rfl;have k3:=L.tok.at_ 3 _ rfl
    obtain ⟨v0,v1,v2,v3,v4⟩:=row5 L.val.at_
    obtain ⟨r0,r1,r2,r3,r4⟩:=row5 L.res.at_
    have g0:=L.res.fr 0;have g1:=L.res.fr 1;have g2:=L.res.fr 2;have g3:=L.res.fr 3;have g4:=L.res.fr 4
    have zs2:=L.val.lt;have zs1:=L.tok.lt;have zs0:=L.res.lt
    have LB:=Lib.hid L
    clear L
    by_cases hK0:0<K
    all_goals
      go_wp2_with fail
      have ST:=LB.out.stored ⟨t.k,t.n,t.s,none,0,0,none,0,0⟩
      rw [←HQ.out]
      exact raw_leave (c:=⟨t.k,t.n,t.s,none,0,0,none,0,0⟩) ST.1 ST.2.1 (isVal_leaf _ _ t.k t.n t.s HBD.out.k0 HBD.out.k1 HBD.out.n0 HBD.out.n1 HBD.out.s1) rfl rfl rfl
theorem raw_any (d:Nat):∀(dd:Int),0≤dd→dd+d=20→∀(w:World) (l:List Tk) (a:Option Addr) (n c:Nat),IsToks w w.heap.size l a n c→
    Calls Tryz.prog 40 #[.slice a n c, .int .i64 dd] w (RawPost w (rawP d l)):=by
  induction d with
  | zero=>
    intro dd _ hd w l a n c h
    cases l with
    |nil=>obtain rfl:n=0:=h.len;exact raw_nil w dd a c
    | cons t r=>
      obtain rfl:dd=20:=by omega
      exact raw_end w t r a n c h
  | succ d ih=>
    intro dd hd0 hd w l a n c h
    cases l with
    |nil=>obtain rfl:n=0:=h.len;exact raw_nil w dd a c
    | cons t r=>
      have IH:=fun W l a n c h=>ih (dd+1) (by omega) (by omega) W l a n c h
      by_cases hk:t.k % 2=0
      · exact raw_list w dd hd0 (by omega) d t r a n c h IH hk
      · exact raw_obj w dd hd0 (by omega) d t r a n c h IH (by omega)
end Go.Proofs.YtgcfhkceejcliaaGreatDoor
namespace Go.Proofs.YtgcfhkceejcliaaGreatDoor
open Go.RowKit
theorem results_rawF {tmps:Array Value} {W:World} {b:Nat} {c:VC} (ht:tmps[2]? =some (.pointer (some ⟨b,0,none⟩))) (h:BC W b (vcells c)):
    (results Tryz.f16 tmps).run Tryz.prog W= .ok (.agg #[.int .u8 c.k, .int .i64 c.n, .string c.s, .slice c.la c.ll c.lc, .slice c.oa c.ol c.oc]) W:=by
  obtain ⟨r0,r1,r2,r3,r4⟩:=(⟨h.at_ 0 _ rfl,h.at_ 1 _ rfl,h.at_ 2 _ rfl,h.at_ 3 _ rfl,h.at_ 4 _ rfl⟩:W.cell? ⟨b,0,none⟩=some (.int .u8 c.k)∧W.cell? ⟨b,1,none⟩=some (.int .i64 c.n)∧W.cell? ⟨b,2,none⟩=some (.string c.s)∧W.cell? ⟨b,3,none⟩=some (.slice c.la c.ll c.lc)∧W.cell? ⟨b,4,none⟩=some (.slice c.oa c.ol c.oc))
  simp [results,Tryz.results16,go_sem,ht,r0,r1,r2,r3,r4]
set_option maxHeartbeats 4000000 in
set_option maxRecDepth 100000 in
theorem rawF_own (w:World) (l:List Tk) (a:Option Addr) (n c:Nat) (h:IsToks w w.heap.size l a n c):
    Calls Tryz.prog 16 #[.slice a n c] w fun e w'=>(∃cv:VC,e= .returned (.agg #[.int .u8 cv.k, .int .i64 cv.n, .string cv.s, .slice cv.la cv.ll cv.lc, .slice cv.oa cv.ol cv.oc])∧IsVal (only (fun b=>w.heap.size≤b) w') w'.heap.size (rawP 20 (l.take 60)).1 cv)∧Below w.heap.size w w':=by
  have hlen:=h.len
  have hcap:=h.cap
  have hmax:=h.max
  have HD:=Lib.hid (BC.start w #[.int .u8 0, .int .i64 0, .string { data:= #[] }, .slice none 0 0, .slice none 0 0] 33)
  have hal:Below w.heap.size w (w.alloc (.cells #[.int .u8 0, .int .i64 0, .string { data:= #[] }, .slice none 0 0, .slice none 0 0] 33)):=(Below.refl _ _).alloc (Nat.le_refl _) _
  have HAL:=Lib.hid hal
  obtain ⟨N,hN⟩:∃N,min n 60=N:=⟨_,rfl⟩
  have hN2:N≤n:=by omega
  have htk:l.take N=l.take 60:=by
    by_cases hq:n≤60
    · rw [List.take_of_length_le (by omega),List.take_of_length_le (by omega)]
    · rw [show N=60 by omega]
  have HI:=Lib.hid ((h.later_ hal).take N hN2)
  rw [htk] at HI
  obtain ⟨p,hp⟩:∃p,rawP 20 (l.take 60)=p:=⟨_,rfl⟩
  have HP:=Lib.hid hp
  rw [hp]
  have hcs:(n≤60∧N=n)∨(60<n∧N=60):=by omega
  clear hN hN2
  rcases hcs with ⟨hq,rfl⟩|⟨hq,rfl⟩
  all_goals
    clear h hlen hal htk hp
    go_enter Tryz.func16,Tryz.ntmps16
    generalize hQ0:bodyPost _ _ _=Q0
    have HQ:=Lib.hid hQ0
    clear hQ0
    go_wp2_with fail
    refine (raw_any 20 0 (by omega) (by omega) _ _ _ _ _ HI.out).mono ?_
    rw [HP.out]
    rintro e w3 ⟨⟨cv,rfl,hI3⟩,hb3⟩
    have D:=HD.out.keep hb3 (by simp)
    obtain ⟨r0,r1,r2,r3,r4⟩:=row5 D.at_
    have g0:=D.fr 0;have g1:=D.fr 1;have g2:=D.fr 2;have g3:=D.fr 3;have g4:=D.fr 4
    have zs3:w.heap.size<w3.heap.size:=D.lt
    have HD3:=Lib.hid D
    have HI3:=Lib.hid hI3
    have HB3:=Lib.hid (HAL.out.trans (hb3.mono (by simp)))
    clear D hI3 hb3
    go_wp2_with fail
    rw [←HQ.out]
    have s1:RStep w3 (((((w3.setCell ⟨w.heap.size,0,none⟩ (.int .u8 cv.k)).setCell ⟨w.heap.size,1,none⟩ (.int .i64 cv.n)).setCell ⟨w.heap.size,2,none⟩ (.string cv.s)).setCell ⟨w.heap.size,3,none⟩ (.slice cv.la cv.ll cv.lc)).setCell ⟨w.heap.size,4,none⟩ (.slice cv.oa cv.ol cv.oc)) w.heap.size:=(((RStep.self.trans RStep.self).trans RStep.self).trans RStep.self).trans RStep.self
    have hbc:BC (((((w3.setCell ⟨w.heap.size,0,none⟩ (.int .u8 cv.k)).setCell ⟨w.heap.size,1,none⟩ (.int .i64 cv.n)).setCell ⟨w.heap.size,2,none⟩ (.string cv.s)).setCell ⟨w.heap.size,3,none⟩ (.slice cv.la cv.ll cv.lc)).setCell ⟨w.heap.size,4,none⟩ (.slice cv.oa cv.ol cv.oc)) w.heap.size (vcells cv):=((((HD3.out.set (i:=0) (x:= .int .u8 cv.k) (by simp)).set (i:=1) (x:= .int .i64 cv.n) (by simp)).set (i:=2) (x:= .string cv.s) (by simp)).set (i:=3) (x:= .slice cv.la cv.ll cv.lc) (by simp)).set (i:=4) (x:= .slice cv.oa cv.ol cv.oc) (by simp)
    have hv:=fun ob=>(isVal_far (isVal_far HI3.out s1 (by simp)) (RStep.of_below w.heap.size ((Below.refl _ _).alloc (Nat.le_refl _) ob)) (by simp)).sub (shows_step (S':=fun b=>w.heap.size≤b) fun k hk _=>⟨by simp at hk;omega,rfl⟩)
    have hB:=HB3.out.trans (s1.below (by omega))
    exact ⟨rfl,_,results_rawF rfl (hbc.keep ((Below.refl _ _).alloc (Nat.le_refl _) _) hbc.lt),⟨cv,rfl,hv _⟩,hB.alloc hB.size _⟩
end Go.Proofs.YtgcfhkceejcliaaGreatDoor
namespace Go.Proofs.YtgcfhkceejcliaaGreatDoor
open Go.RowKit
def low (b:UInt8):UInt8:=UInt8.ofNat (b.toNat % 128)
def plainL (l:List UInt8):List UInt8:=(l.take 40).map low
def plainS (s:ByteArray):ByteArray:=⟨(plainL s.data.toList).toArray⟩
set_option maxHeartbeats 400000 in
set_option maxRecDepth 100000 in
theorem isB_of_own {w:World} {B:Nat} {v:Value} {bs:List UInt8} (ho:w.ownsRow B 5 1 v bs.length (outs bs)):∃a n c,v= .slice a n c∧IsB w w.heap.size a n c bs:=by
  have hc:=fun g hg=>ho.cells (g:=g) hg
  have hlt:=ho.lt
  rcases ho.2 with ⟨rfl,hn⟩|⟨g,cap,cur,rfl,_,hg,hnc,hcm,_,_⟩
  · have:bs= [] :=List.length_eq_zero_iff.1 hn
    subst this
    exact ⟨none,0,0,rfl, .nil _ _⟩
  · refine ⟨_,_,_,rfl,rfl,hnc,by simpa [maxLen] using hcm,g,0,fun _=>⟨rfl,(hlt g rfl).2⟩,fun i hi=> ?_⟩
    have:=hc g rfl i (.int .u8 (bs[i].toNat:Int)) (by simp [outs,hi])
    rw [add_at] at this;exact this
theorem plain_snoc (l:List UInt8) (j:Nat) (h:j<l.length):(l.take (j+1)).map low=(l.take j).map low++ [low l[j]] :=by
  rw [take_snoc l j h,List.map_append];rfl
theorem low_nat (b:UInt8):(((low b).toNat:Nat):Int)=(b.toNat:Int) % 128:=by
  have h:(low b).toNat=b.toNat % 128:=by
    unfold low
    rw [UInt8.toNat_ofNat']
    omega
  rw [h];omega
structure PH (w wr:World) (s:ByteArray) (j:Nat) (u:Value):Prop where
  own:wr.ownsRow w.heap.size 5 1 u j (outs ((s.data.toList.take j).map low))
  below:Below w.heap.size w wr
set_option maxHeartbeats 4000000 in
set_option maxRecDepth 100000 in
theorem plain_any (w:World) (s:ByteArray) (hs:s.size≤140737488355328):
    Calls Tryz.prog 75 #[.string s] w fun e w'=>e= .returned (.string (plainS s))∧Below w.heap.size w w':=by
  obtain ⟨i0,hi0,hz0,hz1,hz2⟩:=info_parts ginfo8
  have hsz:s.data.toList.length=s.size:=Array.length_toList
  have HS:=Lib.hid hsz
  clear hsz
  go_enter Tryz.func75,Tryz.ntmps75
  go_wp2_with fail
  go_loopw [3,4] (fun u i wr=>∃(j:Nat) (a:Option Addr) (m c:Nat),j≤40∧j≤s.size∧i= .int .i64 j∧u= .slice a m c∧PH w wr s j (.slice a m c)) (fun _ i _=>40 - (intOf i).toNat)
  case atStart=>exact ⟨0,none,0,0,by omega,Nat.zero_le _,rfl,rfl,⟨⟨by simp [outs], .inl ⟨rfl,rfl⟩⟩,Below.refl _ _⟩⟩
  case round=>
    obtain ⟨j,a,m,c,hj,hj2,rfl,rfl,L⟩:=hrel
    have hlen:=HS.out
    by_cases h1:j<s.size
    · by_cases h2:j<40
      · have hgb:s.data.toList[j]'(by omega)=s[j]'h1:=by simp [ByteArray.getElem_eq_getElem_data]
        have hsn:=plain_snoc s.data.toList j (by omega)
        rw [hgb] at hsn
        have HSN:=Lib.hid hsn
        have hrlt:∀b,(Value.slice a m c).ownBlock=some b→w.heap.size≤b∧b<wr.heap.size:=L.own.lt
        have hb:=L.below.size
        have LL:=Lib.hid L
        have ho:=L.own
        clear hsn hgb L
        go_wp2_with (at_builtin;refine wpList_append_lies _ rfl (.tmp 15) (.tmp 20) 38 (by rfl) w.heap.size 5 i0 _ 1 1 Tryz.underlying38 hi0 hz0 hz1 hz2 rfl (by omega) (.slice a m c) j (outs ((s.data.toList.take j).map low)) (by rfl) (ho.alloc _) ⟨wr.heap.size,0,none⟩ 1 1 [.int .u8 ((s[j]'h1).toNat % 128:Int)] (by rfl) (by rfl) (World.news_of_block (cs:= #[.int .u8 ((s[j]'h1).toNat % 128:Int)]) (t:=5) (fr:=(0,0)) (heap_alloc_new wr _)) (by simp [Value.oneCell']) (by omega) (by unfold maxLen;omega) (by omega) (by simp;omega) (wr.heap.size+1) (by simp) ?_;intro g cap w7 hown7 hgrow7 hat7 hlt7)
        go_roundw
        case rel=>
          refine ⟨j+1,some ⟨g,0,none⟩,j+1,cap,by omega,by omega,by go_num,rfl,⟨?_, ?_⟩⟩
          · rw [HSN.out,outs_append]
            have e:outs [low (s[j]'h1)] = [.int .u8 ((s[j]'h1).toNat % 128:Int)] :=by simp [outs,low_nat]
            rw [e];exact hown7
          · exact (LL.out.below.trans (((Below.refl _ _).alloc (Nat.le_refl _) _).mono hb)).trans (grown_below hgrow7 (fun k hk=>(hrlt k hk).1) (by simp;omega))
        case measure=>simp [intOf];omega
      · obtain ⟨a2,n2,c2,hv2,hI⟩:=isB_of_own (bs:=(s.data.toList.take j).map low) (by rw [List.length_map,List.length_take,Nat.min_eq_left (by omega)];exact L.own)
        injection hv2 with h3 h4 h5;subst h3 h4 h5
        have hcv:=conv_isB hI
        have LL:=Lib.hid L
        have hp:((s.data.toList.take j).map low)=plainL s.data.toList:=by rw [plainL,show j=40 by omega]
        rw [hp] at hcv
        clear hI L hp
        go_wp2_with fail
        go_returns
        exact ⟨rfl,LL.out.below⟩
    · obtain ⟨a2,n2,c2,hv2,hI⟩:=isB_of_own (bs:=(s.data.toList.take j).map low) (by rw [List.length_map,List.length_take,Nat.min_eq_left (by omega)];exact L.own)
      injection hv2 with h3 h4 h5;subst h3 h4 h5
      have hcv:=conv_isB hI
      have LL:=Lib.hid L
      have hp:((s.data.toList.take j).map low)=plainL s.data.toList:=by rw [plainL,List.take_of_length_le (by omega),List.take_of_length_le (by omega)]
      rw [hp] at hcv
      clear hI L hp
      go_wp2_with fail
      go_returns
      exact ⟨rfl,LL.out.below⟩
end Go.Proofs.YtgcfhkceejcliaaGreatDoor
namespace Go.Proofs.YtgcfhkceejcliaaGreatDoor
open Go.RowKit
def fieldK (o:List (ByteArray×V)) (key:ByteArray):Nat:=(o.takeWhile fun f=>Op.bytesLess f.1.toList key.toList).length
def fieldIs (o:List (ByteArray×V)) (key:ByteArray):Bool:=match o[fieldK o key]? with
  |some f=>f.1.toList==key.toList
  |none=>false
theorem fieldK_at (o:List (ByteArray×V)) (key:ByteArray) (j:Nat) (h:∀i (hi:i<o.length),i<j→Op.bytesLess (o[i]'hi).1.toList key.toList=true) (hj:j≤o.length) (he:j=o.length∨∃hi:j<o.length,Op.bytesLess (o[j]'hi).1.toList key.toList=false):fieldK o key=j:=by
  unfold fieldK
  induction o generalizing j with
  |nil=>simp at hj;subst hj;rfl
  | cons f o ih=>
    cases j with
    | zero=>
      rcases he with he|⟨hi,he⟩
      · simp at he
      · simp only [List.getElem_cons_zero] at he
        simp [he]
    | succ j=>
      have h0:=h 0 (by simp) (by omega)
      simp only [List.getElem_cons_zero] at h0
      have:=ih j (fun i hi hij=>by have:=h (i+1) (by simpa using hi) (by omega);simpa using this) (by simpa using hj) (by
        rcases he with he|⟨hi,he⟩
        · left;simpa using he
        · right;exact ⟨by simpa using hi,by simpa using he⟩)
      simp [h0,this]
theorem belowN {B:Nat} {a w:World} (h:Below B a w) (n:Nat):Below B a (w.drewN n):=h.trans ⟨rfl,rfl,rfl,Nat.le_refl _,fun _ _=>rfl⟩
set_option maxHeartbeats 4000000 in
set_option maxRecDepth 100000 in
theorem field_any (w:World) (o:List (ByteArray×V)) (key:ByteArray) (k n:Int) (s:ByteArray) (la:Option Addr) (ll lc:Nat) (oa:Option Addr) (ol oc:Nat) (h:IsFields w w.heap.size o oa ol oc):
    Calls Tryz.prog 101 #[.agg #[.int .u8 k, .int .i64 n, .string s, .slice la ll lc, .slice oa ol oc], .string key] w fun e w'=>e= .returned (.tuple #[.int .i64 (fieldK o key:Int), .bool (fieldIs o key)])∧Below w.heap.size w w':=by
  have hlen:=h.len
  have HI:=Lib.hid h
  have HL:=Lib.hid hlen
  have k1:=h.max;have k2:=h.few
  have HB0:=Lib.hid (BC.start w #[.int .u8 k, .int .i64 n, .string s, .slice la ll lc, .slice oa ol oc] 33)
  clear h hlen
  go_enter Tryz.func101,Tryz.ntmps101
  go_wp2_with fail
  go_loopw [6] (fun i wr=>BC wr w.heap.size [.int .u8 k, .int .i64 n, .string s, .slice la ll lc, .slice oa ol oc] ∧Below w.heap.size w wr∧∃j:Nat,j≤ol∧i= .int .i64 j∧Hid (∀i (hi:i<o.length),i<j→Op.bytesLess (o[i]'hi).1.toList key.toList=true)) (fun i _=>ol - (intOf i).toNat)
  case atStart=>exact ⟨HB0.out,(Below.refl _ _).alloc (Nat.le_refl _) _,0,Nat.zero_le _,rfl,Lib.hid (fun i hi hj=>by omega)⟩
  case round=>
    obtain ⟨hbc,hbl,j,hj,rfl,hall⟩:=hrel
    have c4:=hbc.at_ 4 _ rfl
    have zs:=hbc.lt
    have HBC:=Lib.hid hbc
    have HBL:=Lib.hid hbl
    by_cases hlt:j<ol
    · obtain ⟨b,o',f,hp,rfl,hbB,hkey,hks,_⟩:=(HI.out.keep hbl).get hlt
      have hbw:b<wr.heap.size:=World.block_lt_of_cell? wr _ hkey
      obtain ⟨lb,hlb⟩:∃lb,Op.bytesLess (o[j]'hp).1.toList key.toList=lb:=⟨_,rfl⟩
      cases lb with
      | true=>
        have HLB:=Lib.hid hlb
        clear hbc hbl
        go_wp2_with fail
        go_roundw
        case rel=>exact ⟨HBC.out,HBL.out,j+1,by omega,by go_num,Lib.hid (fun i hi hij=>by
          by_cases e:i=j
          · subst e;exact HLB.out
          · exact hall.out i hi (by omega))⟩
        case measure=>simp [intOf];omega
      | false=>
        obtain ⟨eb,heb⟩:∃eb,((o[j]'hp).1.toList==key.toList)=eb:=⟨_,rfl⟩
        have hk:fieldK o key=j:=fieldK_at o key j hall.out (by omega) (.inr ⟨hp,hlb⟩)
        have hi:fieldIs o key=eb:=by
          rw [fieldIs,hk,List.getElem?_eq_getElem hp];exact heb
        have HK:=Lib.hid hk
        have HII:=Lib.hid hi
        clear hbc hbl hk hi
        go_wp2_with fail
        go_quiet (fail)
        go_wp2_with fail
        go_returns
        exact ⟨by rw [HK.out,HII.out];rfl,belowN HBL.out _⟩
    · have hj2:j=ol:=by omega
      subst hj2
      have hk:fieldK o key=j:=fieldK_at o key j hall.out (by rw [HL.out];exact Nat.le_refl _) (.inl HL.out)
      have hi:fieldIs o key=false:=by
        rw [fieldIs,hk,List.getElem?_eq_none (by rw [HL.out];exact Nat.le_refl _)]
      have HK:=Lib.hid hk
      have HII:=Lib.hid hi
      clear hbc hbl hk hi
      go_wp2_with fail
      go_quiet (fail)
      go_wp2_with fail
      go_returns
      exact ⟨by rw [HK.out,HII.out];rfl,belowN HBL.out _⟩
end Go.Proofs.YtgcfhkceejcliaaGreatDoor
namespace Go.Proofs.YtgcfhkceejcliaaGreatDoor
open Go.RowKit
def withF (o:List (ByteArray×V)) (key:ByteArray) (x:V):List (ByteArray×V):=o.take (fieldK o key)++(key,x)::o.drop (if fieldIs o key=true then fieldK o key+1 else fieldK o key)
theorem fieldK_le (o:List (ByteArray×V)) (key:ByteArray):fieldK o key≤o.length:=(List.takeWhile_sublist _).length_le
theorem fieldIs_lt {o:List (ByteArray×V)} {key:ByteArray} (h:fieldIs o key=true):fieldK o key<o.length:=by
  unfold fieldIs at h
  by_cases hq:fieldK o key<o.length
  · exact hq
  · rw [List.getElem?_eq_none (by omega)] at h;cases h
theorem IsFields.cells {w:World} {B:Nat} {o:List (ByteArray×V)} {a:Option Addr} {n c:Nat} (h:IsFields w B o a n c):
    ∃(cs:List (ByteArray×VC)) (b off:Nat),cs.length=o.length∧(0<n→a=some ⟨b,off,none⟩∧b<B)∧(∀j u,(cs.flatMap fcells)[j]? =some u→w.cell? ⟨b,off+j,none⟩=some u)∧∀i,i<o.length→PF o cs w B i:=by
  obtain ⟨h1,h2,h3,h4,b,off,f,h5,h6⟩:=h
  have hlen:((List.range o.length).map fun i=>((o.getD i (.empty,V.none)).1,f i)).length=o.length:=by simp
  have hget:∀i (hi:i<o.length),((List.range o.length).map fun i=>((o.getD i (.empty,V.none)).1,f i))[i]? =some (o[i].1,f i):=by
    intro i hi
    simp [hi,List.getD_eq_getElem?_getD]
  refine ⟨(List.range o.length).map fun i=>((o.getD i (.empty,V.none)).1,f i),b,off,hlen,h5,fun j u hj=> ?_,fun i hi h=> ?_⟩
  · have hjl:j<o.length*6:=by
      have:=(List.getElem?_eq_some_iff.1 hj).1
      rw [flat_length fcells 6 (fun _=>rfl),hlen] at this
      exact this
    have hi:j / 6<o.length:=by omega
    have hd:j=j / 6*6+j % 6:=by omega
    rw [hd,flat_get fcells 6 (fun _=>rfl) _ (j / 6) (j % 6) (by rw [hlen];exact hi) (by omega)] at hj
    have he:((List.range o.length).map fun i=>((o.getD i (.empty,V.none)).1,f i))[j / 6]'(by rw [hlen];exact hi)=(o[j / 6].1,f (j / 6)):=by
      have:=hget (j / 6) hi
      rw [List.getElem?_eq_getElem (by rw [hlen];exact hi)] at this
      exact Option.some.inj this
    rw [he] at hj
    obtain ⟨g1,g2,g3,g4⟩:=h6 (j / 6) hi
    have hm:j % 6<6:=by omega
    rw [hd, ←Nat.add_assoc]
    obtain ⟨m,hmm⟩:∃m,j % 6=m:=⟨_,rfl⟩
    rw [hmm] at hj hm ⊢
    match m,hm with
    |0,_=>rw [←hj];exact g1
    |1,_=>rw [←hj];exact g3.c0
    |2,_=>rw [←hj];exact g3.c1
    |3,_=>rw [←hj];exact g3.c2
    |4,_=>rw [←hj];exact g3.c3
    |5,_=>rw [←hj];exact g3.c4
  · obtain ⟨g1,g2,g3,g4⟩:=h6 i hi
    have he:((List.range o.length).map fun i=>((o.getD i (.empty,V.none)).1,f i)).getD i fzero=(o[i].1,f i):=by
      rw [List.getD_eq_getElem?_getD,hget i hi];rfl
    rw [he]
    exact ⟨rfl,g2,g4⟩
theorem isFields_of_own {w:World} {B0 B1:Nat} {v:Value} {l:List (ByteArray×V)} {cs:List (ByteArray×VC)} (hown:w.ownsRow B1 98 6 v l.length (cs.flatMap fcells)) (hB:B0≤B1) (hl:cs.length=l.length) (hels:∀i,i<l.length→PF l cs (only (Free B0 v) w) w.heap.size i) (hfew:l.length≤1466015503701):
    ∃a n c,v= .slice a n c∧IsFields (only (fun b=>B0≤b) w) w.heap.size l a n c∧(a=none→c=0):=by
  have hown2:w.ownsRow B0 98 6 v l.length (cs.flatMap fcells):=by
    refine ⟨hown.1, ?_⟩
    rcases hown.2 with h|⟨g,cap,cur,h1,h2,h3⟩
    · exact .inl h
    · exact .inr ⟨g,cap,cur,h1,Nat.le_trans hB h2,h3⟩
  have hv:∃a n c,v= .slice a n c∧(a=none→c=0):=by
    rcases hown.2 with ⟨h,_⟩|⟨g,cap,cur,h1,_⟩
    · exact ⟨_,_,_,h,fun _=>rfl⟩
    · exact ⟨_,_,_,h1,fun h=>by cases h⟩
  obtain ⟨a,n,c,rfl,hz⟩:=hv
  have hrow:RowF w B0 (.slice a n c) l cs:=⟨hown2,hels⟩
  have:=(RowF.val hrow (lo:=B0) hl (Nat.le_refl _) 5 (by omega) (by omega) hfew).lists
  exact ⟨a,n,c,rfl,this.2.2.2.2.2,hz⟩
def WithPost (w:World) (B0:Nat) (l:List (ByteArray×V)) (e:Ending) (w':World):Prop:=
  (∃a n c,e= .returned (.slice a n c)∧IsFields (only (fun b=>B0≤b) w') w'.heap.size l a n c∧(a=none→c=0))∧Below w.heap.size w w'
end Go.Proofs.YtgcfhkceejcliaaGreatDoor
