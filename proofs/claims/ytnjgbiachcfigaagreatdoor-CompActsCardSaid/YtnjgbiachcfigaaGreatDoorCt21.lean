/-
  Contracts of the functions that the law reaches: one: an object. one. Build.
-/
import Derived.Test.YtnjgbiachcfigaaGreatDoorCt20
namespace Go.Proofs.YtnjgbiachcfigaaGreatDoor
open Go.RowKit
set_option maxHeartbeats 8000000
set_option maxRecDepth 100000 in
theorem zda (w:World) (dd:Int) (hd0:0<=dd) (hd:dd<=5) (d:Nat) (t:Tk) (r:List Tk) (a:Option Addr) (n c:Nat) (h:IsToks w w.heap.size (t::r) a n c) (IH:∀(W:World) (l:List Tk) (a:Option Addr) (n c:Nat),IsToks W W.heap.size l a n c->Calls Tryz.prog 36 #[.slice a n c, .int .i64 (dd+1)] W (RawPost W (oneP d l))) (hk:t.k % 6=5):
 Calls Tryz.prog 36 #[.slice a n c, .int .i64 dd] w (RawPost w (oneP (d+1) (t::r))):=by
 have hw1:IntKind.i64.wrap (dd+1)=dd+1:=IntWalk.i64_in _ (by omega)
 obtain ⟨b,o,hp,rfl,hb,htk,hbd⟩:=h.get (k:=0) (by have:=h.len;rw [this];simp)
 have ht:TkAt w b o t:=by simpa using htk
 replace hbd:t.Bnd:=by simpa using hbd
 have c0:=ht.c0;have c1:=ht.c1;have c2:=ht.c2;have c3:=ht.c3
 have b0:=hbd.k0;have b1:=hbd.k1;have b2:=hbd.m0;have b3:=hbd.m1
 have hlen:=h.len
 have hcap:=h.cap
 have hmax:=h.max
 have hnp:0<n:=by rw [hlen];simp
 have hne:((n:Int)==0)=false:=by simp;omega
 obtain ⟨K,hK⟩:∃K:Nat,(t.m % 4).toNat=K:=⟨_,rfl⟩
 have hK1:t.m % 4=(K:Int):=by omega
 have hK2:Int.tmod t.m 4=(K:Int):=by rw [Int.tmod_eq_emod_of_nonneg b2];exact hK1
 have hK3:K<=3:=by omega
 have hk2:Int.tmod t.k 6=5:=by rw [Int.tmod_eq_emod_of_nonneg b0];exact hk
 have HI:=qh h
 have HQR:=qh (QR.start2 w t ⟨5,0, .empty,none,0,0,none,0,0⟩ 36 73 36)
 have HBD:=qh hbd
 have IHH:=qh IH
 have HLEN:=qh hlen
 have HKK:=qh hK
 have HK:=qh hk
 clear h ht htk hp hbd IH hlen hK hk
 go_enter Tryz.func36,Tryz.ntmps36
 generalize hQ0:bodyPost _ _ _=Q0
 have HQ:=qh hQ0
 clear hQ0
 go_wp2_with fail
 go_loopw [7,13,14,15,16] (fun u i _ _ _ wr=>∃(j:Nat) (a':Option Addr) (m c':Nat) (os:List (ByteArray×V)) (un:Nat),j<=K/\u= .int .i64 un/\i= .int .u8 j/\BLO w wr d (t::r) t j a' m c' os un) (fun _ i _ _ _ _=>K - (intOf i).toNat)
 case atStart=>exact ⟨0,none,0,0, [],1,Nat.zero_le _,rfl,rfl,⟨rfl,(HQR.out _ rfl).1, .inl ⟨rfl,rfl,rfl⟩,zf6 _ _⟩⟩
 case round=>
  obtain ⟨j,a',m,c',os,un,hj,rfl,rfl,L⟩:=hrel
  have k0:=L.box.tok.at_ 0 _ rfl;have k3:=L.box.tok.at_ 3 _ rfl
  obtain ⟨v0,v1,v2,v3,v4⟩:=row5 L.box.val.at_
  have p0:=L.box.val.fr 4
  obtain ⟨r0,r1,r2,r3,r4⟩:=row5 L.box.res.at_
  have g0:=L.box.res.fr 0;have g1:=L.box.res.fr 1;have g2:=L.box.res.fr 2;have g3:=L.box.res.fr 3;have g4:=L.box.res.fr 4
  have zs2:=L.box.val.lt;have zs1:=L.box.tok.lt;have zs0:=L.box.res.lt
  obtain ⟨hu1,hu2,hol⟩:1<=un/\un<=n/\os.length<=j:=by
   have:=zbe (Qm d) (l:=t::r) (by simp) j
   rw [L.rd] at this
   exact ⟨this.1,by rw [HLEN.out];exact this.2.1,this.2.2⟩
  by_cases hlt:j<K
  .have hz9:c=un->n - un=0:=by omega
   obtain ⟨⟨x,q⟩,hx⟩:∃p,oneP d ((t::r).drop un)=p:=⟨_,rfl⟩
   have hq2:un+q<=n:=by have:=Qm d ((t::r).drop un);rw [hx,List.length_drop] at this;have:=HLEN.out;dsimp only at*;omega
   have HX:=qh hx
   have HC:Hid (∀W,Below w.heap.size w W->Calls Tryz.prog 36 #[if c=un then .slice (some ⟨b,o,none⟩) 0 0 else .slice (some ⟨b,o+un*4,none⟩) (n - un) (c - un), .int .i64 (dd+1)] W (RawPost W (x,q))):=by
    intro W hW
    have HIW:=(HI.out.later_ hW).drop un hu2
    rw [<-HX.out]
    by_cases hc:c=un
    .rw [if_pos hc];exact IHH.out W _ _ _ _ (HIW.none_left (hz9 hc))
    .rw [if_neg hc];rw [Option.map_some,Zt] at HIW;exact IHH.out W _ _ _ _ HIW
   have LL:=qh L
   clear L hx
   obtain ⟨key,hkey,hks⟩:∃key,keyP (t::r) un=key/\key.size<=40:=⟨_,rfl,zbj _ _⟩
   have HKEY:=qh hkey
   by_cases hul:un<n
   .obtain ⟨b2,o2,hp2,e2,hb2,htk2,hbd2⟩:=(HI.out.keep LL.out.box.below).get hul
    injection e2 with e2;injection e2 with e2 e3;subst e2 e3
    have hk4:plainS ((t::r)[un]'hp2).s=key:=by rw [<-hkey,keyP,List.getElem?_eq_getElem hp2]
    obtain ⟨ks,hks2⟩:∃ks,((t::r)[un]'hp2).s=ks:=⟨_,rfl⟩
    have d2:=htk2.c2
    have hsz2:=hbd2.s1
    rw [hks2] at d2 hsz2 hk4
    have HPL:=qh (K1 wr ks hsz2)
    rw [hk4] at HPL
    have hne8:c≠un:=by omega
    replace HC:=HC.out
    simp only [if_neg hne8] at HC
    replace HC:=qh HC
    have huc:un<c:=by omega
    have hbw:b<wr.heap.size:=World.block_lt_of_cell? wr _ d2
    clear hz9 hne8 htk2 hbd2 hk4 hks2 hkey
    go_wp2_with fail
    refine (HPL.out).mono ?_
    rintro e w3 ⟨rfl,hb3⟩
    have B3:=LL.out.box.next hb3
    have HB3:=qh hb3
    have HBL3:=qh B3.below
    clear B3 hb3
    go_wp2_with fail
    refine (HC.out _ HBL3.out).mono ?_
    rintro e w4 ⟨⟨cx,rfl,hI4⟩,hb4⟩
    have L:=LL.out
    have hb34:Below wr.heap.size wr w4:=HB3.out.trans (hb4.mono HB3.out.size)
    have B4:=L.box.next hb34
    have k0:=B4.tok.at_ 0 _ rfl;have k3:=B4.tok.at_ 3 _ rfl
    obtain ⟨v0,v1,v2,v3,v4⟩:=row5 B4.val.at_
    have p0:=B4.val.fr 4
    obtain ⟨r0,r1,r2,r3,r4⟩:=row5 B4.res.at_
    have g0:=B4.res.fr 0;have g1:=B4.res.fr 1;have g2:=B4.res.fr 2;have g3:=B4.res.fr 3;have g4:=B4.res.fr 4
    have zt2:=B4.val.lt;have zt1:=B4.tok.lt;have zt0:=B4.res.lt
    have hs3:=HB3.out.size
    have HW:=qh (J1 (w4.alloc (.cells #[.int .u8 cx.k, .int .i64 cx.n, .string cx.s, .slice cx.la cx.ll cx.lc, .slice cx.oa cx.ol cx.oc] 36)) (w.heap.size+3) (by simp;omega) os a' m c' (L.fld.behind (hb34.alloc hb34.size _)) L.neat key (by omega) x cx.k cx.n cx.s cx.la cx.ll cx.lc cx.oa cx.ol cx.oc ((hI4.sub (Ze fun k hk hl=>⟨by omega,((Below.refl _ _).alloc (Nat.le_refl _) _:Below w4.heap.size w4 (w4.alloc (.cells #[.int .u8 cx.k, .int .i64 cx.n, .string cx.s, .slice cx.la cx.ll cx.lc, .slice cx.oa cx.ol cx.oc] 36))).block k hl⟩)).more (by simp)) (by rw [L.fld.len];omega))
    have HB5:=qh (hb34.alloc hb34.size (.cells #[.int .u8 cx.k, .int .i64 cx.n, .string cx.s, .slice cx.la cx.ll cx.lc, .slice cx.oa cx.ol cx.oc] 36))
    have HB4:=qh B4
    have hu3:(un:Int)+q<=9223372036854775807:=by omega
    clear L B4 hI4 hb4 hb34
    go_wp2_with fail
    refine (HW.out).mono ?_
    rintro e w6 ⟨⟨a2,n2,c2,rfl,hf6,hne6⟩,hb6⟩
    have B6:=(HB4.out.next ((Below.refl _ _).alloc (Nat.le_refl _) (.cells #[.int .u8 cx.k, .int .i64 cx.n, .string cx.s, .slice cx.la cx.ll cx.lc, .slice cx.oa cx.ol cx.oc] 36))).next hb6
    have v4:=B6.val.at_ 4 _ rfl;have p0:=B6.val.fr 4;have zu2:=B6.val.lt
    have HF6:=qh hf6;have HN6:=qh hne6;have HB6:=qh hb6
    clear B6 hf6 hne6 hb6
    go_wp2_with fail
    go_roundw
    case rel=>exact ⟨j+1,a2,n2,c2,withF os key x,un+q,by omega,by go_num,by go_num,LL.out.round HX.out HKEY.out HB5.out HB6.out HF6.out HN6.out⟩
    case measure=>simp [intOf];omega
   .have hk4:key= .empty:=by rw [<-hkey,keyP,List.getElem?_eq_none (by rw [<-HLEN.out];omega)]
    have hk5:key=({ data:= #[] } :ByteArray):=hk4
    have HB3:=qh (Below.refl wr.heap.size wr)
    by_cases hc:c=un
    .replace HC:=HC.out
     simp only [if_pos hc] at HC
     replace HC:=qh HC
     have hz:=hz9 hc
     clear hz9
     subst hc
     subst hk5
     clear hk4 hkey
     go_wp2_with fail
     refine (HC.out _ LL.out.box.below).mono ?_
     rintro e w4 ⟨⟨cx,rfl,hI4⟩,hb4⟩
     have L:=LL.out
     have hb34:Below wr.heap.size wr w4:=HB3.out.trans (hb4.mono HB3.out.size)
     have B4:=L.box.next hb34
     have k0:=B4.tok.at_ 0 _ rfl;have k3:=B4.tok.at_ 3 _ rfl
     obtain ⟨v0,v1,v2,v3,v4⟩:=row5 B4.val.at_
     have p0:=B4.val.fr 4
     obtain ⟨r0,r1,r2,r3,r4⟩:=row5 B4.res.at_
     have g0:=B4.res.fr 0;have g1:=B4.res.fr 1;have g2:=B4.res.fr 2;have g3:=B4.res.fr 3;have g4:=B4.res.fr 4
     have zt2:=B4.val.lt;have zt1:=B4.tok.lt;have zt0:=B4.res.lt
     have hs3:=HB3.out.size
     have HW:=qh (J1 (w4.alloc (.cells #[.int .u8 cx.k, .int .i64 cx.n, .string cx.s, .slice cx.la cx.ll cx.lc, .slice cx.oa cx.ol cx.oc] 36)) (w.heap.size+3) (by simp;omega) os a' m c' (L.fld.behind (hb34.alloc hb34.size _)) L.neat { data:= #[] } (by omega) x cx.k cx.n cx.s cx.la cx.ll cx.lc cx.oa cx.ol cx.oc ((hI4.sub (Ze fun k hk hl=>⟨by omega,((Below.refl _ _).alloc (Nat.le_refl _) _:Below w4.heap.size w4 (w4.alloc (.cells #[.int .u8 cx.k, .int .i64 cx.n, .string cx.s, .slice cx.la cx.ll cx.lc, .slice cx.oa cx.ol cx.oc] 36))).block k hl⟩)).more (by simp)) (by rw [L.fld.len];omega))
     have HB5:=qh (hb34.alloc hb34.size (.cells #[.int .u8 cx.k, .int .i64 cx.n, .string cx.s, .slice cx.la cx.ll cx.lc, .slice cx.oa cx.ol cx.oc] 36))
     have HB4:=qh B4
     have hu3:(c:Int)+q<=9223372036854775807:=by omega
     clear L B4 hI4 hb4 hb34
     go_wp2_with fail
     refine (HW.out).mono ?_
     rintro e w6 ⟨⟨a2,n2,c2,rfl,hf6,hne6⟩,hb6⟩
     have B6:=(HB4.out.next ((Below.refl _ _).alloc (Nat.le_refl _) (.cells #[.int .u8 cx.k, .int .i64 cx.n, .string cx.s, .slice cx.la cx.ll cx.lc, .slice cx.oa cx.ol cx.oc] 36))).next hb6
     have v4:=B6.val.at_ 4 _ rfl;have p0:=B6.val.fr 4;have zu2:=B6.val.lt
     have HF6:=qh hf6;have HN6:=qh hne6;have HB6:=qh hb6
     clear B6 hf6 hne6 hb6
     go_wp2_with fail
     go_roundw
     case rel=>exact ⟨j+1,a2,n2,c2,withF os { data:= #[] } x,c+q,by omega,by go_num,by go_num,LL.out.round HX.out HKEY.out HB5.out HB6.out HF6.out HN6.out⟩
     case measure=>simp [intOf];omega
    .replace HC:=HC.out
     simp only [if_neg hc] at HC
     replace HC:=qh HC
     have huc:un<c:=by omega
     clear hz9 hc
     subst hk5
     clear hk4 hkey
     go_wp2_with fail
     refine (HC.out _ LL.out.box.below).mono ?_
     rintro e w4 ⟨⟨cx,rfl,hI4⟩,hb4⟩
     have L:=LL.out
     have hb34:Below wr.heap.size wr w4:=HB3.out.trans (hb4.mono HB3.out.size)
     have B4:=L.box.next hb34
     have k0:=B4.tok.at_ 0 _ rfl;have k3:=B4.tok.at_ 3 _ rfl
     obtain ⟨v0,v1,v2,v3,v4⟩:=row5 B4.val.at_
     have p0:=B4.val.fr 4
     obtain ⟨r0,r1,r2,r3,r4⟩:=row5 B4.res.at_
     have g0:=B4.res.fr 0;have g1:=B4.res.fr 1;have g2:=B4.res.fr 2;have g3:=B4.res.fr 3;have g4:=B4.res.fr 4
     have zt2:=B4.val.lt;have zt1:=B4.tok.lt;have zt0:=B4.res.lt
     have hs3:=HB3.out.size
     have HW:=qh (J1 (w4.alloc (.cells #[.int .u8 cx.k, .int .i64 cx.n, .string cx.s, .slice cx.la cx.ll cx.lc, .slice cx.oa cx.ol cx.oc] 36)) (w.heap.size+3) (by simp;omega) os a' m c' (L.fld.behind (hb34.alloc hb34.size _)) L.neat { data:= #[] } (by omega) x cx.k cx.n cx.s cx.la cx.ll cx.lc cx.oa cx.ol cx.oc ((hI4.sub (Ze fun k hk hl=>⟨by omega,((Below.refl _ _).alloc (Nat.le_refl _) _:Below w4.heap.size w4 (w4.alloc (.cells #[.int .u8 cx.k, .int .i64 cx.n, .string cx.s, .slice cx.la cx.ll cx.lc, .slice cx.oa cx.ol cx.oc] 36))).block k hl⟩)).more (by simp)) (by rw [L.fld.len];omega))
     have HB5:=qh (hb34.alloc hb34.size (.cells #[.int .u8 cx.k, .int .i64 cx.n, .string cx.s, .slice cx.la cx.ll cx.lc, .slice cx.oa cx.ol cx.oc] 36))
     have HB4:=qh B4
     have hu3:(un:Int)+q<=9223372036854775807:=by omega
     clear L B4 hI4 hb4 hb34
     go_wp2_with fail
     refine (HW.out).mono ?_
     rintro e w6 ⟨⟨a2,n2,c2,rfl,hf6,hne6⟩,hb6⟩
     have B6:=(HB4.out.next ((Below.refl _ _).alloc (Nat.le_refl _) (.cells #[.int .u8 cx.k, .int .i64 cx.n, .string cx.s, .slice cx.la cx.ll cx.lc, .slice cx.oa cx.ol cx.oc] 36))).next hb6
     have v4:=B6.val.at_ 4 _ rfl;have p0:=B6.val.fr 4;have zu2:=B6.val.lt
     have HF6:=qh hf6;have HN6:=qh hne6;have HB6:=qh hb6
     clear B6 hf6 hne6 hb6
     go_wp2_with fail
     go_roundw
     case rel=>exact ⟨j+1,a2,n2,c2,withF os { data:= #[] } x,un+q,by omega,by go_num,by go_num,LL.out.round HX.out HKEY.out HB5.out HB6.out HF6.out HN6.out⟩
     case measure=>simp [intOf];omega
  .have hjn:j=K:=by omega
   subst hjn
   have hR:oneP (d+1) (t::r)=(.mk 5 0 .empty [] os,un):=by
    rw [oneP,if_neg (by rw [HK.out];decide),if_pos HK.out,HKK.out,L.rd]
   have hv:=zib L.fld 5 (by omega) (by omega)
   have HV:=qh hv
   have HR:=qh hR
   have LB:=qh L.box
   clear L hv hR
   go_wp2_with fail
   have ST:=LB.out.stored ⟨5,0, .empty,none,0,0,a',m,c'⟩
   rw [<-HQ.out,HR.out]
   exact Yw (c:=⟨5,0, .empty,none,0,0,a',m,c'⟩) ST.1 ST.2.1 ((Zm HV.out ST.2.2 (by omega)).sub (Ze fun k hk _=>⟨by omega,rfl⟩)) rfl rfl rfl
set_option maxRecDepth 100000 in
theorem zho (w:World) (t:Tk) (r:List Tk) (a:Option Addr) (n c:Nat) (h:IsToks w w.heap.size (t::r) a n c) (hk:t.k % 6=4):
 Calls Tryz.prog 36 #[.slice a n c, .int .i64 6] w (RawPost w (leafP t,1)):=by
 obtain ⟨b,o,hp,rfl,hb,htk,hbd⟩:=h.get (k:=0) (by have:=h.len;rw [this];simp)
 have ht:TkAt w b o t:=by simpa using htk
 replace hbd:t.Bnd:=by simpa using hbd
 have c0:=ht.c0;have c1:=ht.c1;have c2:=ht.c2;have c3:=ht.c3
 have b2:=hbd.m0;have b3:=hbd.m1
 have hnp:0<n:=by rw [h.len];simp
 have hne:((n:Int)==0)=false:=by simp;omega
 obtain ⟨K,hK⟩:∃K:Nat,(t.m % 4).toNat=K:=⟨_,rfl⟩
 have hK2:Int.tmod t.m 4=(K:Int):=by rw [Int.tmod_eq_emod_of_nonneg b2];omega
 have hk2:Int.tmod t.k 6=4:=by rw [Int.tmod_eq_emod_of_nonneg hbd.k0];exact hk
 have HQR:=qh (QR.start2 w t ⟨4,0, .empty,none,0,0,none,0,0⟩ 36 73 36)
 have hR:leafP t= .mk 4 0 .empty [] [] :=by rw [leafP];simp [hk]
 rw [hR]
 clear h ht htk hp hbd hK hk hR
 go_enter Tryz.func36,Tryz.ntmps36
 generalize hQ0:bodyPost _ _ _=Q0
 have HQ:=qh hQ0
 clear hQ0
 go_wp2_with fail
 go_loopw [7,9,10,11] (fun u i _ _ wr=>u= .int .i64 1/\i= .int .u8 0/\QR w wr t ⟨4,0, .empty,none,0,0,none,0,0⟩) (fun _ _ _ _ _=>0)
 case atStart=>exact ⟨rfl,rfl,(HQR.out _ rfl).1⟩
 case round=>
  obtain ⟨rfl,rfl,L⟩:=hrel
  have k0:=L.tok.at_ 0 _ rfl;have k3:=L.tok.at_ 3 _ rfl
  obtain ⟨v0,v1,v2,v3,v4⟩:=row5 L.val.at_
  obtain ⟨r0,r1,r2,r3,r4⟩:=row5 L.res.at_
  have g0:=L.res.fr 0;have g1:=L.res.fr 1;have g2:=L.res.fr 2;have g3:=L.res.fr 3;have g4:=L.res.fr 4
  have zs2:=L.val.lt;have zs1:=L.tok.lt;have zs0:=L.res.lt
  have LB:=qh L
  clear L
  by_cases hK0:0<K
  all_goals
   go_wp2_with fail
   have ST:=LB.out.stored ⟨4,0, .empty,none,0,0,none,0,0⟩
   rw [<-HQ.out]
   exact Yw (c:=⟨4,0, .empty,none,0,0,none,0,0⟩) ST.1 ST.2.1 (X8 _ _ 4 0 .empty (by omega) (by omega) (by omega) (by omega) (by decide)) rfl rfl rfl
set_option maxRecDepth 100000 in
theorem zjc (w:World) (t:Tk) (r:List Tk) (a:Option Addr) (n c:Nat) (h:IsToks w w.heap.size (t::r) a n c) (hk:t.k % 6=5):
 Calls Tryz.prog 36 #[.slice a n c, .int .i64 6] w (RawPost w (leafP t,1)):=by
 obtain ⟨b,o,hp,rfl,hb,htk,hbd⟩:=h.get (k:=0) (by have:=h.len;rw [this];simp)
 have ht:TkAt w b o t:=by simpa using htk
 replace hbd:t.Bnd:=by simpa using hbd
 have c0:=ht.c0;have c1:=ht.c1;have c2:=ht.c2;have c3:=ht.c3
 have b2:=hbd.m0;have b3:=hbd.m1
 have hnp:0<n:=by rw [h.len];simp
 have hne:((n:Int)==0)=false:=by simp;omega
 obtain ⟨K,hK⟩:∃K:Nat,(t.m % 4).toNat=K:=⟨_,rfl⟩
 have hK2:Int.tmod t.m 4=(K:Int):=by rw [Int.tmod_eq_emod_of_nonneg b2];omega
 have hk2:Int.tmod t.k 6=5:=by rw [Int.tmod_eq_emod_of_nonneg hbd.k0];exact hk
 have HQR:=qh (QR.start2 w t ⟨5,0, .empty,none,0,0,none,0,0⟩ 36 73 36)
 have hR:leafP t= .mk 5 0 .empty [] [] :=by rw [leafP];simp [hk]
 rw [hR]
 clear h ht htk hp hbd hK hk hR
 go_enter Tryz.func36,Tryz.ntmps36
 generalize hQ0:bodyPost _ _ _=Q0
 have HQ:=qh hQ0
 clear hQ0
 go_wp2_with fail
 go_loopw [7,13,14,15,16] (fun u i _ _ _ wr=>u= .int .i64 1/\i= .int .u8 0/\QR w wr t ⟨5,0, .empty,none,0,0,none,0,0⟩) (fun _ _ _ _ _ _=>0)
 case atStart=>exact ⟨rfl,rfl,(HQR.out _ rfl).1⟩
 case round=>
  obtain ⟨rfl,rfl,L⟩:=hrel
  have k0:=L.tok.at_ 0 _ rfl;have k3:=L.tok.at_ 3 _ rfl
  obtain ⟨v0,v1,v2,v3,v4⟩:=row5 L.val.at_
  obtain ⟨r0,r1,r2,r3,r4⟩:=row5 L.res.at_
  have g0:=L.res.fr 0;have g1:=L.res.fr 1;have g2:=L.res.fr 2;have g3:=L.res.fr 3;have g4:=L.res.fr 4
  have zs2:=L.val.lt;have zs1:=L.tok.lt;have zs0:=L.res.lt
  have LB:=qh L
  clear L
  by_cases hK0:0<K
  all_goals
   go_wp2_with fail
   have ST:=LB.out.stored ⟨5,0, .empty,none,0,0,none,0,0⟩
   rw [<-HQ.out]
   exact Yw (c:=⟨5,0, .empty,none,0,0,none,0,0⟩) ST.1 ST.2.1 (X8 _ _ 5 0 .empty (by omega) (by omega) (by omega) (by omega) (by decide)) rfl rfl rfl
theorem zdc (k:Int):k % 6=0∨k % 6=1∨k % 6=2∨k % 6=3∨k % 6=4∨k % 6=5:=by omega
theorem zbq (w:World) (dd:Int) (t:Tk) (r:List Tk) (a:Option Addr) (n c:Nat) (h:IsToks w w.heap.size (t::r) a n c) (h4:¬t.k % 6=4) (h5:¬t.k % 6=5):
 Calls Tryz.prog 36 #[.slice a n c, .int .i64 dd] w (RawPost w (leafP t,1)):=by
 rcases zdc t.k with hk|hk|hk|hk|hk|hk
 .exact zeu w dd t r a n c h hk
 .exact zft w dd t r a n c h hk
 .exact zf5 w dd t r a n c h hk
 .exact zi6 w dd t r a n c h hk
 .exact absurd hk h4
 .exact absurd hk h5
theorem zjo (d:Nat):∀(dd:Int),0<=dd->dd+d=6->∀(w:World) (l:List Tk) (a:Option Addr) (n c:Nat),IsToks w w.heap.size l a n c->
 Calls Tryz.prog 36 #[.slice a n c, .int .i64 dd] w (RawPost w (oneP d l)):=by
 induction d with
 | zero=>
   intro dd _ hd w l a n c h
   cases l with
   |nil=>obtain rfl:n=0:=h.len;exact K5 w dd a c
   | cons t r=>
     obtain rfl:dd=6:=by omega
     by_cases h4:t.k % 6=4
     .exact zho w t r a n c h h4
     .by_cases h5:t.k % 6=5
      .exact zjc w t r a n c h h5
      .exact zbq w 6 t r a n c h h4 h5
 | succ d ih=>
   intro dd hd0 hd w l a n c h
   cases l with
   |nil=>obtain rfl:n=0:=h.len;exact K5 w dd a c
   | cons t r=>
     have IH:=fun W l a n c h=>ih (dd+1) (by omega) (by omega) W l a n c h
     by_cases h4:t.k % 6=4
     .exact zkf w dd hd0 (by omega) d t r a n c h IH h4
     .by_cases h5:t.k % 6=5
      .exact zda w dd hd0 (by omega) d t r a n c h IH h5
      .rw [oneP,if_neg h4,if_neg h5];exact zbq w dd t r a n c h h4 h5
theorem zfo {tmps:Array Value} {W:World} {b:Nat} {c:VC} (ht:tmps[2]? =some (.pointer (some ⟨b,0,none⟩))) (h:BC W b (vcells c)):
 (results Tryz.f13 tmps).run Tryz.prog W= .ok (.agg #[.int .u8 c.k, .int .i64 c.n, .string c.s, .slice c.la c.ll c.lc, .slice c.oa c.ol c.oc]) W:=by
 obtain ⟨r0,r1,r2,r3,r4⟩:=(⟨h.at_ 0 _ rfl,h.at_ 1 _ rfl,h.at_ 2 _ rfl,h.at_ 3 _ rfl,h.at_ 4 _ rfl⟩:W.cell? ⟨b,0,none⟩=some (.int .u8 c.k)/\W.cell? ⟨b,1,none⟩=some (.int .i64 c.n)/\W.cell? ⟨b,2,none⟩=some (.string c.s)/\W.cell? ⟨b,3,none⟩=some (.slice c.la c.ll c.lc)/\W.cell? ⟨b,4,none⟩=some (.slice c.oa c.ol c.oc))
 simp [results,Tryz.results13,go_sem,ht,r0,r1,r2,r3,r4]
set_option maxRecDepth 100000 in
theorem Yp (w:World) (l:List Tk) (a:Option Addr) (n c:Nat) (h:IsToks w w.heap.size l a n c):
 Calls Tryz.prog 13 #[.slice a n c] w fun e w'=>(∃cv:VC,e= .returned (.agg #[.int .u8 cv.k, .int .i64 cv.n, .string cv.s, .slice cv.la cv.ll cv.lc, .slice cv.oa cv.ol cv.oc])/\IsVal (only (fun b=>w.heap.size<=b) w') w'.heap.size (oneP 6 (l.take 60)).1 cv)/\Below w.heap.size w w':=by
 have hlen:=h.len
 have hcap:=h.cap
 have hmax:=h.max
 have HD:=qh (BC.start w #[.int .u8 0, .int .i64 0, .string { data:= #[] }, .slice none 0 0, .slice none 0 0] 36)
 have hal:Below w.heap.size w (w.alloc (.cells #[.int .u8 0, .int .i64 0, .string { data:= #[] }, .slice none 0 0, .slice none 0 0] 36)):=(Below.refl _ _).alloc (Nat.le_refl _) _
 have HAL:=qh hal
 obtain ⟨N,hN⟩:∃N,min n 60=N:=⟨_,rfl⟩
 have hN2:N<=n:=by omega
 have htk:l.take N=l.take 60:=by
  by_cases hq:n<=60
  .rw [List.take_of_length_le (by omega),List.take_of_length_le (by omega)]
  .rw [show N=60 by omega]
 have HI:=qh ((h.later_ hal).take N hN2)
 rw [htk] at HI
 obtain ⟨p,hp⟩:∃p,oneP 6 (l.take 60)=p:=⟨_,rfl⟩
 have HP:=qh hp
 rw [hp]
 have hcs:(n<=60/\N=n)∨(60<n/\N=60):=by omega
 have hm:min (n:Int) 60=(N:Int):=by omega
 clear hN hN2
 rcases hcs with ⟨hq,rfl⟩|⟨hq,rfl⟩
 all_goals
  clear h hlen hal htk hp
  go_enter Tryz.func13,Tryz.ntmps13
  generalize hQ0:bodyPost _ _ _=Q0
  have HQ:=qh hQ0
  clear hQ0
  go_wp2_with fail
  refine (zjo 6 0 (by omega) (by omega) _ _ _ _ _ HI.out).mono ?_
  rw [HP.out]
  rintro e w3 ⟨⟨cv,rfl,hI3⟩,hb3⟩
  have D:=HD.out.keep hb3 (by simp)
  obtain ⟨r0,r1,r2,r3,r4⟩:=row5 D.at_
  have g0:=D.fr 0;have g1:=D.fr 1;have g2:=D.fr 2;have g3:=D.fr 3;have g4:=D.fr 4
  have zs3:w.heap.size<w3.heap.size:=D.lt
  have HD3:=qh D
  have HI3:=qh hI3
  have HB3:=qh (HAL.out.trans (hb3.mono (by simp)))
  clear D hI3 hb3
  go_wp2_with fail
  rw [<-HQ.out]
  have s1:RStep w3 (((((w3.setCell ⟨w.heap.size,0,none⟩ (.int .u8 cv.k)).setCell ⟨w.heap.size,1,none⟩ (.int .i64 cv.n)).setCell ⟨w.heap.size,2,none⟩ (.string cv.s)).setCell ⟨w.heap.size,3,none⟩ (.slice cv.la cv.ll cv.lc)).setCell ⟨w.heap.size,4,none⟩ (.slice cv.oa cv.ol cv.oc)) w.heap.size:=(((RStep.self.trans RStep.self).trans RStep.self).trans RStep.self).trans RStep.self
  have hbc:BC (((((w3.setCell ⟨w.heap.size,0,none⟩ (.int .u8 cv.k)).setCell ⟨w.heap.size,1,none⟩ (.int .i64 cv.n)).setCell ⟨w.heap.size,2,none⟩ (.string cv.s)).setCell ⟨w.heap.size,3,none⟩ (.slice cv.la cv.ll cv.lc)).setCell ⟨w.heap.size,4,none⟩ (.slice cv.oa cv.ol cv.oc)) w.heap.size (vcells cv):=((((HD3.out.set (i:=0) (x:= .int .u8 cv.k) (by simp)).set (i:=1) (x:= .int .i64 cv.n) (by simp)).set (i:=2) (x:= .string cv.s) (by simp)).set (i:=3) (x:= .slice cv.la cv.ll cv.lc) (by simp)).set (i:=4) (x:= .slice cv.oa cv.ol cv.oc) (by simp)
  have hv:=fun ob=>(Zm (Zm HI3.out s1 (by simp)) (RStep.of_below w.heap.size ((Below.refl _ _).alloc (Nat.le_refl _) ob)) (by simp)).sub (Ze (S':=fun b=>w.heap.size<=b) fun k hk _=>⟨by simp at hk;omega,rfl⟩)
  have hB:=HB3.out.trans (s1.below (by omega))
  exact ⟨rfl,_,zfo rfl (hbc.keep ((Below.refl _ _).alloc (Nat.le_refl _) _) hbc.lt),⟨cv,rfl,hv _⟩,hB.alloc hB.size _⟩
end Go.Proofs.YtnjgbiachcfigaaGreatDoor
