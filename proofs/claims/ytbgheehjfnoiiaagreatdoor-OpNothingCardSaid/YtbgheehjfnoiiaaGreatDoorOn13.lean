/-
  Contracts of the functions that the law reaches: one: an object. one. Build. slices.Clone.
-/
import Derived.Test.YtbgheehjfnoiiaaGreatDoorOn12
import Derived.Lib.SliceRun
namespace Go.Proofs.YtbgheehjfnoiiaaGreatDoor
open Go.RowKit
set_option maxHeartbeats 8000000
set_option maxRecDepth 100000 in
theorem zhi (w:World) (dd:Int) (hd0:0<=dd) (hd:dd<=5) (d:Nat) (t:Tk) (r:List Tk) (a:Option Addr) (n c:Nat) (h:IsToks w w.heap.size (t::r) a n c) (IH:∀(W:World) (l:List Tk) (a:Option Addr) (n c:Nat),IsToks W W.heap.size l a n c->uP 31 #[.slice a n c, .int .i64 (dd+1)] W (RawPost W (oneP d l))) (hk:t.k % 6=5):
 uP 31 #[.slice a n c, .int .i64 dd] w (RawPost w (oneP (d+1) (t::r))):=by
 delta uP
 have hw1:IntKind.i64.wrap (dd+1)=dd+1:=IntWalk.i64_in _ (by omega)
 obtain ⟨b,o,hp,rfl,hb,htk,hbd⟩:=h.get (k:=0) (by have:=h.len;rw [this];simp)
 have ht:TkAt w b o t:=by simpa using htk
 replace hbd:t.Bnd:=by simpa using hbd
 have c0:=ht.c0;have c1:=ht.c1;have c2:=ht.c2;have c3:=ht.c3
 have b0:=hbd.k0;have b1:=hbd.k1;have b2:=hbd.m0;have b3:=hbd.m1
 have hlen:=h.len
 have hcap:=h.cap
 have hmax:=h.max
 have hnp:0<n:=by rw [hlen];simp
 have hne:((n:Int)==0)=false:=by simp;omega
 obtain ⟨K,hK⟩:∃K:Nat,(t.m % 4).toNat=K:=⟨_,rfl⟩
 have hK1:t.m % 4=(K:Int):=by omega
 have hK2:Int.tmod t.m 4=(K:Int):=by rw [Int.tmod_eq_emod_of_nonneg b2];exact hK1
 have hK3:K<=3:=by omega
 have hk2:Int.tmod t.k 6=5:=by rw [Int.tmod_eq_emod_of_nonneg b0];exact hk
 have HI:=qh h
 have HQR:=qh (QR.start2 w t ⟨5,0, .empty,none,0,0,none,0,0⟩ 29 59 29)
 have HBD:=qh hbd
 have IHH:=qh IH
 have HLEN:=qh hlen
 have HKK:=qh hK
 have HK:=qh hk
 clear h ht htk hp hbd IH hlen hK hk
 go_enter Tryz.func31,Tryz.ntmps31
 generalize hQ0:bodyPost _ _ _=Q0
 have HQ:=qh hQ0
 clear hQ0
 go_wp2_with fail
 go_loopw [7,13,14,15,16] (fun u i _ _ _ wr=>∃(j:Nat) (a':Option Addr) (m c':Nat) (os:List (ByteArray×V)) (un:Nat),j<=K/\u= .int .i64 un/\i= .int .u8 j/\BLO w wr d (t::r) t j a' m c' os un) (fun _ i _ _ _ _=>K - (intOf i).toNat)
 case atStart=>exact ⟨0,none,0,0, [],1,Nat.zero_le _,rfl,rfl,⟨rfl,(HQR.out _ rfl).1, .inl ⟨rfl,rfl,rfl⟩,ziw _ _⟩⟩
 case round=>
  obtain ⟨j,a',m,c',os,un,hj,rfl,rfl,L⟩:=hrel
  have k0:=L.box.tok.at_ 0 _ rfl;have k3:=L.box.tok.at_ 3 _ rfl
  obtain ⟨v0,v1,v2,v3,v4⟩:=row5 L.box.val.at_
  have p0:=L.box.val.fr 4
  obtain ⟨r0,r1,r2,r3,r4⟩:=row5 L.box.res.at_
  have g0:=L.box.res.fr 0;have g1:=L.box.res.fr 1;have g2:=L.box.res.fr 2;have g3:=L.box.res.fr 3;have g4:=L.box.res.fr 4
  have zs2:=L.box.val.lt;have zs1:=L.box.tok.lt;have zs0:=L.box.res.lt
  obtain ⟨hu1,hu2,hol⟩:1<=un/\un<=n/\os.length<=j:=by
   have:=zc1 (Qs d) (l:=t::r) (by simp) j
   rw [L.rd] at this
   exact ⟨this.1,by rw [HLEN.out];exact this.2.1,this.2.2⟩
  by_cases hlt:j<K
  .have hz9:c=un->n - un=0:=by omega
   obtain ⟨⟨x,q⟩,hx⟩:∃p,oneP d ((t::r).drop un)=p:=⟨_,rfl⟩
   have hq2:un+q<=n:=by have:=Qs d ((t::r).drop un);rw [hx,List.length_drop] at this;have:=HLEN.out;dsimp only at*;omega
   have HX:=qh hx
   have HC:Hid (∀W,uB w W->uP 31 #[if c=un then .slice (some ⟨b,o,none⟩) 0 0 else .slice (some ⟨b,o+un*4,none⟩) (n - un) (c - un), .int .i64 (dd+1)] W (RawPost W (x,q))):=by
    intro W hW
    have HIW:=(HI.out.later_ hW).drop un hu2
    rw [<-HX.out]
    by_cases hc:c=un
    .rw [if_pos hc];exact IHH.out W _ _ _ _ (HIW.none_left (hz9 hc))
    .rw [if_neg hc];rw [Option.map_some,Zv] at HIW;exact IHH.out W _ _ _ _ HIW
   have LL:=qh L
   clear L hx
   obtain ⟨key,hkey,hks⟩:∃key,keyP (t::r) un=key/\key.size<=40:=⟨_,rfl,zcb _ _⟩
   have HKEY:=qh hkey
   by_cases hul:un<n
   .obtain ⟨b2,o2,hp2,e2,hb2,htk2,hbd2⟩:=(HI.out.keep LL.out.box.below).get hul
    injection e2 with e2;injection e2 with e2 e3;subst e2 e3
    have hk4:plainS ((t::r)[un]'hp2).s=key:=by rw [<-hkey,keyP,List.getElem?_eq_getElem hp2]
    obtain ⟨ks,hks2⟩:∃ks,((t::r)[un]'hp2).s=ks:=⟨_,rfl⟩
    have d2:=htk2.c2
    have hsz2:=hbd2.s1
    rw [hks2] at d2 hsz2 hk4
    have HPL:=qh (zan wr ks hsz2)
    rw [hk4] at HPL
    have hne8:c≠un:=by omega
    replace HC:=HC.out
    simp only [if_neg hne8] at HC
    replace HC:=qh HC
    have huc:un<c:=by omega
    have hbw:b<wr.heap.size:=World.block_lt_of_cell? wr _ d2
    clear hz9 hne8 htk2 hbd2 hk4 hks2 hkey
    go_wp2_with fail
    refine (HPL.out).mono ?_
    rintro e w3 ⟨rfl,hb3⟩
    have B3:=LL.out.box.next hb3
    have HB3:=qh hb3
    have HBL3:=qh B3.below
    clear B3 hb3
    go_wp2_with fail
    refine (HC.out _ HBL3.out).mono ?_
    rintro e w4 ⟨⟨cx,rfl,hI4⟩,hb4⟩
    have L:=LL.out
    have hb34:uB wr w4:=HB3.out.trans (hb4.mono HB3.out.size)
    have B4:=L.box.next hb34
    have k0:=B4.tok.at_ 0 _ rfl;have k3:=B4.tok.at_ 3 _ rfl
    obtain ⟨v0,v1,v2,v3,v4⟩:=row5 B4.val.at_
    have p0:=B4.val.fr 4
    obtain ⟨r0,r1,r2,r3,r4⟩:=row5 B4.res.at_
    have g0:=B4.res.fr 0;have g1:=B4.res.fr 1;have g2:=B4.res.fr 2;have g3:=B4.res.fr 3;have g4:=B4.res.fr 4
    have zt2:=B4.val.lt;have zt1:=B4.tok.lt;have zt0:=B4.res.lt
    have hs3:=HB3.out.size
    have HW:=qh (Kw (w4.alloc (.cells (uV cx) 29)) (w.heap.size+3) (by simp;omega) os a' m c' (L.fld.behind (hb34.alloc hb34.size _)) L.neat key (by omega) x cx.k cx.n cx.s cx.la cx.ll cx.lc cx.oa cx.ol cx.oc ((hI4.sub (Ze fun k hk hl=>⟨by omega,((Below.refl _ _).alloc (Nat.le_refl _) _:uB w4 (w4.alloc (.cells (uV cx) 29))).block k hl⟩)).more (by simp)) (by rw [L.fld.len];omega))
    have HB5:=qh (hb34.alloc hb34.size (.cells (uV cx) 29))
    have HB4:=qh B4
    have hu3:(un:Int)+q<=9223372036854775807:=by omega
    clear L B4 hI4 hb4 hb34
    go_wp2_with fail
    refine (HW.out).mono ?_
    rintro e w6 ⟨⟨a2,n2,c2,rfl,hf6,hne6⟩,hb6⟩
    have B6:=(HB4.out.next ((Below.refl _ _).alloc (Nat.le_refl _) (.cells (uV cx) 29))).next hb6
    have v4:=B6.val.at_ 4 _ rfl;have p0:=B6.val.fr 4;have zu2:=B6.val.lt
    have HF6:=qh hf6;have HN6:=qh hne6;have HB6:=qh hb6
    clear B6 hf6 hne6 hb6
    go_wp2_with fail
    go_roundw
    case rel=>exact ⟨j+1,a2,n2,c2,withF os key x,un+q,by omega,by go_num,by go_num,LL.out.round HX.out HKEY.out HB5.out HB6.out HF6.out HN6.out⟩
    case measure=>simp [intOf];omega
   .have hk4:key= .empty:=by rw [<-hkey,keyP,List.getElem?_eq_none (by rw [<-HLEN.out];omega)]
    have hk5:key=({ data:= #[] } :ByteArray):=hk4
    have HB3:=qh (Below.refl wr.heap.size wr)
    by_cases hc:c=un
    .replace HC:=HC.out
     simp only [if_pos hc] at HC
     replace HC:=qh HC
     have hz:=hz9 hc
     clear hz9
     subst hc
     subst hk5
     clear hk4 hkey
     go_wp2_with fail
     refine (HC.out _ LL.out.box.below).mono ?_
     rintro e w4 ⟨⟨cx,rfl,hI4⟩,hb4⟩
     have L:=LL.out
     have hb34:uB wr w4:=HB3.out.trans (hb4.mono HB3.out.size)
     have B4:=L.box.next hb34
     have k0:=B4.tok.at_ 0 _ rfl;have k3:=B4.tok.at_ 3 _ rfl
     obtain ⟨v0,v1,v2,v3,v4⟩:=row5 B4.val.at_
     have p0:=B4.val.fr 4
     obtain ⟨r0,r1,r2,r3,r4⟩:=row5 B4.res.at_
     have g0:=B4.res.fr 0;have g1:=B4.res.fr 1;have g2:=B4.res.fr 2;have g3:=B4.res.fr 3;have g4:=B4.res.fr 4
     have zt2:=B4.val.lt;have zt1:=B4.tok.lt;have zt0:=B4.res.lt
     have hs3:=HB3.out.size
     have HW:=qh (Kw (w4.alloc (.cells (uV cx) 29)) (w.heap.size+3) (by simp;omega) os a' m c' (L.fld.behind (hb34.alloc hb34.size _)) L.neat { data:= #[] } (by omega) x cx.k cx.n cx.s cx.la cx.ll cx.lc cx.oa cx.ol cx.oc ((hI4.sub (Ze fun k hk hl=>⟨by omega,((Below.refl _ _).alloc (Nat.le_refl _) _:uB w4 (w4.alloc (.cells (uV cx) 29))).block k hl⟩)).more (by simp)) (by rw [L.fld.len];omega))
     have HB5:=qh (hb34.alloc hb34.size (.cells (uV cx) 29))
     have HB4:=qh B4
     have hu3:(c:Int)+q<=9223372036854775807:=by omega
     clear L B4 hI4 hb4 hb34
     go_wp2_with fail
     refine (HW.out).mono ?_
     rintro e w6 ⟨⟨a2,n2,c2,rfl,hf6,hne6⟩,hb6⟩
     have B6:=(HB4.out.next ((Below.refl _ _).alloc (Nat.le_refl _) (.cells (uV cx) 29))).next hb6
     have v4:=B6.val.at_ 4 _ rfl;have p0:=B6.val.fr 4;have zu2:=B6.val.lt
     have HF6:=qh hf6;have HN6:=qh hne6;have HB6:=qh hb6
     clear B6 hf6 hne6 hb6
     go_wp2_with fail
     go_roundw
     case rel=>exact ⟨j+1,a2,n2,c2,withF os { data:= #[] } x,c+q,by omega,by go_num,by go_num,LL.out.round HX.out HKEY.out HB5.out HB6.out HF6.out HN6.out⟩
     case measure=>simp [intOf];omega
    .replace HC:=HC.out
     simp only [if_neg hc] at HC
     replace HC:=qh HC
     have huc:un<c:=by omega
     clear hz9 hc
     subst hk5
     clear hk4 hkey
     go_wp2_with fail
     refine (HC.out _ LL.out.box.below).mono ?_
     rintro e w4 ⟨⟨cx,rfl,hI4⟩,hb4⟩
     have L:=LL.out
     have hb34:uB wr w4:=HB3.out.trans (hb4.mono HB3.out.size)
     have B4:=L.box.next hb34
     have k0:=B4.tok.at_ 0 _ rfl;have k3:=B4.tok.at_ 3 _ rfl
     obtain ⟨v0,v1,v2,v3,v4⟩:=row5 B4.val.at_
     have p0:=B4.val.fr 4
     obtain ⟨r0,r1,r2,r3,r4⟩:=row5 B4.res.at_
     have g0:=B4.res.fr 0;have g1:=B4.res.fr 1;have g2:=B4.res.fr 2;have g3:=B4.res.fr 3;have g4:=B4.res.fr 4
     have zt2:=B4.val.lt;have zt1:=B4.tok.lt;have zt0:=B4.res.lt
     have hs3:=HB3.out.size
     have HW:=qh (Kw (w4.alloc (.cells (uV cx) 29)) (w.heap.size+3) (by simp;omega) os a' m c' (L.fld.behind (hb34.alloc hb34.size _)) L.neat { data:= #[] } (by omega) x cx.k cx.n cx.s cx.la cx.ll cx.lc cx.oa cx.ol cx.oc ((hI4.sub (Ze fun k hk hl=>⟨by omega,((Below.refl _ _).alloc (Nat.le_refl _) _:uB w4 (w4.alloc (.cells (uV cx) 29))).block k hl⟩)).more (by simp)) (by rw [L.fld.len];omega))
     have HB5:=qh (hb34.alloc hb34.size (.cells (uV cx) 29))
     have HB4:=qh B4
     have hu3:(un:Int)+q<=9223372036854775807:=by omega
     clear L B4 hI4 hb4 hb34
     go_wp2_with fail
     refine (HW.out).mono ?_
     rintro e w6 ⟨⟨a2,n2,c2,rfl,hf6,hne6⟩,hb6⟩
     have B6:=(HB4.out.next ((Below.refl _ _).alloc (Nat.le_refl _) (.cells (uV cx) 29))).next hb6
     have v4:=B6.val.at_ 4 _ rfl;have p0:=B6.val.fr 4;have zu2:=B6.val.lt
     have HF6:=qh hf6;have HN6:=qh hne6;have HB6:=qh hb6
     clear B6 hf6 hne6 hb6
     go_wp2_with fail
     go_roundw
     case rel=>exact ⟨j+1,a2,n2,c2,withF os { data:= #[] } x,un+q,by omega,by go_num,by go_num,LL.out.round HX.out HKEY.out HB5.out HB6.out HF6.out HN6.out⟩
     case measure=>simp [intOf];omega
  .have hjn:j=K:=by omega
   subst hjn
   have hR:oneP (d+1) (t::r)=(.mk 5 0 .empty [] os,un):=by
    rw [oneP,if_neg (by rw [HK.out];decide),if_pos HK.out,HKK.out,L.rd]
   have hv:=zhf L.fld 5 (by omega) (by omega)
   have HV:=qh hv
   have HR:=qh hR
   have LB:=qh L.box
   clear L hv hR
   go_wp2_with fail
   have ST:=LB.out.stored ⟨5,0, .empty,none,0,0,a',m,c'⟩
   rw [<-HQ.out,HR.out]
   exact Y3 (c:=⟨5,0, .empty,none,0,0,a',m,c'⟩) ST.1 ST.2.1 ((Zm HV.out ST.2.2 (by omega)).sub (Ze fun k hk _=>⟨by omega,rfl⟩)) rfl rfl rfl
set_option maxRecDepth 100000 in
theorem ze3 (w:World) (t:Tk) (r:List Tk) (a:Option Addr) (n c:Nat) (h:IsToks w w.heap.size (t::r) a n c) (hk:t.k % 6=4):
 uP 31 #[.slice a n c, .int .i64 6] w (RawPost w (leafP t,1)):=by
 delta uP
 obtain ⟨b,o,hp,rfl,hb,htk,hbd⟩:=h.get (k:=0) (by have:=h.len;rw [this];simp)
 have ht:TkAt w b o t:=by simpa using htk
 replace hbd:t.Bnd:=by simpa using hbd
 have c0:=ht.c0;have c1:=ht.c1;have c2:=ht.c2;have c3:=ht.c3
 have b2:=hbd.m0;have b3:=hbd.m1
 have hnp:0<n:=by rw [h.len];simp
 have hne:((n:Int)==0)=false:=by simp;omega
 obtain ⟨K,hK⟩:∃K:Nat,(t.m % 4).toNat=K:=⟨_,rfl⟩
 have hK2:Int.tmod t.m 4=(K:Int):=by rw [Int.tmod_eq_emod_of_nonneg b2];omega
 have hk2:Int.tmod t.k 6=4:=by rw [Int.tmod_eq_emod_of_nonneg hbd.k0];exact hk
 have HQR:=qh (QR.start2 w t ⟨4,0, .empty,none,0,0,none,0,0⟩ 29 59 29)
 have hR:leafP t= .mk 4 0 .empty [] [] :=by rw [leafP];simp [hk]
 rw [hR]
 clear h ht htk hp hbd hK hk hR
 go_enter Tryz.func31,Tryz.ntmps31
 generalize hQ0:bodyPost _ _ _=Q0
 have HQ:=qh hQ0
 clear hQ0
 go_wp2_with fail
 go_loopw [7,9,10,11] (fun u i _ _ wr=>u= .int .i64 1/\i= .int .u8 0/\QR w wr t ⟨4,0, .empty,none,0,0,none,0,0⟩) (fun _ _ _ _ _=>0)
 case atStart=>exact ⟨rfl,rfl,(HQR.out _ rfl).1⟩
 case round=>
  obtain ⟨rfl,rfl,L⟩:=hrel
  have k0:=L.tok.at_ 0 _ rfl;have k3:=L.tok.at_ 3 _ rfl
  obtain ⟨v0,v1,v2,v3,v4⟩:=row5 L.val.at_
  obtain ⟨r0,r1,r2,r3,r4⟩:=row5 L.res.at_
  have g0:=L.res.fr 0;have g1:=L.res.fr 1;have g2:=L.res.fr 2;have g3:=L.res.fr 3;have g4:=L.res.fr 4
  have zs2:=L.val.lt;have zs1:=L.tok.lt;have zs0:=L.res.lt
  have LB:=qh L
  clear L
  by_cases hK0:0<K
  all_goals
   go_wp2_with fail
   have ST:=LB.out.stored ⟨4,0, .empty,none,0,0,none,0,0⟩
   rw [<-HQ.out]
   exact Y3 (c:=⟨4,0, .empty,none,0,0,none,0,0⟩) ST.1 ST.2.1 (Qc _ _ 4 0 .empty (by omega) (by omega) (by omega) (by omega) (by decide)) rfl rfl rfl
set_option maxRecDepth 100000 in
theorem zg0 (w:World) (t:Tk) (r:List Tk) (a:Option Addr) (n c:Nat) (h:IsToks w w.heap.size (t::r) a n c) (hk:t.k % 6=5):
 uP 31 #[.slice a n c, .int .i64 6] w (RawPost w (leafP t,1)):=by
 delta uP
 obtain ⟨b,o,hp,rfl,hb,htk,hbd⟩:=h.get (k:=0) (by have:=h.len;rw [this];simp)
 have ht:TkAt w b o t:=by simpa using htk
 replace hbd:t.Bnd:=by simpa using hbd
 have c0:=ht.c0;have c1:=ht.c1;have c2:=ht.c2;have c3:=ht.c3
 have b2:=hbd.m0;have b3:=hbd.m1
 have hnp:0<n:=by rw [h.len];simp
 have hne:((n:Int)==0)=false:=by simp;omega
 obtain ⟨K,hK⟩:∃K:Nat,(t.m % 4).toNat=K:=⟨_,rfl⟩
 have hK2:Int.tmod t.m 4=(K:Int):=by rw [Int.tmod_eq_emod_of_nonneg b2];omega
 have hk2:Int.tmod t.k 6=5:=by rw [Int.tmod_eq_emod_of_nonneg hbd.k0];exact hk
 have HQR:=qh (QR.start2 w t ⟨5,0, .empty,none,0,0,none,0,0⟩ 29 59 29)
 have hR:leafP t= .mk 5 0 .empty [] [] :=by rw [leafP];simp [hk]
 rw [hR]
 clear h ht htk hp hbd hK hk hR
 go_enter Tryz.func31,Tryz.ntmps31
 generalize hQ0:bodyPost _ _ _=Q0
 have HQ:=qh hQ0
 clear hQ0
 go_wp2_with fail
 go_loopw [7,13,14,15,16] (fun u i _ _ _ wr=>u= .int .i64 1/\i= .int .u8 0/\QR w wr t ⟨5,0, .empty,none,0,0,none,0,0⟩) (fun _ _ _ _ _ _=>0)
 case atStart=>exact ⟨rfl,rfl,(HQR.out _ rfl).1⟩
 case round=>
  obtain ⟨rfl,rfl,L⟩:=hrel
  have k0:=L.tok.at_ 0 _ rfl;have k3:=L.tok.at_ 3 _ rfl
  obtain ⟨v0,v1,v2,v3,v4⟩:=row5 L.val.at_
  obtain ⟨r0,r1,r2,r3,r4⟩:=row5 L.res.at_
  have g0:=L.res.fr 0;have g1:=L.res.fr 1;have g2:=L.res.fr 2;have g3:=L.res.fr 3;have g4:=L.res.fr 4
  have zs2:=L.val.lt;have zs1:=L.tok.lt;have zs0:=L.res.lt
  have LB:=qh L
  clear L
  by_cases hK0:0<K
  all_goals
   go_wp2_with fail
   have ST:=LB.out.stored ⟨5,0, .empty,none,0,0,none,0,0⟩
   rw [<-HQ.out]
   exact Y3 (c:=⟨5,0, .empty,none,0,0,none,0,0⟩) ST.1 ST.2.1 (Qc _ _ 5 0 .empty (by omega) (by omega) (by omega) (by omega) (by decide)) rfl rfl rfl
theorem zd7 (k:Int):k % 6=0∨k % 6=1∨k % 6=2∨k % 6=3∨k % 6=4∨k % 6=5:=by omega
theorem zbk (w:World) (dd:Int) (t:Tk) (r:List Tk) (a:Option Addr) (n c:Nat) (h:IsToks w w.heap.size (t::r) a n c) (h4:¬t.k % 6=4) (h5:¬t.k % 6=5):
 uP 31 #[.slice a n c, .int .i64 dd] w (RawPost w (leafP t,1)):=by
 delta uP
 rcases zd7 t.k with hk|hk|hk|hk|hk|hk
 .exact zfq w dd t r a n c h hk
 .exact zik w dd t r a n c h hk
 .exact zj8 w dd t r a n c h hk
 .exact zex w dd t r a n c h hk
 .exact absurd hk h4
 .exact absurd hk h5
theorem zdo (d:Nat):∀(dd:Int),0<=dd->dd+d=6->∀(w:World) (l:List Tk) (a:Option Addr) (n c:Nat),IsToks w w.heap.size l a n c->
 uP 31 #[.slice a n c, .int .i64 dd] w (RawPost w (oneP d l)):=by
 delta uP
 induction d with
 | zero=>
   intro dd _ hd w l a n c h
   cases l with
   |nil=>obtain rfl:n=0:=h.len;exact zbo w dd a c
   | cons t r=>
     obtain rfl:dd=6:=by omega
     by_cases h4:t.k % 6=4
     .exact ze3 w t r a n c h h4
     .by_cases h5:t.k % 6=5
      .exact zg0 w t r a n c h h5
      .exact zbk w 6 t r a n c h h4 h5
 | succ d ih=>
   intro dd hd0 hd w l a n c h
   cases l with
   |nil=>obtain rfl:n=0:=h.len;exact zbo w dd a c
   | cons t r=>
     have IH:=fun W l a n c h=>ih (dd+1) (by omega) (by omega) W l a n c h
     by_cases h4:t.k % 6=4
     .exact zm4 w dd hd0 (by omega) d t r a n c h IH h4
     .by_cases h5:t.k % 6=5
      .exact zhi w dd hd0 (by omega) d t r a n c h IH h5
      .rw [oneP,if_neg h4,if_neg h5];exact zbk w dd t r a n c h h4 h5
theorem zj4 {tmps:Array Value} {W:World} {b:Nat} {c:VC} (ht:tmps[2]? =some (.pointer (some ⟨b,0,none⟩))) (h:BC W b (vcells c)):
 (results Tryz.f12 tmps).run Tryz.prog W= .ok (.agg #[.int .u8 c.k, .int .i64 c.n, .string c.s, .slice c.la c.ll c.lc, .slice c.oa c.ol c.oc]) W:=by
 obtain ⟨r0,r1,r2,r3,r4⟩:=(⟨h.at_ 0 _ rfl,h.at_ 1 _ rfl,h.at_ 2 _ rfl,h.at_ 3 _ rfl,h.at_ 4 _ rfl⟩:W.cell? ⟨b,0,none⟩=some (.int .u8 c.k)/\W.cell? ⟨b,1,none⟩=some (.int .i64 c.n)/\W.cell? ⟨b,2,none⟩=some (.string c.s)/\W.cell? ⟨b,3,none⟩=some (.slice c.la c.ll c.lc)/\W.cell? ⟨b,4,none⟩=some (.slice c.oa c.ol c.oc))
 simp [results,Tryz.results12,go_sem,ht,r0,r1,r2,r3,r4]
set_option maxRecDepth 100000 in
theorem Ys (w:World) (l:List Tk) (a:Option Addr) (n c:Nat) (h:IsToks w w.heap.size l a n c):
 uP 12 #[.slice a n c] w fun e w'=>(∃cv:VC,e= .returned (.agg #[.int .u8 cv.k, .int .i64 cv.n, .string cv.s, .slice cv.la cv.ll cv.lc, .slice cv.oa cv.ol cv.oc])/\IsVal (only (fun b=>w.heap.size<=b) w') w'.heap.size (oneP 6 (l.take 60)).1 cv)/\uB w w':=by
 delta uB uP
 have hlen:=h.len
 have hcap:=h.cap
 have hmax:=h.max
 have HD:=qh (BC.start w (uU 0 0 { data:= #[] } none 0 0 none 0 0) 29)
 have hal:uB w (w.alloc (.cells (uU 0 0 { data:= #[] } none 0 0 none 0 0) 29)):=(Below.refl _ _).alloc (Nat.le_refl _) _
 have HAL:=qh hal
 obtain ⟨N,hN⟩:∃N,min n 60=N:=⟨_,rfl⟩
 have hN2:N<=n:=by omega
 have htk:l.take N=l.take 60:=by
  by_cases hq:n<=60
  .rw [List.take_of_length_le (by omega),List.take_of_length_le (by omega)]
  .rw [show N=60 by omega]
 have HI:=qh ((h.later_ hal).take N hN2)
 rw [htk] at HI
 obtain ⟨p,hp⟩:∃p,oneP 6 (l.take 60)=p:=⟨_,rfl⟩
 have HP:=qh hp
 rw [hp]
 have hcs:(n<=60/\N=n)∨(60<n/\N=60):=by omega
 have hm:min (n:Int) 60=(N:Int):=by omega
 clear hN hN2
 rcases hcs with ⟨hq,rfl⟩|⟨hq,rfl⟩
 all_goals
  clear h hlen hal htk hp
  go_enter Tryz.func12,Tryz.ntmps12
  generalize hQ0:bodyPost _ _ _=Q0
  have HQ:=qh hQ0
  clear hQ0
  go_wp2_with fail
  refine (zdo 6 0 (by omega) (by omega) _ _ _ _ _ HI.out).mono ?_
  rw [HP.out]
  rintro e w3 ⟨⟨cv,rfl,hI3⟩,hb3⟩
  have D:=HD.out.keep hb3 (by simp)
  obtain ⟨r0,r1,r2,r3,r4⟩:=row5 D.at_
  have g0:=D.fr 0;have g1:=D.fr 1;have g2:=D.fr 2;have g3:=D.fr 3;have g4:=D.fr 4
  have zs3:w.heap.size<w3.heap.size:=D.lt
  have HD3:=qh D
  have HI3:=qh hI3
  have HB3:=qh (HAL.out.trans (hb3.mono (by simp)))
  clear D hI3 hb3
  go_wp2_with fail
  rw [<-HQ.out]
  have s1:RStep w3 (((((w3.setCell ⟨w.heap.size,0,none⟩ (.int .u8 cv.k)).setCell ⟨w.heap.size,1,none⟩ (.int .i64 cv.n)).setCell ⟨w.heap.size,2,none⟩ (.string cv.s)).setCell ⟨w.heap.size,3,none⟩ (.slice cv.la cv.ll cv.lc)).setCell ⟨w.heap.size,4,none⟩ (.slice cv.oa cv.ol cv.oc)) w.heap.size:=(((RStep.self.trans RStep.self).trans RStep.self).trans RStep.self).trans RStep.self
  have hbc:BC (((((w3.setCell ⟨w.heap.size,0,none⟩ (.int .u8 cv.k)).setCell ⟨w.heap.size,1,none⟩ (.int .i64 cv.n)).setCell ⟨w.heap.size,2,none⟩ (.string cv.s)).setCell ⟨w.heap.size,3,none⟩ (.slice cv.la cv.ll cv.lc)).setCell ⟨w.heap.size,4,none⟩ (.slice cv.oa cv.ol cv.oc)) w.heap.size (vcells cv):=((((HD3.out.set (i:=0) (x:= .int .u8 cv.k) (by simp)).set (i:=1) (x:= .int .i64 cv.n) (by simp)).set (i:=2) (x:= .string cv.s) (by simp)).set (i:=3) (x:= .slice cv.la cv.ll cv.lc) (by simp)).set (i:=4) (x:= .slice cv.oa cv.ol cv.oc) (by simp)
  have hv:=fun ob=>(Zm (Zm HI3.out s1 (by simp)) (RStep.of_below w.heap.size ((Below.refl _ _).alloc (Nat.le_refl _) ob)) (by simp)).sub (Ze (S':=fun b=>w.heap.size<=b) fun k hk _=>⟨by simp at hk;omega,rfl⟩)
  have hB:=HB3.out.trans (s1.below (by omega))
  exact ⟨rfl,_,zj4 rfl (hbc.keep ((Below.refl _ _).alloc (Nat.le_refl _) _) hbc.lt),⟨cv,rfl,hv _⟩,hB.alloc hB.size _⟩
set_option maxRecDepth 100000 in
theorem zmr (w:World) (a:Option Addr) (n c:Nat) (cs:List Value) (h0:a=none->n=0) (hp:∀ad,a=some ad->∀j u,cs[j]? =some u->w.cell? (ad.add j)=some u) (hl:cs.length=n*5) (h1:∀u ∈ cs,u.oneCell'=true) (hbig:n*80<=140737488355328):
 uP 87 #[.slice a n c] w fun e w'=>(∃v',e= .returned v'/\w'.ownsRow w.heap.size 29 5 v' n cs)/\uB w w':=by
 delta uB uP
 obtain ⟨i0,hi0,hz0,hz1,hz2⟩:=info_parts Z9
 have hq:∀(w:World) (a:Option Addr) (n c n' c':Nat),(binOp .eql 26 (.slice a n c) (.slice none n' c')).run Tryz.prog w= .ok (.bool a.isNone) w:=fun w a n c n' c'=>Lib.run_eql_slice_nil w _ _ a n c n' c' Tryz.underlying26
 cases a with
 | none=>
   obtain rfl:=h0 rfl
   obtain rfl:cs= [] :=List.length_eq_zero_iff.1 (by omega)
   clear hp hl h1 hbig h0
   go_enter Tryz.func87,Tryz.ntmps87
   go_wp2_with fail
   go_ret
   exact ⟨⟨_,rfl,⟨rfl, .inl ⟨rfl,rfl⟩⟩⟩,Below.refl _ _⟩
 | some ad=>
   have HP:=qh hp
   have HL:=qh hl
   have H1:=qh h1
   clear hp hl h1 h0
   go_enter Tryz.func87,Tryz.ntmps87
   go_wp2_with (at_builtin;refine Zz _ rfl (.tmp 5) (.tmp 6) 26 (by rfl) w.heap.size 29 i0 _ 5 80 Tryz.underlying26 hi0 hz0 hz1 hz2 rfl (by omega) _ 0 [] (by rfl) (World.ownsRow_made w #[] 0 (Nat.le_refl _) (Nat.zero_le _) rfl) (some ad) n c cs (by rfl) ⟨(fun h=>by cases h),fun ad h j u hj=>Lib.cell?_alloc_some _ (HP.out ad h j u hj)⟩ HL.out H1.out (by unfold maxLen;omega) (by omega) (by simp) ?_;intro v' w1 hown hgrow)
   go_ret
   exact ⟨⟨v',rfl,by simpa using hown⟩,((Below.refl _ w).alloc (Nat.le_refl _) _).grown hgrow (by simp) (by intro k hk;simp [Value.ownBlock] at hk;omega)⟩
set_option maxRecDepth 100000 in
theorem zi9 (w:World) (a:Option Addr) (n c:Nat) (cs:List Value) (h0:a=none->n=0) (hp:∀ad,a=some ad->∀j u,cs[j]? =some u->w.cell? (ad.add j)=some u) (hl:cs.length=n*6) (h1:∀u ∈ cs,u.oneCell'=true) (hbig:n*96<=140737488355328):
 uP 88 #[.slice a n c] w fun e w'=>(∃v',e= .returned v'/\w'.ownsRow w.heap.size 62 6 v' n cs)/\uB w w':=by
 delta uB uP
 obtain ⟨i0,hi0,hz0,hz1,hz2⟩:=info_parts Ya
 have hq:∀(w:World) (a:Option Addr) (n c n' c':Nat),(binOp .eql 27 (.slice a n c) (.slice none n' c')).run Tryz.prog w= .ok (.bool a.isNone) w:=fun w a n c n' c'=>Lib.run_eql_slice_nil w _ _ a n c n' c' Tryz.underlying27
 cases a with
 | none=>
   obtain rfl:=h0 rfl
   obtain rfl:cs= [] :=List.length_eq_zero_iff.1 (by omega)
   clear hp hl h1 hbig h0
   go_enter Tryz.func88,Tryz.ntmps88
   go_wp2_with fail
   go_ret
   exact ⟨⟨_,rfl,⟨rfl, .inl ⟨rfl,rfl⟩⟩⟩,Below.refl _ _⟩
 | some ad=>
   have HP:=qh hp
   have HL:=qh hl
   have H1:=qh h1
   clear hp hl h1 h0
   go_enter Tryz.func88,Tryz.ntmps88
   go_wp2_with (at_builtin;refine Zz _ rfl (.tmp 5) (.tmp 6) 27 (by rfl) w.heap.size 62 i0 _ 6 96 Tryz.underlying27 hi0 hz0 hz1 hz2 rfl (by omega) _ 0 [] (by rfl) (World.ownsRow_made w #[] 0 (Nat.le_refl _) (Nat.zero_le _) rfl) (some ad) n c cs (by rfl) ⟨(fun h=>by cases h),fun ad h j u hj=>Lib.cell?_alloc_some _ (HP.out ad h j u hj)⟩ HL.out H1.out (by unfold maxLen;omega) (by omega) (by simp) ?_;intro v' w1 hown hgrow)
   go_ret
   exact ⟨⟨v',rfl,by simpa using hown⟩,((Below.refl _ w).alloc (Nat.le_refl _) _).grown hgrow (by simp) (by intro k hk;simp [Value.ownBlock] at hk;omega)⟩
theorem zdh {e:Ending} {w w':World} {base:Nat} {T:TypeId} {sz n:Nat} {cs:List Value} (h:(∃v',e= .returned v'/\w'.ownsRow base T sz v' n cs)/\Below base w w'):(∃a' m' c',e= .returned (.slice a' m' c')/\w'.ownsRow base T sz (.slice a' m' c') n cs)/\Below base w w':=by
 obtain ⟨⟨v',rfl,ho⟩,hb⟩:=h
 rcases ho.2 with ⟨rfl,_⟩|⟨g,cap,cur,rfl,_⟩
 .exact ⟨⟨_,_,_,rfl,ho⟩,hb⟩
 .exact ⟨⟨_,_,_,rfl,ho⟩,hb⟩
theorem IsVals.clone {w:World} {l:List V} {a:Option Addr} {n c:Nat} (h:IsVals w w.heap.size l a n c):
 ∃ cl:List VC,cl.length=l.length/\(∀i (h:i<l.length) (h':i<cl.length),IsVal w w.heap.size l[i] cl[i])/\
   ∀W,uB w W->uP 87 #[.slice a n c] W fun e w'=>(∃a' m' c',e= .returned (.slice a' m' c')/\w'.ownsRow W.heap.size 29 5 (.slice a' m' c') n (cl.flatMap vcells))/\uB W w':=by
 delta uB uP
 obtain ⟨cl,h1,h2,h3⟩:=h.cells
 have hlen:=h.len;have hfew:=h.few
 have hfl:(cl.flatMap vcells).length=n*5:=by rw [Zk vcells 5 (fun _=>rfl),h1,hlen]
 refine ⟨cl,h1,fun i hi hi'=>by have:=h3 i hi hi;rw [List.getD_eq_getElem?_getD,List.getElem?_eq_getElem hi'] at this;exact this,fun W hW=>(zmr W a n c _ (fun e=> ?_) (fun ad e j u hj=> ?_) hfl (fun u hu=> ?_) (by omega)).mono fun e w' hq=>zdh hq⟩
 .by_cases h0:0<n
  .obtain ⟨b,o,f,hp,ha,_⟩:=h.get h0
   rw [e] at ha;cases ha
  .omega
 .have hj2:=(List.getElem?_eq_some_iff.1 hj).1
  obtain ⟨b,o,f,hp,ha,_⟩:=h.get (k:=0) (by omega)
  obtain ⟨h4,h5⟩:=h2 b o ha (by omega)
  rw [ha] at e;injection e with e;subst e
  rw [Addr.add_lit];exact Zb hW (h5 j u hj) h4
 .obtain ⟨v,_,hv⟩:=List.mem_flatMap.1 hu
  simp only [vcells,List.mem_cons,List.mem_nil_iff,or_false] at hv
  rcases hv with rfl|rfl|rfl|rfl|rfl<;>rfl
theorem IsFields.clone {w:World} {o:List (ByteArray×V)} {a:Option Addr} {n c:Nat} (h:IsFields w w.heap.size o a n c):
 ∃ co:List (ByteArray×VC),co.length=o.length/\(∀i (h:i<o.length) (h':i<co.length),(co[i].1=o[i].1/\o[i].1.size<=140737488355328)/\IsVal w w.heap.size o[i].2 co[i].2)/\
   ∀W,uB w W->uP 88 #[.slice a n c] W fun e w'=>(∃a' m' c',e= .returned (.slice a' m' c')/\w'.ownsRow W.heap.size 62 6 (.slice a' m' c') n (co.flatMap fcells))/\uB W w':=by
 delta uB uP
 obtain ⟨co,b,off,h1,h2,h5,h3⟩:=h.cells
 have hlen:=h.len;have hfew:=h.few
 have hfl:(co.flatMap fcells).length=n*6:=by rw [Zk fcells 6 (fun _=>rfl),h1,hlen]
 refine ⟨co,h1,fun i hi hi'=>by have:=h3 i hi hi;rw [List.getD_eq_getElem?_getD,List.getElem?_eq_getElem hi'] at this;exact ⟨⟨this.1,this.2.1⟩,this.2.2⟩,fun W hW=>(zi9 W a n c _ (fun e=> ?_) (fun ad e j u hj=> ?_) hfl (fun u hu=> ?_) (by omega)).mono fun e w' hq=>zdh hq⟩
 .by_cases h0:0<n
  .obtain ⟨ha,_⟩:=h2 h0
   rw [e] at ha;cases ha
  .omega
 .have hj2:=(List.getElem?_eq_some_iff.1 hj).1
  obtain ⟨ha,hb⟩:=h2 (by omega)
  rw [ha] at e;injection e with e;subst e
  rw [Addr.add_lit];exact Zb hW (h5 j u hj) hb
 .obtain ⟨v,_,hv⟩:=List.mem_flatMap.1 hu
  simp only [fcells,List.mem_cons,List.mem_nil_iff,or_false] at hv
  rcases hv with rfl|rfl|rfl|rfl|rfl|rfl<;>rfl
structure Cl2 (w W:World) (k n:Int) (s:ByteArray) (u uo:Value) (cl:List VC) (co:List (ByteArray×VC)) (ll ol:Nat):Prop where
 box:BC W w.heap.size [.int .u8 k, .int .i64 n, .string s,u,uo]
 res:BC W (w.heap.size+1) (vcells vzero)
 rowL:W.ownsRow (w.heap.size+2) 29 5 u ll (cl.flatMap vcells)
 rowO:W.ownsRow (w.heap.size+2) 62 6 uo ol (co.flatMap fcells)
 apart:∀g,u.ownBlock=some g->uo.ownBlock≠some g
 below:Below w.heap.size w W
theorem Cl2.make {w wb W:World} {k n:Int} {s:ByteArray} {u uo z3 z4:Value} {cl:List VC} {co:List (ByteArray×VC)} {ll ol:Nat} (hx:BC wb w.heap.size [.int .u8 k, .int .i64 n, .string s,z3,z4]) (hr:BC wb (w.heap.size+1) (vcells vzero)) (hb0:uB w wb) (hsz:wb.heap.size=w.heap.size+2) (hb:uB wb W)
 (rL:W.ownsRow wb.heap.size 29 5 u ll (cl.flatMap vcells)) (rO:W.ownsRow wb.heap.size 62 6 uo ol (co.flatMap fcells)) (ap:∀g,u.ownBlock=some g->uo.ownBlock≠some g):Cl2 w ((W.setCell ⟨w.heap.size,3,none⟩ u).setCell ⟨w.heap.size,4,none⟩ uo) k n s u uo cl co ll ol:=by
 have st:RStep W ((W.setCell ⟨w.heap.size,3,none⟩ u).setCell ⟨w.heap.size,4,none⟩ uo) w.heap.size:=RStep.self.trans RStep.self
 have x1:=hx.keep hb hx.lt
 have r1:=hr.keep hb hr.lt
 have x2:=(x1.set (i:=3) (x:=u) (by simp)).set (i:=4) (x:=uo) (by simp)
 refine ⟨x2,r1.next st (by omega), ?_, ?_,ap,(hb0.trans (hb.mono hb0.size)).set_ (Nat.le_refl _)|>.set_ (Nat.le_refl _)⟩
 .rw [hsz] at rL
  refine rL.kept st.grown (.inr fun e=> ?_)
  have:=(rL.lt _ e).1;omega
 .rw [hsz] at rO
  refine rO.kept st.grown (.inr fun e=> ?_)
  have:=(rO.lt _ e).1;omega
theorem Cl2.makeL {w wb w4 w5:World} {k n:Int} {s:ByteArray} {u uo z3 z4:Value} {cl:List VC} {co:List (ByteArray×VC)} {ll ol:Nat} (hx:BC wb w.heap.size [.int .u8 k, .int .i64 n, .string s,z3,z4]) (hr:BC wb (w.heap.size+1) (vcells vzero)) (hb0:uB w wb) (hsz:wb.heap.size=w.heap.size+2)
 (hb4:Below wb.drew.heap.size wb.drew w4) (rl:w4.ownsRow wb.drew.heap.size 29 5 u ll (cl.flatMap vcells)) (hb5:uB w4 w5) (ro:w5.ownsRow w4.heap.size 62 6 uo ol (co.flatMap fcells)):Cl2 w ((w5.setCell ⟨w.heap.size,3,none⟩ u).setCell ⟨w.heap.size,4,none⟩ uo) k n s u uo cl co ll ol:=by
 have b4:uB wb w4:=(Zf wb).trans hb4
 have rl5:=rl.kept (row:=none) ⟨hb5.os,hb5.tape,hb5.output,hb5.size,fun k hk _=>hb5.block k hk⟩ (by cases hv:u.ownBlock<;>simp)
 exact Cl2.make hx hr hb0 hsz (b4.trans (hb5.mono b4.size)) rl5 (ro.mono b4.size) fun g h1 h2=>by
  have h3:=(rl.lt g h1).2;have h4:=(ro.lt g h2).1;omega
theorem Cl2.makeO {w wb w4 w5:World} {k n:Int} {s:ByteArray} {u uo z3 z4:Value} {cl:List VC} {co:List (ByteArray×VC)} {ll ol:Nat} (hx:BC wb w.heap.size [.int .u8 k, .int .i64 n, .string s,z3,z4]) (hr:BC wb (w.heap.size+1) (vcells vzero)) (hb0:uB w wb) (hsz:wb.heap.size=w.heap.size+2)
 (hb4:Below wb.drew.heap.size wb.drew w4) (ro:w4.ownsRow wb.drew.heap.size 62 6 uo ol (co.flatMap fcells)) (hb5:uB w4 w5) (rl:w5.ownsRow w4.heap.size 29 5 u ll (cl.flatMap vcells)):Cl2 w ((w5.setCell ⟨w.heap.size,3,none⟩ u).setCell ⟨w.heap.size,4,none⟩ uo) k n s u uo cl co ll ol:=by
 have b4:uB wb w4:=(Zf wb).trans hb4
 have ro5:=ro.kept (row:=none) ⟨hb5.os,hb5.tape,hb5.output,hb5.size,fun k hk _=>hb5.block k hk⟩ (by cases hv:uo.ownBlock<;>simp)
 exact Cl2.make hx hr hb0 hsz (b4.trans (hb5.mono b4.size)) (rl.mono b4.size) ro5 fun g h1 h2=>by
  have h3:=(rl.lt g h1).1;have h4:=(ro.lt g h2).2;omega
theorem Cl2.half {w W:World} {k n:Int} {s:ByteArray} {u uo:Value} {cl:List VC} {co:List (ByteArray×VC)} {l:List V} {o:List (ByteArray×V)} (h:Cl2 w W k n s u uo cl co l.length o.length) (h1:cl.length=l.length) (h2:∀i (h:i<l.length) (h':i<cl.length),IsVal w w.heap.size l[i] cl[i]) (h3:co.length=o.length) (h4:∀i (h:i<o.length) (h':i<co.length),(co[i].1=o[i].1/\o[i].1.size<=140737488355328)/\IsVal w w.heap.size o[i].2 co[i].2):
 Half w W (w.heap.size+2) l o u uo cl co 0 (fun _=>W.heap.size):=
 ⟨h1,h3,fun i hi hi'=>(h4 i hi hi').1,h.rowL,h.rowO,h.apart,fun g hg=>(h.rowL.lt g hg).2,fun g hg=>(h.rowO.lt g hg).2,Nat.succ_le_of_lt h.res.lt,rfl,Nat.zero_le _,fun _ _ _ _=>Nat.le_refl _,fun i hi hi' hij=>absurd hij (by omega),fun i hi hi' hij=>absurd hij (by omega),fun i hi hi' _=>h2 i hi hi',fun i hi hi' _=>(h4 i hi hi').2⟩
structure KC (w wr:World) (k n:Int) (s:ByteArray) (l:List V) (o:List (ByteArray×V)) (u uo:Value) (cl:List VC) (co:List (ByteArray×VC)) (j:Nat) (S:Nat->Nat):Prop where
 half:Half w wr (w.heap.size+2) l o u uo cl co j S
 box:BC wr w.heap.size [.int .u8 k, .int .i64 n, .string s,u,uo]
 res:BC wr (w.heap.size+1) (vcells vzero)
 below:Below w.heap.size w wr
theorem Cl2.kc {w W:World} {k n:Int} {s:ByteArray} {u uo:Value} {cl:List VC} {co:List (ByteArray×VC)} {l:List V} {o:List (ByteArray×V)} {ll ol:Nat} (h:Cl2 w W k n s u uo cl co ll ol) (e1:ll=l.length) (e2:ol=o.length) (h1:cl.length=l.length) (h2:∀i (h:i<l.length) (h':i<cl.length),IsVal w w.heap.size l[i] cl[i]) (h3:co.length=o.length) (h4:∀i (h:i<o.length) (h':i<co.length),(co[i].1=o[i].1/\o[i].1.size<=140737488355328)/\IsVal w w.heap.size o[i].2 co[i].2):
 KC w W k n s l o u uo cl co 0 (fun _=>W.heap.size):=by
 subst e1 e2
 exact ⟨h.half h1 h2 h3 h4,h.box,h.res,h.below⟩
structure RowAt (W:World) (g j:Nat) (f:VC) (um uc:Nat):Prop where
 at_:ValAt W g j f
 fr:∀q,W.frozen? ⟨g,q,none⟩=false
 lt:g<W.heap.size
theorem KC.rowL {w wr:World} {k n:Int} {s:ByteArray} {l:List V} {o:List (ByteArray×V)} {uo:Value} {ua:Option Addr} {um uc:Nat} {cl:List VC} {co:List (ByteArray×VC)} {j:Nat} {S:Nat->Nat} (h:KC w wr k n s l o (.slice ua um uc) uo cl co j S) {i:Nat} (hi:i<um):
 um=l.length/\um<=uc/\uc<=9223372036854775807/\∃g f,∃hl:i<l.length,∃hc:i<cl.length,ua=some ⟨g,0,none⟩/\cl[i] =f/\w.heap.size+2<=g/\RowAt wr g (i*5) f um uc:=by
 have h1:=h.half.rowL
 have hcl:=h.half.lenL
 rcases h1.2 with ⟨e,e2⟩|⟨g,cap,cur,e,hb,hg,hc1,hc2,_⟩
 .injection e with e3 e4 e5;omega
 .injection e with e3 e4 e5
  subst e3 e4 e5
  refine ⟨rfl,hc1,by unfold maxLen at hc2;omega,g,cl[i]'(by omega),hi,by omega,rfl,rfl,hb, ?_,fun q=>h1.frozenAt q,(h1.lt g rfl).2⟩
  have hbc:∀j v,(cl.flatMap vcells)[j]? =some v->wr.cell? ⟨g,j,none⟩=some v:=fun j v hj=>by
   have hlen:(cl.flatMap vcells).length=l.length*5:=h1.1
   rw [h1.cellAt j (by have:=(List.getElem?_eq_some_iff.1 hj).1;omega)];exact hj
  exact Yp ⟨hbc,fun j=>h1.frozenAt j,(h1.lt g rfl).2⟩ (by omega)
theorem RowAt.later {W W':World} {g j:Nat} {f:VC} {um uc:Nat} (h:RowAt W g j f um uc) (hb:uB W W'):RowAt W' g j f um uc:=
 ⟨⟨Zb hb h.at_.c0 h.lt,Zb hb h.at_.c1 h.lt,Zb hb h.at_.c2 h.lt,Zb hb h.at_.c3 h.lt,Zb hb h.at_.c4 h.lt⟩,fun q=>by
   have h1:=h.fr q
   have h2:=hb.block g h.lt
   simp only [World.frozen?] at h1 ⊢
   rw [h2];exact h1,Nat.lt_of_lt_of_le h.lt hb.size⟩
theorem KC.stepL {w wr w4:World} {k n:Int} {s:ByteArray} {l:List V} {o:List (ByteArray×V)} {uo:Value} {g um uc:Nat} {cl:List VC} {co:List (ByteArray×VC)} {j:Nat} {S:Nat->Nat} (h:KC w wr k n s l o (.slice (some ⟨g,0,none⟩) um uc) uo cl co j S) (hj:j<l.length) (hg:w.heap.size+2<=g) {cx:VC}
 (hb:Below wr.drew.heap.size wr.drew w4) (hs:SepI w4 wr.drew.heap.size w4.heap.size l[j] cx):KC w (setV w4 g (j*5) cx) k n s l o (.slice (some ⟨g,0,none⟩) um uc) uo (cl.set j cx) co (j+1) (more S j w4.heap.size):=by
 have hb4:uB wr w4:=(Zf wr).trans hb
 have st:=Zi w4 g (j*5) cx
 exact ⟨h.half.stepL hj rfl hb4 hs,(h.box.keep hb4 h.box.lt).next st (by omega),(h.res.keep hb4 h.res.lt).next st (by omega),(h.below.trans (hb4.mono h.below.size)).trans (st.lowC (by omega) (by have:=h.below.size;have:=hb4.size;omega))⟩
theorem KC.rowO {w wr:World} {k n:Int} {s:ByteArray} {l:List V} {o:List (ByteArray×V)} {u:Value} {va:Option Addr} {vm vc:Nat} {cl:List VC} {co:List (ByteArray×VC)} {j:Nat} {S:Nat->Nat} (h:KC w wr k n s l o u (.slice va vm vc) cl co j S) {i:Nat} (hi:i<vm):
 vm=o.length/\vm<=vc/\vc<=9223372036854775807/\∃g f,∃hl:i<o.length,∃hc:i<co.length,va=some ⟨g,0,none⟩/\co[i].2=f/\w.heap.size+2<=g/\RowAt wr g (i*6+1) f vm vc/\wr.cell? ⟨g,i*6,none⟩=some (.string o[i].1):=by
 have h1:=h.half.rowO
 have hco:=h.half.lenO
 rcases h1.2 with ⟨e,e2⟩|⟨g,cap,cur,e,hb,hg,hc1,hc2,_⟩
 .injection e with e3 e4 e5;omega
 .injection e with e3 e4 e5
  subst e3 e4 e5
  have hbc:∀j v,(co.flatMap fcells)[j]? =some v->wr.cell? ⟨g,j,none⟩=some v:=fun j v hj=>by
   have hlen:(co.flatMap fcells).length=o.length*6:=h1.1
   rw [h1.cellAt j (by have:=(List.getElem?_eq_some_iff.1 hj).1;omega)];exact hj
  obtain ⟨g1,g2⟩:=Z3 (W:=wr) (g:=g) ⟨hbc,fun j=>h1.frozenAt j,(h1.lt g rfl).2⟩ (i:=i) (by omega)
  obtain ⟨k1,k2⟩:=h.half.keys i hi (by omega)
  exact ⟨rfl,hc1,by unfold maxLen at hc2;omega,g,(co[i]'(by omega)).2,hi,by omega,rfl,rfl,hb,⟨g2,fun q=>h1.frozenAt q,(h1.lt g rfl).2⟩,by rw [<-k1];exact g1⟩
theorem KC.stepO {w wr w4:World} {k n:Int} {s:ByteArray} {l:List V} {o:List (ByteArray×V)} {u:Value} {g um uc:Nat} {cl:List VC} {co:List (ByteArray×VC)} {j:Nat} {S:Nat->Nat} (h:KC w wr k n s l o u (.slice (some ⟨g,0,none⟩) um uc) cl co (l.length+j) S) (hj:j<o.length) (hjc:j<co.length) (hg:w.heap.size+2<=g) {cx:VC}
 (hb:Below wr.drew.heap.size wr.drew w4) (hs:SepI w4 wr.drew.heap.size w4.heap.size o[j].2 cx):KC w (setV w4 g (j*6+1) cx) k n s l o u (.slice (some ⟨g,0,none⟩) um uc) cl (co.set j (co[j].1,cx)) (l.length+(j+1)) (more S (l.length+j) w4.heap.size):=by
 have hb4:uB wr w4:=(Zf wr).trans hb
 have st:=Zi w4 g (j*6+1) cx
 exact ⟨h.half.stepO hj rfl hjc hb4 hs,(h.box.keep hb4 h.box.lt).next st (by omega),(h.res.keep hb4 h.res.lt).next st (by omega),(h.below.trans (hb4.mono h.below.size)).trans (st.lowC (by omega) (by have:=h.below.size;have:=hb4.size;omega))⟩
theorem KC.lens {w wr:World} {k n:Int} {s:ByteArray} {l:List V} {o:List (ByteArray×V)} {ua va:Option Addr} {um uc vm vc:Nat} {cl:List VC} {co:List (ByteArray×VC)} {j:Nat} {S:Nat->Nat} (h:KC w wr k n s l o (.slice ua um uc) (.slice va vm vc) cl co j S):(um=l.length/\um<=uc/\uc<=9223372036854775807)/\vm=o.length/\vm<=vc/\vc<=9223372036854775807:=by
 constructor
 .rcases h.half.rowL.2 with ⟨e,e2⟩|⟨g,cap,cur,e,hb,hg,hc1,hc2,_⟩
  .injection e with e3 e4 e5;omega
  .injection e with e3 e4 e5;unfold maxLen at hc2;omega
 .rcases h.half.rowO.2 with ⟨e,e2⟩|⟨g,cap,cur,e,hb,hg,hc1,hc2,_⟩
  .injection e with e3 e4 e5;omega
  .injection e with e3 e4 e5;unfold maxLen at hc2;omega
theorem zf6 {tmps:Array Value} {W:World} {b:Nat} {c:VC} (ht:tmps[2]? =some (.pointer (some ⟨b,0,none⟩))) (h:BC W b (vcells c)):
 (results Tryz.f46 tmps).run Tryz.prog W= .ok (.agg #[.int .u8 c.k, .int .i64 c.n, .string c.s, .slice c.la c.ll c.lc, .slice c.oa c.ol c.oc]) W:=by
 obtain ⟨r0,r1,r2,r3,r4⟩:=row5 h.at_
 simp [results,Tryz.results46,go_sem,ht,r0,r1,r2,r3,r4]
def VCPost (w:World) (k n:Int) (s:ByteArray) (l:List V) (o:List (ByteArray×V)) (e:Ending) (w':World):Prop:=
 (∃(la:Option Addr) (ll lc:Nat) (oa:Option Addr) (ol oc:Nat) (cl:List VC) (co:List (ByteArray×VC)) (S:Nat->Nat),e= .returned (.agg #[.int .u8 k, .int .i64 n, .string s, .slice la ll lc, .slice oa ol oc])/\Half w w' w.heap.size l o (.slice la ll lc) (.slice oa ol oc) cl co (l.length+o.length) S/\(ll<=lc/\lc<=9223372036854775807)/\(ol<=oc/\oc<=9223372036854775807))/\Below w.heap.size w w'
def VNew (w:World) (x:V) (e:Ending) (w':World):Prop:=
 (∃c:VC,e= .returned (.agg #[.int .u8 c.k, .int .i64 c.n, .string c.s, .slice c.la c.ll c.lc, .slice c.oa c.ol c.oc])/\SepI w' w.heap.size w'.heap.size x c)/\Below w.heap.size w w'
def VCopyIH (x:V):Prop:=∀(W:World) (c:VC),IsVal W W.heap.size x c->Calls Tryz.prog 46 #[.agg #[.int .u8 c.k, .int .i64 c.n, .string c.s, .slice c.la c.ll c.lc, .slice c.oa c.ol c.oc]] W (VNew W x)
set_option maxRecDepth 100000 in
theorem K9 (l:List V) (o:List (ByteArray×V)) (IHl:∀x ∈ l,VCopyIH x) (IHo:∀x ∈ o,VCopyIH x.2) (w:World) (k n:Int) (s:ByteArray) (la:Option Addr) (ll lc:Nat) (oa:Option Addr) (ol oc:Nat) (h1:IsVals w w.heap.size l la ll lc) (h2:IsFields w w.heap.size o oa ol oc):
 uP 46 #[.agg (uU k n s la ll lc oa ol oc)] w (VCPost w k n s l o):=by
 delta uU uP
 have HLN:=qh h1.len
 have HON:=qh h2.len
 have k1:=h1.few;have k3:=h2.few
 obtain ⟨cl,cl1,cl2,cl3⟩:=h1.clone
 obtain ⟨co,co1,co2,co3⟩:=h2.clone
 have HC1:=qh cl1;have HC2:=qh cl2;have HC3:=qh cl3
 have HO1:=qh co1;have HO2:=qh co2;have HO3:=qh co3
 have HIL:=qh IHl
 have HIO:=qh IHo
 clear h1 h2 IHl IHo cl1 cl2 cl3 co1 co2 co3
 go_enter Tryz.func46,Tryz.ntmps46
 generalize hQ0:bodyPost _ _ _=Q0
 have HQ:=qh hQ0
 clear hQ0
 go_upto_region 1 with fail
 have hbz:uB w ((w.alloc (.cells (uU k n s la ll lc oa ol oc) 29)).alloc (.cells (uU 0 0 { data:= #[] } none 0 0 none 0 0) 29)):=((Below.refl _ _).alloc (Nat.le_refl _) _).alloc (by simp) _
 have hsz:((w.alloc (.cells (uU k n s la ll lc oa ol oc) 29)).alloc (.cells (uU 0 0 { data:= #[] } none 0 0 none 0 0) 29)).heap.size=w.heap.size+2:=by simp
 have hbx:BC ((w.alloc (.cells (uU k n s la ll lc oa ol oc) 29)).alloc (.cells (uU 0 0 { data:= #[] } none 0 0 none 0 0) 29)) w.heap.size [.int .u8 k, .int .i64 n, .string s, .slice la ll lc, .slice oa ol oc] :=(BC.start w (uU k n s la ll lc oa ol oc) 29).keep ((Below.refl _ _).alloc (Nat.le_refl _) _) (by simp)
 have hbr:BC ((w.alloc (.cells (uU k n s la ll lc oa ol oc) 29)).alloc (.cells (uU 0 0 { data:= #[] } none 0 0 none 0 0) 29)) (w.heap.size+1) (vcells vzero):=by
  have h1:=BC.start (w.alloc (.cells (uU k n s la ll lc oa ol oc) 29)) #[.int .u8 0, .int .i64 0, .string { data:= #[] }, .slice none 0 0, .slice none 0 0] 29
  rw [World.size_alloc] at h1;exact h1
 generalize World.alloc _ _=wb at hbz hsz hbx hbr ⊢
 have hbd:uB w wb.drew:=hbz.drew
 have hxd:BC wb.drew w.heap.size [.int .u8 k, .int .i64 n, .string s, .slice la ll lc, .slice oa ol oc] :=⟨fun j x hj=>hbx.at_ j x hj,hbx.fr,hbx.lt⟩
 have HBX:=qh hbx;have HBR:=qh hbr;have HBZ:=qh hbz;have HSZ:=qh hsz;have HBD:=qh hbd;have HXD:=qh hxd
 have y3:=hxd.at_ 3 _ rfl;have y4:=hxd.at_ 4 _ rfl
 have f3:=hxd.fr 3;have f4:=hxd.fr 4
 have zx:=hxd.lt
 clear hbx hbr hbz hsz hbd hxd
 go_cut [] from 5 to 12 (fun wx=>∃(ua:Option Addr) (um uc:Nat) (va:Option Addr) (vm vc:Nat),Cl2 w wx k n s (.slice ua um uc) (.slice va vm vc) cl co ll ol)
 case first=>
  go_wp2_with fail
  refine wp_region_noPanic ?_
  go_region_law
   (first
    |(go_simp;go_at_call 87;(with_reducible refine (HC3.out _ HBD.out).mono ?_);rintro e w4 ⟨⟨ua,um,uc,rfl,rl4⟩,hb4⟩;have HRL:=qh rl4;have HB4:Hid (Below wb.drew.heap.size wb.drew w4):=qh hb4;have x4:=HXD.out.keep hb4 HXD.out.lt;have t3:=x4.at_ 3 _ rfl;have t4:=x4.at_ 4 _ rfl;have s3:=x4.fr 3;have s4:=x4.fr 4;have zx4:=x4.lt;have HW4:=qh (HBD.out.trans (hb4.mono HBD.out.size));clear rl4 hb4 x4)
    |(go_simp;go_at_call 88;(with_reducible refine (HO3.out _ HW4.out).mono ?_);rintro e w5 ⟨⟨va,vm,vc,rfl,ro5⟩,hb5⟩;have HRO5:=qh ro5;have HB5:Hid (uB w4 w5):=qh hb5;have x5:=(HXD.out.keep HB4.out HXD.out.lt).keep hb5 zx4;have p3:=x5.at_ 3 _ rfl;have p4:=x5.at_ 4 _ rfl;have q3:=x5.fr 3;have q4:=x5.fr 4;have zx5:=x5.lt;clear ro5 hb5 x5)
    |(go_simp;go_at_call 88;(with_reducible refine (HO3.out _ HBD.out).mono ?_);rintro e w4 ⟨⟨va,vm,vc,rfl,ro4⟩,hb4⟩;have HRO:=qh ro4;have HB4:Hid (Below wb.drew.heap.size wb.drew w4):=qh hb4;have x4:=HXD.out.keep hb4 HXD.out.lt;have t3:=x4.at_ 3 _ rfl;have t4:=x4.at_ 4 _ rfl;have s3:=x4.fr 3;have s4:=x4.fr 4;have zx4:=x4.lt;have HW4:=qh (HBD.out.trans (hb4.mono HBD.out.size));clear ro4 hb4 x4)
    |(go_simp;go_at_call 87;(with_reducible refine (HC3.out _ HW4.out).mono ?_);rintro e w5 ⟨⟨ua,um,uc,rfl,rl5⟩,hb5⟩;have HRL5:=qh rl5;have HB5:Hid (uB w4 w5):=qh hb5;have x5:=(HXD.out.keep HB4.out HXD.out.lt).keep hb5 zx4;have p3:=x5.at_ 3 _ rfl;have p4:=x5.at_ 4 _ rfl;have q3:=x5.fr 3;have q4:=x5.fr 4;have zx5:=x5.lt;clear rl5 hb5 x5))
  all_goals
   (first
    |(with_reducible refine Zr (P:=fun W=>Cl2 w W k n s (.slice ua um uc) (.slice va vm vc) cl co ll ol) (Cl2.makeL HBX.out HBR.out HBZ.out HSZ.out HB4.out HRL.out HB5.out HRO5.out) ?_)
    |(with_reducible refine Zr (P:=fun W=>Cl2 w W k n s (.slice ua um uc) (.slice va vm vc) cl co ll ol) (Cl2.makeO HBX.out HBR.out HBZ.out HSZ.out HB4.out HRO.out HB5.out HRL5.out) ?_))
   rintro W hC
   have HCW:=qh hC
   clear hC
   go_wp2_with fail
   go_meet
   exact ⟨_,_,_,_,_,_,HCW.out⟩
 case rest=>
 clear y3 y4 f3 f4 zx
 obtain ⟨ua,um,uc,va,vm,vc,hC⟩:=hcut
 have HKC:=qh (hC.kc HLN.out HON.out HC1.out HC2.out HO1.out HO2.out)
 have b3:=hC.box.at_ 3 _ rfl
 have zb:=hC.box.lt
 clear hC
 go_wp2_with fail
 go_loopw [3,16] (fun _ i wr=>∃(j:Nat) (cl':List VC) (S:Nat->Nat),j<=um/\i= .int .i64 j/\KC w wr k n s l o (.slice ua um uc) (.slice va vm vc) cl' co j S) (fun _ i _=>um - (intOf i).toNat)
 case atStart=>exact ⟨0,cl,_,Nat.zero_le _,rfl,HKC.out⟩
 case round =>
  obtain ⟨j,cl',S,hj,rfl,L⟩:=hrel
  clear b3 zb
  by_cases hlt:j<um
  .obtain ⟨e1,e2,e3,g,f,hjl,hjc,rfl,hf,hg,R⟩:=L.rowL hlt
   have hI:IsVal w w.heap.size l[j] f:=by rw [<-hf];exact L.half.oldL j hjl hjc (Nat.le_refl _)
   have HCI:Hid (∀W,Below wr.heap.size wr.drew W->uP 46 #[.agg (uV f)] W (VNew W l[j])):=fun W hW=>HIL.out l[j] (List.getElem_mem hjl) W f (hI.later_ (L.below.trans (((Zf wr).trans hW).mono L.below.size)))
   have y3:=L.box.at_ 3 _ rfl
   have zx:=L.box.lt
   have c0:=R.at_.c0;have c1:=R.at_.c1;have c2:=R.at_.c2;have c3:=R.at_.c3;have c4:=R.at_.c4
   have zg:=R.lt
   have HL:=qh L;have HR:=qh R;have HF:=qh hf
   clear L R hI hf e1
   go_wp2_with fail
   refine wp_region_noPanic ?_
   go_region_law
    (first
     |(go_simp;go_at_call 46;(with_reducible refine (HCI.out _ (Below.refl _ _)).mono ?_);rintro e w4 ⟨⟨cx,rfl,hS⟩,hb4⟩;have HS4:=qh hS;have HB4:Hid (Below wr.drew.heap.size wr.drew w4):=qh hb4;have x4:=(HL.out.box.keep ((Zf wr).trans hb4) zx);have t3:=x4.at_ 3 _ rfl;have zx4:=x4.lt;have R4:=HR.out.later ((Zf wr).trans hb4);have d0:=R4.at_.c0;have d1:=R4.at_.c1;have d2:=R4.at_.c2;have d3:=R4.at_.c3;have d4:=R4.at_.c4;have e0:=R4.fr (j*5);have e1':=R4.fr (j*5+1);have e2':=R4.fr (j*5+2);have e3':=R4.fr (j*5+3);have e4':=R4.fr (j*5+4);have zg4:=R4.lt;clear hS hb4 x4 R4))
   all_goals
    refine Zr (P:=fun W=>KC w W k n s l o (.slice (some ⟨g,0,none⟩) um uc) (.slice va vm vc) (cl'.set j cx) co (j+1) (more S j w4.heap.size)) (HL.out.stepL hjl hg HB4.out HS4.out) ?_
    rintro W hK
    have HK:=qh hK
    clear hK
    go_wp2_with fail
    go_roundw
    case rel=>exact ⟨j+1,_,_,by omega,by go_num,HK.out⟩
    case measure=>simp [intOf];omega
  .have hjn:j=um:=by omega
   obtain ⟨w1,hw1⟩:∃w1,w1=wr:=⟨_,rfl⟩
   subst hw1
   have y4:=L.box.at_ 4 _ rfl
   have zx:=L.box.lt
   have hlens:=L.lens
   have hK0:KC w w1 k n s l o (.slice ua um uc) (.slice va vm vc) cl' co (l.length+0) S:=by have h:=L;rw [hjn,hlens.1.1] at h;rw [hlens.1.1];exact h
   have HLS:=qh hlens
   have HK0:=qh hK0
   clear L hlens hK0 hjn
   go_wp2_with fail
   go_loopw [4,33] (fun _ i wr=>∃(j:Nat) (co':List (ByteArray×VC)) (S:Nat->Nat),j<=vm/\i= .int .i64 j/\KC w wr k n s l o (.slice ua um uc) (.slice va vm vc) cl' co' (l.length+j) S) (fun _ i _=>vm - (intOf i).toNat)
   case atStart=>exact ⟨0,co,_,Nat.zero_le _,rfl,HK0.out⟩
   case round=>
    obtain ⟨j,co',S,hj,rfl,L⟩:=hrel
    clear y4 zx
    by_cases hlt:j<vm
    .obtain ⟨e1,e2,e3,g,f,hjl,hjc,rfl,hf,hg,R,hkey⟩:=L.rowO hlt
     have hI:IsVal w w.heap.size o[j].2 f:=by rw [<-hf];exact L.half.oldO j hjl hjc (Nat.le_refl _)
     have HCI:Hid (∀W,Below wr.heap.size wr.drew W->uP 46 #[.agg (uV f)] W (VNew W o[j].2)):=fun W hW=>HIO.out o[j] (List.getElem_mem hjl) W f (hI.later_ (L.below.trans (((Zf wr).trans hW).mono L.below.size)))
     have y4:=L.box.at_ 4 _ rfl
     have zx:=L.box.lt
     have c0:=R.at_.c0;have c1:=R.at_.c1;have c2:=R.at_.c2;have c3:=R.at_.c3;have c4:=R.at_.c4
     have zg:=R.lt
     have HL:=qh L;have HR:=qh R;have HF:=qh hf
     clear L R hI hf e1
     go_wp2_with fail
     refine wp_region_noPanic ?_
     go_region_law
      (first
       |(go_simp;go_at_call 46;(with_reducible refine (HCI.out _ (Below.refl _ _)).mono ?_);rintro e w4 ⟨⟨cx,rfl,hS⟩,hb4⟩;have HS4:=qh hS;have HB4:Hid (Below wr.drew.heap.size wr.drew w4):=qh hb4;have x4:=(HL.out.box.keep ((Zf wr).trans hb4) zx);have t4:=x4.at_ 4 _ rfl;have zx4:=x4.lt;have R4:=HR.out.later ((Zf wr).trans hb4);have d0:=R4.at_.c0;have d1:=R4.at_.c1;have d2:=R4.at_.c2;have d3:=R4.at_.c3;have d4:=R4.at_.c4;have e0:=R4.fr (j*6+1);have e1':=R4.fr (j*6+1+1);have e2':=R4.fr (j*6+1+2);have e3':=R4.fr (j*6+1+3);have e4':=R4.fr (j*6+1+4);have zg4:=R4.lt;clear hS hb4 x4 R4))
     all_goals
      refine Zr (P:=fun W=>KC w W k n s l o (.slice ua um uc) (.slice (some ⟨g,0,none⟩) vm vc) cl' (co'.set j (co'[j].1,cx)) (l.length+(j+1)) (more S (l.length+j) w4.heap.size)) (HL.out.stepO hjl hjc hg HB4.out HS4.out) ?_
      rintro W hK
      have HK:=qh hK
      clear hK
      go_wp2_with fail
      go_roundw
      case rel=>exact ⟨j+1,_,_,by omega,by go_num,HK.out⟩
      case measure=>simp [intOf];omega
    .have hjn:j=vm:=by omega
     have HJ:=qh hjn
     obtain ⟨b0,b1,b2,b3,b4⟩:=row5 L.box.at_
     obtain ⟨r0,r1,r2,r3,r4⟩:=row5 L.res.at_
     have f0:=L.res.fr 0;have f1:=L.res.fr 1;have f2:=L.res.fr 2;have f3:=L.res.fr 3;have f4:=L.res.fr 4
     have zx:=L.box.lt;have zy:=L.res.lt
     have HL:=qh L
     clear L hjn
     go_wp2_with fail
     rw [<-HQ.out]
     have hF:KC w wr k n s l o (.slice ua um uc) (.slice va vm vc) cl' co' (l.length+o.length) S:=by have h:=HL.out;rw [HJ.out,HLS.out.2.1] at h;rw [HLS.out.2.1];exact h
     have st:=Zi wr (w.heap.size+1) 0 ⟨k,n,s,ua,um,uc,va,vm,vc⟩
     have hbx:=Zy hF.res ⟨k,n,s,ua,um,uc,va,vm,vc⟩
     exact ⟨rfl,_,zf6 rfl hbx,⟨⟨ua,um,uc,va,vm,vc,cl',co',S,rfl,hF.half.next st (by simp),HLS.out.1.2,HLS.out.2.2⟩,hF.below.trans (st.lowC (by omega) hF.below.size)⟩⟩
theorem VCPost.new {w:World} {v:V} {c0:VC} (h:IsVal w w.heap.size v c0) {e:Ending} {w':World} (hc:VCPost w c0.k c0.n c0.s v.ls v.os e w'):VNew w v e w':=by
 obtain ⟨k,n,s,l,o,rfl⟩:=v.eta
 obtain ⟨rfl,rfl,rfl,hb,h1,h2⟩:=h.lists
 obtain ⟨⟨la,ll,lc,oa,ol,oc,cl,co,S,rfl,hh,⟨g1,g2⟩,g3,g4⟩,hbl⟩:=hc
 have m1:=h1.len;have m2:=h1.few;have m3:=h2.len;have m4:=h2.few
 have hl1:ll=l.length:=by
  rcases hh.rowL.2 with ⟨e,e2⟩|⟨g,cap,cur,e,_⟩
  .injection e with e3 e4 e5;rw [e4];exact e2.symm
  .injection e
 have hl2:ol=o.length:=by
  rcases hh.rowO.2 with ⟨e,e2⟩|⟨g,cap,cur,e,_⟩
  .injection e with e3 e4 e5;rw [e4];exact e2.symm
  .injection e
 exact ⟨⟨⟨c0.k,c0.n,c0.s,la,ll,lc,oa,ol,oc⟩,rfl,hh.done (c:=⟨c0.k,c0.n,c0.s,la,ll,lc,oa,ol,oc⟩) ⟨hb.k0,hb.k1,hb.n0,hb.n1,hb.s1,g1,g2,by dsimp only;omega,g3,g4,by dsimp only;omega⟩⟩,hbl⟩
theorem zcs (v:V):VCopyIH v:=by
 induction v using V.ind with
 | h k n s l o ihl iho=>
   intro W c h
   obtain ⟨rfl,rfl,rfl,hb,h1,h2⟩:=h.lists
   exact (K9 l o ihl iho W c.k c.n c.s c.la c.ll c.lc c.oa c.ol c.oc h1 h2).mono fun e w' hc=>VCPost.new h hc
theorem zjb (w:World) (v:V) (c:VC) (h:IsVal w w.heap.size v c):
 uP 46 #[.agg (uV c)] w (VCPost w c.k c.n c.s v.ls v.os):=by
 delta uV uP
 obtain ⟨k,n,s,l,o,rfl⟩:=v.eta
 obtain ⟨_,_,_,_,h1,h2⟩:=h.lists
 exact K9 l o (fun x _=>zcs x) (fun x _=>zcs x.2) w c.k c.n c.s c.la c.ll c.lc c.oa c.ol c.oc h1 h2
theorem VCPost.whole {w:World} {v:V} {c0:VC} (h:IsVal w w.heap.size v c0) {e:Ending} {w':World} (hc:VCPost w c0.k c0.n c0.s v.ls v.os e w'):(∃d:VC,e= .returned (.agg #[.int .u8 d.k, .int .i64 d.n, .string d.s, .slice d.la d.ll d.lc, .slice d.oa d.ol d.oc])/\Whole w' w.heap.size v d)/\uB w w':=by
 delta uB
 obtain ⟨k,n,s,l,o,rfl⟩:=v.eta
 obtain ⟨rfl,rfl,rfl,hb,h1,h2⟩:=h.lists
 obtain ⟨⟨la,ll,lc,oa,ol,oc,cl,co,S,rfl,hh,⟨g1,g2⟩,g3,g4⟩,hbl⟩:=hc
 have m1:=h1.len;have m2:=h1.few;have m3:=h2.len;have m4:=h2.few
 have hl1:ll=l.length:=by
  rcases hh.rowL.2 with ⟨e,e2⟩|⟨g,cap,cur,e,_⟩
  .injection e with e3 e4 e5;rw [e4];exact e2.symm
  .injection e
 have hl2:ol=o.length:=by
  rcases hh.rowO.2 with ⟨e,e2⟩|⟨g,cap,cur,e,_⟩
  .injection e with e3 e4 e5;rw [e4];exact e2.symm
  .injection e
 exact ⟨⟨⟨c0.k,c0.n,c0.s,la,ll,lc,oa,ol,oc⟩,rfl,rfl,⟨hb.k0,hb.k1,hb.n0,hb.n1,hb.s1,g1,g2,by dsimp only;omega,g3,g4,by dsimp only;omega⟩,cl,co,S,w,hh⟩,hbl⟩
theorem Yt (w:World) (v:V) (c:VC) (h:IsVal w w.heap.size v c):
 uP 46 #[.agg (uV c)] w fun e w'=>(∃d:VC,e= .returned (.agg #[.int .u8 d.k, .int .i64 d.n, .string d.s, .slice d.la d.ll d.lc, .slice d.oa d.ol d.oc])/\Whole w' w.heap.size v d)/\uB w w':=
 (zjb w v c h).mono fun _ _ hc=>hc.whole h
end Go.Proofs.YtbgheehjfnoiiaaGreatDoor
