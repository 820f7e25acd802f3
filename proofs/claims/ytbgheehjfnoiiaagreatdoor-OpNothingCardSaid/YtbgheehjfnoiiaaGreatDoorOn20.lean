/-
  Contracts of the functions that the law reaches: conciliatorref05.Do, where it may be.
-/
import Derived.Test.YtbgheehjfnoiiaaGreatDoorOn9
import Derived.Test.YtbgheehjfnoiiaaGreatDoorOn19
namespace Go.Proofs.YtbgheehjfnoiiaaGreatDoor
open Go.RowKit
set_option maxHeartbeats 8000000
def listDo (l:List V) (k i j:Int) (v:V):List V:=
 if k=4 then insL l i.toNat v else if k=5 then remL l i.toNat else if k=6 then l.set i.toNat v else insL (remL l i.toNat) j.toNat (l.getD i.toNat V.none)
def DoLPost (w:World) (r:List V) (e:Ending) (w':World):Prop:=
 (∃a n c,e= .returned (.tuple #[.slice a n c, .int .i64 0])/\IsVals (only (fun b=>w.heap.size<=b) w') w'.heap.size r a n c)/\Below w.heap.size w w'
theorem Y7 {w W:World} {B0 B1:Nat} {l:List V} {a:Option Addr} {n c:Nat} (h:IsVals (only (fun b=>B1<=b) w) w.heap.size l a n c) (hB:B0<=B1) (hb:uB w W):IsVals (only (fun b=>B0<=b) W) W.heap.size l a n c:=by
 have hsh:Shows (only (fun b=>B1<=b) w) (only (fun b=>B0<=b) W) w.heap.size:=Ze fun k hk hl=>⟨Nat.le_trans hB hk,hb.block k hl⟩
 obtain ⟨h1,h2,h3,h4,b,o,f,h5,h6⟩:=h
 exact ⟨h1,h2,h3,h4,b,o,f,fun hp=>⟨(h5 hp).1,Nat.lt_of_lt_of_le (h5 hp).2 hb.size⟩,fun i hi=>⟨(h6 i hi).1.sub hsh (h5 (by omega)).2,((h6 i hi).2.sub hsh).more hb.size⟩⟩
theorem zke {w W:World} {B0 B1:Nat} {x:V} {c:VC} (h:IsVal (only (fun b=>B1<=b) w) w.heap.size x c) (hB:B0<=B1) (hb:uB w W):IsVal (only (fun b=>B0<=b) W) W.heap.size x c:=
 (h.sub (Ze fun k hk hl=>⟨Nat.le_trans hB hk,hb.block k hl⟩)).more hb.size
theorem za5 (w:World) (B:Nat):IsFields w B [] none 0 0:=⟨rfl,Nat.le_refl _,by omega,by omega,0,0,fun _=>vzero,fun h=>absurd h (by omega),fun i h=>absurd h (by simp)⟩
theorem Jj (w:World) (l:List V) (a:Option Addr) (n c:Nat) (hl:IsVals w w.heap.size l a n c):uP 37 #[.agg (uU 0 0 { data:= #[] } a n c none 0 0)] w (CopyPost w 0 0 { data:= #[] } l []):=by
 delta uU uP
 have hv:IsVal w w.heap.size (.mk 0 0 .empty l []) ⟨0,0, .empty,a,n,c,none,0,0⟩:=
  IsVal.of_lists (c:=⟨0,0, .empty,a,n,c,none,0,0⟩) ⟨by show (0:Int)<=0;decide,by show (0:Int)<256;decide,by show (-9223372036854775808:Int)<=0;decide,by show (0:Int)<=9223372036854775807;decide,by show ByteArray.empty.size<=140737488355328;decide,hl.cap,hl.max,hl.few,by show (0:Nat)<=0;decide,by show (0:Nat)<=9223372036854775807;decide,by show (0:Nat)<=1466015503701;decide⟩ hl (za5 w _)
 exact Ky w (.mk 0 0 .empty l []) 0 0 { data:= #[] } a n c none 0 0 hv
theorem Xd (W:World) (k n:Int) (s:ByteArray) (a:Option Addr) (m c:Nat) (a':Option Addr) (m' c':Nat):
 (Instr.field 29 (.agg #[.int .u8 k, .int .i64 n, .string s, .slice a m c, .slice a' m' c']) 3).run Tryz.prog W= .ok (.slice a m c) W:=by
 first
  |kernel_rfl
  |(simp [Instr.field,run_underlying Tryz.underlying29,go_sem];done)
theorem Fresh.neat {w:World} {base:Nat} {l:List V} {o:List (ByteArray×V)} {a:Option Addr} {m c:Nat} {a':Option Addr} {m' c':Nat} {cl:List VC} {co:List (ByteArray×VC)} (h:Fresh w base l o a m c a' m' c' cl co):Neat2 a c:=by
 cases ha:a with
 | none=>
   by_cases hm:0<m
   .obtain ⟨g,e,_⟩:=h.ownL.row (.inl hm)
    rw [ha] at e;cases e
   .exact .inl ⟨rfl,h.ownL.none_ (by omega) ha⟩
 | some ad=>
   obtain ⟨g,e,_⟩:=h.ownL.row (.inr (by rw [ha];simp))
   rw [ha] at e
   exact .inr ⟨g,0,e⟩
theorem Fresh.vals {w:World} {base:Nat} {l:List V} {o:List (ByteArray×V)} {a:Option Addr} {m c:Nat} {a':Option Addr} {m' c':Nat} {cl:List VC} {co:List (ByteArray×VC)} (h:Fresh w base l o a m c a' m' c' cl co):IsVals (only (fun b=>base<=b) w) w.heap.size l a m c:=
 (h.val (k:=0) (n:=0) (s:= .empty) (by omega) (by omega) (by omega) (by omega) (by decide)).lists.2.2.2.2.1
set_option maxRecDepth 100000 in
theorem zfx (w:World) (l:List V) (a:Option Addr) (n c:Nat) (hl:IsVals w w.heap.size l a n c) (hfew:n<=100000000) (cc:CC) (x:V) (hx:IsVal w w.heap.size x cc.v) (hc:lCheck n cc.k cc.i cc.j=0) (hk:cc.k=4):
 uP 65 #[.slice a n c, .agg #[.int .u8 cc.k, .slice cc.pa cc.pl cc.pc, .string cc.key, .int .i64 cc.i, .int .i64 cc.j, .int .i64 cc.n, .int .u8 cc.v.k, .int .i64 cc.v.n, .string cc.v.s, .slice cc.v.la cc.v.ll cc.v.lc, .slice cc.v.oa cc.v.ol cc.v.oc, .string cc.s]] w (DoLPost w (listDo l cc.k cc.i cc.j x)):=by
 delta uP
 have hmax:=hl.max
 have hlen:=hl.len
 obtain ⟨_,_,hi0,hi1,hi2,hj⟩:=Yi hc
 have HCK:Hid (∀W,uB w W->uP 110 #[.int .i64 n, .agg #[.int .u8 cc.k, .slice cc.pa cc.pl cc.pc, .string cc.key, .int .i64 cc.i, .int .i64 cc.j, .int .i64 cc.n, .int .u8 cc.v.k, .int .i64 cc.v.n, .string cc.v.s, .slice cc.v.la cc.v.ll cc.v.lc, .slice cc.v.oa cc.v.ol cc.v.oc, .string cc.s]] W fun e w'=>e= .returned (.int .i64 0)/\uB W w'):=fun W hW=>by
  have:=Qk W n (by omega) cc
  rw [hc] at this;exact this
 have HOW:Hid (∀W,uB w W->uP 37 #[.agg #[.int .u8 0, .int .i64 0, .string { data:= #[] }, .slice a n c, .slice none 0 0]] W (CopyPost W 0 0 { data:= #[] } l [])):=fun W hW=>Jj W l a n c (hl.later_ hW)
 have HCV:Hid (∀W,uB w W->uP 37 #[.agg #[.int .u8 cc.v.k, .int .i64 cc.v.n, .string cc.v.s, .slice cc.v.la cc.v.ll cc.v.lc, .slice cc.v.oa cc.v.ol cc.v.oc]] W (NewVal W x)):=fun W hW=>Yz x W cc.v (hx.later_ hW)
 have HBX:=qh (BC.start w #[.int .u8 cc.k, .slice cc.pa cc.pl cc.pc, .string cc.key, .int .i64 cc.i, .int .i64 cc.j, .int .i64 cc.n, .int .u8 cc.v.k, .int .i64 cc.v.n, .string cc.v.s, .slice cc.v.la cc.v.ll cc.v.lc, .slice cc.v.oa cc.v.ol cc.v.oc, .string cc.s] 54)
 have HAL:=qh ((Below.refl _ _).alloc (Nat.le_refl _) (.cells #[.int .u8 cc.k, .slice cc.pa cc.pl cc.pc, .string cc.key, .int .i64 cc.i, .int .i64 cc.j, .int .i64 cc.n, .int .u8 cc.v.k, .int .i64 cc.v.n, .string cc.v.s, .slice cc.v.la cc.v.ll cc.v.lc, .slice cc.v.oa cc.v.ol cc.v.oc, .string cc.s] 54):uB w _)
 obtain ⟨R,hR⟩:∃R,listDo l cc.k cc.i cc.j x=R:=⟨_,rfl⟩
 rw [hR]
 rw [listDo,hk] at hR
 have HL:=qh hlen
 obtain ⟨i,hi⟩:∃i:Nat,cc.i=i:=⟨cc.i.toNat,by omega⟩
 rw [hi] at hR hi1 hi2
 rw [hk,hi] at HCK HBX HAL ⊢
 rw [Int.toNat_natCast] at hR
 have HR:=qh hR
 clear hl hx hc hlen hR hi hi0 hj
 go_enter Tryz.func65,Tryz.ntmps65
 go_wp2_with fail
 refine (HCK.out _ HAL.out).mono ?_
 rintro e w1 ⟨rfl,hb1⟩
 have HD1:=qh (HBX.out.keep hb1 (by simp))
 have HBL1:=qh (HAL.out.trans (hb1.mono (by simp)))
 clear hb1
 go_wp2_with fail
 refine (HOW.out _ HBL1.out).mono ?_
 rintro e w2 ⟨⟨a0,m0,c0,a1,m1,c1,cl,co,rfl,hF⟩,hb2⟩
 have D2:=HD1.out.keep hb2 HD1.out.lt
 obtain ⟨b0,b1,b2,b3,b4,b5,b6,b7,b8,b9,b10,b11⟩:=row12 D2.at_
 have zs2:=D2.lt
 have HBL2:=qh (HBL1.out.trans (hb2.mono HBL1.out.size))
 have hm0:m0=n:=by rw [hF.len, <-HL.out]
 subst hm0
 have hw12:=hb2.size
 have hw1:=HBL1.out.size
 have HF:=qh hF
 have HD2:=qh D2
 have hfld:=Xd w2 0 0 { data:= #[] } a0 m0 c0 a1 m1 c1
 clear hb2 hF D2
 go_wp2_with fail
 refine (HCV.out _ HBL2.out).mono ?_
 rintro e w3 ⟨⟨f,rfl,hI3⟩,hb3⟩
 have D3:=HD2.out.keep hb3 zs2
 clear b0 b1 b2 b3 b4 b5 b6 b7 b8 b9 b10 b11
 obtain ⟨b0,b1,b2,b3,b4,b5,b6,b7,b8,b9,b10,b11⟩:=row12 D3.at_
 have zs3:=D3.lt
 have HBL3:=qh (HBL2.out.trans (hb3.mono HBL2.out.size))
 have hw23:=hb3.size
 have HF3:=qh (HF.out.later_ hb3)
 have HI3:=qh hI3
 have HAL3:=qh (((Below.refl _ _).alloc (Nat.le_refl _) (.cells #[.int .u8 f.k, .int .i64 f.n, .string f.s, .slice f.la f.ll f.lc, .slice f.oa f.ol f.oc] 29)):uB w3 _)
 have HW:Hid (uP 111 #[.slice a0 m0 c0, .int .i64 i, .agg #[.int .u8 f.k, .int .i64 f.n, .string f.s, .slice f.la f.ll f.lc, .slice f.oa f.ol f.oc]] (w3.alloc (.cells #[.int .u8 f.k, .int .i64 f.n, .string f.s, .slice f.la f.ll f.lc, .slice f.oa f.ol f.oc] 29)) (ListPost (w3.alloc (.cells #[.int .u8 f.k, .int .i64 f.n, .string f.s, .slice f.la f.ll f.lc, .slice f.oa f.ol f.oc] 29)) w.heap.size (insL l i x))):=zbu (w3.alloc (.cells #[.int .u8 f.k, .int .i64 f.n, .string f.s, .slice f.la f.ll f.lc, .slice f.oa f.ol f.oc] 29)) w.heap.size (by simp;omega) l a0 m0 c0 (Y7 HF3.out.vals hw1 HAL3.out) HF3.out.neat i (by omega) x f.k f.n f.s f.la f.ll f.lc f.oa f.ol f.oc (zke HI3.out (by omega) HAL3.out) (by omega)
 obtain rfl:R=insL l i x:=by rw [<-HR.out];rfl
 clear hb3 hI3 D3
 go_wp2_with fail
 refine HW.out.mono ?_
 rintro e w5 ⟨⟨a5,n5,c5,rfl,hI5,_⟩,hb5⟩
 go_wp2_with fail
 go_returns
 exact ⟨⟨a5,n5,c5,rfl,hI5⟩,(HBL3.out.trans (HAL3.out.mono HBL3.out.size)).trans (hb5.mono (by simp;omega))⟩
set_option maxRecDepth 100000 in
theorem zer (w:World) (l:List V) (a:Option Addr) (n c:Nat) (hl:IsVals w w.heap.size l a n c) (hfew:n<=100000000) (cc:CC) (x:V) (hx:IsVal w w.heap.size x cc.v) (hc:lCheck n cc.k cc.i cc.j=0) (hk:cc.k=5):
 uP 65 #[.slice a n c, .agg #[.int .u8 cc.k, .slice cc.pa cc.pl cc.pc, .string cc.key, .int .i64 cc.i, .int .i64 cc.j, .int .i64 cc.n, .int .u8 cc.v.k, .int .i64 cc.v.n, .string cc.v.s, .slice cc.v.la cc.v.ll cc.v.lc, .slice cc.v.oa cc.v.ol cc.v.oc, .string cc.s]] w (DoLPost w (listDo l cc.k cc.i cc.j x)):=by
 delta uP
 have hmax:=hl.max
 have hlen:=hl.len
 obtain ⟨_,_,hi0,hi1,hi2,hj⟩:=Yi hc
 have HCK:Hid (∀W,uB w W->uP 110 #[.int .i64 n, .agg #[.int .u8 cc.k, .slice cc.pa cc.pl cc.pc, .string cc.key, .int .i64 cc.i, .int .i64 cc.j, .int .i64 cc.n, .int .u8 cc.v.k, .int .i64 cc.v.n, .string cc.v.s, .slice cc.v.la cc.v.ll cc.v.lc, .slice cc.v.oa cc.v.ol cc.v.oc, .string cc.s]] W fun e w'=>e= .returned (.int .i64 0)/\uB W w'):=fun W hW=>by
  have:=Qk W n (by omega) cc
  rw [hc] at this;exact this
 have HOW:Hid (∀W,uB w W->uP 37 #[.agg #[.int .u8 0, .int .i64 0, .string { data:= #[] }, .slice a n c, .slice none 0 0]] W (CopyPost W 0 0 { data:= #[] } l [])):=fun W hW=>Jj W l a n c (hl.later_ hW)
 have HCV:Hid (∀W,uB w W->uP 37 #[.agg #[.int .u8 cc.v.k, .int .i64 cc.v.n, .string cc.v.s, .slice cc.v.la cc.v.ll cc.v.lc, .slice cc.v.oa cc.v.ol cc.v.oc]] W (NewVal W x)):=fun W hW=>Yz x W cc.v (hx.later_ hW)
 have HBX:=qh (BC.start w #[.int .u8 cc.k, .slice cc.pa cc.pl cc.pc, .string cc.key, .int .i64 cc.i, .int .i64 cc.j, .int .i64 cc.n, .int .u8 cc.v.k, .int .i64 cc.v.n, .string cc.v.s, .slice cc.v.la cc.v.ll cc.v.lc, .slice cc.v.oa cc.v.ol cc.v.oc, .string cc.s] 54)
 have HAL:=qh ((Below.refl _ _).alloc (Nat.le_refl _) (.cells #[.int .u8 cc.k, .slice cc.pa cc.pl cc.pc, .string cc.key, .int .i64 cc.i, .int .i64 cc.j, .int .i64 cc.n, .int .u8 cc.v.k, .int .i64 cc.v.n, .string cc.v.s, .slice cc.v.la cc.v.ll cc.v.lc, .slice cc.v.oa cc.v.ol cc.v.oc, .string cc.s] 54):uB w _)
 obtain ⟨R,hR⟩:∃R,listDo l cc.k cc.i cc.j x=R:=⟨_,rfl⟩
 rw [hR]
 rw [listDo,hk] at hR
 have HL:=qh hlen
 obtain ⟨i,hi⟩:∃i:Nat,cc.i=i:=⟨cc.i.toNat,by omega⟩
 rw [hi] at hR hi1 hi2
 rw [hk,hi] at HCK HBX HAL ⊢
 rw [Int.toNat_natCast] at hR
 have HR:=qh hR
 clear hl hx hc hlen hR hi hi0 hj
 go_enter Tryz.func65,Tryz.ntmps65
 go_wp2_with fail
 refine (HCK.out _ HAL.out).mono ?_
 rintro e w1 ⟨rfl,hb1⟩
 have HD1:=qh (HBX.out.keep hb1 (by simp))
 have HBL1:=qh (HAL.out.trans (hb1.mono (by simp)))
 clear hb1
 go_wp2_with fail
 refine (HOW.out _ HBL1.out).mono ?_
 rintro e w2 ⟨⟨a0,m0,c0,a1,m1,c1,cl,co,rfl,hF⟩,hb2⟩
 have D2:=HD1.out.keep hb2 HD1.out.lt
 obtain ⟨b0,b1,b2,b3,b4,b5,b6,b7,b8,b9,b10,b11⟩:=row12 D2.at_
 have zs2:=D2.lt
 have HBL2:=qh (HBL1.out.trans (hb2.mono HBL1.out.size))
 have hm0:m0=n:=by rw [hF.len, <-HL.out]
 subst hm0
 have hw12:=hb2.size
 have hw1:=HBL1.out.size
 have HF:=qh hF
 have HD2:=qh D2
 have hfld:=Xd w2 0 0 { data:= #[] } a0 m0 c0 a1 m1 c1
 clear hb2 hF D2
 go_wp2_with fail
 refine (HCV.out _ HBL2.out).mono ?_
 rintro e w3 ⟨⟨f,rfl,hI3⟩,hb3⟩
 have D3:=HD2.out.keep hb3 zs2
 clear b0 b1 b2 b3 b4 b5 b6 b7 b8 b9 b10 b11
 obtain ⟨b0,b1,b2,b3,b4,b5,b6,b7,b8,b9,b10,b11⟩:=row12 D3.at_
 have zs3:=D3.lt
 have HBL3:=qh (HBL2.out.trans (hb3.mono HBL2.out.size))
 have hw23:=hb3.size
 have HF3:=qh (HF.out.later_ hb3)
 have HI3:=qh hI3
 have HAL3:=qh (((Below.refl _ _).alloc (Nat.le_refl _) (.cells #[.int .u8 f.k, .int .i64 f.n, .string f.s, .slice f.la f.ll f.lc, .slice f.oa f.ol f.oc] 29)):uB w3 _)
 have HW:Hid (uP 112 #[.slice a0 m0 c0, .int .i64 i] (w3.alloc (.cells #[.int .u8 f.k, .int .i64 f.n, .string f.s, .slice f.la f.ll f.lc, .slice f.oa f.ol f.oc] 29)) (ListPost (w3.alloc (.cells #[.int .u8 f.k, .int .i64 f.n, .string f.s, .slice f.la f.ll f.lc, .slice f.oa f.ol f.oc] 29)) w.heap.size (remL l i))):=zc0 (w3.alloc (.cells #[.int .u8 f.k, .int .i64 f.n, .string f.s, .slice f.la f.ll f.lc, .slice f.oa f.ol f.oc] 29)) w.heap.size (by simp;omega) l a0 m0 c0 (Y7 HF3.out.vals hw1 HAL3.out) i (by omega) (by omega)
 obtain rfl:R=remL l i:=by rw [<-HR.out];rfl
 clear hb3 hI3 D3
 go_wp2_with fail
 refine HW.out.mono ?_
 rintro e w5 ⟨⟨a5,n5,c5,rfl,hI5,_⟩,hb5⟩
 go_wp2_with fail
 go_returns
 exact ⟨⟨a5,n5,c5,rfl,hI5⟩,(HBL3.out.trans (HAL3.out.mono HBL3.out.size)).trans (hb5.mono (by simp;omega))⟩
set_option maxRecDepth 100000 in
theorem zla (w:World) (l:List V) (a:Option Addr) (n c:Nat) (hl:IsVals w w.heap.size l a n c) (hfew:n<=100000000) (cc:CC) (x:V) (hx:IsVal w w.heap.size x cc.v) (hc:lCheck n cc.k cc.i cc.j=0) (hk:cc.k=6):
 uP 65 #[.slice a n c, .agg #[.int .u8 cc.k, .slice cc.pa cc.pl cc.pc, .string cc.key, .int .i64 cc.i, .int .i64 cc.j, .int .i64 cc.n, .int .u8 cc.v.k, .int .i64 cc.v.n, .string cc.v.s, .slice cc.v.la cc.v.ll cc.v.lc, .slice cc.v.oa cc.v.ol cc.v.oc, .string cc.s]] w (DoLPost w (listDo l cc.k cc.i cc.j x)):=by
 delta uP
 have hmax:=hl.max
 have hlen:=hl.len
 obtain ⟨_,_,hi0,hi1,hi2,hj⟩:=Yi hc
 have HCK:Hid (∀W,uB w W->uP 110 #[.int .i64 n, .agg #[.int .u8 cc.k, .slice cc.pa cc.pl cc.pc, .string cc.key, .int .i64 cc.i, .int .i64 cc.j, .int .i64 cc.n, .int .u8 cc.v.k, .int .i64 cc.v.n, .string cc.v.s, .slice cc.v.la cc.v.ll cc.v.lc, .slice cc.v.oa cc.v.ol cc.v.oc, .string cc.s]] W fun e w'=>e= .returned (.int .i64 0)/\uB W w'):=fun W hW=>by
  have:=Qk W n (by omega) cc
  rw [hc] at this;exact this
 have HOW:Hid (∀W,uB w W->uP 37 #[.agg #[.int .u8 0, .int .i64 0, .string { data:= #[] }, .slice a n c, .slice none 0 0]] W (CopyPost W 0 0 { data:= #[] } l [])):=fun W hW=>Jj W l a n c (hl.later_ hW)
 have HCV:Hid (∀W,uB w W->uP 37 #[.agg #[.int .u8 cc.v.k, .int .i64 cc.v.n, .string cc.v.s, .slice cc.v.la cc.v.ll cc.v.lc, .slice cc.v.oa cc.v.ol cc.v.oc]] W (NewVal W x)):=fun W hW=>Yz x W cc.v (hx.later_ hW)
 have HBX:=qh (BC.start w #[.int .u8 cc.k, .slice cc.pa cc.pl cc.pc, .string cc.key, .int .i64 cc.i, .int .i64 cc.j, .int .i64 cc.n, .int .u8 cc.v.k, .int .i64 cc.v.n, .string cc.v.s, .slice cc.v.la cc.v.ll cc.v.lc, .slice cc.v.oa cc.v.ol cc.v.oc, .string cc.s] 54)
 have HAL:=qh ((Below.refl _ _).alloc (Nat.le_refl _) (.cells #[.int .u8 cc.k, .slice cc.pa cc.pl cc.pc, .string cc.key, .int .i64 cc.i, .int .i64 cc.j, .int .i64 cc.n, .int .u8 cc.v.k, .int .i64 cc.v.n, .string cc.v.s, .slice cc.v.la cc.v.ll cc.v.lc, .slice cc.v.oa cc.v.ol cc.v.oc, .string cc.s] 54):uB w _)
 obtain ⟨R,hR⟩:∃R,listDo l cc.k cc.i cc.j x=R:=⟨_,rfl⟩
 rw [hR]
 rw [listDo,hk] at hR
 have HL:=qh hlen
 obtain ⟨i,hi⟩:∃i:Nat,cc.i=i:=⟨cc.i.toNat,by omega⟩
 rw [hk] at hi2
 rw [hi] at hR hi1 hi2
 rw [hk,hi] at HCK HBX HAL ⊢
 rw [Int.toNat_natCast] at hR
 have HR:=qh hR
 clear hl hx hc hlen hR hi hi0 hj
 go_enter Tryz.func65,Tryz.ntmps65
 go_wp2_with fail
 refine (HCK.out _ HAL.out).mono ?_
 rintro e w1 ⟨rfl,hb1⟩
 have HD1:=qh (HBX.out.keep hb1 (by simp))
 have HBL1:=qh (HAL.out.trans (hb1.mono (by simp)))
 clear hb1
 go_wp2_with fail
 refine (HOW.out _ HBL1.out).mono ?_
 rintro e w2 ⟨⟨a0,m0,c0,a1,m1,c1,cl,co,rfl,hF⟩,hb2⟩
 have D2:=HD1.out.keep hb2 HD1.out.lt
 obtain ⟨b0,b1,b2,b3,b4,b5,b6,b7,b8,b9,b10,b11⟩:=row12 D2.at_
 have zs2:=D2.lt
 have HBL2:=qh (HBL1.out.trans (hb2.mono HBL1.out.size))
 have hm0:m0=n:=by rw [hF.len, <-HL.out]
 subst hm0
 have hw12:=hb2.size
 have hw1:=HBL1.out.size
 have HF:=qh hF
 have HD2:=qh D2
 have hfld:=Xd w2 0 0 { data:= #[] } a0 m0 c0 a1 m1 c1
 clear hb2 hF D2
 go_wp2_with fail
 refine (HCV.out _ HBL2.out).mono ?_
 rintro e w3 ⟨⟨f,rfl,hI3⟩,hb3⟩
 have D3:=HD2.out.keep hb3 zs2
 clear b0 b1 b2 b3 b4 b5 b6 b7 b8 b9 b10 b11
 obtain ⟨b0,b1,b2,b3,b4,b5,b6,b7,b8,b9,b10,b11⟩:=row12 D3.at_
 have zs3:=D3.lt
 have HBL3:=qh (HBL2.out.trans (hb3.mono HBL2.out.size))
 have hw23:=hb3.size
 have HF3:=qh (HF.out.later_ hb3)
 have HI3:=qh hI3
 have HAL3:=qh (((Below.refl _ _).alloc (Nat.le_refl _) (.cells #[.int .u8 f.k, .int .i64 f.n, .string f.s, .slice f.la f.ll f.lc, .slice f.oa f.ol f.oc] 29)):uB w3 _)
 obtain ⟨g,eg,hgb,hbc2⟩:=HF.out.ownL.row (.inl (by omega))
 subst eg
 have hg2:=hbc2.lt
 have hbc:=hbc2.keep hb3 hg2
 have hil:i<cl.length:=by rw [HF.out.ll, <-HL.out];omega
 have hat:=Yp hbc hil
 have q0:=hat.c0;have q1:=hat.c1;have q2:=hat.c2;have q3:=hat.c3;have q4:=hat.c4
 have qf:=fun j=>hbc.fr j
 have qlt:=hbc.lt
 have him:i<m0:=by omega
 have hgn:g≠w3.heap.size:=by omega
 have hz:IsVal (only (fun b=>w.heap.size<=b/\b≠g) w3) w3.heap.size x f:=HI3.out.sub (Ze fun k hk hl=>⟨⟨by omega,by omega⟩,rfl⟩)
 have hset:=(HF3.out.setL (base':=w.heap.size) hw1 (kk:=i) (by rw [<-HL.out];omega) rfl hz (k:=0) (n:=0) (s:= .empty) (by omega) (by omega) (by omega) (by omega) (by decide)).lists.2.2.2.2.1
 obtain rfl:R=l.set i x:=by rw [<-HR.out];rfl
 have HSET:=qh hset
 have hbs:Below w.heap.size w3 (setV w3 g (i*5) f):=((Zi w3 g (i*5) f).below (Nat.le_of_lt qlt)).mono (by omega)
 have HBS:=qh hbs
 clear hb3 hI3 D3 hbc2 hbc hat hz hset hbs
 go_wp2_with fail
 go_returns
 exact ⟨⟨_,_,_,rfl,Y7 HSET.out (Nat.le_refl _) ((Below.refl _ _).alloc (Nat.le_refl _) _)⟩,(HBL3.out.trans HBS.out).alloc (by have:=HBS.out.size;have:=HBL3.out.size;omega) _⟩
set_option maxRecDepth 100000 in
theorem zeh (w:World) (l:List V) (a:Option Addr) (n c:Nat) (hl:IsVals w w.heap.size l a n c) (hfew:n<=100000000) (cc:CC) (x:V) (hx:IsVal w w.heap.size x cc.v) (hc:lCheck n cc.k cc.i cc.j=0) (hk:cc.k=7):
 uP 65 #[.slice a n c, .agg #[.int .u8 cc.k, .slice cc.pa cc.pl cc.pc, .string cc.key, .int .i64 cc.i, .int .i64 cc.j, .int .i64 cc.n, .int .u8 cc.v.k, .int .i64 cc.v.n, .string cc.v.s, .slice cc.v.la cc.v.ll cc.v.lc, .slice cc.v.oa cc.v.ol cc.v.oc, .string cc.s]] w (DoLPost w (listDo l cc.k cc.i cc.j x)):=by
 delta uP
 have hmax:=hl.max
 have hlen:=hl.len
 obtain ⟨_,_,hi0,hi1,hi2,hj⟩:=Yi hc
 have HCK:Hid (∀W,uB w W->uP 110 #[.int .i64 n, .agg #[.int .u8 cc.k, .slice cc.pa cc.pl cc.pc, .string cc.key, .int .i64 cc.i, .int .i64 cc.j, .int .i64 cc.n, .int .u8 cc.v.k, .int .i64 cc.v.n, .string cc.v.s, .slice cc.v.la cc.v.ll cc.v.lc, .slice cc.v.oa cc.v.ol cc.v.oc, .string cc.s]] W fun e w'=>e= .returned (.int .i64 0)/\uB W w'):=fun W hW=>by
  have:=Qk W n (by omega) cc
  rw [hc] at this;exact this
 have HOW:Hid (∀W,uB w W->uP 37 #[.agg #[.int .u8 0, .int .i64 0, .string { data:= #[] }, .slice a n c, .slice none 0 0]] W (CopyPost W 0 0 { data:= #[] } l [])):=fun W hW=>Jj W l a n c (hl.later_ hW)
 have HCV:Hid (∀W,uB w W->uP 37 #[.agg #[.int .u8 cc.v.k, .int .i64 cc.v.n, .string cc.v.s, .slice cc.v.la cc.v.ll cc.v.lc, .slice cc.v.oa cc.v.ol cc.v.oc]] W (NewVal W x)):=fun W hW=>Yz x W cc.v (hx.later_ hW)
 have HBX:=qh (BC.start w #[.int .u8 cc.k, .slice cc.pa cc.pl cc.pc, .string cc.key, .int .i64 cc.i, .int .i64 cc.j, .int .i64 cc.n, .int .u8 cc.v.k, .int .i64 cc.v.n, .string cc.v.s, .slice cc.v.la cc.v.ll cc.v.lc, .slice cc.v.oa cc.v.ol cc.v.oc, .string cc.s] 54)
 have HAL:=qh ((Below.refl _ _).alloc (Nat.le_refl _) (.cells #[.int .u8 cc.k, .slice cc.pa cc.pl cc.pc, .string cc.key, .int .i64 cc.i, .int .i64 cc.j, .int .i64 cc.n, .int .u8 cc.v.k, .int .i64 cc.v.n, .string cc.v.s, .slice cc.v.la cc.v.ll cc.v.lc, .slice cc.v.oa cc.v.ol cc.v.oc, .string cc.s] 54):uB w _)
 obtain ⟨R,hR⟩:∃R,listDo l cc.k cc.i cc.j x=R:=⟨_,rfl⟩
 rw [hR]
 rw [listDo,hk] at hR
 have HL:=qh hlen
 obtain ⟨i,hi⟩:∃i:Nat,cc.i=i:=⟨cc.i.toNat,by omega⟩
 rw [hk] at hi2
 obtain ⟨j,hj2⟩:∃j:Nat,cc.j=j:=⟨cc.j.toNat,by have:=hj hk;omega⟩
 have hj3:j<n:=by have:=hj hk;omega
 rw [hi] at hR hi1 hi2
 rw [hk,hi] at HCK HBX HAL ⊢
 rw [hj2] at hR HCK HBX HAL
 rw [Int.toNat_natCast j] at hR
 rw [Int.toNat_natCast] at hR
 have HR:=qh hR
 clear hl hx hc hlen hR hi hi0 hj
 go_enter Tryz.func65,Tryz.ntmps65
 go_wp2_with fail
 refine (HCK.out _ HAL.out).mono ?_
 rintro e w1 ⟨rfl,hb1⟩
 have HD1:=qh (HBX.out.keep hb1 (by simp))
 have HBL1:=qh (HAL.out.trans (hb1.mono (by simp)))
 clear hb1
 go_wp2_with fail
 refine (HOW.out _ HBL1.out).mono ?_
 rintro e w2 ⟨⟨a0,m0,c0,a1,m1,c1,cl,co,rfl,hF⟩,hb2⟩
 have D2:=HD1.out.keep hb2 HD1.out.lt
 obtain ⟨b0,b1,b2,b3,b4,b5,b6,b7,b8,b9,b10,b11⟩:=row12 D2.at_
 have zs2:=D2.lt
 have HBL2:=qh (HBL1.out.trans (hb2.mono HBL1.out.size))
 have hm0:m0=n:=by rw [hF.len, <-HL.out]
 subst hm0
 have hw12:=hb2.size
 have hw1:=HBL1.out.size
 have HF:=qh hF
 have HD2:=qh D2
 have hfld:=Xd w2 0 0 { data:= #[] } a0 m0 c0 a1 m1 c1
 clear hb2 hF D2
 go_wp2_with fail
 refine (HCV.out _ HBL2.out).mono ?_
 rintro e w3 ⟨⟨f,rfl,hI3⟩,hb3⟩
 have D3:=HD2.out.keep hb3 zs2
 clear b0 b1 b2 b3 b4 b5 b6 b7 b8 b9 b10 b11
 obtain ⟨b0,b1,b2,b3,b4,b5,b6,b7,b8,b9,b10,b11⟩:=row12 D3.at_
 have zs3:=D3.lt
 have HBL3:=qh (HBL2.out.trans (hb3.mono HBL2.out.size))
 have hw23:=hb3.size
 have HF3:=qh (HF.out.later_ hb3)
 have HI3:=qh hI3
 have HAL3:=qh (((Below.refl _ _).alloc (Nat.le_refl _) (.cells #[.int .u8 f.k, .int .i64 f.n, .string f.s, .slice f.la f.ll f.lc, .slice f.oa f.ol f.oc] 29)):uB w3 _)
 obtain ⟨g,eg,hgb,hbc2⟩:=HF.out.ownL.row (.inl (by omega))
 subst eg
 have hg2:=hbc2.lt
 have hbc:=hbc2.keep hb3 hg2
 have hill:i<l.length:=by rw [<-HL.out];omega
 have hil:i<cl.length:=by rw [HF.out.ll];exact hill
 have hat:=Yp hbc hil
 have hpi:=HF3.out.lv i hill hill
 have he:cl.getD i vzero=cl[i] :=by simp [List.getD_eq_getElem?_getD,hil]
 rw [he] at hpi
 obtain ⟨fi,hfi⟩:∃fi,cl[i] =fi:=⟨_,rfl⟩
 rw [hfi] at hat hpi
 have q0:=hat.c0;have q1:=hat.c1;have q2:=hat.c2;have q3:=hat.c3;have q4:=hat.c4
 have qlt:=hbc.lt
 have him:i<m0:=by omega
 have HPI:Hid (∀W,uB w3 W->IsVal (only (fun b=>w.heap.size<=b) W) W.heap.size l[i] fi):=fun W hW=>(hpi.sub (Ze fun k hk hl=>⟨by have:=hk.1;omega,hW.block k hl⟩)).more hW.size
 obtain rfl:R=insL (remL l i) j l[i] :=by
  rw [<-HR.out,if_neg (by omega),if_neg (by omega),if_neg (by omega),List.getD_eq_getElem?_getD,List.getElem?_eq_getElem hill];rfl
 have HWO:Hid (∀W,uB w3 W->uP 112 #[.slice (some ⟨g,0,none⟩) m0 c0, .int .i64 i] W (ListPost W w.heap.size (remL l i))):=fun W hW=>zc0 W w.heap.size (by have:=hW.size;omega) l _ m0 c0 (Y7 HF3.out.vals hw1 hW) i him (by omega)
 have hlr:(remL l i).length=m0 - 1:=by rw [remL,List.length_append,List.length_take,List.length_drop, <-HL.out];omega
 have HLR:=qh hlr
 have HB3:=qh hb3
 clear hb3 hI3 D3 hbc2 hbc hat hpi he hfi hlr
 go_wp2_with fail
 obtain ⟨W3,hW3⟩:∃W3,(w3.alloc (.cells #[.int .u8 f.k, .int .i64 f.n, .string f.s, .slice f.la f.ll f.lc, .slice f.oa f.ol f.oc] 29))=W3:=⟨_,rfl⟩
 have hal3:=HAL3.out
 rw [hW3] at hal3 ⊢
 have hz3:=hal3.size
 have HAL4:=qh hal3
 have HFB:Hid (∀W,Below W3.heap.size W3.drew W->W.cell? ⟨w.heap.size,3,none⟩=some (.int .i64 i)/\W.cell? ⟨w.heap.size,4,none⟩=some (.int .i64 j)/\W.cell? ⟨g,i*5,none⟩=some (.int .u8 fi.k)/\W.cell? ⟨g,i*5+1,none⟩=some (.int .i64 fi.n)/\W.cell? ⟨g,i*5+2,none⟩=some (.string fi.s)/\W.cell? ⟨g,i*5+3,none⟩=some (.slice fi.la fi.ll fi.lc)/\W.cell? ⟨g,i*5+4,none⟩=some (.slice fi.oa fi.ol fi.oc)):=by
  intro W hW
  have hk:∀b o u,b<w3.heap.size->w3.cell? ⟨b,o,none⟩=some u->W.cell? ⟨b,o,none⟩=some u:=fun b o u hb h=>Zb hW (Zb (Zf W3) (Zb HAL4.out h hb) (by omega)) (by omega)
  exact ⟨hk _ _ _ zs3 b3,hk _ _ _ zs3 b4,hk _ _ _ qlt q0,hk _ _ _ qlt q1,hk _ _ _ qlt q2,hk _ _ _ qlt q3,hk _ _ _ qlt q4⟩
 have hdr:∀W,Below W3.heap.size W3.drew W->uB w3 W:=fun W hW=>(HAL4.out.trans ((Zf W3).mono hz3)).trans (hW.mono hz3)
 have HDR:=qh hdr
 clear hal3 hW3 HAL3 hdr
 refine wp_region_noPanic ?_
 go_region_held_law (fun W=>W.cell? ⟨w.heap.size,3,none⟩=some (.int .i64 i)/\W.cell? ⟨w.heap.size,4,none⟩=some (.int .i64 j)/\W.cell? ⟨g,i*5,none⟩=some (.int .u8 fi.k)/\W.cell? ⟨g,i*5+1,none⟩=some (.int .i64 fi.n)/\W.cell? ⟨g,i*5+2,none⟩=some (.string fi.s)/\W.cell? ⟨g,i*5+3,none⟩=some (.slice fi.la fi.ll fi.lc)/\W.cell? ⟨g,i*5+4,none⟩=some (.slice fi.oa fi.ol fi.oc))
  ((refine HFB.out _ ?_;(first|(with_reducible exact Below.refl _ _)|(with_reducible exact bl6)|(with_reducible exact bl5))))
  (first
   |(go_at_call 112;(with_reducible refine (HWO.out _ (HDR.out _ (Below.refl _ _))).mono ?_);rintro e w5 ⟨⟨a5,n5,c5,rfl,hI5,hN5⟩,hb5⟩;have bl5:Below W3.heap.size W3.drew w5:=hb5)
   |(go_at_call 111;refine (zbu w5 w.heap.size (by have:=(HDR.out w5 bl5).size;omega) (remL l i) a5 n5 c5 hI5 hN5 j (by have:=hI5.len;have:=HLR.out;omega) l[i] fi.k fi.n fi.s fi.la fi.ll fi.lc fi.oa fi.ol fi.oc (HPI.out w5 (HDR.out w5 bl5)) (by have:=hI5.len;have:=HLR.out;omega)).mono ?_;rintro e w6 ⟨⟨a6,n6,c6,rfl,hI6,hN6⟩,hb6⟩;have bl6:Below W3.heap.size W3.drew w6:=bl5.trans (hb6.mono bl5.size)))
 all_goals
  refine NoPanic.normal ?_
  go_wp2_with fail
  go_returns
  exact ⟨⟨a6,n6,c6,rfl,hI6⟩,HBL3.out.trans ((HDR.out w6 bl6).mono HBL3.out.size)⟩
theorem zfm (w:World) (l:List V) (a:Option Addr) (n c:Nat) (hl:IsVals w w.heap.size l a n c) (hfew:n<=100000000) (cc:CC) (x:V) (hx:IsVal w w.heap.size x cc.v) (hc:lCheck n cc.k cc.i cc.j=0):
 uP 65 #[.slice a n c, .agg (uC cc)] w (DoLPost w (listDo l cc.k cc.i cc.j x)):=by
 delta uC uP
 obtain ⟨h1,h2,_⟩:=Yi hc
 by_cases e4:cc.k=4
 .exact zfx w l a n c hl hfew cc x hx hc e4
 by_cases e5:cc.k=5
 .exact zer w l a n c hl hfew cc x hx hc e5
 by_cases e6:cc.k=6
 .exact zla w l a n c hl hfew cc x hx hc e6
 .exact zeh w l a n c hl hfew cc x hx hc (by omega)
end Go.Proofs.YtbgheehjfnoiiaaGreatDoor
