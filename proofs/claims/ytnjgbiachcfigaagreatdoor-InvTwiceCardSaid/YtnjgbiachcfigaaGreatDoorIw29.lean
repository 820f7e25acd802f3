/-
  Contracts of the functions that the law reaches: conciliatorref05.Do, where it may be.
-/
import Derived.Test.YtnjgbiachcfigaaGreatDoorIw24
import Derived.Test.YtnjgbiachcfigaaGreatDoorIw28
namespace Go.Proofs.YtnjgbiachcfigaaGreatDoor
open Go.RowKit
set_option maxHeartbeats 16000000
def DoLPost (w:World) (r:List V) (e:Ending) (w':World):Prop:=
 (∃a n c,e= .returned (.tuple #[.slice a n c, .int .i64 0])/\IsVals (only (fun b=>w.heap.size<=b) w') w'.heap.size r a n c)/\Below w.heap.size w w'
theorem zp3 {w W:World} {B0 B1:Nat} {x:V} {c:VC} (h:IsVal (only (fun b=>B1<=b) w) w.heap.size x c) (hB:B0<=B1) (hb:uB w W):IsVal (only (fun b=>B0<=b) W) W.heap.size x c:=
 (h.sub (Zd fun k hk hl=>⟨Nat.le_trans hB hk,hb.block k hl⟩)).more hb.size
theorem Kx (w:World) (l:List V) (a:Option Addr) (n c:Nat) (hl:IsVals w w.heap.size l a n c):uP 30 #[.agg (uU 0 0 { data:= #[] } a n c none 0 0)] w (CopyPost w 0 0 { data:= #[] } l []):=by
 delta uU uP
 have hv:IsVal w w.heap.size (.mk 0 0 .empty l []) ⟨0,0, .empty,a,n,c,none,0,0⟩:=
  IsVal.of_lists (c:=⟨0,0, .empty,a,n,c,none,0,0⟩) ⟨by show (0:Int)<=0;decide,by show (0:Int)<256;decide,by show (-9223372036854775808:Int)<=0;decide,by show (0:Int)<=9223372036854775807;decide,by show ByteArray.empty.size<=140737488355328;decide,hl.cap,hl.max,hl.few,by show (0:Nat)<=0;decide,by show (0:Nat)<=9223372036854775807;decide,by show (0:Nat)<=1466015503701;decide⟩ hl (zay w _)
 exact zbk w (.mk 0 0 .empty l []) 0 0 { data:= #[] } a n c none 0 0 hv
theorem Fresh.neat {w:World} {base:Nat} {l:List V} {o:List (ByteArray×V)} {a:Option Addr} {m c:Nat} {a':Option Addr} {m' c':Nat} {cl:List VC} {co:List (ByteArray×VC)} (h:Fresh w base l o a m c a' m' c' cl co):Neat2 a c:=by
 cases ha:a with
 | none=>
   by_cases hm:0<m
   .obtain ⟨g,e,_⟩:=h.ownL.row (.inl hm)
    rw [ha] at e;cases e
   .exact .inl ⟨rfl,h.ownL.none_ (by omega) ha⟩
 | some ad=>
   obtain ⟨g,e,_⟩:=h.ownL.row (.inr (by rw [ha];simp))
   rw [ha] at e
   exact .inr ⟨g,0,e⟩
theorem Fresh.vals {w:World} {base:Nat} {l:List V} {o:List (ByteArray×V)} {a:Option Addr} {m c:Nat} {a':Option Addr} {m' c':Nat} {cl:List VC} {co:List (ByteArray×VC)} (h:Fresh w base l o a m c a' m' c' cl co):IsVals (only (fun b=>base<=b) w) w.heap.size l a m c:=
 (h.val (k:=0) (n:=0) (s:= .empty) (by omega) (by omega) (by omega) (by omega) (by decide)).lists.2.2.2.2.1
set_option maxRecDepth 100000 in
theorem zla (w:World) (l:List V) (a:Option Addr) (n c:Nat) (hl:IsVals w w.heap.size l a n c) (hfew:n<=100000000) (cc:CC) (x:V) (hx:IsVal w w.heap.size x cc.v) (hc:lCheck n cc.k cc.i cc.j=0) (hk:cc.k=4):
 uP 50 #[.slice a n c, .agg #[.int .u8 cc.k, .slice cc.pa cc.pl cc.pc, .string cc.key, .int .i64 cc.i, .int .i64 cc.j, .int .i64 cc.n, .int .u8 cc.v.k, .int .i64 cc.v.n, .string cc.v.s, .slice cc.v.la cc.v.ll cc.v.lc, .slice cc.v.oa cc.v.ol cc.v.oc, .string cc.s]] w (DoLPost w (listDo l cc.k cc.i cc.j x)):=by
 delta uP
 have hmax:=hl.max
 have hlen:=hl.len
 obtain ⟨_,_,hi0,hi1,hi2,hj⟩:=Yx hc
 have HCK:Hid (∀W,uB w W->uP 87 #[.int .i64 n, .agg #[.int .u8 cc.k, .slice cc.pa cc.pl cc.pc, .string cc.key, .int .i64 cc.i, .int .i64 cc.j, .int .i64 cc.n, .int .u8 cc.v.k, .int .i64 cc.v.n, .string cc.v.s, .slice cc.v.la cc.v.ll cc.v.lc, .slice cc.v.oa cc.v.ol cc.v.oc, .string cc.s]] W fun e w'=>e= .returned (.int .i64 0)/\uB W w'):=fun W hW=>by
  have:=Q9 W n (by omega) cc
  rw [hc] at this;exact this
 have HOW:Hid (∀W,uB w W->uP 30 #[.agg #[.int .u8 0, .int .i64 0, .string { data:= #[] }, .slice a n c, .slice none 0 0]] W (CopyPost W 0 0 { data:= #[] } l [])):=fun W hW=>Kx W l a n c (hl.later_ hW)
 have HCV:Hid (∀W,uB w W->uP 30 #[.agg #[.int .u8 cc.v.k, .int .i64 cc.v.n, .string cc.v.s, .slice cc.v.la cc.v.ll cc.v.lc, .slice cc.v.oa cc.v.ol cc.v.oc]] W (NewVal W x)):=fun W hW=>Yp x W cc.v (hx.later_ hW)
 have HBX:=qh (BC.start w #[.int .u8 cc.k, .slice cc.pa cc.pl cc.pc, .string cc.key, .int .i64 cc.i, .int .i64 cc.j, .int .i64 cc.n, .int .u8 cc.v.k, .int .i64 cc.v.n, .string cc.v.s, .slice cc.v.la cc.v.ll cc.v.lc, .slice cc.v.oa cc.v.ol cc.v.oc, .string cc.s] 39)
 have HAL:=qh ((Below.refl _ _).alloc (Nat.le_refl _) (.cells #[.int .u8 cc.k, .slice cc.pa cc.pl cc.pc, .string cc.key, .int .i64 cc.i, .int .i64 cc.j, .int .i64 cc.n, .int .u8 cc.v.k, .int .i64 cc.v.n, .string cc.v.s, .slice cc.v.la cc.v.ll cc.v.lc, .slice cc.v.oa cc.v.ol cc.v.oc, .string cc.s] 39):uB w _)
 obtain ⟨R,hR⟩:∃R,listDo l cc.k cc.i cc.j x=R:=⟨_,rfl⟩
 rw [hR]
 rw [listDo,hk] at hR
 have HL:=qh hlen
 obtain ⟨i,hi⟩:∃i:Nat,cc.i=i:=⟨cc.i.toNat,by omega⟩
 rw [hi] at hR hi1 hi2
 rw [hk,hi] at HCK HBX HAL ⊢
 rw [Int.toNat_natCast] at hR
 have HR:=qh hR
 clear hl hx hc hlen hR hi hi0 hj
 go_enter Tryz.func50,Tryz.ntmps50
 go_wp2_with fail
 refine (HCK.out _ HAL.out).mono ?_
 rintro e w1 ⟨rfl,hb1⟩
 have HD1:=qh (HBX.out.keep hb1 (by simp))
 have HBL1:=qh (HAL.out.trans (hb1.mono (by simp)))
 clear hb1
 go_wp2_with fail
 refine (HOW.out _ HBL1.out).mono ?_
 rintro e w2 ⟨⟨a0,m0,c0,a1,m1,c1,cl,co,rfl,hF⟩,hb2⟩
 have D2:=HD1.out.keep hb2 HD1.out.lt
 obtain ⟨b0,b1,b2,b3,b4,b5,b6,b7,b8,b9,b10,b11⟩:=row12 D2.at_
 have zs2:=D2.lt
 have HBL2:=qh (HBL1.out.trans (hb2.mono HBL1.out.size))
 have hm0:m0=n:=by rw [hF.len, <-HL.out]
 subst hm0
 have hw12:=hb2.size
 have hw1:=HBL1.out.size
 have HF:=qh hF
 have HD2:=qh D2
 have hfld:=Xl w2 0 0 { data:= #[] } a0 m0 c0 a1 m1 c1
 clear hb2 hF D2
 go_wp2_with fail
 refine (HCV.out _ HBL2.out).mono ?_
 rintro e w3 ⟨⟨f,rfl,hI3⟩,hb3⟩
 have D3:=HD2.out.keep hb3 zs2
 clear b0 b1 b2 b3 b4 b5 b6 b7 b8 b9 b10 b11
 obtain ⟨b0,b1,b2,b3,b4,b5,b6,b7,b8,b9,b10,b11⟩:=row12 D3.at_
 have zs3:=D3.lt
 have HBL3:=qh (HBL2.out.trans (hb3.mono HBL2.out.size))
 have hw23:=hb3.size
 have HF3:=qh (HF.out.later_ hb3)
 have HI3:=qh hI3
 have HAL3:=qh (((Below.refl _ _).alloc (Nat.le_refl _) (.cells #[.int .u8 f.k, .int .i64 f.n, .string f.s, .slice f.la f.ll f.lc, .slice f.oa f.ol f.oc] 36)):uB w3 _)
 have HW:Hid (uP 88 #[.slice a0 m0 c0, .int .i64 i, .agg #[.int .u8 f.k, .int .i64 f.n, .string f.s, .slice f.la f.ll f.lc, .slice f.oa f.ol f.oc]] (w3.alloc (.cells #[.int .u8 f.k, .int .i64 f.n, .string f.s, .slice f.la f.ll f.lc, .slice f.oa f.ol f.oc] 36)) (ListPost (w3.alloc (.cells #[.int .u8 f.k, .int .i64 f.n, .string f.s, .slice f.la f.ll f.lc, .slice f.oa f.ol f.oc] 36)) w.heap.size (insL l i x))):=zbz (w3.alloc (.cells #[.int .u8 f.k, .int .i64 f.n, .string f.s, .slice f.la f.ll f.lc, .slice f.oa f.ol f.oc] 36)) w.heap.size (by simp;omega) l a0 m0 c0 (Xm HF3.out.vals hw1 HAL3.out) HF3.out.neat i (by omega) x f.k f.n f.s f.la f.ll f.lc f.oa f.ol f.oc (zp3 HI3.out (by omega) HAL3.out) (by omega)
 obtain rfl:R=insL l i x:=by rw [<-HR.out];rfl
 clear hb3 hI3 D3
 go_wp2_with fail
 refine HW.out.mono ?_
 rintro e w5 ⟨⟨a5,n5,c5,rfl,hI5,_⟩,hb5⟩
 go_wp2_with fail
 go_returns
 exact ⟨⟨a5,n5,c5,rfl,hI5⟩,(HBL3.out.trans (HAL3.out.mono HBL3.out.size)).trans (hb5.mono (by simp;omega))⟩
set_option maxRecDepth 100000 in
theorem zmc (w:World) (l:List V) (a:Option Addr) (n c:Nat) (hl:IsVals w w.heap.size l a n c) (hfew:n<=100000000) (cc:CC) (x:V) (hx:IsVal w w.heap.size x cc.v) (hc:lCheck n cc.k cc.i cc.j=0) (hk:cc.k=5):
 uP 50 #[.slice a n c, .agg #[.int .u8 cc.k, .slice cc.pa cc.pl cc.pc, .string cc.key, .int .i64 cc.i, .int .i64 cc.j, .int .i64 cc.n, .int .u8 cc.v.k, .int .i64 cc.v.n, .string cc.v.s, .slice cc.v.la cc.v.ll cc.v.lc, .slice cc.v.oa cc.v.ol cc.v.oc, .string cc.s]] w (DoLPost w (listDo l cc.k cc.i cc.j x)):=by
 delta uP
 have hmax:=hl.max
 have hlen:=hl.len
 obtain ⟨_,_,hi0,hi1,hi2,hj⟩:=Yx hc
 have HCK:Hid (∀W,uB w W->uP 87 #[.int .i64 n, .agg #[.int .u8 cc.k, .slice cc.pa cc.pl cc.pc, .string cc.key, .int .i64 cc.i, .int .i64 cc.j, .int .i64 cc.n, .int .u8 cc.v.k, .int .i64 cc.v.n, .string cc.v.s, .slice cc.v.la cc.v.ll cc.v.lc, .slice cc.v.oa cc.v.ol cc.v.oc, .string cc.s]] W fun e w'=>e= .returned (.int .i64 0)/\uB W w'):=fun W hW=>by
  have:=Q9 W n (by omega) cc
  rw [hc] at this;exact this
 have HOW:Hid (∀W,uB w W->uP 30 #[.agg #[.int .u8 0, .int .i64 0, .string { data:= #[] }, .slice a n c, .slice none 0 0]] W (CopyPost W 0 0 { data:= #[] } l [])):=fun W hW=>Kx W l a n c (hl.later_ hW)
 have HCV:Hid (∀W,uB w W->uP 30 #[.agg #[.int .u8 cc.v.k, .int .i64 cc.v.n, .string cc.v.s, .slice cc.v.la cc.v.ll cc.v.lc, .slice cc.v.oa cc.v.ol cc.v.oc]] W (NewVal W x)):=fun W hW=>Yp x W cc.v (hx.later_ hW)
 have HBX:=qh (BC.start w #[.int .u8 cc.k, .slice cc.pa cc.pl cc.pc, .string cc.key, .int .i64 cc.i, .int .i64 cc.j, .int .i64 cc.n, .int .u8 cc.v.k, .int .i64 cc.v.n, .string cc.v.s, .slice cc.v.la cc.v.ll cc.v.lc, .slice cc.v.oa cc.v.ol cc.v.oc, .string cc.s] 39)
 have HAL:=qh ((Below.refl _ _).alloc (Nat.le_refl _) (.cells #[.int .u8 cc.k, .slice cc.pa cc.pl cc.pc, .string cc.key, .int .i64 cc.i, .int .i64 cc.j, .int .i64 cc.n, .int .u8 cc.v.k, .int .i64 cc.v.n, .string cc.v.s, .slice cc.v.la cc.v.ll cc.v.lc, .slice cc.v.oa cc.v.ol cc.v.oc, .string cc.s] 39):uB w _)
 obtain ⟨R,hR⟩:∃R,listDo l cc.k cc.i cc.j x=R:=⟨_,rfl⟩
 rw [hR]
 rw [listDo,hk] at hR
 have HL:=qh hlen
 obtain ⟨i,hi⟩:∃i:Nat,cc.i=i:=⟨cc.i.toNat,by omega⟩
 rw [hi] at hR hi1 hi2
 rw [hk,hi] at HCK HBX HAL ⊢
 rw [Int.toNat_natCast] at hR
 have HR:=qh hR
 clear hl hx hc hlen hR hi hi0 hj
 go_enter Tryz.func50,Tryz.ntmps50
 go_wp2_with fail
 refine (HCK.out _ HAL.out).mono ?_
 rintro e w1 ⟨rfl,hb1⟩
 have HD1:=qh (HBX.out.keep hb1 (by simp))
 have HBL1:=qh (HAL.out.trans (hb1.mono (by simp)))
 clear hb1
 go_wp2_with fail
 refine (HOW.out _ HBL1.out).mono ?_
 rintro e w2 ⟨⟨a0,m0,c0,a1,m1,c1,cl,co,rfl,hF⟩,hb2⟩
 have D2:=HD1.out.keep hb2 HD1.out.lt
 obtain ⟨b0,b1,b2,b3,b4,b5,b6,b7,b8,b9,b10,b11⟩:=row12 D2.at_
 have zs2:=D2.lt
 have HBL2:=qh (HBL1.out.trans (hb2.mono HBL1.out.size))
 have hm0:m0=n:=by rw [hF.len, <-HL.out]
 subst hm0
 have hw12:=hb2.size
 have hw1:=HBL1.out.size
 have HF:=qh hF
 have HD2:=qh D2
 have hfld:=Xl w2 0 0 { data:= #[] } a0 m0 c0 a1 m1 c1
 clear hb2 hF D2
 go_wp2_with fail
 refine (HCV.out _ HBL2.out).mono ?_
 rintro e w3 ⟨⟨f,rfl,hI3⟩,hb3⟩
 have D3:=HD2.out.keep hb3 zs2
 clear b0 b1 b2 b3 b4 b5 b6 b7 b8 b9 b10 b11
 obtain ⟨b0,b1,b2,b3,b4,b5,b6,b7,b8,b9,b10,b11⟩:=row12 D3.at_
 have zs3:=D3.lt
 have HBL3:=qh (HBL2.out.trans (hb3.mono HBL2.out.size))
 have hw23:=hb3.size
 have HF3:=qh (HF.out.later_ hb3)
 have HI3:=qh hI3
 have HAL3:=qh (((Below.refl _ _).alloc (Nat.le_refl _) (.cells #[.int .u8 f.k, .int .i64 f.n, .string f.s, .slice f.la f.ll f.lc, .slice f.oa f.ol f.oc] 36)):uB w3 _)
 have HW:Hid (uP 89 #[.slice a0 m0 c0, .int .i64 i] (w3.alloc (.cells #[.int .u8 f.k, .int .i64 f.n, .string f.s, .slice f.la f.ll f.lc, .slice f.oa f.ol f.oc] 36)) (ListPost (w3.alloc (.cells #[.int .u8 f.k, .int .i64 f.n, .string f.s, .slice f.la f.ll f.lc, .slice f.oa f.ol f.oc] 36)) w.heap.size (remL l i))):=zci (w3.alloc (.cells #[.int .u8 f.k, .int .i64 f.n, .string f.s, .slice f.la f.ll f.lc, .slice f.oa f.ol f.oc] 36)) w.heap.size (by simp;omega) l a0 m0 c0 (Xm HF3.out.vals hw1 HAL3.out) i (by omega) (by omega)
 obtain rfl:R=remL l i:=by rw [<-HR.out];rfl
 clear hb3 hI3 D3
 go_wp2_with fail
 refine HW.out.mono ?_
 rintro e w5 ⟨⟨a5,n5,c5,rfl,hI5,_⟩,hb5⟩
 go_wp2_with fail
 go_returns
 exact ⟨⟨a5,n5,c5,rfl,hI5⟩,(HBL3.out.trans (HAL3.out.mono HBL3.out.size)).trans (hb5.mono (by simp;omega))⟩
set_option maxRecDepth 100000 in
theorem zjk (w:World) (l:List V) (a:Option Addr) (n c:Nat) (hl:IsVals w w.heap.size l a n c) (hfew:n<=100000000) (cc:CC) (x:V) (hx:IsVal w w.heap.size x cc.v) (hc:lCheck n cc.k cc.i cc.j=0) (hk:cc.k=6):
 uP 50 #[.slice a n c, .agg #[.int .u8 cc.k, .slice cc.pa cc.pl cc.pc, .string cc.key, .int .i64 cc.i, .int .i64 cc.j, .int .i64 cc.n, .int .u8 cc.v.k, .int .i64 cc.v.n, .string cc.v.s, .slice cc.v.la cc.v.ll cc.v.lc, .slice cc.v.oa cc.v.ol cc.v.oc, .string cc.s]] w (DoLPost w (listDo l cc.k cc.i cc.j x)):=by
 delta uP
 have hmax:=hl.max
 have hlen:=hl.len
 obtain ⟨_,_,hi0,hi1,hi2,hj⟩:=Yx hc
 have HCK:Hid (∀W,uB w W->uP 87 #[.int .i64 n, .agg #[.int .u8 cc.k, .slice cc.pa cc.pl cc.pc, .string cc.key, .int .i64 cc.i, .int .i64 cc.j, .int .i64 cc.n, .int .u8 cc.v.k, .int .i64 cc.v.n, .string cc.v.s, .slice cc.v.la cc.v.ll cc.v.lc, .slice cc.v.oa cc.v.ol cc.v.oc, .string cc.s]] W fun e w'=>e= .returned (.int .i64 0)/\uB W w'):=fun W hW=>by
  have:=Q9 W n (by omega) cc
  rw [hc] at this;exact this
 have HOW:Hid (∀W,uB w W->uP 30 #[.agg #[.int .u8 0, .int .i64 0, .string { data:= #[] }, .slice a n c, .slice none 0 0]] W (CopyPost W 0 0 { data:= #[] } l [])):=fun W hW=>Kx W l a n c (hl.later_ hW)
 have HCV:Hid (∀W,uB w W->uP 30 #[.agg #[.int .u8 cc.v.k, .int .i64 cc.v.n, .string cc.v.s, .slice cc.v.la cc.v.ll cc.v.lc, .slice cc.v.oa cc.v.ol cc.v.oc]] W (NewVal W x)):=fun W hW=>Yp x W cc.v (hx.later_ hW)
 have HBX:=qh (BC.start w #[.int .u8 cc.k, .slice cc.pa cc.pl cc.pc, .string cc.key, .int .i64 cc.i, .int .i64 cc.j, .int .i64 cc.n, .int .u8 cc.v.k, .int .i64 cc.v.n, .string cc.v.s, .slice cc.v.la cc.v.ll cc.v.lc, .slice cc.v.oa cc.v.ol cc.v.oc, .string cc.s] 39)
 have HAL:=qh ((Below.refl _ _).alloc (Nat.le_refl _) (.cells #[.int .u8 cc.k, .slice cc.pa cc.pl cc.pc, .string cc.key, .int .i64 cc.i, .int .i64 cc.j, .int .i64 cc.n, .int .u8 cc.v.k, .int .i64 cc.v.n, .string cc.v.s, .slice cc.v.la cc.v.ll cc.v.lc, .slice cc.v.oa cc.v.ol cc.v.oc, .string cc.s] 39):uB w _)
 obtain ⟨R,hR⟩:∃R,listDo l cc.k cc.i cc.j x=R:=⟨_,rfl⟩
 rw [hR]
 rw [listDo,hk] at hR
 have HL:=qh hlen
 obtain ⟨i,hi⟩:∃i:Nat,cc.i=i:=⟨cc.i.toNat,by omega⟩
 rw [hk] at hi2
 rw [hi] at hR hi1 hi2
 rw [hk,hi] at HCK HBX HAL ⊢
 rw [Int.toNat_natCast] at hR
 have HR:=qh hR
 clear hl hx hc hlen hR hi hi0 hj
 go_enter Tryz.func50,Tryz.ntmps50
 go_wp2_with fail
 refine (HCK.out _ HAL.out).mono ?_
 rintro e w1 ⟨rfl,hb1⟩
 have HD1:=qh (HBX.out.keep hb1 (by simp))
 have HBL1:=qh (HAL.out.trans (hb1.mono (by simp)))
 clear hb1
 go_wp2_with fail
 refine (HOW.out _ HBL1.out).mono ?_
 rintro e w2 ⟨⟨a0,m0,c0,a1,m1,c1,cl,co,rfl,hF⟩,hb2⟩
 have D2:=HD1.out.keep hb2 HD1.out.lt
 obtain ⟨b0,b1,b2,b3,b4,b5,b6,b7,b8,b9,b10,b11⟩:=row12 D2.at_
 have zs2:=D2.lt
 have HBL2:=qh (HBL1.out.trans (hb2.mono HBL1.out.size))
 have hm0:m0=n:=by rw [hF.len, <-HL.out]
 subst hm0
 have hw12:=hb2.size
 have hw1:=HBL1.out.size
 have HF:=qh hF
 have HD2:=qh D2
 have hfld:=Xl w2 0 0 { data:= #[] } a0 m0 c0 a1 m1 c1
 clear hb2 hF D2
 go_wp2_with fail
 refine (HCV.out _ HBL2.out).mono ?_
 rintro e w3 ⟨⟨f,rfl,hI3⟩,hb3⟩
 have D3:=HD2.out.keep hb3 zs2
 clear b0 b1 b2 b3 b4 b5 b6 b7 b8 b9 b10 b11
 obtain ⟨b0,b1,b2,b3,b4,b5,b6,b7,b8,b9,b10,b11⟩:=row12 D3.at_
 have zs3:=D3.lt
 have HBL3:=qh (HBL2.out.trans (hb3.mono HBL2.out.size))
 have hw23:=hb3.size
 have HF3:=qh (HF.out.later_ hb3)
 have HI3:=qh hI3
 have HAL3:=qh (((Below.refl _ _).alloc (Nat.le_refl _) (.cells #[.int .u8 f.k, .int .i64 f.n, .string f.s, .slice f.la f.ll f.lc, .slice f.oa f.ol f.oc] 36)):uB w3 _)
 obtain ⟨g,eg,hgb,hbc2⟩:=HF.out.ownL.row (.inl (by omega))
 subst eg
 have hg2:=hbc2.lt
 have hbc:=hbc2.keep hb3 hg2
 have hil:i<cl.length:=by rw [HF.out.ll, <-HL.out];omega
 have hat:=Y2 hbc hil
 have q0:=hat.c0;have q1:=hat.c1;have q2:=hat.c2;have q3:=hat.c3;have q4:=hat.c4
 have qf:=fun j=>hbc.fr j
 have qlt:=hbc.lt
 have him:i<m0:=by omega
 have hgn:g≠w3.heap.size:=by omega
 have hz:IsVal (only (fun b=>w.heap.size<=b/\b≠g) w3) w3.heap.size x f:=HI3.out.sub (Zd fun k hk hl=>⟨⟨by omega,by omega⟩,rfl⟩)
 have hset:=(HF3.out.setL (base':=w.heap.size) hw1 (kk:=i) (by rw [<-HL.out];omega) rfl hz (k:=0) (n:=0) (s:= .empty) (by omega) (by omega) (by omega) (by omega) (by decide)).lists.2.2.2.2.1
 obtain rfl:R=l.set i x:=by rw [<-HR.out];rfl
 have HSET:=qh hset
 have hbs:Below w.heap.size w3 (setV w3 g (i*5) f):=((Zi w3 g (i*5) f).below (Nat.le_of_lt qlt)).mono (by omega)
 have HBS:=qh hbs
 clear hb3 hI3 D3 hbc2 hbc hat hz hset hbs
 go_wp2_with fail
 go_returns
 exact ⟨⟨_,_,_,rfl,Xm HSET.out (Nat.le_refl _) ((Below.refl _ _).alloc (Nat.le_refl _) _)⟩,(HBL3.out.trans HBS.out).alloc (by have:=HBS.out.size;have:=HBL3.out.size;omega) _⟩
set_option maxRecDepth 100000 in
theorem zik (w:World) (l:List V) (a:Option Addr) (n c:Nat) (hl:IsVals w w.heap.size l a n c) (hfew:n<=100000000) (cc:CC) (x:V) (hx:IsVal w w.heap.size x cc.v) (hc:lCheck n cc.k cc.i cc.j=0) (hk:cc.k=7):
 uP 50 #[.slice a n c, .agg #[.int .u8 cc.k, .slice cc.pa cc.pl cc.pc, .string cc.key, .int .i64 cc.i, .int .i64 cc.j, .int .i64 cc.n, .int .u8 cc.v.k, .int .i64 cc.v.n, .string cc.v.s, .slice cc.v.la cc.v.ll cc.v.lc, .slice cc.v.oa cc.v.ol cc.v.oc, .string cc.s]] w (DoLPost w (listDo l cc.k cc.i cc.j x)):=by
 delta uP
 have hmax:=hl.max
 have hlen:=hl.len
 obtain ⟨_,_,hi0,hi1,hi2,hj⟩:=Yx hc
 have HCK:Hid (∀W,uB w W->uP 87 #[.int .i64 n, .agg #[.int .u8 cc.k, .slice cc.pa cc.pl cc.pc, .string cc.key, .int .i64 cc.i, .int .i64 cc.j, .int .i64 cc.n, .int .u8 cc.v.k, .int .i64 cc.v.n, .string cc.v.s, .slice cc.v.la cc.v.ll cc.v.lc, .slice cc.v.oa cc.v.ol cc.v.oc, .string cc.s]] W fun e w'=>e= .returned (.int .i64 0)/\uB W w'):=fun W hW=>by
  have:=Q9 W n (by omega) cc
  rw [hc] at this;exact this
 have HOW:Hid (∀W,uB w W->uP 30 #[.agg #[.int .u8 0, .int .i64 0, .string { data:= #[] }, .slice a n c, .slice none 0 0]] W (CopyPost W 0 0 { data:= #[] } l [])):=fun W hW=>Kx W l a n c (hl.later_ hW)
 have HCV:Hid (∀W,uB w W->uP 30 #[.agg #[.int .u8 cc.v.k, .int .i64 cc.v.n, .string cc.v.s, .slice cc.v.la cc.v.ll cc.v.lc, .slice cc.v.oa cc.v.ol cc.v.oc]] W (NewVal W x)):=fun W hW=>Yp x W cc.v (hx.later_ hW)
 have HBX:=qh (BC.start w #[.int .u8 cc.k, .slice cc.pa cc.pl cc.pc, .string cc.key, .int .i64 cc.i, .int .i64 cc.j, .int .i64 cc.n, .int .u8 cc.v.k, .int .i64 cc.v.n, .string cc.v.s, .slice cc.v.la cc.v.ll cc.v.lc, .slice cc.v.oa cc.v.ol cc.v.oc, .string cc.s] 39)
 have HAL:=qh ((Below.refl _ _).alloc (Nat.le_refl _) (.cells #[.int .u8 cc.k, .slice cc.pa cc.pl cc.pc, .string cc.key, .int .i64 cc.i, .int .i64 cc.j, .int .i64 cc.n, .int .u8 cc.v.k, .int .i64 cc.v.n, .string cc.v.s, .slice cc.v.la cc.v.ll cc.v.lc, .slice cc.v.oa cc.v.ol cc.v.oc, .string cc.s] 39):uB w _)
 obtain ⟨R,hR⟩:∃R,listDo l cc.k cc.i cc.j x=R:=⟨_,rfl⟩
 rw [hR]
 rw [listDo,hk] at hR
 have HL:=qh hlen
 obtain ⟨i,hi⟩:∃i:Nat,cc.i=i:=⟨cc.i.toNat,by omega⟩
 rw [hk] at hi2
 obtain ⟨j,hj2⟩:∃j:Nat,cc.j=j:=⟨cc.j.toNat,by have:=hj hk;omega⟩
 have hj3:j<n:=by have:=hj hk;omega
 rw [hi] at hR hi1 hi2
 rw [hk,hi] at HCK HBX HAL ⊢
 rw [hj2] at hR HCK HBX HAL
 rw [Int.toNat_natCast j] at hR
 rw [Int.toNat_natCast] at hR
 have HR:=qh hR
 clear hl hx hc hlen hR hi hi0 hj
 go_enter Tryz.func50,Tryz.ntmps50
 go_wp2_with fail
 refine (HCK.out _ HAL.out).mono ?_
 rintro e w1 ⟨rfl,hb1⟩
 have HD1:=qh (HBX.out.keep hb1 (by simp))
 have HBL1:=qh (HAL.out.trans (hb1.mono (by simp)))
 clear hb1
 go_wp2_with fail
 refine (HOW.out _ HBL1.out).mono ?_
 rintro e w2 ⟨⟨a0,m0,c0,a1,m1,c1,cl,co,rfl,hF⟩,hb2⟩
 have D2:=HD1.out.keep hb2 HD1.out.lt
 obtain ⟨b0,b1,b2,b3,b4,b5,b6,b7,b8,b9,b10,b11⟩:=row12 D2.at_
 have zs2:=D2.lt
 have HBL2:=qh (HBL1.out.trans (hb2.mono HBL1.out.size))
 have hm0:m0=n:=by rw [hF.len, <-HL.out]
 subst hm0
 have hw12:=hb2.size
 have hw1:=HBL1.out.size
 have HF:=qh hF
 have HD2:=qh D2
 have hfld:=Xl w2 0 0 { data:= #[] } a0 m0 c0 a1 m1 c1
 clear hb2 hF D2
 go_wp2_with fail
 refine (HCV.out _ HBL2.out).mono ?_
 rintro e w3 ⟨⟨f,rfl,hI3⟩,hb3⟩
 have D3:=HD2.out.keep hb3 zs2
 clear b0 b1 b2 b3 b4 b5 b6 b7 b8 b9 b10 b11
 obtain ⟨b0,b1,b2,b3,b4,b5,b6,b7,b8,b9,b10,b11⟩:=row12 D3.at_
 have zs3:=D3.lt
 have HBL3:=qh (HBL2.out.trans (hb3.mono HBL2.out.size))
 have hw23:=hb3.size
 have HF3:=qh (HF.out.later_ hb3)
 have HI3:=qh hI3
 have HAL3:=qh (((Below.refl _ _).alloc (Nat.le_refl _) (.cells #[.int .u8 f.k, .int .i64 f.n, .string f.s, .slice f.la f.ll f.lc, .slice f.oa f.ol f.oc] 36)):uB w3 _)
 obtain ⟨g,eg,hgb,hbc2⟩:=HF.out.ownL.row (.inl (by omega))
 subst eg
 have hg2:=hbc2.lt
 have hbc:=hbc2.keep hb3 hg2
 have hill:i<l.length:=by rw [<-HL.out];omega
 have hil:i<cl.length:=by rw [HF.out.ll];exact hill
 have hat:=Y2 hbc hil
 have hpi:=HF3.out.lv i hill hill
 have he:cl.getD i vzero=cl[i] :=by simp [List.getD_eq_getElem?_getD,hil]
 rw [he] at hpi
 obtain ⟨fi,hfi⟩:∃fi,cl[i] =fi:=⟨_,rfl⟩
 rw [hfi] at hat hpi
 have q0:=hat.c0;have q1:=hat.c1;have q2:=hat.c2;have q3:=hat.c3;have q4:=hat.c4
 have qlt:=hbc.lt
 have him:i<m0:=by omega
 have HPI:Hid (∀W,uB w3 W->IsVal (only (fun b=>w.heap.size<=b) W) W.heap.size l[i] fi):=fun W hW=>(hpi.sub (Zd fun k hk hl=>⟨by have:=hk.1;omega,hW.block k hl⟩)).more hW.size
 obtain rfl:R=insL (remL l i) j l[i] :=by
  rw [<-HR.out,if_neg (by omega),if_neg (by omega),if_neg (by omega),List.getD_eq_getElem?_getD,List.getElem?_eq_getElem hill];rfl
 have HWO:Hid (∀W,uB w3 W->uP 89 #[.slice (some ⟨g,0,none⟩) m0 c0, .int .i64 i] W (ListPost W w.heap.size (remL l i))):=fun W hW=>zci W w.heap.size (by have:=hW.size;omega) l _ m0 c0 (Xm HF3.out.vals hw1 hW) i him (by omega)
 have hlr:(remL l i).length=m0 - 1:=by rw [remL,List.length_append,List.length_take,List.length_drop, <-HL.out];omega
 have HLR:=qh hlr
 have HB3:=qh hb3
 clear hb3 hI3 D3 hbc2 hbc hat hpi he hfi hlr
 go_wp2_with fail
 obtain ⟨W3,hW3⟩:∃W3,(w3.alloc (.cells #[.int .u8 f.k, .int .i64 f.n, .string f.s, .slice f.la f.ll f.lc, .slice f.oa f.ol f.oc] 36))=W3:=⟨_,rfl⟩
 have hal3:=HAL3.out
 rw [hW3] at hal3 ⊢
 have hz3:=hal3.size
 have HAL4:=qh hal3
 have HFB:Hid (∀W,Below W3.heap.size W3.drew W->W.cell? ⟨w.heap.size,3,none⟩=some (.int .i64 i)/\W.cell? ⟨w.heap.size,4,none⟩=some (.int .i64 j)/\W.cell? ⟨g,i*5,none⟩=some (.int .u8 fi.k)/\W.cell? ⟨g,i*5+1,none⟩=some (.int .i64 fi.n)/\W.cell? ⟨g,i*5+2,none⟩=some (.string fi.s)/\W.cell? ⟨g,i*5+3,none⟩=some (.slice fi.la fi.ll fi.lc)/\W.cell? ⟨g,i*5+4,none⟩=some (.slice fi.oa fi.ol fi.oc)):=by
  intro W hW
  have hk:∀b o u,b<w3.heap.size->w3.cell? ⟨b,o,none⟩=some u->W.cell? ⟨b,o,none⟩=some u:=fun b o u hb h=>Za hW (Za (Zf W3) (Za HAL4.out h hb) (by omega)) (by omega)
  exact ⟨hk _ _ _ zs3 b3,hk _ _ _ zs3 b4,hk _ _ _ qlt q0,hk _ _ _ qlt q1,hk _ _ _ qlt q2,hk _ _ _ qlt q3,hk _ _ _ qlt q4⟩
 have hdr:∀W,Below W3.heap.size W3.drew W->uB w3 W:=fun W hW=>(HAL4.out.trans ((Zf W3).mono hz3)).trans (hW.mono hz3)
 have HDR:=qh hdr
 clear hal3 hW3 HAL3 hdr
 refine wp_region_noPanic ?_
 go_region_held_law (fun W=>W.cell? ⟨w.heap.size,3,none⟩=some (.int .i64 i)/\W.cell? ⟨w.heap.size,4,none⟩=some (.int .i64 j)/\W.cell? ⟨g,i*5,none⟩=some (.int .u8 fi.k)/\W.cell? ⟨g,i*5+1,none⟩=some (.int .i64 fi.n)/\W.cell? ⟨g,i*5+2,none⟩=some (.string fi.s)/\W.cell? ⟨g,i*5+3,none⟩=some (.slice fi.la fi.ll fi.lc)/\W.cell? ⟨g,i*5+4,none⟩=some (.slice fi.oa fi.ol fi.oc))
  ((refine HFB.out _ ?_;(first|(with_reducible exact Below.refl _ _)|(with_reducible exact bl6)|(with_reducible exact bl5))))
  (first
   |(go_at_call 89;(with_reducible refine (HWO.out _ (HDR.out _ (Below.refl _ _))).mono ?_);rintro e w5 ⟨⟨a5,n5,c5,rfl,hI5,hN5⟩,hb5⟩;have bl5:Below W3.heap.size W3.drew w5:=hb5)
   |(go_at_call 88;refine (zbz w5 w.heap.size (by have:=(HDR.out w5 bl5).size;omega) (remL l i) a5 n5 c5 hI5 hN5 j (by have:=hI5.len;have:=HLR.out;omega) l[i] fi.k fi.n fi.s fi.la fi.ll fi.lc fi.oa fi.ol fi.oc (HPI.out w5 (HDR.out w5 bl5)) (by have:=hI5.len;have:=HLR.out;omega)).mono ?_;rintro e w6 ⟨⟨a6,n6,c6,rfl,hI6,hN6⟩,hb6⟩;have bl6:Below W3.heap.size W3.drew w6:=bl5.trans (hb6.mono bl5.size)))
 all_goals
  refine NoPanic.normal ?_
  go_wp2_with fail
  go_returns
  exact ⟨⟨a6,n6,c6,rfl,hI6⟩,HBL3.out.trans ((HDR.out w6 bl6).mono HBL3.out.size)⟩
theorem zqt (w:World) (l:List V) (a:Option Addr) (n c:Nat) (hl:IsVals w w.heap.size l a n c) (hfew:n<=100000000) (cc:CC) (x:V) (hx:IsVal w w.heap.size x cc.v) (hc:lCheck n cc.k cc.i cc.j=0):
 uP 50 #[.slice a n c, .agg (uC cc)] w (DoLPost w (listDo l cc.k cc.i cc.j x)):=by
 delta uC uP
 obtain ⟨h1,h2,_⟩:=Yx hc
 by_cases e4:cc.k=4
 .exact zla w l a n c hl hfew cc x hx hc e4
 by_cases e5:cc.k=5
 .exact zmc w l a n c hl hfew cc x hx hc e5
 by_cases e6:cc.k=6
 .exact zjk w l a n c hl hfew cc x hx hc e6
 .exact zik w l a n c hl hfew cc x hx hc (by omega)
theorem zpr {α β:Type} (f:β->α->β) (b:β) (l:List α) (k:Nat) (h:k<l.length):(l.take (k+1)).foldl f b=f ((l.take k).foldl f b) l[k] :=by
 rw [Yb l k h,List.foldl_append];rfl
theorem PF.snoc1 {l:List (ByteArray×V)} {cs:List (ByteArray×VC)} {W:World} {B:Nat} (hl:cs.length=l.length) (h:∀i,i<l.length->PF l cs W B i) {s:ByteArray} (hs:s.size<=140737488355328) {x:V} {c:VC} (hx:IsVal W B x c):∀i,i<(l++ [(s,x)]).length->PF (l++ [(s,x)]) (cs++ [(s,c)]) W B i:=by
 obtain ⟨s1,s2⟩:=PF.snoc (l:=l) (cs:=cs) hl s hs x c
 intro i hi
 by_cases e:i<l.length
 .exact s2 W B i e (h i e)
 .rw [List.length_append,List.length_singleton] at hi
  obtain rfl:i=l.length:=by omega
  exact s1 W B hx
theorem zca {w:World} {B1:Nat} {S:Nat->Prop} {v:Value} {l:List (ByteArray×V)} {cs:List (ByteArray×VC)} (hown:w.ownsRow B1 75 6 v l.length (cs.flatMap fcells)) (hS:∀k,B1<=k->S k) (hl:cs.length=l.length) (hels:∀i,i<l.length->PF l cs (only S w) w.heap.size i) (hfew:l.length<=1466015503701):
 ∃a n c,v= .slice a n c/\IsFields (only S w) w.heap.size l a n c/\(a=none->c=0):=by
 obtain ⟨a,c,hv,hr⟩:=OwnRow.of (base':=B1) hown (Nat.le_refl _)
 have hI:=Qy (w:=only S w) (B:=w.heap.size) (k:=0) (n:=0) (s:= .empty) (l:= []) (o:=l) (a:=none) (m:=0) (c:=0) (a':=a) (m':=l.length) (c':=c) (cl:= []) (co:=cs) (by omega) (by omega) (by omega) (by omega) (by decide) rfl rfl rfl hl (by simp) hfew (by omega) (by omega) hr.cap hr.max (fun h=>absurd h (by omega)) (fun hp=>by
  obtain ⟨g,e,hg,hbc⟩:=hr.row (.inl hp)
  exact ⟨g,e,hbc.lt,fun i hi=>⟨Z3 (hS g hg) (Yd hbc hi).1,Yw (hS g hg) (Yd hbc hi).2⟩⟩) (fun i h=>absurd h (by simp)) hels
 refine ⟨a,l.length,c,hv,hI.lists.2.2.2.2.2,fun ha=> ?_⟩
 by_cases hn:l.length=0
 .exact hr.none_ hn ha
 .obtain ⟨g,e,_⟩:=hr.row (.inl (by omega))
  rw [ha] at e;cases e
def FieldsPost (w:World) (S:Nat->Prop) (l:List (ByteArray×V)) (e:Ending) (w':World):Prop:=
 (∃a n c,e= .returned (.slice a n c)/\IsFields (only S w') w'.heap.size l a n c)/\Below w.heap.size w w'
structure FH (W1 wr:World) (S:Nat->Prop) (o:List (ByteArray×V)) (key:ByteArray) (v:V) (del:Bool) (j:Nat) (u:Value) (xs:List (ByteArray×V)) (cs:List (ByteArray×VC)) (done:Bool):Prop where
 rd:(o.take j).foldl (fldStep key v) ([],del)=(xs,done)
 few:xs.length<=2*j
 cen:cs.length=xs.length
 own:wr.ownsRow W1.heap.size 75 6 u xs.length (cs.flatMap fcells)
 els:∀i,i<xs.length->PF xs cs (only S W1) W1.heap.size i
 below:Below W1.heap.size W1 wr
theorem Q6 (w:World) (n:Nat) (s:ByteArray) (d:VC) (t:TypeId):∀j u,(fcells (s,d))[j]? =some u->((w.drewN n).alloc (.cells #[.string s, .int .u8 d.k, .int .i64 d.n, .string d.s, .slice d.la d.ll d.lc, .slice d.oa d.ol d.oc] t)).cell? ((⟨w.heap.size,0,none⟩:Addr).add j)=some u:=
 World.news_of_block (t:=t) (fr:=(0,0)) (heap_alloc_new (w.drewN n) (.cells #[.string s, .int .u8 d.k, .int .i64 d.n, .string d.s, .slice d.la d.ll d.lc, .slice d.oa d.ol d.oc] t))
theorem Qn {W1 wr w0 w7:World} {S:Nat->Prop} {u u':Value} {xs:List (ByteArray×V)} {cs:List (ByteArray×VC)} {s:ByteArray} {x:V} {cx:VC}
 (hlt:∀b,u.ownBlock=some b->W1.heap.size<=b) (cen:cs.length=xs.length) (els:∀i,i<xs.length->PF xs cs (only S W1) W1.heap.size i) (below:uB W1 wr)
 (hs:s.size<=140737488355328) (hx:IsVal (only S W1) W1.heap.size x cx) (hb:uB wr w0)
 (hown:w7.ownsRow W1.heap.size 75 6 u' (xs.length+1) (cs.flatMap fcells++fcells (s,cx))) (hg:w0.grownBy w7 u.ownBlock):
 (cs++ [(s,cx)]).length=(xs++ [(s,x)]).length/\w7.ownsRow W1.heap.size 75 6 u' (xs++ [(s,x)]).length ((cs++ [(s,cx)]).flatMap fcells)/\(∀i,i<(xs++ [(s,x)]).length->PF (xs++ [(s,x)]) (cs++ [(s,cx)]) (only S W1) W1.heap.size i)/\uB W1 w7:=by
 delta uB
 refine ⟨by simp [cen], ?_,PF.snoc1 cen els hs hx,(below.trans (hb.mono below.size)).trans (Zj hg hlt (Nat.le_trans below.size hb.size))⟩
 rw [Y4,List.length_append,List.length_singleton]
 exact hown
theorem zjy {w w4:World} (h:Below w.heap.size w.drew w4) (hz:w.heap.size<=w4.heap.size) (s:ByteArray) (d:VC) (t:TypeId):BC (w4.alloc (.cells #[.string s, .int .u8 d.k, .int .i64 d.n, .string d.s, .slice d.la d.ll d.lc, .slice d.oa d.ol d.oc] t)) w4.heap.size (fcells (s,d))/\Below w.heap.size w.drew (w4.alloc (.cells #[.string s, .int .u8 d.k, .int .i64 d.n, .string d.s, .slice d.la d.ll d.lc, .slice d.oa d.ol d.oc] t))/\w.heap.size<=w4.heap.size:=
 ⟨BC.start w4 #[.string s, .int .u8 d.k, .int .i64 d.n, .string d.s, .slice d.la d.ll d.lc, .slice d.oa d.ol d.oc] t,h.alloc hz _,hz⟩
theorem zkb {w w4:World} (h:Below w.heap.size w.drew w4) (s:ByteArray) (d:VC) (x:BC w4 w.heap.size [.string { data:= #[] }, .int .u8 0, .int .i64 0, .string { data:= #[] }, .slice none 0 0, .slice none 0 0]):
 BC ((((((w4.setCell ⟨w.heap.size,0,none⟩ (.string s)).setCell ⟨w.heap.size,1,none⟩ (.int .u8 d.k)).setCell ⟨w.heap.size,2,none⟩ (.int .i64 d.n)).setCell ⟨w.heap.size,3,none⟩ (.string d.s)).setCell ⟨w.heap.size,4,none⟩ (.slice d.la d.ll d.lc)).setCell ⟨w.heap.size,5,none⟩ (.slice d.oa d.ol d.oc)) w.heap.size (fcells (s,d))/\Below w.heap.size w.drew ((((((w4.setCell ⟨w.heap.size,0,none⟩ (.string s)).setCell ⟨w.heap.size,1,none⟩ (.int .u8 d.k)).setCell ⟨w.heap.size,2,none⟩ (.int .i64 d.n)).setCell ⟨w.heap.size,3,none⟩ (.string d.s)).setCell ⟨w.heap.size,4,none⟩ (.slice d.la d.ll d.lc)).setCell ⟨w.heap.size,5,none⟩ (.slice d.oa d.ol d.oc))/\w.heap.size<=w.heap.size:=
 ⟨(((((x.set (i:=0) (x:= .string s) (by simp)).set (i:=1) (x:= .int .u8 d.k) (by simp)).set (i:=2) (x:= .int .i64 d.n) (by simp)).set (i:=3) (x:= .string d.s) (by simp)).set (i:=4) (x:= .slice d.la d.ll d.lc) (by simp)).set (i:=5) (x:= .slice d.oa d.ol d.oc) (by simp),
  (((((h.set_ (Nat.le_refl _)).set_ (Nat.le_refl _)).set_ (Nat.le_refl _)).set_ (Nat.le_refl _)).set_ (Nat.le_refl _)).set_ (Nat.le_refl _),Nat.le_refl _⟩
theorem _root_.Go.RowKit.Below.set6 {B b:Nat} {a w:World} (h:Below B a w) (hb:B<=b) (x0 x1 x2 x3 x4 x5:Value):Below B a ((((((w.setCell ⟨b,0,none⟩ x0).setCell ⟨b,1,none⟩ x1).setCell ⟨b,2,none⟩ x2).setCell ⟨b,3,none⟩ x3).setCell ⟨b,4,none⟩ x4).setCell ⟨b,5,none⟩ x5):=
 (((((h.set_ hb).set_ hb).set_ hb).set_ hb).set_ hb).set_ hb
theorem zm0 {w w4:World} (h:Below w.heap.size w.drew w4) (hz:w.heap.size<=w4.heap.size) (s:ByteArray) (d:VC) (t:TypeId) {x:V} (hx:IsVal (only (fun b=>w.heap.size<=b) w4) w4.heap.size x d):
 (BC (w4.alloc (.cells #[.string s, .int .u8 d.k, .int .i64 d.n, .string d.s, .slice d.la d.ll d.lc, .slice d.oa d.ol d.oc] t)) w4.heap.size (fcells (s,d))/\Below w.heap.size w.drew (w4.alloc (.cells #[.string s, .int .u8 d.k, .int .i64 d.n, .string d.s, .slice d.la d.ll d.lc, .slice d.oa d.ol d.oc] t))/\w.heap.size<=w4.heap.size)/\Hid (IsVal (only (fun b=>w.heap.size<=b) (w4.alloc (.cells #[.string s, .int .u8 d.k, .int .i64 d.n, .string d.s, .slice d.la d.ll d.lc, .slice d.oa d.ol d.oc] t))) (w4.alloc (.cells #[.string s, .int .u8 d.k, .int .i64 d.n, .string d.s, .slice d.la d.ll d.lc, .slice d.oa d.ol d.oc] t)).heap.size x d):=by
 have hb:uB w4 (w4.alloc (.cells #[.string s, .int .u8 d.k, .int .i64 d.n, .string d.s, .slice d.la d.ll d.lc, .slice d.oa d.ol d.oc] t)):=(Below.refl _ _).alloc (Nat.le_refl _) _
 exact ⟨zjy h hz s d t,(hx.sub (Zd fun k hk hl=>⟨hk,hb.block k hl⟩)).more hb.size⟩
theorem zjp {w w4:World} (h:Below w.heap.size w.drew w4) (s:ByteArray) (d:VC) (xb:BC w4 w.heap.size [.string { data:= #[] }, .int .u8 0, .int .i64 0, .string { data:= #[] }, .slice none 0 0, .slice none 0 0]) {x:V} (hx:IsVal (only (fun b=>w.heap.size+1<=b) w4) w4.heap.size x d):
 (BC ((((((w4.setCell ⟨w.heap.size,0,none⟩ (.string s)).setCell ⟨w.heap.size,1,none⟩ (.int .u8 d.k)).setCell ⟨w.heap.size,2,none⟩ (.int .i64 d.n)).setCell ⟨w.heap.size,3,none⟩ (.string d.s)).setCell ⟨w.heap.size,4,none⟩ (.slice d.la d.ll d.lc)).setCell ⟨w.heap.size,5,none⟩ (.slice d.oa d.ol d.oc)) w.heap.size (fcells (s,d))/\Below w.heap.size w.drew ((((((w4.setCell ⟨w.heap.size,0,none⟩ (.string s)).setCell ⟨w.heap.size,1,none⟩ (.int .u8 d.k)).setCell ⟨w.heap.size,2,none⟩ (.int .i64 d.n)).setCell ⟨w.heap.size,3,none⟩ (.string d.s)).setCell ⟨w.heap.size,4,none⟩ (.slice d.la d.ll d.lc)).setCell ⟨w.heap.size,5,none⟩ (.slice d.oa d.ol d.oc))/\w.heap.size<=w.heap.size)/\Hid (IsVal (only (fun b=>w.heap.size<=b) ((((((w4.setCell ⟨w.heap.size,0,none⟩ (.string s)).setCell ⟨w.heap.size,1,none⟩ (.int .u8 d.k)).setCell ⟨w.heap.size,2,none⟩ (.int .i64 d.n)).setCell ⟨w.heap.size,3,none⟩ (.string d.s)).setCell ⟨w.heap.size,4,none⟩ (.slice d.la d.ll d.lc)).setCell ⟨w.heap.size,5,none⟩ (.slice d.oa d.ol d.oc))) ((((((w4.setCell ⟨w.heap.size,0,none⟩ (.string s)).setCell ⟨w.heap.size,1,none⟩ (.int .u8 d.k)).setCell ⟨w.heap.size,2,none⟩ (.int .i64 d.n)).setCell ⟨w.heap.size,3,none⟩ (.string d.s)).setCell ⟨w.heap.size,4,none⟩ (.slice d.la d.ll d.lc)).setCell ⟨w.heap.size,5,none⟩ (.slice d.oa d.ol d.oc)).heap.size x d):=by
 have st:RStep w4 ((((((w4.setCell ⟨w.heap.size,0,none⟩ (.string s)).setCell ⟨w.heap.size,1,none⟩ (.int .u8 d.k)).setCell ⟨w.heap.size,2,none⟩ (.int .i64 d.n)).setCell ⟨w.heap.size,3,none⟩ (.string d.s)).setCell ⟨w.heap.size,4,none⟩ (.slice d.la d.ll d.lc)).setCell ⟨w.heap.size,5,none⟩ (.slice d.oa d.ol d.oc)) w.heap.size:=((((RStep.self.trans RStep.self).trans RStep.self).trans RStep.self).trans RStep.self).trans RStep.self
 exact ⟨zkb h s d xb,(hx.sub (Zd fun k hk hl=>⟨by omega,st.block k hl (by omega)⟩)).more st.size⟩
inductive V.Num:V->Prop
 |mk (k n:Int) (s:ByteArray) (l:List V) (o:List (ByteArray×V)) (h0: -9223372036854775808<=n) (h1:n<=9223372036854775807) (hl:∀i (h:i<l.length),V.Num l[i]) (ho:∀i (h:i<o.length),V.Num o[i].2):V.Num (.mk k n s l o)
theorem IsVal.num {w:World} {B:Nat} {v:V} {c:VC} (h:IsVal w B v c):v.Num:=by
 induction h with
 |mk c l o cl co lb lo ob oo hbd hl ho hla hoa hlc hlv hoc hov ihl iho=>exact .mk _ _ _ _ _ hbd.n0 hbd.n1 ihl iho
set_option maxRecDepth 100000 in
theorem zp2 (w:World) (S:Nat->Prop) (hS:∀k,w.heap.size<=k->S k) (o:List (ByteArray×V)) (oa:Option Addr) (ol oc:Nat) (ho:IsFields (only S w) w.heap.size o oa ol oc) (cc:CC) (xv:V) (hxv:IsVal w w.heap.size xv cc.v) (hks:cc.key.size<=140737488355328) (hfew:ol<=100000000):
 uP 48 #[.slice oa ol oc, .agg (uC cc)] w (FieldsPost w S (fieldsDo o cc.key xv (cc.k==3))):=by
 delta uC uP
 obtain ⟨i0,hi0,hz0,hz1,hz2⟩:=info_parts Yj
 have k2:=ho.max
 have HLN:=qh ho.len
 have HO:=qh ho
 have HCV:Hid (∀W,uB w W->uP 30 #[.agg (uV cc.v)] W (NewVal W xv)):=fun W hW=>Yp xv W cc.v (hxv.later_ hW)
 have HBX:=qh (BC.start w (uC cc) 39)
 have HAL:=qh ((Below.refl _ _).alloc (Nat.le_refl _) (.cells (uC cc) 39):uB w _)
 obtain ⟨del,hdel⟩:∃del,(cc.k==3)=del:=⟨_,rfl⟩
 obtain ⟨R,hR⟩:∃R,FieldsPost w S (fieldsDo o cc.key xv (cc.k==3))=R:=⟨_,rfl⟩
 rw [hR]
 rw [hdel] at hR
 have HR:=qh hR
 clear ho hxv hR
 go_enter Tryz.func48,Tryz.ntmps48
 go_wp2_with fail
 have B:=HBX.out
 obtain ⟨W0,hW0⟩:∃W0,(w.alloc (.cells (uC cc) 39))=W0:=⟨_,rfl⟩
 have hal0:=HAL.out
 rw [hW0] at B hal0 ⊢
 clear HBX HAL hW0
 obtain ⟨b0,b1,b2,b3,b4,b5,b6,b7,b8,b9,b10,b11⟩:=row12 B.at_
 have z0:=B.lt
 have HB:=qh B
 have HBL0:=qh hal0
 have HFB:Hid (∀W,Below W0.heap.size W0.drew W->W.cell? ⟨w.heap.size,2,none⟩=some (.string cc.key)/\W.cell? ⟨w.heap.size,6,none⟩=some (.int .u8 cc.v.k)/\W.cell? ⟨w.heap.size,7,none⟩=some (.int .i64 cc.v.n)/\W.cell? ⟨w.heap.size,8,none⟩=some (.string cc.v.s)/\W.cell? ⟨w.heap.size,9,none⟩=some (.slice cc.v.la cc.v.ll cc.v.lc)/\W.cell? ⟨w.heap.size,10,none⟩=some (.slice cc.v.oa cc.v.ol cc.v.oc)):=by
  intro W hW
  have hk:∀o u,W0.cell? ⟨w.heap.size,o,none⟩=some u->W.cell? ⟨w.heap.size,o,none⟩=some u:=fun o u h=>Za hW (Za (Zf W0) h z0) z0
  exact ⟨hk _ _ b2,hk _ _ b6,hk _ _ b7,hk _ _ b8,hk _ _ b9,hk _ _ b10⟩
 have HC:Hid (∀W,Below W0.heap.size W0.drew W->uP 30 #[.agg (uV cc.v)] W (NewVal W xv)):=fun W hW=>HCV.out W ((HBL0.out.trans ((Zf W0).mono HBL0.out.size)).trans (hW.mono HBL0.out.size))
 clear B hal0 HCV
 refine wp_region_noPanic ?_
 go_region_held_law (fun W=>W.cell? ⟨w.heap.size,2,none⟩=some (.string cc.key)/\W.cell? ⟨w.heap.size,6,none⟩=some (.int .u8 cc.v.k)/\W.cell? ⟨w.heap.size,7,none⟩=some (.int .i64 cc.v.n)/\W.cell? ⟨w.heap.size,8,none⟩=some (.string cc.v.s)/\W.cell? ⟨w.heap.size,9,none⟩=some (.slice cc.v.la cc.v.ll cc.v.lc)/\W.cell? ⟨w.heap.size,10,none⟩=some (.slice cc.v.oa cc.v.ol cc.v.oc))
  ((refine HFB.out _ ?_;(first|(with_reducible exact bl4)|(with_reducible exact Below.refl _ _)|(with_reducible exact Zr _ _)|(with_reducible exact Below.set6 bl4 (Nat.le_refl _) _ _ _ _ _ _)|(with_reducible exact Below.set6 (Below.alloc bl4 bz4 _) bz4 _ _ _ _ _ _)|(with_reducible exact Below.alloc bl4 bz4 _))))
  (first
   |(go_at_call 30;(with_reducible refine (HC.out _ (Below.refl _ _)).mono ?_);rintro e w4 ⟨⟨d,rfl,hI4⟩,hb4⟩;have bl4:Below W0.heap.size W0.drew w4:=hb4;have bz4:W0.heap.size<=w4.heap.size:=hb4.size;have hI5:IsVal (only (fun b=>W0.heap.size<=b) w4) w4.heap.size xv d:=hI4)
   |(go_at_call 30;(with_reducible refine (HC.out _ (Zr _ _)).mono ?_);rintro e w4 ⟨⟨d,rfl,hI4⟩,hb4⟩;have bl4:Below W0.heap.size W0.drew w4:=(Zr _ _).trans (hb4.mono (by simp));have bz4:W0.heap.size<=w4.heap.size:=bl4.size;have hI5:IsVal (only (fun b=>W0.heap.size+1<=b) w4) w4.heap.size xv d:=hI4.sub (Zd fun k hk _=>⟨by have h1:(W0.alloc _).heap.size<=k:=hk;rw [World.size_alloc] at h1;exact h1,rfl⟩);have XB:=Xn hb4;have xc0:=XB.at_ 0 _ rfl;have xc1:=XB.at_ 1 _ rfl;have xc2:=XB.at_ 2 _ rfl;have xc3:=XB.at_ 3 _ rfl;have xc4:=XB.at_ 4 _ rfl;have xc5:=XB.at_ 5 _ rfl;have xg0:=XB.fr 0;have xg1:=XB.fr 1;have xg2:=XB.fr 2;have xg3:=XB.fr 3;have xg4:=XB.fr 4;have xg5:=XB.fr 5;have hxlt:=XB.lt))
 all_goals
  (first
   |((with_reducible refine Zt (P:=fun W=>(BC W w4.heap.size (fcells (cc.key,d))/\Below W0.heap.size W0.drew W/\W0.heap.size<=w4.heap.size)/\Hid (IsVal (only (fun b=>W0.heap.size<=b) W) W.heap.size xv d)) (zm0 bl4 bz4 cc.key d _ hI5) ?_);rintro W1 ⟨⟨YF,hbW, -⟩,hI6⟩;generalize w4.heap.size=yb at YF ⊢)
   |((with_reducible refine Zt (P:=fun W=>(BC W W0.heap.size (fcells (cc.key,d))/\Below W0.heap.size W0.drew W/\W0.heap.size<=W0.heap.size)/\Hid (IsVal (only (fun b=>W0.heap.size<=b) W) W.heap.size xv d)) (zjp bl4 cc.key d XB hI5) ?_);rintro W1 ⟨⟨YF,hbW, -⟩,hI6⟩;generalize W0.heap.size=yb at YF ⊢))
  clear hb4 bl4 hI4 hI5 HFB HC
  have hbl1:=HBL0.out.trans (((Zf W0).trans hbW).mono HBL0.out.size)
  have B1:=HB.out.keep ((Zf W0).trans hbW) z0
  have hw01:W0.heap.size<=W1.heap.size:=hbW.size
  have hw0:=HBL0.out.size
  have hsh:Shows (only S w) (only S W1) w.heap.size:=Zd fun k hk hl=>⟨hk,hbl1.block k hl⟩
  have hI7:IsVal (only S W1) W1.heap.size xv d:=hI6.out.sub (Zd fun k hk _=>⟨hS k (by omega),rfl⟩)
  have hO7:IsFields (only S W1) W1.heap.size o oa ol oc:=(IsFields.sub hsh HO.out).more hbl1.size
  have HI7:=qh hI7
  have HO7:=qh hO7
  have HBL1:=qh hbl1
  have HB1:=qh B1
  have HYF:=qh YF
  have ylt:=YF.lt
  have z1:=B1.lt
  clear b0 b1 b2 b3 b4 b5 b6 b7 b8 b9 b10 b11
  obtain ⟨b0,b1,b2,b3,b4,b5,b6,b7,b8,b9,b10,b11⟩:=row12 B1.at_
  clear hbW hI6 hsh hI7 hO7 hbl1 B1 YF
  go_wp2_with fail
  go_loopw [5,6,8] (fun u dn i wr=>∃(j:Nat) (a:Option Addr) (m c:Nat) (xs:List (ByteArray×V)) (cs:List (ByteArray×VC)) (done:Bool),j<=ol/\i= .int .i64 j/\u= .slice a m c/\dn= .bool done/\FH W1 wr S o cc.key xv del j (.slice a m c) xs cs done) (fun _ _ i _=>ol - (intOf i).toNat)
  case atStart=>exact ⟨0,none,0,0, [], [],del,Nat.zero_le _,rfl,rfl,rfl,⟨rfl,Nat.le_refl _,rfl,⟨rfl, .inl ⟨rfl,rfl⟩⟩,fun i h=>absurd h (by simp),Below.refl _ _⟩⟩
  case round=>
   obtain ⟨j,a,m,c,xs,cs,done,hj,rfl,rfl,rfl,L⟩:=hrel
   have C1:=HB1.out.keep L.below z1
   have Y1:=HYF.out.keep L.below ylt
   have y0:=Y1.at_ 0 _ rfl;have y1:=Y1.at_ 1 _ rfl;have y2:=Y1.at_ 2 _ rfl;have y3:=Y1.at_ 3 _ rfl;have y4:=Y1.at_ 4 _ rfl;have y5:=Y1.at_ 5 _ rfl
   clear b0 b1 b2 b3 b4 b5 b6 b7 b8 b9 b10 b11
   have b2:=C1.at_ 2 _ rfl
   have zs:=C1.lt
   have zy:=Y1.lt
   have hrlt:∀g,(Value.slice a m c).ownBlock=some g->W1.heap.size<=g:=fun g hg=>(L.own.lt g hg).1
   have hfx:=L.few
   have HL:=qh L
   clear C1 Y1
   by_cases hlt:j<ol
   .obtain ⟨b,q,f,hp,rfl,hbB,hkey,hks2,hvf,hIf⟩:=HO7.out.get hlt
    have hbW:b<W1.heap.size:=hbB
    have hky:=Za L.below (Z9 hkey).2 hbW
    have hvf2:ValAt wr b (q+j*6+1) f:=(hvf.sub (Zk _ _ _) hbW).keep L.below hbW
    have c0:=hvf2.c0;have c1:=hvf2.c1;have c2:=hvf2.c2;have c3:=hvf2.c3;have c4:=hvf2.c4
    have hbw:b<wr.heap.size:=World.block_lt_of_cell? wr _ c0
    obtain ⟨sk,hsk⟩:∃sk,o[j].1=sk:=⟨_,rfl⟩
    rw [hsk] at hky hks2
    have hstep:(o.take (j+1)).foldl (fldStep cc.key xv) ([],del)=fldStep cc.key xv (xs,done) (sk,o[j].2):=by
     rw [zpr _ _ o j hp,L.rd, <-hsk]
    have HSP:=qh hstep
    have HIF:=qh hIf
    have hown:=L.own
    obtain ⟨lb,hlb⟩:∃lb,Op.bytesLess sk.toList cc.key.toList=lb:=⟨_,rfl⟩
    obtain ⟨eb,heb⟩:∃eb,(sk.toList==cc.key.toList)=eb:=⟨_,rfl⟩
    rw [hsk] at hkey
    have HKY:=qh hkey
    have HVF:=qh hvf
    clear L hkey hvf hvf2 hIf hsk hstep
    cases done with
    | true=>
      cases eb with
      | true=>
        have hfs:fldStep cc.key xv (xs,true) (sk,o[j].2)=(xs,true):=by rw [fldStep,if_neg (by simp),if_pos (by simpa using heb)]
        have HFS:=qh hfs
        clear hfs hlb
        go_wp2_with fail
        go_quiet (fail)
        go_wp2_with fail
        go_quiet (fail)
        go_wp2_with fail
        go_roundw
        case rel=>exact ⟨j+1,a,m,c,xs,cs,true,by omega,by go_num,rfl,rfl,⟨HSP.out.trans HFS.out,by omega,HL.out.cen,Xc hown _,HL.out.els,Ye HL.out.below _⟩⟩
        case measure=>simp [intOf];omega
      | false=>
        have hfs:fldStep cc.key xv (xs,true) (sk,o[j].2)=(xs++ [(sk,o[j].2)],true):=by rw [fldStep,if_neg (by simp),if_neg (by simpa using heb)]
        have HFS:=qh hfs
        clear hfs hlb
        have zw:=HL.out.below.size
        go_wp2_with fail
        go_quiet (fail)
        go_wp2_with fail
        go_quiet (fail)
        go_wp2_with (at_builtin;refine wpList_append_lies _ rfl (.tmp 48) (.tmp 53) 34 (by rfl) W1.heap.size 75 i0 _ 6 96 Tryz.underlying34 hi0 hz0 hz1 hz2 rfl (by omega) (.slice a m c) xs.length (cs.flatMap fcells) (by rfl) ((Xc hown _).alloc _) ⟨wr.heap.size,0,none⟩ 1 1 (fcells (sk,f)) (by rfl) (by rfl) (Q6 wr _ sk f _) (by simp [fcells,Value.oneCell']) (by omega) (by unfold maxLen;omega) (by omega) (by first|omega|(rw [Z0];omega)|(simp;omega)) (wr.heap.size+1) (by first|exact Z0 _ _ _|simp) ?_;intro g cap w7 hownw7 hgroww7 hatw7 hltw7)
        have G2:=Qn (x:=o[j].2) hrlt HL.out.cen HL.out.els HL.out.below hks2 HIF.out ((Xs wr _).alloc (Nat.le_refl _) _) hownw7 hgroww7
        go_roundw
        case rel=>exact ⟨j+1,some ⟨g,0,none⟩,xs.length+1,cap,xs++ [(sk,o[j].2)],cs++ [(sk,f)],true,by omega,by go_num,rfl,rfl,⟨HSP.out.trans HFS.out,by rw [List.length_append,List.length_singleton];omega,G2.1,G2.2.1,G2.2.2.1,G2.2.2.2⟩⟩
        case measure=>simp [intOf];omega
    | false=>
      cases lb with
      | true=>
        cases eb with
        | true=>
          have hfs:fldStep cc.key xv (xs,false) (sk,o[j].2)=(xs,false):=by rw [fldStep,if_neg (by simp [hlb]),if_pos (by simpa using heb)]
          have HFS:=qh hfs
          clear hfs
          go_wp2_with fail
          go_quiet (fail)
          go_wp2_with fail
          go_quiet (fail)
          go_wp2_with fail
          go_roundw
          case rel=>exact ⟨j+1,a,m,c,xs,cs,false,by omega,by go_num,rfl,rfl,⟨HSP.out.trans HFS.out,by omega,HL.out.cen,Xc hown _,HL.out.els,Ye HL.out.below _⟩⟩
          case measure=>simp [intOf];omega
        | false=>
          have hfs:fldStep cc.key xv (xs,false) (sk,o[j].2)=(xs++ [(sk,o[j].2)],false):=by rw [fldStep,if_neg (by simp [hlb]),if_neg (by simpa using heb)]
          have HFS:=qh hfs
          clear hfs
          have zw:=HL.out.below.size
          go_wp2_with fail
          go_quiet (fail)
          go_wp2_with fail
          go_quiet (fail)
          go_wp2_with (at_builtin;refine wpList_append_lies _ rfl (.tmp 48) (.tmp 53) 34 (by rfl) W1.heap.size 75 i0 _ 6 96 Tryz.underlying34 hi0 hz0 hz1 hz2 rfl (by omega) (.slice a m c) xs.length (cs.flatMap fcells) (by rfl) ((Xc hown _).alloc _) ⟨wr.heap.size,0,none⟩ 1 1 (fcells (sk,f)) (by rfl) (by rfl) (Q6 wr _ sk f _) (by simp [fcells,Value.oneCell']) (by omega) (by unfold maxLen;omega) (by omega) (by first|omega|(rw [Z0];omega)|(simp;omega)) (wr.heap.size+1) (by first|exact Z0 _ _ _|simp) ?_;intro g cap w7 hownw7 hgroww7 hatw7 hltw7)
          have G2:=Qn (x:=o[j].2) hrlt HL.out.cen HL.out.els HL.out.below hks2 HIF.out ((Xs wr _).alloc (Nat.le_refl _) _) hownw7 hgroww7
          go_roundw
          case rel=>exact ⟨j+1,some ⟨g,0,none⟩,xs.length+1,cap,xs++ [(sk,o[j].2)],cs++ [(sk,f)],false,by omega,by go_num,rfl,rfl,⟨HSP.out.trans HFS.out,by rw [List.length_append,List.length_singleton];omega,G2.1,G2.2.1,G2.2.2.1,G2.2.2.2⟩⟩
          case measure=>simp [intOf];omega
      | false=>
        have zw:=HL.out.below.size
        cases eb with
        | true=>
          have hfs:fldStep cc.key xv (xs,false) (sk,o[j].2)=(xs++ [(cc.key,xv)],true):=by rw [fldStep,if_pos ⟨rfl,hlb⟩,if_pos (by simpa using heb)]
          have HFS:=qh hfs
          clear hfs
          go_wp2_with fail
          go_quiet (fail)
          go_wp2_with (at_builtin;refine wpList_append_lies _ rfl (.tmp 36) (.tmp 38) 34 (by rfl) W1.heap.size 75 i0 _ 6 96 Tryz.underlying34 hi0 hz0 hz1 hz2 rfl (by omega) (.slice a m c) xs.length (cs.flatMap fcells) (by rfl) ((Xc hown _).alloc _) ⟨wr.heap.size,0,none⟩ 1 1 (fcells (cc.key,d)) (by rfl) (by rfl) (Q6 wr _ cc.key d _) (by simp [fcells,Value.oneCell']) (by omega) (by unfold maxLen;omega) (by omega) (by first|omega|(rw [Z0];omega)|(simp;omega)) (wr.heap.size+1) (by first|exact Z0 _ _ _|simp) ?_;intro g cap w7 hownw7 hgroww7 hatw7 hltw7)
          have G2:=Qn (x:=xv) hrlt HL.out.cen HL.out.els HL.out.below hks HI7.out ((Xs wr _).alloc (Nat.le_refl _) _) hownw7 hgroww7
          have hk7:∀b o u,b<W1.heap.size->W1.cell? ⟨b,o,none⟩=some u->w7.cell? ⟨b,o,none⟩=some u:=fun b o u hb h=>Za G2.2.2.2 h hb
          have hkw:∀o u,(only S W1).cell? ⟨b,o,none⟩=some u->w7.cell? ⟨b,o,none⟩=some u:=fun o u h=>hk7 _ _ _ hbW (Z9 h).2
          have hky7:=hkw _ _ HKY.out
          have d0:=hkw _ _ HVF.out.c0;have d1:=hkw _ _ HVF.out.c1;have d2:=hkw _ _ HVF.out.c2;have d3:=hkw _ _ HVF.out.c3;have d4:=hkw _ _ HVF.out.c4
          have hbw7:b<w7.heap.size:=World.block_lt_of_cell? w7 _ d0
          have b27:=(HB1.out.keep G2.2.2.2 z1).at_ 2 _ rfl
          have zs7:=(HB1.out.keep G2.2.2.2 z1).lt
          go_quiet (fail)
          go_wp2_with fail
          go_roundw
          case rel=>exact ⟨j+1,some ⟨g,0,none⟩,xs.length+1,cap,xs++ [(cc.key,xv)],cs++ [(cc.key,d)],true,by omega,by go_num,rfl,rfl,⟨HSP.out.trans HFS.out,by rw [List.length_append,List.length_singleton];omega,G2.1,Xc G2.2.1 _,G2.2.2.1,Ye G2.2.2.2 _⟩⟩
          case measure=>simp [intOf];omega
        | false=>
          have hfs:fldStep cc.key xv (xs,false) (sk,o[j].2)=(xs++ [(cc.key,xv)] ++ [(sk,o[j].2)],true):=by rw [fldStep,if_pos ⟨rfl,hlb⟩,if_neg (by simpa using heb)]
          have HFS:=qh hfs
          clear hfs
          go_wp2_with fail
          go_quiet (fail)
          go_wp2_with (at_builtin;refine wpList_append_lies _ rfl (.tmp 36) (.tmp 38) 34 (by rfl) W1.heap.size 75 i0 _ 6 96 Tryz.underlying34 hi0 hz0 hz1 hz2 rfl (by omega) (.slice a m c) xs.length (cs.flatMap fcells) (by rfl) ((Xc hown _).alloc _) ⟨wr.heap.size,0,none⟩ 1 1 (fcells (cc.key,d)) (by rfl) (by rfl) (Q6 wr _ cc.key d _) (by simp [fcells,Value.oneCell']) (by omega) (by unfold maxLen;omega) (by omega) (by first|omega|(rw [Z0];omega)|(simp;omega)) (wr.heap.size+1) (by first|exact Z0 _ _ _|simp) ?_;intro g cap w7 hownw7 hgroww7 hatw7 hltw7)
          have G2:=Qn (x:=xv) hrlt HL.out.cen HL.out.els HL.out.below hks HI7.out ((Xs wr _).alloc (Nat.le_refl _) _) hownw7 hgroww7
          have hk7:∀b o u,b<W1.heap.size->W1.cell? ⟨b,o,none⟩=some u->w7.cell? ⟨b,o,none⟩=some u:=fun b o u hb h=>Za G2.2.2.2 h hb
          have hkw:∀o u,(only S W1).cell? ⟨b,o,none⟩=some u->w7.cell? ⟨b,o,none⟩=some u:=fun o u h=>hk7 _ _ _ hbW (Z9 h).2
          have hky7:=hkw _ _ HKY.out
          have d0:=hkw _ _ HVF.out.c0;have d1:=hkw _ _ HVF.out.c1;have d2:=hkw _ _ HVF.out.c2;have d3:=hkw _ _ HVF.out.c3;have d4:=hkw _ _ HVF.out.c4
          have hbw7:b<w7.heap.size:=World.block_lt_of_cell? w7 _ d0
          have b27:=(HB1.out.keep G2.2.2.2 z1).at_ 2 _ rfl
          have zs7:=(HB1.out.keep G2.2.2.2 z1).lt
          go_quiet (fail)
          have hrlt2:∀q,(Value.slice (some ⟨g,0,none⟩) (xs.length+1) cap).ownBlock=some q->W1.heap.size<=q:=fun q hq=>(hownw7.lt q hq).1
          have hown2:=G2.2.1
          rw [List.length_append,List.length_singleton] at hown2
          have zw7:=G2.2.2.2.size
          go_wp2_with (at_builtin;refine wpList_append_lies _ rfl (.tmp 48) (.tmp 53) 34 (by rfl) W1.heap.size 75 i0 _ 6 96 Tryz.underlying34 hi0 hz0 hz1 hz2 rfl (by omega) (.slice (some ⟨g,0,none⟩) (xs.length+1) cap) (xs.length+1) ((cs++ [(cc.key,d)]).flatMap fcells) (by rfl) ((Xc hown2 _).alloc _) ⟨w7.heap.size,0,none⟩ 1 1 (fcells (sk,f)) (by rfl) (by rfl) (Q6 w7 _ sk f _) (by simp [fcells,Value.oneCell']) (by omega) (by unfold maxLen;omega) (by omega) (by first|omega|(rw [Z0];omega)|(simp;omega)) (w7.heap.size+1) (by first|exact Z0 _ _ _|simp) ?_;intro g9 cap9 w9 hownw9 hgroww9 hatw9 hltw9)
          have hown9:w9.ownsRow W1.heap.size 75 6 (.slice (some ⟨g9,0,none⟩) (xs.length+1+1) cap9) ((xs++ [(cc.key,xv)]).length+1) ((cs++ [(cc.key,d)]).flatMap fcells++fcells (sk,f)):=by rw [List.length_append,List.length_singleton];exact hownw9
          have G4:=Qn (x:=o[j].2) hrlt2 G2.1 G2.2.2.1 G2.2.2.2 hks2 HIF.out ((Xs w7 _).alloc (Nat.le_refl _) _) hown9 hgroww9
          go_roundw
          case rel=>exact ⟨j+1,some ⟨g9,0,none⟩,xs.length+1+1,cap9,xs++ [(cc.key,xv)] ++ [(sk,o[j].2)],cs++ [(cc.key,d)] ++ [(sk,f)],true,by omega,by go_num,rfl,rfl,⟨HSP.out.trans HFS.out,by rw [List.length_append,List.length_append,List.length_singleton,List.length_singleton];omega,G4.1,G4.2.1,G4.2.2.1,G4.2.2.2⟩⟩
          case measure=>simp [intOf];omega
   .have hjn:j=ol:=by omega
    subst hjn
    have hfold:o.foldl (fldStep cc.key xv) ([],del)=(xs,done):=by
     rw [<-HL.out.rd,HLN.out,List.take_length]
    have HFD:=qh hfold
    have hown:=L.own
    have zw:=L.below.size
    clear L hfold
    cases done with
    | true=>
      go_wp2_with fail
      rw [<-HR.out]
      have hfd:fieldsDo o cc.key xv del=xs:=by rw [fieldsDo,HFD.out];rfl
      rw [hfd]
      have hshw:Shows (only S W1) (only S wr) W1.heap.size:=Zd fun q hq hl=>⟨hq,HL.out.below.block q hl⟩
      obtain ⟨a9,n9,c9,hv,hf,_⟩:=zca (S:=S) (B1:=W1.heap.size) hown (fun k hk=>hS k (by have:=HBL1.out.size;omega)) HL.out.cen (fun i hi=>PF.closed _ _ _ _ _ _ i hshw zw (HL.out.els i hi)) (by omega)
      exact ⟨⟨a9,n9,c9,by rw [hv],hf⟩,HBL1.out.trans (HL.out.below.mono HBL1.out.size)⟩
    | false=>
      go_wp2_with (at_builtin;refine wpList_append_lies _ rfl (.tmp 57) (.tmp 59) 34 (by rfl) W1.heap.size 75 i0 _ 6 96 Tryz.underlying34 hi0 hz0 hz1 hz2 rfl (by omega) (.slice a m c) xs.length (cs.flatMap fcells) (by rfl) (hown.alloc _) ⟨wr.heap.size,0,none⟩ 1 1 (fcells (cc.key,d)) (by rfl) (by rfl) (World.news_of_block (t:=75) (fr:=(0,0)) (heap_alloc_new wr (.cells #[.string cc.key, .int .u8 d.k, .int .i64 d.n, .string d.s, .slice d.la d.ll d.lc, .slice d.oa d.ol d.oc] 75))) (by simp [fcells,Value.oneCell']) (by omega) (by unfold maxLen;omega) (by omega) (by first|omega|(rw [Z0];omega)|(simp;omega)) (wr.heap.size+1) (by first|exact Z0 _ _ _|simp) ?_;intro g cap w7 hownw7 hgroww7 hatw7 hltw7)
      have G2:=Qn (x:=xv) hrlt HL.out.cen HL.out.els HL.out.below hks HI7.out ((Below.refl _ _).alloc (Nat.le_refl _) _) hownw7 hgroww7
      rw [<-HR.out]
      have hfd:fieldsDo o cc.key xv del=xs++ [(cc.key,xv)] :=by rw [fieldsDo,HFD.out];rfl
      rw [hfd]
      have hshw:Shows (only S W1) (only S w7) W1.heap.size:=Zd fun q hq hl=>⟨hq,G2.2.2.2.block q hl⟩
      obtain ⟨a9,n9,c9,hv,hf,_⟩:=zca (S:=S) (B1:=W1.heap.size) G2.2.1 (fun k hk=>hS k (by have:=HBL1.out.size;omega)) G2.1 (fun i hi=>PF.closed _ _ _ _ _ _ i hshw G2.2.2.2.size (G2.2.2.1 i hi)) (by rw [List.length_append,List.length_singleton];omega)
      exact ⟨⟨a9,n9,c9,by rw [hv],hf⟩,HBL1.out.trans (G2.2.2.2.mono HBL1.out.size)⟩
def DoPost (w:World) (r:V×Int) (e:Ending) (w':World):Prop:=
 (∃c:VC,e= .returned (.tuple #[.agg #[.int .u8 c.k, .int .i64 c.n, .string c.s, .slice c.la c.ll c.lc, .slice c.oa c.ol c.oc], .int .i64 r.2])/\IsVal (only (fun b=>w.heap.size<=b) w') w'.heap.size r.1 c)/\Below w.heap.size w w'
theorem zhx {tmps:Array Value} {W:World} {b:Nat} {c:VC} {x:Value} (ht:tmps[4]? =some (.pointer (some ⟨b,0,none⟩))) (hx:tmps[5]? =some x) (h:BC W b (vcells c)):
 (results Tryz.f16 tmps).run Tryz.prog W= .ok (.tuple #[.agg #[.int .u8 c.k, .int .i64 c.n, .string c.s, .slice c.la c.ll c.lc, .slice c.oa c.ol c.oc],x]) W:=by
 obtain ⟨r0,r1,r2,r3,r4⟩:=(⟨h.at_ 0 _ rfl,h.at_ 1 _ rfl,h.at_ 2 _ rfl,h.at_ 3 _ rfl,h.at_ 4 _ rfl⟩:W.cell? ⟨b,0,none⟩=some (.int .u8 c.k)/\W.cell? ⟨b,1,none⟩=some (.int .i64 c.n)/\W.cell? ⟨b,2,none⟩=some (.string c.s)/\W.cell? ⟨b,3,none⟩=some (.slice c.la c.ll c.lc)/\W.cell? ⟨b,4,none⟩=some (.slice c.oa c.ol c.oc))
 simp [results,Tryz.results16,go_sem,ht,hx,r0,r1,r2,r3,r4]
theorem Q8 {w W:World} {x:Act} {c:VC} {r:V×Int} (h:BC W (w.heap.size+1+1) (vcells c)) (hv:IsVal (only (fun b=>w.heap.size<=b) W) W.heap.size r.1 c) (hb:uB w W) (hd:x.defers= []) (ht:x.tmps[4]? =some (.pointer (some ⟨w.heap.size+1+1,0,none⟩))) (hx:x.tmps[5]? =some (.int .i64 r.2)):
 bodyPost Tryz.prog Tryz.f16 (DoPost w r) .ret x W:=⟨hd,_,zhx ht hx h,⟨c,rfl,hv⟩,hb⟩
set_option maxRecDepth 100000 in
theorem zou (w:World) (vk vn:Int) (vs:ByteArray) (la:Option Addr) (ll lc:Nat) (oa:Option Addr) (ol oc:Nat) (v:V) (hv:IsVal w w.heap.size v ⟨vk,vn,vs,la,ll,lc,oa,ol,oc⟩) (hw:v.weight<=100000000) (p:List St) (xv:V) (cc:CC) (hcb:cc.Bnd) (hp:IsSteps w w.heap.size p cc.pa cc.pl cc.pc) (hxv:IsVal w w.heap.size xv cc.v) (hxw:xv.weight<=4611686018427387904) (hT:Tabs w) (he:checkP v ⟨cc.k,p,cc.key,cc.i,cc.j,cc.n,xv,cc.s⟩≠0):
 uP 16 #[.agg (uU vk vn vs la ll lc oa ol oc), .agg (uC cc)] w (DoPost w (doP v ⟨cc.k,p,cc.key,cc.i,cc.j,cc.n,xv,cc.s⟩)):=by
 delta uU uC uP
 have HCK:Hid (∀W,uB w W->uP 34 #[.agg (uU vk vn vs la ll lc oa ol oc), .agg (uC cc)] W fun e w'=>e= .returned (.int .i64 (checkP v ⟨cc.k,p,cc.key,cc.i,cc.j,cc.n,xv,cc.s⟩))/\uB W w'):=fun W hW=>X6 W vk vn vs la ll lc oa ol oc v (hv.later_ hW) (by omega) p xv cc hcb (hp.later_ hW) (hxv.later_ hW) (by omega) (hT.below hW)
 have HB:=qh (DB.start w ⟨vk,vn,vs,la,ll,lc,oa,ol,oc⟩ cc 36 39 36)
 have hd:doP v ⟨cc.k,p,cc.key,cc.i,cc.j,cc.n,xv,cc.s⟩=(V.none,checkP v ⟨cc.k,p,cc.key,cc.i,cc.j,cc.n,xv,cc.s⟩):=by rw [doP,if_neg he]
 rw [hd]
 obtain ⟨E,hE⟩:∃E,checkP v ⟨cc.k,p,cc.key,cc.i,cc.j,cc.n,xv,cc.s⟩=E:=⟨_,rfl⟩
 rw [hE] at HCK he ⊢
 have fe:(E !=0)=true:=by simp [he]
 clear hv hp hxv hT hcb hd hE
 go_enter Tryz.func16,Tryz.ntmps16
 generalize hQ0:bodyPost _ _ _=Q0
 have HQ:=qh hQ0
 clear hQ0
 go_wp2_with fail
 refine (HCK.out _ HB.out.below).mono ?_
 rintro e W ⟨rfl,hb1⟩
 have B:=HB.out.next hb1 (by simp)
 obtain ⟨v0,v1,v2,v3,v4⟩:=row5 B.v.at_
 obtain ⟨b0,b1,b2,b3,b4,b5,b6,b7,b8,b9,b10,b11⟩:=row12 B.c.at_
 obtain ⟨r0,r1,r2,r3,r4⟩:=row5 B.r.at_
 have f0:=B.r.fr 0;have f1:=B.r.fr 1;have f2:=B.r.fr 2;have f3:=B.r.fr 3;have f4:=B.r.fr 4
 have z0:=B.v.lt;have z1:=B.c.lt;have z2:=B.r.lt
 have HBW:=qh B
 clear B hb1
 go_wp2_with fail
 rw [<-HQ.out]
 have ST:=HBW.out.result ⟨0,0, { data:= #[] },none,0,0,none,0,0⟩
 exact Q8 (r:=(V.none,E)) ST.1 (Zq _ _) ST.2 rfl rfl rfl
end Go.Proofs.YtnjgbiachcfigaaGreatDoor
