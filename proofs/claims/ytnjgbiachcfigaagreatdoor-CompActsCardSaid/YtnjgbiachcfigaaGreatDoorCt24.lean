/-
  Contracts of the functions that the law reaches: conciliatorref05.Do, where it may be.
-/
import Derived.Test.YtnjgbiachcfigaaGreatDoorCt23
namespace Go.Proofs.YtnjgbiachcfigaaGreatDoor
open Go.RowKit
set_option maxHeartbeats 8000000
def listDo (l:List V) (k i j:Int) (v:V):List V:=
 if k=4 then insL l i.toNat v else if k=5 then remL l i.toNat else if k=6 then l.set i.toNat v else insL (remL l i.toNat) j.toNat (l.getD i.toNat V.none)
def DoLPost (w:World) (r:List V) (e:Ending) (w':World):Prop:=
 (∃a n c,e= .returned (.tuple #[.slice a n c, .int .i64 0])/\IsVals (only (fun b=>w.heap.size<=b) w') w'.heap.size r a n c)/\Below w.heap.size w w'
theorem Y7 {w W:World} {B0 B1:Nat} {l:List V} {a:Option Addr} {n c:Nat} (h:IsVals (only (fun b=>B1<=b) w) w.heap.size l a n c) (hB:B0<=B1) (hb:Below w.heap.size w W):IsVals (only (fun b=>B0<=b) W) W.heap.size l a n c:=by
 have hsh:Shows (only (fun b=>B1<=b) w) (only (fun b=>B0<=b) W) w.heap.size:=Ze fun k hk hl=>⟨Nat.le_trans hB hk,hb.block k hl⟩
 obtain ⟨h1,h2,h3,h4,b,o,f,h5,h6⟩:=h
 exact ⟨h1,h2,h3,h4,b,o,f,fun hp=>⟨(h5 hp).1,Nat.lt_of_lt_of_le (h5 hp).2 hb.size⟩,fun i hi=>⟨(h6 i hi).1.sub hsh (h5 (by omega)).2,((h6 i hi).2.sub hsh).more hb.size⟩⟩
theorem zgd {w W:World} {B0 B1:Nat} {x:V} {c:VC} (h:IsVal (only (fun b=>B1<=b) w) w.heap.size x c) (hB:B0<=B1) (hb:Below w.heap.size w W):IsVal (only (fun b=>B0<=b) W) W.heap.size x c:=
 (h.sub (Ze fun k hk hl=>⟨Nat.le_trans hB hk,hb.block k hl⟩)).more hb.size
theorem J6 (w:World) (B:Nat):IsFields w B [] none 0 0:=⟨rfl,Nat.le_refl _,by omega,by omega,0,0,fun _=>vzero,fun h=>absurd h (by omega),fun i h=>absurd h (by simp)⟩
theorem Jl (w:World) (l:List V) (a:Option Addr) (n c:Nat) (hl:IsVals w w.heap.size l a n c):Calls Tryz.prog 30 #[.agg #[.int .u8 0, .int .i64 0, .string { data:= #[] }, .slice a n c, .slice none 0 0]] w (CopyPost w 0 0 { data:= #[] } l []):=by
 have hv:IsVal w w.heap.size (.mk 0 0 .empty l []) ⟨0,0, .empty,a,n,c,none,0,0⟩:=
  IsVal.of_lists (c:=⟨0,0, .empty,a,n,c,none,0,0⟩) ⟨by show (0:Int)<=0;decide,by show (0:Int)<256;decide,by show (-9223372036854775808:Int)<=0;decide,by show (0:Int)<=9223372036854775807;decide,by show ByteArray.empty.size<=140737488355328;decide,hl.cap,hl.max,hl.few,by show (0:Nat)<=0;decide,by show (0:Nat)<=9223372036854775807;decide,by show (0:Nat)<=1466015503701;decide⟩ hl (J6 w _)
 exact Kd w (.mk 0 0 .empty l []) 0 0 { data:= #[] } a n c none 0 0 hv
theorem Y3 (W:World) (k n:Int) (s:ByteArray) (a:Option Addr) (m c:Nat) (a':Option Addr) (m' c':Nat):
 (Instr.field 36 (.agg #[.int .u8 k, .int .i64 n, .string s, .slice a m c, .slice a' m' c']) 3).run Tryz.prog W= .ok (.slice a m c) W:=by
 first
  |kernel_rfl
  |(simp [Instr.field,run_underlying Tryz.underlying36,go_sem];done)
theorem Fresh.neat {w:World} {base:Nat} {l:List V} {o:List (ByteArray×V)} {a:Option Addr} {m c:Nat} {a':Option Addr} {m' c':Nat} {cl:List VC} {co:List (ByteArray×VC)} (h:Fresh w base l o a m c a' m' c' cl co):Neat2 a c:=by
 cases ha:a with
 | none=>
   by_cases hm:0<m
   .obtain ⟨g,e,_⟩:=h.ownL.row (.inl hm)
    rw [ha] at e;cases e
   .exact .inl ⟨rfl,h.ownL.none_ (by omega) ha⟩
 | some ad=>
   obtain ⟨g,e,_⟩:=h.ownL.row (.inr (by rw [ha];simp))
   rw [ha] at e
   exact .inr ⟨g,0,e⟩
theorem Fresh.vals {w:World} {base:Nat} {l:List V} {o:List (ByteArray×V)} {a:Option Addr} {m c:Nat} {a':Option Addr} {m' c':Nat} {cl:List VC} {co:List (ByteArray×VC)} (h:Fresh w base l o a m c a' m' c' cl co):IsVals (only (fun b=>base<=b) w) w.heap.size l a m c:=
 (h.val (k:=0) (n:=0) (s:= .empty) (by omega) (by omega) (by omega) (by omega) (by decide)).lists.2.2.2.2.1
set_option maxRecDepth 100000 in
theorem zh0 (w:World) (l:List V) (a:Option Addr) (n c:Nat) (hl:IsVals w w.heap.size l a n c) (hfew:n<=100000000) (cc:CC) (x:V) (hx:IsVal w w.heap.size x cc.v) (hc:lCheck n cc.k cc.i cc.j=0) (hk:cc.k=4):
 Calls Tryz.prog 50 #[.slice a n c, .agg #[.int .u8 cc.k, .slice cc.pa cc.pl cc.pc, .string cc.key, .int .i64 cc.i, .int .i64 cc.j, .int .i64 cc.n, .int .u8 cc.v.k, .int .i64 cc.v.n, .string cc.v.s, .slice cc.v.la cc.v.ll cc.v.lc, .slice cc.v.oa cc.v.ol cc.v.oc, .string cc.s]] w (DoLPost w (listDo l cc.k cc.i cc.j x)):=by
 have hmax:=hl.max
 have hlen:=hl.len
 obtain ⟨_,_,hi0,hi1,hi2,hj⟩:=Yl hc
 have HCK:Hid (∀W,Below w.heap.size w W->Calls Tryz.prog 87 #[.int .i64 n, .agg #[.int .u8 cc.k, .slice cc.pa cc.pl cc.pc, .string cc.key, .int .i64 cc.i, .int .i64 cc.j, .int .i64 cc.n, .int .u8 cc.v.k, .int .i64 cc.v.n, .string cc.v.s, .slice cc.v.la cc.v.ll cc.v.lc, .slice cc.v.oa cc.v.ol cc.v.oc, .string cc.s]] W fun e w'=>e= .returned (.int .i64 0)/\Below W.heap.size W w'):=fun W hW=>by
  have:=Qg W n (by omega) cc
  rw [hc] at this;exact this
 have HOW:Hid (∀W,Below w.heap.size w W->Calls Tryz.prog 30 #[.agg #[.int .u8 0, .int .i64 0, .string { data:= #[] }, .slice a n c, .slice none 0 0]] W (CopyPost W 0 0 { data:= #[] } l [])):=fun W hW=>Jl W l a n c (hl.later_ hW)
 have HCV:Hid (∀W,Below w.heap.size w W->Calls Tryz.prog 30 #[.agg #[.int .u8 cc.v.k, .int .i64 cc.v.n, .string cc.v.s, .slice cc.v.la cc.v.ll cc.v.lc, .slice cc.v.oa cc.v.ol cc.v.oc]] W (NewVal W x)):=fun W hW=>Yz x W cc.v (hx.later_ hW)
 have HBX:=qh (BC.start w #[.int .u8 cc.k, .slice cc.pa cc.pl cc.pc, .string cc.key, .int .i64 cc.i, .int .i64 cc.j, .int .i64 cc.n, .int .u8 cc.v.k, .int .i64 cc.v.n, .string cc.v.s, .slice cc.v.la cc.v.ll cc.v.lc, .slice cc.v.oa cc.v.ol cc.v.oc, .string cc.s] 39)
 have HAL:=qh ((Below.refl _ _).alloc (Nat.le_refl _) (.cells #[.int .u8 cc.k, .slice cc.pa cc.pl cc.pc, .string cc.key, .int .i64 cc.i, .int .i64 cc.j, .int .i64 cc.n, .int .u8 cc.v.k, .int .i64 cc.v.n, .string cc.v.s, .slice cc.v.la cc.v.ll cc.v.lc, .slice cc.v.oa cc.v.ol cc.v.oc, .string cc.s] 39):Below w.heap.size w _)
 obtain ⟨R,hR⟩:∃R,listDo l cc.k cc.i cc.j x=R:=⟨_,rfl⟩
 rw [hR]
 rw [listDo,hk] at hR
 have HL:=qh hlen
 obtain ⟨i,hi⟩:∃i:Nat,cc.i=i:=⟨cc.i.toNat,by omega⟩
 rw [hi] at hR hi1 hi2
 rw [hk,hi] at HCK HBX HAL ⊢
 rw [Int.toNat_natCast] at hR
 have HR:=qh hR
 clear hl hx hc hlen hR hi hi0 hj
 go_enter Tryz.func50,Tryz.ntmps50
 go_wp2_with fail
 refine (HCK.out _ HAL.out).mono ?_
 rintro e w1 ⟨rfl,hb1⟩
 have HD1:=qh (HBX.out.keep hb1 (by simp))
 have HBL1:=qh (HAL.out.trans (hb1.mono (by simp)))
 clear hb1
 go_wp2_with fail
 refine (HOW.out _ HBL1.out).mono ?_
 rintro e w2 ⟨⟨a0,m0,c0,a1,m1,c1,cl,co,rfl,hF⟩,hb2⟩
 have D2:=HD1.out.keep hb2 HD1.out.lt
 obtain ⟨b0,b1,b2,b3,b4,b5,b6,b7,b8,b9,b10,b11⟩:=row12 D2.at_
 have zs2:=D2.lt
 have HBL2:=qh (HBL1.out.trans (hb2.mono HBL1.out.size))
 have hm0:m0=n:=by rw [hF.len, <-HL.out]
 subst hm0
 have hw12:=hb2.size
 have hw1:=HBL1.out.size
 have HF:=qh hF
 have HD2:=qh D2
 have hfld:=Y3 w2 0 0 { data:= #[] } a0 m0 c0 a1 m1 c1
 clear hb2 hF D2
 go_wp2_with fail
 refine (HCV.out _ HBL2.out).mono ?_
 rintro e w3 ⟨⟨f,rfl,hI3⟩,hb3⟩
 have D3:=HD2.out.keep hb3 zs2
 clear b0 b1 b2 b3 b4 b5 b6 b7 b8 b9 b10 b11
 obtain ⟨b0,b1,b2,b3,b4,b5,b6,b7,b8,b9,b10,b11⟩:=row12 D3.at_
 have zs3:=D3.lt
 have HBL3:=qh (HBL2.out.trans (hb3.mono HBL2.out.size))
 have hw23:=hb3.size
 have HF3:=qh (HF.out.later_ hb3)
 have HI3:=qh hI3
 have HAL3:=qh (((Below.refl _ _).alloc (Nat.le_refl _) (.cells #[.int .u8 f.k, .int .i64 f.n, .string f.s, .slice f.la f.ll f.lc, .slice f.oa f.ol f.oc] 36)):Below w3.heap.size w3 _)
 have HW:Hid (Calls Tryz.prog 88 #[.slice a0 m0 c0, .int .i64 i, .agg #[.int .u8 f.k, .int .i64 f.n, .string f.s, .slice f.la f.ll f.lc, .slice f.oa f.ol f.oc]] (w3.alloc (.cells #[.int .u8 f.k, .int .i64 f.n, .string f.s, .slice f.la f.ll f.lc, .slice f.oa f.ol f.oc] 36)) (ListPost (w3.alloc (.cells #[.int .u8 f.k, .int .i64 f.n, .string f.s, .slice f.la f.ll f.lc, .slice f.oa f.ol f.oc] 36)) w.heap.size (insL l i x))):=Ky (w3.alloc (.cells #[.int .u8 f.k, .int .i64 f.n, .string f.s, .slice f.la f.ll f.lc, .slice f.oa f.ol f.oc] 36)) w.heap.size (by simp;omega) l a0 m0 c0 (Y7 HF3.out.vals hw1 HAL3.out) HF3.out.neat i (by omega) x f.k f.n f.s f.la f.ll f.lc f.oa f.ol f.oc (zgd HI3.out (by omega) HAL3.out) (by omega)
 obtain rfl:R=insL l i x:=by rw [<-HR.out];rfl
 clear hb3 hI3 D3
 go_wp2_with fail
 refine HW.out.mono ?_
 rintro e w5 ⟨⟨a5,n5,c5,rfl,hI5,_⟩,hb5⟩
 go_wp2_with fail
 go_returns
 exact ⟨⟨a5,n5,c5,rfl,hI5⟩,(HBL3.out.trans (HAL3.out.mono HBL3.out.size)).trans (hb5.mono (by simp;omega))⟩
set_option maxRecDepth 100000 in
theorem zhx (w:World) (l:List V) (a:Option Addr) (n c:Nat) (hl:IsVals w w.heap.size l a n c) (hfew:n<=100000000) (cc:CC) (x:V) (hx:IsVal w w.heap.size x cc.v) (hc:lCheck n cc.k cc.i cc.j=0) (hk:cc.k=5):
 Calls Tryz.prog 50 #[.slice a n c, .agg #[.int .u8 cc.k, .slice cc.pa cc.pl cc.pc, .string cc.key, .int .i64 cc.i, .int .i64 cc.j, .int .i64 cc.n, .int .u8 cc.v.k, .int .i64 cc.v.n, .string cc.v.s, .slice cc.v.la cc.v.ll cc.v.lc, .slice cc.v.oa cc.v.ol cc.v.oc, .string cc.s]] w (DoLPost w (listDo l cc.k cc.i cc.j x)):=by
 have hmax:=hl.max
 have hlen:=hl.len
 obtain ⟨_,_,hi0,hi1,hi2,hj⟩:=Yl hc
 have HCK:Hid (∀W,Below w.heap.size w W->Calls Tryz.prog 87 #[.int .i64 n, .agg #[.int .u8 cc.k, .slice cc.pa cc.pl cc.pc, .string cc.key, .int .i64 cc.i, .int .i64 cc.j, .int .i64 cc.n, .int .u8 cc.v.k, .int .i64 cc.v.n, .string cc.v.s, .slice cc.v.la cc.v.ll cc.v.lc, .slice cc.v.oa cc.v.ol cc.v.oc, .string cc.s]] W fun e w'=>e= .returned (.int .i64 0)/\Below W.heap.size W w'):=fun W hW=>by
  have:=Qg W n (by omega) cc
  rw [hc] at this;exact this
 have HOW:Hid (∀W,Below w.heap.size w W->Calls Tryz.prog 30 #[.agg #[.int .u8 0, .int .i64 0, .string { data:= #[] }, .slice a n c, .slice none 0 0]] W (CopyPost W 0 0 { data:= #[] } l [])):=fun W hW=>Jl W l a n c (hl.later_ hW)
 have HCV:Hid (∀W,Below w.heap.size w W->Calls Tryz.prog 30 #[.agg #[.int .u8 cc.v.k, .int .i64 cc.v.n, .string cc.v.s, .slice cc.v.la cc.v.ll cc.v.lc, .slice cc.v.oa cc.v.ol cc.v.oc]] W (NewVal W x)):=fun W hW=>Yz x W cc.v (hx.later_ hW)
 have HBX:=qh (BC.start w #[.int .u8 cc.k, .slice cc.pa cc.pl cc.pc, .string cc.key, .int .i64 cc.i, .int .i64 cc.j, .int .i64 cc.n, .int .u8 cc.v.k, .int .i64 cc.v.n, .string cc.v.s, .slice cc.v.la cc.v.ll cc.v.lc, .slice cc.v.oa cc.v.ol cc.v.oc, .string cc.s] 39)
 have HAL:=qh ((Below.refl _ _).alloc (Nat.le_refl _) (.cells #[.int .u8 cc.k, .slice cc.pa cc.pl cc.pc, .string cc.key, .int .i64 cc.i, .int .i64 cc.j, .int .i64 cc.n, .int .u8 cc.v.k, .int .i64 cc.v.n, .string cc.v.s, .slice cc.v.la cc.v.ll cc.v.lc, .slice cc.v.oa cc.v.ol cc.v.oc, .string cc.s] 39):Below w.heap.size w _)
 obtain ⟨R,hR⟩:∃R,listDo l cc.k cc.i cc.j x=R:=⟨_,rfl⟩
 rw [hR]
 rw [listDo,hk] at hR
 have HL:=qh hlen
 obtain ⟨i,hi⟩:∃i:Nat,cc.i=i:=⟨cc.i.toNat,by omega⟩
 rw [hi] at hR hi1 hi2
 rw [hk,hi] at HCK HBX HAL ⊢
 rw [Int.toNat_natCast] at hR
 have HR:=qh hR
 clear hl hx hc hlen hR hi hi0 hj
 go_enter Tryz.func50,Tryz.ntmps50
 go_wp2_with fail
 refine (HCK.out _ HAL.out).mono ?_
 rintro e w1 ⟨rfl,hb1⟩
 have HD1:=qh (HBX.out.keep hb1 (by simp))
 have HBL1:=qh (HAL.out.trans (hb1.mono (by simp)))
 clear hb1
 go_wp2_with fail
 refine (HOW.out _ HBL1.out).mono ?_
 rintro e w2 ⟨⟨a0,m0,c0,a1,m1,c1,cl,co,rfl,hF⟩,hb2⟩
 have D2:=HD1.out.keep hb2 HD1.out.lt
 obtain ⟨b0,b1,b2,b3,b4,b5,b6,b7,b8,b9,b10,b11⟩:=row12 D2.at_
 have zs2:=D2.lt
 have HBL2:=qh (HBL1.out.trans (hb2.mono HBL1.out.size))
 have hm0:m0=n:=by rw [hF.len, <-HL.out]
 subst hm0
 have hw12:=hb2.size
 have hw1:=HBL1.out.size
 have HF:=qh hF
 have HD2:=qh D2
 have hfld:=Y3 w2 0 0 { data:= #[] } a0 m0 c0 a1 m1 c1
 clear hb2 hF D2
 go_wp2_with fail
 refine (HCV.out _ HBL2.out).mono ?_
 rintro e w3 ⟨⟨f,rfl,hI3⟩,hb3⟩
 have D3:=HD2.out.keep hb3 zs2
 clear b0 b1 b2 b3 b4 b5 b6 b7 b8 b9 b10 b11
 obtain ⟨b0,b1,b2,b3,b4,b5,b6,b7,b8,b9,b10,b11⟩:=row12 D3.at_
 have zs3:=D3.lt
 have HBL3:=qh (HBL2.out.trans (hb3.mono HBL2.out.size))
 have hw23:=hb3.size
 have HF3:=qh (HF.out.later_ hb3)
 have HI3:=qh hI3
 have HAL3:=qh (((Below.refl _ _).alloc (Nat.le_refl _) (.cells #[.int .u8 f.k, .int .i64 f.n, .string f.s, .slice f.la f.ll f.lc, .slice f.oa f.ol f.oc] 36)):Below w3.heap.size w3 _)
 have HW:Hid (Calls Tryz.prog 89 #[.slice a0 m0 c0, .int .i64 i] (w3.alloc (.cells #[.int .u8 f.k, .int .i64 f.n, .string f.s, .slice f.la f.ll f.lc, .slice f.oa f.ol f.oc] 36)) (ListPost (w3.alloc (.cells #[.int .u8 f.k, .int .i64 f.n, .string f.s, .slice f.la f.ll f.lc, .slice f.oa f.ol f.oc] 36)) w.heap.size (remL l i))):=zbh (w3.alloc (.cells #[.int .u8 f.k, .int .i64 f.n, .string f.s, .slice f.la f.ll f.lc, .slice f.oa f.ol f.oc] 36)) w.heap.size (by simp;omega) l a0 m0 c0 (Y7 HF3.out.vals hw1 HAL3.out) i (by omega) (by omega)
 obtain rfl:R=remL l i:=by rw [<-HR.out];rfl
 clear hb3 hI3 D3
 go_wp2_with fail
 refine HW.out.mono ?_
 rintro e w5 ⟨⟨a5,n5,c5,rfl,hI5,_⟩,hb5⟩
 go_wp2_with fail
 go_returns
 exact ⟨⟨a5,n5,c5,rfl,hI5⟩,(HBL3.out.trans (HAL3.out.mono HBL3.out.size)).trans (hb5.mono (by simp;omega))⟩
set_option maxRecDepth 100000 in
theorem zd8 (w:World) (l:List V) (a:Option Addr) (n c:Nat) (hl:IsVals w w.heap.size l a n c) (hfew:n<=100000000) (cc:CC) (x:V) (hx:IsVal w w.heap.size x cc.v) (hc:lCheck n cc.k cc.i cc.j=0) (hk:cc.k=6):
 Calls Tryz.prog 50 #[.slice a n c, .agg #[.int .u8 cc.k, .slice cc.pa cc.pl cc.pc, .string cc.key, .int .i64 cc.i, .int .i64 cc.j, .int .i64 cc.n, .int .u8 cc.v.k, .int .i64 cc.v.n, .string cc.v.s, .slice cc.v.la cc.v.ll cc.v.lc, .slice cc.v.oa cc.v.ol cc.v.oc, .string cc.s]] w (DoLPost w (listDo l cc.k cc.i cc.j x)):=by
 have hmax:=hl.max
 have hlen:=hl.len
 obtain ⟨_,_,hi0,hi1,hi2,hj⟩:=Yl hc
 have HCK:Hid (∀W,Below w.heap.size w W->Calls Tryz.prog 87 #[.int .i64 n, .agg #[.int .u8 cc.k, .slice cc.pa cc.pl cc.pc, .string cc.key, .int .i64 cc.i, .int .i64 cc.j, .int .i64 cc.n, .int .u8 cc.v.k, .int .i64 cc.v.n, .string cc.v.s, .slice cc.v.la cc.v.ll cc.v.lc, .slice cc.v.oa cc.v.ol cc.v.oc, .string cc.s]] W fun e w'=>e= .returned (.int .i64 0)/\Below W.heap.size W w'):=fun W hW=>by
  have:=Qg W n (by omega) cc
  rw [hc] at this;exact this
 have HOW:Hid (∀W,Below w.heap.size w W->Calls Tryz.prog 30 #[.agg #[.int .u8 0, .int .i64 0, .string { data:= #[] }, .slice a n c, .slice none 0 0]] W (CopyPost W 0 0 { data:= #[] } l [])):=fun W hW=>Jl W l a n c (hl.later_ hW)
 have HCV:Hid (∀W,Below w.heap.size w W->Calls Tryz.prog 30 #[.agg #[.int .u8 cc.v.k, .int .i64 cc.v.n, .string cc.v.s, .slice cc.v.la cc.v.ll cc.v.lc, .slice cc.v.oa cc.v.ol cc.v.oc]] W (NewVal W x)):=fun W hW=>Yz x W cc.v (hx.later_ hW)
 have HBX:=qh (BC.start w #[.int .u8 cc.k, .slice cc.pa cc.pl cc.pc, .string cc.key, .int .i64 cc.i, .int .i64 cc.j, .int .i64 cc.n, .int .u8 cc.v.k, .int .i64 cc.v.n, .string cc.v.s, .slice cc.v.la cc.v.ll cc.v.lc, .slice cc.v.oa cc.v.ol cc.v.oc, .string cc.s] 39)
 have HAL:=qh ((Below.refl _ _).alloc (Nat.le_refl _) (.cells #[.int .u8 cc.k, .slice cc.pa cc.pl cc.pc, .string cc.key, .int .i64 cc.i, .int .i64 cc.j, .int .i64 cc.n, .int .u8 cc.v.k, .int .i64 cc.v.n, .string cc.v.s, .slice cc.v.la cc.v.ll cc.v.lc, .slice cc.v.oa cc.v.ol cc.v.oc, .string cc.s] 39):Below w.heap.size w _)
 obtain ⟨R,hR⟩:∃R,listDo l cc.k cc.i cc.j x=R:=⟨_,rfl⟩
 rw [hR]
 rw [listDo,hk] at hR
 have HL:=qh hlen
 obtain ⟨i,hi⟩:∃i:Nat,cc.i=i:=⟨cc.i.toNat,by omega⟩
 rw [hk] at hi2
 rw [hi] at hR hi1 hi2
 rw [hk,hi] at HCK HBX HAL ⊢
 rw [Int.toNat_natCast] at hR
 have HR:=qh hR
 clear hl hx hc hlen hR hi hi0 hj
 go_enter Tryz.func50,Tryz.ntmps50
 go_wp2_with fail
 refine (HCK.out _ HAL.out).mono ?_
 rintro e w1 ⟨rfl,hb1⟩
 have HD1:=qh (HBX.out.keep hb1 (by simp))
 have HBL1:=qh (HAL.out.trans (hb1.mono (by simp)))
 clear hb1
 go_wp2_with fail
 refine (HOW.out _ HBL1.out).mono ?_
 rintro e w2 ⟨⟨a0,m0,c0,a1,m1,c1,cl,co,rfl,hF⟩,hb2⟩
 have D2:=HD1.out.keep hb2 HD1.out.lt
 obtain ⟨b0,b1,b2,b3,b4,b5,b6,b7,b8,b9,b10,b11⟩:=row12 D2.at_
 have zs2:=D2.lt
 have HBL2:=qh (HBL1.out.trans (hb2.mono HBL1.out.size))
 have hm0:m0=n:=by rw [hF.len, <-HL.out]
 subst hm0
 have hw12:=hb2.size
 have hw1:=HBL1.out.size
 have HF:=qh hF
 have HD2:=qh D2
 have hfld:=Y3 w2 0 0 { data:= #[] } a0 m0 c0 a1 m1 c1
 clear hb2 hF D2
 go_wp2_with fail
 refine (HCV.out _ HBL2.out).mono ?_
 rintro e w3 ⟨⟨f,rfl,hI3⟩,hb3⟩
 have D3:=HD2.out.keep hb3 zs2
 clear b0 b1 b2 b3 b4 b5 b6 b7 b8 b9 b10 b11
 obtain ⟨b0,b1,b2,b3,b4,b5,b6,b7,b8,b9,b10,b11⟩:=row12 D3.at_
 have zs3:=D3.lt
 have HBL3:=qh (HBL2.out.trans (hb3.mono HBL2.out.size))
 have hw23:=hb3.size
 have HF3:=qh (HF.out.later_ hb3)
 have HI3:=qh hI3
 have HAL3:=qh (((Below.refl _ _).alloc (Nat.le_refl _) (.cells #[.int .u8 f.k, .int .i64 f.n, .string f.s, .slice f.la f.ll f.lc, .slice f.oa f.ol f.oc] 36)):Below w3.heap.size w3 _)
 obtain ⟨g,eg,hgb,hbc2⟩:=HF.out.ownL.row (.inl (by omega))
 subst eg
 have hg2:=hbc2.lt
 have hbc:=hbc2.keep hb3 hg2
 have hil:i<cl.length:=by rw [HF.out.ll, <-HL.out];omega
 have hat:=Yo hbc hil
 have q0:=hat.c0;have q1:=hat.c1;have q2:=hat.c2;have q3:=hat.c3;have q4:=hat.c4
 have qf:=fun j=>hbc.fr j
 have qlt:=hbc.lt
 have him:i<m0:=by omega
 have hgn:g≠w3.heap.size:=by omega
 have hz:IsVal (only (fun b=>w.heap.size<=b/\b≠g) w3) w3.heap.size x f:=HI3.out.sub (Ze fun k hk hl=>⟨⟨by omega,by omega⟩,rfl⟩)
 have hset:=(HF3.out.setL (base':=w.heap.size) hw1 (kk:=i) (by rw [<-HL.out];omega) rfl hz (k:=0) (n:=0) (s:= .empty) (by omega) (by omega) (by omega) (by omega) (by decide)).lists.2.2.2.2.1
 obtain rfl:R=l.set i x:=by rw [<-HR.out];rfl
 have HSET:=qh hset
 have hbs:Below w.heap.size w3 (setV w3 g (i*5) f):=((Zi w3 g (i*5) f).below (Nat.le_of_lt qlt)).mono (by omega)
 have HBS:=qh hbs
 clear hb3 hI3 D3 hbc2 hbc hat hz hset hbs
 go_wp2_with fail
 go_returns
 exact ⟨⟨_,_,_,rfl,Y7 HSET.out (Nat.le_refl _) ((Below.refl _ _).alloc (Nat.le_refl _) _)⟩,(HBL3.out.trans HBS.out).alloc (by have:=HBS.out.size;have:=HBL3.out.size;omega) _⟩
set_option maxRecDepth 100000 in
theorem zeq (w:World) (l:List V) (a:Option Addr) (n c:Nat) (hl:IsVals w w.heap.size l a n c) (hfew:n<=100000000) (cc:CC) (x:V) (hx:IsVal w w.heap.size x cc.v) (hc:lCheck n cc.k cc.i cc.j=0) (hk:cc.k=7):
 Calls Tryz.prog 50 #[.slice a n c, .agg #[.int .u8 cc.k, .slice cc.pa cc.pl cc.pc, .string cc.key, .int .i64 cc.i, .int .i64 cc.j, .int .i64 cc.n, .int .u8 cc.v.k, .int .i64 cc.v.n, .string cc.v.s, .slice cc.v.la cc.v.ll cc.v.lc, .slice cc.v.oa cc.v.ol cc.v.oc, .string cc.s]] w (DoLPost w (listDo l cc.k cc.i cc.j x)):=by
 have hmax:=hl.max
 have hlen:=hl.len
 obtain ⟨_,_,hi0,hi1,hi2,hj⟩:=Yl hc
 have HCK:Hid (∀W,Below w.heap.size w W->Calls Tryz.prog 87 #[.int .i64 n, .agg #[.int .u8 cc.k, .slice cc.pa cc.pl cc.pc, .string cc.key, .int .i64 cc.i, .int .i64 cc.j, .int .i64 cc.n, .int .u8 cc.v.k, .int .i64 cc.v.n, .string cc.v.s, .slice cc.v.la cc.v.ll cc.v.lc, .slice cc.v.oa cc.v.ol cc.v.oc, .string cc.s]] W fun e w'=>e= .returned (.int .i64 0)/\Below W.heap.size W w'):=fun W hW=>by
  have:=Qg W n (by omega) cc
  rw [hc] at this;exact this
 have HOW:Hid (∀W,Below w.heap.size w W->Calls Tryz.prog 30 #[.agg #[.int .u8 0, .int .i64 0, .string { data:= #[] }, .slice a n c, .slice none 0 0]] W (CopyPost W 0 0 { data:= #[] } l [])):=fun W hW=>Jl W l a n c (hl.later_ hW)
 have HCV:Hid (∀W,Below w.heap.size w W->Calls Tryz.prog 30 #[.agg #[.int .u8 cc.v.k, .int .i64 cc.v.n, .string cc.v.s, .slice cc.v.la cc.v.ll cc.v.lc, .slice cc.v.oa cc.v.ol cc.v.oc]] W (NewVal W x)):=fun W hW=>Yz x W cc.v (hx.later_ hW)
 have HBX:=qh (BC.start w #[.int .u8 cc.k, .slice cc.pa cc.pl cc.pc, .string cc.key, .int .i64 cc.i, .int .i64 cc.j, .int .i64 cc.n, .int .u8 cc.v.k, .int .i64 cc.v.n, .string cc.v.s, .slice cc.v.la cc.v.ll cc.v.lc, .slice cc.v.oa cc.v.ol cc.v.oc, .string cc.s] 39)
 have HAL:=qh ((Below.refl _ _).alloc (Nat.le_refl _) (.cells #[.int .u8 cc.k, .slice cc.pa cc.pl cc.pc, .string cc.key, .int .i64 cc.i, .int .i64 cc.j, .int .i64 cc.n, .int .u8 cc.v.k, .int .i64 cc.v.n, .string cc.v.s, .slice cc.v.la cc.v.ll cc.v.lc, .slice cc.v.oa cc.v.ol cc.v.oc, .string cc.s] 39):Below w.heap.size w _)
 obtain ⟨R,hR⟩:∃R,listDo l cc.k cc.i cc.j x=R:=⟨_,rfl⟩
 rw [hR]
 rw [listDo,hk] at hR
 have HL:=qh hlen
 obtain ⟨i,hi⟩:∃i:Nat,cc.i=i:=⟨cc.i.toNat,by omega⟩
 rw [hk] at hi2
 obtain ⟨j,hj2⟩:∃j:Nat,cc.j=j:=⟨cc.j.toNat,by have:=hj hk;omega⟩
 have hj3:j<n:=by have:=hj hk;omega
 rw [hi] at hR hi1 hi2
 rw [hk,hi] at HCK HBX HAL ⊢
 rw [hj2] at hR HCK HBX HAL
 rw [Int.toNat_natCast j] at hR
 rw [Int.toNat_natCast] at hR
 have HR:=qh hR
 clear hl hx hc hlen hR hi hi0 hj
 go_enter Tryz.func50,Tryz.ntmps50
 go_wp2_with fail
 refine (HCK.out _ HAL.out).mono ?_
 rintro e w1 ⟨rfl,hb1⟩
 have HD1:=qh (HBX.out.keep hb1 (by simp))
 have HBL1:=qh (HAL.out.trans (hb1.mono (by simp)))
 clear hb1
 go_wp2_with fail
 refine (HOW.out _ HBL1.out).mono ?_
 rintro e w2 ⟨⟨a0,m0,c0,a1,m1,c1,cl,co,rfl,hF⟩,hb2⟩
 have D2:=HD1.out.keep hb2 HD1.out.lt
 obtain ⟨b0,b1,b2,b3,b4,b5,b6,b7,b8,b9,b10,b11⟩:=row12 D2.at_
 have zs2:=D2.lt
 have HBL2:=qh (HBL1.out.trans (hb2.mono HBL1.out.size))
 have hm0:m0=n:=by rw [hF.len, <-HL.out]
 subst hm0
 have hw12:=hb2.size
 have hw1:=HBL1.out.size
 have HF:=qh hF
 have HD2:=qh D2
 have hfld:=Y3 w2 0 0 { data:= #[] } a0 m0 c0 a1 m1 c1
 clear hb2 hF D2
 go_wp2_with fail
 refine (HCV.out _ HBL2.out).mono ?_
 rintro e w3 ⟨⟨f,rfl,hI3⟩,hb3⟩
 have D3:=HD2.out.keep hb3 zs2
 clear b0 b1 b2 b3 b4 b5 b6 b7 b8 b9 b10 b11
 obtain ⟨b0,b1,b2,b3,b4,b5,b6,b7,b8,b9,b10,b11⟩:=row12 D3.at_
 have zs3:=D3.lt
 have HBL3:=qh (HBL2.out.trans (hb3.mono HBL2.out.size))
 have hw23:=hb3.size
 have HF3:=qh (HF.out.later_ hb3)
 have HI3:=qh hI3
 have HAL3:=qh (((Below.refl _ _).alloc (Nat.le_refl _) (.cells #[.int .u8 f.k, .int .i64 f.n, .string f.s, .slice f.la f.ll f.lc, .slice f.oa f.ol f.oc] 36)):Below w3.heap.size w3 _)
 obtain ⟨g,eg,hgb,hbc2⟩:=HF.out.ownL.row (.inl (by omega))
 subst eg
 have hg2:=hbc2.lt
 have hbc:=hbc2.keep hb3 hg2
 have hill:i<l.length:=by rw [<-HL.out];omega
 have hil:i<cl.length:=by rw [HF.out.ll];exact hill
 have hat:=Yo hbc hil
 have hpi:=HF3.out.lv i hill hill
 have he:cl.getD i vzero=cl[i] :=by simp [List.getD_eq_getElem?_getD,hil]
 rw [he] at hpi
 obtain ⟨fi,hfi⟩:∃fi,cl[i] =fi:=⟨_,rfl⟩
 rw [hfi] at hat hpi
 have q0:=hat.c0;have q1:=hat.c1;have q2:=hat.c2;have q3:=hat.c3;have q4:=hat.c4
 have qlt:=hbc.lt
 have him:i<m0:=by omega
 have HPI:Hid (∀W,Below w3.heap.size w3 W->IsVal (only (fun b=>w.heap.size<=b) W) W.heap.size l[i] fi):=fun W hW=>(hpi.sub (Ze fun k hk hl=>⟨by have:=hk.1;omega,hW.block k hl⟩)).more hW.size
 obtain rfl:R=insL (remL l i) j l[i] :=by
  rw [<-HR.out,if_neg (by omega),if_neg (by omega),if_neg (by omega),List.getD_eq_getElem?_getD,List.getElem?_eq_getElem hill];rfl
 have HWO:Hid (∀W,Below w3.heap.size w3 W->Calls Tryz.prog 89 #[.slice (some ⟨g,0,none⟩) m0 c0, .int .i64 i] W (ListPost W w.heap.size (remL l i))):=fun W hW=>zbh W w.heap.size (by have:=hW.size;omega) l _ m0 c0 (Y7 HF3.out.vals hw1 hW) i him (by omega)
 have hlr:(remL l i).length=m0 - 1:=by rw [remL,List.length_append,List.length_take,List.length_drop, <-HL.out];omega
 have HLR:=qh hlr
 have HB3:=qh hb3
 clear hb3 hI3 D3 hbc2 hbc hat hpi he hfi hlr
 go_wp2_with fail
 obtain ⟨W3,hW3⟩:∃W3,(w3.alloc (.cells #[.int .u8 f.k, .int .i64 f.n, .string f.s, .slice f.la f.ll f.lc, .slice f.oa f.ol f.oc] 36))=W3:=⟨_,rfl⟩
 have hal3:=HAL3.out
 rw [hW3] at hal3 ⊢
 have hz3:=hal3.size
 have HAL4:=qh hal3
 have HFB:Hid (∀W,Below W3.heap.size W3.drew W->W.cell? ⟨w.heap.size,3,none⟩=some (.int .i64 i)/\W.cell? ⟨w.heap.size,4,none⟩=some (.int .i64 j)/\W.cell? ⟨g,i*5,none⟩=some (.int .u8 fi.k)/\W.cell? ⟨g,i*5+1,none⟩=some (.int .i64 fi.n)/\W.cell? ⟨g,i*5+2,none⟩=some (.string fi.s)/\W.cell? ⟨g,i*5+3,none⟩=some (.slice fi.la fi.ll fi.lc)/\W.cell? ⟨g,i*5+4,none⟩=some (.slice fi.oa fi.ol fi.oc)):=by
  intro W hW
  have hk:∀b o u,b<w3.heap.size->w3.cell? ⟨b,o,none⟩=some u->W.cell? ⟨b,o,none⟩=some u:=fun b o u hb h=>Zb hW (Zb (Zf W3) (Zb HAL4.out h hb) (by omega)) (by omega)
  exact ⟨hk _ _ _ zs3 b3,hk _ _ _ zs3 b4,hk _ _ _ qlt q0,hk _ _ _ qlt q1,hk _ _ _ qlt q2,hk _ _ _ qlt q3,hk _ _ _ qlt q4⟩
 have hdr:∀W,Below W3.heap.size W3.drew W->Below w3.heap.size w3 W:=fun W hW=>(HAL4.out.trans ((Zf W3).mono hz3)).trans (hW.mono hz3)
 have HDR:=qh hdr
 clear hal3 hW3 HAL3 hdr
 refine wp_region_noPanic ?_
 go_region_held_law (fun W=>W.cell? ⟨w.heap.size,3,none⟩=some (.int .i64 i)/\W.cell? ⟨w.heap.size,4,none⟩=some (.int .i64 j)/\W.cell? ⟨g,i*5,none⟩=some (.int .u8 fi.k)/\W.cell? ⟨g,i*5+1,none⟩=some (.int .i64 fi.n)/\W.cell? ⟨g,i*5+2,none⟩=some (.string fi.s)/\W.cell? ⟨g,i*5+3,none⟩=some (.slice fi.la fi.ll fi.lc)/\W.cell? ⟨g,i*5+4,none⟩=some (.slice fi.oa fi.ol fi.oc))
  ((refine HFB.out _ ?_;(first|(with_reducible exact Below.refl _ _)|(with_reducible exact bl6)|(with_reducible exact bl5))))
  (first
   |(go_at_call 89;(with_reducible refine (HWO.out _ (HDR.out _ (Below.refl _ _))).mono ?_);rintro e w5 ⟨⟨a5,n5,c5,rfl,hI5,hN5⟩,hb5⟩;have bl5:Below W3.heap.size W3.drew w5:=hb5)
   |(go_at_call 88;refine (Ky w5 w.heap.size (by have:=(HDR.out w5 bl5).size;omega) (remL l i) a5 n5 c5 hI5 hN5 j (by have:=hI5.len;have:=HLR.out;omega) l[i] fi.k fi.n fi.s fi.la fi.ll fi.lc fi.oa fi.ol fi.oc (HPI.out w5 (HDR.out w5 bl5)) (by have:=hI5.len;have:=HLR.out;omega)).mono ?_;rintro e w6 ⟨⟨a6,n6,c6,rfl,hI6,hN6⟩,hb6⟩;have bl6:Below W3.heap.size W3.drew w6:=bl5.trans (hb6.mono bl5.size)))
 all_goals
  refine NoPanic.normal ?_
  go_wp2_with fail
  go_returns
  exact ⟨⟨a6,n6,c6,rfl,hI6⟩,HBL3.out.trans ((HDR.out w6 bl6).mono HBL3.out.size)⟩
theorem zel (w:World) (l:List V) (a:Option Addr) (n c:Nat) (hl:IsVals w w.heap.size l a n c) (hfew:n<=100000000) (cc:CC) (x:V) (hx:IsVal w w.heap.size x cc.v) (hc:lCheck n cc.k cc.i cc.j=0):
 Calls Tryz.prog 50 #[.slice a n c, .agg #[.int .u8 cc.k, .slice cc.pa cc.pl cc.pc, .string cc.key, .int .i64 cc.i, .int .i64 cc.j, .int .i64 cc.n, .int .u8 cc.v.k, .int .i64 cc.v.n, .string cc.v.s, .slice cc.v.la cc.v.ll cc.v.lc, .slice cc.v.oa cc.v.ol cc.v.oc, .string cc.s]] w (DoLPost w (listDo l cc.k cc.i cc.j x)):=by
 obtain ⟨h1,h2,_⟩:=Yl hc
 by_cases e4:cc.k=4
 .exact zh0 w l a n c hl hfew cc x hx hc e4
 by_cases e5:cc.k=5
 .exact zhx w l a n c hl hfew cc x hx hc e5
 by_cases e6:cc.k=6
 .exact zd8 w l a n c hl hfew cc x hx hc e6
 .exact zeq w l a n c hl hfew cc x hx hc (by omega)
def kindsP (x:V) (k i j n:Int) (key:ByteArray):Int:=
 if k=1 then (if x.kd≠2 then 31 else 0)
 else if k=2∨k=3 then (if x.kd≠5 then 31 else if k=3/\fieldIs x.os key=false then 33 else 0)
 else if k=8∨k=9 then (if x.kd≠3 then 31 else tCheck x.str k i n)
 else if x.kd≠4 then 31 else lCheck x.ls.length k i j
structure KBk (w W:World) (c:VC) (cc:CC):Prop where
 v:BC W w.heap.size (vcells c)
 c:BC W (w.heap.size+1) (ccells cc)
 below:Below w.heap.size w W
theorem KBk.start (w:World) (c:VC) (cc:CC) (t1 t2:TypeId):KBk w ((w.alloc (.cells #[.int .u8 c.k, .int .i64 c.n, .string c.s, .slice c.la c.ll c.lc, .slice c.oa c.ol c.oc] t1)).alloc (.cells #[.int .u8 cc.k, .slice cc.pa cc.pl cc.pc, .string cc.key, .int .i64 cc.i, .int .i64 cc.j, .int .i64 cc.n, .int .u8 cc.v.k, .int .i64 cc.v.n, .string cc.v.s, .slice cc.v.la cc.v.ll cc.v.lc, .slice cc.v.oa cc.v.ol cc.v.oc, .string cc.s] t2)) c cc:=by
 have c2:=BC.start (w.alloc (.cells #[.int .u8 c.k, .int .i64 c.n, .string c.s, .slice c.la c.ll c.lc, .slice c.oa c.ol c.oc] t1)) #[.int .u8 cc.k, .slice cc.pa cc.pl cc.pc, .string cc.key, .int .i64 cc.i, .int .i64 cc.j, .int .i64 cc.n, .int .u8 cc.v.k, .int .i64 cc.v.n, .string cc.v.s, .slice cc.v.la cc.v.ll cc.v.lc, .slice cc.v.oa cc.v.ol cc.v.oc, .string cc.s] t2
 rw [World.size_alloc] at c2
 exact ⟨(BC.start w #[.int .u8 c.k, .int .i64 c.n, .string c.s, .slice c.la c.ll c.lc, .slice c.oa c.ol c.oc] t1).keep ((Below.refl _ _).alloc (Nat.le_refl _) _) (by simp),c2,((Below.refl _ _).alloc (Nat.le_refl _) _).alloc (by simp) _⟩
theorem KBk.next {w W W':World} {c:VC} {cc:CC} {B:Nat} (h:KBk w W c cc) (hb:Below B W W') (hB:w.heap.size+2<=B):KBk w W' c cc:=
 ⟨h.v.keep hb (by omega),h.c.keep hb (by omega),h.below.trans (hb.mono (by omega))⟩
set_option maxRecDepth 100000 in
theorem zfh (w:World) (vk vn:Int) (vs:ByteArray) (la:Option Addr) (ll lc:Nat) (oa:Option Addr) (ol oc:Nat) (v:V) (hv:IsVal w w.heap.size v ⟨vk,vn,vs,la,ll,lc,oa,ol,oc⟩) (hs:vs.size<=1000000000000) (cc:CC) (hcb:cc.Bnd) (hT:Tabs w):
 Calls Tryz.prog 69 #[.agg #[.int .u8 vk, .int .i64 vn, .string vs, .slice la ll lc, .slice oa ol oc], .agg #[.int .u8 cc.k, .slice cc.pa cc.pl cc.pc, .string cc.key, .int .i64 cc.i, .int .i64 cc.j, .int .i64 cc.n, .int .u8 cc.v.k, .int .i64 cc.v.n, .string cc.v.s, .slice cc.v.la cc.v.ll cc.v.lc, .slice cc.v.oa cc.v.ol cc.v.oc, .string cc.s]] w fun e w'=>e= .returned (.int .i64 (kindsP v cc.k cc.i cc.j cc.n cc.key))/\Below w.heap.size w w':=by
 obtain ⟨k',n',s',l,o,rfl⟩:=v.eta
 obtain ⟨e1,e2,e3,hbd,hvl,hvo⟩:=hv.lists
 dsimp only at e1 e2 e3 hvl hvo
 subst e1 e2 e3
 have k1:=hvl.few;have k2:=hvl.max;have k3:=hvo.few;have k4:=hvo.max
 have HF:Hid (∀W,Below w.heap.size w W->Calls Tryz.prog 75 #[.agg #[.int .u8 vk, .int .i64 vn, .string vs, .slice la ll lc, .slice oa ol oc], .string cc.key] W fun e w'=>e= .returned (.tuple #[.int .i64 (fieldK o cc.key:Int), .bool (fieldIs o cc.key)])/\Below W.heap.size W w'):=fun W hW=>Yg W o cc.key vk vn vs la ll lc oa ol oc (hvo.later_ hW)
 have HTC:Hid (∀W,Below w.heap.size w W->Calls Tryz.prog 85 #[.string vs, .agg #[.int .u8 cc.k, .slice cc.pa cc.pl cc.pc, .string cc.key, .int .i64 cc.i, .int .i64 cc.j, .int .i64 cc.n, .int .u8 cc.v.k, .int .i64 cc.v.n, .string cc.v.s, .slice cc.v.la cc.v.ll cc.v.lc, .slice cc.v.oa cc.v.ol cc.v.oc, .string cc.s]] W fun e w'=>e= .returned (.int .i64 (tCheck vs cc.k cc.i cc.n))/\Below W.heap.size W w'):=fun W hW=>zbn W vs cc hcb hs (hT.below hW)
 have HLC:Hid (∀W,Below w.heap.size w W->Calls Tryz.prog 87 #[.int .i64 ll, .agg #[.int .u8 cc.k, .slice cc.pa cc.pl cc.pc, .string cc.key, .int .i64 cc.i, .int .i64 cc.j, .int .i64 cc.n, .int .u8 cc.v.k, .int .i64 cc.v.n, .string cc.v.s, .slice cc.v.la cc.v.ll cc.v.lc, .slice cc.v.oa cc.v.ol cc.v.oc, .string cc.s]] W fun e w'=>e= .returned (.int .i64 (lCheck ll cc.k cc.i cc.j))/\Below W.heap.size W w'):=fun W _=>Qg W ll (by omega) cc
 obtain ⟨K,hK⟩:∃K,fieldK o cc.key=K:=⟨_,rfl⟩
 obtain ⟨is,hi⟩:∃is,fieldIs o cc.key=is:=⟨_,rfl⟩
 rw [hK,hi] at HF
 obtain ⟨R,hR⟩:∃R,kindsP (.mk vk vn vs l o) cc.k cc.i cc.j cc.n cc.key=R:=⟨_,rfl⟩
 rw [hR]
 simp only [kindsP,V.kd,V.os,V.ls,V.str,hi, <-hvl.len] at hR
 have HB:=qh (KBk.start w ⟨vk,vn,vs,la,ll,lc,oa,ol,oc⟩ cc 36 39)
 obtain ⟨tc,htc⟩:∃tc,tCheck vs cc.k cc.i cc.n=tc:=⟨_,rfl⟩
 obtain ⟨lk,hlk⟩:∃lk,lCheck ll cc.k cc.i cc.j=lk:=⟨_,rfl⟩
 rw [htc] at HTC
 rw [hlk] at HLC
 rw [htc,hlk] at hR
 obtain ⟨ck,hck⟩:∃ck,cc.k=ck:=⟨_,rfl⟩
 rw [hck] at hR HTC HLC HB ⊢
 have HCK:=qh hck
 have HR:=qh hR
 clear hvl hvo hv hbd hK hi hR hT hcb htc hlk hck
 by_cases e1:ck=1
 .cases e1
  by_cases h:vk=2
  .cases h
   obtain rfl:R=0:=by rw [<-HR.out];rfl
   go_enter Tryz.func69,Tryz.ntmps69
   go_wp2_with fail
   go_returns
   exact ⟨rfl,HB.out.below⟩
  .have f:(vk !=2)=true:=by simp [h]
   obtain rfl:R=31:=by rw [<-HR.out];simp [h]
   go_enter Tryz.func69,Tryz.ntmps69
   go_wp2_with fail
   go_returns
   exact ⟨rfl,HB.out.below⟩
 have g1:(ck==1)=false:=by simp [e1]
 by_cases e2:ck=2
 .cases e2
  by_cases h:vk=5
  .cases h
   obtain rfl:R=0:=by rw [<-HR.out];simp
   go_enter Tryz.func69,Tryz.ntmps69
   go_wp2_with fail
   refine (HF.out _ HB.out.below).mono ?_
   rintro e W ⟨rfl,hb1⟩
   have B:=HB.out.next hb1 (by simp)
   obtain ⟨v0,v1,v2,v3,v4⟩:=row5 B.v.at_
   obtain ⟨b0,b1,b2,b3,b4,b5,b6,b7,b8,b9,b10,b11⟩:=row12 B.c.at_
   have z0:=B.v.lt;have z1:=B.c.lt
   rw [HCK.out] at b0
   have HBW:=qh B.below
   clear B hb1
   go_wp2_with fail
   go_returns
   exact ⟨rfl,HBW.out⟩
  .have f:(vk !=5)=true:=by simp [h]
   obtain rfl:R=31:=by rw [<-HR.out];simp [h]
   go_enter Tryz.func69,Tryz.ntmps69
   go_wp2_with fail
   refine (HF.out _ HB.out.below).mono ?_
   rintro e W ⟨rfl,hb1⟩
   have B:=HB.out.next hb1 (by simp)
   obtain ⟨v0,v1,v2,v3,v4⟩:=row5 B.v.at_
   obtain ⟨b0,b1,b2,b3,b4,b5,b6,b7,b8,b9,b10,b11⟩:=row12 B.c.at_
   have z0:=B.v.lt;have z1:=B.c.lt
   rw [HCK.out] at b0
   have HBW:=qh B.below
   clear B hb1
   go_wp2_with fail
   go_returns
   exact ⟨rfl,HBW.out⟩
 have g2:(ck==2)=false:=by simp [e2]
 by_cases e3:ck=3
 .cases e3
  by_cases h:vk=5
  .cases h
   cases is with
   | true=>
     obtain rfl:R=0:=by rw [<-HR.out];simp
     go_enter Tryz.func69,Tryz.ntmps69
     go_wp2_with fail
     refine (HF.out _ HB.out.below).mono ?_
     rintro e W ⟨rfl,hb1⟩
     have B:=HB.out.next hb1 (by simp)
     obtain ⟨v0,v1,v2,v3,v4⟩:=row5 B.v.at_
     obtain ⟨b0,b1,b2,b3,b4,b5,b6,b7,b8,b9,b10,b11⟩:=row12 B.c.at_
     have z0:=B.v.lt;have z1:=B.c.lt
     rw [HCK.out] at b0
     have HBW:=qh B.below
     clear B hb1
     go_wp2_with fail
     go_returns
     exact ⟨rfl,HBW.out⟩
   | false=>
     obtain rfl:R=33:=by rw [<-HR.out];simp
     go_enter Tryz.func69,Tryz.ntmps69
     go_wp2_with fail
     refine (HF.out _ HB.out.below).mono ?_
     rintro e W ⟨rfl,hb1⟩
     have B:=HB.out.next hb1 (by simp)
     obtain ⟨v0,v1,v2,v3,v4⟩:=row5 B.v.at_
     obtain ⟨b0,b1,b2,b3,b4,b5,b6,b7,b8,b9,b10,b11⟩:=row12 B.c.at_
     have z0:=B.v.lt;have z1:=B.c.lt
     rw [HCK.out] at b0
     have HBW:=qh B.below
     clear B hb1
     go_wp2_with fail
     go_returns
     exact ⟨rfl,HBW.out⟩
  .have f:(vk !=5)=true:=by simp [h]
   obtain rfl:R=31:=by rw [<-HR.out];simp [h]
   go_enter Tryz.func69,Tryz.ntmps69
   go_wp2_with fail
   refine (HF.out _ HB.out.below).mono ?_
   rintro e W ⟨rfl,hb1⟩
   have B:=HB.out.next hb1 (by simp)
   obtain ⟨v0,v1,v2,v3,v4⟩:=row5 B.v.at_
   obtain ⟨b0,b1,b2,b3,b4,b5,b6,b7,b8,b9,b10,b11⟩:=row12 B.c.at_
   have z0:=B.v.lt;have z1:=B.c.lt
   rw [HCK.out] at b0
   have HBW:=qh B.below
   clear B hb1
   go_wp2_with fail
   go_returns
   exact ⟨rfl,HBW.out⟩
 have g3:(ck==3)=false:=by simp [e3]
 by_cases e8:ck=8
 .cases e8
  by_cases h:vk=3
  .cases h
   obtain rfl:R=tc:=by rw [<-HR.out];simp
   go_enter Tryz.func69,Tryz.ntmps69
   go_wp2_with fail
   refine (HTC.out _ HB.out.below).mono ?_
   rintro e W ⟨rfl,hb1⟩
   have B:=HB.out.next hb1 (by simp)
   obtain ⟨v0,v1,v2,v3,v4⟩:=row5 B.v.at_
   obtain ⟨b0,b1,b2,b3,b4,b5,b6,b7,b8,b9,b10,b11⟩:=row12 B.c.at_
   have z0:=B.v.lt;have z1:=B.c.lt
   rw [HCK.out] at b0
   have HBW:=qh B.below
   clear B hb1
   go_wp2_with fail
   go_returns
   exact ⟨rfl,HBW.out⟩
  .have f:(vk !=3)=true:=by simp [h]
   obtain rfl:R=31:=by rw [<-HR.out];simp [h]
   go_enter Tryz.func69,Tryz.ntmps69
   go_wp2_with fail
   go_returns
   exact ⟨rfl,HB.out.below⟩
 have g8:(ck==8)=false:=by simp [e8]
 by_cases e9:ck=9
 .cases e9
  by_cases h:vk=3
  .cases h
   obtain rfl:R=tc:=by rw [<-HR.out];simp
   go_enter Tryz.func69,Tryz.ntmps69
   go_wp2_with fail
   refine (HTC.out _ HB.out.below).mono ?_
   rintro e W ⟨rfl,hb1⟩
   have B:=HB.out.next hb1 (by simp)
   obtain ⟨v0,v1,v2,v3,v4⟩:=row5 B.v.at_
   obtain ⟨b0,b1,b2,b3,b4,b5,b6,b7,b8,b9,b10,b11⟩:=row12 B.c.at_
   have z0:=B.v.lt;have z1:=B.c.lt
   rw [HCK.out] at b0
   have HBW:=qh B.below
   clear B hb1
   go_wp2_with fail
   go_returns
   exact ⟨rfl,HBW.out⟩
  .have f:(vk !=3)=true:=by simp [h]
   obtain rfl:R=31:=by rw [<-HR.out];simp [h]
   go_enter Tryz.func69,Tryz.ntmps69
   go_wp2_with fail
   go_returns
   exact ⟨rfl,HB.out.below⟩
 have g9:(ck==9)=false:=by simp [e9]
 by_cases h:vk=4
 .cases h
  obtain rfl:R=lk:=by rw [<-HR.out];rw [if_neg e1,if_neg (by omega),if_neg (by omega),if_neg (by omega)]
  go_enter Tryz.func69,Tryz.ntmps69
  go_wp2_with fail
  refine (HLC.out _ HB.out.below).mono ?_
  rintro e W ⟨rfl,hb1⟩
  have B:=HB.out.next hb1 (by simp)
  obtain ⟨v0,v1,v2,v3,v4⟩:=row5 B.v.at_
  obtain ⟨b0,b1,b2,b3,b4,b5,b6,b7,b8,b9,b10,b11⟩:=row12 B.c.at_
  have z0:=B.v.lt;have z1:=B.c.lt
  rw [HCK.out] at b0
  have HBW:=qh B.below
  clear B hb1
  go_wp2_with fail
  go_returns
  exact ⟨rfl,HBW.out⟩
 .have f:(vk !=4)=true:=by simp [h]
  obtain rfl:R=31:=by rw [<-HR.out];rw [if_neg e1,if_neg (by omega),if_neg (by omega),if_pos h]
  go_enter Tryz.func69,Tryz.ntmps69
  go_wp2_with fail
  go_returns
  exact ⟨rfl,HB.out.below⟩
end Go.Proofs.YtnjgbiachcfigaaGreatDoor
