/-
  Contracts of the functions that the law reaches: conciliatorref05.known, Check..
-/
import Derived.Test.YtnjgbiachcfigaaGreatDoorIa21
namespace Go.Proofs.YtnjgbiachcfigaaGreatDoor
open Go.RowKit
set_option maxHeartbeats 8000000
set_option maxRecDepth 100000 in
theorem zlu (w:World) (c:CC):
 uP 126 #[.agg #[.int .u8 c.k, .slice c.pa c.pl c.pc, .string c.key, .int .i64 c.i, .int .i64 c.j, .int .i64 c.n, .int .u8 c.v.k, .int .i64 c.v.n, .string c.v.s, .slice c.v.la c.v.ll c.v.lc, .slice c.v.oa c.v.ol c.v.oc, .string c.s]] w fun e w'=>e= .returned (.bool (decide (4<=c.k/\c.k<=7)))/\Below w.heap.size w w':=by
 delta uP
 have HBX:=qh (BC.start w #[.int .u8 c.k, .slice c.pa c.pl c.pc, .string c.key, .int .i64 c.i, .int .i64 c.j, .int .i64 c.n, .int .u8 c.v.k, .int .i64 c.v.n, .string c.v.s, .slice c.v.la c.v.ll c.v.lc, .slice c.v.oa c.v.ol c.v.oc, .string c.s] 39)
 have HAL:=qh ((Below.refl _ _).alloc (Nat.le_refl _) (.cells #[.int .u8 c.k, .slice c.pa c.pl c.pc, .string c.key, .int .i64 c.i, .int .i64 c.j, .int .i64 c.n, .int .u8 c.v.k, .int .i64 c.v.n, .string c.v.s, .slice c.v.la c.v.ll c.v.lc, .slice c.v.oa c.v.ol c.v.oc, .string c.s] 39):Below w.heap.size w _)
 obtain ⟨R,hR⟩:∃R,decide (4<=c.k/\c.k<=7)=R:=⟨_,rfl⟩
 rw [hR]
 obtain ⟨ck,hck⟩:∃ck,c.k=ck:=⟨_,rfl⟩
 rw [hck] at HBX HAL hR ⊢
 have HR:=qh hR
 clear hck hR
 by_cases e4:ck=4
 .cases e4
  obtain rfl:R=true:=by rw [<-HR.out];rfl
  go_enter Tryz.func126,Tryz.ntmps126
  go_wp2_with fail
  go_returns
  exact ⟨rfl,HAL.out⟩
 have f4:(ck==4)=false:=by simp [e4]
 by_cases e5:ck=5
 .cases e5
  obtain rfl:R=true:=by rw [<-HR.out];rfl
  go_enter Tryz.func126,Tryz.ntmps126
  go_wp2_with fail
  go_returns
  exact ⟨rfl,HAL.out⟩
 have f5:(ck==5)=false:=by simp [e5]
 by_cases e6:ck=6
 .cases e6
  obtain rfl:R=true:=by rw [<-HR.out];rfl
  go_enter Tryz.func126,Tryz.ntmps126
  go_wp2_with fail
  go_returns
  exact ⟨rfl,HAL.out⟩
 have f6:(ck==6)=false:=by simp [e6]
 by_cases e7:ck=7
 .cases e7
  obtain rfl:R=true:=by rw [<-HR.out];rfl
  go_enter Tryz.func126,Tryz.ntmps126
  go_wp2_with fail
  go_returns
  exact ⟨rfl,HAL.out⟩
 have f7:(ck==7)=false:=by simp [e7]
 obtain rfl:R=false:=by rw [<-HR.out];simp;omega
 go_enter Tryz.func126,Tryz.ntmps126
 go_wp2_with fail
 go_returns
 exact ⟨rfl,HAL.out⟩
def lCheck (n:Nat) (k i j:Int):Int:=
 if ¬(4<=k/\k<=7) then 31 else if i<0∨(n:Int)<i∨(i=n/\k≠4) then 32 else if k=7/\(j<0∨(n:Int)<=j) then 32 else 0
theorem Yr {n:Nat} {k i j:Int} (h:lCheck n k i j=0):4<=k/\k<=7/\0<=i/\i<=n/\(k≠4->i<n)/\(k=7->0<=j/\j<n):=by
 unfold lCheck at h
 by_cases h1:¬(4<=k/\k<=7)
 .rw [if_pos h1] at h;omega
 .rw [if_neg h1] at h
  by_cases h2:i<0∨(n:Int)<i∨(i=n/\k≠4)
  .rw [if_pos h2] at h;omega
  .rw [if_neg h2] at h
   by_cases h3:k=7/\(j<0∨(n:Int)<=j)
   .rw [if_pos h3] at h;omega
   .omega
set_option maxRecDepth 100000 in
theorem Qh (w:World) (n:Nat) (hn:n<=9223372036854775807) (c:CC):
 uP 87 #[.int .i64 n, .agg #[.int .u8 c.k, .slice c.pa c.pl c.pc, .string c.key, .int .i64 c.i, .int .i64 c.j, .int .i64 c.n, .int .u8 c.v.k, .int .i64 c.v.n, .string c.v.s, .slice c.v.la c.v.ll c.v.lc, .slice c.v.oa c.v.ol c.v.oc, .string c.s]] w fun e w'=>e= .returned (.int .i64 (lCheck n c.k c.i c.j))/\Below w.heap.size w w':=by
 delta uP
 have HBX:=qh (BC.start w #[.int .u8 c.k, .slice c.pa c.pl c.pc, .string c.key, .int .i64 c.i, .int .i64 c.j, .int .i64 c.n, .int .u8 c.v.k, .int .i64 c.v.n, .string c.v.s, .slice c.v.la c.v.ll c.v.lc, .slice c.v.oa c.v.ol c.v.oc, .string c.s] 39)
 have HAL:=qh ((Below.refl _ _).alloc (Nat.le_refl _) (.cells #[.int .u8 c.k, .slice c.pa c.pl c.pc, .string c.key, .int .i64 c.i, .int .i64 c.j, .int .i64 c.n, .int .u8 c.v.k, .int .i64 c.v.n, .string c.v.s, .slice c.v.la c.v.ll c.v.lc, .slice c.v.oa c.v.ol c.v.oc, .string c.s] 39):Below w.heap.size w _)
 have HKN:Hid (∀W,uP 126 #[.agg #[.int .u8 c.k, .slice c.pa c.pl c.pc, .string c.key, .int .i64 c.i, .int .i64 c.j, .int .i64 c.n, .int .u8 c.v.k, .int .i64 c.v.n, .string c.v.s, .slice c.v.la c.v.ll c.v.lc, .slice c.v.oa c.v.ol c.v.oc, .string c.s]] W fun e w'=>e= .returned (.bool (decide (4<=c.k/\c.k<=7)))/\Below W.heap.size W w'):=fun W=>zlu W c
 obtain ⟨KN,hKN⟩:∃KN,decide (4<=c.k/\c.k<=7)=KN:=⟨_,rfl⟩
 rw [hKN] at HKN
 obtain ⟨R,hR⟩:∃R,lCheck n c.k c.i c.j=R:=⟨_,rfl⟩
 rw [hR]
 rw [lCheck] at hR
 obtain ⟨ck,hck⟩:∃ck,c.k=ck:=⟨_,rfl⟩
 obtain ⟨ci,hci⟩:∃ci,c.i=ci:=⟨_,rfl⟩
 obtain ⟨cj,hcj⟩:∃cj,c.j=cj:=⟨_,rfl⟩
 rw [hck,hci,hcj] at hR HKN HBX HAL ⊢
 rw [hck] at hKN
 have HR:=qh hR
 have HKE:=qh hKN
 clear hR hck hci hcj hKN
 cases KN with
 | false=>
   have hk:¬(4<=ck/\ck<=7):=by simpa using HKE.out
   have HK:=qh hk
   clear hk
   obtain rfl:R=31:=by rw [<-HR.out];rw [if_pos HK.out]
   go_enter Tryz.func87,Tryz.ntmps87
   go_wp2_with fail
   refine (HKN.out _).mono ?_
   rintro e w1 ⟨rfl,hb1⟩
   have D:=HBX.out.keep hb1 (by simp)
   obtain ⟨b0,b1,b2,b3,b4,b5,b6,b7,b8,b9,b10,b11⟩:=row12 D.at_
   have zs:=D.lt
   have HBL:=qh (HAL.out.trans (hb1.mono (by simp)))
   clear D hb1
   go_wp2_with fail
   go_returns
   exact ⟨rfl,HBL.out⟩
 | true =>
   have hk:4<=ck/\ck<=7:=by simpa using HKE.out
   have HK:=qh hk
   clear hk
   by_cases h1:ci<0
   .obtain rfl:R=32:=by rw [<-HR.out];rw [if_neg (fun h=>h HK.out),if_pos (.inl h1)]
    go_enter Tryz.func87,Tryz.ntmps87
    go_wp2_with fail
    refine (HKN.out _).mono ?_
    rintro e w1 ⟨rfl,hb1⟩
    have D:=HBX.out.keep hb1 (by simp)
    obtain ⟨b0,b1,b2,b3,b4,b5,b6,b7,b8,b9,b10,b11⟩:=row12 D.at_
    have zs:=D.lt
    have HBL:=qh (HAL.out.trans (hb1.mono (by simp)))
    clear D hb1
    go_wp2_with fail
    go_returns
    exact ⟨rfl,HBL.out⟩
   by_cases h2:(n:Int)<ci
   .obtain rfl:R=32:=by rw [<-HR.out];rw [if_neg (fun h=>h HK.out),if_pos (.inr (.inl h2))]
    go_enter Tryz.func87,Tryz.ntmps87
    go_wp2_with fail
    refine (HKN.out _).mono ?_
    rintro e w1 ⟨rfl,hb1⟩
    have D:=HBX.out.keep hb1 (by simp)
    obtain ⟨b0,b1,b2,b3,b4,b5,b6,b7,b8,b9,b10,b11⟩:=row12 D.at_
    have zs:=D.lt
    have HBL:=qh (HAL.out.trans (hb1.mono (by simp)))
    clear D hb1
    go_wp2_with fail
    go_returns
    exact ⟨rfl,HBL.out⟩
   by_cases h3:ci=n
   .cases h3
    by_cases h4:ck=4
    .cases h4
     obtain rfl:R=0:=by rw [<-HR.out];rw [if_neg (fun h=>h HK.out),if_neg (by omega),if_neg (by omega)]
     go_enter Tryz.func87,Tryz.ntmps87
     go_wp2_with fail
     refine (HKN.out _).mono ?_
     rintro e w1 ⟨rfl,hb1⟩
     have D:=HBX.out.keep hb1 (by simp)
     obtain ⟨b0,b1,b2,b3,b4,b5,b6,b7,b8,b9,b10,b11⟩:=row12 D.at_
     have zs:=D.lt
     have HBL:=qh (HAL.out.trans (hb1.mono (by simp)))
     clear D hb1
     go_wp2_with fail
     go_returns
     exact ⟨rfl,HBL.out⟩
    .have f4:(ck !=4)=true:=by simp [h4]
     obtain rfl:R=32:=by rw [<-HR.out];rw [if_neg (fun h=>h HK.out),if_pos (.inr (.inr ⟨rfl,h4⟩))]
     go_enter Tryz.func87,Tryz.ntmps87
     go_wp2_with fail
     refine (HKN.out _).mono ?_
     rintro e w1 ⟨rfl,hb1⟩
     have D:=HBX.out.keep hb1 (by simp)
     obtain ⟨b0,b1,b2,b3,b4,b5,b6,b7,b8,b9,b10,b11⟩:=row12 D.at_
     have zs:=D.lt
     have HBL:=qh (HAL.out.trans (hb1.mono (by simp)))
     clear D hb1
     go_wp2_with fail
     go_returns
     exact ⟨rfl,HBL.out⟩
   .have f3:(ci==(n:Int))=false:=by simp [h3]
    by_cases h7:ck=7
    .cases h7
     by_cases h8:cj<0
     .obtain rfl:R=32:=by rw [<-HR.out];rw [if_neg (fun h=>h HK.out),if_neg (by omega),if_pos (by omega)]
      go_enter Tryz.func87,Tryz.ntmps87
      go_wp2_with fail
      refine (HKN.out _).mono ?_
      rintro e w1 ⟨rfl,hb1⟩
      have D:=HBX.out.keep hb1 (by simp)
      obtain ⟨b0,b1,b2,b3,b4,b5,b6,b7,b8,b9,b10,b11⟩:=row12 D.at_
      have zs:=D.lt
      have HBL:=qh (HAL.out.trans (hb1.mono (by simp)))
      clear D hb1
      go_wp2_with fail
      go_returns
      exact ⟨rfl,HBL.out⟩
     .by_cases h9:(n:Int)<=cj
      .obtain rfl:R=32:=by rw [<-HR.out];rw [if_neg (fun h=>h HK.out),if_neg (by omega),if_pos (by omega)]
       go_enter Tryz.func87,Tryz.ntmps87
       go_wp2_with fail
       refine (HKN.out _).mono ?_
       rintro e w1 ⟨rfl,hb1⟩
       have D:=HBX.out.keep hb1 (by simp)
       obtain ⟨b0,b1,b2,b3,b4,b5,b6,b7,b8,b9,b10,b11⟩:=row12 D.at_
       have zs:=D.lt
       have HBL:=qh (HAL.out.trans (hb1.mono (by simp)))
       clear D hb1
       go_wp2_with fail
       go_returns
       exact ⟨rfl,HBL.out⟩
      .obtain rfl:R=0:=by rw [<-HR.out];rw [if_neg (fun h=>h HK.out),if_neg (by omega),if_neg (by omega)]
       go_enter Tryz.func87,Tryz.ntmps87
       go_wp2_with fail
       refine (HKN.out _).mono ?_
       rintro e w1 ⟨rfl,hb1⟩
       have D:=HBX.out.keep hb1 (by simp)
       obtain ⟨b0,b1,b2,b3,b4,b5,b6,b7,b8,b9,b10,b11⟩:=row12 D.at_
       have zs:=D.lt
       have HBL:=qh (HAL.out.trans (hb1.mono (by simp)))
       clear D hb1
       go_wp2_with fail
       go_returns
       exact ⟨rfl,HBL.out⟩
    .have f7:(ck==7)=false:=by simp [h7]
     obtain rfl:R=0:=by rw [<-HR.out];rw [if_neg (fun h=>h HK.out),if_neg (by omega),if_neg (by omega)]
     go_enter Tryz.func87,Tryz.ntmps87
     go_wp2_with fail
     refine (HKN.out _).mono ?_
     rintro e w1 ⟨rfl,hb1⟩
     have D:=HBX.out.keep hb1 (by simp)
     obtain ⟨b0,b1,b2,b3,b4,b5,b6,b7,b8,b9,b10,b11⟩:=row12 D.at_
     have zs:=D.lt
     have HBL:=qh (HAL.out.trans (hb1.mono (by simp)))
     clear D hb1
     go_wp2_with fail
     go_returns
     exact ⟨rfl,HBL.out⟩
def listDo (l:List V) (k i j:Int) (v:V):List V:=
 if k=4 then insL l i.toNat v else if k=5 then remL l i.toNat else if k=6 then l.set i.toNat v else insL (remL l i.toNat) j.toNat (l.getD i.toNat V.none)
def DoLPost (w:World) (r:List V) (e:Ending) (w':World):Prop:=
 (∃a n c,e= .returned (.tuple #[.slice a n c, .int .i64 0])/\IsVals (only (fun b=>w.heap.size<=b) w') w'.heap.size r a n c)/\Below w.heap.size w w'
theorem Xk {w W:World} {B0 B1:Nat} {l:List V} {a:Option Addr} {n c:Nat} (h:IsVals (only (fun b=>B1<=b) w) w.heap.size l a n c) (hB:B0<=B1) (hb:uB w W):IsVals (only (fun b=>B0<=b) W) W.heap.size l a n c:=by
 have hsh:Shows (only (fun b=>B1<=b) w) (only (fun b=>B0<=b) W) w.heap.size:=Zd fun k hk hl=>⟨Nat.le_trans hB hk,hb.block k hl⟩
 obtain ⟨h1,h2,h3,h4,b,o,f,h5,h6⟩:=h
 exact ⟨h1,h2,h3,h4,b,o,f,fun hp=>⟨(h5 hp).1,Nat.lt_of_lt_of_le (h5 hp).2 hb.size⟩,fun i hi=>⟨(h6 i hi).1.sub hsh (h5 (by omega)).2,((h6 i hi).2.sub hsh).more hb.size⟩⟩
theorem zgn {w W:World} {B0 B1:Nat} {x:V} {c:VC} (h:IsVal (only (fun b=>B1<=b) w) w.heap.size x c) (hB:B0<=B1) (hb:uB w W):IsVal (only (fun b=>B0<=b) W) W.heap.size x c:=
 (h.sub (Zd fun k hk hl=>⟨Nat.le_trans hB hk,hb.block k hl⟩)).more hb.size
theorem Km (w:World) (B:Nat):IsFields w B [] none 0 0:=⟨rfl,Nat.le_refl _,by omega,by omega,0,0,fun _=>vzero,fun h=>absurd h (by omega),fun i h=>absurd h (by simp)⟩
theorem Jn (w:World) (l:List V) (a:Option Addr) (n c:Nat) (hl:IsVals w w.heap.size l a n c):uP 30 #[.agg (uU 0 0 { data:= #[] } a n c none 0 0)] w (CopyPost w 0 0 { data:= #[] } l []):=by
 delta uU uP
 have hv:IsVal w w.heap.size (.mk 0 0 .empty l []) ⟨0,0, .empty,a,n,c,none,0,0⟩:=
  IsVal.of_lists (c:=⟨0,0, .empty,a,n,c,none,0,0⟩) ⟨by show (0:Int)<=0;decide,by show (0:Int)<256;decide,by show (-9223372036854775808:Int)<=0;decide,by show (0:Int)<=9223372036854775807;decide,by show ByteArray.empty.size<=140737488355328;decide,hl.cap,hl.max,hl.few,by show (0:Nat)<=0;decide,by show (0:Nat)<=9223372036854775807;decide,by show (0:Nat)<=1466015503701;decide⟩ hl (Km w _)
 exact K4 w (.mk 0 0 .empty l []) 0 0 { data:= #[] } a n c none 0 0 hv
theorem Xe (W:World) (k n:Int) (s:ByteArray) (a:Option Addr) (m c:Nat) (a':Option Addr) (m' c':Nat):
 (Instr.field 36 (.agg #[.int .u8 k, .int .i64 n, .string s, .slice a m c, .slice a' m' c']) 3).run Tryz.prog W= .ok (.slice a m c) W:=by
 first
  |kernel_rfl
  |(simp [Instr.field,run_underlying Tryz.underlying36,go_sem];done)
theorem Fresh.neat {w:World} {base:Nat} {l:List V} {o:List (ByteArray×V)} {a:Option Addr} {m c:Nat} {a':Option Addr} {m' c':Nat} {cl:List VC} {co:List (ByteArray×VC)} (h:Fresh w base l o a m c a' m' c' cl co):Neat2 a c:=by
 cases ha:a with
 | none=>
   by_cases hm:0<m
   .obtain ⟨g,e,_⟩:=h.ownL.row (.inl hm)
    rw [ha] at e;cases e
   .exact .inl ⟨rfl,h.ownL.none_ (by omega) ha⟩
 | some ad=>
   obtain ⟨g,e,_⟩:=h.ownL.row (.inr (by rw [ha];simp))
   rw [ha] at e
   exact .inr ⟨g,0,e⟩
theorem Fresh.vals {w:World} {base:Nat} {l:List V} {o:List (ByteArray×V)} {a:Option Addr} {m c:Nat} {a':Option Addr} {m' c':Nat} {cl:List VC} {co:List (ByteArray×VC)} (h:Fresh w base l o a m c a' m' c' cl co):IsVals (only (fun b=>base<=b) w) w.heap.size l a m c:=
 (h.val (k:=0) (n:=0) (s:= .empty) (by omega) (by omega) (by omega) (by omega) (by decide)).lists.2.2.2.2.1
set_option maxRecDepth 100000 in
theorem zih (w:World) (l:List V) (a:Option Addr) (n c:Nat) (hl:IsVals w w.heap.size l a n c) (hfew:n<=100000000) (cc:CC) (x:V) (hx:IsVal w w.heap.size x cc.v) (hc:lCheck n cc.k cc.i cc.j=0) (hk:cc.k=4):
 uP 50 #[.slice a n c, .agg #[.int .u8 cc.k, .slice cc.pa cc.pl cc.pc, .string cc.key, .int .i64 cc.i, .int .i64 cc.j, .int .i64 cc.n, .int .u8 cc.v.k, .int .i64 cc.v.n, .string cc.v.s, .slice cc.v.la cc.v.ll cc.v.lc, .slice cc.v.oa cc.v.ol cc.v.oc, .string cc.s]] w (DoLPost w (listDo l cc.k cc.i cc.j x)):=by
 delta uP
 have hmax:=hl.max
 have hlen:=hl.len
 obtain ⟨_,_,hi0,hi1,hi2,hj⟩:=Yr hc
 have HCK:Hid (∀W,uB w W->uP 87 #[.int .i64 n, .agg #[.int .u8 cc.k, .slice cc.pa cc.pl cc.pc, .string cc.key, .int .i64 cc.i, .int .i64 cc.j, .int .i64 cc.n, .int .u8 cc.v.k, .int .i64 cc.v.n, .string cc.v.s, .slice cc.v.la cc.v.ll cc.v.lc, .slice cc.v.oa cc.v.ol cc.v.oc, .string cc.s]] W fun e w'=>e= .returned (.int .i64 0)/\uB W w'):=fun W hW=>by
  have:=Qh W n (by omega) cc
  rw [hc] at this;exact this
 have HOW:Hid (∀W,uB w W->uP 30 #[.agg #[.int .u8 0, .int .i64 0, .string { data:= #[] }, .slice a n c, .slice none 0 0]] W (CopyPost W 0 0 { data:= #[] } l [])):=fun W hW=>Jn W l a n c (hl.later_ hW)
 have HCV:Hid (∀W,uB w W->uP 30 #[.agg #[.int .u8 cc.v.k, .int .i64 cc.v.n, .string cc.v.s, .slice cc.v.la cc.v.ll cc.v.lc, .slice cc.v.oa cc.v.ol cc.v.oc]] W (NewVal W x)):=fun W hW=>Ye x W cc.v (hx.later_ hW)
 have HBX:=qh (BC.start w #[.int .u8 cc.k, .slice cc.pa cc.pl cc.pc, .string cc.key, .int .i64 cc.i, .int .i64 cc.j, .int .i64 cc.n, .int .u8 cc.v.k, .int .i64 cc.v.n, .string cc.v.s, .slice cc.v.la cc.v.ll cc.v.lc, .slice cc.v.oa cc.v.ol cc.v.oc, .string cc.s] 39)
 have HAL:=qh ((Below.refl _ _).alloc (Nat.le_refl _) (.cells #[.int .u8 cc.k, .slice cc.pa cc.pl cc.pc, .string cc.key, .int .i64 cc.i, .int .i64 cc.j, .int .i64 cc.n, .int .u8 cc.v.k, .int .i64 cc.v.n, .string cc.v.s, .slice cc.v.la cc.v.ll cc.v.lc, .slice cc.v.oa cc.v.ol cc.v.oc, .string cc.s] 39):uB w _)
 obtain ⟨R,hR⟩:∃R,listDo l cc.k cc.i cc.j x=R:=⟨_,rfl⟩
 rw [hR]
 rw [listDo,hk] at hR
 have HL:=qh hlen
 obtain ⟨i,hi⟩:∃i:Nat,cc.i=i:=⟨cc.i.toNat,by omega⟩
 rw [hi] at hR hi1 hi2
 rw [hk,hi] at HCK HBX HAL ⊢
 rw [Int.toNat_natCast] at hR
 have HR:=qh hR
 clear hl hx hc hlen hR hi hi0 hj
 go_enter Tryz.func50,Tryz.ntmps50
 go_wp2_with fail
 refine (HCK.out _ HAL.out).mono ?_
 rintro e w1 ⟨rfl,hb1⟩
 have HD1:=qh (HBX.out.keep hb1 (by simp))
 have HBL1:=qh (HAL.out.trans (hb1.mono (by simp)))
 clear hb1
 go_wp2_with fail
 refine (HOW.out _ HBL1.out).mono ?_
 rintro e w2 ⟨⟨a0,m0,c0,a1,m1,c1,cl,co,rfl,hF⟩,hb2⟩
 have D2:=HD1.out.keep hb2 HD1.out.lt
 obtain ⟨b0,b1,b2,b3,b4,b5,b6,b7,b8,b9,b10,b11⟩:=row12 D2.at_
 have zs2:=D2.lt
 have HBL2:=qh (HBL1.out.trans (hb2.mono HBL1.out.size))
 have hm0:m0=n:=by rw [hF.len, <-HL.out]
 subst hm0
 have hw12:=hb2.size
 have hw1:=HBL1.out.size
 have HF:=qh hF
 have HD2:=qh D2
 have hfld:=Xe w2 0 0 { data:= #[] } a0 m0 c0 a1 m1 c1
 clear hb2 hF D2
 go_wp2_with fail
 refine (HCV.out _ HBL2.out).mono ?_
 rintro e w3 ⟨⟨f,rfl,hI3⟩,hb3⟩
 have D3:=HD2.out.keep hb3 zs2
 clear b0 b1 b2 b3 b4 b5 b6 b7 b8 b9 b10 b11
 obtain ⟨b0,b1,b2,b3,b4,b5,b6,b7,b8,b9,b10,b11⟩:=row12 D3.at_
 have zs3:=D3.lt
 have HBL3:=qh (HBL2.out.trans (hb3.mono HBL2.out.size))
 have hw23:=hb3.size
 have HF3:=qh (HF.out.later_ hb3)
 have HI3:=qh hI3
 have HAL3:=qh (((Below.refl _ _).alloc (Nat.le_refl _) (.cells #[.int .u8 f.k, .int .i64 f.n, .string f.s, .slice f.la f.ll f.lc, .slice f.oa f.ol f.oc] 36)):uB w3 _)
 have HW:Hid (uP 88 #[.slice a0 m0 c0, .int .i64 i, .agg #[.int .u8 f.k, .int .i64 f.n, .string f.s, .slice f.la f.ll f.lc, .slice f.oa f.ol f.oc]] (w3.alloc (.cells #[.int .u8 f.k, .int .i64 f.n, .string f.s, .slice f.la f.ll f.lc, .slice f.oa f.ol f.oc] 36)) (ListPost (w3.alloc (.cells #[.int .u8 f.k, .int .i64 f.n, .string f.s, .slice f.la f.ll f.lc, .slice f.oa f.ol f.oc] 36)) w.heap.size (insL l i x))):=zdo (w3.alloc (.cells #[.int .u8 f.k, .int .i64 f.n, .string f.s, .slice f.la f.ll f.lc, .slice f.oa f.ol f.oc] 36)) w.heap.size (by simp;omega) l a0 m0 c0 (Xk HF3.out.vals hw1 HAL3.out) HF3.out.neat i (by omega) x f.k f.n f.s f.la f.ll f.lc f.oa f.ol f.oc (zgn HI3.out (by omega) HAL3.out) (by omega)
 obtain rfl:R=insL l i x:=by rw [<-HR.out];rfl
 clear hb3 hI3 D3
 go_wp2_with fail
 refine HW.out.mono ?_
 rintro e w5 ⟨⟨a5,n5,c5,rfl,hI5,_⟩,hb5⟩
 go_wp2_with fail
 go_returns
 exact ⟨⟨a5,n5,c5,rfl,hI5⟩,(HBL3.out.trans (HAL3.out.mono HBL3.out.size)).trans (hb5.mono (by simp;omega))⟩
set_option maxRecDepth 100000 in
theorem zj1 (w:World) (l:List V) (a:Option Addr) (n c:Nat) (hl:IsVals w w.heap.size l a n c) (hfew:n<=100000000) (cc:CC) (x:V) (hx:IsVal w w.heap.size x cc.v) (hc:lCheck n cc.k cc.i cc.j=0) (hk:cc.k=5):
 uP 50 #[.slice a n c, .agg #[.int .u8 cc.k, .slice cc.pa cc.pl cc.pc, .string cc.key, .int .i64 cc.i, .int .i64 cc.j, .int .i64 cc.n, .int .u8 cc.v.k, .int .i64 cc.v.n, .string cc.v.s, .slice cc.v.la cc.v.ll cc.v.lc, .slice cc.v.oa cc.v.ol cc.v.oc, .string cc.s]] w (DoLPost w (listDo l cc.k cc.i cc.j x)):=by
 delta uP
 have hmax:=hl.max
 have hlen:=hl.len
 obtain ⟨_,_,hi0,hi1,hi2,hj⟩:=Yr hc
 have HCK:Hid (∀W,uB w W->uP 87 #[.int .i64 n, .agg #[.int .u8 cc.k, .slice cc.pa cc.pl cc.pc, .string cc.key, .int .i64 cc.i, .int .i64 cc.j, .int .i64 cc.n, .int .u8 cc.v.k, .int .i64 cc.v.n, .string cc.v.s, .slice cc.v.la cc.v.ll cc.v.lc, .slice cc.v.oa cc.v.ol cc.v.oc, .string cc.s]] W fun e w'=>e= .returned (.int .i64 0)/\uB W w'):=fun W hW=>by
  have:=Qh W n (by omega) cc
  rw [hc] at this;exact this
 have HOW:Hid (∀W,uB w W->uP 30 #[.agg #[.int .u8 0, .int .i64 0, .string { data:= #[] }, .slice a n c, .slice none 0 0]] W (CopyPost W 0 0 { data:= #[] } l [])):=fun W hW=>Jn W l a n c (hl.later_ hW)
 have HCV:Hid (∀W,uB w W->uP 30 #[.agg #[.int .u8 cc.v.k, .int .i64 cc.v.n, .string cc.v.s, .slice cc.v.la cc.v.ll cc.v.lc, .slice cc.v.oa cc.v.ol cc.v.oc]] W (NewVal W x)):=fun W hW=>Ye x W cc.v (hx.later_ hW)
 have HBX:=qh (BC.start w #[.int .u8 cc.k, .slice cc.pa cc.pl cc.pc, .string cc.key, .int .i64 cc.i, .int .i64 cc.j, .int .i64 cc.n, .int .u8 cc.v.k, .int .i64 cc.v.n, .string cc.v.s, .slice cc.v.la cc.v.ll cc.v.lc, .slice cc.v.oa cc.v.ol cc.v.oc, .string cc.s] 39)
 have HAL:=qh ((Below.refl _ _).alloc (Nat.le_refl _) (.cells #[.int .u8 cc.k, .slice cc.pa cc.pl cc.pc, .string cc.key, .int .i64 cc.i, .int .i64 cc.j, .int .i64 cc.n, .int .u8 cc.v.k, .int .i64 cc.v.n, .string cc.v.s, .slice cc.v.la cc.v.ll cc.v.lc, .slice cc.v.oa cc.v.ol cc.v.oc, .string cc.s] 39):uB w _)
 obtain ⟨R,hR⟩:∃R,listDo l cc.k cc.i cc.j x=R:=⟨_,rfl⟩
 rw [hR]
 rw [listDo,hk] at hR
 have HL:=qh hlen
 obtain ⟨i,hi⟩:∃i:Nat,cc.i=i:=⟨cc.i.toNat,by omega⟩
 rw [hi] at hR hi1 hi2
 rw [hk,hi] at HCK HBX HAL ⊢
 rw [Int.toNat_natCast] at hR
 have HR:=qh hR
 clear hl hx hc hlen hR hi hi0 hj
 go_enter Tryz.func50,Tryz.ntmps50
 go_wp2_with fail
 refine (HCK.out _ HAL.out).mono ?_
 rintro e w1 ⟨rfl,hb1⟩
 have HD1:=qh (HBX.out.keep hb1 (by simp))
 have HBL1:=qh (HAL.out.trans (hb1.mono (by simp)))
 clear hb1
 go_wp2_with fail
 refine (HOW.out _ HBL1.out).mono ?_
 rintro e w2 ⟨⟨a0,m0,c0,a1,m1,c1,cl,co,rfl,hF⟩,hb2⟩
 have D2:=HD1.out.keep hb2 HD1.out.lt
 obtain ⟨b0,b1,b2,b3,b4,b5,b6,b7,b8,b9,b10,b11⟩:=row12 D2.at_
 have zs2:=D2.lt
 have HBL2:=qh (HBL1.out.trans (hb2.mono HBL1.out.size))
 have hm0:m0=n:=by rw [hF.len, <-HL.out]
 subst hm0
 have hw12:=hb2.size
 have hw1:=HBL1.out.size
 have HF:=qh hF
 have HD2:=qh D2
 have hfld:=Xe w2 0 0 { data:= #[] } a0 m0 c0 a1 m1 c1
 clear hb2 hF D2
 go_wp2_with fail
 refine (HCV.out _ HBL2.out).mono ?_
 rintro e w3 ⟨⟨f,rfl,hI3⟩,hb3⟩
 have D3:=HD2.out.keep hb3 zs2
 clear b0 b1 b2 b3 b4 b5 b6 b7 b8 b9 b10 b11
 obtain ⟨b0,b1,b2,b3,b4,b5,b6,b7,b8,b9,b10,b11⟩:=row12 D3.at_
 have zs3:=D3.lt
 have HBL3:=qh (HBL2.out.trans (hb3.mono HBL2.out.size))
 have hw23:=hb3.size
 have HF3:=qh (HF.out.later_ hb3)
 have HI3:=qh hI3
 have HAL3:=qh (((Below.refl _ _).alloc (Nat.le_refl _) (.cells #[.int .u8 f.k, .int .i64 f.n, .string f.s, .slice f.la f.ll f.lc, .slice f.oa f.ol f.oc] 36)):uB w3 _)
 have HW:Hid (uP 89 #[.slice a0 m0 c0, .int .i64 i] (w3.alloc (.cells #[.int .u8 f.k, .int .i64 f.n, .string f.s, .slice f.la f.ll f.lc, .slice f.oa f.ol f.oc] 36)) (ListPost (w3.alloc (.cells #[.int .u8 f.k, .int .i64 f.n, .string f.s, .slice f.la f.ll f.lc, .slice f.oa f.ol f.oc] 36)) w.heap.size (remL l i))):=zbt (w3.alloc (.cells #[.int .u8 f.k, .int .i64 f.n, .string f.s, .slice f.la f.ll f.lc, .slice f.oa f.ol f.oc] 36)) w.heap.size (by simp;omega) l a0 m0 c0 (Xk HF3.out.vals hw1 HAL3.out) i (by omega) (by omega)
 obtain rfl:R=remL l i:=by rw [<-HR.out];rfl
 clear hb3 hI3 D3
 go_wp2_with fail
 refine HW.out.mono ?_
 rintro e w5 ⟨⟨a5,n5,c5,rfl,hI5,_⟩,hb5⟩
 go_wp2_with fail
 go_returns
 exact ⟨⟨a5,n5,c5,rfl,hI5⟩,(HBL3.out.trans (HAL3.out.mono HBL3.out.size)).trans (hb5.mono (by simp;omega))⟩
set_option maxRecDepth 100000 in
theorem zfq (w:World) (l:List V) (a:Option Addr) (n c:Nat) (hl:IsVals w w.heap.size l a n c) (hfew:n<=100000000) (cc:CC) (x:V) (hx:IsVal w w.heap.size x cc.v) (hc:lCheck n cc.k cc.i cc.j=0) (hk:cc.k=6):
 uP 50 #[.slice a n c, .agg #[.int .u8 cc.k, .slice cc.pa cc.pl cc.pc, .string cc.key, .int .i64 cc.i, .int .i64 cc.j, .int .i64 cc.n, .int .u8 cc.v.k, .int .i64 cc.v.n, .string cc.v.s, .slice cc.v.la cc.v.ll cc.v.lc, .slice cc.v.oa cc.v.ol cc.v.oc, .string cc.s]] w (DoLPost w (listDo l cc.k cc.i cc.j x)):=by
 delta uP
 have hmax:=hl.max
 have hlen:=hl.len
 obtain ⟨_,_,hi0,hi1,hi2,hj⟩:=Yr hc
 have HCK:Hid (∀W,uB w W->uP 87 #[.int .i64 n, .agg #[.int .u8 cc.k, .slice cc.pa cc.pl cc.pc, .string cc.key, .int .i64 cc.i, .int .i64 cc.j, .int .i64 cc.n, .int .u8 cc.v.k, .int .i64 cc.v.n, .string cc.v.s, .slice cc.v.la cc.v.ll cc.v.lc, .slice cc.v.oa cc.v.ol cc.v.oc, .string cc.s]] W fun e w'=>e= .returned (.int .i64 0)/\uB W w'):=fun W hW=>by
  have:=Qh W n (by omega) cc
  rw [hc] at this;exact this
 have HOW:Hid (∀W,uB w W->uP 30 #[.agg #[.int .u8 0, .int .i64 0, .string { data:= #[] }, .slice a n c, .slice none 0 0]] W (CopyPost W 0 0 { data:= #[] } l [])):=fun W hW=>Jn W l a n c (hl.later_ hW)
 have HCV:Hid (∀W,uB w W->uP 30 #[.agg #[.int .u8 cc.v.k, .int .i64 cc.v.n, .string cc.v.s, .slice cc.v.la cc.v.ll cc.v.lc, .slice cc.v.oa cc.v.ol cc.v.oc]] W (NewVal W x)):=fun W hW=>Ye x W cc.v (hx.later_ hW)
 have HBX:=qh (BC.start w #[.int .u8 cc.k, .slice cc.pa cc.pl cc.pc, .string cc.key, .int .i64 cc.i, .int .i64 cc.j, .int .i64 cc.n, .int .u8 cc.v.k, .int .i64 cc.v.n, .string cc.v.s, .slice cc.v.la cc.v.ll cc.v.lc, .slice cc.v.oa cc.v.ol cc.v.oc, .string cc.s] 39)
 have HAL:=qh ((Below.refl _ _).alloc (Nat.le_refl _) (.cells #[.int .u8 cc.k, .slice cc.pa cc.pl cc.pc, .string cc.key, .int .i64 cc.i, .int .i64 cc.j, .int .i64 cc.n, .int .u8 cc.v.k, .int .i64 cc.v.n, .string cc.v.s, .slice cc.v.la cc.v.ll cc.v.lc, .slice cc.v.oa cc.v.ol cc.v.oc, .string cc.s] 39):uB w _)
 obtain ⟨R,hR⟩:∃R,listDo l cc.k cc.i cc.j x=R:=⟨_,rfl⟩
 rw [hR]
 rw [listDo,hk] at hR
 have HL:=qh hlen
 obtain ⟨i,hi⟩:∃i:Nat,cc.i=i:=⟨cc.i.toNat,by omega⟩
 rw [hk] at hi2
 rw [hi] at hR hi1 hi2
 rw [hk,hi] at HCK HBX HAL ⊢
 rw [Int.toNat_natCast] at hR
 have HR:=qh hR
 clear hl hx hc hlen hR hi hi0 hj
 go_enter Tryz.func50,Tryz.ntmps50
 go_wp2_with fail
 refine (HCK.out _ HAL.out).mono ?_
 rintro e w1 ⟨rfl,hb1⟩
 have HD1:=qh (HBX.out.keep hb1 (by simp))
 have HBL1:=qh (HAL.out.trans (hb1.mono (by simp)))
 clear hb1
 go_wp2_with fail
 refine (HOW.out _ HBL1.out).mono ?_
 rintro e w2 ⟨⟨a0,m0,c0,a1,m1,c1,cl,co,rfl,hF⟩,hb2⟩
 have D2:=HD1.out.keep hb2 HD1.out.lt
 obtain ⟨b0,b1,b2,b3,b4,b5,b6,b7,b8,b9,b10,b11⟩:=row12 D2.at_
 have zs2:=D2.lt
 have HBL2:=qh (HBL1.out.trans (hb2.mono HBL1.out.size))
 have hm0:m0=n:=by rw [hF.len, <-HL.out]
 subst hm0
 have hw12:=hb2.size
 have hw1:=HBL1.out.size
 have HF:=qh hF
 have HD2:=qh D2
 have hfld:=Xe w2 0 0 { data:= #[] } a0 m0 c0 a1 m1 c1
 clear hb2 hF D2
 go_wp2_with fail
 refine (HCV.out _ HBL2.out).mono ?_
 rintro e w3 ⟨⟨f,rfl,hI3⟩,hb3⟩
 have D3:=HD2.out.keep hb3 zs2
 clear b0 b1 b2 b3 b4 b5 b6 b7 b8 b9 b10 b11
 obtain ⟨b0,b1,b2,b3,b4,b5,b6,b7,b8,b9,b10,b11⟩:=row12 D3.at_
 have zs3:=D3.lt
 have HBL3:=qh (HBL2.out.trans (hb3.mono HBL2.out.size))
 have hw23:=hb3.size
 have HF3:=qh (HF.out.later_ hb3)
 have HI3:=qh hI3
 have HAL3:=qh (((Below.refl _ _).alloc (Nat.le_refl _) (.cells #[.int .u8 f.k, .int .i64 f.n, .string f.s, .slice f.la f.ll f.lc, .slice f.oa f.ol f.oc] 36)):uB w3 _)
 obtain ⟨g,eg,hgb,hbc2⟩:=HF.out.ownL.row (.inl (by omega))
 subst eg
 have hg2:=hbc2.lt
 have hbc:=hbc2.keep hb3 hg2
 have hil:i<cl.length:=by rw [HF.out.ll, <-HL.out];omega
 have hat:=Yv hbc hil
 have q0:=hat.c0;have q1:=hat.c1;have q2:=hat.c2;have q3:=hat.c3;have q4:=hat.c4
 have qf:=fun j=>hbc.fr j
 have qlt:=hbc.lt
 have him:i<m0:=by omega
 have hgn:g≠w3.heap.size:=by omega
 have hz:IsVal (only (fun b=>w.heap.size<=b/\b≠g) w3) w3.heap.size x f:=HI3.out.sub (Zd fun k hk hl=>⟨⟨by omega,by omega⟩,rfl⟩)
 have hset:=(HF3.out.setL (base':=w.heap.size) hw1 (kk:=i) (by rw [<-HL.out];omega) rfl hz (k:=0) (n:=0) (s:= .empty) (by omega) (by omega) (by omega) (by omega) (by decide)).lists.2.2.2.2.1
 obtain rfl:R=l.set i x:=by rw [<-HR.out];rfl
 have HSET:=qh hset
 have hbs:Below w.heap.size w3 (setV w3 g (i*5) f):=((Zh w3 g (i*5) f).below (Nat.le_of_lt qlt)).mono (by omega)
 have HBS:=qh hbs
 clear hb3 hI3 D3 hbc2 hbc hat hz hset hbs
 go_wp2_with fail
 go_returns
 exact ⟨⟨_,_,_,rfl,Xk HSET.out (Nat.le_refl _) ((Below.refl _ _).alloc (Nat.le_refl _) _)⟩,(HBL3.out.trans HBS.out).alloc (by have:=HBS.out.size;have:=HBL3.out.size;omega) _⟩
set_option maxRecDepth 100000 in
theorem zmn (w:World) (l:List V) (a:Option Addr) (n c:Nat) (hl:IsVals w w.heap.size l a n c) (hfew:n<=100000000) (cc:CC) (x:V) (hx:IsVal w w.heap.size x cc.v) (hc:lCheck n cc.k cc.i cc.j=0) (hk:cc.k=7):
 uP 50 #[.slice a n c, .agg #[.int .u8 cc.k, .slice cc.pa cc.pl cc.pc, .string cc.key, .int .i64 cc.i, .int .i64 cc.j, .int .i64 cc.n, .int .u8 cc.v.k, .int .i64 cc.v.n, .string cc.v.s, .slice cc.v.la cc.v.ll cc.v.lc, .slice cc.v.oa cc.v.ol cc.v.oc, .string cc.s]] w (DoLPost w (listDo l cc.k cc.i cc.j x)):=by
 delta uP
 have hmax:=hl.max
 have hlen:=hl.len
 obtain ⟨_,_,hi0,hi1,hi2,hj⟩:=Yr hc
 have HCK:Hid (∀W,uB w W->uP 87 #[.int .i64 n, .agg #[.int .u8 cc.k, .slice cc.pa cc.pl cc.pc, .string cc.key, .int .i64 cc.i, .int .i64 cc.j, .int .i64 cc.n, .int .u8 cc.v.k, .int .i64 cc.v.n, .string cc.v.s, .slice cc.v.la cc.v.ll cc.v.lc, .slice cc.v.oa cc.v.ol cc.v.oc, .string cc.s]] W fun e w'=>e= .returned (.int .i64 0)/\uB W w'):=fun W hW=>by
  have:=Qh W n (by omega) cc
  rw [hc] at this;exact this
 have HOW:Hid (∀W,uB w W->uP 30 #[.agg #[.int .u8 0, .int .i64 0, .string { data:= #[] }, .slice a n c, .slice none 0 0]] W (CopyPost W 0 0 { data:= #[] } l [])):=fun W hW=>Jn W l a n c (hl.later_ hW)
 have HCV:Hid (∀W,uB w W->uP 30 #[.agg #[.int .u8 cc.v.k, .int .i64 cc.v.n, .string cc.v.s, .slice cc.v.la cc.v.ll cc.v.lc, .slice cc.v.oa cc.v.ol cc.v.oc]] W (NewVal W x)):=fun W hW=>Ye x W cc.v (hx.later_ hW)
 have HBX:=qh (BC.start w #[.int .u8 cc.k, .slice cc.pa cc.pl cc.pc, .string cc.key, .int .i64 cc.i, .int .i64 cc.j, .int .i64 cc.n, .int .u8 cc.v.k, .int .i64 cc.v.n, .string cc.v.s, .slice cc.v.la cc.v.ll cc.v.lc, .slice cc.v.oa cc.v.ol cc.v.oc, .string cc.s] 39)
 have HAL:=qh ((Below.refl _ _).alloc (Nat.le_refl _) (.cells #[.int .u8 cc.k, .slice cc.pa cc.pl cc.pc, .string cc.key, .int .i64 cc.i, .int .i64 cc.j, .int .i64 cc.n, .int .u8 cc.v.k, .int .i64 cc.v.n, .string cc.v.s, .slice cc.v.la cc.v.ll cc.v.lc, .slice cc.v.oa cc.v.ol cc.v.oc, .string cc.s] 39):uB w _)
 obtain ⟨R,hR⟩:∃R,listDo l cc.k cc.i cc.j x=R:=⟨_,rfl⟩
 rw [hR]
 rw [listDo,hk] at hR
 have HL:=qh hlen
 obtain ⟨i,hi⟩:∃i:Nat,cc.i=i:=⟨cc.i.toNat,by omega⟩
 rw [hk] at hi2
 obtain ⟨j,hj2⟩:∃j:Nat,cc.j=j:=⟨cc.j.toNat,by have:=hj hk;omega⟩
 have hj3:j<n:=by have:=hj hk;omega
 rw [hi] at hR hi1 hi2
 rw [hk,hi] at HCK HBX HAL ⊢
 rw [hj2] at hR HCK HBX HAL
 rw [Int.toNat_natCast j] at hR
 rw [Int.toNat_natCast] at hR
 have HR:=qh hR
 clear hl hx hc hlen hR hi hi0 hj
 go_enter Tryz.func50,Tryz.ntmps50
 go_wp2_with fail
 refine (HCK.out _ HAL.out).mono ?_
 rintro e w1 ⟨rfl,hb1⟩
 have HD1:=qh (HBX.out.keep hb1 (by simp))
 have HBL1:=qh (HAL.out.trans (hb1.mono (by simp)))
 clear hb1
 go_wp2_with fail
 refine (HOW.out _ HBL1.out).mono ?_
 rintro e w2 ⟨⟨a0,m0,c0,a1,m1,c1,cl,co,rfl,hF⟩,hb2⟩
 have D2:=HD1.out.keep hb2 HD1.out.lt
 obtain ⟨b0,b1,b2,b3,b4,b5,b6,b7,b8,b9,b10,b11⟩:=row12 D2.at_
 have zs2:=D2.lt
 have HBL2:=qh (HBL1.out.trans (hb2.mono HBL1.out.size))
 have hm0:m0=n:=by rw [hF.len, <-HL.out]
 subst hm0
 have hw12:=hb2.size
 have hw1:=HBL1.out.size
 have HF:=qh hF
 have HD2:=qh D2
 have hfld:=Xe w2 0 0 { data:= #[] } a0 m0 c0 a1 m1 c1
 clear hb2 hF D2
 go_wp2_with fail
 refine (HCV.out _ HBL2.out).mono ?_
 rintro e w3 ⟨⟨f,rfl,hI3⟩,hb3⟩
 have D3:=HD2.out.keep hb3 zs2
 clear b0 b1 b2 b3 b4 b5 b6 b7 b8 b9 b10 b11
 obtain ⟨b0,b1,b2,b3,b4,b5,b6,b7,b8,b9,b10,b11⟩:=row12 D3.at_
 have zs3:=D3.lt
 have HBL3:=qh (HBL2.out.trans (hb3.mono HBL2.out.size))
 have hw23:=hb3.size
 have HF3:=qh (HF.out.later_ hb3)
 have HI3:=qh hI3
 have HAL3:=qh (((Below.refl _ _).alloc (Nat.le_refl _) (.cells #[.int .u8 f.k, .int .i64 f.n, .string f.s, .slice f.la f.ll f.lc, .slice f.oa f.ol f.oc] 36)):uB w3 _)
 obtain ⟨g,eg,hgb,hbc2⟩:=HF.out.ownL.row (.inl (by omega))
 subst eg
 have hg2:=hbc2.lt
 have hbc:=hbc2.keep hb3 hg2
 have hill:i<l.length:=by rw [<-HL.out];omega
 have hil:i<cl.length:=by rw [HF.out.ll];exact hill
 have hat:=Yv hbc hil
 have hpi:=HF3.out.lv i hill hill
 have he:cl.getD i vzero=cl[i] :=by simp [List.getD_eq_getElem?_getD,hil]
 rw [he] at hpi
 obtain ⟨fi,hfi⟩:∃fi,cl[i] =fi:=⟨_,rfl⟩
 rw [hfi] at hat hpi
 have q0:=hat.c0;have q1:=hat.c1;have q2:=hat.c2;have q3:=hat.c3;have q4:=hat.c4
 have qlt:=hbc.lt
 have him:i<m0:=by omega
 have HPI:Hid (∀W,uB w3 W->IsVal (only (fun b=>w.heap.size<=b) W) W.heap.size l[i] fi):=fun W hW=>(hpi.sub (Zd fun k hk hl=>⟨by have:=hk.1;omega,hW.block k hl⟩)).more hW.size
 obtain rfl:R=insL (remL l i) j l[i] :=by
  rw [<-HR.out,if_neg (by omega),if_neg (by omega),if_neg (by omega),List.getD_eq_getElem?_getD,List.getElem?_eq_getElem hill];rfl
 have HWO:Hid (∀W,uB w3 W->uP 89 #[.slice (some ⟨g,0,none⟩) m0 c0, .int .i64 i] W (ListPost W w.heap.size (remL l i))):=fun W hW=>zbt W w.heap.size (by have:=hW.size;omega) l _ m0 c0 (Xk HF3.out.vals hw1 hW) i him (by omega)
 have hlr:(remL l i).length=m0 - 1:=by rw [remL,List.length_append,List.length_take,List.length_drop, <-HL.out];omega
 have HLR:=qh hlr
 have HB3:=qh hb3
 clear hb3 hI3 D3 hbc2 hbc hat hpi he hfi hlr
 go_wp2_with fail
 obtain ⟨W3,hW3⟩:∃W3,(w3.alloc (.cells #[.int .u8 f.k, .int .i64 f.n, .string f.s, .slice f.la f.ll f.lc, .slice f.oa f.ol f.oc] 36))=W3:=⟨_,rfl⟩
 have hal3:=HAL3.out
 rw [hW3] at hal3 ⊢
 have hz3:=hal3.size
 have HAL4:=qh hal3
 have HFB:Hid (∀W,Below W3.heap.size W3.drew W->W.cell? ⟨w.heap.size,3,none⟩=some (.int .i64 i)/\W.cell? ⟨w.heap.size,4,none⟩=some (.int .i64 j)/\W.cell? ⟨g,i*5,none⟩=some (.int .u8 fi.k)/\W.cell? ⟨g,i*5+1,none⟩=some (.int .i64 fi.n)/\W.cell? ⟨g,i*5+2,none⟩=some (.string fi.s)/\W.cell? ⟨g,i*5+3,none⟩=some (.slice fi.la fi.ll fi.lc)/\W.cell? ⟨g,i*5+4,none⟩=some (.slice fi.oa fi.ol fi.oc)):=by
  intro W hW
  have hk:∀b o u,b<w3.heap.size->w3.cell? ⟨b,o,none⟩=some u->W.cell? ⟨b,o,none⟩=some u:=fun b o u hb h=>Zb hW (Zb (Zf W3) (Zb HAL4.out h hb) (by omega)) (by omega)
  exact ⟨hk _ _ _ zs3 b3,hk _ _ _ zs3 b4,hk _ _ _ qlt q0,hk _ _ _ qlt q1,hk _ _ _ qlt q2,hk _ _ _ qlt q3,hk _ _ _ qlt q4⟩
 have hdr:∀W,Below W3.heap.size W3.drew W->uB w3 W:=fun W hW=>(HAL4.out.trans ((Zf W3).mono hz3)).trans (hW.mono hz3)
 have HDR:=qh hdr
 clear hal3 hW3 HAL3 hdr
 refine wp_region_noPanic ?_
 go_region_held_law (fun W=>W.cell? ⟨w.heap.size,3,none⟩=some (.int .i64 i)/\W.cell? ⟨w.heap.size,4,none⟩=some (.int .i64 j)/\W.cell? ⟨g,i*5,none⟩=some (.int .u8 fi.k)/\W.cell? ⟨g,i*5+1,none⟩=some (.int .i64 fi.n)/\W.cell? ⟨g,i*5+2,none⟩=some (.string fi.s)/\W.cell? ⟨g,i*5+3,none⟩=some (.slice fi.la fi.ll fi.lc)/\W.cell? ⟨g,i*5+4,none⟩=some (.slice fi.oa fi.ol fi.oc))
  ((refine HFB.out _ ?_;(first|(with_reducible exact Below.refl _ _)|(with_reducible exact bl6)|(with_reducible exact bl5))))
  (first
   |(go_at_call 89;(with_reducible refine (HWO.out _ (HDR.out _ (Below.refl _ _))).mono ?_);rintro e w5 ⟨⟨a5,n5,c5,rfl,hI5,hN5⟩,hb5⟩;have bl5:Below W3.heap.size W3.drew w5:=hb5)
   |(go_at_call 88;refine (zdo w5 w.heap.size (by have:=(HDR.out w5 bl5).size;omega) (remL l i) a5 n5 c5 hI5 hN5 j (by have:=hI5.len;have:=HLR.out;omega) l[i] fi.k fi.n fi.s fi.la fi.ll fi.lc fi.oa fi.ol fi.oc (HPI.out w5 (HDR.out w5 bl5)) (by have:=hI5.len;have:=HLR.out;omega)).mono ?_;rintro e w6 ⟨⟨a6,n6,c6,rfl,hI6,hN6⟩,hb6⟩;have bl6:Below W3.heap.size W3.drew w6:=bl5.trans (hb6.mono bl5.size)))
 all_goals
  refine NoPanic.normal ?_
  go_wp2_with fail
  go_returns
  exact ⟨⟨a6,n6,c6,rfl,hI6⟩,HBL3.out.trans ((HDR.out w6 bl6).mono HBL3.out.size)⟩
theorem zfh (w:World) (l:List V) (a:Option Addr) (n c:Nat) (hl:IsVals w w.heap.size l a n c) (hfew:n<=100000000) (cc:CC) (x:V) (hx:IsVal w w.heap.size x cc.v) (hc:lCheck n cc.k cc.i cc.j=0):
 uP 50 #[.slice a n c, .agg (uC cc)] w (DoLPost w (listDo l cc.k cc.i cc.j x)):=by
 delta uC uP
 obtain ⟨h1,h2,_⟩:=Yr hc
 by_cases e4:cc.k=4
 .exact zih w l a n c hl hfew cc x hx hc e4
 by_cases e5:cc.k=5
 .exact zj1 w l a n c hl hfew cc x hx hc e5
 by_cases e6:cc.k=6
 .exact zfq w l a n c hl hfew cc x hx hc e6
 .exact zmn w l a n c hl hfew cc x hx hc (by omega)
theorem zfv (d:Nat) (f:Nat):∀(i:Nat) (l:List UInt8),cutsP f (i+d) l=(cutsP f i l).map (· +d):=by
 induction f with
 |zero=>intro i l;rfl
 | succ f ih=>
   intro i l
   unfold cutsP
   split
   .rfl
   .rw [List.map_cons, <-ih];congr 2;omega
theorem zhb (n:Nat):∀(I i:Nat) (l:List UInt8),l.length<=n->(h:I<(cutsP l.length i l).length)->
 (cutsP l.length i l)[I] - i<=l.length/\i<=(cutsP l.length i l)[I] /\(cutsP l.length i l).drop I=cutsP (l.drop ((cutsP l.length i l)[I] - i)).length (cutsP l.length i l)[I] (l.drop ((cutsP l.length i l)[I] - i)):=by
 induction n with
 | zero=>
   intro I i l hl h
   have:l= [] :=List.length_eq_zero_iff.1 (by omega)
   subst this
   simp [cutsP] at h
 | succ n ih=>
   intro I i l hl h
   by_cases hne:l= []
   .subst hne;simp [cutsP] at h
   .have hs:=J3 hne i
    have hw:=Lib.decodeL_width l
    have hle:=Lib.decodeL_le l hne
    cases I with
    | zero=>
      have e:(cutsP l.length i l)[0] =i:=by simp only [hs];rfl
      rw [e,Nat.sub_self,List.drop_zero,List.drop_zero]
      exact ⟨Nat.zero_le _,Nat.le_refl _,rfl⟩
    | succ I=>
      obtain ⟨k,hk⟩:∃k,(Lib.decodeL l).2=k:=⟨_,rfl⟩
      rw [hk] at hs hw hle
      have h2:I<(cutsP (l.drop k).length (i+k) (l.drop k)).length:=by rw [hs,List.length_cons] at h;omega
      have e:(cutsP l.length i l)[I+1] =(cutsP (l.drop k).length (i+k) (l.drop k))[I] :=by simp only [hs,List.getElem_cons_succ]
      obtain ⟨g1,g2,g3⟩:=ih I (i+k) (l.drop k) (by rw [List.length_drop];omega) h2
      obtain ⟨z,hzz⟩:∃z,(cutsP (l.drop k).length (i+k) (l.drop k))[I] =z:=⟨_,rfl⟩
      rw [hzz] at g1 g2 g3
      rw [e,hzz]
      have hdl:(l.drop k).length=l.length - k:=List.length_drop
      refine ⟨by omega,by omega, ?_⟩
      rw [hs,List.drop_succ_cons,g3,List.drop_drop]
      congr 2<;>(congr 1;omega)
theorem znh (s:ByteArray) (p:Nat):(s.extract p s.size).data.toList=s.data.toList.drop p:=by rw [zdy]
theorem zlp (s:ByteArray) (p:Nat) (h:p<=s.size):(s.extract p s.size).size=s.size - p:=by rw [ByteArray.size_extract];omega
theorem Kh (s:ByteArray) (I J:Nat) (hI:I<textN s) (hJ:I+J<=textN s):(cuts s).getD (I+J) 0=(cuts s).getD I 0+(cuts (s.extract ((cuts s).getD I 0) s.size)).getD J (s.extract ((cuts s).getD I 0) s.size).size:=by
 have hz:s.data.toList.length=s.size:=Array.length_toList
 have hN:textN s=(cutsP s.size 0 s.data.toList).length:=by rw [textN,cuts,List.length_append];rfl
 have hI2:I<(cutsP s.data.toList.length 0 s.data.toList).length:=by rw [hz];omega
 obtain ⟨g1,_,g3⟩:=zhb _ I 0 s.data.toList (Nat.le_refl _) hI2
 have e:(cuts s).getD I 0=(cutsP s.data.toList.length 0 s.data.toList)[I] :=by
  simp only [cuts,hz]
  rw [List.getD_eq_getElem?_getD,List.getElem?_append_left (by omega),List.getElem?_eq_getElem (by omega)];rfl
 rw [e]
 obtain ⟨p,hp⟩:∃p,(cutsP s.data.toList.length 0 s.data.toList)[I] =p:=⟨_,rfl⟩
 rw [hp] at g1 g3 ⊢
 rw [Nat.sub_zero] at g1 g3
 rw [Kg,zlp s p (by omega),znh,List.length_drop,hz] at*
 have h0:=zfv p (s.size - p) 0 (s.data.toList.drop p)
 rw [Nat.zero_add] at h0
 rw [h0] at g3
 have hl:(cutsP s.size 0 s.data.toList).length=I+(cutsP (s.size - p) 0 (s.data.toList.drop p)).length:=by
  have:=congrArg List.length g3
  rw [List.length_drop,List.length_map] at this;omega
 rw [cuts,List.getD_eq_getElem?_getD,List.getD_eq_getElem?_getD]
 by_cases h:J<(cutsP (s.size - p) 0 (s.data.toList.drop p)).length
 .rw [List.getElem?_append_left (by omega), <-List.getElem?_drop,g3,List.getElem?_map,List.getElem?_eq_getElem h]
  simp;omega
 .rw [List.getElem?_append_right (by omega),List.getElem?_eq_none (l:=cutsP (s.size - p) 0 (s.data.toList.drop p)) (by omega),show I+J - (cutsP s.size 0 s.data.toList).length=0 by omega]
  simp;omega
set_option maxRecDepth 100000 in
theorem zhl (w:World) (s:ByteArray) (c:CC) (hb:c.Bnd) (hs:s.size<=1000000000000) (hc:tCheck s c.k c.i c.n=0):
 uP 83 #[.string s, .agg #[.int .u8 c.k, .slice c.pa c.pl c.pc, .string c.key, .int .i64 c.i, .int .i64 c.j, .int .i64 c.n, .int .u8 c.v.k, .int .i64 c.v.n, .string c.v.s, .slice c.v.la c.v.ll c.v.lc, .slice c.v.oa c.v.ol c.v.oc, .string c.s]] w fun e w'=>e= .returned (.tuple #[.string (textDo s c.k c.i c.n c.s), .int .u16 0])/\uB w w':=by
 delta uB uP
 have HCK:Hid (∀W,uP 114 #[.string s, .agg #[.int .u8 c.k, .slice c.pa c.pl c.pc, .string c.key, .int .i64 c.i, .int .i64 c.j, .int .i64 c.n, .int .u8 c.v.k, .int .i64 c.v.n, .string c.v.s, .slice c.v.la c.v.ll c.v.lc, .slice c.v.oa c.v.ol c.v.oc, .string c.s]] W fun e w'=>e= .returned (.int .u16 0)/\uB W w'):=fun W=>by
  have:=zaj W s c hb hs
  rw [hc] at this;exact this
 obtain ⟨hk,hi0,hi1⟩:=Js hc
 have hcl:=Yh s
 obtain ⟨I,hI⟩:∃I:Nat,c.i=I:=⟨c.i.toNat,by omega⟩
 have hIl:I<(cuts s).length:=by rw [textN] at hi1;omega
 obtain ⟨p,hp⟩:∃p,(cuts s).getD I 0=p:=⟨_,rfl⟩
 have hps:(cuts s).getD I s.size=p:=by rw [<-hp,List.getD_eq_getElem?_getD,List.getD_eq_getElem?_getD,List.getElem?_eq_getElem hIl];rfl
 have hpl:p<=s.size:=by
  rw [<-hp,List.getD_eq_getElem?_getD,List.getElem?_eq_getElem hIl];exact Ja s I hIl
 have HAT:Hid (∀W,uP 124 #[.string s, .int .i64 (I:Int)] W fun e w'=>e= .returned (.int .i64 (p:Int))/\uB W w'):=fun W=>by
  have:=zcg W s I (by omega)
  rw [hps] at this;exact this
 have HBX:=qh (BC.start w #[.int .u8 c.k, .slice c.pa c.pl c.pc, .string c.key, .int .i64 c.i, .int .i64 c.j, .int .i64 c.n, .int .u8 c.v.k, .int .i64 c.v.n, .string c.v.s, .slice c.v.la c.v.ll c.v.lc, .slice c.v.oa c.v.ol c.v.oc, .string c.s] 39)
 have HAL:=qh ((Below.refl _ _).alloc (Nat.le_refl _) (.cells #[.int .u8 c.k, .slice c.pa c.pl c.pc, .string c.key, .int .i64 c.i, .int .i64 c.j, .int .i64 c.n, .int .u8 c.v.k, .int .i64 c.v.n, .string c.v.s, .slice c.v.la c.v.ll c.v.lc, .slice c.v.oa c.v.ol c.v.oc, .string c.s] 39):uB w _)
 obtain ⟨R,hR⟩:∃R,textDo s c.k c.i c.n c.s=R:=⟨_,rfl⟩
 rw [hR]
 rw [textDo,hI,Int.toNat_natCast,hp] at hR
 have hk2:(c.k=8)∨(c.k=9/\∃J:Nat,c.n=J/\I<textN s/\I+J<=textN s):=by
  rcases hk with h|⟨h1,h2,h3⟩
  .exact .inl h
  .exact .inr ⟨h1,c.n.toNat,by omega,by omega,by omega⟩
 obtain ⟨ck,hck⟩:∃ck,c.k=ck:=⟨_,rfl⟩
 obtain ⟨cn,hcn⟩:∃cn,c.n=cn:=⟨_,rfl⟩
 rw [hck,hcn] at hR hk2
 rw [hck,hI,hcn] at HCK HBX HAL ⊢
 have hsz:s.size<=9223372036854775807:=by omega
 have hs1:=hb.s1
 have hq1:¬(9223372036854775807<p+c.s.size):=by omega
 have hq2:¬(9223372036854775807<p+c.s.size+(s.size - p)):=by omega
 clear hb hc hk hck hcn hi0 hi1 hI hps
 rcases hk2 with e8|⟨e9,J,hJ,hI2,hIJ⟩
 .cases e8
  rw [if_pos rfl] at hR
  have HR:=qh hR
  clear hR hp
  go_enter Tryz.func83,Tryz.ntmps83
  go_wp2_with fail
  refine (HCK.out _).mono ?_
  rintro e w1 ⟨rfl,hb1⟩
  have D1:=HBX.out.keep hb1 (by simp)
  have hbl1:=HAL.out.trans (hb1.mono (by simp))
  obtain ⟨b0,b1,b2,b3,b4,b5,b6,b7,b8,b9,b10,b11⟩:=row12 D1.at_
  have zs1:=D1.lt
  have HD1:=qh D1
  have HBL1:=qh hbl1
  clear D1 hb1 hbl1
  go_wp2_with fail
  refine (HAT.out _).mono ?_
  rintro e w2 ⟨rfl,hb2⟩
  clear b0 b1 b2 b3 b4 b5 b6 b7 b8 b9 b10 b11
  have D2:=HD1.out.keep hb2 HD1.out.lt
  obtain ⟨b0,b1,b2,b3,b4,b5,b6,b7,b8,b9,b10,b11⟩:=row12 D2.at_
  have zs:=D2.lt
  have HBL2:=qh (HBL1.out.trans (hb2.mono HBL1.out.size))
  clear D2 hb2
  go_wp2_with fail
  go_quiet (fail)
  go_wp2_with fail
  go_returns
  exact ⟨by rw [<-HR.out];rfl,Ya HBL2.out _⟩
 .cases e9
  cases hJ
  have hct:=Kh s I J hI2 hIJ
  rw [if_neg (by omega),show ((I:Int)+(J:Int)).toNat=I+J by omega,hct] at hR
  rw [hp] at hR hct
  obtain ⟨q,hq⟩:∃q,(cuts (s.extract p s.size)).getD J (s.extract p s.size).size=q:=⟨_,rfl⟩
  rw [hq] at hR hct
  have HAT2:Hid (∀W,uP 124 #[.string (s.extract p s.size), .int .i64 (J:Int)] W fun e w'=>e= .returned (.int .i64 (q:Int))/\uB W w'):=fun W=>by
   have:=zcg W (s.extract p s.size) J (by rw [textN] at hIJ;omega)
   rw [hq] at this;exact this
  have hql:p+q<=s.size:=by
   rw [<-hct,List.getD_eq_getElem?_getD,List.getElem?_eq_getElem (by rw [textN] at hIJ;omega)];exact Ja s _ _
  have hq3:¬(9223372036854775807<p+(s.size - (p+q))):=by omega
  have hw1:IntKind.i64.wrap ((p:Int)+(q:Int))=(p:Int)+(q:Int):=IntWalk.i64_in _ (by omega)
  have HR:=qh hR
  clear hR hp hq hct
  go_enter Tryz.func83,Tryz.ntmps83
  go_wp2_with fail
  refine (HCK.out _).mono ?_
  rintro e w1 ⟨rfl,hb1⟩
  have D1:=HBX.out.keep hb1 (by simp)
  have hbl1:=HAL.out.trans (hb1.mono (by simp))
  obtain ⟨b0,b1,b2,b3,b4,b5,b6,b7,b8,b9,b10,b11⟩:=row12 D1.at_
  have zs1:=D1.lt
  have HD1:=qh D1
  have HBL1:=qh hbl1
  clear D1 hb1 hbl1
  go_wp2_with fail
  refine (HAT.out _).mono ?_
  rintro e w2 ⟨rfl,hb2⟩
  clear b0 b1 b2 b3 b4 b5 b6 b7 b8 b9 b10 b11
  have D2:=HD1.out.keep hb2 HD1.out.lt
  obtain ⟨b0,b1,b2,b3,b4,b5,b6,b7,b8,b9,b10,b11⟩:=row12 D2.at_
  have zs:=D2.lt
  have HBL2:=qh (HBL1.out.trans (hb2.mono HBL1.out.size))
  have HD2:=qh D2
  clear D2 hb2
  go_wp2_with fail
  go_region_with (go_simp;go_at_call 124;(with_reducible refine (HAT2.out _).mono ?_);rintro e w4 ⟨rfl,hb4⟩;have HB4:=qh hb4;clear hb4)
  all_goals (go_wp2_with fail;go_returns;exact ⟨by rw [<-HR.out];rfl,HBL2.out.trans (((Below.refl _ _).drew.trans HB4.out).mono HBL2.out.size)⟩)
end Go.Proofs.YtnjgbiachcfigaaGreatDoor
