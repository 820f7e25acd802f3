/-
  Contracts of the functions that the law reaches: seq.known, seq.Check (the program's)..
-/
import Derived.Test.YtnjgbiachcfigaaGreatDoorCt18
import Derived.Test.YtnjgbiachcfigaaGreatDoorCt17
import Derived.Test.YtnjgbiachcfigaaGreatDoorCt14
import Derived.Test.YtnjgbiachcfigaaGreatDoorCt24
namespace Go.Proofs.YtnjgbiachcfigaaGreatDoor
open Go.RowKit
set_option maxHeartbeats 8000000
set_option maxRecDepth 100000 in
theorem zf8 (w:World) (c:CC):
 Calls Tryz.prog 134 #[.agg #[.int .u8 c.k, .slice c.pa c.pl c.pc, .string c.key, .int .i64 c.i, .int .i64 c.j, .int .i64 c.n, .int .u8 c.v.k, .int .i64 c.v.n, .string c.v.s, .slice c.v.la c.v.ll c.v.lc, .slice c.v.oa c.v.ol c.v.oc, .string c.s]] w fun e w'=>e= .returned (.bool (decide (4<=c.k/\c.k<=7)))/\Below w.heap.size w w':=by
 have HBX:=qh (BC.start w #[.int .u8 c.k, .slice c.pa c.pl c.pc, .string c.key, .int .i64 c.i, .int .i64 c.j, .int .i64 c.n, .int .u8 c.v.k, .int .i64 c.v.n, .string c.v.s, .slice c.v.la c.v.ll c.v.lc, .slice c.v.oa c.v.ol c.v.oc, .string c.s] 39)
 have HAL:=qh ((Below.refl _ _).alloc (Nat.le_refl _) (.cells #[.int .u8 c.k, .slice c.pa c.pl c.pc, .string c.key, .int .i64 c.i, .int .i64 c.j, .int .i64 c.n, .int .u8 c.v.k, .int .i64 c.v.n, .string c.v.s, .slice c.v.la c.v.ll c.v.lc, .slice c.v.oa c.v.ol c.v.oc, .string c.s] 39):Below w.heap.size w _)
 obtain ⟨R,hR⟩:∃R,decide (4<=c.k/\c.k<=7)=R:=⟨_,rfl⟩
 rw [hR]
 obtain ⟨ck,hck⟩:∃ck,c.k=ck:=⟨_,rfl⟩
 rw [hck] at HBX HAL hR ⊢
 have HR:=qh hR
 clear hck hR
 by_cases e4:ck=4
 .cases e4
  obtain rfl:R=true:=by rw [<-HR.out];rfl
  go_enter Tryz.func134,Tryz.ntmps134
  go_wp2_with fail
  go_returns
  exact ⟨rfl,HAL.out⟩
 have f4:(ck==4)=false:=by simp [e4]
 by_cases e5:ck=5
 .cases e5
  obtain rfl:R=true:=by rw [<-HR.out];rfl
  go_enter Tryz.func134,Tryz.ntmps134
  go_wp2_with fail
  go_returns
  exact ⟨rfl,HAL.out⟩
 have f5:(ck==5)=false:=by simp [e5]
 by_cases e6:ck=6
 .cases e6
  obtain rfl:R=true:=by rw [<-HR.out];rfl
  go_enter Tryz.func134,Tryz.ntmps134
  go_wp2_with fail
  go_returns
  exact ⟨rfl,HAL.out⟩
 have f6:(ck==6)=false:=by simp [e6]
 by_cases e7:ck=7
 .cases e7
  obtain rfl:R=true:=by rw [<-HR.out];rfl
  go_enter Tryz.func134,Tryz.ntmps134
  go_wp2_with fail
  go_returns
  exact ⟨rfl,HAL.out⟩
 have f7:(ck==7)=false:=by simp [e7]
 obtain rfl:R=false:=by rw [<-HR.out];simp;omega
 go_enter Tryz.func134,Tryz.ntmps134
 go_wp2_with fail
 go_returns
 exact ⟨rfl,HAL.out⟩
set_option maxRecDepth 100000 in
theorem Xu (w:World) (n:Nat) (hn:n<=9223372036854775807) (c:CC):
 Calls Tryz.prog 113 #[.int .i64 n, .agg #[.int .u8 c.k, .slice c.pa c.pl c.pc, .string c.key, .int .i64 c.i, .int .i64 c.j, .int .i64 c.n, .int .u8 c.v.k, .int .i64 c.v.n, .string c.v.s, .slice c.v.la c.v.ll c.v.lc, .slice c.v.oa c.v.ol c.v.oc, .string c.s]] w fun e w'=>e= .returned (.int .u16 (lCheck n c.k c.i c.j))/\Below w.heap.size w w':=by
 have HBX:=qh (BC.start w #[.int .u8 c.k, .slice c.pa c.pl c.pc, .string c.key, .int .i64 c.i, .int .i64 c.j, .int .i64 c.n, .int .u8 c.v.k, .int .i64 c.v.n, .string c.v.s, .slice c.v.la c.v.ll c.v.lc, .slice c.v.oa c.v.ol c.v.oc, .string c.s] 39)
 have HAL:=qh ((Below.refl _ _).alloc (Nat.le_refl _) (.cells #[.int .u8 c.k, .slice c.pa c.pl c.pc, .string c.key, .int .i64 c.i, .int .i64 c.j, .int .i64 c.n, .int .u8 c.v.k, .int .i64 c.v.n, .string c.v.s, .slice c.v.la c.v.ll c.v.lc, .slice c.v.oa c.v.ol c.v.oc, .string c.s] 39):Below w.heap.size w _)
 have HKN:Hid (∀W,Calls Tryz.prog 134 #[.agg #[.int .u8 c.k, .slice c.pa c.pl c.pc, .string c.key, .int .i64 c.i, .int .i64 c.j, .int .i64 c.n, .int .u8 c.v.k, .int .i64 c.v.n, .string c.v.s, .slice c.v.la c.v.ll c.v.lc, .slice c.v.oa c.v.ol c.v.oc, .string c.s]] W fun e w'=>e= .returned (.bool (decide (4<=c.k/\c.k<=7)))/\Below W.heap.size W w'):=fun W=>zf8 W c
 obtain ⟨KN,hKN⟩:∃KN,decide (4<=c.k/\c.k<=7)=KN:=⟨_,rfl⟩
 rw [hKN] at HKN
 obtain ⟨R,hR⟩:∃R,lCheck n c.k c.i c.j=R:=⟨_,rfl⟩
 rw [hR]
 rw [lCheck] at hR
 obtain ⟨ck,hck⟩:∃ck,c.k=ck:=⟨_,rfl⟩
 obtain ⟨ci,hci⟩:∃ci,c.i=ci:=⟨_,rfl⟩
 obtain ⟨cj,hcj⟩:∃cj,c.j=cj:=⟨_,rfl⟩
 rw [hck,hci,hcj] at hR HKN HBX HAL ⊢
 rw [hck] at hKN
 have HR:=qh hR
 have HKE:=qh hKN
 have hw1:IntKind.i64.wrap ((n:Int) - 1)=(n:Int) - 1:=IntWalk.i64_in _ (by omega)
 clear hR hck hci hcj hKN
 cases KN with
 | false=>
   have hk:¬(4<=ck/\ck<=7):=by simpa using HKE.out
   have f4:(ck==4)=false:=by simp;omega
   have HK:=qh hk
   clear hk
   obtain rfl:R=31:=by rw [<-HR.out];rw [if_pos HK.out]
   go_enter Tryz.func113,Tryz.ntmps113
   go_wp2_with fail
   refine (HKN.out _).mono ?_
   rintro e w1 ⟨rfl,hb1⟩
   have D:=HBX.out.keep hb1 (by simp)
   have b0:=D.at_ 0 _ rfl;have b1:=D.at_ 1 _ rfl;have b2:=D.at_ 2 _ rfl;have b3:=D.at_ 3 _ rfl;have b4:=D.at_ 4 _ rfl;have b5:=D.at_ 5 _ rfl;have b6:=D.at_ 6 _ rfl;have b7:=D.at_ 7 _ rfl;have b8:=D.at_ 8 _ rfl;have b9:=D.at_ 9 _ rfl;have b10:=D.at_ 10 _ rfl;have b11:=D.at_ 11 _ rfl
   have zs:=D.lt
   have HBL:=qh (HAL.out.trans (hb1.mono (by simp)))
   clear D hb1
   go_wp2_with fail
   go_returns
   exact ⟨rfl,HBL.out⟩
 | true =>
   have hk:4<=ck/\ck<=7:=by simpa using HKE.out
   have HK:=qh hk
   clear hk
   by_cases h1:ci<0
   .obtain rfl:R=32:=by rw [<-HR.out,if_neg (fun h=>h HK.out),if_pos (.inl h1)]
    by_cases h4:ck=4
    .cases h4
     go_enter Tryz.func113,Tryz.ntmps113
     go_wp2_with fail
     refine (HKN.out _).mono ?_
     rintro e w1 ⟨rfl,hb1⟩
     have D:=HBX.out.keep hb1 (by simp)
     have b0:=D.at_ 0 _ rfl;have b1:=D.at_ 1 _ rfl;have b2:=D.at_ 2 _ rfl;have b3:=D.at_ 3 _ rfl;have b4:=D.at_ 4 _ rfl;have b5:=D.at_ 5 _ rfl;have b6:=D.at_ 6 _ rfl;have b7:=D.at_ 7 _ rfl;have b8:=D.at_ 8 _ rfl;have b9:=D.at_ 9 _ rfl;have b10:=D.at_ 10 _ rfl;have b11:=D.at_ 11 _ rfl
     have zs:=D.lt
     have HBL:=qh (HAL.out.trans (hb1.mono (by simp)))
     clear D hb1
     go_wp2_with fail
     go_returns
     exact ⟨rfl,HBL.out⟩
    .have f4:(ck==4)=false:=by simp [h4]
     go_enter Tryz.func113,Tryz.ntmps113
     go_wp2_with fail
     refine (HKN.out _).mono ?_
     rintro e w1 ⟨rfl,hb1⟩
     have D:=HBX.out.keep hb1 (by simp)
     have b0:=D.at_ 0 _ rfl;have b1:=D.at_ 1 _ rfl;have b2:=D.at_ 2 _ rfl;have b3:=D.at_ 3 _ rfl;have b4:=D.at_ 4 _ rfl;have b5:=D.at_ 5 _ rfl;have b6:=D.at_ 6 _ rfl;have b7:=D.at_ 7 _ rfl;have b8:=D.at_ 8 _ rfl;have b9:=D.at_ 9 _ rfl;have b10:=D.at_ 10 _ rfl;have b11:=D.at_ 11 _ rfl
     have zs:=D.lt
     have HBL:=qh (HAL.out.trans (hb1.mono (by simp)))
     clear D hb1
     go_wp2_with fail
     go_returns
     exact ⟨rfl,HBL.out⟩
   by_cases h4:ck=4
   .cases h4
    by_cases h2:(n:Int)<ci
    .obtain rfl:R=32:=by rw [<-HR.out];rw [if_neg (fun h=>h HK.out),if_pos (.inr (.inl h2))]
     go_enter Tryz.func113,Tryz.ntmps113
     go_wp2_with fail
     refine (HKN.out _).mono ?_
     rintro e w1 ⟨rfl,hb1⟩
     have D:=HBX.out.keep hb1 (by simp)
     have b0:=D.at_ 0 _ rfl;have b1:=D.at_ 1 _ rfl;have b2:=D.at_ 2 _ rfl;have b3:=D.at_ 3 _ rfl;have b4:=D.at_ 4 _ rfl;have b5:=D.at_ 5 _ rfl;have b6:=D.at_ 6 _ rfl;have b7:=D.at_ 7 _ rfl;have b8:=D.at_ 8 _ rfl;have b9:=D.at_ 9 _ rfl;have b10:=D.at_ 10 _ rfl;have b11:=D.at_ 11 _ rfl
     have zs:=D.lt
     have HBL:=qh (HAL.out.trans (hb1.mono (by simp)))
     clear D hb1
     go_wp2_with fail
     go_returns
     exact ⟨rfl,HBL.out⟩
    obtain rfl:R=0:=by rw [<-HR.out];rw [if_neg (fun h=>h HK.out),if_neg (by omega),if_neg (by omega)]
    go_enter Tryz.func113,Tryz.ntmps113
    go_wp2_with fail
    refine (HKN.out _).mono ?_
    rintro e w1 ⟨rfl,hb1⟩
    have D:=HBX.out.keep hb1 (by simp)
    have b0:=D.at_ 0 _ rfl;have b1:=D.at_ 1 _ rfl;have b2:=D.at_ 2 _ rfl;have b3:=D.at_ 3 _ rfl;have b4:=D.at_ 4 _ rfl;have b5:=D.at_ 5 _ rfl;have b6:=D.at_ 6 _ rfl;have b7:=D.at_ 7 _ rfl;have b8:=D.at_ 8 _ rfl;have b9:=D.at_ 9 _ rfl;have b10:=D.at_ 10 _ rfl;have b11:=D.at_ 11 _ rfl
    have zs:=D.lt
    have HBL:=qh (HAL.out.trans (hb1.mono (by simp)))
    clear D hb1
    go_wp2_with fail
    go_returns
    exact ⟨rfl,HBL.out⟩
   have f4:(ck==4)=false:=by simp [h4]
   by_cases h3:(n:Int) - 1<ci
   .obtain rfl:R=32:=by rw [<-HR.out];rw [if_neg (fun h=>h HK.out),if_pos (by omega)]
    go_enter Tryz.func113,Tryz.ntmps113
    go_wp2_with fail
    refine (HKN.out _).mono ?_
    rintro e w1 ⟨rfl,hb1⟩
    have D:=HBX.out.keep hb1 (by simp)
    have b0:=D.at_ 0 _ rfl;have b1:=D.at_ 1 _ rfl;have b2:=D.at_ 2 _ rfl;have b3:=D.at_ 3 _ rfl;have b4:=D.at_ 4 _ rfl;have b5:=D.at_ 5 _ rfl;have b6:=D.at_ 6 _ rfl;have b7:=D.at_ 7 _ rfl;have b8:=D.at_ 8 _ rfl;have b9:=D.at_ 9 _ rfl;have b10:=D.at_ 10 _ rfl;have b11:=D.at_ 11 _ rfl
    have zs:=D.lt
    have HBL:=qh (HAL.out.trans (hb1.mono (by simp)))
    clear D hb1
    go_wp2_with fail
    go_returns
    exact ⟨rfl,HBL.out⟩
   by_cases h7:ck=7
   .cases h7
    by_cases h8:cj<0
    .obtain rfl:R=32:=by rw [<-HR.out];rw [if_neg (fun h=>h HK.out),if_neg (by omega),if_pos (by omega)]
     go_enter Tryz.func113,Tryz.ntmps113
     go_wp2_with fail
     refine (HKN.out _).mono ?_
     rintro e w1 ⟨rfl,hb1⟩
     have D:=HBX.out.keep hb1 (by simp)
     have b0:=D.at_ 0 _ rfl;have b1:=D.at_ 1 _ rfl;have b2:=D.at_ 2 _ rfl;have b3:=D.at_ 3 _ rfl;have b4:=D.at_ 4 _ rfl;have b5:=D.at_ 5 _ rfl;have b6:=D.at_ 6 _ rfl;have b7:=D.at_ 7 _ rfl;have b8:=D.at_ 8 _ rfl;have b9:=D.at_ 9 _ rfl;have b10:=D.at_ 10 _ rfl;have b11:=D.at_ 11 _ rfl
     have zs:=D.lt
     have HBL:=qh (HAL.out.trans (hb1.mono (by simp)))
     clear D hb1
     go_wp2_with fail
     go_returns
     exact ⟨rfl,HBL.out⟩
    .by_cases h9:(n:Int)<=cj
     .obtain rfl:R=32:=by rw [<-HR.out];rw [if_neg (fun h=>h HK.out),if_neg (by omega),if_pos (by omega)]
      go_enter Tryz.func113,Tryz.ntmps113
      go_wp2_with fail
      refine (HKN.out _).mono ?_
      rintro e w1 ⟨rfl,hb1⟩
      have D:=HBX.out.keep hb1 (by simp)
      have b0:=D.at_ 0 _ rfl;have b1:=D.at_ 1 _ rfl;have b2:=D.at_ 2 _ rfl;have b3:=D.at_ 3 _ rfl;have b4:=D.at_ 4 _ rfl;have b5:=D.at_ 5 _ rfl;have b6:=D.at_ 6 _ rfl;have b7:=D.at_ 7 _ rfl;have b8:=D.at_ 8 _ rfl;have b9:=D.at_ 9 _ rfl;have b10:=D.at_ 10 _ rfl;have b11:=D.at_ 11 _ rfl
      have zs:=D.lt
      have HBL:=qh (HAL.out.trans (hb1.mono (by simp)))
      clear D hb1
      go_wp2_with fail
      go_returns
      exact ⟨rfl,HBL.out⟩
     .obtain rfl:R=0:=by rw [<-HR.out];rw [if_neg (fun h=>h HK.out),if_neg (by omega),if_neg (by omega)]
      go_enter Tryz.func113,Tryz.ntmps113
      go_wp2_with fail
      refine (HKN.out _).mono ?_
      rintro e w1 ⟨rfl,hb1⟩
      have D:=HBX.out.keep hb1 (by simp)
      have b0:=D.at_ 0 _ rfl;have b1:=D.at_ 1 _ rfl;have b2:=D.at_ 2 _ rfl;have b3:=D.at_ 3 _ rfl;have b4:=D.at_ 4 _ rfl;have b5:=D.at_ 5 _ rfl;have b6:=D.at_ 6 _ rfl;have b7:=D.at_ 7 _ rfl;have b8:=D.at_ 8 _ rfl;have b9:=D.at_ 9 _ rfl;have b10:=D.at_ 10 _ rfl;have b11:=D.at_ 11 _ rfl
      have zs:=D.lt
      have HBL:=qh (HAL.out.trans (hb1.mono (by simp)))
      clear D hb1
      go_wp2_with fail
      go_returns
      exact ⟨rfl,HBL.out⟩
   .have f7:(ck==7)=false:=by simp [h7]
    obtain rfl:R=0:=by rw [<-HR.out];rw [if_neg (fun h=>h HK.out),if_neg (by omega),if_neg (by omega)]
    go_enter Tryz.func113,Tryz.ntmps113
    go_wp2_with fail
    refine (HKN.out _).mono ?_
    rintro e w1 ⟨rfl,hb1⟩
    have D:=HBX.out.keep hb1 (by simp)
    have b0:=D.at_ 0 _ rfl;have b1:=D.at_ 1 _ rfl;have b2:=D.at_ 2 _ rfl;have b3:=D.at_ 3 _ rfl;have b4:=D.at_ 4 _ rfl;have b5:=D.at_ 5 _ rfl;have b6:=D.at_ 6 _ rfl;have b7:=D.at_ 7 _ rfl;have b8:=D.at_ 8 _ rfl;have b9:=D.at_ 9 _ rfl;have b10:=D.at_ 10 _ rfl;have b11:=D.at_ 11 _ rfl
    have zs:=D.lt
    have HBL:=qh (HAL.out.trans (hb1.mono (by simp)))
    clear D hb1
    go_wp2_with fail
    go_returns
    exact ⟨rfl,HBL.out⟩
theorem VRow.vals {w:World} {base:Nat} {u:Value} {l:List V} {cl:List VC} (h:VRow w base u l cl) (hfew:l.length<=1466015503701):∃a n c,u= .slice a n c/\IsVals (only (fun b=>base<=b) w) w.heap.size l a n c/\Neat2 a c:=by
 refine Xl h.own (Nat.le_refl _) h.len (fun i hi=> ?_) hfew
 intro hi'
 have e:cl.getD i vzero=cl[i]'(by have:=h.len;omega):=by rw [List.getD_eq_getElem?_getD,List.getElem?_eq_getElem (by have:=h.len;omega)];rfl
 rw [e]
 exact (h.els i hi (by have:=h.len;omega)).sub (Ze fun k hk _=>⟨⟨hk.1,fun e=>hk.2 e.symm⟩,rfl⟩)
theorem Qx (w:World) (l:List V) (a:Option Addr) (n c:Nat) (hl:IsVals w w.heap.size l a n c):
 Calls Tryz.prog 78 #[.agg #[.int .u8 0, .int .i64 0, .string { data:= #[] }, .slice a n c, .slice none 0 0]] w fun e w'=>(∃(d:VC) (cl:List VC),e= .returned (.agg #[.int .u8 d.k, .int .i64 d.n, .string d.s, .slice d.la d.ll d.lc, .slice d.oa d.ol d.oc])/\VRow w' w.heap.size (.slice d.la d.ll d.lc) l cl)/\Below w.heap.size w w':=by
 have hv:IsVal w w.heap.size (.mk 0 0 .empty l []) ⟨0,0, .empty,a,n,c,none,0,0⟩:=
  IsVal.of_lists (c:=⟨0,0, .empty,a,n,c,none,0,0⟩) ⟨by show (0:Int)<=0;decide,by show (0:Int)<256;decide,by show (-9223372036854775808:Int)<=0;decide,by show (0:Int)<=9223372036854775807;decide,by show ByteArray.empty.size<=140737488355328;decide,hl.cap,hl.max,hl.few,by show (0:Nat)<=0;decide,by show (0:Nat)<=9223372036854775807;decide,by show (0:Nat)<=1466015503701;decide⟩ hl (J6 w _)
 refine (Y2 w (.mk 0 0 .empty l []) ⟨0,0, .empty,a,n,c,none,0,0⟩ hv).mono ?_
 rintro e w' ⟨⟨d,rfl,hW⟩,hb⟩
 obtain ⟨cl,h⟩:=VRow.of hW (l:=l) rfl
 exact ⟨⟨d,cl,rfl,h⟩,hb⟩
def SeqPost (w:World) (r:List V) (e:Ending) (w':World):Prop:=
 (∃a n c,e= .returned (.tuple #[.slice a n c, .int .u16 0])/\IsVals (only (fun b=>w.heap.size<=b) w') w'.heap.size r a n c)/\Below w.heap.size w w'
theorem IsVals.cut {w:World} {B:Nat} {l:List V} {a:Option Addr} {n c:Nat} (h:IsVals w B l a n c):IsVals w B l a n n:=⟨h.len,Nat.le_refl _,Nat.le_trans h.cap h.max,h.few,h.at_⟩
set_option maxRecDepth 100000 in
theorem zkn (w:World) (l:List V) (a:Option Addr) (n c:Nat) (hl:IsVals w w.heap.size l a n c) (hfew:n<=100000000) (cc:CC) (x:V) (hc:lCheck n cc.k cc.i cc.j=0) (hk:cc.k=5):
 Calls Tryz.prog 82 #[.slice a n c, .agg #[.int .u8 cc.k, .slice cc.pa cc.pl cc.pc, .string cc.key, .int .i64 cc.i, .int .i64 cc.j, .int .i64 cc.n, .int .u8 cc.v.k, .int .i64 cc.v.n, .string cc.v.s, .slice cc.v.la cc.v.ll cc.v.lc, .slice cc.v.oa cc.v.ol cc.v.oc, .string cc.s]] w (SeqPost w (listDo l cc.k cc.i cc.j x)):=by
 have hmax:=hl.max
 have hlen:=hl.len
 obtain ⟨_,_,hi0,hi1,hi2,hj⟩:=Yl hc
 have HCK:Hid (∀W,Calls Tryz.prog 113 #[.int .i64 n, .agg #[.int .u8 cc.k, .slice cc.pa cc.pl cc.pc, .string cc.key, .int .i64 cc.i, .int .i64 cc.j, .int .i64 cc.n, .int .u8 cc.v.k, .int .i64 cc.v.n, .string cc.v.s, .slice cc.v.la cc.v.ll cc.v.lc, .slice cc.v.oa cc.v.ol cc.v.oc, .string cc.s]] W fun e w'=>e= .returned (.int .u16 0)/\Below W.heap.size W w'):=fun W=>by
  have:=Xu W n (by omega) cc
  rw [hc] at this;exact this
 have HOW:Hid (∀W,Below w.heap.size w W->Calls Tryz.prog 78 #[.agg #[.int .u8 0, .int .i64 0, .string { data:= #[] }, .slice a n c, .slice none 0 0]] W fun e w'=>(∃(d:VC) (cl:List VC),e= .returned (.agg #[.int .u8 d.k, .int .i64 d.n, .string d.s, .slice d.la d.ll d.lc, .slice d.oa d.ol d.oc])/\VRow w' W.heap.size (.slice d.la d.ll d.lc) l cl)/\Below W.heap.size W w'):=fun W hW=>Qx W l a n c (hl.later_ hW)
 have HBX:=qh (BC.start w #[.int .u8 cc.k, .slice cc.pa cc.pl cc.pc, .string cc.key, .int .i64 cc.i, .int .i64 cc.j, .int .i64 cc.n, .int .u8 cc.v.k, .int .i64 cc.v.n, .string cc.v.s, .slice cc.v.la cc.v.ll cc.v.lc, .slice cc.v.oa cc.v.ol cc.v.oc, .string cc.s] 39)
 have HAL:=qh ((Below.refl _ _).alloc (Nat.le_refl _) (.cells #[.int .u8 cc.k, .slice cc.pa cc.pl cc.pc, .string cc.key, .int .i64 cc.i, .int .i64 cc.j, .int .i64 cc.n, .int .u8 cc.v.k, .int .i64 cc.v.n, .string cc.v.s, .slice cc.v.la cc.v.ll cc.v.lc, .slice cc.v.oa cc.v.ol cc.v.oc, .string cc.s] 39):Below w.heap.size w _)
 obtain ⟨R,hR⟩:∃R,listDo l cc.k cc.i cc.j x=R:=⟨_,rfl⟩
 rw [hR]
 rw [listDo,hk] at hR
 have HL:=qh hlen
 obtain ⟨i,hi⟩:∃i:Nat,cc.i=i:=⟨cc.i.toNat,by omega⟩
 rw [hi] at hR hi1 hi2
 rw [hk,hi] at HCK HBX HAL ⊢
 rw [Int.toNat_natCast] at hR
 have hil:i<n:=by have:=hi2 (by omega);omega
 have hw1:IntKind.i64.wrap ((i:Int)+1)=(i:Int)+1:=IntWalk.i64_in _ (by omega)
 obtain rfl:R=remL l i:=by rw [<-hR];rfl
 clear hl hc hlen hR hi hi0 hj hi1 hi2
 go_enter Tryz.func82,Tryz.ntmps82
 go_wp2_with fail
 refine (HCK.out _).mono ?_
 rintro e w1 ⟨rfl,hb1⟩
 have HD1:=qh (HBX.out.keep hb1 (by simp))
 have HBL1:=qh (HAL.out.trans (hb1.mono (by simp)))
 clear hb1
 go_wp2_with fail
 refine (HOW.out _ HBL1.out).mono ?_
 rintro e w2 ⟨⟨d,cl,rfl,hV⟩,hb2⟩
 have D2:=HD1.out.keep hb2 HD1.out.lt
 obtain ⟨b0,b1,b2,b3,b4,b5,b6,b7,b8,b9,b10,b11⟩:=row12 D2.at_
 have zs2:=D2.lt
 have HBL2:=qh (HBL1.out.trans (hb2.mono HBL1.out.size))
 have HW12:=qh hb2.size
 have HV:=qh hV
 have hfld:=Y3 w2 d.k d.n d.s d.la d.ll d.lc d.oa d.ol d.oc
 have HDL:=qh (zbb w2 w1.heap.size l.length i (.slice d.la d.ll d.lc) (cl.flatMap vcells) hV.own (by have:=HL.out;omega) (Z1 cl))
 clear hb2 hV D2
 go_wp2_with fail
 refine HDL.out.mono ?_
 rintro e w3 ⟨v',rfl,ho,hg,hu⟩
 have hV3:=HV.out.rem (by have:=HL.out;omega) ho hg hu
 have hlr:(remL l i).length<=1466015503701:=by have:=HL.out;simp [remL];omega
 obtain ⟨a3,n3,c3,rfl,hI,hz⟩:=hV3.vals hlr
 have HB3:=qh (HBL2.out.trans ((Zj hg (fun k hk=>(HV.out.own.lt k hk).1) (by have:=HW12.out;omega)).mono HBL1.out.size))
 have hcap:=hI.cap;have hmx:=hI.max
 have HI:=qh (Y7 hI HBL1.out.size (Below.refl _ _)).cut
 clear ho hg hu hV3 hI hlr
 rcases hz with ⟨rfl,rfl⟩|⟨b3',off3,rfl⟩
 .obtain rfl:n3=0:=by omega
  go_wp2_with fail
  go_returns
  exact ⟨⟨_,_,_,rfl,HI.out⟩,HB3.out⟩
 .go_wp2_with fail
  go_returns
  exact ⟨⟨_,_,_,rfl,HI.out⟩,HB3.out⟩
theorem VRow.later {w w':World} {base:Nat} {u:Value} {l:List V} {cl:List VC} (h:VRow w base u l cl) (hb:Below w.heap.size w w'):VRow w' base u l cl:=
 ⟨h.len,h.own.kept (row:=none) ⟨hb.os,hb.tape,hb.output,hb.size,fun k hk _=>hb.block k hk⟩ (by cases hv:u.ownBlock<;>simp),fun i hi hi'=>((h.els i hi hi').sub (Ze fun k hk hl=>⟨hk,hb.block k hl⟩)).more hb.size⟩
set_option maxRecDepth 100000 in
theorem zkp (w:World) (l:List V) (a:Option Addr) (n c:Nat) (hl:IsVals w w.heap.size l a n c) (hfew:n<=100000000) (cc:CC) (x:V) (hx:IsVal w w.heap.size x cc.v) (hc:lCheck n cc.k cc.i cc.j=0) (hk:cc.k=4):
 Calls Tryz.prog 82 #[.slice a n c, .agg #[.int .u8 cc.k, .slice cc.pa cc.pl cc.pc, .string cc.key, .int .i64 cc.i, .int .i64 cc.j, .int .i64 cc.n, .int .u8 cc.v.k, .int .i64 cc.v.n, .string cc.v.s, .slice cc.v.la cc.v.ll cc.v.lc, .slice cc.v.oa cc.v.ol cc.v.oc, .string cc.s]] w (SeqPost w (listDo l cc.k cc.i cc.j x)):=by
 have hmax:=hl.max
 have hlen:=hl.len
 obtain ⟨_,_,hi0,hi1,hi2,hj⟩:=Yl hc
 have HCK:Hid (∀W,Calls Tryz.prog 113 #[.int .i64 n, .agg #[.int .u8 cc.k, .slice cc.pa cc.pl cc.pc, .string cc.key, .int .i64 cc.i, .int .i64 cc.j, .int .i64 cc.n, .int .u8 cc.v.k, .int .i64 cc.v.n, .string cc.v.s, .slice cc.v.la cc.v.ll cc.v.lc, .slice cc.v.oa cc.v.ol cc.v.oc, .string cc.s]] W fun e w'=>e= .returned (.int .u16 0)/\Below W.heap.size W w'):=fun W=>by
  have:=Xu W n (by omega) cc
  rw [hc] at this;exact this
 have HOW:Hid (∀W,Below w.heap.size w W->Calls Tryz.prog 78 #[.agg #[.int .u8 0, .int .i64 0, .string { data:= #[] }, .slice a n c, .slice none 0 0]] W fun e w'=>(∃(d:VC) (cl:List VC),e= .returned (.agg #[.int .u8 d.k, .int .i64 d.n, .string d.s, .slice d.la d.ll d.lc, .slice d.oa d.ol d.oc])/\VRow w' W.heap.size (.slice d.la d.ll d.lc) l cl)/\Below W.heap.size W w'):=fun W hW=>Qx W l a n c (hl.later_ hW)
 have HCV:Hid (∀W,Below w.heap.size w W->Calls Tryz.prog 78 #[.agg #[.int .u8 cc.v.k, .int .i64 cc.v.n, .string cc.v.s, .slice cc.v.la cc.v.ll cc.v.lc, .slice cc.v.oa cc.v.ol cc.v.oc]] W fun e w'=>(∃f:VC,e= .returned (.agg #[.int .u8 f.k, .int .i64 f.n, .string f.s, .slice f.la f.ll f.lc, .slice f.oa f.ol f.oc])/\Whole w' W.heap.size x f)/\Below W.heap.size W w'):=fun W hW=>Y2 W x cc.v (hx.later_ hW)
 have HBX:=qh (BC.start w #[.int .u8 cc.k, .slice cc.pa cc.pl cc.pc, .string cc.key, .int .i64 cc.i, .int .i64 cc.j, .int .i64 cc.n, .int .u8 cc.v.k, .int .i64 cc.v.n, .string cc.v.s, .slice cc.v.la cc.v.ll cc.v.lc, .slice cc.v.oa cc.v.ol cc.v.oc, .string cc.s] 39)
 have HAL:=qh ((Below.refl _ _).alloc (Nat.le_refl _) (.cells #[.int .u8 cc.k, .slice cc.pa cc.pl cc.pc, .string cc.key, .int .i64 cc.i, .int .i64 cc.j, .int .i64 cc.n, .int .u8 cc.v.k, .int .i64 cc.v.n, .string cc.v.s, .slice cc.v.la cc.v.ll cc.v.lc, .slice cc.v.oa cc.v.ol cc.v.oc, .string cc.s] 39):Below w.heap.size w _)
 obtain ⟨R,hR⟩:∃R,listDo l cc.k cc.i cc.j x=R:=⟨_,rfl⟩
 rw [hR]
 rw [listDo,hk] at hR
 have HL:=qh hlen
 obtain ⟨i,hi⟩:∃i:Nat,cc.i=i:=⟨cc.i.toNat,by omega⟩
 rw [hi] at hR hi1 hi2
 rw [hk,hi] at HCK HBX HAL ⊢
 rw [Int.toNat_natCast] at hR
 have hil:i<=n:=by omega
 have hw1:IntKind.i64.wrap ((i:Int)+1)=(i:Int)+1:=IntWalk.i64_in _ (by omega)
 obtain rfl:R=insL l i x:=by rw [<-hR];rfl
 clear hl hx hc hlen hR hi hi0 hj hi1 hi2
 go_enter Tryz.func82,Tryz.ntmps82
 go_wp2_with fail
 refine (HCK.out _).mono ?_
 rintro e w1 ⟨rfl,hb1⟩
 have HD1:=qh (HBX.out.keep hb1 (by simp))
 have HBL1:=qh (HAL.out.trans (hb1.mono (by simp)))
 clear hb1
 go_wp2_with fail
 refine (HOW.out _ HBL1.out).mono ?_
 rintro e w2 ⟨⟨d,cl,rfl,hV⟩,hb2⟩
 have D2:=HD1.out.keep hb2 HD1.out.lt
 obtain ⟨b0,b1,b2,b3,b4,b5,b6,b7,b8,b9,b10,b11⟩:=row12 D2.at_
 have zs2:=D2.lt
 have HBL2:=qh (HBL1.out.trans (hb2.mono HBL1.out.size))
 have HW12:=qh hb2.size
 have HV:=qh hV
 have hfld:=Y3 w2 d.k d.n d.s d.la d.ll d.lc d.oa d.ol d.oc
 have HD2:=qh D2
 have HBD:=qh (HBL2.out.drew)
 clear hb2 hV D2
 go_wp2_with fail
 go_region_with (first
  |(go_simp;go_at_call 78;(with_reducible refine (HCV.out _ HBD.out).mono ?_);rintro e w4 ⟨⟨f,rfl,hW4⟩,hb4⟩;have hB24:Below w2.heap.size w2 w4:=(Zf w2).trans hb4;have D4:=HD2.out.keep hB24 zs2;have q3:=D4.at_ 3 _ rfl;have zs4:=D4.lt;have HB24:=qh hB24;have HW4:Hid (Whole w4 w2.heap.size x f):=qh hW4;have HIN:=qh (zaj (w4.alloc (.cells #[.int .u8 f.k, .int .i64 f.n, .string f.s, .slice f.la f.ll f.lc, .slice f.oa f.ol f.oc] 36)) w1.heap.size l.length i w4.heap.size 36 (.slice d.la d.ll d.lc) (vcells f) (cl.flatMap vcells) (HV.out.later (hB24.trans (((Below.refl _ _).alloc (Nat.le_refl _) _).mono hB24.size))).own (by have:=HW12.out;have:=hB24.size;simp;omega) (by have:=HL.out;omega) (by have:=HL.out;omega) (heap_alloc_new w4 _) (fun e=>by have:=(HV.out.own.lt _ e).2;have:=hB24.size;omega) rfl (by simp [vcells,Value.oneCell']) (Z1 cl));clear hW4 hb4 hB24 D4)
  |(go_simp;go_at_call 122;(with_reducible refine HIN.out.mono ?_);rintro e w5 ⟨v',rfl,ho,hg,hu⟩;have HO:=qh ho;have HG:=qh hg;have HU:=qh hu;clear ho hg hu))
 all_goals (
  have hBA:=HB24.out.trans (((Below.refl w4.heap.size w4).alloc (Nat.le_refl _) (.cells #[.int .u8 f.k, .int .i64 f.n, .string f.s, .slice f.la f.ll f.lc, .slice f.oa f.ol f.oc] 36)).mono HB24.out.size)
  have hIA:IsVal (only (fun k=>w1.heap.size<=k/\(Value.slice d.la d.ll d.lc).ownBlock≠some k) (w4.alloc (.cells #[.int .u8 f.k, .int .i64 f.n, .string f.s, .slice f.la f.ll f.lc, .slice f.oa f.ol f.oc] 36))) (w4.alloc (.cells #[.int .u8 f.k, .int .i64 f.n, .string f.s, .slice f.la f.ll f.lc, .slice f.oa f.ol f.oc] 36)).heap.size x f:=((HW4.out.sepI.isVal).sub (Ze fun k hk hl=>⟨⟨by have:=HW12.out;omega,fun e=>by have:=(HV.out.own.lt _ e).2;omega⟩,by first|exact heap_alloc_old w4 _ k hl|exact heap_alloc_old w4 _ hl⟩)).more (by simp)
  have hV5:=(HV.out.later hBA).ins (by have:=HL.out;omega) hIA HO.out HG.out HU.out
  have hlr:(insL l i x).length<=1466015503701:=by have:=HL.out;simp [insL];omega
  obtain ⟨a3,n3,c3,rfl,hI,hz⟩:=hV5.vals hlr
  have HB3:=qh ((HBL2.out.trans (hBA.mono HBL2.out.size)).trans ((Zj HG.out (fun k hk=>(HV.out.own.lt k hk).1) (by have:=HW12.out;have:=HB24.out.size;simp;omega)).mono HBL1.out.size))
  have hcap:=hI.cap
  have hmx:=hI.max
  have HI:=qh (Y7 hI HBL1.out.size (Below.refl _ _)).cut
  clear hBA hIA hV5 hI hlr HO HG HU HIN
  rcases hz with ⟨rfl,rfl⟩|⟨b3',off3,rfl⟩
  .obtain rfl:n3=0:=by omega
   go_wp2_with fail
   go_returns
   exact ⟨⟨_,_,_,rfl,HI.out⟩,HB3.out⟩
  .go_wp2_with fail
   go_returns
   exact ⟨⟨_,_,_,rfl,HI.out⟩,HB3.out⟩)
end Go.Proofs.YtnjgbiachcfigaaGreatDoor
