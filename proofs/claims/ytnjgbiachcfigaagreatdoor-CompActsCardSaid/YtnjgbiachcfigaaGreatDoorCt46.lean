/-
  Contracts of the functions that the law reaches: Entries as they are given: what stands.
-/
import Derived.Test.YtnjgbiachcfigaaGreatDoorCt45
import Derived.Test.YtnjgbiachcfigaaGreatDoorCt41
namespace Go.Proofs.YtnjgbiachcfigaaGreatDoor
open Go.RowKit
set_option maxHeartbeats 8000000
structure BA where
 k:Int
 pa:Option Addr
 pl:Nat
 pc:Nat
 key:ByteArray
 i:Int
 j:Int
 n:Int
 s:ByteArray
 va:Option Addr
 vl:Nat
 vc:Nat
def SomeB (w:World) (pl:Nat) (e:Ending) (w':World):Prop:=(∃h:Bool,e= .returned (.bool h)/\(h=false->pl<=40))/\Below w.heap.size w w'
set_option maxRecDepth 100000 in
theorem zje (w:World) (l:List Tk) (a:Option Addr) (n c:Nat) (hl:IsToks w w.heap.size l a n c) (b:BA) (v:List Tk) (hv:IsToks w w.heap.size v b.va b.vl b.vc):
 Calls Tryz.prog 10 #[.slice a n c, .agg #[.int .u8 b.k, .slice b.pa b.pl b.pc, .string b.key, .int .i64 b.i, .int .i64 b.j, .int .i64 b.n, .string b.s, .slice b.va b.vl b.vc]] w (SomeB w b.pl):=by
 have hmax:=hl.max;have hcap:=hl.cap
 have hvm:=hv.max;have hvc:=hv.cap
 have HL:=qh hl;have HV:=qh hv
 have HBX:=qh (BC.start w #[.int .u8 b.k, .slice b.pa b.pl b.pc, .string b.key, .int .i64 b.i, .int .i64 b.j, .int .i64 b.n, .string b.s, .slice b.va b.vl b.vc] 29)
 have HAL:=qh ((Below.refl _ _).alloc (Nat.le_refl _) (.cells #[.int .u8 b.k, .slice b.pa b.pl b.pc, .string b.key, .int .i64 b.i, .int .i64 b.j, .int .i64 b.n, .string b.s, .slice b.va b.vl b.vc] 29):Below w.heap.size w _)
 clear hl hv
 obtain ⟨R,hR⟩:∃R,SomeB w b.pl=R:=⟨_,rfl⟩
 rw [hR]
 have HR:=qh hR
 clear hR
 go_enter Tryz.func10,Tryz.ntmps10
 go_wp2_with fail
 go_loopg [5,6] n (fun gh z i wr=>∃(x:Int) (j:Nat),j<=n/\gh=n - j/\z= .int .i64 x/\i= .int .i64 j/\BC wr w.heap.size [.int .u8 b.k, .slice b.pa b.pl b.pc, .string b.key, .int .i64 b.i, .int .i64 b.j, .int .i64 b.n, .string b.s, .slice b.va b.vl b.vc] /\Below w.heap.size w wr)
 case atStart=>exact ⟨_,0,Nat.zero_le _,rfl,rfl,rfl,HBX.out,HAL.out⟩
 case round =>
  obtain ⟨x,j,hj,rfl,rfl,rfl,hbx,hbl⟩:=hrel
  have HBL:=qh hbl
  have HB:=qh hbx
  clear hbl hbx
  by_cases hlt:j<n
  .obtain ⟨tb,tq,hp,ha,htb,htk,_⟩:=HL.out.get hlt
   have htk1:=htk.keep HBL.out htb
   have t2:=htk1.c2
   have hbw:tb<wr.heap.size:=World.block_lt_of_cell? wr _ t2
   subst ha
   clear htk htk1
   go_wp2_with fail
   go_roundg (n - (j+1))
   case measure=>omega
   case rel=>exact ⟨_,j+1,by omega,rfl,rfl,by go_num,HB.out,HBL.out⟩
  .have b1 :=HB.out.at_ 1 _ rfl;have b2:=HB.out.at_ 2 _ rfl;have b6:=HB.out.at_ 6 _ rfl;have b7:=HB.out.at_ 7 _ rfl;have z0:=HB.out.lt
   go_wp2_with fail
   go_loopg [5,7] b.vl (fun gh z k wr=>∃(x:Int) (t:Nat),t<=b.vl/\gh=b.vl - t/\z= .int .i64 x/\k= .int .i64 t/\BC wr w.heap.size [.int .u8 b.k, .slice b.pa b.pl b.pc, .string b.key, .int .i64 b.i, .int .i64 b.j, .int .i64 b.n, .string b.s, .slice b.va b.vl b.vc] /\Below w.heap.size w wr)
   case atStart=>exact ⟨_,0,Nat.zero_le _,rfl,rfl,rfl,HB.out,HBL.out⟩
   case round=>
    obtain ⟨y,t,ht,rfl,rfl,rfl,hbx,hbl⟩:=hrel
    clear b1 b2 b6 b7 z0
    have b1:=hbx.at_ 1 _ rfl;have b2:=hbx.at_ 2 _ rfl;have b6:=hbx.at_ 6 _ rfl;have b7:=hbx.at_ 7 _ rfl;have z0:=hbx.lt
    have HBL2:=qh hbl
    have HB2:=qh hbx
    clear hbl hbx
    by_cases htl:t<b.vl
    .obtain ⟨b2,q2,hp2,hva,hb2,htk,_⟩:=HV.out.get htl
     have htk1:=htk.keep HBL2.out hb2
     have t2:=htk1.c2
     rw [hva] at b7
     have hb2w:b2<wr.heap.size:=World.block_lt_of_cell? wr _ t2
     clear htk htk1 hva
     go_wp2_with fail
     go_roundg (b.vl - (t+1))
     case measure=>omega
     case rel=>exact ⟨_,t+1,by omega,rfl,rfl,by go_num,HB2.out,HBL2.out⟩
    .go_wp2_with fail
     all_goals (
      rw [<-HR.out]
      first
       |exact ⟨⟨true,rfl,fun h=>by cases h⟩,HBL2.out⟩
       |exact ⟨⟨_,rfl,fun h=>by simp at h;omega⟩,HBL2.out⟩)
end Go.Proofs.YtnjgbiachcfigaaGreatDoor
namespace Go.Proofs.YtnjgbiachcfigaaGreatDoor
open Go.RowKit
set_option maxHeartbeats 8000000
theorem zil (v:V) (c:Cm):(doP v c).2=checkP v c:=by
 unfold doP
 split
 .rename_i he
  obtain ⟨hs,x,hg,hk⟩:=Z8 he
  simp only [hg]
  obtain ⟨z,hz⟩:=Ys c.path hg (doneP x c)
  rw [hz,he];rfl
 .rfl
theorem Zv (w:World) (o:Obj):Below w.heap.size w (w.alloc o):=(Below.refl _ _).alloc (Nat.le_refl _) o
def SomeInt (w:World) (e:Ending) (w':World):Prop:=(∃z:Int,e= .returned (.int .i64 z))/\Below w.heap.size w w'
theorem IsAct.toks {w:World} {B:Nat} {x:Ac} {c:AC} (h:IsAct w B x c):IsToks w B x.v c.va c.vl c.vc:=by
 cases h with
 |mk c p v hb hp hv=>exact hv
set_option maxRecDepth 100000 in
theorem zc9 (w:World) (l:List Ac) (a:Option Addr) (n c:Nat) (hl:IsActs w w.heap.size l a n c):
 Calls Tryz.prog 11 #[.slice a n c] w (SomeInt w):=by
 have hmax:=hl.max;have hcap:=hl.cap
 have HL:=qh hl
 clear hl
 obtain ⟨R,hR⟩:∃R,SomeInt w=R:=⟨_,rfl⟩
 rw [hR]
 have HR:=qh hR
 clear hR
 go_enter Tryz.func11,Tryz.ntmps11
 go_wp2_with fail
 go_loopg [3,4,5] n (fun gh z i _ wr=>∃(x:Int) (j:Nat),j<=n/\gh=n - j/\z= .int .i64 x/\i= .int .i64 j/\Below w.heap.size w wr)
 case atStart=>exact ⟨0,0,Nat.zero_le _,rfl,rfl,rfl,Below.refl _ _⟩
 case round=>
  obtain ⟨x,j,hj,rfl,rfl,rfl,hbl⟩:=hrel
  obtain ⟨w1,hw1⟩:∃w1,w1=wr:=⟨_,rfl⟩
  subst hw1
  have HBL:=qh hbl
  clear hbl
  by_cases hlt:j<n
  .obtain ⟨b,q,f,hpl,rfl,hbB,hat,hia⟩:=HL.out.get hlt
   have hat1:=hat.keep HBL.out hbB
   have s0:=hat1.c0;have s5:=hat1.c5;have s6:=hat1.c6
   have hv:=hia.toks
   have HV:=qh hv
   have hvm:=hv.max;have hvc:=hv.cap
   have HAT:=qh hat
   have hbw:b<w1.heap.size:=World.block_lt_of_cell? w1 _ s0
   clear hat hat1 hia hv
   go_wp2_with fail
   go_quiet (fail)
   go_wp2_with fail
   go_loopg [3,5] f.vl (fun gh z k wr=>∃(x:Int) (t:Nat),t<=f.vl/\gh=f.vl - t/\z= .int .i64 x/\k= .int .i64 t/\Below w.heap.size w wr)
   case atStart=>exact ⟨_,0,Nat.zero_le _,rfl,rfl,rfl,HBL.out.trans ((Y8 _ _).mono HBL.out.size)⟩
   case round=>
    obtain ⟨y,t,ht,rfl,rfl,rfl,hbl⟩:=hrel
    have hat1:=HAT.out.keep hbl hbB
    clear s0 s5 s6 hbw
    have s6:=hat1.c6
    have hbw:b<wr.heap.size:=World.block_lt_of_cell? wr _ s6
    have HBL2:=qh hbl
    clear hat1 hbl
    by_cases htl:t<f.vl
    .obtain ⟨b2,q2,hp2,hva,hb2,htk,_⟩:=HV.out.get htl
     have htk1:=htk.keep HBL2.out hb2
     have t2:=htk1.c2
     rw [hva] at s6
     have hb2w:b2<wr.heap.size:=World.block_lt_of_cell? wr _ t2
     clear htk htk1 hva
     go_wp2_with fail
     go_roundg (f.vl - (t+1))
     case measure=>omega
     case rel=>exact ⟨_,t+1,by omega,rfl,rfl,by go_num,HBL2.out⟩
    .go_wp2_with fail
     go_roundg (n - (j+1))
     case measure=>omega
     case rel=>exact ⟨_,j+1,by omega,rfl,rfl,by go_num,HBL2.out⟩
  .go_wp2_with fail
   rw [<-HR.out]
   exact ⟨⟨_,rfl⟩,HBL.out⟩
end Go.Proofs.YtnjgbiachcfigaaGreatDoor
