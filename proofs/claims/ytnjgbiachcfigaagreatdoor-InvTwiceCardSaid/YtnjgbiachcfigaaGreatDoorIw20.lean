/-
  Contracts of the functions that the law reaches: CompRefuses, of any pieces and any.
-/
import Derived.Test.YtnjgbiachcfigaaGreatDoorIw19
namespace Go.Proofs.YtnjgbiachcfigaaGreatDoor
open Go.RowKit
set_option maxHeartbeats 16000000
theorem Ko (v:V) (c:Cm):(doP v c).2=checkP v c:=by
 unfold doP
 split
 .rename_i he
  obtain ⟨hs,x,hg,hk⟩:=Zu he
  simp only [hg]
  obtain ⟨z,hz⟩:=Yn c.path hg (doneP x c)
  rw [hz,he];rfl
 .rfl
theorem Zo (w:World) (o:Obj):uB w (w.alloc o):=(Below.refl _ _).alloc (Nat.le_refl _) o
def SomeInt (w:World) (e:Ending) (w':World):Prop:=(∃z:Int,e= .returned (.int .i64 z))/\Below w.heap.size w w'
theorem IsAct.toks {w:World} {B:Nat} {x:Ac} {c:AC} (h:IsAct w B x c):IsToks w B x.v c.va c.vl c.vc:=by
 cases h with
 |mk c p v hb hp hv=>exact hv
set_option maxRecDepth 100000 in
theorem zfx (w:World) (l:List Ac) (a:Option Addr) (n c:Nat) (hl:IsActs w w.heap.size l a n c):
 uP 11 #[.slice a n c] w (SomeInt w):=by
 delta uP
 have hmax:=hl.max;have hcap:=hl.cap
 have HL:=qh hl
 clear hl
 obtain ⟨R,hR⟩:∃R,SomeInt w=R:=⟨_,rfl⟩
 rw [hR]
 have HR:=qh hR
 clear hR
 go_enter Tryz.func11,Tryz.ntmps11
 go_wp2_with fail
 go_loopg [3,4,5] n (fun gh z i _ wr=>∃(x:Int) (j:Nat),j<=n/\gh=n - j/\z= .int .i64 x/\i= .int .i64 j/\uB w wr)
 case atStart=>exact ⟨0,0,Nat.zero_le _,rfl,rfl,rfl,Below.refl _ _⟩
 case round=>
  obtain ⟨x,j,hj,rfl,rfl,rfl,hbl⟩:=hrel
  obtain ⟨w1,hw1⟩:∃w1,w1=wr:=⟨_,rfl⟩
  subst hw1
  have HBL:=qh hbl
  clear hbl
  by_cases hlt:j<n
  .obtain ⟨b,q,f,hpl,rfl,hbB,hat,hia⟩:=HL.out.get hlt
   have hat1:=hat.keep HBL.out hbB
   have s0:=hat1.c0;have s5:=hat1.c5;have s6:=hat1.c6
   have hv:=hia.toks
   have HV:=qh hv
   have hvm:=hv.max;have hvc:=hv.cap
   have HAT:=qh hat
   have hbw:b<w1.heap.size:=World.block_lt_of_cell? w1 _ s0
   clear hat hat1 hia hv
   go_wp2_with fail
   go_quiet (fail)
   go_wp2_with fail
   go_loopg [3,5] f.vl (fun gh z k wr=>∃(x:Int) (t:Nat),t<=f.vl/\gh=f.vl - t/\z= .int .i64 x/\k= .int .i64 t/\uB w wr)
   case atStart=>exact ⟨_,0,Nat.zero_le _,rfl,rfl,rfl,HBL.out.trans ((Xs _ _).mono HBL.out.size)⟩
   case round=>
    obtain ⟨y,t,ht,rfl,rfl,rfl,hbl⟩:=hrel
    have hat1:=HAT.out.keep hbl hbB
    clear s0 s5 s6 hbw
    have s6:=hat1.c6
    have hbw:b<wr.heap.size:=World.block_lt_of_cell? wr _ s6
    have HBL2:=qh hbl
    clear hat1 hbl
    by_cases htl:t<f.vl
    .obtain ⟨b2,q2,hp2,hva,hb2,htk,_⟩:=HV.out.get htl
     have htk1:=htk.keep HBL2.out hb2
     have t2:=htk1.c2
     rw [hva] at s6
     have hb2w:b2<wr.heap.size:=World.block_lt_of_cell? wr _ t2
     clear htk htk1 hva
     go_wp2_with fail
     go_roundg (f.vl - (t+1))
     case measure=>omega
     case rel=>exact ⟨_,t+1,by omega,rfl,rfl,by go_num,HBL2.out⟩
    .go_wp2_with fail
     go_roundg (n - (j+1))
     case measure=>omega
     case rel=>exact ⟨_,j+1,by omega,rfl,rfl,by go_num,HBL2.out⟩
  .go_wp2_with fail
   rw [<-HR.out]
   exact ⟨⟨_,rfl⟩,HBL.out⟩
def SomeBool (w:World) (e:Ending) (w':World):Prop:=(∃h:Bool,e= .returned (.bool h))/\Below w.heap.size w w'
set_option maxRecDepth 100000 in
theorem Kr (w:World) (l:List Tk) (a:Option Addr) (n c:Nat) (hl:IsToks w w.heap.size l a n c) (x:List Ac) (ya:Option Addr) (yn yc:Nat) (ha:IsActs w w.heap.size x ya yn yc):
 uP 20 #[.slice a n c, .slice ya yn yc] w (SomeBool w):=by
 delta uP
 have hmax:=hl.max;have hcap:=hl.cap
 have HL:=qh hl
 have HH:Hid (∀W,uB w W->uP 11 #[.slice ya yn yc] W (SomeInt W)):=qh fun W hW=>zfx W x ya yn yc (ha.later_ hW)
 clear hl ha
 obtain ⟨R,hR⟩:∃R,SomeBool w=R:=⟨_,rfl⟩
 rw [hR]
 have HR:=qh hR
 clear hR
 go_enter Tryz.func20,Tryz.ntmps20
 go_wp2_with fail
 go_loopg [5,6] n (fun gh z i wr=>∃(x:Int) (j:Nat),j<=n/\gh=n - j/\z= .int .i64 x/\i= .int .i64 j/\uB w wr)
 case atStart=>exact ⟨0,0,Nat.zero_le _,rfl,rfl,rfl,Below.refl _ _⟩
 case round=>
  obtain ⟨x,j,hj,rfl,rfl,rfl,hbl⟩:=hrel
  have HBL:=qh hbl
  by_cases hlt:j<n
  .obtain ⟨b,q,hpl,rfl,hbB,htk,_⟩:=HL.out.get hlt
   have htk1:=htk.keep hbl hbB
   have t2:=htk1.c2
   have hbw:b<wr.heap.size:=World.block_lt_of_cell? wr _ t2
   clear htk htk1 hbl
   go_wp2_with fail
   go_roundg (n - (j+1))
   case measure=>omega
   case rel=>exact ⟨_,j+1,by omega,rfl,rfl,by go_num,HBL.out⟩
  .clear hbl
   by_cases h1:(2000:Int)<x
   .go_wp2_with fail
    rw [<-HR.out]
    exact ⟨⟨_,rfl⟩,HBL.out⟩
   .by_cases h2:(12:Int)<(yn:Int)
    .go_wp2_with fail
     rw [<-HR.out]
     exact ⟨⟨_,rfl⟩,HBL.out⟩
    .go_wp2_with fail
     refine (HH.out _ HBL.out).mono ?_
     rintro e w2 ⟨⟨z,rfl⟩,hb2⟩
     have HB2:=qh (HBL.out.trans (hb2.mono HBL.out.size))
     clear hb2
     go_wp2_with fail
     rw [<-HR.out]
     exact ⟨⟨_,rfl⟩,HB2.out⟩
set_option maxRecDepth 100000 in
theorem zb8 (w:World) (s:ByteArray) (i:Nat) (hi:i<=9223372036854775807):
 uP 102 #[.string s, .int .i64 (i:Int)] w fun e w'=>e= .returned (.int .i64 ((cuts s).getD i s.size:Int))/\uB w w':=by
 delta uB uP
 rw [zax]
 have hz:s.data.toList.length=s.size:=Array.length_toList
 have HZ:=qh hz
 obtain ⟨R,hR⟩:∃R,(cutsP s.size 0 s.data.toList).getD i s.size=R:=⟨_,rfl⟩
 have HR:=qh hR
 rw [hR]
 clear hR hz
 go_enter Tryz.func102,Tryz.ntmps102
 go_wp2_with fail
 go_loopw [1,5] (fun iv _ wr=>∃(pos m:Nat),wr=w.iter s pos/\m<=i/\iv= .int .i64 (m:Int)/\Hid ((cutsP (s.data.toList.drop pos).length pos (s.data.toList.drop pos)).getD m s.size=R)) (fun _ _ wr=>s.size - wr.iterPos w.heap.size)
 case atStart=>exact ⟨0,i,rfl,Nat.le_refl _,rfl,qh (by rw [List.drop_zero,HZ.out];exact HR.out)⟩
 case round=>
  obtain ⟨pos,m,rfl,hm,rfl,HC⟩:=hrel
  by_cases hp:pos<s.size
  .have hnx:∀ty,(Instr.next (.pointer (some ⟨w.heap.size,0,none⟩)) true ty).run Tryz.prog (w.iter s pos)=_:=fun ty=>run_next_any w s pos ty hp
   have hwd:=Lib.decode_width_pos s pos hp
   have hne:s.data.toList.drop pos≠ [] :=fun e=>by
    have:=congrArg List.length e
    rw [List.length_drop,HZ.out] at this
    simp at this;omega
   have hcs:=HC.out
   rw [Y8 hne, <-zbd,List.drop_drop] at hcs
   have HCS:=qh hcs
   have hw1:IntKind.i64.wrap ((m:Int) - 1)=(m:Int) - 1:=IntWalk.i64_in _ (by omega)
   clear hcs hne
   by_cases h0:m=0
   .subst h0
    have hr:pos=R:=by have:=HCS.out;rwa [List.getD_cons_zero] at this
    subst hr
    clear HCS HC
    go_wp2_with fail
    go_returns
    exact ⟨rfl,(Below.refl _ _).alloc (Nat.le_refl _) _⟩
   .have f0:((m:Int)==0)=false:=by simp;omega
    go_wp2_with fail
    go_roundw
    case rel=>
     obtain ⟨m',rfl⟩:∃m',m=m'+1:=⟨m - 1,by omega⟩
     refine ⟨pos+(Utf8.decode s pos).2,m',rfl,by omega,by go_num,qh ?_⟩
     have:=HCS.out
     rwa [List.getD_cons_succ] at this
    case measure=>
     simp
     omega
  .have hnx:∀ty,(Instr.next (.pointer (some ⟨w.heap.size,0,none⟩)) true ty).run Tryz.prog (w.iter s pos)=_:=fun ty=>run_next_end w s pos ty hp
   have hr:s.size=R:=by
    have:=HC.out
    rw [List.drop_eq_nil_of_le (by rw [HZ.out];omega)] at this
    exact this
   subst hr
   clear HC HR
   go_wp2_with fail
   go_returns
   exact ⟨rfl,(Below.refl _ _).alloc (Nat.le_refl _) _⟩
def partT (s:ByteArray) (i n:Int):ByteArray:=s.extract ((cuts s).getD i.toNat 0) ((cuts s).getD (i+n).toNat 0)
theorem zb5 (s:ByteArray) (I J:Nat) (hI:I<textN s) (hJ:I+J<=textN s):(cuts s).getD I 0<=(cuts s).getD (I+J) 0/\(cuts s).getD (I+J) 0<=s.size:=by
 have h:=za8 s I J hI hJ
 have hl:=Yo s
 have h2:I+J<(cuts s).length:=by rw [textN] at hJ;omega
 refine ⟨by omega, ?_⟩
 rw [List.getD_eq_getElem?_getD,List.getElem?_eq_getElem h2]
 exact J8 s _ h2
theorem Yz {a b:ByteArray} (h:a.data.toList=b.data.toList):a=b:=by
 cases a;cases b;congr;exact Array.ext' h
theorem Xw (s:ByteArray):s.data.toList.length=s.size:=Array.length_toList
noncomputable def turnP (x:V) (c:Cm):Cm:=
 if c.k=1 then ⟨1,c.path, .empty,0,0,wrap64 (-c.n),V.none, .empty⟩
 else if c.k=2∨c.k=3 then (if fieldIs x.os c.key=true then ⟨2,c.path,c.key,0,0,0,(x.os.getD (fieldK x.os c.key) (.empty,V.none)).2, .empty⟩ else ⟨3,c.path,c.key,0,0,0,V.none, .empty⟩)
 else if c.k=4 then ⟨5,c.path, .empty,c.i,0,0,V.none, .empty⟩
 else if c.k=5 then ⟨4,c.path, .empty,c.i,0,0,x.ls.getD c.i.toNat V.none, .empty⟩
 else if c.k=6 then ⟨6,c.path, .empty,c.i,0,0,x.ls.getD c.i.toNat V.none, .empty⟩
 else if c.k=7 then ⟨7,c.path, .empty,c.j,c.i,0,V.none, .empty⟩
 else if c.k=8 then ⟨9,c.path, .empty,c.i,0,(textN c.s:Int),V.none, .empty⟩
 else ⟨8,c.path, .empty,c.i,0,0,V.none,partT x.str c.i c.n⟩
theorem zbw {c:Cm} (h:eqB c.bare ⟨c.k,c.path, .empty,0,0,0,V.none, .empty⟩=true):(kKey c.k=false->c.key= .empty)/\(kI c.k=false->c.i=0)/\(kJ c.k=false->c.j=0)/\(kN c.k=false->c.n=0)/\(kV c.k=false->c.v=V.none)/\(kS c.k=false->c.s= .empty):=by
 have h2:=Qi h
 rw [Cm.bare] at h2
 injection h2 with a1 a2 a3 a4 a5 a6 a7 a8
 exact ⟨fun e=>by rw [e] at a3;simpa using a3,fun e=>by rw [e] at a4;simpa using a4,fun e=>by rw [e] at a5;simpa using a5,fun e=>by rw [e] at a6;simpa using a6,fun e=>by rw [e] at a7;simpa using a7,fun e=>by rw [e] at a8;simpa using a8⟩
def Cm.none:Cm:=⟨0, [], .empty,0,0,0,V.none, .empty⟩
noncomputable def turnedP (v:V) (c:Cm):Cm×Int:=
 if checkP v c=0 then (if cmSound (turnP ((getP v c.path).getD V.none) c)=true then (turnP ((getP v c.path).getD V.none) c,0) else (Cm.none,60)) else (Cm.none,checkP v c)
noncomputable def turnsP:V->List Cm->List Cm×Int
 |_, [] =>([],0)
 |v,c::r=>if (turnedP v c).2=0 then (if (turnsP (doP v c).1 r).2=0 then ((turnedP v c).1::(turnsP (doP v c).1 r).1,0) else ([],(turnsP (doP v c).1 r).2)) else ([],(turnedP v c).2)
noncomputable def allP (v:V) (op:List Cm):List Cm×Int:=if 200<op.length then ([],3) else ((turnsP v op).1.reverse,(turnsP v op).2)
theorem J9 {v:V} {c d:Cm} (h:turnedP v c=(d,0)):checkP v c=0/\∃x,getP v c.path=some x/\d=turnP x c/\cmSound d=true:=by
 unfold turnedP at h
 by_cases hc:checkP v c=0
 .rw [if_pos hc] at h
  obtain ⟨_,x,hg,_⟩:=Zu hc
  rw [hg,Option.getD_some] at h
  by_cases hs:cmSound (turnP x c)=true
  .rw [if_pos hs] at h
   injection h with h1 h2
   exact ⟨hc,x,hg,h1.symm,h1 ▸ hs⟩
  .rw [if_neg hs] at h
   injection h with h1 h2
   cases h2
 .rw [if_neg hc] at h
  injection h with h1 h2
  exact absurd h2 hc
theorem zkg (cs:List CC) (k:Nat) (hk:k<cs.length) (z:CC):((((((((((((cs.flatMap ccells).set (k*12) (.int .u8 z.k)).set (k*12+1) (.slice z.pa z.pl z.pc)).set (k*12+2) (.string z.key)).set (k*12+3) (.int .i64 z.i)).set (k*12+4) (.int .i64 z.j)).set (k*12+5) (.int .i64 z.n)).set (k*12+6) (.int .u8 z.v.k)).set (k*12+7) (.int .i64 z.v.n)).set (k*12+8) (.string z.v.s)).set (k*12+9) (.slice z.v.la z.v.ll z.v.lc)).set (k*12+10) (.slice z.v.oa z.v.ol z.v.oc)).set (k*12+11) (.string z.s)=(cs.set k z).flatMap ccells:=by
 induction cs generalizing k with
 |nil=>cases hk
 | cons c r ih=>
   cases k with
   |zero=>simp [ccells]
   | succ k=>
     have e:∀t,(k+1)*12+t=(ccells c).length+(k*12+t):=fun t=>by show _=12+_;omega
     have e0:(k+1)*12=(ccells c).length+(k*12):=by show _=12+_;omega
     rw [e 1,e 2,e 3,e 4,e 5,e 6,e 7,e 8,e 9,e 10,e 11,e0]
     simp only [List.flatMap_cons,List.set_cons_succ]
     rw [<-ih k (by simpa using hk)]
     simp only [List.set_append_right _ _ (Nat.le_add_right _ _),Nat.add_sub_cancel_left]
def setCo (W:World) (b o:Nat) (z:CC):World:=((((((((((((W).setCell ⟨b,o,none⟩ (.int .u8 z.k)).setCell ⟨b,o+1,none⟩ (.slice z.pa z.pl z.pc)).setCell ⟨b,o+2,none⟩ (.string z.key)).setCell ⟨b,o+3,none⟩ (.int .i64 z.i)).setCell ⟨b,o+4,none⟩ (.int .i64 z.j)).setCell ⟨b,o+5,none⟩ (.int .i64 z.n)).setCell ⟨b,o+6,none⟩ (.int .u8 z.v.k)).setCell ⟨b,o+7,none⟩ (.int .i64 z.v.n)).setCell ⟨b,o+8,none⟩ (.string z.v.s)).setCell ⟨b,o+9,none⟩ (.slice z.v.la z.v.ll z.v.lc)).setCell ⟨b,o+10,none⟩ (.slice z.v.oa z.v.ol z.v.oc)).setCell ⟨b,o+11,none⟩ (.string z.s)
theorem zcp (W:World) (b o:Nat) (z:CC):RStep W (setCo W b o z) b:=((((((((((RStep.self.trans RStep.self).trans RStep.self).trans RStep.self).trans RStep.self).trans RStep.self).trans RStep.self).trans RStep.self).trans RStep.self).trans RStep.self).trans RStep.self).trans RStep.self
theorem zcl {W:World} {base:Nat} {e:TypeId} {g n cap:Nat} {cs:List CC} (h:W.ownsRow base e 12 (.slice (some ⟨g,0,none⟩) n cap) n (cs.flatMap ccells)) {k:Nat} (hk:k<cs.length) (z:CC):
 (setCo W g (k*12) z).ownsRow base e 12 (.slice (some ⟨g,0,none⟩) n cap) n ((cs.set k z).flatMap ccells):=by
 have h0:=(h.stored (k*12) (.int .u8 z.k)).1
 have h1:=(h0.stored (k*12+1) (.slice z.pa z.pl z.pc)).1
 have h2:=(h1.stored (k*12+2) (.string z.key)).1
 have h3:=(h2.stored (k*12+3) (.int .i64 z.i)).1
 have h4:=(h3.stored (k*12+4) (.int .i64 z.j)).1
 have h5:=(h4.stored (k*12+5) (.int .i64 z.n)).1
 have h6:=(h5.stored (k*12+6) (.int .u8 z.v.k)).1
 have h7:=(h6.stored (k*12+7) (.int .i64 z.v.n)).1
 have h8:=(h7.stored (k*12+8) (.string z.v.s)).1
 have h9:=(h8.stored (k*12+9) (.slice z.v.la z.v.ll z.v.lc)).1
 have h10:=(h9.stored (k*12+10) (.slice z.v.oa z.v.ol z.v.oc)).1
 have h11:=(h10.stored (k*12+11) (.string z.s)).1
 rw [zkg cs k hk z] at h11
 exact h11
theorem znf {cs:List CC} {i:Nat} (hi:i<cs.length) {j:Nat} {v:Value} (h:(ccells cs[i])[j]? =some v):(cs.flatMap ccells)[i*12+j]? =some v:=by
 induction cs generalizing i with
 |nil=>cases hi
 | cons c r ih=>
   cases i with
   | zero=>
     have h:(ccells c)[j]? =some v:=h
     rw [Nat.zero_mul,Nat.zero_add,List.flatMap_cons,List.getElem?_append_left (List.getElem?_eq_some_iff.1 h).1];exact h
   | succ i=>
     have e:(i+1)*12+j=(ccells c).length+(i*12+j):=by show _=12+_;omega
     rw [e,List.flatMap_cons,List.getElem?_append_right (by omega),Nat.add_sub_cancel_left]
     exact ih (by simpa using hi) h
theorem zkx {W:World} {base:Nat} {e:TypeId} {g n cap:Nat} {cs:List CC} (h:W.ownsRow base e 12 (.slice (some ⟨g,0,none⟩) n cap) n (cs.flatMap ccells)) {i:Nat} (hi:i<cs.length):∀j v,(ccells cs[i])[j]? =some v->W.cell? ⟨g,i*12+j,none⟩=some v:=fun j v hj=>by
 have:=h.cells (g:=g) rfl (i*12+j) v (znf hi hj)
 rw [Addr.add_lit,Nat.zero_add] at this;exact this
def swp (cs:List CC) (i:Nat):List CC:=(List.range cs.length).map fun k=>if k<i∨cs.length<=k+i then cs.getD (cs.length - 1 - k) czero else cs.getD k czero
theorem Xx (cs:List CC) (i:Nat):(swp cs i).length=cs.length:=by simp [swp]
theorem Q2 (cs:List CC) (i:Nat) {k:Nat} (hk:k<(swp cs i).length):(swp cs i)[k] =if k<i∨cs.length<=k+i then cs.getD (cs.length - 1 - k) czero else cs.getD k czero:=by simp [swp]
theorem zkr (cs:List CC):swp cs 0=cs:=by
 apply List.ext_getElem (Xx cs 0)
 intro k h1 h2
 rw [Q2,if_neg (by omega),List.getD_eq_getElem?_getD,List.getElem?_eq_getElem h2];rfl
theorem zog (cs:List CC) (i:Nat) (h:cs.length<=i+i+1):swp cs i=cs.reverse:=by
 apply List.ext_getElem (by rw [Xx,List.length_reverse])
 intro k h1 h2
 rw [Q2,List.getElem_reverse]
 rw [Xx] at h1
 have e:∀j (hj:j<cs.length),cs.getD j czero=cs[j] :=fun j hj=>by rw [List.getD_eq_getElem?_getD,List.getElem?_eq_getElem hj];rfl
 split
 .exact e _ (by omega)
 .rw [e k h1]
  congr 1
  omega
theorem zdg (cs:List CC) (i:Nat) {k:Nat} (hk:k<cs.length):(swp cs i).getD k czero=if k<i∨cs.length<=k+i then cs.getD (cs.length - 1 - k) czero else cs.getD k czero:=by
 rw [List.getD_eq_getElem?_getD,List.getElem?_eq_getElem (by rw [Xx];exact hk),Option.getD_some,Q2]
theorem zg1 (cs:List CC) (i j:Nat) (h:i+i+1<cs.length) (hj:i+j+1=cs.length):((swp cs i).set i ((swp cs i).getD j czero)).set j ((swp cs i).getD i czero)=swp cs (i+1):=by
 rw [zdg cs i (by omega),zdg cs i (by omega),if_neg (by omega),if_neg (by omega)]
 apply List.ext_getElem (by simp [Xx])
 intro k h1 h2
 simp only [List.length_set,Xx] at h1
 rw [List.getElem_set,List.getElem_set,Q2,Q2]
 by_cases a:j=k
 .rw [if_pos a,if_pos (by omega)]
  congr 1;omega
 .rw [if_neg a]
  by_cases b:i=k
  .rw [if_pos b,if_pos (by omega)]
   congr 1;omega
  .rw [if_neg b]
   by_cases c:k<i∨cs.length<=k+i
   .rw [if_pos c,if_pos (by omega)]
   .rw [if_neg c,if_neg (by omega)]
structure RvI (w W:World) (base g n cap:Nat) (cs:List CC) (i:Nat):Prop where
 own:W.ownsRow base 39 12 (.slice (some ⟨g,0,none⟩) n cap) n ((swp cs i).flatMap ccells)
 gr:w.grownBy W (some g)
theorem RvI.step {w W:World} {base g n cap:Nat} {cs:List CC} {i:Nat} (h:RvI w W base g n cap cs i) (hn:cs.length=n) (hi:i+i+1<n) {j:Nat} (hj:i+j+1=n) {ci cj:CC} (hci:(swp cs i).getD i czero=ci) (hcj:(swp cs i).getD j czero=cj):
 RvI w (setCo (setCo W g (i*12) cj) g (j*12) ci) base g n cap cs (i+1):=by
 have hl:=Xx cs i
 have hs:=zg1 cs i j (by omega) (by omega)
 have h1:=zcl (zcl h.own (k:=i) (by omega) cj) (k:=j) (by rw [List.length_set];omega) ci
 refine ⟨?_,(h.gr.trans (zcp W g (i*12) cj).grown).trans (zcp _ g (j*12) ci).grown⟩
 rw [<-hs,hci,hcj]
 exact h1
def goOn (xs:List Cm) (q:List Cm×Int):List Cm×Int:=if q.2=0 then (xs++q.1,0) else ([],q.2)
def OpOk:V->List Cm->Prop
 |_, [] =>True
 |v,c::r=>v.weight<=100000000/\v.sound=true/\c.v.weight<=4611686018427387904/\c.s.size<=1000000000000/\((doP v c).2=0->OpOk (doP v c).1 r)
structure LH (w wr:World) (v0:V) (op:List Cm) (j:Nat) (x:V) (cx:VC) (u:Value) (xs:List Cm) (cs:List CC):Prop where
 rd:goOn xs (turnsP x (op.drop j))=turnsP v0 op
 ok:OpOk x (op.drop j)
 cen:cs.length=xs.length
 few:xs.length=j
 box:BC wr w.heap.size (vcells cx)
 obox:BC wr (w.heap.size+1) [u]
 val:IsVal (only (fun k=>k≠w.heap.size/\k≠w.heap.size+1/\some k≠u.ownBlock) wr) wr.heap.size x cx
 row:RowC wr (w.heap.size+2) u xs cs
 below:Below w.heap.size w wr
structure LM (w wr W:World) (y:V) (cm:Cm) (cy:VC) (cc:CC) (u:Value) (xs:List Cm) (cs:List CC):Prop where
 box:BC W w.heap.size (vcells cy)
 obox:BC W (w.heap.size+1) [u]
 val:IsVal (only (fun k=>wr.heap.size<=k) W) W.heap.size y cy
 cmp:IsComp (only (fun k=>wr.heap.size<=k) W) W.heap.size cm cc
 row:RowC W (w.heap.size+2) u xs cs
 below:Below w.heap.size w W
theorem LH.mid {w wr W5 W6:World} {v0:V} {op:List Cm} {j:Nat} {x y:V} {cx cy:VC} {u:Value} {xs:List Cm} {cs:List CC} {cm:Cm} {cc:CC} (h:LH w wr v0 op j x cx u xs cs) (hb:uB wr W5) (hc:IsComp (only (fun k=>wr.heap.size<=k) W5) W5.heap.size cm cc) (hb6:uB W5 W6) (hy:IsVal (only (fun k=>W5.heap.size<=k) W6) W6.heap.size y cy):
 LM w wr (setV W6 w.heap.size 0 cy) y cm cy cc u xs cs:=by
 have st:=Zi W6 w.heap.size 0 cy
 have hlo:=h.box.lt;have hl1:=h.obox.lt
 have hz1:=hb.size;have hz2:=hb6.size;have hz3:=st.size
 have hbA:uB wr W6:=hb.trans (hb6.mono hz1)
 exact ⟨Z5 (h.box.keep hbA hlo) cy,(h.obox.keep hbA hl1).next st (by omega),Z2 hy rfl st.size fun k hk hl=>⟨by omega,st.block k hl (by omega)⟩,Xr hc rfl (Nat.le_trans hz2 st.size) fun k hk hl=>⟨hk,(st.block k (by omega) (by omega)).trans (hb6.block k hl)⟩,(h.row.later (PC.closed _ _) (.of_below w.heap.size hbA) (by omega)).later (PC.closed _ _) st (by omega),Below.set5' (h.below.trans (hbA.mono (by omega))) (Nat.le_refl _) _ _ _ _ _⟩
theorem LH.round {w wr w5 w7:World} {v0:V} {op:List Cm} {j:Nat} {x y:V} {cx cy:VC} {a:Option Addr} {m c:Nat} {xs:List Cm} {cs:List CC} {cm:Cm} {cc:CC} {g cap:Nat} {t:TypeId}
 (h:LH w wr v0 op j x cx (.slice a m c) xs cs) (hm:LM w wr w5 y cm cy cc (.slice a m c) xs cs) (hz:wr.heap.size<=w5.heap.size) (hrd:goOn (xs++ [cm]) (turnsP y (op.drop (j+1)))=turnsP v0 op) (hok:OpOk y (op.drop (j+1)))
 (hown:w7.ownsRow (w.heap.size+2) 39 12 (.slice (some ⟨g,0,none⟩) (xs.length+1) cap) (xs.length+1) (cs.flatMap ccells++ccells cc)) (hg:(w5.alloc (.cells #[.int .u8 cc.k, .slice cc.pa cc.pl cc.pc, .string cc.key, .int .i64 cc.i, .int .i64 cc.j, .int .i64 cc.n, .int .u8 cc.v.k, .int .i64 cc.v.n, .string cc.v.s, .slice cc.v.la cc.v.ll cc.v.lc, .slice cc.v.oa cc.v.ol cc.v.oc, .string cc.s] t)).grownBy w7 (Value.slice a m c).ownBlock)
 (hat:(Value.slice a m c).ownBlock=some g∨g=w5.heap.size+1):
 LH w (w7.setCell ⟨w.heap.size+1,0,none⟩ (.slice (some ⟨g,0,none⟩) (xs.length+1) cap)) v0 op (j+1) y cy (.slice (some ⟨g,0,none⟩) (xs.length+1) cap) (xs++ [cm]) (cs++ [cc]):=by
 have hrlt:∀b,(Value.slice a m c).ownBlock=some b->w.heap.size+2<=b/\b<wr.heap.size:=h.row.lt
 have hba:uB w5 (w5.alloc (.cells (uC cc) t)):=(Below.refl _ _).alloc (Nat.le_refl _) _
 have hlt:=h.box.lt;have hl1:=h.obox.lt
 have hgb:Below (w.heap.size+2) (w5.alloc (.cells (uC cc) t)) w7:=Zj hg (fun b hb=>(hrlt b hb).1) (by rw [World.size_alloc];omega)
 have hb57:Below (w.heap.size+2) w5 w7:=(hba.mono (by omega)).trans hgb
 have st8:RStep w7 (w7.setCell ⟨w.heap.size+1,0,none⟩ (.slice (some ⟨g,0,none⟩) (xs.length+1) cap)) (w.heap.size+1):=RStep.self
 obtain ⟨s1,s2⟩:=PC.snoc (l:=xs) (cs:=cs) h.cen cm cc
 have hnew:PC (xs++ [cm]) (cs++ [cc]) (only (Free (w.heap.size+2) (.slice a m c)) w5) w5.heap.size xs.length:=s1 _ _ (hm.cmp.sub (Zd fun b hb _=>⟨⟨by omega,fun e=>by have:=(hrlt b e.symm).2;omega⟩,rfl⟩))
 have hpush:=Row.push (PC.closed (xs++ [cm]) (cs++ [cc])) hm.row hba hg (u':= .slice (some ⟨g,0,none⟩) (xs.length+1) cap) (news:=ccells cc) hown (by
  rcases hat with e|e
  .left;rw [e];rfl
  .right;intro b hb;have:g=b:=by simpa [Value.ownBlock] using hb
   omega) hnew s2
 refine ⟨hrd,hok,by simp [h.cen],by rw [List.length_append,List.length_singleton];have:=h.few;omega,(hm.box.keep hb57 (by omega)).next st8 (by omega),(hm.obox.keep hb57 (by omega)).set (i:=0) (by simp), ?_, ?_,hm.below.trans (hb57.mono (by omega))|>.trans (st8.lowC (by omega) (by have:=hb57.size;omega))⟩
 .refine Z2 hm.val rfl (Nat.le_trans hb57.size st8.size) fun k hk hl=>⟨⟨by omega,by omega,fun e=> ?_⟩, ?_⟩
  .have e2:k=g:=by simpa [Value.ownBlock] using e
   rcases hat with e3|e3
   .have:=(hrlt g e3).2;omega
   .omega
  .refine (st8.block k (by have:=hb57.size;omega) (by omega)).trans ((hg.block k (by simp;omega) fun e=> ?_).trans (hba.block k hl))
   have:=(hrlt k e.symm).2;omega
 .refine Row.later (PC.closed _ _) (?_:RowC w7 (w.heap.size+2) _ (xs++ [cm]) (cs++ [cc])) st8 (by omega)
  show Row _ _ _ _ _ _ _ _
  rw [Y4,List.length_append,List.length_singleton]
  exact hpush
def kOb:V:= .mk 5 0 .empty [] []
def kd1:Cm:=⟨2, [],kA,0,0,0,kvI 2, .empty⟩
def kd2:Cm:=⟨2, [],kA,0,0,0,kvI 1, .empty⟩
def kd3:Cm:=⟨3, [],kA,0,0,0,V.none, .empty⟩
theorem K7 (n:Int):cmSound ⟨2, [],kA,0,0,0,kvI n, .empty⟩=true:=Xu rfl rfl rfl zas rfl (Int.le_refl 0) (Int.le_refl 0) (fun e=>absurd (show (2:Int)=8 from e) (by decide)) (fun e=>absurd (show (2:Int)=9 from e) (by decide)) (zem n) (by simp [kvI,V.deep,deepL,deepO]) (by simp [kvI,V.weight,weightL,weightO])
theorem zps:cmSound kd3=true:=Xu rfl rfl rfl zas rfl (by decide) (by decide) (fun e=>absurd e (by decide)) (fun e=>absurd e (by decide)) K3 (by have:=zeu;simp [kd3];omega) (by have:=Jd;simp [kd3];omega)
theorem zqi:kOb.weight=1:=by simp [kOb,V.weight,weightL,weightO]
theorem kt1:turnedP kvV kd1=(kd2,0):=by
 have hc:checkP kvV kd1=0:=Xe (K7 2) (by rfl) (by simp [kindsP,kd1,kvV,V.kd])
 have ht:turnP kvV kd1=kd2:=by
  show (if fieldIs [(kA,kvI 1)] kA=true then _ else _)=_
  rw [if_pos zde.2]
  show (⟨2, [],kA,0,0,0,([(kA,kvI 1)].getD (fieldK [(kA,kvI 1)] kA) (.empty,V.none)).2, .empty⟩:Cm)=_
  rw [zde.1];rfl
 unfold turnedP
 rw [if_pos hc,show getP kvV kd1.path=some kvV from rfl,Option.getD_some,ht,if_pos (show cmSound kd2=true from K7 1)]
theorem kt2:turnedP kOb kd1=(kd3,0):=by
 have hc:checkP kOb kd1=0:=Xe (K7 2) (by rfl) (by simp [kindsP,kd1,kOb,V.kd])
 have ht:turnP kOb kd1=kd3:=by
  have h:fieldIs kOb.os kA=false:=rfl
  show (if fieldIs kOb.os kA=true then (⟨2, [],kA,0,0,0,(kOb.os.getD (fieldK kOb.os kA) (.empty,V.none)).2, .empty⟩:Cm) else ⟨3, [],kA,0,0,0,V.none, .empty⟩)=_
  rw [if_neg (by rw [h];decide)];rfl
 unfold turnedP
 rw [if_pos hc,show getP kOb kd1.path=some kOb from rfl,Option.getD_some,ht,if_pos zps]
theorem ka1:allP kvV [kd1] =([kd2],0):=by
 unfold allP
 rw [if_neg (by simp),turnsP,kt1,if_pos rfl,turnsP,if_pos rfl];rfl
theorem kok1:OpOk kvV [kd1] :=⟨by rw [zcj];omega,zky,by simp [kd1,kvI,V.weight,weightL,weightO],by decide,fun _=>trivial⟩
theorem Xv {n:Int} (h: -9223372036854775808<=n/\n<=9223372036854775807):wrap64 n=n:=by unfold wrap64;omega
theorem zjs {W:World} {base:Nat} {e:TypeId} {g n cap:Nat} {xs:List Value} (h:W.ownsRow base e 12 (.slice (some ⟨g,0,none⟩) n cap) n xs):g<W.heap.size/\∀q,W.frozen? ⟨g,q,none⟩=false:=by
 rcases h.2 with ⟨h0,_⟩|⟨g',cap',cur,he,_,hg,_⟩
 .cases h0
 .injection he with e1 e2 e3
  injection e1 with e1
  injection e1 with e1
  subst e1
  exact ⟨(Array.getElem?_eq_some_iff.1 hg).1,fun q=>by simp [World.frozen?,hg]⟩
theorem zfg {W:World} {base:Nat} {e:TypeId} {g n cap:Nat} {cs:List CC} (h:W.ownsRow base e 12 (.slice (some ⟨g,0,none⟩) n cap) n (cs.flatMap ccells)) {i:Nat} (hi:i<cs.length) {c:CC} (hc:cs.getD i czero=c):∀j v,(ccells c)[j]? =some v->W.cell? ⟨g,i*12+j,none⟩=some v:=by
 rw [List.getD_eq_getElem?_getD,List.getElem?_eq_getElem hi,Option.getD_some] at hc
 rw [<-hc];exact zkx h hi
theorem RvI.drew {w W:World} {base g n cap:Nat} {cs:List CC} {i:Nat} (h:RvI w W base g n cap cs i):RvI w W.drew base g n cap cs i:=by
 have b:=Zf W
 refine ⟨?_,h.gr.trans ⟨b.os,b.tape,b.output,b.size,fun k hk _=>b.block k hk⟩⟩
 have e:W.drew.heap=W.heap:=rfl
 have:=h.own
 unfold World.ownsRow at this ⊢
 simp only [e]
 exact this
set_option maxRecDepth 100000 in
theorem zka (w:World) (base:Nat) (u:Value) (n:Nat) (cs:List CC) (hn:cs.length=n) (h:w.ownsRow base 39 12 u n (cs.flatMap ccells)):
 uP 60 #[u] w fun e w'=>e= .returned (.tuple #[])/\w'.ownsRow base 39 12 u n (cs.reverse.flatMap ccells)/\w.grownBy w' u.ownBlock:=by
 delta uP
 rcases h.2 with ⟨rfl,rfl⟩|⟨g,cap,cur,rfl,hbg,hg,hnc,hcm,hcs,htk⟩
 .have h0:cs= [] :=List.length_eq_zero_iff.1 hn
  subst h0
  have HO:=qh h
  clear h
  go_enter Tryz.func60,Tryz.ntmps60
  go_wp2_with fail
  go_loopw [2,3] (fun iv jv wr=>iv= .int .i64 0/\jv= .int .i64 (-1)/\wr=w) (fun _ _ _=>0)
  case atStart=>exact ⟨rfl,rfl,rfl⟩
  case round=>
   obtain ⟨rfl,rfl,rfl⟩:=hrel
   go_wp2_with fail
   exact ⟨rfl,_,by simp [results,Tryz.results60,go_sem],rfl,HO.out,World.grownBy.refl _ _⟩
 .have hmx:n<=9223372036854775807:=by unfold maxLen at hcm;omega
  have HI:Hid (RvI w w base g n cap cs 0):=qh ⟨by rw [zkr];exact h,World.grownBy.refl _ _⟩
  have HN:=qh hn
  clear h hg hcs htk hn
  go_enter Tryz.func60,Tryz.ntmps60
  go_wp2_with fail
  go_loopw [2,3] (fun iv jv wr=>∃i:Nat,iv= .int .i64 (i:Int)/\jv= .int .i64 ((n:Int) - 1 - i)/\i<=n/\Hid (RvI w wr base g n cap cs i)) (fun iv _ _=>(match iv with| .int _ i=>n - i.toNat|_=>0))
  case atStart=>exact ⟨0,rfl,by simp,by omega,HI⟩
  case round=>
   obtain ⟨i,rfl,rfl,hin,HR⟩:=hrel
   by_cases hij:i+i+1<n
   .obtain ⟨J,hJ⟩:∃J,i+J+1=n:=⟨n - 1 - i,by omega⟩
    have hJ2:(n:Int) - 1 - i=(J:Int):=by omega
    rw [hJ2]
    have hl:=Xx cs i
    have hnn:=HN.out
    obtain ⟨ci,hci⟩:∃c,(swp cs i).getD i czero=c:=⟨_,rfl⟩
    obtain ⟨cj,hcj⟩:∃c,(swp cs i).getD J czero=c:=⟨_,rfl⟩
    have ai:=zfg HR.out.own (by omega) hci
    have aj:=zfg HR.out.own (by omega) hcj
    obtain ⟨hgz,hfr⟩:=zjs HR.out.own
    have HST:=qh (HR.out.step HN.out hij hJ hci hcj).drew
    obtain ⟨x0,x1,x2,x3,x4,x5,x6,x7,x8,x9,x10,x11⟩:=row12 ai
    obtain ⟨y0,y1,y2,y3,y4,y5,y6,y7,y8,y9,y10,y11⟩:=row12 aj
    rw [Nat.add_zero] at x0 y0
    have hlt:(i:Int)<(J:Int):=by omega
    have hi0:¬((i:Int)<0):=by omega
    have hj0:¬((J:Int)<0):=by omega
    have hin2:(i:Int)<(n:Int):=by omega
    have hjn:(J:Int)<(n:Int):=by omega
    have HIJ:=qh (show i+i+1<n/\i+J+1=n from ⟨hij,hJ⟩)
    clear ai aj hci hcj hl hnn hij hJ hJ2 hin HR
    go_upto_region 3 with fail
    go_region
    have hst:=HST.out
    unfold setCo at hst
    refine Zt (P:=fun W=>RvI w W base g n cap cs (i+1)) hst ?_
    clear x0 x1 x2 x3 x4 x5 x6 x7 x8 x9 x10 x11 y0 y1 y2 y3 y4 y5 y6 y7 y8 y9 y10 y11 hgz hfr HST hst hlt hi0 hj0 hin2 hjn
    intro W hW
    have HW:=qh hW
    have HW1:Hid (wrap64 ((i:Int)+1)=((i+1:Nat):Int)):=qh (by rw [Xv (by have:=HIJ.out;omega)];omega)
    have HW2:Hid (wrap64 ((J:Int) - 1)=(n:Int) - 1 - ((i+1:Nat):Int)):=qh (by rw [Xv (by have:=HIJ.out;omega)];have:=HIJ.out;omega)
    clear hW
    go_wp2_with fail
    go_roundw
    case rel=>exact ⟨i+1,by rw [HW1.out],by rw [HW2.out],by have:=HIJ.out;omega,HW⟩
    case measure=>
     have h:=HIJ.out
     have hw:=HW1.out
     clear HW1 HW2
     simp only [hw,Int.toNat_natCast]
     clear hw
     omega
   .have hlt:¬((i:Int)<(n:Int) - 1 - i):=by omega
    have HD:Hid (wr.ownsRow base 39 12 (.slice (some ⟨g,0,none⟩) n cap) n (cs.reverse.flatMap ccells)):=qh (by rw [<-zog cs i (by have:=HN.out;omega)];exact HR.out.own)
    have HG:=qh HR.out.gr
    clear hij hin HR
    go_wp2_with fail
    exact ⟨rfl,_,by simp [results,Tryz.results60,go_sem],rfl,HD.out,HG.out⟩
set_option maxRecDepth 100000 in
theorem zqg (w:World) (b base:Nat) (a:Option Addr) (m c:Nat) (cs:List CC) (hn:cs.length=m) (hb:BC w b [.slice a m c]) (h:w.ownsRow base 39 12 (.slice a m c) m (cs.flatMap ccells)):
 CallsD Tryz.prog 59 #[.pointer (some ⟨b,0,none⟩)] .returning w fun e u' w'=>u'= .returning/\e= .returned (.tuple #[])/\w'.ownsRow base 39 12 (.slice a m c) m (cs.reverse.flatMap ccells)/\w.grownBy w' (Value.slice a m c).ownBlock:=by
 have c0:=hb.at_ 0 _ rfl
 have HR:=qh (zka w base (.slice a m c) m cs hn h)
 clear h hb
 go_enter_d Tryz.func59,Tryz.ntmps59
 go_wp2_with fail
 refine HR.out.mono ?_
 rintro e w' ⟨rfl,ho,hg⟩
 go_wp2_with fail
 exact ⟨rfl,_,by simp [results,Tryz.results59,go_sem],rfl,ho,hg⟩
theorem RowC.rev {w w':World} {base:Nat} {u:Value} {xs:List Cm} {cs:List CC} (h:RowC w base u xs cs) (hl:cs.length=xs.length) (ho:w'.ownsRow base 39 12 u xs.length (cs.reverse.flatMap ccells)) (hg:w.grownBy w' u.ownBlock):RowC w' base u xs.reverse cs.reverse:=by
 refine ⟨by rw [List.length_reverse];exact ho,fun i hi=> ?_⟩
 rw [List.length_reverse] at hi
 intro hi2
 have h0:=h.els (xs.length - 1 - i) (by omega) (by omega)
 rw [List.getElem_reverse]
 have e:cs.reverse.getD i czero=cs.getD (xs.length - 1 - i) czero:=by
  rw [List.getD_eq_getElem?_getD,List.getD_eq_getElem?_getD,List.getElem?_reverse (by omega),hl]
 rw [e]
 exact (h0.sub (Zd fun k hk hlt=>⟨hk,hg.block k hlt (fun e=>hk.2 e)⟩)).more hg.size
set_option maxRecDepth 100000 in
theorem zil (w:World) (a:Option Addr) (n c:Nat) (cs:List Value) (h0:a=none->n=0) (hp:∀ad,a=some ad->∀j u,cs[j]? =some u->w.cell? (ad.add j)=some u) (hl:cs.length=n*3) (h1:∀u ∈ cs,u.oneCell'=true) (hbig:n*32<=140737488355328):
 uP 133 #[.slice a n c] w fun e w'=>(∃v',e= .returned v'/\w'.ownsRow w.heap.size 77 3 v' n cs)/\uB w w':=by
 delta uB uP
 obtain ⟨i0,hi0,hz0,hz1,hz2⟩:=info_parts zaa
 have hq:∀(w:World) (a:Option Addr) (n c n' c':Nat),(binOp .eql 27 (.slice a n c) (.slice none n' c')).run Tryz.prog w= .ok (.bool a.isNone) w:=fun w a n c n' c'=>Lib.run_eql_slice_nil w _ _ a n c n' c' Tryz.underlying27
 cases a with
 | none=>
   obtain rfl:=h0 rfl
   obtain rfl:cs= [] :=List.length_eq_zero_iff.1 (by omega)
   clear hp hl h1 hbig h0
   go_enter Tryz.func133,Tryz.ntmps133
   go_wp2_with fail
   go_ret
   exact ⟨⟨_,rfl,⟨rfl, .inl ⟨rfl,rfl⟩⟩⟩,Below.refl _ _⟩
 | some ad=>
   have HP:=qh hp
   have HL:=qh hl
   have H1:=qh h1
   clear hp hl h1 h0
   go_enter Tryz.func133,Tryz.ntmps133
   go_wp2_with (at_builtin;refine Z1 _ rfl (.tmp 5) (.tmp 6) 27 (by rfl) w.heap.size 77 i0 _ 3 32 Tryz.underlying27 hi0 hz0 hz1 hz2 rfl (by omega) _ 0 [] (by rfl) (World.ownsRow_made w #[] 0 (Nat.le_refl _) (Nat.zero_le _) rfl) (some ad) n c cs (by rfl) ⟨(fun h=>by cases h),fun ad h j u hj=>Lib.cell?_alloc_some _ (HP.out ad h j u hj)⟩ HL.out H1.out (by unfold maxLen;omega) (by omega) (by simp) ?_;intro v' w1 hown hgrow)
   go_ret
   exact ⟨⟨v',rfl,by simpa using hown⟩,((Below.refl _ w).alloc (Nat.le_refl _) _).grown hgrow (by simp) (by intro k hk;simp [Value.ownBlock] at hk;omega)⟩
theorem IsSteps.clone {w:World} {p:List St} {a:Option Addr} {n c:Nat} (h:IsSteps w w.heap.size p a n c):∀W,uB w W->uP 133 #[.slice a n c] W fun e w'=>(∃a' m' c',e= .returned (.slice a' m' c')/\IsSteps (only (fun k=>W.heap.size<=k) w') w'.heap.size p a' m' c')/\uB W w':=by
 delta uB uP
 intro W hW
 obtain ⟨h1,h2,h3,h4,b,o,h5,h6⟩:=h
 have hfl:(p.flatMap scells).length=n*3:=by rw [Zn scells 3 (fun _=>rfl),h1]
 refine (zil W a n c (p.flatMap scells) (fun e=> ?_) (fun ad e j u hj=> ?_) hfl (fun u hu=> ?_) (by omega)).mono ?_
 .by_cases h0:0<n
  .rw [e] at h5;cases (h5 h0).1
  .omega
 .have hj2:=(List.getElem?_eq_some_iff.1 hj).1
  have hn:0<n:=by omega
  obtain ⟨ha,hb⟩:=h5 hn
  rw [e] at ha;injection ha with ha;subst ha
  have hi:j / 3<p.length:=by omega
  have hd:j=j / 3*3+j % 3:=by omega
  have hm:j % 3<3:=by omega
  rw [hd,Yv scells 3 (fun _=>rfl) _ (j / 3) (j % 3) hi hm] at hj
  obtain ⟨g1,g2⟩:=h6 (j / 3) hi
  rw [Addr.add_lit,hd, <-Nat.add_assoc]
  refine Za hW ?_ hb
  obtain ⟨m,hmm⟩:∃m,j % 3=m:=⟨_,rfl⟩
  rw [hmm] at hj hm ⊢
  match m,hm with
  |0,_=>rw [<-hj];exact g1.c0
  |1,_=>rw [<-hj];exact g1.c1
  |2,_=>rw [<-hj];exact g1.c2
 .obtain ⟨v,_,hv⟩:=List.mem_flatMap.1 hu
  simp only [scells,List.mem_cons,List.mem_nil_iff,or_false] at hv
  rcases hv with rfl|rfl|rfl<;>rfl
 .rintro e w' ⟨⟨v',rfl,ho⟩,hb'⟩
  obtain ⟨a',m',c',rfl,hS⟩:=zba (S:=fun k=>W.heap.size<=k) (by rw [h1] at ho;exact ho) (fun k hk=>hk) (fun s hs=>by
   obtain ⟨i,hi,rfl⟩:=List.getElem_of_mem hs
   exact (h6 i hi).2) (by omega)
  exact ⟨⟨a',m',c',rfl,hS⟩,hb'⟩
theorem zpj {tmps:Array Value} {W:World} {b:Nat} {d:CC} (ht:tmps[2]? =some (.pointer (some ⟨b,0,none⟩))) (h:BC W b (ccells d)):
 (results Tryz.f103 tmps).run Tryz.prog W= .ok (.agg #[.int .u8 d.k, .slice d.pa d.pl d.pc, .string d.key, .int .i64 d.i, .int .i64 d.j, .int .i64 d.n, .int .u8 d.v.k, .int .i64 d.v.n, .string d.v.s, .slice d.v.la d.v.ll d.v.lc, .slice d.v.oa d.v.ol d.v.oc, .string d.s]) W:=by
 obtain ⟨r0,r1,r2,r3,r4,r5,r6,r7,r8,r9,r10,r11⟩:=row12 h.at_
 simp [results,Tryz.results103,go_sem,ht,r0,r1,r2,r3,r4,r5,r6,r7,r8,r9,r10,r11]
structure CY (w W:World) (p:List St) (xv:V) (d:CC):Prop where
 one:BC W w.heap.size (ccells d)
 two:BC W (w.heap.size+1) (ccells czero)
 st:IsSteps (only (fun k=>w.heap.size+2<=k) W) W.heap.size p d.pa d.pl d.pc
 vl:IsVal (only (fun k=>w.heap.size+2<=k) W) W.heap.size xv d.v
 below:Below w.heap.size w W
theorem zjb (W:World) (b:Nat) (a:Option Addr) (m c:Nat) (f:VC):RStep W ((((((W.setCell ⟨b,1,none⟩ (.slice a m c)).setCell ⟨b,6,none⟩ (.int .u8 f.k)).setCell ⟨b,7,none⟩ (.int .i64 f.n)).setCell ⟨b,8,none⟩ (.string f.s)).setCell ⟨b,9,none⟩ (.slice f.la f.ll f.lc)).setCell ⟨b,10,none⟩ (.slice f.oa f.ol f.oc)) b:=((((RStep.self.trans RStep.self).trans RStep.self).trans RStep.self).trans RStep.self).trans RStep.self
theorem CY.made {w W1 W:World} {p:List St} {xv:V} {cc:CC} {a:Option Addr} {m c:Nat} {f:VC} (h1:BC W w.heap.size (ccells cc)) (h2:BC W (w.heap.size+1) (ccells czero)) (hz:w.heap.size+2<=W1.heap.size) (hst:IsSteps (only (fun k=>W1.heap.size<=k) W) W.heap.size p a m c) (hvl:IsVal (only (fun k=>W1.heap.size<=k) W) W.heap.size xv f) (hb:uB w W):
 CY w ((((((W.setCell ⟨w.heap.size,1,none⟩ (.slice a m c)).setCell ⟨w.heap.size,6,none⟩ (.int .u8 f.k)).setCell ⟨w.heap.size,7,none⟩ (.int .i64 f.n)).setCell ⟨w.heap.size,8,none⟩ (.string f.s)).setCell ⟨w.heap.size,9,none⟩ (.slice f.la f.ll f.lc)).setCell ⟨w.heap.size,10,none⟩ (.slice f.oa f.ol f.oc)) p xv { cc with pa:=a,pl:=m,pc:=c,v:=f } :=by
 have st:=zjb W w.heap.size a m c f
 have hsh:Shows (only (fun k=>W1.heap.size<=k) W) (only (fun k=>w.heap.size+2<=k) _) W.heap.size:=Zd fun k hk hl=>⟨by omega,st.block k hl (by omega)⟩
 refine ⟨(((((h1.set (i:=1) (x:= .slice a m c) (by simp [ccells])).set (i:=6) (x:= .int .u8 f.k) (by simp [ccells])).set (i:=7) (x:= .int .i64 f.n) (by simp [ccells])).set (i:=8) (x:= .string f.s) (by simp [ccells])).set (i:=9) (x:= .slice f.la f.ll f.lc) (by simp [ccells])).set (i:=10) (x:= .slice f.oa f.ol f.oc) (by simp [ccells]),h2.next st (by omega),(hst.sub hsh).more st.size,(hvl.sub hsh).more st.size,hb.trans (st.lowC (Nat.le_refl _) (by have:=hb.size;omega))⟩
theorem K9 {w W:World} {S:Nat->Prop} {p:List St} {a:Option Addr} {n c:Nat} (h:IsSteps (only S w) w.heap.size p a n c) (hb:uB w W):IsSteps (only S W) W.heap.size p a n c:=(h.sub (Zd fun k hk hl=>⟨hk,hb.block k hl⟩)).more hb.size
theorem znu {w W:World} {S:Nat->Prop} {x:V} {f:VC} (h:IsVal (only S w) w.heap.size x f) (hb:uB w W):IsVal (only S W) W.heap.size x f:=(h.sub (Zd fun k hk hl=>⟨hk,hb.block k hl⟩)).more hb.size
set_option maxRecDepth 100000 in
theorem zox (w:World) (cm:Cm) (cc:CC) (hc:IsComp w w.heap.size cm cc):
 uP 103 #[.agg (uC cc)] w fun e w'=>(∃d:CC,e= .returned (.agg #[.int .u8 d.k, .slice d.pa d.pl d.pc, .string d.key, .int .i64 d.i, .int .i64 d.j, .int .i64 d.n, .int .u8 d.v.k, .int .i64 d.v.n, .string d.v.s, .slice d.v.la d.v.ll d.v.lc, .slice d.v.oa d.v.ol d.v.oc, .string d.s])/\IsComp (only (fun k=>w.heap.size<=k) w') w'.heap.size cm d)/\uB w w':=by
 delta uC uB uP
 cases hc with
 |mk cc p xv hcb hp hxv=>
 have HCL:=qh hp.clone
 have HCV:Hid (∀W,uB w W->uP 78 #[.agg (uV cc.v)] W fun e w'=>(∃f:VC,e= .returned (.agg #[.int .u8 f.k, .int .i64 f.n, .string f.s, .slice f.la f.ll f.lc, .slice f.oa f.ol f.oc])/\Whole w' W.heap.size xv f)/\uB W w'):=qh fun W hW=>Xa W xv cc.v (hxv.later_ hW)
 have hbx:∀t1 t2,BC ((w.alloc (.cells (uC cc) t1)).alloc (.cells (ccells czero).toArray t2)) w.heap.size (ccells cc)/\BC ((w.alloc (.cells (uC cc) t1)).alloc (.cells (ccells czero).toArray t2)) (w.heap.size+1) (ccells czero)/\uB w ((w.alloc (.cells (uC cc) t1)).alloc (.cells (ccells czero).toArray t2))/\((w.alloc (.cells (uC cc) t1)).alloc (.cells (ccells czero).toArray t2)).heap.size=w.heap.size+2:=fun t1 t2=>by
  obtain ⟨q1,q2,q3,q4⟩:=Qw w #[.int .u8 cc.k, .slice cc.pa cc.pl cc.pc, .string cc.key, .int .i64 cc.i, .int .i64 cc.j, .int .i64 cc.n, .int .u8 cc.v.k, .int .i64 cc.v.n, .string cc.v.s, .slice cc.v.la cc.v.ll cc.v.lc, .slice cc.v.oa cc.v.ol cc.v.oc, .string cc.s] (ccells czero).toArray t1 t2
  exact ⟨q1,by simpa using q2,q3,by simp⟩
 have HBX:=qh (hbx 39 39)
 have HCB:=qh hcb
 clear hbx hp hxv hcb
 go_enter Tryz.func103,Tryz.ntmps103
 generalize hQ0:bodyPost _ _ _=Q0
 have HQ:=qh hQ0
 clear hQ0
 go_upto_region 1 with fail
 obtain ⟨w1,hw1⟩:∃w1,(w.alloc (.cells (uC cc) 39)).alloc (.cells (ccells czero).toArray 39)=w1:=⟨_,rfl⟩
 rw [hw1] at HBX
 rw [show (w.alloc (.cells (uC cc) 39)).alloc (.cells #[.int .u8 0, .slice none 0 0, .string { data:= #[] }, .int .i64 0, .int .i64 0, .int .i64 0, .int .u8 0, .int .i64 0, .string { data:= #[] }, .slice none 0 0, .slice none 0 0, .string { data:= #[] }] 39)=w1 from hw1]
 obtain ⟨hb1,hb2,hal,hsz⟩:=HBX.out
 have HB1:=qh hb1;have HB2:=qh hb2;have HAL:=qh hal;have HSZ:=qh hsz
 have HCL1:Hid (∀W,uB w1 W->uP 133 #[.slice cc.pa cc.pl cc.pc] W fun e w'=>(∃a' m' c',e= .returned (.slice a' m' c')/\IsSteps (only (fun k=>w1.heap.size<=k) w') w'.heap.size p a' m' c')/\uB w1 w'/\uB W w'):=qh fun W hW=>(HCL.out W (HAL.out.trans (hW.mono HAL.out.size))).mono fun e w' h=>by
  obtain ⟨⟨a',m',c',rfl,hst⟩,hb⟩:=h
  exact ⟨⟨a',m',c',rfl,hst.sub (Zd fun k hk hl=>⟨Nat.le_trans hW.size hk,rfl⟩)⟩,hW.trans (hb.mono hW.size),hb⟩
 have HCV1:Hid (∀W,uB w1 W->uP 78 #[.agg (uV cc.v)] W fun e w'=>(∃f:VC,e= .returned (.agg #[.int .u8 f.k, .int .i64 f.n, .string f.s, .slice f.la f.ll f.lc, .slice f.oa f.ol f.oc])/\IsVal (only (fun k=>w1.heap.size<=k) w') w'.heap.size xv f)/\uB w1 w'/\uB W w'):=qh fun W hW=>(HCV.out W (HAL.out.trans (hW.mono HAL.out.size))).mono fun e w' h=>by
  obtain ⟨⟨f,rfl,hv⟩,hb⟩:=h
  exact ⟨⟨f,rfl,hv.sepI.isVal.sub (Zd fun k hk hl=>⟨Nat.le_trans hW.size hk,rfl⟩)⟩,hW.trans (hb.mono hW.size),hb⟩
 have q1:=hb1.at_ 1 _ rfl;have q6:=hb1.at_ 6 _ rfl;have q7:=hb1.at_ 7 _ rfl;have q8:=hb1.at_ 8 _ rfl;have q9:=hb1.at_ 9 _ rfl;have q10:=hb1.at_ 10 _ rfl;have qf1:=hb1.fr 1;have qf6:=hb1.fr 6;have qf7:=hb1.fr 7;have qf8:=hb1.fr 8;have qf9:=hb1.fr 9;have qf10:=hb1.fr 10;have qz:=hb1.lt
 have bl0:uB w1 w1.drew:=Zf w1
 have mixed:Tryz.prog.follows .mixedOrders=true:=by kernel_rfl
 clear hb1 hb2 hal hsz hw1 HBX HCL HCV
 refine wp_region_noPanic ?_
 go_region_with (first
  |(go_simp;go_at_call 133;(with_reducible refine (HCL1.out _ (by assumption)).mono ?_);rintro e wq ⟨⟨a1,m1,c1,rfl,hst⟩,hbq,hbr⟩;have D:=HB1.out.keep hbq (by have:=HSZ.out;omega);have k1:=D.at_ 1 _ rfl;have k6:=D.at_ 6 _ rfl;have k7:=D.at_ 7 _ rfl;have k8:=D.at_ 8 _ rfl;have k9:=D.at_ 9 _ rfl;have k10:=D.at_ 10 _ rfl;have kf1:=D.fr 1;have kf6:=D.fr 6;have kf7:=D.fr 7;have kf8:=D.fr 8;have kf9:=D.fr 9;have kf10:=D.fr 10;have kz:=D.lt;have HST:=qh hst;(try replace HVL:=qh (znu HVL.out hbr));clear D hst hbr)
  |(go_simp;go_at_call 78;(with_reducible refine (HCV1.out _ (by assumption)).mono ?_);rintro e wq ⟨⟨f,rfl,hvl⟩,hbq,hbr⟩;have D:=HB1.out.keep hbq (by have:=HSZ.out;omega);have k1:=D.at_ 1 _ rfl;have k6:=D.at_ 6 _ rfl;have k7:=D.at_ 7 _ rfl;have k8:=D.at_ 8 _ rfl;have k9:=D.at_ 9 _ rfl;have k10:=D.at_ 10 _ rfl;have kf1:=D.fr 1;have kf6:=D.fr 6;have kf7:=D.fr 7;have kf8:=D.fr 8;have kf9:=D.fr 9;have kf10:=D.fr 10;have kz:=D.lt;have HVL:=qh hvl;(try replace HST:=qh (K9 HST.out hbr));clear D hvl hbr))
 all_goals (
  have hW1:=HB1.out.keep (show uB w1 wq by assumption) (by have:=HSZ.out;omega)
  have hW2:=HB2.out.keep (show uB w1 wq by assumption) (by have:=HSZ.out;omega)
  have hbW:=HAL.out.trans ((show uB w1 wq by assumption).mono HAL.out.size)
  have HCY:=qh (CY.made (W1:=w1) hW1 hW2 (by have:=HSZ.out;omega) HST.out HVL.out hbW)
  refine Zt (P:=fun W=>CY w W p xv { cc with pa:=a1,pl:=m1,pc:=c1,v:=f }) HCY.out ?_
  clear hW1 hW2 hbW HCY HST HVL
  rintro W5 h5
  obtain ⟨x0,x1,x2,x3,x4,x5,x6,x7,x8,x9,x10,x11⟩:=row12 h5.one.at_
  have y0:=h5.two.at_ 0 _ rfl;have g0:=h5.two.fr 0;have y1:=h5.two.at_ 1 _ rfl;have g1:=h5.two.fr 1;have y2:=h5.two.at_ 2 _ rfl;have g2:=h5.two.fr 2;have y3:=h5.two.at_ 3 _ rfl;have g3:=h5.two.fr 3;have y4:=h5.two.at_ 4 _ rfl;have g4:=h5.two.fr 4;have y5:=h5.two.at_ 5 _ rfl;have g5:=h5.two.fr 5;have y6:=h5.two.at_ 6 _ rfl;have g6:=h5.two.fr 6;have y7:=h5.two.at_ 7 _ rfl;have g7:=h5.two.fr 7;have y8:=h5.two.at_ 8 _ rfl;have g8:=h5.two.fr 8;have y9:=h5.two.at_ 9 _ rfl;have g9:=h5.two.fr 9;have y10:=h5.two.at_ 10 _ rfl;have g10:=h5.two.fr 10;have y11:=h5.two.at_ 11 _ rfl;have g11:=h5.two.fr 11
  have zx:=h5.one.lt;have zy:=h5.two.lt
  have H5:=qh h5
  clear h5
  go_wp2_with fail
  rw [<-HQ.out]
  have hq:=HCB.out
  have st:=Yk W5 (w.heap.size+1) { cc with pa:=a1,pl:=m1,pc:=c1,v:=f }
  refine ⟨rfl,_,zpj rfl (Zp (c0:=czero) H5.out.two { cc with pa:=a1,pl:=m1,pc:=c1,v:=f }),⟨{ cc with pa:=a1,pl:=m1,pc:=c1,v:=f },rfl, ?_⟩,Below.setC H5.out.below (by omega) { cc with pa:=a1,pl:=m1,pc:=c1,v:=f }⟩
  refine .mk { cc with pa:=a1,pl:=m1,pc:=c1,v:=f } p _ ⟨hq.k0,hq.k1,hq.i0,hq.i1,hq.j0,hq.j1,hq.n0,hq.n1,hq.key1,hq.s1⟩ ?_ ?_
  .exact (H5.out.st.sub (Zd (S':=fun k=>w.heap.size<=k) fun k hk hl=>⟨by omega,st.block k hl (by omega)⟩)).more st.size
  .exact (H5.out.vl.sub (Zd (S':=fun k=>w.heap.size<=k) fun k hk hl=>⟨by omega,st.block k hl (by omega)⟩)).more st.size)
theorem Kz (w:World) (a0 a1 a2 a3:Array Value) (t0 t1 t2 t3:TypeId):BC ((((w.alloc (.cells a0 t0)).alloc (.cells a1 t1)).alloc (.cells a2 t2)).alloc (.cells a3 t3)) w.heap.size a0.toList/\BC ((((w.alloc (.cells a0 t0)).alloc (.cells a1 t1)).alloc (.cells a2 t2)).alloc (.cells a3 t3)) (w.heap.size+1) a1.toList/\BC ((((w.alloc (.cells a0 t0)).alloc (.cells a1 t1)).alloc (.cells a2 t2)).alloc (.cells a3 t3)) (w.heap.size+2) a2.toList/\BC ((((w.alloc (.cells a0 t0)).alloc (.cells a1 t1)).alloc (.cells a2 t2)).alloc (.cells a3 t3)) (w.heap.size+3) a3.toList/\uB w ((((w.alloc (.cells a0 t0)).alloc (.cells a1 t1)).alloc (.cells a2 t2)).alloc (.cells a3 t3)):=by
 delta uB
 obtain ⟨w1,h1⟩:∃w1,w.alloc (.cells a0 t0)=w1:=⟨_,rfl⟩
 have s1:w1.heap.size=w.heap.size+1:=by rw [<-h1];simp
 have c1:BC w1 w.heap.size a0.toList:=by rw [<-h1];exact BC.start w a0 t0
 have l1:uB w w1:=by rw [<-h1];exact Zo w _
 rw [h1]
 obtain ⟨w2,h2⟩:∃w2,w1.alloc (.cells a1 t1)=w2:=⟨_,rfl⟩
 have s2:w2.heap.size=w.heap.size+2:=by rw [<-h2];simp [s1]
 have c2:BC w2 (w.heap.size+1) a1.toList:=by rw [<-h2, <-s1];exact BC.start w1 a1 t1
 have l2:uB w1 w2:=by rw [<-h2];exact Zo w1 _
 rw [h2]
 obtain ⟨w3,h3⟩:∃w3,w2.alloc (.cells a2 t2)=w3:=⟨_,rfl⟩
 have s3:w3.heap.size=w.heap.size+3:=by rw [<-h3];simp [s2]
 have c3:BC w3 (w.heap.size+2) a2.toList:=by rw [<-h3, <-s2];exact BC.start w2 a2 t2
 have l3:uB w2 w3:=by rw [<-h3];exact Zo w2 _
 rw [h3]
 obtain ⟨w4,h4⟩:∃w4,w3.alloc (.cells a3 t3)=w4:=⟨_,rfl⟩
 have c4:BC w4 (w.heap.size+3) a3.toList:=by rw [<-h4, <-s3];exact BC.start w3 a3 t3
 have l4:uB w3 w4:=by rw [<-h4];exact Zo w3 _
 rw [h4]
 have l34:=l3.trans (l4.mono l3.size)
 have l24:=l2.trans (l34.mono l2.size)
 exact ⟨c1.keep l24 (by omega),c2.keep l34 (by omega),c3.keep l4 (by omega),c4,l1.trans (l24.mono l1.size)⟩
structure IB (w W:World) (xc:VC) (cc dc:CC):Prop where
 x:BC W w.heap.size (vcells xc)
 c:BC W (w.heap.size+1) (ccells cc)
 d:BC W (w.heap.size+1+1) (ccells dc)
 r:BC W (w.heap.size+1+1+1) (ccells czero)
 below:Below w.heap.size w W
theorem IB.keep {w W W':World} {xc:VC} {cc dc:CC} (h:IB w W xc cc dc) (hb:uB W W'):IB w W' xc cc dc:=⟨h.x.keep hb h.x.lt,h.c.keep hb h.c.lt,h.d.keep hb h.d.lt,h.r.keep hb h.r.lt,h.below.trans (hb.mono h.below.size)⟩
theorem IB.store {w W W':World} {xc:VC} {cc dc d2:CC} (h:IB w W xc cc dc) (st:RStep W W' (w.heap.size+1+1)) (hd:BC W' (w.heap.size+1+1) (ccells d2)):IB w W' xc cc d2:=
 ⟨h.x.next st (by omega),h.c.next st (by omega),hd,h.r.next st (by omega),h.below.trans (st.lowC (by omega) (by have:=h.below.size;omega))⟩
theorem zed {tmps:Array Value} {W:World} {b:Nat} {d:CC} (ht:tmps[6]? =some (.pointer (some ⟨b,0,none⟩))) (h:BC W b (ccells d)):
 (results Tryz.f100 tmps).run Tryz.prog W= .ok (.agg #[.int .u8 d.k, .slice d.pa d.pl d.pc, .string d.key, .int .i64 d.i, .int .i64 d.j, .int .i64 d.n, .int .u8 d.v.k, .int .i64 d.v.n, .string d.v.s, .slice d.v.la d.v.ll d.v.lc, .slice d.v.oa d.v.ol d.v.oc, .string d.s]) W:=by
 obtain ⟨r0,r1,r2,r3,r4,r5,r6,r7,r8,r9,r10,r11⟩:=row12 h.at_
 simp [results,Tryz.results100,go_sem,ht,r0,r1,r2,r3,r4,r5,r6,r7,r8,r9,r10,r11]
def IFPost (w:World) (B0:Nat) (x:V) (cc dc:CC) (e:Ending) (w':World):Prop:=
 (∃f:CC,e= .returned (.agg #[.int .u8 f.k, .slice f.pa f.pl f.pc, .string f.key, .int .i64 f.i, .int .i64 f.j, .int .i64 f.n, .int .u8 f.v.k, .int .i64 f.v.n, .string f.v.s, .slice f.v.la f.v.ll f.v.lc, .slice f.v.oa f.v.ol f.v.oc, .string f.s])/\((fieldIs x.os cc.key=true/\∃fv,f= { dc with k:=2,key:=cc.key,v:=fv } /\IsVal w B0 (x.os.getD (fieldK x.os cc.key) (.empty,V.none)).2 fv)∨(fieldIs x.os cc.key=false/\f= { dc with k:=3,key:=cc.key })))/\Below w.heap.size w w'
set_option maxRecDepth 100000 in
theorem zdp (w:World) (B0:Nat) (hB0:B0<=w.heap.size) (x:V) (xc:VC) (hx:IsVal w B0 x xc) (cc dc:CC):
 uP 100 #[.agg (uV xc), .agg (uC cc), .agg (uC dc)] w (IFPost w B0 x cc dc):=by
 delta uV uC uP
 obtain ⟨k',n',s',l,o,rfl⟩:=x.eta
 obtain ⟨e1,e2,e3,hbd,hvl,hvo⟩:=hx.lists
 subst e1 e2 e3
 show Calls _ _ _ _ (IFPost w B0 _ _ _)
 obtain ⟨K,hK⟩:∃K,fieldK o cc.key=K:=⟨_,rfl⟩
 obtain ⟨B,hB⟩:∃B,fieldIs o cc.key=B:=⟨_,rfl⟩
 have HVF:Hid (∀W,uB w W->uP 79 #[.agg (uV xc), .string cc.key] W fun e w'=>e= .returned (.tuple #[.int .i64 (K:Int), .bool B])/\uB W w'):=fun W hW=>by
  rw [<-hK, <-hB];exact Qj W o cc.key xc ((hvo.more hB0).later_ hW)
 have HKO:Hid (B=true->K<o.length):=qh fun hb=>by
  rw [<-hK];rw [<-hB] at hb
  unfold fieldIs at hb
  cases hg:o[fieldK o cc.key]? with
  |none=>rw [hg] at hb;cases hb
  |some q=>exact (List.getElem?_eq_some_iff.1 hg).1
 have HVO:=qh hvo
 have HK:=qh hK;have HB:=qh hB
 have HOL:=qh hvo.len
 have HBX:∀t0 t1 t2 t3,IB w ((((w.alloc (.cells (uV xc) t0)).alloc (.cells (uC cc) t1)).alloc (.cells (uC dc) t2)).alloc (.cells #[.int .u8 0, .slice none 0 0, .string { data:= #[] }, .int .i64 0, .int .i64 0, .int .i64 0, .int .u8 0, .int .i64 0, .string { data:= #[] }, .slice none 0 0, .slice none 0 0, .string { data:= #[] }] t3)) xc cc dc:=fun t0 t1 t2 t3=>by
  obtain ⟨q1,q2,q3,q4,q5⟩:=Kz w #[.int .u8 xc.k, .int .i64 xc.n, .string xc.s, .slice xc.la xc.ll xc.lc, .slice xc.oa xc.ol xc.oc] #[.int .u8 cc.k, .slice cc.pa cc.pl cc.pc, .string cc.key, .int .i64 cc.i, .int .i64 cc.j, .int .i64 cc.n, .int .u8 cc.v.k, .int .i64 cc.v.n, .string cc.v.s, .slice cc.v.la cc.v.ll cc.v.lc, .slice cc.v.oa cc.v.ol cc.v.oc, .string cc.s] #[.int .u8 dc.k, .slice dc.pa dc.pl dc.pc, .string dc.key, .int .i64 dc.i, .int .i64 dc.j, .int .i64 dc.n, .int .u8 dc.v.k, .int .i64 dc.v.n, .string dc.v.s, .slice dc.v.la dc.v.ll dc.v.lc, .slice dc.v.oa dc.v.ol dc.v.oc, .string dc.s] #[.int .u8 0, .slice none 0 0, .string { data:= #[] }, .int .i64 0, .int .i64 0, .int .i64 0, .int .u8 0, .int .i64 0, .string { data:= #[] }, .slice none 0 0, .slice none 0 0, .string { data:= #[] }] t0 t1 t2 t3
  exact ⟨q1,q2,q3,q4,q5⟩
 replace HBX:=qh (HBX 36 39 39 39)
 clear hx hvl hvo hbd hK hB
 go_enter Tryz.func100,Tryz.ntmps100
 generalize hQ0:bodyPost _ _ _=Q0
 have HQ:=qh hQ0
 clear hQ0
 go_upto_region 1 with fail
 obtain ⟨w1,hw1⟩:∃w1,(((w.alloc (.cells (uV xc) 36)).alloc (.cells (uC cc) 39)).alloc (.cells (uC dc) 39)).alloc (.cells #[.int .u8 0, .slice none 0 0, .string { data:= #[] }, .int .i64 0, .int .i64 0, .int .i64 0, .int .u8 0, .int .i64 0, .string { data:= #[] }, .slice none 0 0, .slice none 0 0, .string { data:= #[] }] 39)=w1:=⟨_,rfl⟩
 rw [hw1] at HBX ⊢
 have hib:=HBX.out
 have c2:=hib.c.at_ 2 _ rfl;have d0:=hib.d.at_ 0 _ rfl;have d2:=hib.d.at_ 2 _ rfl;have g0:=hib.d.fr 0;have g2:=hib.d.fr 2
 have zc:=hib.c.lt;have zd:=hib.d.lt
 clear hib hw1
 go_region
 obtain ⟨W1,hW1⟩:∃W1,((w1.setCell ⟨w.heap.size+1+1,0,none⟩ (.int .u8 3)).setCell ⟨w.heap.size+1+1,2,none⟩ (.string cc.key)).drew=W1:=⟨_,rfl⟩
 rw [hW1]
 have hib:IB w W1 xc cc { dc with k:=3,key:=cc.key } :=by
  rw [<-hW1]
  exact (HBX.out.store (RStep.self.trans RStep.self) ((HBX.out.d.set (i:=0) (x:= .int .u8 3) (by simp [ccells])).set (i:=2) (x:= .string cc.key) (by simp [ccells]))).keep (Zf _)
 obtain ⟨x0,x1,x2,x3,x4⟩:=row5 hib.x.at_
 have y2:=hib.c.at_ 2 _ rfl
 have zx:=hib.x.lt
 have zc:=hib.c.lt
 have HIB:=qh hib
 clear hib hW1 c2 d0 d2 g0 g2 zd HBX
 go_wp2_with fail
 refine (HVF.out _ HIB.out.below).mono ?_
 rintro e w2 ⟨rfl,hb2⟩
 have hi2:=HIB.out.keep hb2
 have HB2:=qh hi2
 have HBL:=qh hi2.below
 have e0:=hi2.d.at_ 0 _ rfl;have g0:=hi2.d.fr 0;have e1:=hi2.d.at_ 1 _ rfl;have g1:=hi2.d.fr 1;have e2:=hi2.d.at_ 2 _ rfl;have g2:=hi2.d.fr 2;have e3:=hi2.d.at_ 3 _ rfl;have g3:=hi2.d.fr 3;have e4:=hi2.d.at_ 4 _ rfl;have g4:=hi2.d.fr 4;have e5:=hi2.d.at_ 5 _ rfl;have g5:=hi2.d.fr 5;have e6:=hi2.d.at_ 6 _ rfl;have g6:=hi2.d.fr 6;have e7:=hi2.d.at_ 7 _ rfl;have g7:=hi2.d.fr 7;have e8:=hi2.d.at_ 8 _ rfl;have g8:=hi2.d.fr 8;have e9:=hi2.d.at_ 9 _ rfl;have g9:=hi2.d.fr 9;have e10:=hi2.d.at_ 10 _ rfl;have g10:=hi2.d.fr 10;have e11:=hi2.d.at_ 11 _ rfl;have g11:=hi2.d.fr 11
 have r0:=hi2.r.at_ 0 _ rfl;have h0:=hi2.r.fr 0;have r1:=hi2.r.at_ 1 _ rfl;have h1:=hi2.r.fr 1;have r2:=hi2.r.at_ 2 _ rfl;have h2:=hi2.r.fr 2;have r3:=hi2.r.at_ 3 _ rfl;have h3:=hi2.r.fr 3;have r4:=hi2.r.at_ 4 _ rfl;have h4:=hi2.r.fr 4;have r5:=hi2.r.at_ 5 _ rfl;have h5:=hi2.r.fr 5;have r6:=hi2.r.at_ 6 _ rfl;have h6:=hi2.r.fr 6;have r7:=hi2.r.at_ 7 _ rfl;have h7:=hi2.r.fr 7;have r8:=hi2.r.at_ 8 _ rfl;have h8:=hi2.r.fr 8;have r9:=hi2.r.at_ 9 _ rfl;have h9:=hi2.r.fr 9;have r10:=hi2.r.at_ 10 _ rfl;have h10:=hi2.r.fr 10;have r11:=hi2.r.at_ 11 _ rfl;have h11:=hi2.r.fr 11
 have q4:=hi2.x.at_ 4 _ rfl
 have zx:=hi2.x.lt;have zd:=hi2.d.lt;have zr:=hi2.r.lt
 clear x0 x1 x2 x3 x4 y2 zx zc hi2 hb2 HVF HIB
 cases B with
 | false=>
   go_wp2_with fail
   rw [<-HQ.out]
   exact ⟨rfl,_,zed rfl (Zp (c0:=czero) HB2.out.r { dc with k:=3,key:=cc.key }),⟨{ dc with k:=3,key:=cc.key },rfl, .inr ⟨HB.out,rfl⟩⟩,Below.setC HBL.out (by omega) { dc with k:=3,key:=cc.key }⟩
 | true=>
   obtain ⟨b,o1,f,hp,hoa,hbB,hkey,_,hvf,hif⟩:=HVO.out.get (k:=K) (by rw [HOL.out];exact HKO.out rfl)
   have hnl:(K:Int)<(xc.ol:Int):=by have:=HOL.out;have:=HKO.out rfl;omega
   have hK0:¬((K:Int)<0):=by omega
   replace hbB:=Nat.lt_of_lt_of_le hbB hB0
   replace hvf:=hvf.keep HBL.out hbB
   have hbW:=Nat.lt_of_lt_of_le hbB HBL.out.size
   have v0:=hvf.c0;have v1:=hvf.c1;have v2:=hvf.c2;have v3:=hvf.c3;have v4:=hvf.c4
   have HIF:=qh hif
   rw [hoa] at q4
   clear hvf hif hkey hoa
   go_wp2_with fail
   go_region
   have ST:RStep w2 ((((((w2.setCell ⟨w.heap.size+1+1,0,none⟩ (.int .u8 2)).setCell ⟨w.heap.size+1+1,6,none⟩ (.int .u8 f.k)).setCell ⟨w.heap.size+1+1,7,none⟩ (.int .i64 f.n)).setCell ⟨w.heap.size+1+1,8,none⟩ (.string f.s)).setCell ⟨w.heap.size+1+1,9,none⟩ (.slice f.la f.ll f.lc)).setCell ⟨w.heap.size+1+1,10,none⟩ (.slice f.oa f.ol f.oc)) (w.heap.size+1+1):=((((RStep.self.trans RStep.self).trans RStep.self).trans RStep.self).trans RStep.self).trans RStep.self
   have hib:=(HB2.out.store (d2:= { dc with k:=2,key:=cc.key,v:=f }) ST ((((((HB2.out.d.set (i:=0) (x:= .int .u8 2) (by simp [ccells])).set (i:=6) (x:= .int .u8 f.k) (by simp [ccells])).set (i:=7) (x:= .int .i64 f.n) (by simp [ccells])).set (i:=8) (x:= .string f.s) (by simp [ccells])).set (i:=9) (x:= .slice f.la f.ll f.lc) (by simp [ccells])).set (i:=10) (x:= .slice f.oa f.ol f.oc) (by simp [ccells]))).keep (Zf _)
   obtain ⟨W3,hW3⟩:∃W3,((((((w2.setCell ⟨w.heap.size+1+1,0,none⟩ (.int .u8 2)).setCell ⟨w.heap.size+1+1,6,none⟩ (.int .u8 f.k)).setCell ⟨w.heap.size+1+1,7,none⟩ (.int .i64 f.n)).setCell ⟨w.heap.size+1+1,8,none⟩ (.string f.s)).setCell ⟨w.heap.size+1+1,9,none⟩ (.slice f.la f.ll f.lc)).setCell ⟨w.heap.size+1+1,10,none⟩ (.slice f.oa f.ol f.oc)).drew=W3:=⟨_,rfl⟩
   rw [hW3] at hib ⊢
   have HB3:=qh hib
   clear e0 g0 e1 g1 e2 g2 e3 g3 e4 g4 e5 g5 e6 g6 e7 g7 e8 g8 e9 g9 e10 g10 e11 g11 r0 h0 r1 h1 r2 h2 r3 h3 r4 h4 r5 h5 r6 h6 r7 h7 r8 h8 r9 h9 r10 h10 r11 h11 q4 zx zd zr v0 v1 v2 v3 v4 ST hW3
   have e0:=hib.d.at_ 0 _ rfl;have g0:=hib.d.fr 0;have e1:=hib.d.at_ 1 _ rfl;have g1:=hib.d.fr 1;have e2:=hib.d.at_ 2 _ rfl;have g2:=hib.d.fr 2;have e3:=hib.d.at_ 3 _ rfl;have g3:=hib.d.fr 3;have e4:=hib.d.at_ 4 _ rfl;have g4:=hib.d.fr 4;have e5:=hib.d.at_ 5 _ rfl;have g5:=hib.d.fr 5;have e6:=hib.d.at_ 6 _ rfl;have g6:=hib.d.fr 6;have e7:=hib.d.at_ 7 _ rfl;have g7:=hib.d.fr 7;have e8:=hib.d.at_ 8 _ rfl;have g8:=hib.d.fr 8;have e9:=hib.d.at_ 9 _ rfl;have g9:=hib.d.fr 9;have e10:=hib.d.at_ 10 _ rfl;have g10:=hib.d.fr 10;have e11:=hib.d.at_ 11 _ rfl;have g11:=hib.d.fr 11
   have r0:=hib.r.at_ 0 _ rfl;have h0:=hib.r.fr 0;have r1:=hib.r.at_ 1 _ rfl;have h1:=hib.r.fr 1;have r2:=hib.r.at_ 2 _ rfl;have h2:=hib.r.fr 2;have r3:=hib.r.at_ 3 _ rfl;have h3:=hib.r.fr 3;have r4:=hib.r.at_ 4 _ rfl;have h4:=hib.r.fr 4;have r5:=hib.r.at_ 5 _ rfl;have h5:=hib.r.fr 5;have r6:=hib.r.at_ 6 _ rfl;have h6:=hib.r.fr 6;have r7:=hib.r.at_ 7 _ rfl;have h7:=hib.r.fr 7;have r8:=hib.r.at_ 8 _ rfl;have h8:=hib.r.fr 8;have r9:=hib.r.at_ 9 _ rfl;have h9:=hib.r.fr 9;have r10:=hib.r.at_ 10 _ rfl;have h10:=hib.r.fr 10;have r11:=hib.r.at_ 11 _ rfl;have h11:=hib.r.fr 11
   have zd:=hib.d.lt;have zr:=hib.r.lt
   clear hib
   go_wp2_with fail
   rw [<-HQ.out]
   have hbl:=Below.setC HB3.out.below (show w.heap.size<=w.heap.size+1+1+1 by omega) { dc with k:=2,key:=cc.key,v:=f }
   refine ⟨rfl,_,zed rfl (Zp (c0:=czero) HB3.out.r { dc with k:=2,key:=cc.key,v:=f }),⟨{ dc with k:=2,key:=cc.key,v:=f },rfl, .inl ⟨HB.out,f,rfl, ?_⟩⟩,hbl⟩
   have hz:=HIF.out
   have e1:((V.mk xc.k xc.n xc.s l o).os.getD (fieldK (V.mk xc.k xc.n xc.s l o).os cc.key) (.empty,V.none))=o[K] :=by
    show o.getD (fieldK o cc.key) _=_
    rw [HK.out,List.getD_eq_getElem?_getD,List.getElem?_eq_getElem hp];rfl
   rw [e1]
   exact hz
structure IT (w W:World) (xc:VC) (cc dc:CC):Prop where
 x:BC W w.heap.size (vcells xc)
 c:BC W (w.heap.size+1) (ccells cc)
 r:BC W (w.heap.size+1+1) (ccells czero)
 d:BC W (w.heap.size+1+1+1) (ccells dc)
 below:Below w.heap.size w W
theorem IT.keep {w W W':World} {xc:VC} {cc dc:CC} (h:IT w W xc cc dc) (hb:uB W W'):IT w W' xc cc dc:=⟨h.x.keep hb h.x.lt,h.c.keep hb h.c.lt,h.r.keep hb h.r.lt,h.d.keep hb h.d.lt,h.below.trans (hb.mono h.below.size)⟩
theorem IT.store {w W W':World} {xc:VC} {cc dc d2:CC} (h:IT w W xc cc dc) (st:RStep W W' (w.heap.size+1+1+1)) (hd:BC W' (w.heap.size+1+1+1) (ccells d2)):IT w W' xc cc d2:=
 ⟨h.x.next st (by omega),h.c.next st (by omega),h.r.next st (by omega),hd,h.below.trans (st.lowC (by omega) (by have:=h.below.size;omega))⟩
def ccat (k:Int) (cc:CC) (i:Int):CC:=⟨k,cc.pa,cc.pl,cc.pc, .empty,i,0,0,vzero, .empty⟩
end Go.Proofs.YtnjgbiachcfigaaGreatDoor
