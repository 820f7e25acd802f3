/-
  Contracts of the functions that the law reaches: conciliatorref04.cuts, Len. val.plain.
-/
import Derived.Test.YtbgheehjfnoiiaaGreatDoorOn5
import Derived.Test.YtbgheehjfnoiiaaGreatDoorOn17
namespace Go.Proofs.YtbgheehjfnoiiaaGreatDoor
open Go.RowKit
set_option maxHeartbeats 16000000
theorem zl6:(Tryz.prog.info? 3).map (fun i=>(i.zero,i.size,i.bytes))=some (some (.int .i64 0),1,8):=by kernel_rfl
def ints (l:List Nat):List Value:=l.map fun (n:Nat)=>Value.int .i64 (n:Int)
theorem zdk (a b:List Nat):ints (a++b)=ints a++ints b:=by simp [ints]
def IntsPost (w:World) (l:List Nat) (e:Ending) (w':World):Prop:=
 (∃g c,e= .returned (.slice (some ⟨g,0,none⟩) l.length c)/\l.length<=c/\c<=9223372036854775807/\g<w'.heap.size/\∀i (h:i<l.length),w'.cell? ⟨g,i,none⟩=some (.int .i64 (l[i] :Int)))/\Below w.heap.size w w'
theorem zgx (s:ByteArray) (i:Nat) (h:i<s.size):(Lib.decodeGo (s.extract i s.size)).2=(Lib.decodeL (s.data.toList.drop i)).2:=by
 have hd:(s.extract i s.size)=⟨(s.data.toList.drop i).toArray⟩:=by
  apply ByteArray.ext
  apply Array.ext'
  rw [ByteArray.data_extract,Array.toList_extract,List.extract_eq_take_drop]
  exact List.take_of_length_le (by rw [List.length_drop,Array.length_toList];exact Nat.le_refl _)
 have hz:(s.extract i s.size).size≠0:=by rw [ByteArray.size_extract];omega
 unfold Lib.decodeGo Lib.decodeL
 rw [if_neg hz,hd]
structure CUH (w wr:World) (s:ByteArray) (i:Nat) (l:List Nat) (u:Value):Prop where
 rest:l++cutsP (s.data.toList.drop i).length i (s.data.toList.drop i)=cutsP s.size 0 s.data.toList
 own:wr.ownsRow w.heap.size 3 1 u l.length (ints l)
 below:Below w.heap.size w wr
set_option maxRecDepth 100000 in
theorem zbw (w:World) (s:ByteArray) (hs:s.size<=1000000000000) (hT:Tabs w):
 uP 109 #[.string s] w (IntsPost w (cuts s)):=by
 delta uP
 obtain ⟨i0,hi0,hz0,hz1,hz2⟩:=info_parts zl6
 have hsz:s.data.toList.length=s.size:=Array.length_toList
 have HS:=qh hsz
 have HTT:=qh hT
 clear hsz hT
 go_enter Tryz.func109,Tryz.ntmps109
 go_wp2_with fail
 go_loopw [3,4,5,6] (fun u i _ _ wr=>∃(j:Nat) (l:List Nat) (a:Option Addr) (m c:Nat),j<=s.size/\l.length<=j/\i= .int .i64 j/\u= .slice a m c/\CUH w wr s j l (.slice a m c)) (fun _ i _ _ _=>s.size - (intOf i).toNat)
 case atStart=>exact ⟨0, [],none,0,0,Nat.zero_le _,Nat.le_refl _,rfl,rfl,⟨by rw [List.drop_zero,HS.out];rfl,⟨rfl, .inl ⟨rfl,rfl⟩⟩,Below.refl _ _⟩⟩
 case round=>
  obtain ⟨j,l,a,m,c,hj,hlj,rfl,rfl,L⟩:=hrel
  have hrlt:∀b,(Value.slice a m c).ownBlock=some b->w.heap.size<=b/\b<wr.heap.size:=L.own.lt
  have hb:=L.below.size
  by_cases hlt:j<s.size
  .have hne:s.data.toList.drop j≠ [] :=fun e=>by
    have:=congrArg List.length e
    rw [List.length_drop,HS.out] at this
    simp at this;omega
   have hw1:=Lib.decodeL_width (s.data.toList.drop j)
   have hw2:=Lib.decodeL_le _ hne
   rw [List.length_drop,HS.out] at hw2
   obtain ⟨k,hk⟩:∃k,(Lib.decodeL (s.data.toList.drop j)).2=k:=⟨_,rfl⟩
   have hd:=zgx s j hlt
   rw [hk] at hd hw1 hw2
   have hrs:=L.rest
   rw [Kg hne,hk] at hrs
   have HRS:=qh hrs
   obtain ⟨rn,hrn⟩:∃rn,(Lib.decodeGo (s.extract j s.size)).1=rn:=⟨_,rfl⟩
   have HD:Hid (∀W,uB w W->uP 150 #[.string (s.extract j s.size)] W fun e w'=>e= .returned (.tuple #[.int .i32 rn, .int .i64 k])/\uB W w'):=fun W hW=>by
    have:=Tryz.utf8_DecodeRuneInString (s.extract j s.size) W (HTT.out.below hW)
    rw [hrn,hd] at this;exact this
   have LL:=qh L
   have ho:=L.own
   clear hrs hne hk hd hrn L
   go_wp2_with (at_builtin;refine wpList_append_lies _ rfl (.tmp 11) (.tmp 13) 130 (by rfl) w.heap.size 3 i0 _ 1 8 Tryz.underlying130 hi0 hz0 hz1 hz2 rfl (by omega) (.slice a m c) l.length (ints l) (by rfl) (ho.alloc _) ⟨wr.heap.size,0,none⟩ 1 1 [.int .i64 (j:Int)] (by rfl) (by rfl) (World.news_of_block (cs:= #[.int .i64 (j:Int)]) (t:=3) (fr:=(0,0)) (heap_alloc_new wr _)) (by simp [Value.oneCell']) (by omega) (by unfold maxLen;omega) (by omega) (by simp;omega) (wr.heap.size+1) (by simp) ?_;intro g cap w7 hown7 hgrow7 hat7 hlt7)
   have hb7:uB w w7:=(LL.out.below.trans (((Below.refl _ _).alloc (Nat.le_refl _) _).mono hb)).trans (Zj hgrow7 (fun k hk=>(hrlt k hk).1) (by simp;omega))
   refine (HD.out w7 hb7).mono ?_
   rintro e w8 ⟨rfl,hb8⟩
   have hb9:Below w.heap.size w7 w8:=hb8.mono hb7.size
   have hlt9:∀b,(Value.slice (some ⟨g,0,none⟩) (l.length+1) cap).ownBlock=some b->w.heap.size<=b/\b<w7.heap.size:=hown7.lt
   go_wp2_with fail
   go_roundw
   case rel=>
    refine ⟨j+k,l++ [j],some ⟨g,0,none⟩,l.length+1,cap,by omega,by simp;omega,by go_num,rfl,⟨?_, ?_,hb7.trans hb9⟩⟩
    .rw [List.append_assoc,List.singleton_append, <-HRS.out,List.drop_drop]
    .rw [zdk,List.length_append,List.length_singleton]
     exact hown7.kept (row:=none) ⟨hb8.os,hb8.tape,hb8.output,hb8.size,fun q hq _=>hb8.block q hq⟩ (by right;simp [Value.ownBlock])
   case measure=>simp [intOf];omega
  .have hjs:j=s.size:=by omega
   have hrs:=L.rest
   have hdz:s.data.toList.drop j= [] :=by rw [hjs, <-HS.out,List.drop_length]
   rw [hdz] at hrs
   simp only [List.length_nil,cutsP,List.append_nil] at hrs
   have HRS:=qh hrs
   have HJ:=qh hjs
   have LL:=qh L
   have ho:=L.own
   have hll:l.length<=1000000000000:=by omega
   clear hrs hdz L hjs
   go_wp2_with (at_builtin;refine wpList_append_lies _ rfl (.tmp 25) (.tmp 28) 130 (by rfl) w.heap.size 3 i0 _ 1 8 Tryz.underlying130 hi0 hz0 hz1 hz2 rfl (by omega) (.slice a m c) l.length (ints l) (by rfl) (ho.alloc _) ⟨wr.heap.size,0,none⟩ 1 1 [.int .i64 (s.size:Int)] (by rfl) (by rfl) (World.news_of_block (cs:= #[.int .i64 (s.size:Int)]) (t:=3) (fr:=(0,0)) (heap_alloc_new wr _)) (by simp [Value.oneCell']) (by omega) (by unfold maxLen;omega) (by omega) (by simp;omega) (wr.heap.size+1) (by simp) ?_;intro g cap w7 hown7 hgrow7 hat7 hlt7)
   have hb7:uB w w7:=(LL.out.below.trans (((Below.refl _ _).alloc (Nat.le_refl _) _).mono hb)).trans (Zj hgrow7 (fun k hk=>(hrlt k hk).1) (by simp;omega))
   go_returns
   have hcu:cuts s=l++ [s.size] :=by rw [cuts, <-HRS.out]
   rw [hcu]
   have hown8:w7.ownsRow w.heap.size 3 1 (.slice (some ⟨g,0,none⟩) (l.length+1) cap) (l.length+1) (ints (l++ [s.size])):=by rw [zdk];exact hown7
   refine ⟨⟨g,cap,by rw [List.length_append,List.length_singleton];rfl, ?_⟩,hb7⟩
   obtain ⟨_,c',e',ho'⟩:=OwnRow.of (base':=w.heap.size) hown8 (Nat.le_refl _)
   injection e' with e1 e2 e3
   subst e1 e3
   obtain ⟨g',e',_,hbc⟩:=ho'.row (.inl (by omega))
   obtain rfl:g=g':=by injection e' with e';injection e'
   refine ⟨by rw [List.length_append,List.length_singleton];exact ho'.cap,ho'.max,hbc.lt,fun i hi=>hbc.at_ i _ ?_⟩
   unfold ints
   rw [List.getElem?_map,List.getElem?_eq_getElem hi]
   rfl
set_option maxRecDepth 100000 in
theorem zf9 (w:World) (c:VC) (hT:Tabs w) (hbd:c.Bnd):
 uP 141 #[.agg (uV c)] w fun e w'=>e= .returned (.bool (plainB c.k c.n c.s c.ll c.ol))/\uB w w':=by
 delta uV uB uP
 have k0:=hbd.k0
 have hsz:=hbd.s1
 have hst:=Jw w c 29
 obtain ⟨k,n,s,la,ll,lc,oa,ol,oc⟩:=c
 dsimp only at*
 have q1:=Za (show (w.alloc (.cells (uU k n s la ll lc oa ol oc) 29)).cell? ⟨w.heap.size,1,none⟩=some (.int .i64 n) from hst.a.c1)
 have q2:=Za (show (w.alloc (.cells (uU k n s la ll lc oa ol oc) 29)).cell? ⟨w.heap.size,2,none⟩=some (.string s) from hst.a.c2)
 have q3:=Za (show (w.alloc (.cells (uU k n s la ll lc oa ol oc) 29)).cell? ⟨w.heap.size,3,none⟩=some (.slice la ll lc) from hst.a.c3)
 have q4:=Za (show (w.alloc (.cells (uU k n s la ll lc oa ol oc) 29)).cell? ⟨w.heap.size,4,none⟩=some (.slice oa ol oc) from hst.a.c4)
 have q0:(w.alloc (.cells (uU k n s la ll lc oa ol oc) 29)).cell? ⟨w.heap.size,0,none⟩=some (.int .u8 k):=hst.a.c0
 obtain ⟨bn,hbn⟩:∃bn,(n==0)=bn:=⟨_,rfl⟩
 obtain ⟨bs,hbs⟩:∃bs,s.toList.isEmpty=bs:=⟨_,rfl⟩
 obtain ⟨bl,hbl⟩:∃bl,((ll:Int)==0)=bl:=⟨_,rfl⟩
 obtain ⟨bo,hbo⟩:∃bo,((ol:Int)==0)=bo:=⟨_,rfl⟩
 obtain ⟨R,hR⟩:∃R,plainB k n s ll ol=R:=⟨_,rfl⟩
 rw [hR]
 have HR0:=qh hR
 clear hR
 go_enter Tryz.func141,Tryz.ntmps141
 generalize hW:(w.alloc (.cells (uU k n s la ll lc oa ol oc) 29))=W at*
 go_wp2_with fail
 refine Zh (by kernel_rfl) (by kernel_rfl) ?_
 repeat (go_big_quiet_step (fail))
 refine wpQuiet_nil ?_
 intro _ hw'
 obtain ⟨pq,hw''⟩:=hw'
 subst hw''
 have hT2:Tabs (later W pq):=(hT.below hst.below).below (Zd W pq)
 have q0':=Za q0 pq
 have q2':=Za (q2 pq)
 have hbb:uB w (later W pq):=hst.below.on (Zd W pq) hst.below.size
 have hbs1:w.heap.size<(later W pq).heap.size:=by have:=(Zd W pq).size;have:=hst.size;omega
 have q1':=q1 pq
 have q2'':=q2 pq
 clear hst q1 q2 q3 q4 q0 q2' hW hT
 generalize later W pq=W2 at*
 have hc:=fun _:Unit=>Yd s W2 hsz hT2
 obtain ⟨vd,hvd⟩:∃vd,Lib.validD s.data.toList=vd:=⟨_,rfl⟩
 rw [hvd] at hc
 have HC:=qh hc
 have HBB:=qh hbb
 have hll:(ll==0)=bl:=by rw [<-hbl];rw [Bool.eq_iff_iff];simp
 have hol:(ol==0)=bo:=by rw [<-hbo];rw [Bool.eq_iff_iff];simp
 have hk:k=0∨k=1∨k=2∨k=3∨k=4∨k=5∨5<k:=by omega
 obtain ⟨b1,hb1⟩:∃b1,(n==1)=b1:=⟨_,rfl⟩
 have hR:=HR0.out
 have hR2:R=(if k=0 then bn && bs && bl && bo else if k=1 then (bn||b1) && bs && bl && bo else if k=2 then bs && bl && bo else if k=3 then bn && vd && bl && bo else if k=4 then bn && bs && bo else if k=5 then bn && bs && bl else false):=by
  rw [<-hR];unfold plainB;rw [hbn,hb1,hbs,hvd,hll,hol]
 have HR:=qh hR2
 clear hc hbb hll hol hR hR2 hvd hbl hbo hbs hbn hT2 hbd
 have f0:(n==1)=b1:=hb1
 clear hb1
 rcases hk with rfl|rfl|rfl|rfl|rfl|rfl|hk
 .cases bn<;>cases bs<;>cases bl<;>cases bo
  all_goals
   go_wp2_with fail
   go_ret
   exact ⟨Zc (by rw [HR.out];rfl),HBB.out⟩
 .cases bn<;>cases b1<;>cases bs<;>cases bl<;>cases bo
  all_goals
   go_wp2_with fail
   go_ret
   exact ⟨Zc (by rw [HR.out];rfl),HBB.out⟩
 .cases bs<;>cases bl<;>cases bo
  all_goals
   go_wp2_with fail
   go_ret
   exact ⟨Zc (by rw [HR.out];rfl),HBB.out⟩
 .cases bn
  .go_wp2_with fail
   go_ret
   exact ⟨Zc (by rw [HR.out];rfl),HBB.out⟩
  .cases vd<;>cases bl<;>cases bo
   all_goals
    go_wp2_with (go_at_call 99;refine (HC.out ()).mono ?_;rintro e w' ⟨rfl,hb⟩)
    go_ret
    exact ⟨Zc (by rw [HR.out];rfl),HBB.out.on hb (by omega)⟩
 .cases bn<;>cases bs<;>cases bo
  all_goals
   go_wp2_with fail
   go_ret
   exact ⟨Zc (by rw [HR.out];rfl),HBB.out⟩
 .cases bn<;>cases bs<;>cases bl
  all_goals
   go_wp2_with fail
   go_ret
   exact ⟨Zc (by rw [HR.out];rfl),HBB.out⟩
 .go_wp2_with fail
  go_ret
  exact ⟨Zc (by rw [HR.out,if_neg (by omega),if_neg (by omega),if_neg (by omega),if_neg (by omega),if_neg (by omega),if_neg (by omega)]),HBB.out⟩
set_option maxRecDepth 100000 in
theorem zjm (l:List (ByteArray×V)) (w:World) (a:Option Addr) (n c:Nat) (h:IsFields w w.heap.size l a n c):
 uP 142 #[.slice a n c] w fun e w'=>e= .returned (.bool (rising l))/\uB w w':=by
 delta uB uP
 have k1:=h.max;have k2:=h.few
 have HLn:=qh h.len
 obtain ⟨R,hR⟩:∃R,rising l=R:=⟨_,rfl⟩
 rw [hR]
 have HR:=qh hR
 clear hR
 go_enter Tryz.func142,Tryz.ntmps142
 go_wp2_with fail
 go_loopw [6] (fun i wr=>∃k:Nat,k<=n/\i= .int .i64 k/\Hid (rising (l.take k)=true)/\uB w wr) (fun i _=>n - (intOf i).toNat)
 case atStart=>exact ⟨0,Nat.zero_le _,rfl,by rfl,Below.refl _ _⟩
 case round =>
  obtain ⟨k,hk,hi,HJ,hB⟩:=hrel
  by_cases hlt:k<n
  .obtain ⟨b,o,f,kl,ea,hb,g1,_,_,_⟩:=h.get hlt
   have g1:=Zb hB g1 hb
   rcases k with _|j
   .subst hi
    clear h
    subst ea
    go_wp2_with fail
    refine Zh (by kernel_rfl) (by kernel_rfl) ?_
    repeat (go_big_quiet_step (fail))
    refine wpQuiet_nil ?_
    intro _ hw'
    obtain ⟨pq,hw''⟩:=hw'
    subst hw''
    go_wp2_with fail
    go_roundw
    case rel=>exact ⟨1,by omega,by go_num,zap l,hB.on (Zd _ _) hB.size⟩
    case measure=>simp [intOf];omega
   .have hi2:=hi.trans (show Value.int .i64 ((j+1:Nat):Int)= .int .i64 ((j:Int)+1) by go_num)
    clear hi
    subst hi2
    obtain ⟨b',o',f',jl,ea',hb',g2,_,_,_⟩:=h.get (show j<n by omega)
    clear h
    subst ea
    cases ea'
    have g2:=Zb hB g2 hb
    have t1:=Za g1
    have t2:=Za g2
    clear g1 g2
    by_cases hr:Op.bytesLess l[j].1.toList l[j+1].1.toList=true
    .obtain ⟨a1,a2⟩:=Kb _ _ hr
     have a3:(l[j+1].1.toList==l[j].1.toList)=false:=by simp [Ne.symm a2]
     have HL:=qh hr
     clear hr a2
     go_wp2_with fail
     refine Zh (by kernel_rfl) (by kernel_rfl) ?_
     repeat (go_big_quiet_step (fail))
     refine wpQuiet_nil ?_
     intro _ hw'
     obtain ⟨pq,hw''⟩:=hw'
     subst hw''
     clear t1 t2 a1 a3
     go_wp2_with fail
     go_roundw
     case rel=>exact ⟨j+1+1,by omega,by go_num,zbe HJ.out kl HL.out,hB.on (Zd _ _) hB.size⟩
     case measure=>simp [intOf];omega
    .have hr:Op.bytesLess l[j].1.toList l[j+1].1.toList=false:=by simpa using hr
     have HL:=qh hr
     have a1:Op.bytesLess l[j+1].1.toList l[j].1.toList=true∨(Op.bytesLess l[j+1].1.toList l[j].1.toList=false/\l[j+1].1.toList=l[j].1.toList):=by
      rcases Kj l[j+1].1.toList l[j].1.toList with h|h|h
      .exact .inl h
      .cases hq:Op.bytesLess l[j+1].1.toList l[j].1.toList with
       |true=>exact .inl rfl
       |false=>exact .inr ⟨rfl,h⟩
      .rw [hr] at h;cases h
     clear hr
     rcases a1 with a1|⟨a1,a2⟩
     .go_wp2_with fail
      refine Zh (by kernel_rfl) (by kernel_rfl) ?_
      repeat (go_big_quiet_step (fail))
      refine wpQuiet_nil ?_
      intro _ hw'
      obtain ⟨pq,hw''⟩:=hw'
      subst hw''
      clear t1 t2 a1
      go_wp2_with fail
      go_ret
      exact ⟨Zc (by rw [<-HR.out,Js kl HL.out]),hB.on (Zd _ _) hB.size⟩
     .have a3:(l[j+1].1.toList==l[j].1.toList)=true:=by rw [a2];simp
      clear a2
      go_wp2_with fail
      refine Zh (by kernel_rfl) (by kernel_rfl) ?_
      repeat (go_big_quiet_step (fail))
      refine wpQuiet_nil ?_
      intro _ hw'
      obtain ⟨pq,hw''⟩:=hw'
      subst hw''
      clear t1 t2 a1 a3
      go_wp2_with fail
      go_ret
      exact ⟨Zc (by rw [<-HR.out,Js kl HL.out]),hB.on (Zd _ _) hB.size⟩
  .subst hi
   clear h
   go_wp2_with fail
   go_ret
   refine ⟨Zc ?_,hB⟩
   have hjo:=HJ.out
   rw [List.take_of_length_le (by have:=HLn.out;omega)] at hjo
   rw [<-HR.out,hjo]
end Go.Proofs.YtbgheehjfnoiiaaGreatDoor
namespace Go.Proofs.YtbgheehjfnoiiaaGreatDoor
open Go.RowKit Go.Shelf
set_option maxHeartbeats 8000000
attribute [local go_sem] Oper.semAt_some
def VSound (v:V):Prop:=∀(w:World) (c:VC),IsVal w w.heap.size v c->Tabs w->
    Calls Tryz.prog 100 #[.agg #[.int .u8 c.k, .int .i64 c.n, .string c.s, .slice c.la c.ll c.lc, .slice c.oa c.ol c.oc]] w fun e w'=>e= .returned (.bool v.sound)/\Below w.heap.size w w'
theorem Jl (a b:List (ByteArray×V)):soundO (a++b)=(soundO a && soundO b):=by
 induction a with
 |nil=>simp [soundO]
 |cons f r ih=>simp [soundO,ih,Bool.and_assoc]
theorem za4 {w:World} {P:V->Prop} (pre:List (Kid w P)) (x:Kid w P) (h:Lib.validD x.kk.data.toList=false∨x.v.sound=false):Hid (soundO ((pre++ [x]).map Kid.pair)=false):=by
 show _=_
 rw [List.map_append,Jl]
 rcases h with h|h<;>simp [soundO,Q3,Kid.pair,h]
theorem zmp {w:World} {P:V->Prop} (pre:List (Kid w P)) (x:Kid w P) (h:soundO (pre.map Kid.pair)=true) (h1:Lib.validD x.kk.data.toList=true) (h2:x.v.sound=true):Hid (soundO ((pre++ [x]).map Kid.pair)=true):=by
 show _=_
 rw [List.map_append,Jl]
 simp [soundO,Q3,Kid.pair,h,h1,h2]
theorem zdz {w:World} {P:V->Prop} {pre ks:List (Kid w P)} (hp:pre<+:ks) (h:soundO (pre.map Kid.pair)=false):soundO (ks.map Kid.pair)=false:=by
 obtain ⟨r,rfl⟩:=hp
 rw [List.map_append,Jl,h,Bool.false_and]
theorem zb7 (l:List V) (o:List (ByteArray×V)):soundO (pairs l o)=(soundL l && soundO o):=by
 unfold pairs
 rw [Jl]
 congr 1
 induction l with
 |nil=>rfl
 |cons v r ih=>simp only [List.map_cons,soundO,Q3,soundL,ih];rw [show Lib.validD (⟨#[]⟩:ByteArray).data.toList=true from Lib.validD_nil,Bool.true_and]
set_option maxRecDepth 100000 in
theorem zl0 (a:V):VSound a:=by
 induction a using V.ind with
 |h k n s l o ihl iho=>
 intro w c ha hT
 obtain ⟨rfl,rfl,rfl,cbd,hl,ho⟩:=ha.lists
 obtain ⟨ks,hks,hpr⟩:=Kf w VSound l o c hl ho ihl iho
 clear ihl iho ha
 refine callsIn_wide (n:=3)|>.1 ?_
 refine callsIn_of_wp_marks Tryz.func100 rfl trivial ?_ rfl
 simp only [Tryz.ntmps100,List.size_toArray,List.length_cons,List.length_nil,Nat.reduceAdd,Nat.reduceSub,Array.replicate_succ,Array.replicate_zero,List.push_toArray,List.append_toArray,List.nil_append,List.cons_append]
 obtain ⟨W0,hW0⟩:∃W0,((w.alloc (.cells (uV c) 29)).alloc (.cells #[.bool false] 4))=W0:=⟨_,rfl⟩
 have hst0:ValAt W0 w.heap.size 0 c:=by
  rw [<-hW0];exact (Yu w c _).keep (B:=w.heap.size+1) ((Below.refl _ _).alloc (by simp) _) (by omega)
 have hres0:Boxed W0 (w.heap.size+1) 4 (.bool false):=by
  rw [<-hW0]
  have h:=Boxed.new (w.alloc (.cells (uV c) 29)) 4 (.bool false)
  rw [World.size_alloc] at h
  exact h
 have hB0:uB w W0:=by rw [<-hW0];exact ((Below.refl _ _).alloc (Nat.le_refl _) _).alloc (by simp) _
 have hz0:W0.heap.size=w.heap.size+2:=by rw [<-hW0];simp
 have hp1:=zf9 W0 c (hT.below hB0) cbd
 have HL1:=qh hl.len;have HL2:=qh ho.len
 have hW:=hW0
 cases hp:plainB c.k c.n c.s c.ll c.ol with
 | false=>
   rw [hp, <-hW0] at hp1
   have H1:=qh hp1
   have HPP:Hid ((V.mk c.k c.n c.s l o).sound=false):=zcc (by rw [<-HL1.out, <-HL2.out];exact hp)
   obtain ⟨R,hR⟩:∃R,(V.mk c.k c.n c.s l o).sound=R:=⟨_,rfl⟩
   rw [hR]
   have HR:=qh hR
   have HW:=qh hW0
   clear hR hp1 hp hW0 hW
   gi_wp2_with (refine ⟨trivial, ?_⟩;gi_at_call 141;refine (callsIn_wide.2 H1.out).mono ?_;rintro e w1 ⟨rfl,hb1⟩;rw [HW.out] at hb1;have cR:=(hb1.cell (p:=⟨w.heap.size+1,0,none⟩) (by simp [hz0])).trans hres0.cell;have fR:=(hb1.frozen (p:=⟨w.heap.size+1,0,none⟩) (by simp [hz0])).trans hres0.frozen)
   refine ⟨trivial, ?_⟩
   gi_wp2
   have hres1:Boxed w1 (w.heap.size+1) 4 (.bool false):=(hb1.block _ (by omega)).trans hres0
   have hc2:=(hres1.set (.bool false)).cell
   refine ⟨.bool false,by simp [results,Tryz.results100,go_sem,hc2],Zc (by rw [<-HR.out,HPP.out]),(hB0.on hb1 hB0.size).setCell (by simp) _⟩
 | true =>
   rw [hp, <-hW0] at hp1
   have H1:=qh hp1
   have HPP:Hid ((V.mk c.k c.n c.s l o).sound=(rising o && soundL l && soundO o)):=by simp [Hid,V.sound, <-HL1.out, <-HL2.out,hp]
   obtain ⟨R,hR⟩:∃R,(V.mk c.k c.n c.s l o).sound=R:=⟨_,rfl⟩
   rw [hR]
   have HR:=qh hR
   have HW:=qh hW0
   clear hR hp1 hp hW0 hW
   gi_wp2_with (refine ⟨trivial, ?_⟩;gi_at_call 141;refine (callsIn_wide.2 H1.out).mono ?_;rintro e w1 ⟨rfl,hb1⟩;rw [HW.out] at hb1;have hv1:=hst0.keep hb1 (by omega);have q4:w1.cell? ⟨w.heap.size,4,none⟩=some (.slice c.oa c.ol c.oc):=hv1.c4)
   have hB1:=hB0.on hb1 hB0.size
   have hri:=zjm o w1 _ _ _ (ho.later_ hB1)
   have hres1:Boxed w1 (w.heap.size+1) 4 (.bool false):=(hb1.block _ (by omega)).trans hres0
   have cR:=hres1.cell
   have fR:=hres1.frozen
   cases hr:rising o with
   | false=>
     rw [hr] at hri
     have H2:=qh hri
     have Hr:=qh hr
     clear hri hr
     gi_wp2_with (refine ⟨trivial, ?_⟩;gi_at_call 142;refine (callsIn_wide.2 H2.out).mono ?_;rintro e w2 ⟨rfl,hb2⟩;have cR2:=(hb2.cell (p:=⟨w.heap.size+1,0,none⟩) (by exact hres1.lt)).trans cR;have fR2:=(hb2.frozen (p:=⟨w.heap.size+1,0,none⟩) (by exact hres1.lt)).trans fR)
     have hr2:Boxed w2 (w.heap.size+1) 4 (.bool false):=(hb2.block _ hres1.lt).trans hres1
     have hc2:=(hr2.set (.bool false)).cell
     refine ⟨.bool false,by simp [results,Tryz.results100,go_sem,hc2],Zc (by rw [<-HR.out,HPP.out,Hr.out];simp),(hB1.on hb2 hB1.size).setCell (by simp) _⟩
   | true =>
     rw [hr] at hri
     have H2:=qh hri
     have Hr:=qh hr
     clear hri hr
     gi_wp2_with (first|(refine ⟨trivial, ?_⟩;gi_at_call 142;refine (callsIn_wide.2 H2.out).mono ?_;rintro e w2 ⟨rfl,hb2⟩;have hv2:=hv1.keep hb2 (by have:=hb1.size;omega);have z0:w2.cell? ⟨w.heap.size,0,none⟩=_:=hv2.c0;have z1:w2.cell? ⟨w.heap.size,1,none⟩=_:=hv2.c1;have z2:w2.cell? ⟨w.heap.size,2,none⟩=_:=hv2.c2;have z3:w2.cell? ⟨w.heap.size,3,none⟩=_:=hv2.c3;have z4:w2.cell? ⟨w.heap.size,4,none⟩=_:=hv2.c4)|(refine ⟨trivial, ?_⟩;gi_at_call 143;refine (Kh _ _ trivial rfl c _).mono ?_;rintro e w' ⟨rfl,rfl⟩))
     have hB2:=hB1.on hb2 hB1.size
     have hres2:Boxed w2 (w.heap.size+1) 4 (.bool false):=(hb2.block _ hres1.lt).trans hres1
     have hz2:w.heap.size+2<=w2.heap.size:=by have:=hb1.size;have:=hb2.size;omega
     clear z0 z1 z2 z3 z4 hb2 hb1 cR fR hres1 hB1 hres0 hst0 q4 hv1
     obtain ⟨W3,hW3⟩:∃W3,(w2.alloc (.cells (uV c) 29))=W3:=⟨_,rfl⟩
     have hbx:ValAt W3 w2.heap.size 0 c:=by rw [<-hW3];exact Yu w2 c _
     have hB3:uB w W3:=by rw [<-hW3];exact hB2.alloc hB2.size _
     have hres3:Boxed W3 (w.heap.size+1) 4 (.bool false):=by rw [<-hW3];exact hres2.alloc _
     have hz3:W3.heap.size=w2.heap.size+1:=by rw [<-hW3];simp
     rw [hW3]
     clear hW3
     refine wpIn_rangeFunc_ownH (α:=Kid w VSound) rfl (by omega) (gf:=172) (lb:= #[.pointer (some ⟨w2.heap.size,0,none⟩)]) rfl trivial (enters_of Tryz.func172 (by kernel_rfl) rfl)
      (Kd Fence.wide 2 trivial rfl (by omega) w VSound w2.heap.size c cbd ks W3 w.heap.size (by omega) (by omega) hbx (hks.keep (.of_below_any hB3))) J7 (Kc (by omega) (by omega)) (Below.refl _ _) (fun _=>rfl)
      (fun pre W=>(Boxed W (w.heap.size+1) 4 (.bool false))/\uB w W/\W3.heap.size<=W.heap.size/\Hid (soundO (pre.map Kid.pair)=true))
      (fun j pre W=>(Boxed W (w.heap.size+1) 4 (.bool false))/\uB w W/\(j= .ret/\Hid (soundO (pre.map Kid.pair)=false)))
      (OwnFrom.and (Own.from (boxed_own _ _ _) _) (OwnFrom.and (ownFrom_below (Nat.le_refl _) (by omega)) (OwnFrom.and (fun _ _ _ _ hs hg _=>Nat.le_trans hs hg.size) (fun _ _ _ _ hs _ _=>hs))))
      (fun _=>OwnFrom.and (Own.from (boxed_own _ _ _) _) (OwnFrom.and (ownFrom_below (Nat.le_refl _) (by omega)) (fun _ _ _ _ hs _ _=>hs)))
      ⟨hres3,hB3,Nat.le_refl _,rfl⟩
      (fun x a' W=>∃Bx,W3.heap.size<=Bx/\ValAt W Bx 0 x.kv/\a'= { tmps:= #[.agg #[.int .u8 c.k, .int .i64 c.n, .string c.s, .slice c.la c.ll c.lc, .slice c.oa c.ol c.oc], .pointer (some ⟨w.heap.size,0,none⟩), .pointer (some ⟨w.heap.size+1,0,none⟩), .string x.kk, .pointer (some ⟨Bx,0,none⟩), .agg #[.int .u8 c.k, .int .i64 c.n, .string c.s, .slice c.la c.ll c.lc, .slice c.oa c.ol c.oc], .bool true, .bool false, .bool false, .pointer (some ⟨w.heap.size,4,none⟩), .slice c.oa c.ol c.oc, .bool true, .bool false, .bool false, .agg #[.int .u8 c.k, .int .i64 c.n, .string c.s, .slice c.la c.ll c.lc, .slice c.oa c.ol c.oc], .func (.func 172) #[] #[.pointer (some ⟨w2.heap.size,0,none⟩)], .string x.kk, .agg #[.int .u8 x.kv.k, .int .i64 x.kv.n, .string x.kv.s, .slice x.kv.la x.kv.ll x.kv.lc, .slice x.kv.oa x.kv.ol x.kv.oc],undef,undef,undef,undef,undef,undef,undef,undef],defers:= [] })
      (fun x a' _ X Y row hs hg hr=>by
       obtain ⟨Bx,h1,h2,h3⟩:=hs
       exact ⟨Bx,h1,ValAt.own (β:=Unit) Bx 0 (fun _=>x.kv) () X Y row h2 hg (fun r e=>(hr r e).2),h3⟩)
      ?assign ?body ?done ?stop
     case assign=>
      rintro l pre x W K ⟨bS1,hB1,hz1,hJ⟩ hK
      dsimp only [Kid.encs]
      gi_wp2
      exact hK _ _ ((KeepsOthers.alloc _ _).from _) (KeepAt.alloc W _ (by omega) (by omega)) ⟨bS1.alloc _,hB1.alloc hB1.size _,by simp;omega,hJ⟩ ⟨W.heap.size,hz1,Yu W x.kv _,rfl⟩
     case body=>
      rintro l pre x a' W hl _ ⟨bS1,hB1,hz1,hJ⟩ ⟨Bx,hBx,vX,rfl⟩ hlt
      have cS:=bS1.cell
      have fS:=bS1.frozen
      have hBlt:Bx<W.heap.size:=World.block_lt_of_cell? W ⟨Bx,0,none⟩ vX.c0
      have hTW:=hT.below hB1
      have hv0:=Yd x.kk W x.sz hTW
      cases hv:Lib.validD x.kk.data.toList with
      | false=>
        rw [hv] at hv0
        have H:=qh hv0
        have HV:=qh hv
        clear hv hv0
        gi_wp2_with (refine ⟨trivial, ?_⟩;gi_at_call 99;refine (CallsIn.inRound l (callsIn_wide.2 H.out)).mono ?_;rintro e w' ⟨rfl,hb⟩;have cS':=(hb.cell (p:=⟨w.heap.size+1,0,none⟩) (by exact bS1.lt)).trans cS;have fS':=(hb.frozen (p:=⟨w.heap.size+1,0,none⟩) (by exact bS1.lt)).trans fS)
        refine ⟨trivial, ?_⟩
        gi_wp2
        have hbx':Boxed w' (w.heap.size+1) 4 (.bool false):=(hb.block _ bS1.lt).trans bS1
        exact ⟨((X8 hb).trans (KeepsOthers.setCell _ _ _)).from _,hbx'.set _,(hB1.on hb hB1.size).setCell (by simp) _,rfl,za4 pre x (.inl HV.out)⟩
      | true=>
        rw [hv] at hv0
        have H:=qh hv0
        have HV:=qh hv
        clear hv hv0
        have hsx:=fun (W':World) (h:uB w W')=>x.p W' x.kv (x.is.later_ h) (hT.below h)
        cases hx:x.v.sound with
        | false=>
          rw [hx] at hsx
          have H2:=qh hsx
          have HX:=qh hx
          clear hsx hx
          gi_wp2_with (first|(refine ⟨trivial, ?_⟩;gi_at_call 99;refine (CallsIn.inRound l (callsIn_wide.2 H.out)).mono ?_;rintro e w' ⟨rfl,hb⟩;have vX':=vX.keep hb hBlt;have y0:w'.cell? ⟨Bx,0,none⟩=_:=vX'.c0;have y1:w'.cell? ⟨Bx,1,none⟩=_:=vX'.c1;have y2:w'.cell? ⟨Bx,2,none⟩=_:=vX'.c2;have y3:w'.cell? ⟨Bx,3,none⟩=_:=vX'.c3;have y4:w'.cell? ⟨Bx,4,none⟩=_:=vX'.c4;clear vX vX')|(refine ⟨trivial, ?_⟩;gi_at_call 100;refine (CallsIn.inRound l (callsIn_wide.2 (H2.out _ (hB1.on hb hB1.size)))).mono ?_;rintro e w3 ⟨rfl,hb3⟩;have hb4:=hb.on hb3 hb.size;have cS':=(hb4.cell (p:=⟨w.heap.size+1,0,none⟩) (by exact bS1.lt)).trans cS;have fS':=(hb4.frozen (p:=⟨w.heap.size+1,0,none⟩) (by exact bS1.lt)).trans fS))
          have hbx':Boxed w3 (w.heap.size+1) 4 (.bool false):=(hb4.block _ bS1.lt).trans bS1
          exact ⟨((X8 hb4).trans (KeepsOthers.setCell _ _ _)).from _,hbx'.set _,(hB1.on hb4 hB1.size).setCell (by simp) _,rfl,za4 pre x (.inr HX.out)⟩
        | true=>
          rw [hx] at hsx
          have H2:=qh hsx
          have HX:=qh hx
          clear hsx hx
          gi_wp2_with (first|(refine ⟨trivial, ?_⟩;gi_at_call 99;refine (CallsIn.inRound l (callsIn_wide.2 H.out)).mono ?_;rintro e w' ⟨rfl,hb⟩;have vX':=vX.keep hb hBlt;have y0:w'.cell? ⟨Bx,0,none⟩=_:=vX'.c0;have y1:w'.cell? ⟨Bx,1,none⟩=_:=vX'.c1;have y2:w'.cell? ⟨Bx,2,none⟩=_:=vX'.c2;have y3:w'.cell? ⟨Bx,3,none⟩=_:=vX'.c3;have y4:w'.cell? ⟨Bx,4,none⟩=_:=vX'.c4;clear vX vX')|(refine ⟨trivial, ?_⟩;gi_at_call 100;refine (CallsIn.inRound l (callsIn_wide.2 (H2.out _ (hB1.on hb hB1.size)))).mono ?_;rintro e w3 ⟨rfl,hb3⟩;have hb4:=hb.on hb3 hb.size))
          have hbx':Boxed w3 (w.heap.size+1) 4 (.bool false):=(hb4.block _ bS1.lt).trans bS1
          exact ⟨(X8 hb4).from _, .of_below hb4 (by omega) (by omega),hbx',hB1.on hb4 hB1.size,by have:=hb4.size;omega,zmp pre x hJ.out HV.out HX.out⟩
     case done=>
      rintro D ys W hD rfl ⟨bS,hB,hz1,hJ⟩ hK
      have cS:=bS.cell
      have fS:=bS.frozen
      gi_wp2
      have hK2:(W.setCell ⟨w.heap.size+1,0,none⟩ (.bool true)).heap[D]? =some (.deferred (some [])):=(KeepsOthers.setCell _ _ _).same D _ hK rfl
      refine ⟨by simp, .inl ⟨_,_,rfl,run_takeDeferred hK2, ?_⟩⟩
      have hr3:=(bS.set (.bool true)).kept (grownBy_putObj' _ D (.deferred none)) (by intro e;cases e;omega)
      have hc3:=hr3.cell
      refine ⟨.bool true,by simp [results,Tryz.results100,go_sem,hc3],Zc ?_,(hB.setCell (by simp) _).grown (grownBy_putObj' _ D _) (by simp [World.setCell];exact hB.size) (fun k e=>by cases e;omega)⟩
      have hj:=hJ.out
      rw [hpr,zb7] at hj
      rw [<-HR.out,HPP.out,Hr.out,Bool.true_and]
      exact hj.symm
     case stop=>
      rintro D c' pre W hD hp ⟨bS,hB,rfl,hJ⟩ hK
      gi_wp2
      refine ⟨by simp, .inl ⟨_,_,rfl,run_takeDeferred hK, ?_⟩⟩
      have hr3:=bS.kept (grownBy_putObj' _ D (.deferred none)) (by intro e;cases e;omega)
      have hc3:=hr3.cell
      refine ⟨.bool false,by simp [results,Tryz.results100,go_sem,hc3],Zc ?_,hB.grown (grownBy_putObj' _ D _) hB.size (fun k e=>by cases e;omega)⟩
      rw [<-HR.out,HPP.out,Hr.out,Bool.true_and, <-zb7, <-hpr]
      exact (zdz hp hJ.out).symm
end Go.Proofs.YtbgheehjfnoiiaaGreatDoor
