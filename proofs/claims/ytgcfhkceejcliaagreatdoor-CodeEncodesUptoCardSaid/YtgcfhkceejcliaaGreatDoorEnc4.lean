/-
  Contracts of the functions that the law reaches: plain: a text of 40 bytes at most, all below 128. conciliatorref01.Field: where a key stands, or would. With: an object's fields, and one more. Ways into a value, in plain Lean. conciliatorref03.step: what stands one step on, and its place. conciliatorref01.Copy: what stands in memory while it runs. conciliatorref01.Copy: the same value, in rows of its own. conciliatorref03.Get: what stands at a path. conciliatorref03.Put: what stands in memory while it runs. With. With: the walk. Append of nil. Lists of values that are put together of pieces.
-/
import Derived.Test.YtgcfhkceejcliaaGreatDoorEnc3
import Derived.BigQuiet
import Derived.Laws.AppendOwn
import Derived.Deep.RegionHeldLaw
namespace Go.Proofs.YtgcfhkceejcliaaGreatDoor
open Go.RowKit
def low (b:UInt8):UInt8:=UInt8.ofNat (b.toNat % 128)
def plainL (l:List UInt8):List UInt8:=(l.take 40).map low
def plainS (s:ByteArray):ByteArray:=⟨(plainL s.data.toList).toArray⟩
set_option maxHeartbeats 400000 in
set_option maxRecDepth 100000 in
theorem isB_of_own {w:World} {B:Nat} {v:Value} {bs:List UInt8} (ho:w.ownsRow B 5 1 v bs.length (outs bs)):∃a n c,v= .slice a n c∧IsB w w.heap.size a n c bs:=by
  have hc:=fun g hg=>ho.cells (g:=g) hg
  have hlt:=ho.lt
  rcases ho.2 with ⟨rfl,hn⟩|⟨g,cap,cur,rfl,_,hg,hnc,hcm,_,_⟩
  · have:bs= [] :=List.length_eq_zero_iff.1 hn
    subst this
    exact ⟨none,0,0,rfl, .nil _ _⟩
  · refine ⟨_,_,_,rfl,rfl,hnc,by simpa [maxLen] using hcm,g,0,fun _=>⟨rfl,(hlt g rfl).2⟩,fun i hi=> ?_⟩
    have:=hc g rfl i (.int .u8 (bs[i].toNat:Int)) (by simp [outs,hi])
    rw [add_at] at this;exact this
theorem plain_snoc (l:List UInt8) (j:Nat) (h:j<l.length):(l.take (j+1)).map low=(l.take j).map low++ [low l[j]] :=by
  rw [take_snoc l j h,List.map_append];rfl
theorem low_nat (b:UInt8):(((low b).toNat:Nat):Int)=(b.toNat:Int) % 128:=by
  have h:(low b).toNat=b.toNat % 128:=by
    unfold low
    rw [UInt8.toNat_ofNat']
    omega
  rw [h];omega
structure PH (w wr:World) (s:ByteArray) (j:Nat) (u:Value):Prop where
  own:wr.ownsRow w.heap.size 5 1 u j (outs ((s.data.toList.take j).map low))
  below:Below w.heap.size w wr
set_option maxHeartbeats 4000000 in
set_option maxRecDepth 100000 in
theorem plain_any (w:World) (s:ByteArray) (hs:s.size≤140737488355328):
    Calls Tryz.prog 75 #[.string s] w fun e w'=>e= .returned (.string (plainS s))∧Below w.heap.size w w':=by
  obtain ⟨i0,hi0,hz0,hz1,hz2⟩:=info_parts ginfo8
  have hsz:s.data.toList.length=s.size:=Array.length_toList
  have HS:=Lib.hid hsz
  clear hsz
  go_enter Tryz.func75,Tryz.ntmps75
  go_wp2_with fail
  go_loopw [3,4] (fun u i wr=>∃(j:Nat) (a:Option Addr) (m c:Nat),j≤40∧j≤s.size∧i= .int .i64 j∧u= .slice a m c∧PH w wr s j (.slice a m c)) (fun _ i _=>40 - (intOf i).toNat)
  case atStart=>exact ⟨0,none,0,0,by omega,Nat.zero_le _,rfl,rfl,⟨⟨by simp [outs], .inl ⟨rfl,rfl⟩⟩,Below.refl _ _⟩⟩
  case round=>
    obtain ⟨j,a,m,c,hj,hj2,rfl,rfl,L⟩:=hrel
    have hlen:=HS.out
    by_cases h1:j<s.size
    · by_cases h2:j<40
      · have hgb:s.data.toList[j]'(by omega)=s[j]'h1:=by simp [ByteArray.getElem_eq_getElem_data]
        have hsn:=plain_snoc s.data.toList j (by omega)
        rw [hgb] at hsn
        have HSN:=Lib.hid hsn
        have hrlt:∀b,(Value.slice a m c).ownBlock=some b→w.heap.size≤b∧b<wr.heap.size:=L.own.lt
        have hb:=L.below.size
        have LL:=Lib.hid L
        have ho:=L.own
        clear hsn hgb L
        go_wp2_with (at_builtin;refine wpList_append_lies _ rfl (.tmp 15) (.tmp 20) 38 (by rfl) w.heap.size 5 i0 _ 1 1 Tryz.underlying38 hi0 hz0 hz1 hz2 rfl (by omega) (.slice a m c) j (outs ((s.data.toList.take j).map low)) (by rfl) (ho.alloc _) ⟨wr.heap.size,0,none⟩ 1 1 [.int .u8 ((s[j]'h1).toNat % 128:Int)] (by rfl) (by rfl) (World.news_of_block (cs:= #[.int .u8 ((s[j]'h1).toNat % 128:Int)]) (t:=5) (fr:=(0,0)) (heap_alloc_new wr _)) (by simp [Value.oneCell']) (by omega) (by unfold maxLen;omega) (by omega) (by simp;omega) (wr.heap.size+1) (by simp) ?_;intro g cap w7 hown7 hgrow7 hat7 hlt7)
        go_roundw
        case rel=>
          refine ⟨j+1,some ⟨g,0,none⟩,j+1,cap,by omega,by omega,by go_num,rfl,⟨?_, ?_⟩⟩
          · rw [HSN.out,outs_append]
            have e:outs [low (s[j]'h1)] = [.int .u8 ((s[j]'h1).toNat % 128:Int)] :=by simp [outs,low_nat]
            rw [e];exact hown7
          · exact (LL.out.below.trans (((Below.refl _ _).alloc (Nat.le_refl _) _).mono hb)).trans (grown_below hgrow7 (fun k hk=>(hrlt k hk).1) (by simp;omega))
        case measure=>simp [intOf];omega
      · obtain ⟨a2,n2,c2,hv2,hI⟩:=isB_of_own (bs:=(s.data.toList.take j).map low) (by rw [List.length_map,List.length_take,Nat.min_eq_left (by omega)];exact L.own)
        injection hv2 with h3 h4 h5;subst h3 h4 h5
        have hcv:=conv_isB hI
        have LL:=Lib.hid L
        have hp:((s.data.toList.take j).map low)=plainL s.data.toList:=by rw [plainL,show j=40 by omega]
        rw [hp] at hcv
        clear hI L hp
        go_wp2_with fail
        go_returns
        exact ⟨rfl,LL.out.below⟩
    · obtain ⟨a2,n2,c2,hv2,hI⟩:=isB_of_own (bs:=(s.data.toList.take j).map low) (by rw [List.length_map,List.length_take,Nat.min_eq_left (by omega)];exact L.own)
      injection hv2 with h3 h4 h5;subst h3 h4 h5
      have hcv:=conv_isB hI
      have LL:=Lib.hid L
      have hp:((s.data.toList.take j).map low)=plainL s.data.toList:=by rw [plainL,List.take_of_length_le (by omega),List.take_of_length_le (by omega)]
      rw [hp] at hcv
      clear hI L hp
      go_wp2_with fail
      go_returns
      exact ⟨rfl,LL.out.below⟩
end Go.Proofs.YtgcfhkceejcliaaGreatDoor
namespace Go.Proofs.YtgcfhkceejcliaaGreatDoor
open Go.RowKit
def fieldK (o:List (ByteArray×V)) (key:ByteArray):Nat:=(o.takeWhile fun f=>Op.bytesLess f.1.toList key.toList).length
def fieldIs (o:List (ByteArray×V)) (key:ByteArray):Bool:=match o[fieldK o key]? with
  |some f=>f.1.toList==key.toList
  |none=>false
theorem fieldK_at (o:List (ByteArray×V)) (key:ByteArray) (j:Nat) (h:∀i (hi:i<o.length),i<j→Op.bytesLess (o[i]'hi).1.toList key.toList=true) (hj:j≤o.length) (he:j=o.length∨∃hi:j<o.length,Op.bytesLess (o[j]'hi).1.toList key.toList=false):fieldK o key=j:=by
  unfold fieldK
  induction o generalizing j with
  |nil=>simp at hj;subst hj;rfl
  | cons f o ih=>
    cases j with
    | zero=>
      rcases he with he|⟨hi,he⟩
      · simp at he
      · simp only [List.getElem_cons_zero] at he
        simp [he]
    | succ j=>
      have h0:=h 0 (by simp) (by omega)
      simp only [List.getElem_cons_zero] at h0
      have:=ih j (fun i hi hij=>by have:=h (i+1) (by simpa using hi) (by omega);simpa using this) (by simpa using hj) (by
        rcases he with he|⟨hi,he⟩
        · left;simpa using he
        · right;exact ⟨by simpa using hi,by simpa using he⟩)
      simp [h0,this]
theorem belowN {B:Nat} {a w:World} (h:Below B a w) (n:Nat):Below B a (w.drewN n):=h.trans ⟨rfl,rfl,rfl,Nat.le_refl _,fun _ _=>rfl⟩
set_option maxHeartbeats 4000000 in
set_option maxRecDepth 100000 in
theorem field_any (w:World) (o:List (ByteArray×V)) (key:ByteArray) (k n:Int) (s:ByteArray) (la:Option Addr) (ll lc:Nat) (oa:Option Addr) (ol oc:Nat) (h:IsFields w w.heap.size o oa ol oc):
    Calls Tryz.prog 101 #[.agg #[.int .u8 k, .int .i64 n, .string s, .slice la ll lc, .slice oa ol oc], .string key] w fun e w'=>e= .returned (.tuple #[.int .i64 (fieldK o key:Int), .bool (fieldIs o key)])∧Below w.heap.size w w':=by
  have hlen:=h.len
  have HI:=Lib.hid h
  have HL:=Lib.hid hlen
  have k1:=h.max;have k2:=h.few
  have HB0:=Lib.hid (BC.start w #[.int .u8 k, .int .i64 n, .string s, .slice la ll lc, .slice oa ol oc] 33)
  clear h hlen
  go_enter Tryz.func101,Tryz.ntmps101
  go_wp2_with fail
  go_loopw [6] (fun i wr=>BC wr w.heap.size [.int .u8 k, .int .i64 n, .string s, .slice la ll lc, .slice oa ol oc] ∧Below w.heap.size w wr∧∃j:Nat,j≤ol∧i= .int .i64 j∧Hid (∀i (hi:i<o.length),i<j→Op.bytesLess (o[i]'hi).1.toList key.toList=true)) (fun i _=>ol - (intOf i).toNat)
  case atStart=>exact ⟨HB0.out,(Below.refl _ _).alloc (Nat.le_refl _) _,0,Nat.zero_le _,rfl,Lib.hid (fun i hi hj=>by omega)⟩
  case round=>
    obtain ⟨hbc,hbl,j,hj,rfl,hall⟩:=hrel
    have c4:=hbc.at_ 4 _ rfl
    have zs:=hbc.lt
    have HBC:=Lib.hid hbc
    have HBL:=Lib.hid hbl
    by_cases hlt:j<ol
    · obtain ⟨b,o',f,hp,rfl,hbB,hkey,hks,_⟩:=(HI.out.keep hbl).get hlt
      have hbw:b<wr.heap.size:=World.block_lt_of_cell? wr _ hkey
      obtain ⟨lb,hlb⟩:∃lb,Op.bytesLess (o[j]'hp).1.toList key.toList=lb:=⟨_,rfl⟩
      cases lb with
      | true=>
        have HLB:=Lib.hid hlb
        clear hbc hbl
        go_wp2_with fail
        go_roundw
        case rel=>exact ⟨HBC.out,HBL.out,j+1,by omega,by go_num,Lib.hid (fun i hi hij=>by
          by_cases e:i=j
          · subst e;exact HLB.out
          · exact hall.out i hi (by omega))⟩
        case measure=>simp [intOf];omega
      | false=>
        obtain ⟨eb,heb⟩:∃eb,((o[j]'hp).1.toList==key.toList)=eb:=⟨_,rfl⟩
        have hk:fieldK o key=j:=fieldK_at o key j hall.out (by omega) (.inr ⟨hp,hlb⟩)
        have hi:fieldIs o key=eb:=by
          rw [fieldIs,hk,List.getElem?_eq_getElem hp];exact heb
        have HK:=Lib.hid hk
        have HII:=Lib.hid hi
        clear hbc hbl hk hi
        go_wp2_with fail
        go_quiet (fail)
        go_wp2_with fail
        go_returns
        exact ⟨by rw [HK.out,HII.out];rfl,belowN HBL.out _⟩
    · have hj2:j=ol:=by omega
      subst hj2
      have hk:fieldK o key=j:=fieldK_at o key j hall.out (by rw [HL.out];exact Nat.le_refl _) (.inl HL.out)
      have hi:fieldIs o key=false:=by
        rw [fieldIs,hk,List.getElem?_eq_none (by rw [HL.out];exact Nat.le_refl _)]
      have HK:=Lib.hid hk
      have HII:=Lib.hid hi
      clear hbc hbl hk hi
      go_wp2_with fail
      go_quiet (fail)
      go_wp2_with fail
      go_returns
      exact ⟨by rw [HK.out,HII.out];rfl,belowN HBL.out _⟩
end Go.Proofs.YtgcfhkceejcliaaGreatDoor
namespace Go.Proofs.YtgcfhkceejcliaaGreatDoor
open Go.RowKit
def withF (o:List (ByteArray×V)) (key:ByteArray) (x:V):List (ByteArray×V):=o.take (fieldK o key)++(key,x)::o.drop (if fieldIs o key=true then fieldK o key+1 else fieldK o key)
theorem fieldK_le (o:List (ByteArray×V)) (key:ByteArray):fieldK o key≤o.length:=(List.takeWhile_sublist _).length_le
theorem fieldIs_lt {o:List (ByteArray×V)} {key:ByteArray} (h:fieldIs o key=true):fieldK o key<o.length:=by
  unfold fieldIs at h
  by_cases hq:fieldK o key<o.length
  · exact hq
  · rw [List.getElem?_eq_none (by omega)] at h;cases h
theorem IsFields.cells {w:World} {B:Nat} {o:List (ByteArray×V)} {a:Option Addr} {n c:Nat} (h:IsFields w B o a n c):
    ∃(cs:List (ByteArray×VC)) (b off:Nat),cs.length=o.length∧(0<n→a=some ⟨b,off,none⟩∧b<B)∧(∀j u,(cs.flatMap fcells)[j]? =some u→w.cell? ⟨b,off+j,none⟩=some u)∧∀i,i<o.length→PF o cs w B i:=by
  obtain ⟨h1,h2,h3,h4,b,off,f,h5,h6⟩:=h
  have hlen:((List.range o.length).map fun i=>((o.getD i (.empty,V.none)).1,f i)).length=o.length:=by simp
  have hget:∀i (hi:i<o.length),((List.range o.length).map fun i=>((o.getD i (.empty,V.none)).1,f i))[i]? =some (o[i].1,f i):=by
    intro i hi
    simp [hi,List.getD_eq_getElem?_getD]
  refine ⟨(List.range o.length).map fun i=>((o.getD i (.empty,V.none)).1,f i),b,off,hlen,h5,fun j u hj=> ?_,fun i hi h=> ?_⟩
  · have hjl:j<o.length*6:=by
      have:=(List.getElem?_eq_some_iff.1 hj).1
      rw [flat_length fcells 6 (fun _=>rfl),hlen] at this
      exact this
    have hi:j / 6<o.length:=by omega
    have hd:j=j / 6*6+j % 6:=by omega
    rw [hd,flat_get fcells 6 (fun _=>rfl) _ (j / 6) (j % 6) (by rw [hlen];exact hi) (by omega)] at hj
    have he:((List.range o.length).map fun i=>((o.getD i (.empty,V.none)).1,f i))[j / 6]'(by rw [hlen];exact hi)=(o[j / 6].1,f (j / 6)):=by
      have:=hget (j / 6) hi
      rw [List.getElem?_eq_getElem (by rw [hlen];exact hi)] at this
      exact Option.some.inj this
    rw [he] at hj
    obtain ⟨g1,g2,g3,g4⟩:=h6 (j / 6) hi
    have hm:j % 6<6:=by omega
    rw [hd, ←Nat.add_assoc]
    obtain ⟨m,hmm⟩:∃m,j % 6=m:=⟨_,rfl⟩
    rw [hmm] at hj hm ⊢
    match m,hm with
    |0,_=>rw [←hj];exact g1
    |1,_=>rw [←hj];exact g3.c0
    |2,_=>rw [←hj];exact g3.c1
    |3,_=>rw [←hj];exact g3.c2
    |4,_=>rw [←hj];exact g3.c3
    |5,_=>rw [←hj];exact g3.c4
  · obtain ⟨g1,g2,g3,g4⟩:=h6 i hi
    have he:((List.range o.length).map fun i=>((o.getD i (.empty,V.none)).1,f i)).getD i fzero=(o[i].1,f i):=by
      rw [List.getD_eq_getElem?_getD,hget i hi];rfl
    rw [he]
    exact ⟨rfl,g2,g4⟩
theorem isFields_of_own {w:World} {B0 B1:Nat} {v:Value} {l:List (ByteArray×V)} {cs:List (ByteArray×VC)} (hown:w.ownsRow B1 98 6 v l.length (cs.flatMap fcells)) (hB:B0≤B1) (hl:cs.length=l.length) (hels:∀i,i<l.length→PF l cs (only (Free B0 v) w) w.heap.size i) (hfew:l.length≤1466015503701):
    ∃a n c,v= .slice a n c∧IsFields (only (fun b=>B0≤b) w) w.heap.size l a n c∧(a=none→c=0):=by
  have hown2:w.ownsRow B0 98 6 v l.length (cs.flatMap fcells):=by
    refine ⟨hown.1, ?_⟩
    rcases hown.2 with h|⟨g,cap,cur,h1,h2,h3⟩
    · exact .inl h
    · exact .inr ⟨g,cap,cur,h1,Nat.le_trans hB h2,h3⟩
  have hv:∃a n c,v= .slice a n c∧(a=none→c=0):=by
    rcases hown.2 with ⟨h,_⟩|⟨g,cap,cur,h1,_⟩
    · exact ⟨_,_,_,h,fun _=>rfl⟩
    · exact ⟨_,_,_,h1,fun h=>by cases h⟩
  obtain ⟨a,n,c,rfl,hz⟩:=hv
  have hrow:RowF w B0 (.slice a n c) l cs:=⟨hown2,hels⟩
  have:=(RowF.val hrow (lo:=B0) hl (Nat.le_refl _) 5 (by omega) (by omega) hfew).lists
  exact ⟨a,n,c,rfl,this.2.2.2.2.2,hz⟩
def WithPost (w:World) (B0:Nat) (l:List (ByteArray×V)) (e:Ending) (w':World):Prop:=
  (∃a n c,e= .returned (.slice a n c)∧IsFields (only (fun b=>B0≤b) w') w'.heap.size l a n c∧(a=none→c=0))∧Below w.heap.size w w'
end Go.Proofs.YtgcfhkceejcliaaGreatDoor
namespace Go.Proofs.YtgcfhkceejcliaaGreatDoor
open Go.RowKit
def stepP (v:V) (s:St):Option (V×Nat):=
  if s.list=true then (if v.kd=4∧0≤s.i∧s.i<v.ls.length then some (v.ls.getD s.i.toNat V.none,s.i.toNat) else none)
  else if v.kd=5∧fieldIs v.os s.key=true then some ((v.os.getD (fieldK v.os s.key) (.empty,V.none)).2,fieldK v.os s.key) else none
def getP:V→List St→Option V
  |v, [] =>some v
  | v,s::r=>match stepP v s with
    |none=>none
    |some q=>getP q.1 r
def putP:V→List St→V→Option V
  |_, [],x=>some x
  | v,s::r,x=>match stepP v s with
    |none=>none
    | some q=>match putP q.1 r x with
      |none=>none
      |some z=>some (if s.list=true then v.setL q.2 z else v.setO q.2 z)
theorem stepP_some {v:V} {s:St} {x:V} {k:Nat} (h:stepP v s=some (x,k)):
    (s.list=true∧v.kd=4∧(k:Int)=s.i∧∃hk:k<v.ls.length,v.ls[k] =x)∨(s.list=false∧v.kd=5∧k=fieldK v.os s.key∧∃hk:k<v.os.length,v.os[k].2=x):=by
  unfold stepP at h
  by_cases hl:s.list=true
  · rw [if_pos hl] at h
    split at h
    · rename_i hc
      injection h with h;injection h with h1 h2
      have hk:k<v.ls.length:=by omega
      refine .inl ⟨hl,hc.1,by omega,hk, ?_⟩
      subst h2
      rw [←h1]
      simp [List.getD_eq_getElem?_getD,hk]
    · cases h
  · rw [if_neg hl] at h
    split at h
    · rename_i hc
      injection h with h;injection h with h1 h2
      have hk:k<v.os.length:=by rw [←h2];exact fieldIs_lt hc.2
      refine .inr ⟨by simpa using hl,hc.1,h2.symm,hk, ?_⟩
      subst h2
      rw [←h1]
      simp [List.getD_eq_getElem?_getD,hk]
    · cases h
end Go.Proofs.YtgcfhkceejcliaaGreatDoor
namespace Go.Proofs.YtgcfhkceejcliaaGreatDoor
open Go.RowKit
def StepPost (w0:World) (B0:Nat) (w:World) (r:Option (V×Nat)) (e:Ending) (w':World):Prop:=
  (match r with
    |some q=>∃c:VC,e= .returned (.tuple #[.agg #[.int .u8 c.k, .int .i64 c.n, .string c.s, .slice c.la c.ll c.lc, .slice c.oa c.ol c.oc], .int .i64 (q.2:Int), .int .i64 0])∧IsVal w0 B0 q.1 c
    |none=>e= .returned (.tuple #[.agg #[.int .u8 0, .int .i64 0, .string { data:= #[] }, .slice none 0 0, .slice none 0 0], .int .i64 0, .int .i64 30]))∧Below w.heap.size w w'
theorem results_step3 {tmps:Array Value} {W:World} {b:Nat} {c:VC} {x y:Value} (ht:tmps[4]? =some (.pointer (some ⟨b,0,none⟩))) (hx:tmps[5]? =some x) (hy:tmps[6]? =some y) (h:BC W b (vcells c)):
    (results Tryz.f102 tmps).run Tryz.prog W= .ok (.tuple #[.agg #[.int .u8 c.k, .int .i64 c.n, .string c.s, .slice c.la c.ll c.lc, .slice c.oa c.ol c.oc],x,y]) W:=by
  obtain ⟨r0,r1,r2,r3,r4⟩:=(⟨h.at_ 0 _ rfl,h.at_ 1 _ rfl,h.at_ 2 _ rfl,h.at_ 3 _ rfl,h.at_ 4 _ rfl⟩:W.cell? ⟨b,0,none⟩=some (.int .u8 c.k)∧W.cell? ⟨b,1,none⟩=some (.int .i64 c.n)∧W.cell? ⟨b,2,none⟩=some (.string c.s)∧W.cell? ⟨b,3,none⟩=some (.slice c.la c.ll c.lc)∧W.cell? ⟨b,4,none⟩=some (.slice c.oa c.ol c.oc))
  simp [results,Tryz.results102,go_sem,ht,hx,hy,r0,r1,r2,r3,r4]
theorem step_none {w0:World} {B0:Nat} {w W:World} {x:Act} (h:BC W (w.heap.size+1+1) (vcells vzero)) (hb:Below w.heap.size w W) (hd:x.defers= []) (ht:x.tmps[4]? =some (.pointer (some ⟨w.heap.size+1+1,0,none⟩))) (hx:x.tmps[5]? =some (.int .i64 0)) (hy:x.tmps[6]? =some (.int .i64 30)):
    bodyPost Tryz.prog Tryz.f102 (StepPost w0 B0 w none) .ret x W:=⟨hd,_,results_step3 ht hx hy h,rfl,hb⟩
theorem step_some {w0:World} {B0:Nat} {w W:World} {x:Act} {c:VC} {v:V} {k:Nat} (h:BC W (w.heap.size+1+1) (vcells c)) (hv:IsVal w0 B0 v c) (hb:Below w.heap.size w W) (hd:x.defers= []) (ht:x.tmps[4]? =some (.pointer (some ⟨w.heap.size+1+1,0,none⟩))) (hx:x.tmps[5]? =some (.int .i64 (k:Int))) (hy:x.tmps[6]? =some (.int .i64 0)):
    bodyPost Tryz.prog Tryz.f102 (StepPost w0 B0 w (some (v,k))) .ret x W:=⟨hd,_,results_step3 ht hx hy h,⟨c,rfl,hv⟩,hb⟩
structure SB (w W:World) (c:VC) (s:St):Prop where
  v:BC W w.heap.size (vcells c)
  s:BC W (w.heap.size+1) [.bool s.list, .int .i64 s.i, .string s.key]
  r:BC W (w.heap.size+1+1) (vcells vzero)
  below:Below w.heap.size w W
theorem SB.start (w:World) (c:VC) (s:St) (t1 t2 t3:TypeId):SB w (((w.alloc (.cells #[.int .u8 c.k, .int .i64 c.n, .string c.s, .slice c.la c.ll c.lc, .slice c.oa c.ol c.oc] t1)).alloc (.cells #[.bool s.list, .int .i64 s.i, .string s.key] t2)).alloc (.cells #[.int .u8 0, .int .i64 0, .string { data:= #[] }, .slice none 0 0, .slice none 0 0] t3)) c s:=by
  obtain ⟨w1,hw1⟩:∃w1,w.alloc (.cells #[.int .u8 c.k, .int .i64 c.n, .string c.s, .slice c.la c.ll c.lc, .slice c.oa c.ol c.oc] t1)=w1:=⟨_,rfl⟩
  have s1:w1.heap.size=w.heap.size+1:=by rw [←hw1,World.size_alloc]
  have b1:Below w.heap.size w w1:=by rw [←hw1];exact (Below.refl _ _).alloc (Nat.le_refl _) _
  have c1:BC w1 w.heap.size (vcells c):=by rw [←hw1];exact BC.start w #[.int .u8 c.k, .int .i64 c.n, .string c.s, .slice c.la c.ll c.lc, .slice c.oa c.ol c.oc] t1
  rw [hw1]
  obtain ⟨w2,hw2⟩:∃w2,w1.alloc (.cells #[.bool s.list, .int .i64 s.i, .string s.key] t2)=w2:=⟨_,rfl⟩
  have s2:w2.heap.size=w.heap.size+1+1:=by rw [←hw2,World.size_alloc,s1]
  have b2:Below w1.heap.size w1 w2:=by rw [←hw2];exact (Below.refl _ _).alloc (Nat.le_refl _) _
  have c2:=BC.start w1 #[.bool s.list, .int .i64 s.i, .string s.key] t2
  rw [hw2,s1] at c2
  rw [hw2]
  have b3:Below w2.heap.size w2 (w2.alloc (.cells #[.int .u8 0, .int .i64 0, .string { data:= #[] }, .slice none 0 0, .slice none 0 0] t3)):=(Below.refl _ _).alloc (Nat.le_refl _) _
  have c3:=BC.start w2 #[.int .u8 0, .int .i64 0, .string { data:= #[] }, .slice none 0 0, .slice none 0 0] t3
  rw [s2] at c3
  exact ⟨(c1.keep b2 (by omega)).keep b3 (by omega),c2.keep b3 (by omega),c3,(b1.trans (b2.mono (by omega))).trans (b3.mono (by omega))⟩
theorem SB.next {w W W':World} {c:VC} {s:St} (h:SB w W c s) (hb:Below W.heap.size W W'):SB w W' c s:=
  ⟨h.v.keep hb h.v.lt,h.s.keep hb h.s.lt,h.r.keep hb h.r.lt,h.below.trans (hb.mono (Nat.le_of_lt h.v.lt))⟩
theorem SB.stored {w W:World} {c:VC} {s:St} (h:SB w W c s) (d:VC):BC (((((W.setCell ⟨w.heap.size+1+1,0,none⟩ (.int .u8 d.k)).setCell ⟨w.heap.size+1+1,1,none⟩ (.int .i64 d.n)).setCell ⟨w.heap.size+1+1,2,none⟩ (.string d.s)).setCell ⟨w.heap.size+1+1,3,none⟩ (.slice d.la d.ll d.lc)).setCell ⟨w.heap.size+1+1,4,none⟩ (.slice d.oa d.ol d.oc)) (w.heap.size+1+1) (vcells d)∧Below w.heap.size w (((((W.setCell ⟨w.heap.size+1+1,0,none⟩ (.int .u8 d.k)).setCell ⟨w.heap.size+1+1,1,none⟩ (.int .i64 d.n)).setCell ⟨w.heap.size+1+1,2,none⟩ (.string d.s)).setCell ⟨w.heap.size+1+1,3,none⟩ (.slice d.la d.ll d.lc)).setCell ⟨w.heap.size+1+1,4,none⟩ (.slice d.oa d.ol d.oc)):=
  ⟨bc_store h.r d,h.below.trans ((setV_step W (w.heap.size+1+1) 0 d).below (Nat.le_of_lt h.r.lt)|>.mono (by omega))⟩
set_option maxHeartbeats 4000000 in
set_option maxRecDepth 100000 in
theorem step_list (w:World) (vk vn:Int) (vs:ByteArray) (la:Option Addr) (ll lc:Nat) (oa:Option Addr) (ol oc:Nat) (v:V) (w0:World) (B0:Nat) (hb0:Below B0 w0 w) (hB0:B0≤w.heap.size) (hv:IsVal w0 B0 v ⟨vk,vn,vs,la,ll,lc,oa,ol,oc⟩) (s:St) (hs:s.Bnd) (hl:s.list=true):
    Calls Tryz.prog 102 #[.agg #[.int .u8 vk, .int .i64 vn, .string vs, .slice la ll lc, .slice oa ol oc], .agg #[.bool s.list, .int .i64 s.i, .string s.key]] w (StepPost w0 B0 w (stepP v s)):=by
  obtain ⟨sl,si,sk⟩:=s
  dsimp only at hl hs ⊢
  subst hl
  have hi0:=hs.i0;have hi1:=hs.i1
  dsimp only at hi0 hi1
  obtain ⟨k',n',s',l,o,rfl⟩:=v.eta
  obtain ⟨ek,en,es,hbd,hvl,hvo⟩:=hv.lists
  dsimp only at ek en es hbd hvl hvo
  subst ek en es
  have k1:=hvl.few;have k2:=hvl.max;have k3:=hvo.few;have k4:=hvo.max
  have HL:=Lib.hid hvl
  have HO:=Lib.hid hvo
  have HLN:=Lib.hid hvl.len
  have HON:=Lib.hid hvo.len
  have HB:=Lib.hid (SB.start w ⟨vk,vn,vs,la,ll,lc,oa,ol,oc⟩ ⟨true,si,sk⟩ 33 56 33)
  obtain ⟨R,hR⟩:∃R,stepP (.mk vk vn vs l o) ⟨true,si,sk⟩=R:=⟨_,rfl⟩
  rw [hR]
  clear hvl hvo hv hs hbd
  by_cases h4:vk=4
  case neg=>
    have f0:(vk !=4)=true:=by simp [h4]
    obtain rfl:R=none:=by rw [←hR];simp [stepP,V.kd];intro h;omega
    clear hR
    go_enter Tryz.func102,Tryz.ntmps102
    generalize hQ0:bodyPost _ _ _=Q0
    have HQ:=Lib.hid hQ0
    clear hQ0
    go_wp2_with fail
    rw [←HQ.out]
    exact step_none HB.out.r HB.out.below rfl rfl rfl rfl
  case pos=>
    cases h4
    by_cases h5:si<0
    · obtain rfl:R=none:=by rw [←hR];simp [stepP];omega
      clear hR
      go_enter Tryz.func102,Tryz.ntmps102
      generalize hQ0:bodyPost _ _ _=Q0
      have HQ:=Lib.hid hQ0
      clear hQ0
      go_wp2_with fail
      rw [←HQ.out]
      exact step_none HB.out.r HB.out.below rfl rfl rfl rfl
    · by_cases h6:(ll:Int)≤si
      · obtain rfl:R=none:=by rw [←hR];simp [stepP,V.ls,V.kd];have:=HLN.out;omega
        clear hR
        go_enter Tryz.func102,Tryz.ntmps102
        generalize hQ0:bodyPost _ _ _=Q0
        have HQ:=Lib.hid hQ0
        clear hQ0
        go_wp2_with fail
        rw [←HQ.out]
        exact step_none HB.out.r HB.out.below rfl rfl rfl rfl
      · obtain ⟨j,rfl⟩:∃j:Nat,si=j:=⟨si.toNat,by omega⟩
        have hj:j<ll:=by omega
        obtain ⟨b,q,f,hp,rfl,hbB,hvf,hI⟩:=HL.out.get hj
        have hvf:=hvf.keep hb0 hbB
        have c0:=hvf.c0;have c1:=hvf.c1;have c2:=hvf.c2;have c3:=hvf.c3;have c4:=hvf.c4
        have hbw:b<w.heap.size:=Nat.lt_of_lt_of_le hbB hB0
        obtain rfl:R=some (l[j],j):=by rw [←hR];simp [stepP,V.ls,V.kd,hp]
        have HI:=Lib.hid hI
        clear hR hI hvf
        go_enter Tryz.func102,Tryz.ntmps102
        generalize hQ0:bodyPost _ _ _=Q0
        have HQ:=Lib.hid hQ0
        clear hQ0
        go_wp2_with fail
        have B:=HB.out
        obtain ⟨W,hW⟩:∃W,(((w.alloc (.cells #[.int .u8 4, .int .i64 vn, .string vs, .slice (some ⟨b,q,none⟩) ll lc, .slice oa ol oc] 33)).alloc (.cells #[.bool true, .int .i64 j, .string sk] 56)).alloc (.cells #[.int .u8 0, .int .i64 0, .string { data:= #[] }, .slice none 0 0, .slice none 0 0] 33))=W:=⟨_,rfl⟩
        rw [hW] at B ⊢
        clear HB
        obtain ⟨v0,v1,v2,v3,v4⟩:=row5 B.v.at_
        have s0:=B.s.at_ 0 _ rfl;have s1:=B.s.at_ 1 _ rfl;have s2:=B.s.at_ 2 _ rfl
        obtain ⟨r0,r1,r2,r3,r4⟩:=row5 B.r.at_
        have f0:=B.r.fr 0;have f1:=B.r.fr 1;have f2:=B.r.fr 2;have f3:=B.r.fr 3;have f4:=B.r.fr 4
        have zs0:=B.v.lt;have zs1:=B.s.lt;have zs2:=B.r.lt
        have hkp:∀o u,w.cell? ⟨b,o,none⟩=some u→b<w.heap.size→W.cell? ⟨b,o,none⟩=some u:=fun o u h hb=>keep_cell B.below h hb
        have c0:=hkp _ _ c0 hbw;have c1:=hkp _ _ c1 hbw;have c2:=hkp _ _ c2 hbw;have c3:=hkp _ _ c3 hbw;have c4:=hkp _ _ c4 hbw
        have hbw:b<W.heap.size:=by have:=B.below.size;omega
        have HBB:=Lib.hid B
        clear B hkp
        go_region
        go_wp2_with fail
        rw [←HQ.out]
        have ST:=HBB.out.stored f
        exact step_some (k:=j) (ST.1.keep (drew_below _) ST.1.lt) HI.out ST.2.drew rfl rfl rfl rfl
set_option maxHeartbeats 4000000 in
set_option maxRecDepth 100000 in
theorem step_obj (w:World) (vk vn:Int) (vs:ByteArray) (la:Option Addr) (ll lc:Nat) (oa:Option Addr) (ol oc:Nat) (v:V) (w0:World) (B0:Nat) (hb0:Below B0 w0 w) (hB0:B0≤w.heap.size) (hv:IsVal w0 B0 v ⟨vk,vn,vs,la,ll,lc,oa,ol,oc⟩) (s:St) (hs:s.Bnd) (hl:s.list=false):
    Calls Tryz.prog 102 #[.agg #[.int .u8 vk, .int .i64 vn, .string vs, .slice la ll lc, .slice oa ol oc], .agg #[.bool s.list, .int .i64 s.i, .string s.key]] w (StepPost w0 B0 w (stepP v s)):=by
  obtain ⟨sl,si,sk⟩:=s
  dsimp only at hl hs ⊢
  subst hl
  have hi0:=hs.i0;have hi1:=hs.i1
  dsimp only at hi0 hi1
  obtain ⟨k',n',s',l,o,rfl⟩:=v.eta
  obtain ⟨ek,en,es,hbd,hvl,hvo⟩:=hv.lists
  dsimp only at ek en es hbd hvl hvo
  subst ek en es
  have k1:=hvl.few;have k2:=hvl.max;have k3:=hvo.few;have k4:=hvo.max
  have HL:=Lib.hid hvl
  have HO:=Lib.hid hvo
  have HLN:=Lib.hid hvl.len
  have HON:=Lib.hid hvo.len
  have HB:=Lib.hid (SB.start w ⟨vk,vn,vs,la,ll,lc,oa,ol,oc⟩ ⟨false,si,sk⟩ 33 56 33)
  obtain ⟨R,hR⟩:∃R,stepP (.mk vk vn vs l o) ⟨false,si,sk⟩=R:=⟨_,rfl⟩
  rw [hR]
  clear hvl hvo hv hs hbd
  have HF:Hid (∀W,Below w.heap.size w W→Calls Tryz.prog 101 #[.agg #[.int .u8 vk, .int .i64 vn, .string vs, .slice la ll lc, .slice oa ol oc], .string sk] W fun e w'=>e= .returned (.tuple #[.int .i64 (fieldK o sk:Int), .bool (fieldIs o sk)])∧Below W.heap.size W w'):=fun W hW=>field_any W o sk vk vn vs la ll lc oa ol oc (((HO.out.keep hb0).more hB0).later_ hW)
  obtain ⟨K,hK⟩:∃K,fieldK o sk=K:=⟨_,rfl⟩
  obtain ⟨is,hi⟩:∃is,fieldIs o sk=is:=⟨_,rfl⟩
  rw [hK,hi] at HF
  by_cases h4:vk=5
  case neg=>
    have f0:(vk !=5)=true:=by simp [h4]
    clear hK hi
    obtain rfl:R=none:=by rw [←hR];simp [stepP,V.kd,h4]
    clear hR
    go_enter Tryz.func102,Tryz.ntmps102
    generalize hQ0:bodyPost _ _ _=Q0
    have HQ:=Lib.hid hQ0
    clear hQ0
    go_wp2_with fail
    refine (HF.out _ HB.out.below).mono ?_
    rintro e W ⟨rfl,hb1⟩
    have B:=HB.out.next hb1
    obtain ⟨v0,v1,v2,v3,v4⟩:=row5 B.v.at_
    have s0:=B.s.at_ 0 _ rfl;have s1:=B.s.at_ 1 _ rfl;have s2:=B.s.at_ 2 _ rfl
    obtain ⟨r0,r1,r2,r3,r4⟩:=row5 B.r.at_
    have f0:=B.r.fr 0;have f1:=B.r.fr 1;have f2:=B.r.fr 2;have f3:=B.r.fr 3;have f4:=B.r.fr 4
    have zs0:=B.v.lt;have zs1:=B.s.lt;have zs2:=B.r.lt
    have HBB:=Lib.hid B
    clear B hb1
    go_wp2_with fail
    rw [←HQ.out]
    have ST:=HBB.out.stored ⟨0,0, { data:= #[] },none,0,0,none,0,0⟩
    exact step_none ST.1 ST.2 rfl rfl rfl rfl
  case pos=>
    cases h4
    cases is with
    | false=>
      clear hK
      obtain rfl:R=none:=by rw [←hR];simp [stepP,V.os,hi]
      clear hR hi
      go_enter Tryz.func102,Tryz.ntmps102
      generalize hQ0:bodyPost _ _ _=Q0
      have HQ:=Lib.hid hQ0
      clear hQ0
      go_wp2_with fail
      refine (HF.out _ HB.out.below).mono ?_
      rintro e W ⟨rfl,hb1⟩
      have B:=HB.out.next hb1
      obtain ⟨v0,v1,v2,v3,v4⟩:=row5 B.v.at_
      have s0:=B.s.at_ 0 _ rfl;have s1:=B.s.at_ 1 _ rfl;have s2:=B.s.at_ 2 _ rfl
      obtain ⟨r0,r1,r2,r3,r4⟩:=row5 B.r.at_
      have f0:=B.r.fr 0;have f1:=B.r.fr 1;have f2:=B.r.fr 2;have f3:=B.r.fr 3;have f4:=B.r.fr 4
      have zs0:=B.v.lt;have zs1:=B.s.lt;have zs2:=B.r.lt
      have HBB:=Lib.hid B
      clear B hb1
      go_wp2_with fail
      rw [←HQ.out]
      have ST:=HBB.out.stored ⟨0,0, { data:= #[] },none,0,0,none,0,0⟩
      exact step_none ST.1 ST.2 rfl rfl rfl rfl
    | true=>
      have hj:K<ol:=by have:=fieldIs_lt hi;rw [hK, ←HON.out] at this;exact this
      obtain ⟨b,q,f,hp,rfl,hbB,_,_,hvf,hI⟩:=HO.out.get hj
      obtain rfl:R=some (o[K].2,K):=by rw [←hR];simp [stepP,V.kd,V.os,hK,hi,hp]
      have HI:=Lib.hid hI
      have HVF:=Lib.hid hvf
      clear hR hI hvf hK hi
      go_enter Tryz.func102,Tryz.ntmps102
      generalize hQ0:bodyPost _ _ _=Q0
      have HQ:=Lib.hid hQ0
      clear hQ0
      go_wp2_with fail
      refine (HF.out _ HB.out.below).mono ?_
      rintro e W ⟨rfl,hb1⟩
      have B:=HB.out.next hb1
      obtain ⟨v0,v1,v2,v3,v4⟩:=row5 B.v.at_
      have s0:=B.s.at_ 0 _ rfl;have s1:=B.s.at_ 1 _ rfl;have s2:=B.s.at_ 2 _ rfl
      obtain ⟨r0,r1,r2,r3,r4⟩:=row5 B.r.at_
      have f0:=B.r.fr 0;have f1:=B.r.fr 1;have f2:=B.r.fr 2;have f3:=B.r.fr 3;have f4:=B.r.fr 4
      have zs0:=B.v.lt;have zs1:=B.s.lt;have zs2:=B.r.lt
      have hbw:b<w.heap.size:=Nat.lt_of_lt_of_le hbB hB0
      have hvf:=((HVF.out.keep hb0 hbB).keep HB.out.below hbw).keep hb1 (by have:=HB.out.below.size;omega)
      have c0:=hvf.c0;have c1:=hvf.c1;have c2:=hvf.c2;have c3:=hvf.c3;have c4:=hvf.c4
      have hbw:b<W.heap.size:=World.block_lt_of_cell? W _ c0
      have HBB:=Lib.hid B
      clear B hb1 hvf
      go_wp2_with fail
      rw [←HQ.out]
      have ST:=HBB.out.stored f
      exact step_some (k:=K) ST.1 HI.out ST.2 rfl rfl rfl rfl
theorem step_any (w:World) (vk vn:Int) (vs:ByteArray) (la:Option Addr) (ll lc:Nat) (oa:Option Addr) (ol oc:Nat) (v:V) (w0:World) (B0:Nat) (hb0:Below B0 w0 w) (hB0:B0≤w.heap.size) (hv:IsVal w0 B0 v ⟨vk,vn,vs,la,ll,lc,oa,ol,oc⟩) (s:St) (hs:s.Bnd):
    Calls Tryz.prog 102 #[.agg #[.int .u8 vk, .int .i64 vn, .string vs, .slice la ll lc, .slice oa ol oc], .agg #[.bool s.list, .int .i64 s.i, .string s.key]] w (StepPost w0 B0 w (stepP v s)):=by
  cases hl:s.list with
  |true=>have:=step_list w vk vn vs la ll lc oa ol oc v w0 B0 hb0 hB0 hv s hs hl;rw [hl] at this;exact this
  |false=>have:=step_obj w vk vn vs la ll lc oa ol oc v w0 B0 hb0 hB0 hv s hs hl;rw [hl] at this;exact this
end Go.Proofs.YtgcfhkceejcliaaGreatDoor
namespace Go.Proofs.YtgcfhkceejcliaaGreatDoor
open Go.RowKit
def CopyPost (w:World) (k n:Int) (s:ByteArray) (l:List V) (o:List (ByteArray×V)) (e:Ending) (w':World):Prop:=
  (∃a m c a' m' c' cl co,e= .returned (.agg #[.int .u8 k, .int .i64 n, .string s, .slice a m c, .slice a' m' c'])∧Fresh w' w.heap.size l o a m c a' m' c' cl co)∧Below w.heap.size w w'
structure CL1 (w wr:World) (c0:VC) (l:List V) (j:Nat) (a:Option Addr) (m c:Nat) (xs:List V) (cs:List VC):Prop where
  rd:l.take j=xs
  len:xs.length=j
  cen:cs.length=j
  box:BC wr w.heap.size (vcells c0)
  res:BC wr (w.heap.size+1) (vcells vzero)
  below:Below w.heap.size w wr
  row:RowV wr (w.heap.size+2) (.slice a m c) xs cs
theorem CL1.round {w wr w4 w6 w7:World} {c0:VC} {l:List V} {j:Nat} {a:Option Addr} {m c:Nat} {xs:List V} {cs:List VC} {x:V} {cx:VC} {g cap:Nat}
    (h:CL1 w wr c0 l j a m c xs cs) (hj:j<l.length) (hx:l[j] =x) (hb4:Below wr.heap.size wr w4) (hI:IsVal (only (fun b=>wr.heap.size≤b) w4) w4.heap.size x cx) (hb6:Below w4.heap.size w4 w6)
    (hown:w7.ownsRow (w.heap.size+2) 33 5 (.slice (some ⟨g,0,none⟩) (j+1) cap) (j+1) (cs.flatMap vcells++vcells cx)) (hg:w6.grownBy w7 (Value.slice a m c).ownBlock)
    (hat:(Value.slice a m c).ownBlock=some g∨w4.heap.size≤g):
    CL1 w w7 c0 l (j+1) (some ⟨g,0,none⟩) (j+1) cap (xs++ [x]) (cs++ [cx]):=by
  have hrow:=h.row.later (PV.closed xs cs) (.of_below 0 hb4) (by omega)
  have hrlt:∀b,(Value.slice a m c).ownBlock=some b→w.heap.size+2≤b∧b<wr.heap.size:=h.row.lt
  have hsz:=h.box.lt
  have hsr:=h.res.lt
  have hsz4:=hb4.size
  have hsz6:=hb6.size
  have hgb:Below (w.heap.size+2) w6 w7:=grown_below hg (fun b hb=>(hrlt b hb).1) (by omega)
  have hb67:Below (w.heap.size+2) w4 w7:=(hb6.mono (by omega)).trans hgb
  obtain ⟨s1,s2⟩:=PV.snoc (l:=xs) (cs:=cs) (by rw [h.len,h.cen]) x cx
  have hnew:PV (xs++ [x]) (cs++ [cx]) (only (Free (w.heap.size+2) (.slice a m c)) w4) w4.heap.size xs.length:=s1 _ _ (hI.sub (shows_step fun b hb _=>⟨⟨by omega,fun e=>by have:=(hrlt b e.symm).2;omega⟩,rfl⟩))
  have hpush:=Row.push (PV.closed (xs++ [x]) (cs++ [cx])) hrow hb6 hg (u':= .slice (some ⟨g,0,none⟩) (j+1) cap) (news:=vcells cx) (by rw [h.len];exact hown) (by
    rcases hat with e|e
    · left;rw [e];rfl
    · right;intro b hb;have:g=b:=by simpa [Value.ownBlock] using hb
      omega) hnew s2
  refine ⟨?_,by simp [h.len],by simp [h.cen],(h.box.keep hb4 (by omega)).keep hb67 (by omega),(h.res.keep hb4 (by omega)).keep hb67 (by omega),(h.below.trans (hb4.mono (by omega))).trans (hb67.mono (by omega)), ?_⟩
  · rw [take_snoc l j hj,h.rd,hx]
  · show Row _ _ _ _ _ _ _ _
    rw [flat_snoc,List.length_append,List.length_singleton]
    exact hpush
structure CL2 (w1 wr:World) (o:List (ByteArray×V)) (j:Nat) (a:Option Addr) (m c:Nat) (xs:List (ByteArray×V)) (cs:List (ByteArray×VC)):Prop where
  rd:o.take j=xs
  len:xs.length=j
  cen:cs.length=j
  pos:0<w1.heap.size
  below:Below w1.heap.size w1 wr
  row:RowF wr w1.heap.size (.slice a m c) xs cs
theorem CL2.round {w1 wr w4 w6 w7:World} {o:List (ByteArray×V)} {j:Nat} {a:Option Addr} {m c:Nat} {xs:List (ByteArray×V)} {cs:List (ByteArray×VC)} {sk:ByteArray} {x:V} {cx:VC} {g cap:Nat}
    (h:CL2 w1 wr o j a m c xs cs) (hj:j<o.length) (hk:o[j].1=sk) (hx:o[j].2=x) (hks:sk.size≤140737488355328) (hb4:Below wr.heap.size wr w4) (hI:IsVal (only (fun b=>wr.heap.size≤b) w4) w4.heap.size x cx) (hb6:Below w4.heap.size w4 w6)
    (hown:w7.ownsRow w1.heap.size 98 6 (.slice (some ⟨g,0,none⟩) (j+1) cap) (j+1) (cs.flatMap fcells++fcells (sk,cx))) (hg:w6.grownBy w7 (Value.slice a m c).ownBlock)
    (hat:(Value.slice a m c).ownBlock=some g∨w4.heap.size≤g):
    CL2 w1 w7 o (j+1) (some ⟨g,0,none⟩) (j+1) cap (xs++ [(sk,x)]) (cs++ [(sk,cx)]):=by
  have hsz:=h.below.size
  have hrow:=h.row.later (rb:=0) (PF.closed xs cs) (.of_below _ hb4) h.pos
  have hrlt:∀b,(Value.slice a m c).ownBlock=some b→w1.heap.size≤b∧b<wr.heap.size:=h.row.lt
  have hsz4:=hb4.size
  have hsz6:=hb6.size
  have hgb:Below w1.heap.size w6 w7:=grown_below hg (fun b hb=>(hrlt b hb).1) (by omega)
  have hb67:Below w1.heap.size w4 w7:=(hb6.mono (by omega)).trans hgb
  obtain ⟨s1,s2⟩:=PF.snoc (l:=xs) (cs:=cs) (by rw [h.len,h.cen]) sk hks x cx
  have hnew:PF (xs++ [(sk,x)]) (cs++ [(sk,cx)]) (only (Free w1.heap.size (.slice a m c)) w4) w4.heap.size xs.length:=s1 _ _ (hI.sub (shows_step fun b hb _=>⟨⟨by omega,fun e=>by have:=(hrlt b e.symm).2;omega⟩,rfl⟩))
  have hpush:=Row.push (PF.closed (xs++ [(sk,x)]) (cs++ [(sk,cx)])) hrow hb6 hg (u':= .slice (some ⟨g,0,none⟩) (j+1) cap) (news:=fcells (sk,cx)) (by rw [h.len];exact hown) (by
    rcases hat with e|e
    · left;rw [e];rfl
    · right;intro b hb;have:g=b:=by simpa [Value.ownBlock] using hb
      omega) hnew s2
  refine ⟨?_,by simp [h.len],by simp [h.cen],h.pos,(h.below.trans (hb4.mono (by omega))).trans hb67, ?_⟩
  · rw [take_snoc o j hj,h.rd, ←hk, ←hx]
  · show Row _ _ _ _ _ _ _ _
    rw [flat_snoc,List.length_append,List.length_singleton]
    exact hpush
theorem CL2.behind {w1 wr W:World} {o:List (ByteArray×V)} {j:Nat} {a:Option Addr} {m c:Nat} {xs:List (ByteArray×V)} {cs:List (ByteArray×VC)} (h:CL2 w1 wr o j a m c xs cs) (hb:Below wr.heap.size wr W):CL2 w1 W o j a m c xs cs:=
  ⟨h.rd,h.len,h.cen,h.pos,h.below.trans (hb.mono h.below.size),h.row.later (rb:=0) (PF.closed xs cs) (.of_below _ hb) h.pos⟩
theorem copy_fresh {w w1 wr W:World} {c0:VC} {l:List V} {o:List (ByteArray×V)} {j j':Nat} {a:Option Addr} {m c:Nat} {xs:List V} {cs:List VC} {a':Option Addr} {m' c':Nat} {xs':List (ByteArray×V)} {cs':List (ByteArray×VC)}
    (h1:CL1 w w1 c0 l j a m c xs cs) (h2:CL2 w1 wr o j' a' m' c' xs' cs') (hj:l.length≤j) (hj':o.length≤j') (few:l.length≤1466015503701) (few':o.length≤1466015503701) (hWs:wr.heap.size≤W.heap.size) (hWb:∀k,k<wr.heap.size→k≠w.heap.size→k≠w.heap.size+1→W.heap[k]? =wr.heap[k]?):Fresh W w.heap.size l o a m c a' m' c' cs cs':=by
  have e1:xs=l:=by rw [←h1.rd,List.take_of_length_le hj]
  have e2:xs'=o:=by rw [←h2.rd,List.take_of_length_le hj']
  have hl:=h1.len
  have hl':=h2.len
  have hc:=h1.cen
  have hc':=h2.cen
  subst e1 e2
  have hsz:=h1.box.lt
  have hsr:=h1.res.lt
  have hlt1:∀b,(Value.slice a m c).ownBlock=some b→w.heap.size+2≤b∧b<w1.heap.size:=h1.row.lt
  have hlt2:∀b,(Value.slice a' m' c').ownBlock=some b→w1.heap.size≤b∧b<wr.heap.size:=h2.row.lt
  have hszr:=h2.below.size
  have hkeep:∀k,k<w1.heap.size→w.heap.size+2≤k→W.heap[k]? =w1.heap[k]? :=fun k hk hne=>(hWb k (by omega) (by omega) (by omega)).trans (h2.below.block k hk)
  have o1:W.ownsRow (w.heap.size+2) 33 5 (.slice a m c) xs.length (cs.flatMap vcells):=by
    refine ⟨h1.row.own.1, ?_⟩
    rcases h1.row.own.2 with hn|⟨g,cap,cur,e,hb,hg,rest⟩
    · exact .inl hn
    · have hgl:=(hlt1 g (by rw [e];rfl)).2
      exact .inr ⟨g,cap,cur,e,hb,(hkeep g hgl hb).trans hg,rest⟩
  have o2:W.ownsRow w1.heap.size 98 6 (.slice a' m' c') xs'.length (cs'.flatMap fcells):=by
    refine ⟨h2.row.own.1, ?_⟩
    rcases h2.row.own.2 with hn|⟨g,cap,cur,e,hb,hg,rest⟩
    · exact .inl hn
    · have hgl:=(hlt2 g (by rw [e];rfl)).2
      exact .inr ⟨g,cap,cur,e,hb,(hWb g hgl (by omega) (by omega)).trans hg,rest⟩
  obtain ⟨_,_,q1,r1⟩:=OwnRow.of (base':=w.heap.size) o1 (by omega)
  obtain ⟨_,_,q2,r2⟩:=OwnRow.of (base':=w.heap.size) o2 (by omega)
  injection q1 with z1 z2 z3
  injection q2 with z1' z2' z3'
  subst z1 z2 z3 z1' z2' z3'
  refine ⟨rfl,rfl,by omega,by omega,few,few',r1,r2,fun g e1 e2=> ?_,fun i hi=>PV.closed _ _ _ _ _ _ i (shows_step fun k hk hlt=>⟨⟨by have:=hk.1;omega,hk.2,fun e=>by have:=(hlt2 k e.symm).1;omega⟩,hkeep k hlt hk.1⟩) (Nat.le_trans hszr hWs) (h1.row.els i hi),fun i hi=>PF.closed _ _ _ _ _ _ i (shows_step fun k hk hlt=>⟨⟨by have:=hk.1;omega,fun e=>by have:=(hlt1 k e.symm).2;have:=hk.1;omega,hk.2⟩,hWb k hlt (by have:=hk.1;omega) (by have:=hk.1;omega)⟩) hWs (h2.row.els i hi)⟩
  have:=(hlt1 g e1).2;have:=(hlt2 g e2).1;omega
end Go.Proofs.YtgcfhkceejcliaaGreatDoor
namespace Go.Proofs.YtgcfhkceejcliaaGreatDoor
open Go.RowKit
def NewVal (w:World) (x:V) (e:Ending) (w':World):Prop:=
  (∃c:VC,e= .returned (.agg #[.int .u8 c.k, .int .i64 c.n, .string c.s, .slice c.la c.ll c.lc, .slice c.oa c.ol c.oc])∧IsVal (only (fun b=>w.heap.size≤b) w') w'.heap.size x c)∧Below w.heap.size w w'
def CopyIH (x:V):Prop:=∀(W:World) (c:VC),IsVal W W.heap.size x c→Calls Tryz.prog 103 #[.agg #[.int .u8 c.k, .int .i64 c.n, .string c.s, .slice c.la c.ll c.lc, .slice c.oa c.ol c.oc]] W (NewVal W x)
theorem CL.start (w:World) (c0:VC) (t1 t2:TypeId) (l:List V):CL1 w ((w.alloc (.cells #[.int .u8 c0.k, .int .i64 c0.n, .string c0.s, .slice c0.la c0.ll c0.lc, .slice c0.oa c0.ol c0.oc] t1)).alloc (.cells #[.int .u8 0, .int .i64 0, .string { data:= #[] }, .slice none 0 0, .slice none 0 0] t2)) c0 l 0 none 0 0 [] [] :=by
  refine ⟨rfl,rfl,rfl,(BC.start w #[.int .u8 c0.k, .int .i64 c0.n, .string c0.s, .slice c0.la c0.ll c0.lc, .slice c0.oa c0.ol c0.oc] t1).keep ((Below.refl _ _).alloc (Nat.le_refl _) _) (by simp), ?_,((Below.refl _ _).alloc (Nat.le_refl _) _).alloc (by simp) _,Row.nil _ _ _ _ _⟩
  have:=BC.start (w.alloc (.cells #[.int .u8 c0.k, .int .i64 c0.n, .string c0.s, .slice c0.la c0.ll c0.lc, .slice c0.oa c0.ol c0.oc] t1)) #[.int .u8 0, .int .i64 0, .string { data:= #[] }, .slice none 0 0, .slice none 0 0] t2
  rw [World.size_alloc] at this
  exact this
theorem results_copy {tmps:Array Value} {W:World} {b:Nat} {c:VC} (ht:tmps[2]? =some (.pointer (some ⟨b,0,none⟩))) (h:BC W b (vcells c)):
    (results Tryz.f103 tmps).run Tryz.prog W= .ok (.agg #[.int .u8 c.k, .int .i64 c.n, .string c.s, .slice c.la c.ll c.lc, .slice c.oa c.ol c.oc]) W:=by
  obtain ⟨r0,r1,r2,r3,r4⟩:=(⟨h.at_ 0 _ rfl,h.at_ 1 _ rfl,h.at_ 2 _ rfl,h.at_ 3 _ rfl,h.at_ 4 _ rfl⟩:W.cell? ⟨b,0,none⟩=some (.int .u8 c.k)∧W.cell? ⟨b,1,none⟩=some (.int .i64 c.n)∧W.cell? ⟨b,2,none⟩=some (.string c.s)∧W.cell? ⟨b,3,none⟩=some (.slice c.la c.ll c.lc)∧W.cell? ⟨b,4,none⟩=some (.slice c.oa c.ol c.oc))
  simp [results,Tryz.results103,go_sem,ht,r0,r1,r2,r3,r4]
theorem copy_leave {w W:World} {k n:Int} {s:ByteArray} {l:List V} {o:List (ByteArray×V)} {a:Option Addr} {m c:Nat} {a':Option Addr} {m' c':Nat} {cl:List VC} {co:List (ByteArray×VC)} {x:Act}
    (h:BC W (w.heap.size+1) (vcells ⟨k,n,s,a,m,c,a',m',c'⟩)) (hf:Fresh W w.heap.size l o a m c a' m' c' cl co) (hb:Below w.heap.size w W) (hd:x.defers= []) (ht:x.tmps[2]? =some (.pointer (some ⟨w.heap.size+1,0,none⟩))):
    bodyPost Tryz.prog Tryz.f103 (CopyPost w k n s l o) .ret x W:=
  ⟨hd,_,results_copy ht h,⟨_,_,_,_,_,_,_,_,rfl,hf⟩,hb⟩
set_option maxHeartbeats 8000000 in
set_option maxRecDepth 100000 in
theorem copy_lists (l:List V) (o:List (ByteArray×V)) (IHl:∀x ∈ l,CopyIH x) (IHo:∀x ∈ o,CopyIH x.2) (w:World) (k n:Int) (s:ByteArray) (la:Option Addr) (ll lc:Nat) (oa:Option Addr) (ol oc:Nat) (h1:IsVals w w.heap.size l la ll lc) (h2:IsFields w w.heap.size o oa ol oc):
    Calls Tryz.prog 103 #[.agg #[.int .u8 k, .int .i64 n, .string s, .slice la ll lc, .slice oa ol oc]] w (CopyPost w k n s l o):=by
  obtain ⟨i0,hi0,hz0,hz1,hz2⟩:=info_parts ginfoV
  obtain ⟨j0,hj0,hy0,hy1,hy2⟩:=info_parts ginfoFR
  have k1:=h1.few;have k2:=h1.max;have k3:=h2.few;have k4:=h2.max
  have HLN:=Lib.hid h1.len
  have HON:=Lib.hid h2.len
  have HL:=Lib.hid h1
  have HO:=Lib.hid h2
  have HIL:=Lib.hid IHl
  have HIO:=Lib.hid IHo
  have HST:=Lib.hid (CL.start w ⟨k,n,s,la,ll,lc,oa,ol,oc⟩ 33 33 l)
  clear h1 h2 IHl IHo
  go_enter Tryz.func103,Tryz.ntmps103
  generalize hQ0:bodyPost _ _ _=Q0
  have HQ:=Lib.hid hQ0
  clear hQ0
  go_wp2_with fail
  go_loopw [3,4] (fun u i wr=>∃(j:Nat) (a:Option Addr) (m c:Nat) (xs:List V) (cs:List VC),j≤ll∧i= .int .i64 j∧u= .slice a m c∧CL1 w wr ⟨k,n,s,la,ll,lc,oa,ol,oc⟩ l j a m c xs cs) (fun _ i _=>ll - (intOf i).toNat)
  case atStart=>exact ⟨0,none,0,0, [], [],Nat.zero_le _,rfl,rfl,HST.out⟩
  case round =>
    obtain ⟨j,a,m,c,xs,cs,hj,rfl,rfl,L⟩:=hrel
    obtain ⟨b0,b1,b2,b3,b4⟩:=row5 L.box.at_
    have g0:=L.box.fr 3;have g1:=L.box.fr 4
    have zs0:=L.box.lt;have zs1:=L.res.lt
    by_cases hlt:j<ll
    · obtain ⟨b,q,f,hp,rfl,hbB,hv,hI⟩:=(HL.out.keep L.below).get hlt
      have c0:=hv.c0;have c1:=hv.c1;have c2:=hv.c2;have c3:=hv.c3;have c4:=hv.c4
      have hbw:b<wr.heap.size:=World.block_lt_of_cell? wr _ c0
      have HC:Hid (Calls Tryz.prog 103 #[.agg #[.int .u8 f.k, .int .i64 f.n, .string f.s, .slice f.la f.ll f.lc, .slice f.oa f.ol f.oc]] wr (NewVal wr l[j])):=HIL.out l[j] (List.getElem_mem hp) wr f (hI.more L.below.size)
      have LL:=Lib.hid L
      clear L hv hI
      go_wp2_with fail
      refine HC.out.mono ?_
      rintro e w4 ⟨⟨cx,rfl,hI4⟩,hb4⟩
      have L:=LL.out
      have hrow:RowV w4 (w.heap.size+2) (.slice a m c) xs cs:=L.row.later (PV.closed xs cs) (.of_below 0 hb4) (by omega)
      have ho4:=hrow.own
      rw [L.len] at ho4
      have hsz4:=hb4.size
      have HI4:=Lib.hid hI4
      have HB4:=Lib.hid hb4
      clear L hrow hI4 hb4
      go_wp2_with (at_builtin;refine wpList_append_lies _ rfl (.tmp 14) (.tmp 21) 30 (by rfl) (w.heap.size+2) 33 i0 _ 5 80 Tryz.underlying30 hi0 hz0 hz1 hz2 rfl (by omega) (.slice a m c) j (cs.flatMap vcells) (by rfl) (ho4.alloc _) ⟨w4.heap.size,0,none⟩ 1 1 (vcells cx) (by rfl) (by rfl) (World.news_of_block (t:=33) (fr:=(0,0)) (heap_alloc_new w4 (.cells #[.int .u8 cx.k, .int .i64 cx.n, .string cx.s, .slice cx.la cx.ll cx.lc, .slice cx.oa cx.ol cx.oc] 33))) (by simp [vcells,Value.oneCell']) (by omega) (by unfold maxLen;omega) (by omega) (by simp;omega) (w4.heap.size+1) (by simp) ?_;intro g cap w7 hown7 hgrow7 hat7 hlt7)
      go_roundw
      case rel=>exact ⟨j+1,some ⟨g,0,none⟩,j+1,cap,xs++ [l[j]],cs++ [cx],by omega,by go_num,rfl,LL.out.round hp rfl HB4.out HI4.out ((Below.refl _ _).alloc (Nat.le_refl _) _) hown7 hgrow7 (hat7.imp_right fun e=>by omega)⟩
      case measure=>simp [intOf];omega
    · have hjn:j=ll:=by omega
      subst hjn
      obtain ⟨w1,hw1⟩:∃w1,w1=wr:=⟨_,rfl⟩
      subst hw1
      have LL:=Lib.hid L
      clear L
      go_wp2_with fail
      go_loopw [5,6] (fun u i wr=>∃(i':Nat) (a':Option Addr) (m' c':Nat) (xs':List (ByteArray×V)) (cs':List (ByteArray×VC)),i'≤ol∧i= .int .i64 i'∧u= .slice a' m' c'∧CL2 w1 wr o i' a' m' c' xs' cs') (fun _ i _=>ol - (intOf i).toNat)
      case atStart=>exact ⟨0,none,0,0, [], [],Nat.zero_le _,rfl,rfl,⟨rfl,rfl,rfl,by omega,Below.refl _ _,Row.nil _ _ _ _ _⟩⟩
      case round=>
        obtain ⟨i',a',m',c',xs',cs',hi',rfl,rfl,L⟩:=hrel
        have zs9:=LL.out.below.size
        have zs8:=LL.out.box.lt
        have zt9:=L.below.size
        have BX:=LL.out.box.keep L.below zs0
        have BR:=LL.out.res.keep L.below zs1
        obtain ⟨b0,b1,b2,b3,b4⟩:=row5 BX.at_
        obtain ⟨r0,r1,r2,r3,r4⟩:=row5 BR.at_
        have g0:=BX.fr 3;have g1:=BX.fr 4
        have f0:=BR.fr 0;have f1:=BR.fr 1;have f2:=BR.fr 2;have f3:=BR.fr 3;have f4:=BR.fr 4
        have zs0:=BX.lt;have zs1:=BR.lt
        have HBX:=Lib.hid BX
        have HBR:=Lib.hid BR
        clear BX BR
        by_cases hlt:i'<ol
        · obtain ⟨b,q,f,hp,rfl,hbB,hkey,hks,hv,hI⟩:=((HO.out.keep LL.out.below).keep (L.below.mono zs9)).get hlt
          have c0:=hv.c0;have c1:=hv.c1;have c2:=hv.c2;have c3:=hv.c3;have c4:=hv.c4
          have hbw:b<wr.heap.size:=World.block_lt_of_cell? wr _ hkey
          obtain ⟨sk,hsk⟩:∃sk,o[i'].1=sk:=⟨_,rfl⟩
          rw [hsk] at hkey hks
          have HSK:=Lib.hid hsk
          have HC:Hid (Calls Tryz.prog 103 #[.agg #[.int .u8 f.k, .int .i64 f.n, .string f.s, .slice f.la f.ll f.lc, .slice f.oa f.ol f.oc]] wr.drew (NewVal wr.drew o[i'].2)):=HIO.out o[i'] (List.getElem_mem hp) wr.drew f ((hI.keep ((drew_below wr).mono (by omega))).more (by show w.heap.size≤wr.heap.size;omega))
          have HFO:Hid (∀W,Below wr.drew.heap.size wr.drew W→W.ownsRow w1.heap.size 98 6 (.slice a' m' c') i' (cs'.flatMap fcells)∧wr.heap.size≤W.heap.size):=by
            intro W hW
            have ho:=((L.row.later (rb:=0) (PF.closed xs' cs') (.of_below _ (drew_below wr)) (by omega)).later (rb:=0) (PF.closed xs' cs') (.of_below _ hW) (by omega)).own
            rw [L.len] at ho
            exact ⟨ho,hW.size⟩
          have HFB:Hid (∀W,Below w1.heap.size wr.drew W→W.cell? ⟨w.heap.size,4,none⟩=some (.slice (some ⟨b,q,none⟩) ol oc)∧W.cell? ⟨b,q+i'*6,none⟩=some (.string sk)∧W.cell? ⟨b,q+i'*6+1,none⟩=some (.int .u8 f.k)∧W.cell? ⟨b,q+i'*6+1+1,none⟩=some (.int .i64 f.n)∧W.cell? ⟨b,q+i'*6+1+2,none⟩=some (.string f.s)∧W.cell? ⟨b,q+i'*6+1+3,none⟩=some (.slice f.la f.ll f.lc)∧W.cell? ⟨b,q+i'*6+1+4,none⟩=some (.slice f.oa f.ol f.oc)):=by
            intro W hW
            have hk:∀b o u,b<w1.heap.size→wr.cell? ⟨b,o,none⟩=some u→W.cell? ⟨b,o,none⟩=some u:=fun b o u hb h=>keep_cell hW (keep_cell (drew_below wr) h (by omega)) hb
            exact ⟨hk _ _ _ zs8 b4,hk _ _ _ (by omega) hkey,hk _ _ _ (by omega) c0,hk _ _ _ (by omega) c1,hk _ _ _ (by omega) c2,hk _ _ _ (by omega) c3,hk _ _ _ (by omega) c4⟩
          have hrlt:∀g,(Value.slice a' m' c').ownBlock=some g→w1.heap.size≤g:=fun g hg=>(L.row.lt g hg).1
          have LM:=Lib.hid L
          clear L hv hI hsk
          go_wp2_with fail
          refine wp_region_noPanic ?_
          go_region_held_law (fun W=>W.cell? ⟨w.heap.size,4,none⟩=some (.slice (some ⟨b,q,none⟩) ol oc)∧W.cell? ⟨b,q+i'*6,none⟩=some (.string sk)∧W.cell? ⟨b,q+i'*6+1,none⟩=some (.int .u8 f.k)∧W.cell? ⟨b,q+i'*6+1+1,none⟩=some (.int .i64 f.n)∧W.cell? ⟨b,q+i'*6+1+2,none⟩=some (.string f.s)∧W.cell? ⟨b,q+i'*6+1+3,none⟩=some (.slice f.la f.ll f.lc)∧W.cell? ⟨b,q+i'*6+1+4,none⟩=some (.slice f.oa f.ol f.oc))
            (first|exact HFB.out _ (Below.refl _ _)|exact HFB.out _ (hb4.mono zt9)|exact HFB.out _ ((hb4.mono zt9).alloc (Nat.le_trans zt9 hb4.size) _)|exact HFB.out _ hb5)
            (first
              |(go_at_call 103;refine (HC.out).mono ?_;rintro e w4 ⟨⟨cx,rfl,hI4⟩,hb4⟩;obtain ⟨ho4,hz4⟩:=HFO.out w4 hb4)
              |(refine step_append_lies _ (by rfl) _ _ _ (by rfl) w1.heap.size 98 j0 _ 6 96 (by kernel_rfl) hj0 hy0 hy1 hy2 rfl (by omega) (.slice a' m' c') i' (cs'.flatMap fcells) (by rfl) (ho4.alloc _) ⟨w4.heap.size,0,none⟩ 1 1 (fcells (sk,cx)) (by rfl) (by rfl) (World.news_of_block (t:=98) (fr:=(0,0)) (heap_alloc_new w4 _)) (by simp [fcells,Value.oneCell']) (by omega) (by unfold maxLen;omega) (by omega) (by simp;omega) (w4.heap.size+1) (by simp) ?_;intro g cap w5 hown5 hgrow5 hat5 hlt5;have hb5:=((hb4.mono zt9).alloc (Nat.le_trans zt9 hb4.size) _).trans (grown_below hgrow5 hrlt (by simp;omega))))
          all_goals
            refine NoPanic.normal ?_
            go_wp2_with fail
            go_roundw
            case rel=>exact ⟨i'+1,some ⟨g,0,none⟩,i'+1,cap,xs'++ [(sk,o[i'].2)],cs'++ [(sk,cx)],by omega,by go_num,rfl,(LM.out.behind (drew_below wr)).round hp HSK.out rfl hks hb4 hI4 ((Below.refl _ _).alloc (Nat.le_refl _) _) hown5 hgrow5 (hat5.imp_right fun e=>by omega)⟩
            case measure=>simp [intOf];omega
        · have hin:i'=ol:=by omega
          subst hin
          have LM:=Lib.hid L
          clear L
          go_wp2_with fail
          rw [←HQ.out]
          have W1:=RStep.self (W:=wr) (b:=w.heap.size) (o:=3) (x:= .slice a m c)
          have W2:=W1.trans (RStep.self (o:=4) (x:= .slice a' m' c'))
          have W3:=setV_step ((wr.setCell ⟨w.heap.size,3,none⟩ (.slice a m c)).setCell ⟨w.heap.size,4,none⟩ (.slice a' m' c')) (w.heap.size+1) 0 ⟨k,n,s,a,m,c,a',m',c'⟩
          have hbw:Below w.heap.size w wr:=LL.out.below.trans (LM.out.below.mono zs9)
          have hfin:=bc_store ((HBR.out.far (o:=3) (x:= .slice a m c) (show w.heap.size+1≠w.heap.size by omega)).far (o:=4) (x:= .slice a' m' c') (show w.heap.size+1≠w.heap.size by omega)) ⟨k,n,s,a,m,c,a',m',c'⟩
          exact copy_leave hfin (copy_fresh LL.out LM.out (by rw [←HLN.out];omega) (by rw [←HON.out];omega) (by rw [←HLN.out];omega) (by rw [←HON.out];omega) (Nat.le_trans W2.size W3.size) (fun q hq h1 h2=>(W3.block q (Nat.lt_of_lt_of_le hq W2.size) h2).trans (W2.block q hq h1))) ((hbw.trans (W2.below (by omega)|>.mono (by omega))).trans (W3.below (by have:=W2.size;omega)|>.mono (by omega))) rfl rfl
theorem Fresh.new {w:World} {v:V} {c0:VC} (h:IsVal w w.heap.size v c0) {e:Ending} {w':World} (hc:CopyPost w c0.k c0.n c0.s v.ls v.os e w'):NewVal w v e w':=by
  obtain ⟨k,n,s,l,o,rfl⟩:=v.eta
  obtain ⟨rfl,rfl,rfl,hb,_,_⟩:=h.lists
  obtain ⟨⟨a,m,c,a',m',c',cl,co,rfl,hf⟩,hbl⟩:=hc
  exact ⟨⟨⟨c0.k,c0.n,c0.s,a,m,c,a',m',c'⟩,rfl,hf.val hb.k0 hb.k1 hb.n0 hb.n1 hb.s1⟩,hbl⟩
theorem copyIH (v:V):CopyIH v:=by
  induction v using V.ind with
  | h k n s l o ihl iho=>
    intro W c h
    obtain ⟨rfl,rfl,rfl,hb,h1,h2⟩:=h.lists
    exact (copy_lists l o ihl iho W c.k c.n c.s c.la c.ll c.lc c.oa c.ol c.oc h1 h2).mono fun e w' hc=>Fresh.new h hc
theorem copy_any (w:World) (v:V) (vk vn:Int) (vs:ByteArray) (la:Option Addr) (ll lc:Nat) (oa:Option Addr) (ol oc:Nat) (h:IsVal w w.heap.size v ⟨vk,vn,vs,la,ll,lc,oa,ol,oc⟩):
    Calls Tryz.prog 103 #[.agg #[.int .u8 vk, .int .i64 vn, .string vs, .slice la ll lc, .slice oa ol oc]] w (CopyPost w vk vn vs v.ls v.os):=by
  obtain ⟨k,n,s,l,o,rfl⟩:=v.eta
  obtain ⟨_,_,_,_,h1,h2⟩:=h.lists
  exact copy_lists l o (fun x _=>copyIH x) (fun x _=>copyIH x.2) w vk vn vs la ll lc oa ol oc h1 h2
end Go.Proofs.YtgcfhkceejcliaaGreatDoor
namespace Go.Proofs.YtgcfhkceejcliaaGreatDoor
open Go.RowKit
theorem _root_.Go.RowKit.Below.set_ {B b o:Nat} {a w:World} {x:Value} (h:Below B a w) (hb:B≤b):Below B a (w.setCell ⟨b,o,none⟩ x):=
  h.trans ⟨rfl,rfl,rfl,by simp,fun k hk=>heap_setCell_other _ _ _ _ (show k≠b by omega)⟩
theorem below_draw_alloc (w:World) (o:Obj):Below w.heap.size w.drew (w.alloc o).drew:=(Below.refl w.heap.size w.drew).alloc (Nat.le_refl _) o
theorem bc_new_drew {w W:World} {cs:Array Value} {t:TypeId} (hb:Below (w.alloc (.cells cs t)).drew.heap.size (w.alloc (.cells cs t)).drew W):BC W w.heap.size cs.toList:=
  ((BC.start w cs t).keep (drew_below _) (by simp)).keep hb (show w.heap.size<(w.alloc (.cells cs t)).heap.size by simp)
theorem _root_.Go.RowKit.Below.set5' {B b:Nat} {a w:World} (h:Below B a w) (hb:B≤b) (x0 x1 x2 x3 x4:Value):Below B a (((((w.setCell ⟨b,0,none⟩ x0).setCell ⟨b,1,none⟩ x1).setCell ⟨b,2,none⟩ x2).setCell ⟨b,3,none⟩ x3).setCell ⟨b,4,none⟩ x4):=
  ((((h.set_ hb).set_ hb).set_ hb).set_ hb).set_ hb
theorem _root_.Go.RowKit.Below.set5 {B:Nat} {a w:World} (h:Below B a w) (x0 x1 x2 x3 x4:Value):Below B a (((((w.setCell ⟨B,0,none⟩ x0).setCell ⟨B,1,none⟩ x1).setCell ⟨B,2,none⟩ x2).setCell ⟨B,3,none⟩ x3).setCell ⟨B,4,none⟩ x4):=h.set5' (Nat.le_refl _) _ _ _ _ _
theorem StepPost.gen {w0:World} {B0:Nat} {w:World} {r:Option (V×Nat)} {e:Ending} {w':World} (h:StepPost w0 B0 w r e w'):∃(d:VC) (k er:Int),e= .returned (.tuple #[.agg #[.int .u8 d.k, .int .i64 d.n, .string d.s, .slice d.la d.ll d.lc, .slice d.oa d.ol d.oc], .int .i64 k, .int .i64 er])∧Hid ((r=none∧er=30)∨∃q,r=some q∧k=(q.2:Int)∧er=0∧IsVal w0 B0 q.1 d)∧Below w.heap.size w w':=by
  obtain ⟨h1,h2⟩:=h
  cases r with
  |none=>exact ⟨vzero,0,30,h1, .inl ⟨rfl,rfl⟩,h2⟩
  | some q=>
    obtain ⟨c,h3,h4⟩:=h1
    exact ⟨c,q.2,0,h3, .inr ⟨q,rfl,rfl,rfl,h4⟩,h2⟩
theorem gen_world {Q:Exit→Act→World→Prop} {a:Act} {W0:World} (P:World→Prop) (h0:P W0) (h:∀W,P W→Q .normal a W):NoPanic Q .normal a W0:=h W0 h0
theorem filled1 {w w4:World} (h:Below w.heap.size w.drew w4) (hz:w.heap.size≤w4.heap.size) (d:VC) (t:TypeId):BC (w4.alloc (.cells #[.int .u8 d.k, .int .i64 d.n, .string d.s, .slice d.la d.ll d.lc, .slice d.oa d.ol d.oc] t)) w4.heap.size (vcells d)∧Below w.heap.size w.drew (w4.alloc (.cells #[.int .u8 d.k, .int .i64 d.n, .string d.s, .slice d.la d.ll d.lc, .slice d.oa d.ol d.oc] t))∧w.heap.size≤w4.heap.size:=
  ⟨BC.start w4 #[.int .u8 d.k, .int .i64 d.n, .string d.s, .slice d.la d.ll d.lc, .slice d.oa d.ol d.oc] t,h.alloc hz _,hz⟩
theorem filled2 {w w4:World} (h:Below w.heap.size w.drew w4) (d:VC) (x:BC w4 w.heap.size [.int .u8 0, .int .i64 0, .string { data:= #[] }, .slice none 0 0, .slice none 0 0]):BC (((((w4.setCell ⟨w.heap.size,0,none⟩ (.int .u8 d.k)).setCell ⟨w.heap.size,1,none⟩ (.int .i64 d.n)).setCell ⟨w.heap.size,2,none⟩ (.string d.s)).setCell ⟨w.heap.size,3,none⟩ (.slice d.la d.ll d.lc)).setCell ⟨w.heap.size,4,none⟩ (.slice d.oa d.ol d.oc)) w.heap.size (vcells d)∧Below w.heap.size w.drew (((((w4.setCell ⟨w.heap.size,0,none⟩ (.int .u8 d.k)).setCell ⟨w.heap.size,1,none⟩ (.int .i64 d.n)).setCell ⟨w.heap.size,2,none⟩ (.string d.s)).setCell ⟨w.heap.size,3,none⟩ (.slice d.la d.ll d.lc)).setCell ⟨w.heap.size,4,none⟩ (.slice d.oa d.ol d.oc))∧w.heap.size≤w.heap.size:=
  ⟨bc_store (c0:=vzero) x d,Below.set5' h (Nat.le_refl _) _ _ _ _ _,Nat.le_refl _⟩
def GetPost (w:World) (r:Option V) (e:Ending) (w':World):Prop:=
  (match r with
    |some x=>∃c:VC,e= .returned (.tuple #[.agg #[.int .u8 c.k, .int .i64 c.n, .string c.s, .slice c.la c.ll c.lc, .slice c.oa c.ol c.oc], .int .i64 0])∧IsVal (only (fun b=>w.heap.size≤b) w') w'.heap.size x c
    |none=>e= .returned (.tuple #[.agg #[.int .u8 0, .int .i64 0, .string { data:= #[] }, .slice none 0 0, .slice none 0 0], .int .i64 30]))∧Below w.heap.size w w'
theorem results_get {tmps:Array Value} {W:World} {b:Nat} {c:VC} {x:Value} (ht:tmps[4]? =some (.pointer (some ⟨b,0,none⟩))) (hx:tmps[5]? =some x) (h:BC W b (vcells c)):
    (results Tryz.f78 tmps).run Tryz.prog W= .ok (.tuple #[.agg #[.int .u8 c.k, .int .i64 c.n, .string c.s, .slice c.la c.ll c.lc, .slice c.oa c.ol c.oc],x]) W:=by
  obtain ⟨r0,r1,r2,r3,r4⟩:=(⟨h.at_ 0 _ rfl,h.at_ 1 _ rfl,h.at_ 2 _ rfl,h.at_ 3 _ rfl,h.at_ 4 _ rfl⟩:W.cell? ⟨b,0,none⟩=some (.int .u8 c.k)∧W.cell? ⟨b,1,none⟩=some (.int .i64 c.n)∧W.cell? ⟨b,2,none⟩=some (.string c.s)∧W.cell? ⟨b,3,none⟩=some (.slice c.la c.ll c.lc)∧W.cell? ⟨b,4,none⟩=some (.slice c.oa c.ol c.oc))
  simp [results,Tryz.results78,go_sem,ht,hx,r0,r1,r2,r3,r4]
theorem get_none {w W:World} {x:Act} (h:BC W (w.heap.size+1) (vcells vzero)) (hb:Below w.heap.size w W) (hd:x.defers= []) (ht:x.tmps[4]? =some (.pointer (some ⟨w.heap.size+1,0,none⟩))) (hx:x.tmps[5]? =some (.int .i64 30)):
    bodyPost Tryz.prog Tryz.f78 (GetPost w none) .ret x W:=⟨hd,_,results_get ht hx h,rfl,hb⟩
theorem get_some {w W:World} {x:Act} {c:VC} {v:V} (h:BC W (w.heap.size+1) (vcells c)) (hv:IsVal (only (fun b=>w.heap.size≤b) W) W.heap.size v c) (hb:Below w.heap.size w W) (hd:x.defers= []) (ht:x.tmps[4]? =some (.pointer (some ⟨w.heap.size+1,0,none⟩))) (hx:x.tmps[5]? =some (.int .i64 0)):
    bodyPost Tryz.prog Tryz.f78 (GetPost w (some v)) .ret x W:=⟨hd,_,results_get ht hx h,⟨c,rfl,hv⟩,hb⟩
structure GB (w W:World) (c:VC):Prop where
  v:BC W w.heap.size (vcells c)
  r:BC W (w.heap.size+1) (vcells vzero)
  below:Below w.heap.size w W
theorem GB.start (w:World) (c:VC) (t1 t3:TypeId):GB w ((w.alloc (.cells #[.int .u8 c.k, .int .i64 c.n, .string c.s, .slice c.la c.ll c.lc, .slice c.oa c.ol c.oc] t1)).alloc (.cells #[.int .u8 0, .int .i64 0, .string { data:= #[] }, .slice none 0 0, .slice none 0 0] t3)) c:=by
  have h:=CL.start w c t1 t3 []
  exact ⟨h.box,h.res,h.below⟩
theorem GB.next {w W W':World} {c:VC} {B:Nat} (h:GB w W c) (hb:Below B W W') (hB:w.heap.size+2≤B):GB w W' c:=
  ⟨h.v.keep hb (by omega),h.r.keep hb (by omega),h.below.trans (hb.mono (by omega))⟩
theorem GB.store {w W:World} {c:VC} (h:GB w W c) (d:VC):GB w (((((W.setCell ⟨w.heap.size,0,none⟩ (.int .u8 d.k)).setCell ⟨w.heap.size,1,none⟩ (.int .i64 d.n)).setCell ⟨w.heap.size,2,none⟩ (.string d.s)).setCell ⟨w.heap.size,3,none⟩ (.slice d.la d.ll d.lc)).setCell ⟨w.heap.size,4,none⟩ (.slice d.oa d.ol d.oc)) d:=
  ⟨bc_store h.v d,h.r.next (setV_step W w.heap.size 0 d) (by omega),Below.set5' h.below (Nat.le_refl _) _ _ _ _ _⟩
theorem GB.result {w W:World} {c:VC} (h:GB w W c) (d:VC):BC (((((W.setCell ⟨w.heap.size+1,0,none⟩ (.int .u8 d.k)).setCell ⟨w.heap.size+1,1,none⟩ (.int .i64 d.n)).setCell ⟨w.heap.size+1,2,none⟩ (.string d.s)).setCell ⟨w.heap.size+1,3,none⟩ (.slice d.la d.ll d.lc)).setCell ⟨w.heap.size+1,4,none⟩ (.slice d.oa d.ol d.oc)) (w.heap.size+1) (vcells d)∧Below w.heap.size w (((((W.setCell ⟨w.heap.size+1,0,none⟩ (.int .u8 d.k)).setCell ⟨w.heap.size+1,1,none⟩ (.int .i64 d.n)).setCell ⟨w.heap.size+1,2,none⟩ (.string d.s)).setCell ⟨w.heap.size+1,3,none⟩ (.slice d.la d.ll d.lc)).setCell ⟨w.heap.size+1,4,none⟩ (.slice d.oa d.ol d.oc)):=
  ⟨bc_store h.r d,Below.set5' h.below (by omega) _ _ _ _ _⟩
set_option maxHeartbeats 8000000 in
set_option maxRecDepth 100000 in
theorem get_any (w:World) (vk vn:Int) (vs:ByteArray) (la:Option Addr) (ll lc:Nat) (oa:Option Addr) (ol oc:Nat) (v:V) (hv:IsVal w w.heap.size v ⟨vk,vn,vs,la,ll,lc,oa,ol,oc⟩) (p:List St) (a:Option Addr) (n c:Nat) (hp:IsSteps w w.heap.size p a n c):
    Calls Tryz.prog 78 #[.agg #[.int .u8 vk, .int .i64 vn, .string vs, .slice la ll lc, .slice oa ol oc], .slice a n c] w (GetPost w (getP v p)):=by
  have k1:=hp.few;have k2:=hp.max
  have HLN:=Lib.hid hp.len
  have HP:=Lib.hid hp
  have HV:=Lib.hid hv
  have HB:=Lib.hid (GB.start w ⟨vk,vn,vs,la,ll,lc,oa,ol,oc⟩ 33 33)
  obtain ⟨R,hR⟩:∃R,getP v p=R:=⟨_,rfl⟩
  rw [hR]
  have HR:=Lib.hid hR
  clear hp hv hR
  go_enter Tryz.func78,Tryz.ntmps78
  generalize hQ0:bodyPost _ _ _=Q0
  have HQ:=Lib.hid hQ0
  clear hQ0
  go_wp2_with fail
  go_loopw [6,7,8,9] (fun i _ _ _ wr=>∃(j:Nat) (x:V) (c:VC),j≤n∧i= .int .i64 j∧Hid (getP x (p.drop j)=R)∧Hid (IsVal w w.heap.size x c)∧GB w wr c) (fun i _ _ _ _=>n - (intOf i).toNat)
  case atStart=>exact ⟨0,v,_,Nat.zero_le _,rfl,HR,HV,HB.out⟩
  case round=>
    obtain ⟨j,x,cx,hj,rfl,HX,HXV,B⟩:=hrel
    clear HB HR HV
    obtain ⟨v0,v1,v2,v3,v4⟩:=row5 B.v.at_
    obtain ⟨r0,r1,r2,r3,r4⟩:=row5 B.r.at_
    have e0:=B.v.fr 0;have e1:=B.v.fr 1;have e2:=B.v.fr 2;have e3:=B.v.fr 3;have e4:=B.v.fr 4
    have f0:=B.r.fr 0;have f1:=B.r.fr 1;have f2:=B.r.fr 2;have f3:=B.r.fr 3;have f4:=B.r.fr 4
    have zs0:=B.v.lt;have zs1:=B.r.lt
    have HBB:=Lib.hid B
    by_cases hlt:j<n
    · obtain ⟨b,q,hpl,rfl,hbB,hs,hsb⟩:=HP.out.get hlt
      have hs:=hs.keep B.below hbB
      obtain ⟨s,hse⟩:∃s,p[j] =s:=⟨_,rfl⟩
      rw [hse] at hs hsb
      have s0:=hs.c0;have s1:=hs.c1;have s2:=hs.c2
      have hbw:b<wr.heap.size:=World.block_lt_of_cell? wr _ s0
      have hdr:p.drop j=s::p.drop (j+1):=by rw [←hse];exact List.drop_eq_getElem_cons hpl
      have HDR:=Lib.hid hdr
      have hzs:=B.below.size
      have HC:Hid (∀W,Below wr.heap.size wr.drew W→Calls Tryz.prog 102 #[.agg #[.int .u8 cx.k, .int .i64 cx.n, .string cx.s, .slice cx.la cx.ll cx.lc, .slice cx.oa cx.ol cx.oc], .agg #[.bool s.list, .int .i64 s.i, .string s.key]] W (StepPost w w.heap.size W (stepP x s))):=fun W hW=>step_any W cx.k cx.n cx.s cx.la cx.ll cx.lc cx.oa cx.ol cx.oc x w w.heap.size ((HBB.out.below.trans ((drew_below wr).mono hzs)).trans (hW.mono hzs)) (Nat.le_trans hzs hW.size) HXV.out s hsb
      have HFB:Hid (∀W,Below wr.heap.size wr.drew W→W.cell? ⟨w.heap.size,0,none⟩=some (.int .u8 cx.k)∧W.cell? ⟨w.heap.size,1,none⟩=some (.int .i64 cx.n)∧W.cell? ⟨w.heap.size,2,none⟩=some (.string cx.s)∧W.cell? ⟨w.heap.size,3,none⟩=some (.slice cx.la cx.ll cx.lc)∧W.cell? ⟨w.heap.size,4,none⟩=some (.slice cx.oa cx.ol cx.oc)∧W.cell? ⟨b,q+j*3,none⟩=some (.bool s.list)∧W.cell? ⟨b,q+j*3+1,none⟩=some (.int .i64 s.i)∧W.cell? ⟨b,q+j*3+2,none⟩=some (.string s.key)):=by
        intro W hW
        have hk:∀b o u,b<wr.heap.size→wr.cell? ⟨b,o,none⟩=some u→W.cell? ⟨b,o,none⟩=some u:=fun b o u hb h=>keep_cell hW (keep_cell (drew_below wr) h hb) hb
        exact ⟨hk _ _ _ zs0 v0,hk _ _ _ zs0 v1,hk _ _ _ zs0 v2,hk _ _ _ zs0 v3,hk _ _ _ zs0 v4,hk _ _ _ hbw s0,hk _ _ _ hbw s1,hk _ _ _ hbw s2⟩
      have HST:=Lib.hid (show stepP x s=stepP x s from rfl)
      clear B hs hdr HST
      go_wp2_with fail
      refine wp_region_noPanic ?_
      go_region_held_law (fun W=>W.cell? ⟨w.heap.size,0,none⟩=some (.int .u8 cx.k)∧W.cell? ⟨w.heap.size,1,none⟩=some (.int .i64 cx.n)∧W.cell? ⟨w.heap.size,2,none⟩=some (.string cx.s)∧W.cell? ⟨w.heap.size,3,none⟩=some (.slice cx.la cx.ll cx.lc)∧W.cell? ⟨w.heap.size,4,none⟩=some (.slice cx.oa cx.ol cx.oc)∧W.cell? ⟨b,q+j*3,none⟩=some (.bool s.list)∧W.cell? ⟨b,q+j*3+1,none⟩=some (.int .i64 s.i)∧W.cell? ⟨b,q+j*3+2,none⟩=some (.string s.key))
        ((refine HFB.out _ ?_;(first|(with_reducible exact bl4)|(with_reducible exact Below.refl _ _)|(with_reducible exact below_draw_alloc _ _)|(with_reducible exact Below.set5 bl4 _ _ _ _ _)|(with_reducible exact Below.set5' (Below.alloc bl4 bz4 _) bz4 _ _ _ _ _)|(with_reducible exact Below.alloc bl4 bz4 _))))
        (first
          |(go_at_call 102;(with_reducible refine (HC.out _ (Below.refl _ _)).mono ?_);rintro e w4 h4;obtain ⟨d,kk,er,rfl,hrel,hb4⟩:=StepPost.gen h4;clear h4;have bl4:Below wr.heap.size wr.drew w4:=hb4;have bz4:wr.heap.size≤w4.heap.size:=hb4.size)
          |(go_at_call 102;(with_reducible refine (HC.out _ (below_draw_alloc _ _)).mono ?_);rintro e w4 h4;obtain ⟨d,kk,er,rfl,hrel,hb4⟩:=StepPost.gen h4;clear h4;have bl4:Below wr.heap.size wr.drew w4:=(below_draw_alloc _ _).trans (hb4.mono (by simp));have bz4:wr.heap.size≤w4.heap.size:=bl4.size;have XB:=bc_new_drew hb4;obtain ⟨xc0,xc1,xc2,xc3,xc4⟩:=row5 XB.at_;have xg0:=XB.fr 0;have xg1:=XB.fr 1;have xg2:=XB.fr 2;have xg3:=XB.fr 3;have xg4:=XB.fr 4;have xl:=XB.lt))
      all_goals
        (first
          |(with_reducible refine gen_world (P:=fun W=>BC W w4.heap.size (vcells d)∧Below wr.heap.size wr.drew W∧wr.heap.size≤w4.heap.size) (filled1 bl4 bz4 d _) ?_)
          |(with_reducible refine gen_world (P:=fun W=>BC W wr.heap.size (vcells d)∧Below wr.heap.size wr.drew W∧wr.heap.size≤wr.heap.size) (filled2 bl4 d XB) ?_))
        rintro W ⟨XF,hbW,hxb⟩
        have B2:=HBB.out.next ((drew_below wr).trans hbW) (Nat.succ_le_of_lt zs1)
        clear v0 v1 v2 v3 v4 r0 r1 r2 r3 r4 e0 e1 e2 e3 e4 f0 f1 f2 f3 f4 s0 s1 s2 hb4 bl4
        obtain ⟨v0,v1,v2,v3,v4⟩:=row5 B2.v.at_
        obtain ⟨r0,r1,r2,r3,r4⟩:=row5 B2.r.at_
        have e0:=B2.v.fr 0;have e1:=B2.v.fr 1;have e2:=B2.v.fr 2;have e3:=B2.v.fr 3;have e4:=B2.v.fr 4
        have f0:=B2.r.fr 0;have f1:=B2.r.fr 1;have f2:=B2.r.fr 2;have f3:=B2.r.fr 3;have f4:=B2.r.fr 4
        obtain ⟨y0,y1,y2,y3,y4⟩:=row5 XF.at_
        have zt0:=B2.v.lt;have zt1:=B2.r.lt;have zt2:=XF.lt
        have HB2:=Lib.hid B2
        clear B2 XF hbW
        rcases hrel.out with ⟨hst,rfl⟩|⟨qq,hst,rfl,rfl,hI⟩
        · obtain rfl:R=none:=by rw [←HX.out,HDR.out,getP,hst]
          clear hst
          go_wp2_with fail
          rw [←HQ.out]
          have ST:=HB2.out.result ⟨0,0, { data:= #[] },none,0,0,none,0,0⟩
          exact get_none ST.1 ST.2 rfl rfl rfl
        · have hnx:getP qq.1 (p.drop (j+1))=R:=by rw [←HX.out,HDR.out,getP,hst]
          have HNX:=Lib.hid hnx
          have HI:=Lib.hid hI
          clear hst hnx hI
          go_wp2_with fail
          go_roundw
          case rel=>exact ⟨j+1,qq.1,d,by omega,by go_num,HNX,HI,HB2.out.store d⟩
          case measure=>simp [intOf];omega
    · have hjn:j=n:=by omega
      subst hjn
      obtain rfl:R=some x:=by rw [←HX.out,HLN.out,List.drop_length,getP]
      have HC:Hid (Calls Tryz.prog 103 #[.agg #[.int .u8 cx.k, .int .i64 cx.n, .string cx.s, .slice cx.la cx.ll cx.lc, .slice cx.oa cx.ol cx.oc]] wr (NewVal wr x)):=copyIH x wr cx ((HXV.out.keep B.below).more B.below.size)
      clear B
      go_wp2_with fail
      refine HC.out.mono ?_
      rintro e w4 ⟨⟨d,rfl,hI4⟩,hb4⟩
      have B2:=HBB.out.next hb4 (Nat.succ_le_of_lt zs1)
      clear v0 v1 v2 v3 v4 r0 r1 r2 r3 r4 e0 e1 e2 e3 e4 f0 f1 f2 f3 f4
      obtain ⟨r0,r1,r2,r3,r4⟩:=row5 B2.r.at_
      have f0:=B2.r.fr 0;have f1:=B2.r.fr 1;have f2:=B2.r.fr 2;have f3:=B2.r.fr 3;have f4:=B2.r.fr 4
      have zt0:=B2.v.lt;have zt1:=B2.r.lt
      have HB2:=Lib.hid B2
      have HI:=Lib.hid hI4
      clear B2 hI4 hb4
      go_wp2_with fail
      rw [←HQ.out]
      have ST:=HB2.out.result d
      exact get_some ST.1 ((isVal_far HI.out (setV_step w4 (w.heap.size+1) 0 d) zs1).sub (shows_step fun k hk _=>⟨by have:=HBB.out.below.size;omega,rfl⟩)) ST.2 rfl rfl rfl
end Go.Proofs.YtgcfhkceejcliaaGreatDoor
namespace Go.Proofs.YtgcfhkceejcliaaGreatDoor
open Go.RowKit
theorem OwnRow.later_ {w W:World} {base:Nat} {a:Option Addr} {n c:Nat} {cells:List Value} (h:OwnRow w base a n c cells) (hb:Below w.heap.size w W):OwnRow W base a n c cells:=
  ⟨h.cap,h.max,h.none_,fun hp=>by
    obtain ⟨g,e,hg,hbc⟩:=h.row hp
    exact ⟨g,e,hg,hbc.keep hb hbc.lt⟩⟩
theorem Fresh.later_ {w W:World} {base:Nat} {l:List V} {o:List (ByteArray×V)} {a:Option Addr} {m c:Nat} {a':Option Addr} {m' c':Nat} {cl:List VC} {co:List (ByteArray×VC)} (h:Fresh w base l o a m c a' m' c' cl co) (hb:Below w.heap.size w W):Fresh W base l o a m c a' m' c' cl co:=by
  have hsh:Shows (only (Free2 base (.slice a m c) (.slice a' m' c')) w) (only (Free2 base (.slice a m c) (.slice a' m' c')) W) w.heap.size:=shows_step fun q hq hl=>⟨hq,hb.block q hl⟩
  exact ⟨h.len,h.len',h.ll,h.lo,h.few,h.few',h.ownL.later_ hb,h.ownO.later_ hb,h.ne,fun i hi=>PV.closed _ _ _ _ _ _ i hsh hb.size (h.lv i hi),fun i hi=>PF.closed _ _ _ _ _ _ i hsh hb.size (h.ov i hi)⟩
theorem GetPost.gen {w:World} {r:Option V} {e:Ending} {w':World} (h:GetPost w r e w'):∃(d:VC) (er:Int),e= .returned (.tuple #[.agg #[.int .u8 d.k, .int .i64 d.n, .string d.s, .slice d.la d.ll d.lc, .slice d.oa d.ol d.oc], .int .i64 er])∧Hid ((r=none∧er=30)∨∃z,r=some z∧er=0∧IsVal (only (fun b=>w.heap.size≤b) w') w'.heap.size z d)∧Below w.heap.size w w':=by
  obtain ⟨h1,h2⟩:=h
  cases r with
  |none=>exact ⟨vzero,30,h1, .inl ⟨rfl,rfl⟩,h2⟩
  | some q=>
    obtain ⟨c,h3,h4⟩:=h1
    exact ⟨c,0,h3, .inr ⟨q,rfl,rfl,h4⟩,h2⟩
theorem results_put {tmps:Array Value} {W:World} {b:Nat} {c:VC} {x:Value} (ht:tmps[6]? =some (.pointer (some ⟨b,0,none⟩))) (hx:tmps[7]? =some x) (h:BC W b (vcells c)):
    (results Tryz.f86 tmps).run Tryz.prog W= .ok (.tuple #[.agg #[.int .u8 c.k, .int .i64 c.n, .string c.s, .slice c.la c.ll c.lc, .slice c.oa c.ol c.oc],x]) W:=by
  obtain ⟨r0,r1,r2,r3,r4⟩:=(⟨h.at_ 0 _ rfl,h.at_ 1 _ rfl,h.at_ 2 _ rfl,h.at_ 3 _ rfl,h.at_ 4 _ rfl⟩:W.cell? ⟨b,0,none⟩=some (.int .u8 c.k)∧W.cell? ⟨b,1,none⟩=some (.int .i64 c.n)∧W.cell? ⟨b,2,none⟩=some (.string c.s)∧W.cell? ⟨b,3,none⟩=some (.slice c.la c.ll c.lc)∧W.cell? ⟨b,4,none⟩=some (.slice c.oa c.ol c.oc))
  simp [results,Tryz.results86,go_sem,ht,hx,r0,r1,r2,r3,r4]
theorem put_none {w W:World} {x:Act} (h:BC W (w.heap.size+1+1) (vcells vzero)) (hb:Below w.heap.size w W) (hd:x.defers= []) (ht:x.tmps[6]? =some (.pointer (some ⟨w.heap.size+1+1,0,none⟩))) (hx:x.tmps[7]? =some (.int .i64 30)):
    bodyPost Tryz.prog Tryz.f86 (GetPost w none) .ret x W:=⟨hd,_,results_put ht hx h,rfl,hb⟩
theorem put_some {w W:World} {x:Act} {c:VC} {v:V} (h:BC W (w.heap.size+1+1) (vcells c)) (hv:IsVal (only (fun b=>w.heap.size≤b) W) W.heap.size v c) (hb:Below w.heap.size w W) (hd:x.defers= []) (ht:x.tmps[6]? =some (.pointer (some ⟨w.heap.size+1+1,0,none⟩))) (hx:x.tmps[7]? =some (.int .i64 0)):
    bodyPost Tryz.prog Tryz.f86 (GetPost w (some v)) .ret x W:=⟨hd,_,results_put ht hx h,⟨c,rfl,hv⟩,hb⟩
structure PB (w W:World) (c cx:VC):Prop where
  v:BC W w.heap.size (vcells c)
  x:BC W (w.heap.size+1) (vcells cx)
  r:BC W (w.heap.size+1+1) (vcells vzero)
  below:Below w.heap.size w W
theorem PB.start (w:World) (c cx:VC) (t1 t2 t3:TypeId):PB w (((w.alloc (.cells #[.int .u8 c.k, .int .i64 c.n, .string c.s, .slice c.la c.ll c.lc, .slice c.oa c.ol c.oc] t1)).alloc (.cells #[.int .u8 cx.k, .int .i64 cx.n, .string cx.s, .slice cx.la cx.ll cx.lc, .slice cx.oa cx.ol cx.oc] t2)).alloc (.cells #[.int .u8 0, .int .i64 0, .string { data:= #[] }, .slice none 0 0, .slice none 0 0] t3)) c cx:=by
  obtain ⟨w1,hw1⟩:∃w1,w.alloc (.cells #[.int .u8 c.k, .int .i64 c.n, .string c.s, .slice c.la c.ll c.lc, .slice c.oa c.ol c.oc] t1)=w1:=⟨_,rfl⟩
  have s1:w1.heap.size=w.heap.size+1:=by rw [←hw1,World.size_alloc]
  have b1:Below w.heap.size w w1:=by rw [←hw1];exact (Below.refl _ _).alloc (Nat.le_refl _) _
  have c1:BC w1 w.heap.size (vcells c):=by rw [←hw1];exact BC.start w #[.int .u8 c.k, .int .i64 c.n, .string c.s, .slice c.la c.ll c.lc, .slice c.oa c.ol c.oc] t1
  rw [hw1]
  obtain ⟨w2,hw2⟩:∃w2,w1.alloc (.cells #[.int .u8 cx.k, .int .i64 cx.n, .string cx.s, .slice cx.la cx.ll cx.lc, .slice cx.oa cx.ol cx.oc] t2)=w2:=⟨_,rfl⟩
  have s2:w2.heap.size=w.heap.size+1+1:=by rw [←hw2,World.size_alloc,s1]
  have b2:Below w1.heap.size w1 w2:=by rw [←hw2];exact (Below.refl _ _).alloc (Nat.le_refl _) _
  have c2:=BC.start w1 #[.int .u8 cx.k, .int .i64 cx.n, .string cx.s, .slice cx.la cx.ll cx.lc, .slice cx.oa cx.ol cx.oc] t2
  rw [hw2,s1] at c2
  rw [hw2]
  have b3:Below w2.heap.size w2 (w2.alloc (.cells #[.int .u8 0, .int .i64 0, .string { data:= #[] }, .slice none 0 0, .slice none 0 0] t3)):=(Below.refl _ _).alloc (Nat.le_refl _) _
  have c3:=BC.start w2 #[.int .u8 0, .int .i64 0, .string { data:= #[] }, .slice none 0 0, .slice none 0 0] t3
  rw [s2] at c3
  exact ⟨(c1.keep b2 (by omega)).keep b3 (by omega),c2.keep b3 (by omega),c3,(b1.trans (b2.mono (by omega))).trans (b3.mono (by omega))⟩
theorem PB.next {w W W':World} {c cx:VC} {B:Nat} (h:PB w W c cx) (hb:Below B W W') (hB:w.heap.size+3≤B):PB w W' c cx:=
  ⟨h.v.keep hb (by omega),h.x.keep hb (by omega),h.r.keep hb (by omega),h.below.trans (hb.mono (by omega))⟩
theorem PB.result {w W:World} {c cx:VC} (h:PB w W c cx) (d:VC):BC (((((W.setCell ⟨w.heap.size+1+1,0,none⟩ (.int .u8 d.k)).setCell ⟨w.heap.size+1+1,1,none⟩ (.int .i64 d.n)).setCell ⟨w.heap.size+1+1,2,none⟩ (.string d.s)).setCell ⟨w.heap.size+1+1,3,none⟩ (.slice d.la d.ll d.lc)).setCell ⟨w.heap.size+1+1,4,none⟩ (.slice d.oa d.ol d.oc)) (w.heap.size+1+1) (vcells d)∧Below w.heap.size w (((((W.setCell ⟨w.heap.size+1+1,0,none⟩ (.int .u8 d.k)).setCell ⟨w.heap.size+1+1,1,none⟩ (.int .i64 d.n)).setCell ⟨w.heap.size+1+1,2,none⟩ (.string d.s)).setCell ⟨w.heap.size+1+1,3,none⟩ (.slice d.la d.ll d.lc)).setCell ⟨w.heap.size+1+1,4,none⟩ (.slice d.oa d.ol d.oc)):=
  ⟨bc_store h.r d,Below.set5' h.below (by omega) _ _ _ _ _⟩
theorem filledZ1 {w w4:World} (h:Below w.heap.size w.drew w4) (hz:w.heap.size≤w4.heap.size) (d:VC) (t:TypeId) {R:Prop} {z:V→Prop} (hr:Hid (R∨∃x,z x∧IsVal (only (fun b=>w.heap.size≤b) w4) w4.heap.size x d)):
    (BC (w4.alloc (.cells #[.int .u8 d.k, .int .i64 d.n, .string d.s, .slice d.la d.ll d.lc, .slice d.oa d.ol d.oc] t)) w4.heap.size (vcells d)∧Below w.heap.size w.drew (w4.alloc (.cells #[.int .u8 d.k, .int .i64 d.n, .string d.s, .slice d.la d.ll d.lc, .slice d.oa d.ol d.oc] t))∧w.heap.size≤w4.heap.size)∧
    Hid (R∨∃x,z x∧IsVal (only (fun b=>w.heap.size≤b) (w4.alloc (.cells #[.int .u8 d.k, .int .i64 d.n, .string d.s, .slice d.la d.ll d.lc, .slice d.oa d.ol d.oc] t))) (w4.alloc (.cells #[.int .u8 d.k, .int .i64 d.n, .string d.s, .slice d.la d.ll d.lc, .slice d.oa d.ol d.oc] t)).heap.size x d):=by
  refine ⟨filled1 h hz d t,hr.out.imp_right ?_⟩
  rintro ⟨x,hx,hI⟩
  have hb:Below w4.heap.size w4 (w4.alloc (.cells #[.int .u8 d.k, .int .i64 d.n, .string d.s, .slice d.la d.ll d.lc, .slice d.oa d.ol d.oc] t)):=(Below.refl _ _).alloc (Nat.le_refl _) _
  exact ⟨x,hx,(hI.sub (shows_step fun k hk hl=>⟨hk,hb.block k hl⟩)).more hb.size⟩
theorem filledZ2 {w w4:World} (h:Below w.heap.size w.drew w4) (d:VC) (xb:BC w4 w.heap.size [.int .u8 0, .int .i64 0, .string { data:= #[] }, .slice none 0 0, .slice none 0 0]) {R:Prop} {z:V→Prop} (hr:Hid (R∨∃x,z x∧IsVal (only (fun b=>w.heap.size+1≤b) w4) w4.heap.size x d)):
    (BC (((((w4.setCell ⟨w.heap.size,0,none⟩ (.int .u8 d.k)).setCell ⟨w.heap.size,1,none⟩ (.int .i64 d.n)).setCell ⟨w.heap.size,2,none⟩ (.string d.s)).setCell ⟨w.heap.size,3,none⟩ (.slice d.la d.ll d.lc)).setCell ⟨w.heap.size,4,none⟩ (.slice d.oa d.ol d.oc)) w.heap.size (vcells d)∧Below w.heap.size w.drew (((((w4.setCell ⟨w.heap.size,0,none⟩ (.int .u8 d.k)).setCell ⟨w.heap.size,1,none⟩ (.int .i64 d.n)).setCell ⟨w.heap.size,2,none⟩ (.string d.s)).setCell ⟨w.heap.size,3,none⟩ (.slice d.la d.ll d.lc)).setCell ⟨w.heap.size,4,none⟩ (.slice d.oa d.ol d.oc))∧w.heap.size≤w.heap.size)∧
    Hid (R∨∃x,z x∧IsVal (only (fun b=>w.heap.size≤b) (((((w4.setCell ⟨w.heap.size,0,none⟩ (.int .u8 d.k)).setCell ⟨w.heap.size,1,none⟩ (.int .i64 d.n)).setCell ⟨w.heap.size,2,none⟩ (.string d.s)).setCell ⟨w.heap.size,3,none⟩ (.slice d.la d.ll d.lc)).setCell ⟨w.heap.size,4,none⟩ (.slice d.oa d.ol d.oc))) (((((w4.setCell ⟨w.heap.size,0,none⟩ (.int .u8 d.k)).setCell ⟨w.heap.size,1,none⟩ (.int .i64 d.n)).setCell ⟨w.heap.size,2,none⟩ (.string d.s)).setCell ⟨w.heap.size,3,none⟩ (.slice d.la d.ll d.lc)).setCell ⟨w.heap.size,4,none⟩ (.slice d.oa d.ol d.oc)).heap.size x d):=by
  refine ⟨filled2 h d xb,hr.out.imp_right ?_⟩
  rintro ⟨x,hx,hI⟩
  have st:=setV_step w4 w.heap.size 0 d
  exact ⟨x,hx,(hI.sub (shows_step fun k hk hl=>⟨by omega,st.block k hl (by omega)⟩)).more st.size⟩
theorem put_finL {w W1 W2 w7:World} {v z:V} {vk vn:Int} {vs:ByteArray} {la:Option Addr} {ll lc:Nat} {oa:Option Addr} {ol oc:Nat} {cx dz:VC} {K g m0 c0 m1 c1:Nat} {a1:Option Addr} {cl:List VC} {co:List (ByteArray×VC)} {t:TypeId} {x:Act}
    (hv:IsVal w w.heap.size v ⟨vk,vn,vs,la,ll,lc,oa,ol,oc⟩) (hF:Fresh w7 W2.heap.size v.ls v.os (some ⟨g,0,none⟩) m0 c0 a1 m1 c1 cl co) (hB:PB w w7 ⟨vk,vn,vs,la,ll,lc,oa,ol,oc⟩ cx) (hz:IsVal (only (fun b=>W1.heap.size≤b) W2) W2.heap.size z dz) (hb7:Below W2.heap.size W2 w7)
    (h0:w.heap.size+1+1<W1.heap.size) (h12:W1.heap.size≤W2.heap.size) (hK:K<v.ls.length) (hd:x.defers= []) (ht:x.tmps[6]? =some (.pointer (some ⟨w.heap.size+1+1,0,none⟩))) (hx:x.tmps[7]? =some (.int .i64 0)):
    bodyPost Tryz.prog Tryz.f86 (GetPost w (some (v.setL K z))) .ret x (((((((setV w7 g (K*5) dz).setCell ⟨w.heap.size+1+1,0,none⟩ (.int .u8 vk)).setCell ⟨w.heap.size+1+1,1,none⟩ (.int .i64 vn)).setCell ⟨w.heap.size+1+1,2,none⟩ (.string vs)).setCell ⟨w.heap.size+1+1,3,none⟩ (.slice (some ⟨g,0,none⟩) m0 c0)).setCell ⟨w.heap.size+1+1,4,none⟩ (.slice a1 m1 c1)).alloc (.cells #[.int .u8 vk, .int .i64 vn, .string vs, .slice (some ⟨g,0,none⟩) m0 c0, .slice a1 m1 c1] t)):=by
  obtain ⟨k,n,s,l,o,rfl⟩:=v.eta
  obtain ⟨rfl,rfl,rfl,hb,_,_⟩:=hv.lists
  obtain ⟨g',e,hgb,hbc⟩:=hF.ownL.row (.inr (by simp))
  obtain rfl:g=g':=by injection e with e;injection e
  have hglt:=hbc.lt
  have hz2:IsVal (only (fun b=>w.heap.size+1+1+1≤b∧b≠g) w7) w7.heap.size z dz:=(hz.sub (shows_step fun k hk hl=>⟨⟨by omega,by omega⟩,hb7.block k hl⟩)).more hb7.size
  have hI1:=hF.setL (base':=w.heap.size+1+1+1) (by omega) hK rfl hz2 hb.k0 hb.k1 hb.n0 hb.n1 hb.s1
  have hB1:=hB.next (B:=w.heap.size+3) (((setV_step w7 g (K*5) dz).below (Nat.le_of_lt hglt)).mono (by omega)) (Nat.le_refl _)
  have ST:=hB1.result ⟨vk,vn,vs,some ⟨g,0,none⟩,m0,c0,a1,m1,c1⟩
  have hI2:=isVal_far hI1 (setV_step (setV w7 g (K*5) dz) (w.heap.size+1+1) 0 ⟨vk,vn,vs,some ⟨g,0,none⟩,m0,c0,a1,m1,c1⟩) (by omega)
  have hal:=fun (W:World) (o:Obj)=>(Below.refl W.heap.size W).alloc (Nat.le_refl _) o
  exact put_some (ST.1.keep (hal _ _) ST.1.lt) (((hI2.sub (shows_step fun k hk hl=>⟨by omega,(hal _ _).block k hl⟩)).more (hal _ _).size)) (ST.2.alloc ST.2.size _) hd ht hx
theorem put_finO {w W1 W2 w7:World} {v z:V} {vk vn:Int} {vs:ByteArray} {la:Option Addr} {ll lc:Nat} {oa:Option Addr} {ol oc:Nat} {cx dz:VC} {K g m0 c0 m1 c1:Nat} {a0:Option Addr} {cl:List VC} {co:List (ByteArray×VC)} {t:TypeId} {x:Act}
    (hv:IsVal w w.heap.size v ⟨vk,vn,vs,la,ll,lc,oa,ol,oc⟩) (hF:Fresh w7 W2.heap.size v.ls v.os a0 m0 c0 (some ⟨g,0,none⟩) m1 c1 cl co) (hB:PB w w7 ⟨vk,vn,vs,la,ll,lc,oa,ol,oc⟩ cx) (hz:IsVal (only (fun b=>W1.heap.size≤b) W2) W2.heap.size z dz) (hb7:Below W2.heap.size W2 w7)
    (h0:w.heap.size+1+1<W1.heap.size) (h12:W1.heap.size≤W2.heap.size) (hK:K<v.os.length) (hd:x.defers= []) (ht:x.tmps[6]? =some (.pointer (some ⟨w.heap.size+1+1,0,none⟩))) (hx:x.tmps[7]? =some (.int .i64 0)):
    bodyPost Tryz.prog Tryz.f86 (GetPost w (some (v.setO K z))) .ret x (((((((setV w7 g (K*6+1) dz).setCell ⟨w.heap.size+1+1,0,none⟩ (.int .u8 vk)).setCell ⟨w.heap.size+1+1,1,none⟩ (.int .i64 vn)).setCell ⟨w.heap.size+1+1,2,none⟩ (.string vs)).setCell ⟨w.heap.size+1+1,3,none⟩ (.slice a0 m0 c0)).setCell ⟨w.heap.size+1+1,4,none⟩ (.slice (some ⟨g,0,none⟩) m1 c1)).alloc (.cells #[.int .u8 vk, .int .i64 vn, .string vs, .slice a0 m0 c0, .slice (some ⟨g,0,none⟩) m1 c1] t)):=by
  obtain ⟨k,n,s,l,o,rfl⟩:=v.eta
  obtain ⟨rfl,rfl,rfl,hb,_,_⟩:=hv.lists
  obtain ⟨g',e,hgb,hbc⟩:=hF.ownO.row (.inr (by simp))
  obtain rfl:g=g':=by injection e with e;injection e
  have hglt:=hbc.lt
  have hz2:IsVal (only (fun b=>w.heap.size+1+1+1≤b∧b≠g) w7) w7.heap.size z dz:=(hz.sub (shows_step fun k hk hl=>⟨⟨by omega,by omega⟩,hb7.block k hl⟩)).more hb7.size
  have hI1:=hF.setO (base':=w.heap.size+1+1+1) (by omega) hK rfl hz2 hb.k0 hb.k1 hb.n0 hb.n1 hb.s1
  have hB1:=hB.next (B:=w.heap.size+3) (((setV_step w7 g (K*6+1) dz).below (Nat.le_of_lt hglt)).mono (by omega)) (Nat.le_refl _)
  have ST:=hB1.result ⟨vk,vn,vs,a0,m0,c0,some ⟨g,0,none⟩,m1,c1⟩
  have hI2:=isVal_far hI1 (setV_step (setV w7 g (K*6+1) dz) (w.heap.size+1+1) 0 ⟨vk,vn,vs,a0,m0,c0,some ⟨g,0,none⟩,m1,c1⟩) (by omega)
  have hal:=fun (W:World) (o:Obj)=>(Below.refl W.heap.size W).alloc (Nat.le_refl _) o
  exact put_some (ST.1.keep (hal _ _) ST.1.lt) (((hI2.sub (shows_step fun k hk hl=>⟨by omega,(hal _ _).block k hl⟩)).more (hal _ _).size)) (ST.2.alloc ST.2.size _) hd ht hx
end Go.Proofs.YtgcfhkceejcliaaGreatDoor
namespace Go.Proofs.YtgcfhkceejcliaaGreatDoor
open Go.RowKit
theorem flat_take_get {cs:List (ByteArray×VC)} {k j:Nat} {u:Value} (h:((cs.take k).flatMap fcells)[j]? =some u):(cs.flatMap fcells)[j]? =some u:=by
  have e:cs.flatMap fcells=(cs.take k).flatMap fcells++(cs.drop k).flatMap fcells:=by rw [←List.flatMap_append,List.take_append_drop]
  rw [e,List.getElem?_append_left (List.getElem?_eq_some_iff.1 h).1];exact h
theorem flat_drop_get {cs:List (ByteArray×VC)} {k j:Nat} {u:Value} (hk:k≤cs.length) (h:((cs.drop k).flatMap fcells)[j]? =some u):(cs.flatMap fcells)[k*6+j]? =some u:=by
  have e:cs.flatMap fcells=(cs.take k).flatMap fcells++(cs.drop k).flatMap fcells:=by rw [←List.flatMap_append,List.take_append_drop]
  have hl:((cs.take k).flatMap fcells).length=k*6:=by rw [flat_length fcells 6 (fun _=>rfl),List.length_take,Nat.min_eq_left hk]
  rw [e,List.getElem?_append_right (by omega),hl,Nat.add_sub_cancel_left];exact h
theorem PF.with_ {o:List (ByteArray×V)} {cs:List (ByteArray×VC)} {W:World} {B:Nat} {key:ByteArray} {x:V} {cx:VC} {k k':Nat} (hl:cs.length=o.length) (h:∀i,i<o.length→PF o cs W B i) (hx:IsVal W B x cx) (hks:key.size≤140737488355328) (hk:k≤o.length) (hk':k'≤o.length):
    ∀i,i<(o.take k++(key,x)::o.drop k').length→PF (o.take k++(key,x)::o.drop k') (cs.take k++(key,cx)::cs.drop k') W B i:=by
  intro i _ hi
  have l1:(o.take k).length=k:=by rw [List.length_take,Nat.min_eq_left hk]
  have l2:(cs.take k).length=k:=by rw [List.length_take,Nat.min_eq_left (by omega)]
  rw [List.getD_eq_getElem?_getD]
  by_cases e1:i<k
  · have e2:(cs.take k++(key,cx)::cs.drop k')[i]? =cs[i]? :=by
      rw [List.getElem?_append_left (by omega),List.getElem?_take_of_lt e1]
    have e3:(o.take k++(key,x)::o.drop k')[i] =o[i]'(by omega):=by
      rw [List.getElem_append_left (by omega),List.getElem_take]
    rw [e2,e3, ←List.getD_eq_getElem?_getD]
    exact h i (by omega) (by omega)
  · by_cases e4:i=k
    · subst e4
      have e2:(cs.take i++(key,cx)::cs.drop k')[i]? =some (key,cx):=by
        rw [List.getElem?_append_right (by omega),l2,Nat.sub_self];rfl
      have e3:(o.take i++(key,x)::o.drop k')[i] =(key,x):=by
        rw [List.getElem_append_right (by omega)];simp [l1]
      rw [e2,e3]
      exact ⟨rfl,hks,hx⟩
    · obtain ⟨m,rfl⟩:∃m,i=k+1+m:=⟨i - k - 1,by omega⟩
      rw [List.length_append,List.length_cons,List.length_drop,l1] at hi
      have e2:(cs.take k++(key,cx)::cs.drop k')[k+1+m]? =cs[k'+m]? :=by
        rw [List.getElem?_append_right (by omega),l2,show k+1+m - k=m+1 by omega,List.getElem?_cons_succ,List.getElem?_drop]
      have e3:(o.take k++(key,x)::o.drop k')[k+1+m]'(by rw [List.length_append,List.length_cons,List.length_drop,l1];omega)=o[k'+m]'(by omega):=by
        rw [List.getElem_append_right (by omega)]
        simp only [l1,show k+1+m - k=m+1 by omega,List.getElem_cons_succ,List.getElem_drop]
      rw [e2,e3, ←List.getD_eq_getElem?_getD]
      exact h (k'+m) (by omega) (by omega)
end Go.Proofs.YtgcfhkceejcliaaGreatDoor
namespace Go.Proofs.YtgcfhkceejcliaaGreatDoor
open Go.RowKit
theorem IsFields.sub {w w':World} {B:Nat} {l:List (ByteArray×V)} {a:Option Addr} {n c:Nat} (hs:Shows w w' B) (h:IsFields w B l a n c):IsFields w' B l a n c:=by
  obtain ⟨h1,h2,h3,h4,b,o,f,h5,h6⟩:=h
  refine ⟨h1,h2,h3,h4,b,o,f,h5,fun i hi=> ?_⟩
  have hB:=(h5 (by omega)).2
  obtain ⟨g1,g2,g3,g4⟩:=h6 i hi
  exact ⟨hs _ _ _ hB g1,g2,g3.sub hs hB,g4.sub hs⟩
theorem fcells_one (key:ByteArray) (cx:VC):∀u ∈ fcells (key,cx),u.oneCell'=true:=by simp [fcells,Value.oneCell']
theorem flat_one (cs:List (ByteArray×VC)):∀u ∈ cs.flatMap fcells,u.oneCell'=true:=by
  intro u hu
  obtain ⟨c,_,hc⟩:=List.mem_flatMap.1 hu
  exact fcells_one c.1 c.2 u hc
set_option maxHeartbeats 8000000 in
set_option maxRecDepth 100000 in
theorem with_ff (w:World) (B0:Nat) (hB0:B0≤w.heap.size) (o:List (ByteArray×V)) (b off ol oc:Nat) (ho:IsFields (only (fun k=>B0≤k) w) w.heap.size o (some ⟨b,off,none⟩) ol oc) (key:ByteArray) (hks:key.size≤140737488355328) (x:V) (cx:VC) (hx:IsVal (only (fun k=>B0≤k) w) w.heap.size x cx) (hpos:0<ol) (hfew:ol≤1000000) (his:fieldIs o key=false) (hke:fieldK o key<oc):
    Calls Tryz.prog 76 #[.slice (some ⟨b,off,none⟩) ol oc, .string key, .agg #[.int .u8 cx.k, .int .i64 cx.n, .string cx.s, .slice cx.la cx.ll cx.lc, .slice cx.oa cx.ol cx.oc]] w (WithPost w B0 (withF o key x)):=by
  obtain ⟨i0,hi0,hz0,hz1,hz2⟩:=info_parts ginfoFR
  have hlen:=ho.len
  have hcap:=ho.cap
  have hmax:=ho.max
  obtain ⟨cs,b2,off2,hcl,hab,hcell,hpf⟩:=ho.cells
  have HCELL:Hid (∀W,Below w.heap.size w W→∀j u,(cs.flatMap fcells)[j]? =some u→W.cell? ⟨b,off+j,none⟩=some u):=by
    intro W hW j u hj
    have hjl:=(List.getElem?_eq_some_iff.1 hj).1
    rw [flat_length fcells 6 (fun _=>rfl),hcl, ←hlen] at hjl
    obtain ⟨e,hb2⟩:=hab (by omega)
    injection e with e;injection e with e1 e2
    subst e1 e2
    exact keep_cell hW (only_cell (hcell j u hj)).2 hb2
  obtain ⟨k,hk⟩:∃k,fieldK o key=k:=⟨_,rfl⟩
  rw [hk] at hke
  have hkl:k≤ol:=by rw [←hk,hlen];exact fieldK_le o key
  have hkl2:=hkl
  have hkc:k≤cs.length:=by rw [hcl, ←hlen];exact hkl
  have hkc2:k≤cs.length:=by rw [hcl, ←hlen];omega
  have HF:Hid (∀W,Below w.heap.size w W→Calls Tryz.prog 101 #[.agg #[.int .u8 0, .int .i64 0, .string { data:= #[] }, .slice none 0 0, .slice (some ⟨b,off,none⟩) ol oc], .string key] W fun e w'=>e= .returned (.tuple #[.int .i64 (k:Int), .bool false])∧Below W.heap.size W w'):=by
    intro W hW
    have hof:IsFields W W.heap.size o (some ⟨b,off,none⟩) ol oc:=(IsFields.keep (IsFields.sub (shows_only (fun k=>B0≤k) w _) ho) hW).more hW.size
    have:=field_any W o key 0 0 { data:= #[] } none 0 0 (some ⟨b,off,none⟩) ol oc hof
    rw [hk,his] at this;exact this
  have hwf:withF o key x=o.take k++(key,x)::o.drop (k):=by rw [withF,his,hk];rfl
  rw [hwf]
  have HBX:=Lib.hid (BC.start w #[.int .u8 cx.k, .int .i64 cx.n, .string cx.s, .slice cx.la cx.ll cx.lc, .slice cx.oa cx.ol cx.oc] 33)
  have HAL:=Lib.hid ((Below.refl _ _).alloc (Nat.le_refl _) (.cells #[.int .u8 cx.k, .int .i64 cx.n, .string cx.s, .slice cx.la cx.ll cx.lc, .slice cx.oa cx.ol cx.oc] 33):Below w.heap.size w _)
  have HX:=Lib.hid hx
  have HPF:=Lib.hid hpf
  have HCL:=Lib.hid hcl
  have HLEN:=Lib.hid hlen
  obtain ⟨R,hR⟩:∃R,WithPost w B0 (o.take k++(key,x)::o.drop (k))=R:=⟨_,rfl⟩
  rw [hR]
  have HR:=Lib.hid hR
  obtain ⟨XA,hXA⟩:∃XA,(cs.take k).flatMap fcells=XA:=⟨_,rfl⟩
  obtain ⟨XB,hXB⟩:∃XB,(cs.drop (k)).flatMap fcells=XB:=⟨_,rfl⟩
  have hla:XA.length=k*6:=by rw [←hXA,flat_length fcells 6 (fun _=>rfl),List.length_take,Nat.min_eq_left hkc]
  have hlb:XB.length=(ol - (k))*6:=by rw [←hXB,flat_length fcells 6 (fun _=>rfl),List.length_drop,hcl, ←hlen]
  have HA1:Hid (∀u ∈ XA,u.oneCell'=true):=by unfold Hid;rw [←hXA];exact flat_one _
  have HB1:Hid (∀u ∈ XB,u.oneCell'=true):=by unfold Hid;rw [←hXB];exact flat_one _
  have HCA:Hid (∀W,Below w.heap.size w W→∀j u,XA[j]? =some u→W.cell? ((⟨b,off,none⟩:Addr).add j)=some u):=by
    intro W hW j u hj
    rw [←hXA] at hj
    rw [add_at];exact HCELL.out W hW j u (flat_take_get hj)
  have HCB:Hid (∀W,Below w.heap.size w W→∀j u,XB[j]? =some u→W.cell? ((⟨b,off+(k)*6,none⟩:Addr).add j)=some u):=by
    intro W hW j u hj
    rw [←hXB] at hj
    rw [add_at,Nat.add_assoc];exact HCELL.out W hW _ u (flat_drop_get hkc2 hj)
  have HXA:=Lib.hid hXA
  have HXB:=Lib.hid hXB
  clear ho hab hcell hk his hx hpf hcl hlen hwf hR hXA hXB hkc hkc2
  go_enter Tryz.func76,Tryz.ntmps76
  go_wp2_with fail
  refine (HF.out _ HAL.out).mono ?_
  rintro e w1 ⟨rfl,hb1⟩
  have bl1:=HAL.out.trans (hb1.mono (by simp))
  have HBX1:=Lib.hid (HBX.out.keep hb1 (by simp))
  have zs1:w.heap.size<w1.heap.size:=HBX1.out.lt
  have HBL1:=Lib.hid bl1
  have ho1:w1.ownsRow (w.heap.size+1) 98 6 (.slice none 0 0) 0 [] :=⟨rfl, .inl ⟨rfl,rfl⟩⟩
  clear hb1 bl1
  go_wp2_with (first
    |(at_builtin;refine wpList_append_own _ rfl (.tmp 17) (.tmp 20) 31 (by rfl) (w.heap.size+1) 98 i0 _ 6 96 Tryz.underlying31 hi0 hz0 hz1 hz2 rfl (by omega) (.slice none 0 0) 0 [] (by rfl) ho1 ⟨b,off,none⟩ k oc XA (by rfl) hla (HCA.out _ HBL1.out) HA1.out (by unfold maxLen;omega) (by omega) (by omega) ?_;intro v1 w2 hown1 hgrow1 _;have b12:Below (w.heap.size+1) w1 w2:=grown_below hgrow1 (fun k hk=>by simp [Value.ownBlock] at hk) (by omega);have BX2:=HBX1.out.keep b12 (by omega);obtain ⟨x0,x1,x2,x3,x4⟩:=row5 BX2.at_;have zs2:=BX2.lt;have HBL2:=Lib.hid (HBL1.out.trans (b12.mono (by omega)));have HO1:=Lib.hid hown1;have hrl:∀g,v1.ownBlock=some g→w.heap.size+1≤g∧g<w2.heap.size:=hown1.lt;have ho2:=hown1.alloc (.cells #[.string key, .int .u8 cx.k, .int .i64 cx.n, .string cx.s, .slice cx.la cx.ll cx.lc, .slice cx.oa cx.ol cx.oc] 98);have hnw:∀j u,(fcells (key,cx))[j]? =some u→(w2.alloc (.cells #[.string key, .int .u8 cx.k, .int .i64 cx.n, .string cx.s, .slice cx.la cx.ll cx.lc, .slice cx.oa cx.ol cx.oc] 98)).cell? ((⟨w2.heap.size,0,none⟩:Addr).add j)=some u:=World.news_of_block (t:=98) (fr:=(0,0)) (heap_alloc_new w2 (.cells #[.string key, .int .u8 cx.k, .int .i64 cx.n, .string cx.s, .slice cx.la cx.ll cx.lc, .slice cx.oa cx.ol cx.oc] 98));have HNW:=Lib.hid hnw;clear hnw hown1 hgrow1 BX2 b12)
    |(at_builtin;refine wpList_append_own _ rfl (.tmp 22) (.tmp 26) 31 (by rfl) (w.heap.size+1) 98 i0 _ 6 96 Tryz.underlying31 hi0 hz0 hz1 hz2 rfl (by omega) v1 (0+k) ([] ++XA) (by rfl) ho2 ⟨w2.heap.size,0,none⟩ 1 1 (fcells (key,cx)) (by rfl) (by rfl) HNW.out (fcells_one key cx) (by unfold maxLen;omega) (by omega) (by simp;omega) ?_;intro v2 w4 hown2 hgrow2 _;have b24:Below (w.heap.size+1) w2 w4:=(((Below.refl w2.heap.size w2).alloc (Nat.le_refl _) (.cells #[.string key, .int .u8 cx.k, .int .i64 cx.n, .string cx.s, .slice cx.la cx.ll cx.lc, .slice cx.oa cx.ol cx.oc] 98)).mono (by omega)).trans (grown_below hgrow2 (fun k hk=>(hrl k hk).1) (by simp;omega));have HBL4:=Lib.hid (HBL2.out.trans (b24.mono (by omega)));have zs4:w.heap.size<w4.heap.size:=Nat.lt_of_lt_of_le zs2 b24.size;have hrl2:∀g,v2.ownBlock=some g→w.heap.size+1≤g∧g<w4.heap.size:=hown2.lt;have HO2:=Lib.hid hown2;clear hgrow2 b24 hown2)
    |(at_builtin;refine wpList_append_own _ rfl (.tmp 31) (.tmp 34) 31 (by rfl) (w.heap.size+1) 98 i0 _ 6 96 Tryz.underlying31 hi0 hz0 hz1 hz2 rfl (by omega) v2 (0+k+1) ([] ++XA++fcells (key,cx)) (by rfl) HO2.out ⟨b,off+(k)*6,none⟩ (ol - (k)) (oc - (k)) XB (by rfl) (by omega) (HCB.out _ HBL4.out) HB1.out (by unfold maxLen;omega) (by omega) (by omega) ?_;intro v3 w5 hown3 hgrow3 _;have b45:Below (w.heap.size+1) w4 w5:=grown_below hgrow3 (fun k hk=>(hrl2 k hk).1) (by omega);have HBL5:=Lib.hid (HBL4.out.trans (b45.mono (by omega)));have HO3:=Lib.hid hown3;clear hgrow3 b45 hown3))
  rw [←HR.out]
  have hcat: [] ++XA++fcells (key,cx)++XB=(cs.take k++(key,cx)::cs.drop (k)).flatMap fcells:=by rw [←HXA.out, ←HXB.out];simp
  have hll:(o.take k++(key,x)::o.drop (k)).length=0+k+1+(ol - (k)):=by
    rw [List.length_append,List.length_cons,List.length_drop,List.length_take, ←HLEN.out,Nat.min_eq_left hkl];omega
  have hown:=HO3.out
  rw [hcat, ←hll] at hown
  have hlt3:=hown.lt
  have hsh:Shows (only (fun k=>B0≤k) w) (only (Free B0 v3) w5) w.heap.size:=shows_step fun q hq hl=>⟨⟨hq,fun e=>by have:=(hlt3 q e.symm).1;omega⟩,HBL5.out.block q hl⟩
  obtain ⟨a,n,c,hv,hf,hz⟩:=isFields_of_own (B0:=B0) (B1:=w.heap.size+1) hown (by omega) (by rw [List.length_append,List.length_append,List.length_cons,List.length_cons,List.length_drop,List.length_drop,List.length_take,List.length_take,HCL.out])
    (PF.with_ HCL.out (fun i hi=>PF.closed o cs _ _ _ _ i hsh HBL5.out.size (HPF.out i hi)) ((HX.out.sub hsh).more HBL5.out.size) hks (by rw [←HLEN.out];exact hkl) (by rw [←HLEN.out];omega)) (by rw [hll];omega)
  exact ⟨⟨a,n,c,by rw [hv],hf,hz⟩,HBL5.out⟩
end Go.Proofs.YtgcfhkceejcliaaGreatDoor
namespace Go.Proofs.YtgcfhkceejcliaaGreatDoor
open Go.RowKit
theorem run_append_none {P:Program} (w:World) (base:Nat) (t ty e:TypeId) (i:TypeInfo) (size:Nat) (ht:P.underlying t=some (.slice e)) (hi:P.info? e=some i)
    (v:Value) (n:Nat) (xs:List Value) (hown:w.ownsRow base e size v n xs):
    (Builtin.append_ #[t,t] ty #[v, .slice none 0 0]).run P w= .ok v w:=by
  rcases hown.2 with ⟨rfl,rfl⟩|⟨g,cap,cur,rfl,hbg,hg,hnc,hcm,hcs,htake⟩
  · simp [Builtin.append_,run_underlying ht,sizeOf,typeInfo,hi,Builtin.lenOf,Builtin.firstCells]
  · simp [Builtin.append_,run_underlying ht,sizeOf,typeInfo,hi,Builtin.lenOf,Builtin.firstCells,storeCells,hnc]
theorem wpList_append_none {P:Program} (w:World) {ops:Array Oper} {rest:List Oper} {o:Oper} {a:Act} {Q:Exit→Act→World→Prop} (hgd:o.guard=none) (s x:Operand) (t:TypeId)
    (ho:o.op= .call { callee:= .builtin .append,args:= #[s,x],argTypes:= #[t,t] })
    (base:Nat) (e:TypeId) (i:TypeInfo) (size:Nat) (ht:P.underlying t=some (.slice e)) (hi:P.info? e=some i)
    (v:Value) (n:Nat) (xs:List Value) (hs:a.eval s=v) (hown:w.ownsRow base e size v n xs)
    (hx:a.eval x= .slice none 0 0)
    (h:wpList P ops Q rest (a.put o.dst v) w):wpList P ops Q (o::rest) a w:=
  wpList_plain hgd fun _ hK=>by
    have hr:=run_append_none (P:=P) w base t o.type e i size ht hi v n xs hown
    unfold Oper.wp execOp
    simp only [ho,resolve,invoke,builtin,Sem.run_bind,Sem.run_pure,Result.andThen_ok,List.map_toArray,List.map_cons,List.map_nil,hs,hx,hr]
    exact hK _ _ h
end Go.Proofs.YtgcfhkceejcliaaGreatDoor
namespace Go.Proofs.YtgcfhkceejcliaaGreatDoor
open Go.RowKit
def insL {α:Type} (l:List α) (i:Nat) (x:α):List α:=l.take i++x::l.drop i
def remL {α:Type} (l:List α) (i:Nat):List α:=l.take i++l.drop (i+1)
structure Piece (w:World) (a:Option Addr) (m c:Nat) (cells:List Value):Prop where
  nil:a=none→m=0∧c=0∧cells= []
  get:∀ad,a=some ad→∀j u,cells[j]? =some u→w.cell? (ad.add j)=some u
theorem wpList_append_pc {P:Program} (w:World) {ops:Array Oper} {rest:List Oper} {o:Oper} {a:Act} {Q:Exit→Act→World→Prop} (hgd:o.guard=none) (s x:Operand) (t:TypeId)
    (ho:o.op= .call { callee:= .builtin .append,args:= #[s,x],argTypes:= #[t,t] })
    (base:Nat) (e:TypeId) (i:TypeInfo) (z:Value) (size bytes:Nat) (ht:P.underlying t=some (.slice e)) (hi:P.info? e=some i) (hz:i.zero=some z)
    (hsize:i.size=size) (hby:i.bytes=bytes) (hzs:z.cells.size=size) (hsz:0<size)
    (v:Value) (n:Nat) (xs:List Value) (hs:a.eval s=v) (hown:w.ownsRow base e size v n xs)
    (sa:Option Addr) (m c:Nat) (news:List Value) (hx:a.eval x= .slice sa m c) (hp:Piece w sa m c news) (hl:news.length=m*size) (h1:∀u ∈ news,u.oneCell'=true)
    (h63:n+m≤maxLen) (hbytes:(n+m)*bytes≤140737488355328) (hbase:base≤w.heap.size)
    (h:∀v' w',w'.ownsRow base e size v' (n+m) (xs++news)→w.grownBy w' v.ownBlock→wpList P ops Q rest (a.put o.dst v') w'):wpList P ops Q (o::rest) a w:=by
  cases sa with
  | none=>
    obtain ⟨rfl,rfl,rfl⟩:=hp.nil rfl
    refine wpList_append_none w hgd s x t ho base e i size ht hi v n xs hs hown hx ?_
    exact h v w (by simpa using hown) ⟨rfl,rfl,rfl,Nat.le_refl _,fun _ _ _=>rfl⟩
  | some ad=>
    exact wpList_append_own w hgd s x t ho base e i z size bytes ht hi hz hsize hby hzs hsz v n xs hs hown ad m c news hx hl (hp.get ad rfl) h1 h63 hbytes hbase fun v' w' h2 h3 _=>h v' w' h2 h3
theorem vcells_one (cs:List VC):∀u ∈ cs.flatMap vcells,u.oneCell'=true:=by
  intro u hu
  obtain ⟨c,_,hc⟩:=List.mem_flatMap.1 hu
  simp [vcells] at hc
  rcases hc with rfl|rfl|rfl|rfl|rfl<;>rfl
theorem PV.append {l1 l2:List V} {c1 c2:List VC} {W:World} {B:Nat} (hl:c1.length=l1.length) (h1:∀i,i<l1.length→PV l1 c1 W B i) (h2:∀i,i<l2.length→PV l2 c2 W B i):∀i,i<(l1++l2).length→PV (l1++l2) (c1++c2) W B i:=by
  intro i _ hi
  rw [List.getD_eq_getElem?_getD]
  by_cases e:i<l1.length
  · rw [List.getElem?_append_left (by omega),List.getElem_append_left e, ←List.getD_eq_getElem?_getD]
    exact h1 i e e
  · rw [List.length_append] at hi
    rw [List.getElem?_append_right (by omega),List.getElem_append_right (by omega),hl, ←List.getD_eq_getElem?_getD]
    exact h2 (i - l1.length) (by omega) (by omega)
theorem PV.take {l:List V} {cs:List VC} {W:World} {B:Nat} (h:∀i,i<l.length→PV l cs W B i) (k:Nat):∀i,i<(l.take k).length→PV (l.take k) (cs.take k) W B i:=by
  intro i _ hi
  rw [List.length_take] at hi
  rw [List.getD_eq_getElem?_getD,List.getElem?_take_of_lt (by omega),List.getElem_take, ←List.getD_eq_getElem?_getD]
  exact h i (by omega) (by omega)
theorem PV.drop {l:List V} {cs:List VC} {W:World} {B:Nat} (h:∀i,i<l.length→PV l cs W B i) (k:Nat):∀i,i<(l.drop k).length→PV (l.drop k) (cs.drop k) W B i:=by
  intro i _ hi
  rw [List.length_drop] at hi
  rw [List.getD_eq_getElem?_getD,List.getElem?_drop,List.getElem_drop, ←List.getD_eq_getElem?_getD]
  exact h (k+i) (by omega) (by omega)
theorem PV.cons {l:List V} {cs:List VC} {W:World} {B:Nat} {x:V} {cx:VC} (hx:IsVal W B x cx) (h:∀i,i<l.length→PV l cs W B i):∀i,i<(x::l).length→PV (x::l) (cx::cs) W B i:=by
  intro i _ hi
  cases i with
  |zero=>exact hx
  |succ i=>exact h i (by simpa using hi) (by simpa using hi)
theorem vflat_take {cs:List VC} {k j:Nat} {u:Value} (h:((cs.take k).flatMap vcells)[j]? =some u):(cs.flatMap vcells)[j]? =some u:=by
  have e:cs.flatMap vcells=(cs.take k).flatMap vcells++(cs.drop k).flatMap vcells:=by rw [←List.flatMap_append,List.take_append_drop]
  rw [e,List.getElem?_append_left (List.getElem?_eq_some_iff.1 h).1];exact h
theorem vflat_drop {cs:List VC} {k j:Nat} {u:Value} (hk:k≤cs.length) (h:((cs.drop k).flatMap vcells)[j]? =some u):(cs.flatMap vcells)[k*5+j]? =some u:=by
  have e:cs.flatMap vcells=(cs.take k).flatMap vcells++(cs.drop k).flatMap vcells:=by rw [←List.flatMap_append,List.take_append_drop]
  have hl:((cs.take k).flatMap vcells).length=k*5:=by rw [flat_length vcells 5 (fun _=>rfl),List.length_take,Nat.min_eq_left hk]
  rw [e,List.getElem?_append_right (by omega),hl,Nat.add_sub_cancel_left];exact h
theorem IsVals.cells {w:World} {B:Nat} {l:List V} {a:Option Addr} {n c:Nat} (h:IsVals w B l a n c):
    ∃cs:List VC,cs.length=l.length∧(∀b off,a=some ⟨b,off,none⟩→0<n→b<B∧∀j u,(cs.flatMap vcells)[j]? =some u→w.cell? ⟨b,off+j,none⟩=some u)∧∀i,i<l.length→PV l cs w B i:=by
  obtain ⟨h1,h2,h3,h4,b,off,f,h5,h6⟩:=h
  have hget:∀i (_:i<l.length),((List.range l.length).map f)[i]? =some (f i):=by
    intro i hi
    simp [hi]
  refine ⟨(List.range l.length).map f,by simp,fun b' off' e hn=> ?_,fun i hi h=> ?_⟩
  · obtain ⟨e2,hb⟩:=h5 hn
    rw [e] at e2
    injection e2 with e2;injection e2 with e2 e3
    subst e2 e3
    refine ⟨hb,fun j u hj=> ?_⟩
    have hjl:j<l.length*5:=by
      have:=(List.getElem?_eq_some_iff.1 hj).1
      rw [flat_length vcells 5 (fun _=>rfl)] at this
      simpa using this
    have hi:j / 5<l.length:=by omega
    have hd:j=j / 5*5+j % 5:=by omega
    have hm:j % 5<5:=by omega
    rw [hd,flat_get vcells 5 (fun _=>rfl) _ (j / 5) (j % 5) (by simpa using hi) hm] at hj
    have he:((List.range l.length).map f)[j / 5]'(by simpa using hi)=f (j / 5):=by simp
    rw [he] at hj
    obtain ⟨g1,g2⟩:=h6 (j / 5) hi
    rw [hd, ←Nat.add_assoc]
    obtain ⟨m,hmm⟩:∃m,j % 5=m:=⟨_,rfl⟩
    rw [hmm] at hj hm ⊢
    match m,hm with
    |0,_=>rw [←hj];exact g1.c0
    |1,_=>rw [←hj];exact g1.c1
    |2,_=>rw [←hj];exact g1.c2
    |3,_=>rw [←hj];exact g1.c3
    |4,_=>rw [←hj];exact g1.c4
  · rw [List.getD_eq_getElem?_getD,hget i hi]
    exact (h6 i hi).2
def Neat2 (a:Option Addr) (c:Nat):Prop:=(a=none∧c=0)∨∃b off,a=some ⟨b,off,none⟩
theorem Neat2.zero {a:Option Addr} {c:Nat} (h:Neat2 a c):a=none→c=0:=fun e=>by
  rcases h with h|⟨b,off,h⟩
  · exact h.2
  · rw [e] at h;cases h
theorem isVals_of_own {w:World} {B0 B1:Nat} {v:Value} {l:List V} {cs:List VC} (hown:w.ownsRow B1 33 5 v l.length (cs.flatMap vcells)) (hB:B0≤B1) (hl:cs.length=l.length) (hels:∀i,i<l.length→PV l cs (only (Free B0 v) w) w.heap.size i) (hfew:l.length≤1466015503701):
    ∃a n c,v= .slice a n c∧IsVals (only (fun b=>B0≤b) w) w.heap.size l a n c∧Neat2 a c:=by
  have hown2:w.ownsRow B0 33 5 v l.length (cs.flatMap vcells):=by
    refine ⟨hown.1, ?_⟩
    rcases hown.2 with h|⟨g,cap,cur,h1,h2,h3⟩
    · exact .inl h
    · exact .inr ⟨g,cap,cur,h1,Nat.le_trans hB h2,h3⟩
  have hv:∃a n c,v= .slice a n c∧Neat2 a c:=by
    rcases hown.2 with ⟨h,_⟩|⟨g,cap,cur,h1,_⟩
    · exact ⟨_,_,_,h, .inl ⟨rfl,rfl⟩⟩
    · exact ⟨_,_,_,h1, .inr ⟨g,0,rfl⟩⟩
  obtain ⟨a,n,c,rfl,hz⟩:=hv
  have hrow:RowV w B0 (.slice a n c) l cs:=⟨hown2,hels⟩
  have:=(RowV.val hrow (lo:=B0) hl (Nat.le_refl _) 4 (by omega) (by omega) hfew).lists
  exact ⟨a,n,c,rfl,this.2.2.2.2.1,hz⟩
def ListPost (w:World) (B0:Nat) (l:List V) (e:Ending) (w':World):Prop:=
  (∃a n c,e= .returned (.slice a n c)∧IsVals (only (fun b=>B0≤b) w') w'.heap.size l a n c∧Neat2 a c)∧Below w.heap.size w w'
end Go.Proofs.YtgcfhkceejcliaaGreatDoor
