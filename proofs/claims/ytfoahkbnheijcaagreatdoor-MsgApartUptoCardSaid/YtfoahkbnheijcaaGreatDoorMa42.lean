/-
  Contracts of the functions that the law reaches: The reader of msg: cut, number, text.
-/
import Derived.Test.YtfoahkbnheijcaaGreatDoorMa41
namespace Go.Proofs.YtfoahkbnheijcaaGreatDoor
open Go.RowKit
set_option maxHeartbeats 8000000
structure RdM (w:World) (rb:Nat) (bs:List UInt8) (sh:Bool):Prop where
 at_:∃a n c,w.cell? ⟨rb,0,none⟩=some (.slice a n c)/\IsB w rb a n c bs
 short:w.cell? ⟨rb,1,none⟩=some (.bool sh)
 f0:w.frozen? ⟨rb,0,none⟩=false
 f1:w.frozen? ⟨rb,1,none⟩=false
theorem RdM.lt {w:World} {rb:Nat} {bs:List UInt8} {sh:Bool} (h:RdM w rb bs sh):rb<w.heap.size:=World.block_lt_of_cell? w _ h.short
theorem RdM.of_below {w w':World} {rb:Nat} {bs:List UInt8} {sh:Bool} (h:RdM w rb bs sh) (hb:Below w.heap.size w w'):RdM w' rb bs sh:=by
 have hlt:=h.lt
 obtain ⟨⟨a,n,c,h0,hI⟩,h1,h2,h3⟩:=h
 exact ⟨⟨a,n,c,Zd hb h0 hlt,hI.keep (hb.mono (by omega))⟩,Zd hb h1 hlt,(hb.frozen (p:=⟨rb,0,none⟩) hlt).trans h2,(hb.frozen (p:=⟨rb,1,none⟩) hlt).trans h3⟩
theorem RdM.set {w:World} {rb:Nat} {bs bs':List UInt8} {sh:Bool} (h:RdM w rb bs sh) {a:Option Addr} {n c:Nat} (hI:IsB w rb a n c bs'):RdM (w.setCell ⟨rb,0,none⟩ (.slice a n c)) rb bs' sh/\RStep w (w.setCell ⟨rb,0,none⟩ (.slice a n c)) rb:=by
 obtain ⟨⟨a0,n0,c0,h0,_⟩,h1,h2,h3⟩:=h
 have hb:RStep w (w.setCell ⟨rb,0,none⟩ (.slice a n c)) rb:=⟨rfl,rfl,rfl,by simp,fun k hk hr=>heap_setCell_other _ _ _ _ hr⟩
 refine ⟨⟨⟨a,n,c,World.cell?_setCell_same _ _ _ h0,hI.keep (hb.below (Nat.le_of_lt (World.block_lt_of_cell? w _ h1)))⟩, ?_,by simpa using h2,by simpa using h3⟩,hb⟩
 rw [World.cell?_setCell_other]
 .exact h1
 .simp
theorem RdM.setShort {w:World} {rb:Nat} {bs:List UInt8} {sh sh':Bool} (h:RdM w rb bs sh):RdM (w.setCell ⟨rb,1,none⟩ (.bool sh')) rb bs sh'/\RStep w (w.setCell ⟨rb,1,none⟩ (.bool sh')) rb:=by
 obtain ⟨⟨a0,n0,c0,h0,hI⟩,h1,h2,h3⟩:=h
 have hb:RStep w (w.setCell ⟨rb,1,none⟩ (.bool sh')) rb:=⟨rfl,rfl,rfl,by simp,fun k hk hr=>heap_setCell_other _ _ _ _ hr⟩
 refine ⟨⟨⟨a0,n0,c0, ?_,hI.keep (hb.below (Nat.le_of_lt (World.block_lt_of_cell? w _ h1)))⟩,World.cell?_setCell_same _ _ _ h1,by simpa using h2,by simpa using h3⟩,hb⟩
 rw [World.cell?_setCell_other]
 .exact h0
 .simp
def cutP (k:Nat) (s:List UInt8×Bool):List UInt8×(List UInt8×Bool):=if s.1.length<k then ([],([],true)) else (s.1.take k,(s.1.drop k,s.2))
set_option maxRecDepth 100000 in
theorem zcp (w:World) (rb:Nat) (s:List UInt8×Bool) (h:RdM w rb s.1 s.2) (k:Nat):
 Calls Tryz.prog 136 #[.pointer (some ⟨rb,0,none⟩), .int .i64 k] w fun e w'=>(∃a n c,e= .returned (.slice a n c)/\IsB w' rb a n c (cutP k s).1)/\RdM w' rb (cutP k s).2.1 (cutP k s).2.2/\RStep w w' rb:=by
 obtain ⟨bs,sh⟩:=s
 dsimp only at h
 have H:=qh h
 obtain ⟨⟨a,n,c,h0,hI⟩,h1,h2,h3⟩:=h
 have HI:=qh hI
 have HN:=qh hI.len
 have hc:=hI.cap
 have hm:=hI.max
 have hlt:rb<w.heap.size:=World.block_lt_of_cell? w _ h1
 clear hI
 by_cases hk:n<k
 .have hq:cutP k (bs,sh)=([],([],true)):=by rw [cutP,if_pos (by have:=HN.out;simp only [];omega)]
  rw [hq]
  go_enter Tryz.func136,Tryz.ntmps136
  go_wp2_with fail
  go_returns
  have hD:=H.out.setShort (sh':=true)
  have hE:=hD.1.set (a:=none) (n:=0) (c:=0) (IsB.nil _ _)
  exact ⟨⟨none,0,0,rfl, .nil _ _⟩,hE.1,hD.2.trans hE.2⟩
 .have hkn:k<=n:=by omega
  have hq:cutP k (bs,sh)=(bs.take k,(bs.drop k,sh)):=by rw [cutP,if_neg (by have:=HN.out;simp only [];omega)]
  rw [hq]
  clear hk
  by_cases e:c=k
  .subst e
   have hz:n - c=0:=by omega
   go_enter Tryz.func136,Tryz.ntmps136
   go_wp2_with fail
   go_returns
   have hD:=H.out.set ((HI.out.drop c hkn).none_left (a':=a) hz)
   exact ⟨⟨a,c,c,rfl,(HI.out.take c hkn).keep (hD.2.below (Nat.le_of_lt hlt))⟩,hD⟩
  .have hck:k<c:=by omega
   go_enter Tryz.func136,Tryz.ntmps136
   go_wp2_with fail
   go_returns
   have hD:=H.out.set (HI.out.drop k hkn)
   exact ⟨⟨a,k,c,rfl,(HI.out.take k hkn).keep (hD.2.below (Nat.le_of_lt hlt))⟩,hD⟩
theorem zg0 (m y:Nat) (hm:m<36028797018963968) (hy:y<256):bits BinOp.or IntKind.i64 ((m:Int)*256) (y:Int)=((m*256+y:Nat):Int):=by
 have e:(m:Int)*256=((m*256:Nat):Int):=by omega
 have h:m*256+y=m*256|||y:=by
  have:=Nat.shiftLeft_add_eq_or_of_lt (show y<2 ^ 8 by omega) m
  simpa [Nat.shiftLeft_eq] using this
 have hx:m*256|||y<2 ^ 63:=Nat.or_lt_two_pow (by omega) (by omega)
 have h2:bits BinOp.or IntKind.i64 ((m*256:Nat):Int) (y:Int)=((m*256|||y:Nat):Int):=by
  show IntKind.i64.wrap ((BitVec.ofInt 64 ((m*256:Nat):Int)|||BitVec.ofInt 64 (y:Int)).toNat:Int)=_
  rw [BitVec.toNat_or,ofInt_u64 _ (by omega),ofInt_u64 y (by omega),IntKind.wrap_i64]
  omega
 have h3:bits BinOp.or IntKind.i64 ((m:Int)*256) (y:Int)=bits BinOp.or IntKind.i64 ((m*256:Nat):Int) (y:Int):=congrArg (fun z=>bits BinOp.or IntKind.i64 z (y:Int)) e
 exact h3.trans (h2.trans (congrArg (fun z:Nat=>(z:Int)) h.symm))
set_option maxRecDepth 100000 in
theorem zba (w:World) (rb:Nat) (s:List UInt8×Bool) (h:RdM w rb s.1 s.2) (k:Nat) (hk4:k<=4):
 Calls Tryz.prog 82 #[.pointer (some ⟨rb,0,none⟩), .int .i64 k] w fun e w'=>e= .returned (.int .i64 (num (cutP k s).1:Int))/\RdM w' rb (cutP k s).2.1 (cutP k s).2.2/\RStep w w' rb:=by
 have HC:=qh (zcp w rb s h k)
 have hl:(cutP k s).1.length<=4:=by
  unfold cutP
  split
  .exact Nat.zero_le _
  .rw [List.length_take];omega
 obtain ⟨ts,hts⟩:∃ts,(cutP k s).1=ts:=⟨_,rfl⟩
 obtain ⟨s',hs'⟩:∃s',(cutP k s).2=s':=⟨_,rfl⟩
 rw [hts] at HC hl ⊢
 rw [hs'] at HC ⊢
 clear h hts hs'
 go_enter Tryz.func82,Tryz.ntmps82
 go_wp2_with (go_at_call 136;(with_reducible refine (HC.out).mono ?_);rintro e w1 ⟨⟨a,n,c,rfl,hI⟩,hR,hS⟩;have hn:=hI.len;have hc1:=hI.cap;have hc2:=hI.max;have HI:=qh hI;have HN:=qh hn;clear hI hn)
 go_loopw [5,7,12] (fun x _ i wr=>wr=w1/\∃j:Nat,j<=n/\i= .int .i64 j/\x= .int .i64 (num (ts.take j):Int)) (fun _ _ i _=>n - (intOf i).toNat)
 case atStart=>exact ⟨rfl,0,Nat.zero_le _,rfl,rfl⟩
 case round=>
  obtain ⟨rfl,j,hj,rfl,rfl⟩:=hrel
  by_cases hlt:j<n
  .obtain ⟨b,o,hp,rfl,hb,hcell⟩:=HI.out.get hlt
   have hlt2:num (ts.take j)<36028797018963968:=by
    have h1:=zd2 (ts.take j)
    have h2:(ts.take j).length<=4:=by rw [List.length_take];have:=HN.out;omega
    exact Nat.lt_of_lt_of_le h1 (Nat.le_trans (Nat.pow_le_pow_right (by omega) h2) (by decide))
   obtain ⟨m,hm⟩:∃m,num (ts.take j)=m:=⟨_,rfl⟩
   obtain ⟨y,hy⟩:∃y,(ts[j]'hp).toNat=y:=⟨_,rfl⟩
   have hy2:y<256:=by rw [<-hy];exact (ts[j]'hp).toNat_lt
   have ht:=zos ts j hp
   rw [hm,hy] at ht
   rw [hm] at hlt2 ⊢
   rw [hy] at hcell
   have HT:=qh ht
   have HO:=qh (zg0 m y hlt2 hy2)
   clear ht hm hy
   go_wp2_with fail
   go_roundw
   case rel=>exact ⟨trivial,j+1,by omega,by go_num,by rw [HT.out,HO.out]⟩
   case measure=>simp [intOf];omega
  .go_wp2_with fail
   go_returns
   exact ⟨by rw [List.take_of_length_le (by have:=HN.out;omega)] <;>rfl,hR,hS⟩
def numP (k:Nat) (s:List UInt8×Bool):Nat×(List UInt8×Bool):=(num (cutP k s).1,(cutP k s).2)
def textP (k:Nat) (s:List UInt8×Bool):ByteArray×(List UInt8×Bool):=
 (⟨(cutP (numP k s).1 (numP k s).2).1.toArray⟩,(cutP (numP k s).1 (numP k s).2).2)
theorem zf0 (w:World) (rb:Nat) (s:List UInt8×Bool) (h:RdM w rb s.1 s.2):
 Calls Tryz.prog 82 #[.pointer (some ⟨rb,0,none⟩), .int .i64 1] w fun e w'=>e= .returned (.int .i64 ((numP 1 s).1:Int))/\RdM w' rb (numP 1 s).2.1 (numP 1 s).2.2/\RStep w w' rb:=zba w rb s h 1 (by omega)
theorem zq5 (w:World) (rb:Nat) (s:List UInt8×Bool) (h:RdM w rb s.1 s.2):
 Calls Tryz.prog 82 #[.pointer (some ⟨rb,0,none⟩), .int .i64 4] w fun e w'=>e= .returned (.int .i64 ((numP 4 s).1:Int))/\RdM w' rb (numP 4 s).2.1 (numP 4 s).2.2/\RStep w w' rb:=zba w rb s h 4 (by omega)
set_option maxRecDepth 100000 in
theorem zq2 (w:World) (rb:Nat) (s:List UInt8×Bool) (h:RdM w rb s.1 s.2) (k:Nat) (hk4:k<=4):
 Calls Tryz.prog 83 #[.pointer (some ⟨rb,0,none⟩), .int .i64 k] w fun e w'=>e= .returned (.string (textP k s).1)/\RdM w' rb (textP k s).2.1 (textP k s).2.2/\RStep w w' rb:=by
 have HNM:=qh (zba w rb s h k hk4)
 obtain ⟨N,hN⟩:∃N,num (cutP k s).1=N:=⟨_,rfl⟩
 obtain ⟨s',hs'⟩:∃s',(cutP k s).2=s':=⟨_,rfl⟩
 have HR:Hid (textP k s=(⟨(cutP N s').1.toArray⟩,(cutP N s').2)):=by show _=_;rw [textP,numP,hN,hs']
 rw [hN,hs'] at HNM
 clear h hN hs'
 go_enter Tryz.func83,Tryz.ntmps83
 go_wp2_with (first|(go_at_call 82;(with_reducible refine (HNM.out).mono ?_);rintro e w1 ⟨rfl,hR,hS⟩)|(go_at_call 136;(with_reducible refine (zcp w1 rb s' hR N).mono ?_);rintro e w2 ⟨⟨a,n,c,rfl,hI⟩,hR2,hS2⟩;have hcv:=Yp hI))
 go_returns
 rw [HR.out]
 exact ⟨rfl,hR2,hS.trans hS2⟩
noncomputable def backE (bs:List UInt8):En×Int:=if 60000<bs.length then (En.none,3) else
 match rdE bs with
 |none=>(En.none,100)
 |some (v,_)=>if outN (enSound v) (encE v)=0 then (if eqBs (outB (enSound v) (encE v)) bs=true then (v,0) else (En.none,100)) else (En.none,100)
theorem zle {bs:List UInt8} {v:En} (h:backE bs=(v,0)):enSound v=true/\encE v=bs/\bs.length<=60000/\∃r,rdE bs=some (v,r):=by
 rw [backE] at h
 by_cases hl:60000<bs.length
 .rw [if_pos hl] at h;injection h with h1 h2;omega
 rw [if_neg hl] at h
 cases hr:rdE bs with
 |none=>rw [hr] at h;injection h with h1 h2;omega
 | some p=>
   obtain ⟨x,r⟩:=p
   rw [hr] at h
   replace h:(if outN (enSound x) (encE x)=0 then (if eqBs (outB (enSound x) (encE x)) bs=true then (x,(0:Int)) else (En.none,100)) else (En.none,100))=(v,0):=h
   by_cases h0:outN (enSound x) (encE x)=0
   .rw [if_pos h0] at h
    by_cases he:eqBs (outB (enSound x) (encE x)) bs=true
    .rw [if_pos he] at h
     injection h with h1 h2
     subst h1
     have hs:enSound x=true:=by
      cases hs:enSound x with
      |true=>rfl
      |false=>rw [hs] at h0;simp [outN] at h0
     rw [hs] at h0 he
     have hlen:¬60000<(encE x).length:=by
      intro hq;rw [outN,if_pos rfl,if_pos hq] at h0;omega
     rw [outB,if_pos rfl,if_neg hlen] at he
     exact ⟨hs,by simpa [eqBs] using he,by omega,r,rfl⟩
    .rw [if_neg he] at h;injection h with h1 h2;omega
   .rw [if_neg h0] at h;injection h with h1 h2;omega
noncomputable def backR (bs:List UInt8):V×Int:=if 60000<bs.length then (V.none,3) else
 match rdV 18 bs with
 |none=>(V.none,100)
 |some (v,_)=>if outN (lightB v) (encV v)=0 then (if eqBs (outB (lightB v) (encV v)) bs=true then (v,0) else (V.none,100)) else (V.none,100)
theorem zpd {bs:List UInt8} {v:V} (h:backR bs=(v,0)):lightB v=true/\encV v=bs/\bs.length<=60000/\∃r,rdV 18 bs=some (v,r):=by
 rw [backR] at h
 by_cases hl:60000<bs.length
 .rw [if_pos hl] at h;injection h with h1 h2;omega
 rw [if_neg hl] at h
 cases hr:rdV 18 bs with
 |none=>rw [hr] at h;injection h with h1 h2;omega
 | some p=>
   obtain ⟨x,r⟩:=p
   rw [hr] at h
   replace h:(if outN (lightB x) (encV x)=0 then (if eqBs (outB (lightB x) (encV x)) bs=true then (x,(0:Int)) else (V.none,100)) else (V.none,100))=(v,0):=h
   by_cases h0:outN (lightB x) (encV x)=0
   .rw [if_pos h0] at h
    by_cases he:eqBs (outB (lightB x) (encV x)) bs=true
    .rw [if_pos he] at h
     injection h with h1 h2
     subst h1
     have hs:lightB x=true:=by
      cases hs:lightB x with
      |true=>rfl
      |false=>rw [hs] at h0;simp [outN] at h0
     rw [hs] at h0 he
     have hlen:¬60000<(encV x).length:=by
      intro hq;rw [outN,if_pos rfl,if_pos hq] at h0;omega
     rw [outB,if_pos rfl,if_neg hlen] at he
     exact ⟨hs,by simpa [eqBs] using he,by omega,r,rfl⟩
    .rw [if_neg he] at h;injection h with h1 h2;omega
   .rw [if_neg h0] at h;injection h with h1 h2;omega
theorem RdM.far {w:World} {rb b:Nat} {bs:List UInt8} {sh:Bool} (h:RdM w rb bs sh) (hb:rb<b):∀(vs:List Value) (o:Nat),RdM (w.setCells b o vs) rb bs sh:=fun vs o=>by
 obtain ⟨⟨a,n,c,h0,hI⟩,h1,h2,h3⟩:=h
 have hB:Below b w (w.setCells b o vs):=za7 (Nat.le_refl _) vs o w w (Below.refl _ _)
 exact ⟨⟨a,n,c,Zd hB h0 hb,hI.keep (hB.mono (by omega))⟩,Zd hB h1 hb,by rw [World.frozen?_setCells];exact h2,by rw [World.frozen?_setCells];exact h3⟩
theorem za4 {b k:Nat} (hk:k≠b):∀(vs:List Value) (o:Nat) (W:World),(W.setCells b o vs).heap[k]? =W.heap[k]?
 | [],_,_=>rfl
 |v::vs,o,W=>(za4 hk vs (o+1) (W.setCell ⟨b,o,none⟩ v)).trans (heap_setCell_other _ _ _ _ hk)
theorem zbl (b:Nat):∀(vs:List Value) (o:Nat) (W:World),(W.setCells b o vs).heap.size=W.heap.size
 | [],_,_=>rfl
 |v::vs,o,W=>(zbl b vs (o+1) (W.setCell ⟨b,o,none⟩ v)).trans (by simp)
theorem zee (k:Nat) (s:List UInt8×Bool):(numP k s).1<256 ^ k:=by
 unfold numP
 have h1:=zd2 (cutP k s).1
 have h2:(cutP k s).1.length<=k:=by
  unfold cutP
  split
  .exact Nat.zero_le _
  .rw [List.length_take];omega
 exact Nat.lt_of_lt_of_le h1 (Nat.pow_le_pow_right (by omega) h2)
theorem zqk (s:List UInt8×Bool):(numP 4 s).1<4294967296:=zee 4 s
theorem zdj (s:List UInt8×Bool):(numP 1 s).1<256:=zee 1 s
theorem RStep.low {w w':World} {rb B:Nat} (h:RStep w w' rb) (hB:B<=rb) (hw:B<=w.heap.size):Below B w w':=⟨h.os,h.tape,h.output,h.size,fun k hk=>h.block k (by omega) (by omega)⟩
def textsP:Nat->List UInt8×Bool->List ByteArray×(List UInt8×Bool)
 |0,s=>([],s)
 |n+1,s=>((textsP n s).1++ [(textP 4 (textsP n s).2).1],(textP 4 (textsP n s).2).2)
theorem zi1 (n:Nat) (s:List UInt8×Bool):(textsP n s).1.length=n:=by
 induction n with
 |zero=>rfl
 |succ n ih=>simp [textsP,ih]
theorem zg1 (w:World) (rb:Nat) (s:List UInt8×Bool) (h:RdM w rb s.1 s.2):
 Calls Tryz.prog 83 #[.pointer (some ⟨rb,0,none⟩), .int .i64 1] w fun e w'=>e= .returned (.string (textP 1 s).1)/\RdM w' rb (textP 1 s).2.1 (textP 1 s).2.2/\RStep w w' rb:=zq2 w rb s h 1 (by omega)
theorem RdM.low {w w':World} {rb p:Nat} {bs:List UInt8} {sh:Bool} (h:RdM w rb bs sh) (hb:Below p w w') (hp:rb<p):RdM w' rb bs sh:=by
 have hlt:=h.lt
 obtain ⟨⟨a,n,c,h0,hI⟩,h1,h2,h3⟩:=h
 exact ⟨⟨a,n,c,Zd hb h0 hp,hI.keep (hb.mono (by omega))⟩,Zd hb h1 hp,(hb.frozen (p:=⟨rb,0,none⟩) hp).trans h2,(hb.frozen (p:=⟨rb,1,none⟩) hp).trans h3⟩
theorem ze2 (k:Nat) (s:List UInt8×Bool):(cutP k s).1.length<=s.1.length/\(cutP k s).2.1.length<=s.1.length:=by
 unfold cutP
 split
 .exact ⟨Nat.zero_le _,Nat.zero_le _⟩
 .exact ⟨by simp only [List.length_take];omega,by simp only [List.length_drop];omega⟩
theorem K5 (k:Nat) (s:List UInt8×Bool):(numP k s).2.1.length<=s.1.length:=(ze2 k s).2
theorem zak (k:Nat) (s:List UInt8×Bool):(textP k s).1.size<=s.1.length/\(textP k s).2.1.length<=s.1.length:=by
 have h1:=K5 k s
 have h2:=ze2 (numP k s).1 (numP k s).2
 refine ⟨?_,Nat.le_trans h2.2 h1⟩
 have h3:(textP k s).1.size=(cutP (numP k s).1 (numP k s).2).1.length:=by simp [textP,ByteArray.size]
 omega
theorem zhu (n:Nat) (s:List UInt8×Bool):(∀t ∈ (textsP n s).1,t.size<=s.1.length)/\(textsP n s).2.1.length<=s.1.length:=by
 induction n with
 |zero=>exact ⟨fun t h=>by simp [textsP] at h,Nat.le_refl _⟩
 | succ n ih=>
   have h:=zak 4 (textsP n s).2
   refine ⟨fun t ht=> ?_,by show (textP 4 (textsP n s).2).2.1.length<=_;omega⟩
   simp only [textsP,List.mem_append,List.mem_singleton] at ht
   rcases ht with ht|rfl
   .exact ih.1 t ht
   .omega
noncomputable def tailRd (k:Int) (doc:ByteArray) (n:Int) (s:List UInt8×Bool):Ms×Int×Bool:=
 if k=3∨k=5 then (⟨k,doc,n,(backE s.1).1,0,0,0,false,V.none, []⟩,(backE s.1).2,s.2)
 else if k=4 then
  (if (numP 1 s).1=1 then (⟨k,doc,n,En.none,0,0,0,true,(backR (numP 1 s).2.1).1, []⟩,(backR (numP 1 s).2.1).2,(numP 1 s).2.2)
   else (⟨k,doc,n,En.none,0,0,0,false,V.none, []⟩,0,(numP 1 s).2.2))
 else if k=6 then (⟨k,doc,n,En.none,(numP 4 s).1,(numP 4 (numP 4 s).2).1,(numP 2 (numP 4 (numP 4 s).2).2).1,false,V.none, []⟩,0,(numP 2 (numP 4 (numP 4 s).2).2).2.2)
 else if k=1 then (⟨k,doc,n,En.none,0,0,0,false,V.none,(textsP (numP 1 s).1 (numP 1 s).2).1⟩,0,(textsP (numP 1 s).1 (numP 1 s).2).2.2)
 else (⟨k,doc,n,En.none,0,0,0,false,V.none, []⟩,0,s.2)
def mk0 (k:Int) (doc:ByteArray) (n:Int):MC:=⟨k,doc,n,ezero,0,0,0,false,vzero,none,0,0⟩
set_option maxRecDepth 100000 in
theorem zmf (w:World) (rb mb:Nat) (c:MC) (hM:BC w mb (mcells c)) (h1:¬c.k=1) (h3:¬c.k=3) (h4:¬c.k=4) (h5:¬c.k=5) (h6:¬c.k=6):
 Calls Tryz.prog 84 #[.pointer (some ⟨rb,0,none⟩), .pointer (some ⟨mb,0,none⟩)] w fun e w'=>e= .returned (.int .u16 0)/\w'=w:=by
 have y0:=hM.at_ 0 _ rfl
 have f1:(c.k==1)=false:=by simp [h1]
 have f3:(c.k==3)=false:=by simp [h3]
 have f4:(c.k==4)=false:=by simp [h4]
 have f5:(c.k==5)=false:=by simp [h5]
 have f6:(c.k==6)=false:=by simp [h6]
 clear h1 h3 h4 h5 h6
 go_enter Tryz.func84,Tryz.ntmps84
 go_wp2_with fail
 go_ret
 exact ⟨rfl,rfl⟩
structure KB (k:Int) (doc:ByteArray) (n:Int):Prop where
 k0:0<=k
 k1:k<256
 d1:doc.size<=140737488355328
 n0: -9223372036854775808<=n
 n1:n<=9223372036854775807
theorem zd7 {W:World} {B:Nat} {k:Int} {doc:ByteArray} {n:Int} (hb:KB k doc n) {e:En} {ce:EC} (he:IsEntry W B e ce) {v:V} {cv:VC} (hv:IsVal W B v cv) {f:List ByteArray} {fa:Option Addr} {fl fc:Nat} (hf:IsStrs W B f fa fl fc) {src seq err:Int} {th:Bool}
 (s0:0<=src) (s1:src<4294967296) (q0:0<=seq) (q1:seq<4294967296) (e0:0<=err) (e1:err<65536):IsMsg W B ⟨k,doc,n,e,src,seq,err,th,v,f⟩ ⟨k,doc,n,ce,src,seq,err,th,cv,fa,fl,fc⟩:=
 .mk ⟨k,doc,n,ce,src,seq,err,th,cv,fa,fl,fc⟩ e v f ⟨hb.k0,hb.k1,hb.d1,hb.n0,hb.n1,s0,s1,q0,q1,e0,e1⟩ he hv hf
def TailPost (mb rb B:Nat) (w:World) (r:Ms×Int×Bool) (e:Ending) (w':World):Prop:=
 e= .returned (.int .u16 r.2.1)/\(∃c',IsMsg (only (fun b=>mb<b) w') w'.heap.size r.1 c'/\BC w' mb (mcells c'))/\(∃bs',RdM w' rb bs' r.2.2)/\Below B w w'
theorem Zw {ops:Array Oper} {rest:List Oper} {op:Oper} {a:Act} {Q:Exit->Act->World->Prop} {W:World} (hgd:op.guard=none) (x y:Operand) (ho:op.op= .store 46 x y)
 (h:∃(b:Nat) (cs xs:List Value),a.eval x= .pointer (some ⟨b,0,none⟩)/\a.eval y= .agg xs.toArray/\BC W b cs/\cs.length=22/\xs.length=22/\xs.all (·.oneCell')=true/\∀W2,BC W2 b xs->(∀b' cs',b'≠b->BC W b' cs'->BC W2 b' cs')->RStep W W2 b->wpList Tryz.prog ops Q rest (a.put op.dst undef) W2):wpList Tryz.prog ops Q (op::rest) a W:=by
 obtain ⟨b,cs,xs,hx,hy,hb,hc,hl,h1,h⟩:=h
 refine wpList_store_mid hgd _ x y ho b 0 _ hx hy (zaj hb (by simp [hc,hl])) (by rw [Ql];simp [hl]) (all_oneCell_toArray (List.all_eq_true.1 h1)) ?_
 have e:xs.toArray.toList=xs:=by simp
 refine h _ (by rw [e];exact Kp xs [] cs _ (by omega) hb) (fun b' cs' hne hb'=>K3 hne _ _ _ hb') ?_
 have hq:∀(vs:List Value) (o:Nat) (W:World),(W.setCells b o vs).os=W.os/\(W.setCells b o vs).tape=W.tape/\(W.setCells b o vs).output=W.output:=by
  intro vs
  induction vs with
  |nil=>exact fun _ _=>⟨rfl,rfl,rfl⟩
  |cons v vs ih=>exact fun o W=>ih (o+1) (W.setCell ⟨b,o,none⟩ v)
 obtain ⟨q1,q2,q3⟩:=hq xs.toArray.toList 0 W
 exact ⟨q1,q2,q3,by rw [zbl];exact Nat.le_refl _,fun k _ hk=>za4 hk _ _ _⟩
theorem Yw {tmps:Array Value} {W:World} {b:Nat} {c:MC} {x:Value} (ht:tmps[2]? =some (.pointer (some ⟨b,0,none⟩))) (hx:tmps[3]? =some x) (h:BC W b (mcells c)):
 (results Tryz.f41 tmps).run Tryz.prog W= .ok (.tuple #[.agg (mcells c).toArray,x]) W:=by
 have h1:=run_loadVar_mid (P:=Tryz.prog) W b 0 46 (mcells c) _ h.range Tryz.underlying46 rfl Ql
 have h2:(asAddr (Value.pointer (some { block:=b,off:=0 }))).run Tryz.prog W= .ok ⟨b,0,none⟩ W:=by simp [asAddr]
 simp [results,Tryz.results41,ht,hx,h2,Result.andThen_ok,h1]
noncomputable def headP (bs:List UInt8):Int×ByteArray×Int×(List UInt8×Bool):=
 let a:=numP 1 (bs,false)
 let t:=textP 1 a.2
 if numberedB a.1=true then ((a.1:Int),t.1,((numP 4 t.2).1:Int) - 1,(numP 4 t.2).2) else ((a.1:Int),t.1,0,t.2)
noncomputable def rdMsg (bs:List UInt8):Ms×Int×Bool:=tailRd (headP bs).1 (headP bs).2.1 (headP bs).2.2.1 (headP bs).2.2.2
noncomputable def decM (bs:List UInt8):Ms×Int:=
 if 60000<bs.length then (Ms.none,3)
 else if (rdMsg bs).2.1=0/\(rdMsg bs).2.2=false/\(encMsg (rdMsg bs).1).1=0/\eqBs (encMsg (rdMsg bs).1).2 bs=true then ((rdMsg bs).1,0) else (Ms.none,190)
theorem zod {bs:List UInt8} (h:(backE bs).2≠0):(backE bs).1=En.none:=by
 unfold backE at h ⊢
 split at h
 .split<;>first|rfl|contradiction
 .rename_i hl
  rw [if_neg hl]
  split at h
  .rfl
  .split at h
   .rename_i h1
    rw [if_pos h1]
    split at h
    .exact absurd rfl h
    .rename_i h2;rw [if_neg h2]
   .rename_i h1;rw [if_neg h1]
theorem zig {bs:List UInt8} (h:(backR bs).2≠0):(backR bs).1=V.none:=by
 unfold backR at h ⊢
 split at h
 .split<;>first|rfl|contradiction
 .rename_i hl
  rw [if_neg hl]
  split at h
  .rfl
  .split at h
   .rename_i h1
    rw [if_pos h1]
    split at h
    .exact absurd rfl h
    .rename_i h2;rw [if_neg h2]
   .rename_i h1;rw [if_neg h1]
theorem zjf (bs:List UInt8):(backE bs).1.small/\(encE (backE bs).1).length<=60000:=by
 by_cases h:(backE bs).2=0
 .obtain ⟨⟨x,e⟩,hx⟩:∃p,backE bs=p:=⟨_,rfl⟩
  rw [hx] at h ⊢
  dsimp only at h ⊢
  subst h
  obtain ⟨q1,q2,q3,r1,q4⟩:=zle hx
  obtain ⟨l1,l2,l3⟩:=zg7 q4
  exact ⟨⟨by omega,fun y hy=>by have:=l3 y hy;omega⟩,by rw [q2];exact q3⟩
 .rw [zod h]
  exact ⟨⟨by decide,fun y hy=>by cases hy⟩,by simp [En.none,encE,Zc]⟩
theorem zp8 (bs:List UInt8):(backR bs).1.weight<=4611686018427387904/\(encV (backR bs).1).length<=60000:=by
 by_cases h:(backR bs).2=0
 .obtain ⟨⟨x,e⟩,hx⟩:∃p,backR bs=p:=⟨_,rfl⟩
  rw [hx] at h ⊢
  dsimp only at h ⊢
  subst h
  obtain ⟨u1,u2,u3,r2,u4⟩:=zpd hx
  obtain ⟨m1,m2⟩:=J6 18 bs x r2 u4
  exact ⟨by omega,by rw [u2];exact u3⟩
 .rw [zig h]
  exact ⟨by decide,by simp [V.none,encV,Zc]⟩
theorem zdr (l:List ByteArray) (b:Nat) (h:∀t ∈ l,t.size<=b):(encFs l).length<=l.length*(b+4):=by
 induction l with
 |nil=>exact Nat.zero_le _
 | cons x r ih=>
   have h1:=ih fun t ht=>h t (List.mem_cons_of_mem _ ht)
   have h2:=h x List.mem_cons_self
   have h3:(encFs (x::r)).length=4+x.size+(encFs r).length:=by
    have h5:x.data.size=x.size:=rfl
    simp [encFs,Zc,h5]
    omega
   rw [h3,List.length_cons,Nat.succ_mul]
   omega
theorem Ym:En.none.small/\(encE En.none).length<=60000:=⟨⟨by decide,fun y hy=>by cases hy⟩,by simp [En.none,encE,Zc]⟩
theorem Yc:V.none.weight<=4611686018427387904/\(encV V.none).length<=60000:=⟨by decide,by simp [V.none,encV,Zc]⟩
theorem Z5 {k:Int} {doc:ByteArray} {n:Int} {e:En} {v:V} {src seq err:Int} {th:Bool} {f:List ByteArray} (he:e.small/\(encE e).length<=60000) (hv:v.weight<=4611686018427387904/\(encV v).length<=60000) (hf:(encFs f).length<=70368744177664):Ms.Fits ⟨k,doc,n,e,src,seq,err,th,v,f⟩:=
 ⟨he.1,by show (encE e).length<=_;omega,by show (encV v).length<=_;omega,hv.1,hf⟩
theorem zdh (k:Int) (doc:ByteArray) (n:Int) (s:List UInt8×Bool) (hl:s.1.length<=60000):(tailRd k doc n s).1.Fits:=by
 have h0:(encFs []).length<=70368744177664:=by simp [encFs]
 unfold tailRd
 split
 .exact Z5 (zjf _) Yc h0
 split
 .split
  .exact Z5 Ym (zp8 _) h0
  .exact Z5 Ym Yc h0
 split
 .exact Z5 Ym Yc h0
 split
 .refine Z5 Ym Yc ?_
  have h1:=zdj s
  have h2:=K5 1 s
  have h3:=zdr (textsP (numP 1 s).1 (numP 1 s).2).1 60000 (fun t ht=>by have:=(zhu (numP 1 s).1 (numP 1 s).2).1 t ht;omega)
  rw [zi1] at h3
  have h4:(numP 1 s).1*(60000+4)<=256*60004:=Nat.mul_le_mul (by omega) (by omega)
  omega
 .exact Z5 Ym Yc h0
theorem IsStrs.sub {w w':World} {B:Nat} (hs:Shows w w' B) {l:List ByteArray} {a:Option Addr} {n c:Nat} (h:IsStrs w B l a n c):IsStrs w' B l a n c:=by
 obtain ⟨h1,h2,h3,h4,b,o,h5,h6⟩:=h
 exact ⟨h1,h2,h3,h4,b,o,h5,fun i hi=>⟨hs b _ _ (h5 (by omega)).2 (h6 i hi).1,(h6 i hi).2⟩⟩
theorem IsMsg.sub {w w':World} {B:Nat} (hs:Shows w w' B) {m:Ms} {c:MC} (h:IsMsg w B m c):IsMsg w' B m c:=by
 cases h with
 |mk c e v f h1 h2 h3 h4=>exact .mk c e v f h1 (h2.sub hs) (h3.sub hs) (h4.sub hs)
theorem IsMsg.more {w:World} {B B':Nat} {m:Ms} {c:MC} (h:IsMsg w B m c) (hB:B<=B'):IsMsg w B' m c:=by
 cases h with
 |mk c e v f h1 h2 h3 h4=>exact .mk c e v f h1 (h2.more hB) (h3.more hB) (h4.more hB)
theorem zh3 {m:Ms} (h:(encMsg m).1=0):msgSound m=true:=by
 cases hs:msgSound m with
 |true=>rfl
 |false=>rw [encMsg,hs] at h;simp [encOut] at h
theorem zq9 {bs:List UInt8} (hl:bs.length<=60000) (he:(decM bs).2≠0):decM bs=(Ms.none,190):=by
 rw [decM,if_neg (by omega)] at he ⊢
 split
 .rename_i hc;rw [if_pos hc] at he;exact absurd rfl he
 .rfl
theorem X1 {sd:Bool} {l:List UInt8} (h1:sd=true) (h2:l.length<=60000):outN sd l=0/\outB sd l=l:=by
 subst h1
 exact ⟨by rw [outN,if_pos rfl,if_neg (by omega)],by rw [outB,if_pos rfl,if_neg (by omega)]⟩
structure BoxM (w W:World) (c d:MC):Prop where
 a:BC W w.heap.size (mcells c)
 b:BC W (w.heap.size+1) (mcells d)
 below:Below w.heap.size w W
theorem zog (w:World) (c d:MC):BoxM w ((w.alloc (.cells (mcells c).toArray 46)).alloc (.cells (mcells d).toArray 46)) c d:=by
 have hb:=BC.start (w.alloc (.cells (mcells c).toArray 46)) (mcells d).toArray 46
 rw [show (w.alloc (.cells (mcells c).toArray 46)).heap.size=w.heap.size+1 by simp] at hb
 exact ⟨(BC.start w (mcells c).toArray 46).keep ((Below.refl _ _).alloc (Nat.le_refl _) _) (by simp),hb,((Below.refl _ _).alloc (Nat.le_refl _) _).alloc (by simp) _⟩
theorem BoxM.step {w W W':World} {c d:MC} (h:BoxM w W c d) (hb:Below W.heap.size W W'):BoxM w W' c d:=⟨h.a.keep hb h.a.lt,h.b.keep hb h.b.lt,h.below.on hb (Nat.le_of_lt h.a.lt)⟩
def sameMs (c d:MC) (ef ee ev:Bool):Bool:=sameB c d ef && (ee && ev)
set_option maxRecDepth 100000 in
theorem zqm (x y:Ms) (w:World) (c d:MC) (hx:IsMsg w w.heap.size x c) (hy:IsMsg w w.heap.size y d):
 Calls Tryz.prog 14 #[.agg (mcells c).toArray, .agg (mcells d).toArray] w fun e w'=>e= .returned (.bool (sameMs c d (eqB x.f y.f) (eqB x.e y.e) (eqv x.v y.v)))/\Below w.heap.size w w':=by
 cases hx with
 |mk c e v f hb he hv hf=>
 cases hy with
 |mk d e' v' f' hb' he' hv' hf'=>
 dsimp only
 have HE:Hid (∀W,Below w.heap.size w W->Calls Tryz.prog 15 #[.agg #[.int .u8 c.e.k, .int .u32 c.e.src, .int .u32 c.e.seq, .int .u8 c.e.v.k, .int .i64 c.e.v.n, .string c.e.v.s, .slice c.e.v.la c.e.v.ll c.e.v.lc, .slice c.e.v.oa c.e.v.ol c.e.v.oc, .slice c.e.oa c.e.ol c.e.oc], .agg #[.int .u8 d.e.k, .int .u32 d.e.src, .int .u32 d.e.seq, .int .u8 d.e.v.k, .int .i64 d.e.v.n, .string d.e.v.s, .slice d.e.v.la d.e.v.ll d.e.v.lc, .slice d.e.v.oa d.e.v.ol d.e.v.oc, .slice d.e.oa d.e.ol d.e.oc]] W fun e2 w'=>e2= .returned (.bool (eqB e e'))/\Below W.heap.size W w'):=fun W hW=>zch e e' W c.e d.e (he.later_ hW) (he'.later_ hW)
 have HV:Hid (∀W,Below w.heap.size w W->Calls Tryz.prog 23 #[.agg #[.int .u8 c.v.k, .int .i64 c.v.n, .string c.v.s, .slice c.v.la c.v.ll c.v.lc, .slice c.v.oa c.v.ol c.v.oc], .agg #[.int .u8 d.v.k, .int .i64 d.v.n, .string d.v.s, .slice d.v.la d.v.ll d.v.lc, .slice d.v.oa d.v.ol d.v.oc]] W fun e2 w'=>e2= .returned (.bool (eqv v v'))/\Below W.heap.size W w'):=fun W hW=>K2 v v' W c.v d.v (hv.later_ hW) (hv'.later_ hW)
 generalize eqB e e'=ee at HE ⊢
 generalize eqv v v'=ev at HV ⊢
 have bx:=zog w c d
 have z0:=bx.a.at_ 0 _ rfl;have z1:=bx.a.at_ 1 _ rfl;have z2:=bx.a.at_ 2 _ rfl;have z12:=bx.a.at_ 12 _ rfl;have z13:=bx.a.at_ 13 _ rfl;have z14:=bx.a.at_ 14 _ rfl;have z15:=bx.a.at_ 15 _ rfl;have z21:=bx.a.at_ 21 _ rfl
 have y0:=bx.b.at_ 0 _ rfl;have y1:=bx.b.at_ 1 _ rfl;have y2:=bx.b.at_ 2 _ rfl;have y12:=bx.b.at_ 12 _ rfl;have y13:=bx.b.at_ 13 _ rfl;have y14:=bx.b.at_ 14 _ rfl;have y15:=bx.b.at_ 15 _ rfl;have y21:=bx.b.at_ 21 _ rfl
 have k1:=hf.max;have k2:=hf.few;have k3:=hf'.max;have k4:=hf'.few
 have HLn:=qh hf.len;have HLm:=qh hf'.len
 obtain ⟨R,hR⟩:∃R,sameMs c d (eqB f f') ee ev=R:=⟨_,rfl⟩
 rw [hR]
 rw [sameMs,sameB] at hR
 obtain ⟨f0,h0⟩:∃b,(c.k==d.k)=b:=⟨_,rfl⟩
 obtain ⟨f1,h1⟩:∃b,(c.doc.toList==d.doc.toList)=b:=⟨_,rfl⟩
 obtain ⟨f2,h2⟩:∃b,(c.n==d.n)=b:=⟨_,rfl⟩
 obtain ⟨f3,h3⟩:∃b,(c.src==d.src)=b:=⟨_,rfl⟩
 obtain ⟨f4,h4⟩:∃b,(c.seq==d.seq)=b:=⟨_,rfl⟩
 obtain ⟨f5,h5⟩:∃b,(c.err==d.err)=b:=⟨_,rfl⟩
 obtain ⟨f6,h6⟩:∃b,(c.there==d.there)=b:=⟨_,rfl⟩
 rw [h0,h1,h2,h3,h4,h5,h6] at hR
 have n0:(c.k !=d.k)= !f0:=by rw [bne,h0]
 have n2:(c.n !=d.n)= !f2:=by rw [bne,h2]
 have n3:(c.src !=d.src)= !f3:=by rw [bne,h3]
 have n4:(c.seq !=d.seq)= !f4:=by rw [bne,h4]
 have n5:(c.err !=d.err)= !f5:=by rw [bne,h5]
 have n6:(c.there !=d.there)= !f6:=by rw [bne,h6]
 have HR:=qh hR
 have HF:=qh hf;have HF':=qh hf'
 clear hR hb he hv hf hb' he' hv' hf'
 rcases bcT f0 (bcT f1 (bcT f2 (bcT f3 (bcT f4 (bcT f5 (bcT f6 trivial)))))) with rfl|⟨rfl,(rfl|⟨rfl,(rfl|⟨rfl,(rfl|⟨rfl,(rfl|⟨rfl,(rfl|⟨rfl,(rfl|⟨rfl,_⟩)⟩)⟩)⟩)⟩)⟩)⟩
 iterate 7
  (go_enter Tryz.func14,Tryz.ntmps14
   go_wp2_with fail
   go_ret
   exact ⟨Zb (by rw [<-HR.out];simp),bx.below⟩)
 by_cases e:c.fl=d.fl
 case neg=>
  have f7:((c.fl:Int) !=(d.fl:Int))=true:=by simp;omega
  have HE2:Hid (eqB f f'=false):=Zu (fun h=>e (by rw [HLn.out,HLm.out,h]))
  clear e
  go_enter Tryz.func14,Tryz.ntmps14
  go_wp2_with fail
  go_ret
  exact ⟨Zb (by rw [<-HR.out,HE2.out];simp),bx.below⟩
 have f7:((c.fl:Int) !=(d.fl:Int))=false:=by rw [e];simp
 have HEQ:=qh e
 clear e
 go_enter Tryz.func14,Tryz.ntmps14
 go_wp2_with fail
 clear f7 h0 h1 h2 h3 h4 h5 h6 n0 n2 n3 n4 n5 n6 z0 y0 z1 y1 z2 y2 z12 y12 z13 y13 z14 y14 z15 y15 z21 y21
 go_loopw [5] (fun i wr=>∃k:Nat,k<=c.fl/\i= .int .i64 k/\Hid (∀j,j<k->f[j]? =f'[j]?)/\BoxM w wr c d) (fun i _=>c.fl - (intOf i).toNat)
 case atStart=>exact ⟨0,Nat.zero_le _,rfl,fun j hj=>by omega,bx⟩
 case round=>
  clear bx
  obtain ⟨k,hk,rfl,HJ,bx⟩:=hrel
  have z21:=bx.a.at_ 21 _ rfl
  by_cases hlt:k<c.fl
  .obtain ⟨b,o,kl,ea,hb,g1,_⟩:=HF.out.get hlt
   obtain ⟨b',o',kl',ea',hb',g2,_⟩:=HF'.out.get (show k<d.fl by rw [<-HEQ.out];exact hlt)
   have hlt':k<d.fl:=by rw [<-HEQ.out];exact hlt
   have g1:=Za (Zd bx.below g1 hb)
   have g2:=Za (Zd bx.below g2 hb')
   have y21:=bx.b.at_ 21 _ rfl
   rw [ea] at z21;rw [ea'] at y21
   have q1:=Za z21;have q2:=Za y21
   obtain ⟨t,ht⟩:∃t,(f[k].toList==(f'[k]'kl').toList)=t:=⟨_,rfl⟩
   have HX:Hid (eqB f[k] (f'[k]'kl')=t):=by show _=_;rw [zcv,ht]
   clear ea ea'
   cases t with
   | true=>
     go_wp2_with fail
     refine Zh (by kernel_rfl) (by kernel_rfl) ?_
     repeat (go_big_quiet_step (fail))
     refine wpQuiet_nil ?_
     intro _ hw'
     obtain ⟨pq,hw''⟩:=hw'
     subst hw''
     clear q1 q2 g1 g2 ht z21 y21
     have bx2:=bx.step (Ze wr pq)
     go_wp2_with fail
     go_roundw
     case rel=>exact ⟨k+1,by omega,by go_num,Qq HJ kl kl' HX.out,bx2⟩
     case measure=>simp [intOf];omega
   | false=>
     go_wp2_with fail
     refine Zh (by kernel_rfl) (by kernel_rfl) ?_
     repeat (go_big_quiet_step (fail))
     refine wpQuiet_nil ?_
     intro _ hw'
     obtain ⟨pq,hw''⟩:=hw'
     subst hw''
     clear q1 q2 g1 g2 ht z21 y21
     have bx2:=bx.step (Ze wr pq)
     go_wp2_with fail
     go_ret
     have HE2:Hid (eqB f f'=false):=Zu (fun h=>by subst h;exact Yy HX.out rfl)
     exact ⟨Zb (by rw [<-HR.out,HE2.out];simp),bx2.below⟩
  .have HE2:Hid (eqB f f'=true):=Zy (Xo HJ.out (by have:=HLn.out;omega) (by have:=HLm.out;have:=HEQ.out;omega))
   clear HJ
   have z3:=bx.a.at_ 3 _ rfl;have z4:=bx.a.at_ 4 _ rfl;have z5:=bx.a.at_ 5 _ rfl;have z6:=bx.a.at_ 6 _ rfl;have z7:=bx.a.at_ 7 _ rfl;have z8:=bx.a.at_ 8 _ rfl;have z9:=bx.a.at_ 9 _ rfl;have z10:=bx.a.at_ 10 _ rfl;have z11:=bx.a.at_ 11 _ rfl
   have y3:=bx.b.at_ 3 _ rfl;have y4:=bx.b.at_ 4 _ rfl;have y5:=bx.b.at_ 5 _ rfl;have y6:=bx.b.at_ 6 _ rfl;have y7:=bx.b.at_ 7 _ rfl;have y8:=bx.b.at_ 8 _ rfl;have y9:=bx.b.at_ 9 _ rfl;have y10:=bx.b.at_ 10 _ rfl;have y11:=bx.b.at_ 11 _ rfl
   cases ee with
   | true=>
     go_wp2_with (first|(go_at_call 15;(with_reducible refine (HE.out _ bx.below).mono ?_);rintro e1 w1 ⟨rfl,hb1⟩;have bx1:=bx.step hb1;have z16:=bx1.a.at_ 16 _ rfl;have z17:=bx1.a.at_ 17 _ rfl;have z18:=bx1.a.at_ 18 _ rfl;have z19:=bx1.a.at_ 19 _ rfl;have z20:=bx1.a.at_ 20 _ rfl;have y16:=bx1.b.at_ 16 _ rfl;have y17:=bx1.b.at_ 17 _ rfl;have y18:=bx1.b.at_ 18 _ rfl;have y19:=bx1.b.at_ 19 _ rfl;have y20:=bx1.b.at_ 20 _ rfl)|(go_at_call 23;(with_reducible refine (HV.out _ bx1.below).mono ?_);rintro e2 w2 ⟨rfl,hb2⟩))
     go_ret
     exact ⟨Zb (by rw [<-HR.out,HE2.out];simp),bx1.below.on hb2 bx1.below.size⟩
   | false=>
     go_wp2_with (go_at_call 15;(with_reducible refine (HE.out _ bx.below).mono ?_);rintro e1 w1 ⟨rfl,hb1⟩;have bx1:=bx.step hb1)
     go_ret
     exact ⟨Zb (by rw [<-HR.out,HE2.out];simp),bx1.below⟩
theorem zj9 {P:Program} {ops:Array Oper} {rest:List Oper} {o:Oper} {a:Act} {w:World} {Q:Exit->Act->World->Prop} (hw:Region.wanted o (yielded ops a.tmps)=true)
 (h:∀K:Act->World->Prop,(∀a w,wpList P ops Q rest a w->K a w)->o.wp P a w K Q):wpList P ops Q (o::rest) a w:=
 wpList_step fun K hK=>by simp only [hw,if_true];exact h K hK
theorem zm6 (e:En):enNone e=eqB e En.none:=by
 apply Bool.eq_iff_iff.2
 obtain ⟨k,src,seq,v,op⟩:=e
 constructor
 .intro h
  simp only [enNone,Bool.and_eq_true,beq_iff_eq,List.length_eq_zero_iff] at h
  obtain ⟨h1,h2,h3,h4,h5⟩:=h
  have h6:v=V.none:=by simpa [eqv] using h5
  subst h1 h2 h3 h4 h6
  exact Zy rfl
 .intro h
  have:=Z6 h
  rw [this]
  simp [enNone,En.none,eqv]
end Go.Proofs.YtfoahkbnheijcaaGreatDoor
