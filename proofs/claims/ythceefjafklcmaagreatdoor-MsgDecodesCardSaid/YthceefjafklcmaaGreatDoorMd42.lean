/-
  Contracts of the functions that the law reaches: (*msg.reader).tail where fields are read. (*msg.reader).tail of any message. msg.Decode. What a message that is read weighs. msg.Decode. What msg.Decode comes to, by itself. What is written of a sound value comes back. No program in sight. What conciliatorref19.Decode comes to is what msg.Decode comes to (by itself). conciliatorref19.get. conciliatorref19.Same. Soundness of a message: the document and the program agree (by itself).
-/
import Derived.Test.YthceefjafklcmaaGreatDoorMd41
import Derived.Test.YthceefjafklcmaaGreatDoorMd16
import Derived.Test.YthceefjafklcmaaGreatDoorMd29
import Derived.Test.YthceefjafklcmaaGreatDoorMd23
import Derived.Deep.RegionHeldLaw
namespace Go.Proofs.YthceefjafklcmaaGreatDoor
open Go.RowKit
theorem ginfoStr:(Tryz.prog.info? 9).map (fun i=>(i.zero,i.size,i.bytes))=some (some (.string ⟨#[]⟩),1,16):=by kernel_rfl
def OwnS (w:World) (B:Nat) (a:Option Addr) (n c:Nat) (l:List ByteArray):Prop:=n=l.length∧w.ownsRow B 9 1 (.slice a n c) n (l.map Value.string)
theorem OwnS.nil (w:World) (B:Nat):OwnS w B none 0 0 [] :=⟨rfl,by simp, .inl ⟨rfl,rfl⟩⟩
def textsP:Nat→List UInt8×Bool→List ByteArray×(List UInt8×Bool)
  |0,s=>([],s)
  |n+1,s=>((textsP n s).1++ [(textP 4 (textsP n s).2).1],(textP 4 (textsP n s).2).2)
theorem textsP_len (n:Nat) (s:List UInt8×Bool):(textsP n s).1.length=n:=by
  induction n with
  |zero=>rfl
  |succ n ih=>simp [textsP,ih]
theorem text4_any (w:World) (rb:Nat) (s:List UInt8×Bool) (h:RdM w rb s.1 s.2):
    Calls Tryz.prog 10 #[.pointer (some ⟨rb,0,none⟩), .int .i64 4] w fun e w'=>e= .returned (.string (textP 4 s).1)∧RdM w' rb (textP 4 s).2.1 (textP 4 s).2.2∧RStep w w' rb:=textM_any w rb s h 4 (by omega)
theorem text1_any (w:World) (rb:Nat) (s:List UInt8×Bool) (h:RdM w rb s.1 s.2):
    Calls Tryz.prog 10 #[.pointer (some ⟨rb,0,none⟩), .int .i64 1] w fun e w'=>e= .returned (.string (textP 1 s).1)∧RdM w' rb (textP 1 s).2.1 (textP 1 s).2.2∧RStep w w' rb:=textM_any w rb s h 1 (by omega)
theorem RdM.low {w w':World} {rb p:Nat} {bs:List UInt8} {sh:Bool} (h:RdM w rb bs sh) (hb:Below p w w') (hp:rb<p):RdM w' rb bs sh:=by
  have hlt:=h.lt
  obtain ⟨⟨a,n,c,h0,hI⟩,h1,h2,h3⟩:=h
  exact ⟨⟨a,n,c,keep_cell hb h0 hp,hI.keep (hb.mono (by omega))⟩,keep_cell hb h1 hp,(hb.frozen (p:=⟨rb,0,none⟩) hp).trans h2,(hb.frozen (p:=⟨rb,1,none⟩) hp).trans h3⟩
theorem OwnS.step {w w':World} {B rb:Nat} {a:Option Addr} {n c:Nat} {l:List ByteArray} (h:OwnS w B a n c l) (hs:RStep w w' rb) (hB:rb<B):OwnS w' B a n c l:=
  ⟨h.1,h.2.kept (row:=some rb) ⟨hs.os,hs.tape,hs.output,hs.size,fun k hk hn=>hs.block k hk (fun e=>hn (by rw [e]))⟩ (.inr fun h2=>by
    have:=(h.2.lt rb h2).1
    omega)⟩
set_option maxHeartbeats 8000000 in
set_option maxRecDepth 100000 in
theorem tailR_1 (w:World) (rb mb B:Nat) (hBr:B≤rb) (hrm:rb<mb) (c:MC) (s:List UInt8×Bool) (hR:RdM w rb s.1 s.2) (hM:BC w mb (mcells c)) (ek:c.k=1) (hfa:c.fa=none) (hfl:c.fl=0) (hfc:c.fc=0):
    Calls Tryz.prog 12 #[.pointer (some ⟨rb,0,none⟩), .pointer (some ⟨mb,0,none⟩)] w fun e w'=>e= .returned (.int .u16 0)∧(∃a n cp,OwnS w' w.heap.size a n cp (textsP (numP 1 s).1 (numP 1 s).2).1∧BC w' mb (mcells { c with fa:=a,fl:=n,fc:=cp }))∧RdM w' rb (textsP (numP 1 s).1 (numP 1 s).2).2.1 (textsP (numP 1 s).1 (numP 1 s).2).2.2∧Below B w w':=by
  obtain ⟨i0,hi0,hz0,hz1,hz2⟩:=info_parts ginfoStr
  have y0:=hM.at_ 0 _ rfl
  rw [ek] at y0;clear ek
  have hlt:=hM.lt
  have hN:=num1_any w rb s hR
  have hN1:=numP_lt1 s
  generalize numP 1 s=ns at hN hN1 ⊢
  obtain ⟨N,s1⟩:=ns
  dsimp only at hN hN1 ⊢
  have hc0:({ c with fa:=none,fl:=0,fc:=0 } :MC)=c:=by cases c;simp_all
  have HC0:=Lib.hid hc0
  have HN:=Lib.hid hN
  have HMM:=Lib.hid hM
  clear hN hR hM hc0 hfa hfl hfc
  go_enter Tryz.func12,Tryz.ntmps12
  go_wp2_with (go_at_call 9;(with_reducible refine HN.out.mono ?_);rintro e w1 ⟨rfl,hR1,hS1⟩;have hM1:=BC.next HMM.out hS1 (by omega);have hB1:=hS1.low hBr (by omega);have hz1':w.heap.size≤w1.heap.size:=hS1.size)
  go_loopw [67] (fun i wr=>∃(k:Nat) (a:Option Addr) (n cp:Nat),k≤N∧i= .int .i64 k∧BC wr mb (mcells { c with fa:=a,fl:=n,fc:=cp })∧OwnS wr w.heap.size a n cp (textsP k s1).1∧RdM wr rb (textsP k s1).2.1 (textsP k s1).2.2∧Below B w wr∧w.heap.size≤wr.heap.size) (fun i _=>N - (intOf i).toNat)
  case atStart=>exact ⟨0,none,0,0,Nat.zero_le _,rfl,by rw [HC0.out];exact hM1,OwnS.nil _ _,hR1,hB1,hz1'⟩
  case round=>
    clear hM1 hR1 hB1 hz1' hS1 y0
    obtain ⟨k,a,n,cp,hk,rfl,hM,hO,hR,hB,hz⟩:=hrel
    by_cases hlk:k<N
    · obtain ⟨st,hst⟩:∃st,textsP k s1=st:=⟨_,rfl⟩
      have hlen:n=k:=by rw [hO.1,textsP_len]
      have hnx:textsP (k+1) s1=(st.1++ [(textP 4 st.2).1],(textP 4 st.2).2):=by rw [textsP,hst]
      rw [hst] at hO hR
      have HNX:=Lib.hid hnx
      have HLN:=Lib.hid hlen
      obtain ⟨fs,s2⟩:=st
      dsimp only at hO hR
      have hlt3:=hM.lt
      have hM0:=bc_drewM hM
      have hRd:RdM wr.drew rb s2.1 s2.2:=hR.of_below (Below.refl _ _).drew
      have hT:=text4_any wr.drew rb s2 hRd
      obtain ⟨tt,htt⟩:∃tt,textP 4 s2=tt:=⟨_,rfl⟩
      have HTT:=Lib.hid htt
      rw [htt] at hT
      obtain ⟨tx,s3⟩:=tt
      dsimp only at hT
      have HT:=Lib.hid hT
      have hOd:OwnS wr.drew w.heap.size a n cp fs:=⟨hO.1,hO.2.drew⟩
      have HO:=Lib.hid hOd
      have HFB:Hid (∀W,BC W mb (mcells { c with fa:=a,fl:=n,fc:=cp })→W.cell? ⟨mb,21,none⟩=some (.slice a n cp)∧W.frozen? ⟨mb,21,none⟩=false):=fun W h=>⟨h.at_ 21 _ rfl,h.fr 21⟩
      have HB:=Lib.hid hB
      have HM0:=Lib.hid hM0
      have hn255:n≤256:=by omega
      have y21:=hM.at_ 21 _ rfl
      clear hst hlen hnx hO hR hT htt hOd hM hB hRd hM0
      go_wp2_with fail
      refine wp_region_noPanic ?_
      go_region_law
        (first
          |(go_simp;go_at_call 10;(with_reducible refine HT.out.mono ?_);rintro e w2 ⟨rfl,hR2,hS2⟩;have hM2:=BC.next HM0.out hS2 (by omega);have hO2:=(OwnS.step HO.out hS2 (by omega)).2;have hlt2:mb<w2.heap.size:=hM2.lt;have hM3:=hM2.keep ((Below.refl w2.heap.size w2).alloc (Nat.le_refl _) (.cells #[.string tx] 9)) hlt2;have hsz2:w.heap.size≤w2.heap.size:=Nat.le_trans hz hS2.size;have hrlt:=hO2.lt;have c2:=hM2.at_ 21 _ rfl)
          |(refine step_append_lies _ (by rfl) _ _ _ (by rfl) w.heap.size 9 i0 _ 1 16 Tryz.underlying34 hi0 hz0 hz1 hz2 rfl (by omega) (.slice a n cp) n (fs.map Value.string) (by rfl) (hO2.alloc _) ⟨w2.heap.size,0,none⟩ 1 1 [.string tx] (by rfl) (by rfl) (World.news_of_block (cs:= #[.string tx]) (t:=9) (fr:=(0,0)) (heap_alloc_new w2 _)) (by simp [Value.oneCell']) (by omega) (by unfold maxLen;omega) (by omega) (by simp;omega) (w2.heap.size+1) (by simp) ?_;intro g cap w5 hown5 hgrow5 hat5 hlt5;have hb5:=grown_below hgrow5 (fun k hk=>(hrlt k hk).1) (by simp;omega);have hM5:=hM3.keep hb5 hlt;have c5:=hM5.at_ 21 _ rfl;have f5:=hM5.fr 21))
      all_goals
        refine NoPanic.normal ?_
        have hM6:BC (w5.setCell ⟨mb,21,none⟩ (.slice (some ⟨g,0,none⟩) (n+1) cap)) mb (mcells { c with fa:=some ⟨g,0,none⟩,fl:=n+1,fc:=cap }):=hM5.set (i:=21) (x:= .slice (some ⟨g,0,none⟩) (n+1) cap) (by simp [mcells])
        have hO5:OwnS w5 w.heap.size (some ⟨g,0,none⟩) (n+1) cap (fs++ [tx]):=⟨by rw [List.length_append, ←HO.out.1];rfl,by simpa using hown5⟩
        have hO6:=OwnS.step hO5 (RStep.self (b:=mb) (W:=w5) (o:=21) (x:= .slice (some ⟨g,0,none⟩) (n+1) cap)) hlt
        have hR5:=(hR2.of_below ((Below.refl w2.heap.size w2).alloc (Nat.le_refl _) (.cells #[.string tx] 9))).low hb5 (by omega)
        have hR6:RdM (w5.setCell ⟨mb,21,none⟩ (.slice (some ⟨g,0,none⟩) (n+1) cap)) rb s3.1 s3.2:=hR5.far hrm [.slice (some ⟨g,0,none⟩) (n+1) cap] 21
        have hB5:Below B w w5:=((HB.out.drew.trans (hS2.low hBr (by show B≤wr.heap.size;omega))).alloc (by omega) (.cells #[.string tx] 9)).trans (hb5.mono (by omega))
        have hB6:Below B w (w5.setCell ⟨mb,21,none⟩ (.slice (some ⟨g,0,none⟩) (n+1) cap)):=hB5.setCell (by simp;omega) _
        have hz6:w.heap.size≤(w5.setCell ⟨mb,21,none⟩ (.slice (some ⟨g,0,none⟩) (n+1) cap)).heap.size:=by
          have:=hb5.size
          simp at this ⊢;omega
        clear hM5 hO5 hR5 hB5 hown5 hgrow5 hat5 hb5 hM2 hM3 hO2 hrlt hR2 hS2 c2 c5 f5
        go_wp2_with fail
        go_roundw
        case rel=>exact ⟨k+1,some ⟨g,0,none⟩,n+1,cap,by omega,by go_num,hM6,by rw [HNX.out,HTT.out];exact hO6,by rw [HNX.out,HTT.out];exact hR6,hB6,hz6⟩
        case measure=>simp [intOf];omega
    · have:k=N:=by omega
      subst this
      go_wp2_with fail
      go_ret
      exact ⟨rfl,⟨a,n,cp,hO,hM⟩,hR,hB⟩
end Go.Proofs.YthceefjafklcmaaGreatDoor
namespace Go.Proofs.YthceefjafklcmaaGreatDoor
open Go.RowKit
theorem cutP_len (k:Nat) (s:List UInt8×Bool):(cutP k s).1.length≤s.1.length∧(cutP k s).2.1.length≤s.1.length:=by
  unfold cutP
  split
  · exact ⟨Nat.zero_le _,Nat.zero_le _⟩
  · exact ⟨by simp only [List.length_take];omega,by simp only [List.length_drop];omega⟩
theorem numP_len (k:Nat) (s:List UInt8×Bool):(numP k s).2.1.length≤s.1.length:=(cutP_len k s).2
theorem textP_len (k:Nat) (s:List UInt8×Bool):(textP k s).1.size≤s.1.length∧(textP k s).2.1.length≤s.1.length:=by
  have h1:=numP_len k s
  have h2:=cutP_len (numP k s).1 (numP k s).2
  refine ⟨?_,Nat.le_trans h2.2 h1⟩
  have h3:(textP k s).1.size=(cutP (numP k s).1 (numP k s).2).1.length:=by simp [textP,ByteArray.size]
  omega
theorem textsP_le (n:Nat) (s:List UInt8×Bool):(∀t ∈ (textsP n s).1,t.size≤s.1.length)∧(textsP n s).2.1.length≤s.1.length:=by
  induction n with
  |zero=>exact ⟨fun t h=>by simp [textsP] at h,Nat.le_refl _⟩
  | succ n ih=>
    have h:=textP_len 4 (textsP n s).2
    refine ⟨fun t ht=> ?_,by show (textP 4 (textsP n s).2).2.1.length≤_;omega⟩
    simp only [textsP,List.mem_append,List.mem_singleton] at ht
    rcases ht with ht|rfl
    · exact ih.1 t ht
    · omega
noncomputable def tailRd (k:Int) (doc:ByteArray) (n:Int) (s:List UInt8×Bool):Ms×Int×Bool:=
  if k=3∨k=5 then (⟨k,doc,n,(backE s.1).1,0,0,0,false,V.none, []⟩,(backE s.1).2,s.2)
  else if k=4 then
    (if (numP 1 s).1=1 then (⟨k,doc,n,En.none,0,0,0,true,(backR (numP 1 s).2.1).1, []⟩,(backR (numP 1 s).2.1).2,(numP 1 s).2.2)
     else (⟨k,doc,n,En.none,0,0,0,false,V.none, []⟩,0,(numP 1 s).2.2))
  else if k=6 then (⟨k,doc,n,En.none,(numP 4 s).1,(numP 4 (numP 4 s).2).1,(numP 2 (numP 4 (numP 4 s).2).2).1,false,V.none, []⟩,0,(numP 2 (numP 4 (numP 4 s).2).2).2.2)
  else if k=1 then (⟨k,doc,n,En.none,0,0,0,false,V.none,(textsP (numP 1 s).1 (numP 1 s).2).1⟩,0,(textsP (numP 1 s).1 (numP 1 s).2).2.2)
  else (⟨k,doc,n,En.none,0,0,0,false,V.none, []⟩,0,s.2)
def mk0 (k:Int) (doc:ByteArray) (n:Int):MC:=⟨k,doc,n,ezero,0,0,0,false,vzero,none,0,0⟩
set_option maxHeartbeats 2000000 in
set_option maxRecDepth 100000 in
theorem tailR_0 (w:World) (rb mb:Nat) (c:MC) (hM:BC w mb (mcells c)) (h1:¬c.k=1) (h3:¬c.k=3) (h4:¬c.k=4) (h5:¬c.k=5) (h6:¬c.k=6):
    Calls Tryz.prog 12 #[.pointer (some ⟨rb,0,none⟩), .pointer (some ⟨mb,0,none⟩)] w fun e w'=>e= .returned (.int .u16 0)∧w'=w:=by
  have y0:=hM.at_ 0 _ rfl
  have f1:(c.k==1)=false:=by simp [h1]
  have f3:(c.k==3)=false:=by simp [h3]
  have f4:(c.k==4)=false:=by simp [h4]
  have f5:(c.k==5)=false:=by simp [h5]
  have f6:(c.k==6)=false:=by simp [h6]
  clear h1 h3 h4 h5 h6
  go_enter Tryz.func12,Tryz.ntmps12
  go_wp2_with fail
  go_ret
  exact ⟨rfl,rfl⟩
theorem OwnS.isStrs {w:World} {B mb:Nat} {a:Option Addr} {n c:Nat} {l:List ByteArray} (h:OwnS w B a n c l) (hm:mb<B) (hn:n≤256) (hs:∀t ∈ l,t.size≤140737488355328):IsStrs (only (fun b=>mb<b) w) w.heap.size l a n c:=by
  obtain ⟨h1,h2⟩:=h
  have hlt:=h2.lt
  have hcl:=fun g hg=>h2.cells (g:=g) hg
  rcases h2.2 with ⟨e,hz⟩|⟨g,cap,cur,e,h3,h4,h5,h6,h7,h8⟩
  · injection e with e1 e2 e3
    subst e1 e2 e3
    have:l= [] :=List.length_eq_zero_iff.1 h1.symm
    subst this
    exact IsStrs.nil _ _
  · injection e with e1 e2 e3
    subst e1 e3
    refine ⟨h1,h5,by simpa [maxLen] using h6,by omega,g,0,fun _=>⟨rfl,(hlt g rfl).2⟩,fun i hi=>⟨?_,hs _ (List.getElem_mem hi)⟩⟩
    have:=hcl g rfl i (.string l[i]) (by simp [hi])
    rw [add_at] at this
    exact only_cell' (by have:=(hlt g rfl).1;omega) this
structure KB (k:Int) (doc:ByteArray) (n:Int):Prop where
  k0:0≤k
  k1:k<256
  d1:doc.size≤140737488355328
  n0: -9223372036854775808≤n
  n1:n≤9223372036854775807
theorem isMsg_of {W:World} {B:Nat} {k:Int} {doc:ByteArray} {n:Int} (hb:KB k doc n) {e:En} {ce:EC} (he:IsEntry W B e ce) {v:V} {cv:VC} (hv:IsVal W B v cv) {f:List ByteArray} {fa:Option Addr} {fl fc:Nat} (hf:IsStrs W B f fa fl fc) {src seq err:Int} {th:Bool}
    (s0:0≤src) (s1:src<4294967296) (q0:0≤seq) (q1:seq<4294967296) (e0:0≤err) (e1:err<65536):IsMsg W B ⟨k,doc,n,e,src,seq,err,th,v,f⟩ ⟨k,doc,n,ce,src,seq,err,th,cv,fa,fl,fc⟩:=
  .mk ⟨k,doc,n,ce,src,seq,err,th,cv,fa,fl,fc⟩ e v f ⟨hb.k0,hb.k1,hb.d1,hb.n0,hb.n1,s0,s1,q0,q1,e0,e1⟩ he hv hf
def TailPost (mb rb B:Nat) (w:World) (r:Ms×Int×Bool) (e:Ending) (w':World):Prop:=
  e= .returned (.int .u16 r.2.1)∧(∃c',IsMsg (only (fun b=>mb<b) w') w'.heap.size r.1 c'∧BC w' mb (mcells c'))∧(∃bs',RdM w' rb bs' r.2.2)∧Below B w w'
theorem tailR_any (w:World) (rb mb B:Nat) (hBr:B≤rb) (hrm:rb<mb) (hTB:∀W,Below B w W→Tabs W) (k:Int) (doc:ByteArray) (n:Int) (hk:KB k doc n) (s:List UInt8×Bool) (hl:s.1.length≤60000) (hR:RdM w rb s.1 s.2) (hM:BC w mb (mcells (mk0 k doc n))):
    Calls Tryz.prog 12 #[.pointer (some ⟨rb,0,none⟩), .pointer (some ⟨mb,0,none⟩)] w (TailPost mb rb B w (tailRd k doc n s)):=by
  have hlt:=hM.lt
  by_cases e3:k=3
  · obtain ⟨⟨x,er⟩,hb⟩:∃p,backE s.1=p:=⟨_,rfl⟩
    refine (tailR_3 w rb mb B hBr hrm hTB (mk0 k doc n) s hR hM e3 hl hb).mono fun e w' ⟨h1,⟨cv,h2,h3⟩,h4,h5⟩=> ?_
    rw [tailRd,if_pos (.inl e3),hb]
    exact ⟨h1,⟨_,isMsg_of hk h2 (isVal_none _ _) (IsStrs.nil _ _) (by decide) (by decide) (by decide) (by decide) (by decide) (by decide),h3⟩,⟨_,h4⟩,h5⟩
  by_cases e5:k=5
  · obtain ⟨⟨x,er⟩,hb⟩:∃p,backE s.1=p:=⟨_,rfl⟩
    refine (tailR_5 w rb mb B hBr hrm hTB (mk0 k doc n) s hR hM e5 hl hb).mono fun e w' ⟨h1,⟨cv,h2,h3⟩,h4,h5⟩=> ?_
    rw [tailRd,if_pos (.inr e5),hb]
    exact ⟨h1,⟨_,isMsg_of hk h2 (isVal_none _ _) (IsStrs.nil _ _) (by decide) (by decide) (by decide) (by decide) (by decide) (by decide),h3⟩,⟨_,h4⟩,h5⟩
  by_cases e4:k=4
  · have hl1:=numP_len 1 s
    by_cases hn:(numP 1 s).1=1
    · obtain ⟨⟨x,er⟩,hb⟩:∃p,backR (numP 1 s).2.1=p:=⟨_,rfl⟩
      refine (tailR_4 w rb mb B hBr hrm hTB (mk0 k doc n) s hR hM e4 hn (by omega) hb).mono fun e w' ⟨h1,⟨cv,h2,h3⟩,h4,h5⟩=> ?_
      rw [tailRd,if_neg (by simp [e3,e5]),if_pos e4,if_pos hn,hb]
      exact ⟨h1,⟨_,isMsg_of hk (isEntry_none _ _) h2 (IsStrs.nil _ _) (by decide) (by decide) (by decide) (by decide) (by decide) (by decide),h3⟩,⟨_,h4⟩,h5⟩
    · refine (tailR_4n w rb mb B hBr hrm (mk0 k doc n) s hR hM e4 hn).mono fun e w' ⟨h1,h3,h4,h5⟩=> ?_
      rw [tailRd,if_neg (by simp [e3,e5]),if_pos e4,if_neg hn]
      exact ⟨h1,⟨_,isMsg_of hk (isEntry_none _ _) (isVal_none _ _) (IsStrs.nil _ _) (by decide) (by decide) (by decide) (by decide) (by decide) (by decide),h3⟩,⟨_,h4⟩,h5⟩
  by_cases e6:k=6
  · refine (tailR_6 w rb mb B hBr hrm (mk0 k doc n) s hR hM e6).mono fun e w' ⟨h1,h3,h4,h5⟩=> ?_
    have q1:=numP_lt4 s;have q2:=numP_lt4 (numP 4 s).2;have q3:=numP_lt2 (numP 4 (numP 4 s).2).2
    rw [tailRd,if_neg (by simp [e3,e5]),if_neg e4,if_pos e6]
    exact ⟨h1,⟨_,isMsg_of hk (isEntry_none _ _) (isVal_none _ _) (IsStrs.nil _ _) (by omega) (by omega) (by omega) (by omega) (by omega) (by omega),h3⟩,⟨_,h4⟩,h5⟩
  by_cases e1:k=1
  · refine (tailR_1 w rb mb B hBr hrm (mk0 k doc n) s hR hM e1 rfl rfl rfl).mono fun e w' ⟨h1,⟨a,m,cp,h2,h3⟩,h4,h5⟩=> ?_
    have q1:=numP_lt1 s
    have q2:=textsP_len (numP 1 s).1 (numP 1 s).2
    have q3:=(textsP_le (numP 1 s).1 (numP 1 s).2).1
    have q4:=numP_len 1 s
    rw [tailRd,if_neg (by simp [e3,e5]),if_neg e4,if_neg e6,if_pos e1]
    exact ⟨h1,⟨_,isMsg_of hk (isEntry_none _ _) (isVal_none _ _) (h2.isStrs hlt (by have:=h2.1;omega) (fun t ht=>by have:=q3 t ht;omega)) (by decide) (by decide) (by decide) (by decide) (by decide) (by decide),h3⟩,⟨_,h4⟩,h5⟩
  · refine (tailR_0 w rb mb (mk0 k doc n) hM e1 e3 e4 e5 e6).mono fun e w' ⟨h1,h2⟩=> ?_
    subst h2
    rw [tailRd,if_neg (by simp [e3,e5]),if_neg e4,if_neg e6,if_neg e1]
    exact ⟨h1,⟨mk0 k doc n,isMsg_of hk (isEntry_none _ _) (isVal_none _ _) (IsStrs.nil _ _) (by decide) (by decide) (by decide) (by decide) (by decide) (by decide),hM⟩,⟨_,hR⟩,Below.refl _ _⟩
end Go.Proofs.YthceefjafklcmaaGreatDoor
namespace Go.Proofs.YthceefjafklcmaaGreatDoor
open Go.RowKit
theorem wp_storeM {ops:Array Oper} {rest:List Oper} {op:Oper} {a:Act} {Q:Exit→Act→World→Prop} {W:World} (hgd:op.guard=none) (x y:Operand) (ho:op.op= .store 36 x y)
    (h:∃(b:Nat) (cs xs:List Value),a.eval x= .pointer (some ⟨b,0,none⟩)∧a.eval y= .agg xs.toArray∧BC W b cs∧cs.length=22∧xs.length=22∧xs.all (·.oneCell')=true∧∀W2,BC W2 b xs→(∀b' cs',b'≠b→BC W b' cs'→BC W2 b' cs')→RStep W W2 b→wpList Tryz.prog ops Q rest (a.put op.dst undef) W2):wpList Tryz.prog ops Q (op::rest) a W:=by
  obtain ⟨b,cs,xs,hx,hy,hb,hc,hl,h1,h⟩:=h
  refine wpList_store_mid hgd _ x y ho b 0 _ hx hy (thereM hb (by simp [hc,hl])) (by rw [minfo];simp [hl]) (all_oneCell_toArray (List.all_eq_true.1 h1)) ?_
  have e:xs.toArray.toList=xs:=by simp
  refine h _ (by rw [e];exact bc_setCells xs [] cs _ (by omega) hb) (fun b' cs' hne hb'=>bc_far hne _ _ _ hb') ?_
  have hq:∀(vs:List Value) (o:Nat) (W:World),(W.setCells b o vs).os=W.os∧(W.setCells b o vs).tape=W.tape∧(W.setCells b o vs).output=W.output:=by
    intro vs
    induction vs with
    |nil=>exact fun _ _=>⟨rfl,rfl,rfl⟩
    |cons v vs ih=>exact fun o W=>ih (o+1) (W.setCell ⟨b,o,none⟩ v)
  obtain ⟨q1,q2,q3⟩:=hq xs.toArray.toList 0 W
  exact ⟨q1,q2,q3,by rw [size_setCells];exact Nat.le_refl _,fun k _ hk=>heap_setCells_far hk _ _ _⟩
theorem results_msg {tmps:Array Value} {W:World} {b:Nat} {c:MC} {x:Value} (ht:tmps[2]? =some (.pointer (some ⟨b,0,none⟩))) (hx:tmps[3]? =some x) (h:BC W b (mcells c)):
    (results Tryz.f5 tmps).run Tryz.prog W= .ok (.tuple #[.agg (mcells c).toArray,x]) W:=by
  have h1:=run_loadVar_mid (P:=Tryz.prog) W b 0 36 (mcells c) _ h.range Tryz.underlying36 rfl minfo
  have h2:(asAddr (Value.pointer (some { block:=b,off:=0 }))).run Tryz.prog W= .ok ⟨b,0,none⟩ W:=by simp [asAddr]
  simp [results,Tryz.results5,ht,hx,h2,Result.andThen_ok,h1]
noncomputable def headP (bs:List UInt8):Int×ByteArray×Int×(List UInt8×Bool):=
  let a:=numP 1 (bs,false)
  let t:=textP 1 a.2
  if numberedB a.1=true then ((a.1:Int),t.1,((numP 4 t.2).1:Int) - 1,(numP 4 t.2).2) else ((a.1:Int),t.1,0,t.2)
noncomputable def rdMsg (bs:List UInt8):Ms×Int×Bool:=tailRd (headP bs).1 (headP bs).2.1 (headP bs).2.2.1 (headP bs).2.2.2
noncomputable def decM (bs:List UInt8):Ms×Int:=
  if 60000<bs.length then (Ms.none,3)
  else if (rdMsg bs).2.1=0∧(rdMsg bs).2.2=false∧(encMsg (rdMsg bs).1).1=0∧eqBs (encMsg (rdMsg bs).1).2 bs=true then ((rdMsg bs).1,0) else (Ms.none,190)
set_option maxHeartbeats 1000000 in
set_option maxRecDepth 100000 in
theorem dec_long (w:World) (a:Option Addr) (n c:Nat) (hn:60000<n):
    Calls Tryz.prog 5 #[.slice a n c] w fun e w'=>e= .returned (.tuple #[.agg (mcells mzero).toArray, .int .u16 3])∧Below w.heap.size w w':=by
  go_enter Tryz.func5,Tryz.ntmps5
  generalize hQ0:bodyPost _ _ _=Q0
  have HQ:=Lib.hid hQ0
  clear hQ0
  go_wp2_with (refine wp_storeM rfl _ _ rfl ?_;refine ⟨w.heap.size,mcells mzero,mcells mzero,rfl,rfl,BC.start w (mcells mzero).toArray 36,rfl,rfl,rfl, ?_⟩;intro W2 bm keepf st;have HBM:=Lib.hid bm;have HST:=Lib.hid (((Below.refl w.heap.size w).alloc (Nat.le_refl _) (.cells (mcells mzero).toArray 36)).trans (st.below (by simp)));clear bm keepf st)
  rw [←HQ.out]
  exact ⟨rfl,_,results_msg rfl rfl HBM.out,rfl,HST.out⟩
end Go.Proofs.YthceefjafklcmaaGreatDoor
namespace Go.Proofs.YthceefjafklcmaaGreatDoor
open Go.RowKit
theorem backE_fail {bs:List UInt8} (h:(backE bs).2≠0):(backE bs).1=En.none:=by
  unfold backE at h ⊢
  split at h
  · split<;>first|rfl|contradiction
  · rename_i hl
    rw [if_neg hl]
    split at h
    · rfl
    · split at h
      · rename_i h1
        rw [if_pos h1]
        split at h
        · exact absurd rfl h
        · rename_i h2;rw [if_neg h2]
      · rename_i h1;rw [if_neg h1]
theorem backR_fail {bs:List UInt8} (h:(backR bs).2≠0):(backR bs).1=V.none:=by
  unfold backR at h ⊢
  split at h
  · split<;>first|rfl|contradiction
  · rename_i hl
    rw [if_neg hl]
    split at h
    · rfl
    · split at h
      · rename_i h1
        rw [if_pos h1]
        split at h
        · exact absurd rfl h
        · rename_i h2;rw [if_neg h2]
      · rename_i h1;rw [if_neg h1]
theorem backE_fits (bs:List UInt8):(backE bs).1.small∧(encE (backE bs).1).length≤60000:=by
  by_cases h:(backE bs).2=0
  · obtain ⟨⟨x,e⟩,hx⟩:∃p,backE bs=p:=⟨_,rfl⟩
    rw [hx] at h ⊢
    dsimp only at h ⊢
    subst h
    obtain ⟨q1,q2,q3,r1,q4⟩:=backE_ok hx
    obtain ⟨l1,l2,l3⟩:=rdE_len q4
    exact ⟨⟨by omega,fun y hy=>by have:=l3 y hy;omega⟩,by rw [q2];exact q3⟩
  · rw [backE_fail h]
    exact ⟨⟨by decide,fun y hy=>by cases hy⟩,by simp [En.none,encE,be_length]⟩
theorem backR_fits (bs:List UInt8):(backR bs).1.weight≤4611686018427387904∧(encV (backR bs).1).length≤60000:=by
  by_cases h:(backR bs).2=0
  · obtain ⟨⟨x,e⟩,hx⟩:∃p,backR bs=p:=⟨_,rfl⟩
    rw [hx] at h ⊢
    dsimp only at h ⊢
    subst h
    obtain ⟨u1,u2,u3,r2,u4⟩:=backR_ok hx
    obtain ⟨m1,m2⟩:=rdV_len 18 bs x r2 u4
    exact ⟨by omega,by rw [u2];exact u3⟩
  · rw [backR_fail h]
    exact ⟨by decide,by simp [V.none,encV,be_length]⟩
theorem encFs_sum (l:List ByteArray) (b:Nat) (h:∀t ∈ l,t.size≤b):(encFs l).length≤l.length*(b+4):=by
  induction l with
  |nil=>exact Nat.zero_le _
  | cons x r ih=>
    have h1:=ih fun t ht=>h t (List.mem_cons_of_mem _ ht)
    have h2:=h x List.mem_cons_self
    have h3:(encFs (x::r)).length=4+x.size+(encFs r).length:=by
      have h5:x.data.size=x.size:=rfl
      simp [encFs,be_length,h5]
      omega
    rw [h3,List.length_cons,Nat.succ_mul]
    omega
theorem none_fits:En.none.small∧(encE En.none).length≤60000:=⟨⟨by decide,fun y hy=>by cases hy⟩,by simp [En.none,encE,be_length]⟩
theorem vnone_fits:V.none.weight≤4611686018427387904∧(encV V.none).length≤60000:=⟨by decide,by simp [V.none,encV,be_length]⟩
theorem fits_of {k:Int} {doc:ByteArray} {n:Int} {e:En} {v:V} {src seq err:Int} {th:Bool} {f:List ByteArray} (he:e.small∧(encE e).length≤60000) (hv:v.weight≤4611686018427387904∧(encV v).length≤60000) (hf:(encFs f).length≤70368744177664):Ms.Fits ⟨k,doc,n,e,src,seq,err,th,v,f⟩:=
  ⟨he.1,by show (encE e).length≤_;omega,by show (encV v).length≤_;omega,hv.1,hf⟩
theorem tailRd_fits (k:Int) (doc:ByteArray) (n:Int) (s:List UInt8×Bool) (hl:s.1.length≤60000):(tailRd k doc n s).1.Fits:=by
  have h0:(encFs []).length≤70368744177664:=by simp [encFs]
  unfold tailRd
  split
  · exact fits_of (backE_fits _) vnone_fits h0
  split
  · split
    · exact fits_of none_fits (backR_fits _) h0
    · exact fits_of none_fits vnone_fits h0
  split
  · exact fits_of none_fits vnone_fits h0
  split
  · refine fits_of none_fits vnone_fits ?_
    have h1:=numP_lt1 s
    have h2:=numP_len 1 s
    have h3:=encFs_sum (textsP (numP 1 s).1 (numP 1 s).2).1 60000 (fun t ht=>by have:=(textsP_le (numP 1 s).1 (numP 1 s).2).1 t ht;omega)
    rw [textsP_len] at h3
    have h4:(numP 1 s).1*(60000+4)≤256*60004:=Nat.mul_le_mul (by omega) (by omega)
    omega
  · exact fits_of none_fits vnone_fits h0
end Go.Proofs.YthceefjafklcmaaGreatDoor
namespace Go.Proofs.YthceefjafklcmaaGreatDoor
open Go.RowKit
theorem IsStrs.sub {w w':World} {B:Nat} (hs:Shows w w' B) {l:List ByteArray} {a:Option Addr} {n c:Nat} (h:IsStrs w B l a n c):IsStrs w' B l a n c:=by
  obtain ⟨h1,h2,h3,h4,b,o,h5,h6⟩:=h
  exact ⟨h1,h2,h3,h4,b,o,h5,fun i hi=>⟨hs b _ _ (h5 (by omega)).2 (h6 i hi).1,(h6 i hi).2⟩⟩
theorem IsMsg.sub {w w':World} {B:Nat} (hs:Shows w w' B) {m:Ms} {c:MC} (h:IsMsg w B m c):IsMsg w' B m c:=by
  cases h with
  |mk c e v f h1 h2 h3 h4=>exact .mk c e v f h1 (h2.sub hs) (h3.sub hs) (h4.sub hs)
theorem IsMsg.more {w:World} {B B':Nat} {m:Ms} {c:MC} (h:IsMsg w B m c) (hB:B≤B'):IsMsg w B' m c:=by
  cases h with
  |mk c e v f h1 h2 h3 h4=>exact .mk c e v f h1 (h2.more hB) (h3.more hB) (h4.more hB)
set_option maxHeartbeats 4000000 in
set_option maxRecDepth 100000 in
theorem dec_1 (w:World) (hT:Tabs w) (a:Option Addr) (n c:Nat) (bs:List UInt8) (h:IsB w w.heap.size a n c bs) (hl:bs.length≤60000):
    Calls Tryz.prog 5 #[.slice a n c] w fun e w'=>(∃cm,e= .returned (.tuple #[.agg (mcells cm).toArray, .int .u16 (decM bs).2])∧IsMsg w' w'.heap.size (decM bs).1 cm)∧Below w.heap.size w w':=by
  have hA:Below w.heap.size w ((w.alloc (.cells #[.int .u8 0, .string { data:= #[] }, .int .i64 0, .int .u8 0, .int .u32 0, .int .u32 0, .int .u8 0, .int .i64 0, .string { data:= #[] }, .slice none 0 0, .slice none 0 0, .slice none 0 0, .int .u32 0, .int .u32 0, .int .u16 0, .bool false, .int .u8 0, .int .i64 0, .string { data:= #[] }, .slice none 0 0, .slice none 0 0, .slice none 0 0] 36)).alloc (.cells #[.slice a n c, .bool false] 47)):=((Below.refl _ _).alloc (Nat.le_refl _) _).alloc (by simp) _
  have hb:=BC.start (w.alloc (.cells #[.int .u8 0, .string { data:= #[] }, .int .i64 0, .int .u8 0, .int .u32 0, .int .u32 0, .int .u8 0, .int .i64 0, .string { data:= #[] }, .slice none 0 0, .slice none 0 0, .slice none 0 0, .int .u32 0, .int .u32 0, .int .u16 0, .bool false, .int .u8 0, .int .i64 0, .string { data:= #[] }, .slice none 0 0, .slice none 0 0, .slice none 0 0] 36)) #[.slice a n c, .bool false] 47
  rw [show (w.alloc (.cells #[.int .u8 0, .string { data:= #[] }, .int .i64 0, .int .u8 0, .int .u32 0, .int .u32 0, .int .u8 0, .int .i64 0, .string { data:= #[] }, .slice none 0 0, .slice none 0 0, .slice none 0 0, .int .u32 0, .int .u32 0, .int .u16 0, .bool false, .int .u8 0, .int .i64 0, .string { data:= #[] }, .slice none 0 0, .slice none 0 0, .slice none 0 0] 36)).heap.size=w.heap.size+1 by simp] at hb
  have hR0:RdM ((w.alloc (.cells #[.int .u8 0, .string { data:= #[] }, .int .i64 0, .int .u8 0, .int .u32 0, .int .u32 0, .int .u8 0, .int .i64 0, .string { data:= #[] }, .slice none 0 0, .slice none 0 0, .slice none 0 0, .int .u32 0, .int .u32 0, .int .u16 0, .bool false, .int .u8 0, .int .i64 0, .string { data:= #[] }, .slice none 0 0, .slice none 0 0, .slice none 0 0] 36)).alloc (.cells #[.slice a n c, .bool false] 47)) (w.heap.size+1) bs false:=⟨⟨a,n,c,hb.at_ 0 _ rfl,(h.keep hA).more (by omega)⟩,hb.at_ 1 _ rfl,hb.fr 0,hb.fr 1⟩
  have hX0:BC ((w.alloc (.cells #[.int .u8 0, .string { data:= #[] }, .int .i64 0, .int .u8 0, .int .u32 0, .int .u32 0, .int .u8 0, .int .i64 0, .string { data:= #[] }, .slice none 0 0, .slice none 0 0, .slice none 0 0, .int .u32 0, .int .u32 0, .int .u16 0, .bool false, .int .u8 0, .int .i64 0, .string { data:= #[] }, .slice none 0 0, .slice none 0 0, .slice none 0 0] 36)).alloc (.cells #[.slice a n c, .bool false] 47)) w.heap.size (mcells mzero):=(BC.start w #[.int .u8 0, .string { data:= #[] }, .int .i64 0, .int .u8 0, .int .u32 0, .int .u32 0, .int .u8 0, .int .i64 0, .string { data:= #[] }, .slice none 0 0, .slice none 0 0, .slice none 0 0, .int .u32 0, .int .u32 0, .int .u16 0, .bool false, .int .u8 0, .int .i64 0, .string { data:= #[] }, .slice none 0 0, .slice none 0 0, .slice none 0 0] 36).keep ((Below.refl _ _).alloc (Nat.le_refl _) _) (by simp)
  have hBs:((w.alloc (.cells #[.int .u8 0, .string { data:= #[] }, .int .i64 0, .int .u8 0, .int .u32 0, .int .u32 0, .int .u8 0, .int .i64 0, .string { data:= #[] }, .slice none 0 0, .slice none 0 0, .slice none 0 0, .int .u32 0, .int .u32 0, .int .u16 0, .bool false, .int .u8 0, .int .i64 0, .string { data:= #[] }, .slice none 0 0, .slice none 0 0, .slice none 0 0] 36)).alloc (.cells #[.slice a n c, .bool false] 47)).heap.size=w.heap.size+2:=by simp
  have hn:=h.len
  have hn2:¬60000<n:=by omega
  have HI:=Lib.hid h
  have HT:=Lib.hid hT
  have HN1:=Lib.hid (num1_any ((w.alloc (.cells #[.int .u8 0, .string { data:= #[] }, .int .i64 0, .int .u8 0, .int .u32 0, .int .u32 0, .int .u8 0, .int .i64 0, .string { data:= #[] }, .slice none 0 0, .slice none 0 0, .slice none 0 0, .int .u32 0, .int .u32 0, .int .u16 0, .bool false, .int .u8 0, .int .i64 0, .string { data:= #[] }, .slice none 0 0, .slice none 0 0, .slice none 0 0] 36)).alloc (.cells #[.slice a n c, .bool false] 47)) (w.heap.size+1) (bs,false) hR0)
  have hK:=numP_lt1 (bs,false)
  obtain ⟨ns,hns⟩:∃ns,numP 1 (bs,false)=ns:=⟨_,rfl⟩
  rw [hns] at HN1 hK
  obtain ⟨K,s1⟩:=ns
  dsimp only at HN1 hK
  have hk8:(K:Int) % 256=K:=by omega
  have hk9:IntKind.u8.wrap (K:Int)=K:=by simp [IntKind.wrap,IntKind.bits,IntKind.signed];omega
  have HNS:=Lib.hid hns
  have HX0:=Lib.hid hX0
  have HBS:=Lib.hid hBs
  have HN:=Lib.hid hn
  have HA:=Lib.hid hA
  clear h hT hb hR0 hns hX0 hBs hn hA
  go_enter Tryz.func5,Tryz.ntmps5
  generalize hQ0:bodyPost _ _ _=Q0
  have HQ:=Lib.hid hQ0
  clear hQ0
  go_wp2_with (first
    |(refine wp_storeM rfl _ _ rfl ?_;refine ⟨w1.heap.size, [.int .u8 0, .string { data:= #[] }, .int .i64 0, .int .u8 0, .int .u32 0, .int .u32 0, .int .u8 0, .int .i64 0, .string { data:= #[] }, .slice none 0 0, .slice none 0 0, .slice none 0 0, .int .u32 0, .int .u32 0, .int .u16 0, .bool false, .int .u8 0, .int .i64 0, .string { data:= #[] }, .slice none 0 0, .slice none 0 0, .slice none 0 0],mcells (mk0 K .empty 0),rfl,rfl,BC.start w1 #[.int .u8 0, .string { data:= #[] }, .int .i64 0, .int .u8 0, .int .u32 0, .int .u32 0, .int .u8 0, .int .i64 0, .string { data:= #[] }, .slice none 0 0, .slice none 0 0, .slice none 0 0, .int .u32 0, .int .u32 0, .int .u16 0, .bool false, .int .u8 0, .int .i64 0, .string { data:= #[] }, .slice none 0 0, .slice none 0 0, .slice none 0 0] 36,rfl,rfl,rfl, ?_⟩;intro W2 bm keepf st;have hX2:=keepf _ _ (by omega) (hX1.keep ((Below.refl w1.heap.size w1).alloc (Nat.le_refl _) (.cells #[.int .u8 0, .string { data:= #[] }, .int .i64 0, .int .u8 0, .int .u32 0, .int .u32 0, .int .u8 0, .int .i64 0, .string { data:= #[] }, .slice none 0 0, .slice none 0 0, .slice none 0 0, .int .u32 0, .int .u32 0, .int .u16 0, .bool false, .int .u8 0, .int .i64 0, .string { data:= #[] }, .slice none 0 0, .slice none 0 0, .slice none 0 0] 36)) (by omega));have hR2:=(hR1.of_below ((Below.refl w1.heap.size w1).alloc (Nat.le_refl _) (.cells #[.int .u8 0, .string { data:= #[] }, .int .i64 0, .int .u8 0, .int .u32 0, .int .u32 0, .int .u8 0, .int .i64 0, .string { data:= #[] }, .slice none 0 0, .slice none 0 0, .slice none 0 0, .int .u32 0, .int .u32 0, .int .u16 0, .bool false, .int .u8 0, .int .i64 0, .string { data:= #[] }, .slice none 0 0, .slice none 0 0, .slice none 0 0] 36))).low (st.below (by simp)) (by omega))
    |(go_at_call 9;(with_reducible refine HN1.out.mono ?_);rintro e w1 ⟨rfl,hR1,hS1⟩;have hz1:w.heap.size+2≤w1.heap.size:=Nat.le_trans (Nat.le_of_eq HBS.out.symm) hS1.size;have hX1:=BC.next HX0.out hS1 (by omega))
    |(go_at_call 10;(with_reducible refine (text1_any W2 (w.heap.size+1) s1 hR2).mono ?_);rintro e w3 ⟨rfl,hR3,hS3⟩;have hX3:=hX2.next hS3 (by omega);have hM3:=bm.next hS3 (by omega);have y0:w3.cell? ⟨w1.heap.size,0,none⟩=some (.int .u8 (K:Int)):=hM3.at_ 0 _ rfl;have y1:=hM3.at_ 1 _ rfl;have g1:=hM3.fr 1))
  obtain ⟨tt,htt⟩:∃tt,textP 1 s1=tt:=⟨_,rfl⟩
  have HTX:=Lib.hid htt
  have hts:=(textP_len 1 s1).1
  have hts2:=(textP_len 1 s1).2
  have hs1:=numP_len 1 (bs,false)
  rw [HNS.out] at hs1
  rw [htt] at hR3 hts hts2 ⊢
  obtain ⟨doc,s3⟩:=tt
  dsimp only at hR3 hts hts2 hs1 ⊢
  have hM4:BC (w3.setCell ⟨w1.heap.size,1,none⟩ (.string doc)) w1.heap.size (mcells (mk0 K doc 0)):=hM3.set (i:=1) (x:= .string doc) (by simp [mcells])
  have hR4:RdM (w3.setCell ⟨w1.heap.size,1,none⟩ (.string doc)) (w.heap.size+1) s3.1 s3.2:=hR3.far (by omega) [.string doc] 1
  have hX4:BC (w3.setCell ⟨w1.heap.size,1,none⟩ (.string doc)) w.heap.size (mcells mzero):=hX3.far (by omega)
  have hB4:Below w.heap.size w (w3.setCell ⟨w1.heap.size,1,none⟩ (.string doc)):=
    ((((HA.out.trans (hS1.low (by omega) (by have:=HBS.out;omega))).alloc (by omega) _).trans (st.below (by simp)|>.mono (by omega))).trans (hS3.low (by omega) (by have:=hX2.lt;omega))).setCell (by simp;omega) _
  clear hM3 hR3 hX3 y0 y1 g1 hX2 hR2 bm keepf st hS3 hS1 hR1 hX1 htt
  generalize w3.setCell ⟨w1.heap.size,1,none⟩ (.string doc)=W4 at hM4 hR4 hX4 hB4 ⊢
  generalize w1.heap.size=mb at hM4 hz1 ⊢
  have y0:W4.cell? ⟨mb,0,none⟩=some (.int .u8 (K:Int)):=hM4.at_ 0 _ rfl
  have y2:=hM4.at_ 2 _ rfl
  have g2:=hM4.fr 2
  obtain ⟨nb,hnb⟩:∃nb,numberedB (K:Int)=nb:=⟨_,rfl⟩
  have HNB:Hid (∀W,Calls Tryz.prog 11 #[.int .u8 (K:Int)] W fun e w'=>e= .returned (.bool nb)∧w'=W):=fun W=>by rw [←hnb];exact numbered_any K W
  have HNB2:=Lib.hid hnb
  have HN4:=Lib.hid (num4_any W4 (w.heap.size+1) s3 hR4)
  have l4:=numP_lt4 s3
  have l5:=numP_len 4 s3
  obtain ⟨n4,hn4⟩:∃n4,numP 4 s3=n4:=⟨_,rfl⟩
  rw [hn4] at HN4 l4 l5
  have HN42:=Lib.hid hn4
  obtain ⟨N,s4⟩:=n4
  dsimp only at HN4 l4 l5
  have hw:wrap64 ((N:Int) - 1)=(N:Int) - 1:=by unfold wrap64;omega
  have hw2:IntKind.i64.wrap ((N:Int) - 1)=(N:Int) - 1:=by rw [IntKind.wrap_i64];omega
  clear hnb hn4
  have hmlt:=hM4.lt
  cases nb with
  | true =>
    go_wp2_with (first|(go_at_call 11;(with_reducible refine (HNB.out _).mono ?_);rintro e w0 ⟨rfl,hw0⟩;obtain rfl:=hw0.symm)|(go_at_call 9;(with_reducible refine HN4.out.mono ?_);rintro e w5 ⟨rfl,hR5,hS5⟩;have hM5:=hM4.next hS5 (by omega);have hX5:=hX4.next hS5 (by omega);have y2:=hM5.at_ 2 _ rfl;have g2:=hM5.fr 2))
    have hM6:BC (w5.setCell ⟨mb,2,none⟩ (.int .i64 ((N:Int) - 1))) mb (mcells (mk0 K doc ((N:Int) - 1))):=hM5.set (i:=2) (x:= .int .i64 ((N:Int) - 1)) (by simp [mcells])
    have hR6:RdM (w5.setCell ⟨mb,2,none⟩ (.int .i64 ((N:Int) - 1))) (w.heap.size+1) s4.1 s4.2:=hR5.far (by omega) [.int .i64 ((N:Int) - 1)] 2
    have hX6:BC (w5.setCell ⟨mb,2,none⟩ (.int .i64 ((N:Int) - 1))) w.heap.size (mcells mzero):=hX5.far (by omega)
    have hB6:Below w.heap.size w (w5.setCell ⟨mb,2,none⟩ (.int .i64 ((N:Int) - 1))):=(hB4.trans (hS5.low (by omega) (by omega))).setCell (by simp;omega) _
    have HHD:Hid (headP bs=((K:Int),doc,(N:Int) - 1,s4)):=by
      show _=_
      simp only [headP,HNS.out,HTX.out,HNB2.out,HN42.out,if_true]
    clear hM5 hR5 hX5 hS5 y0 y2 g2 hM4 hR4 hX4 hB4
    generalize w5.setCell ⟨mb,2,none⟩ (.int .i64 ((N:Int) - 1))=W6 at hM6 hR6 hX6 hB6 ⊢
    have hkb:KB K doc ((N:Int) - 1):=⟨by omega,by omega,by omega,by omega,by omega⟩
    have HRD:Hid (rdMsg bs=tailRd K doc ((N:Int) - 1) s4):=by show _=_;rw [rdMsg,HHD.out]
    have HFT:=Lib.hid (tailRd_fits K doc ((N:Int) - 1) s4 (by omega))
    have HTL:=Lib.hid (tailR_any W6 (w.heap.size+1) mb (w.heap.size+1) (Nat.le_refl _) (by omega) (fun W hW=>HT.out.below (hB6.trans (hW.mono (by omega)))) K doc ((N:Int) - 1) hkb s4 (by omega) hR6 hM6)
    obtain ⟨R,hR⟩:∃R,tailRd K doc ((N:Int) - 1) s4=R:=⟨_,rfl⟩
    rw [hR] at HRD HFT HTL
    obtain ⟨m,er,sh⟩:=R
    replace HTL:Hid (Calls Tryz.prog 12 #[.pointer (some ⟨w.heap.size+1,0,none⟩), .pointer (some ⟨mb,0,none⟩)] W6 fun e w'=>e= .returned (.int .u16 er)∧(∃c',IsMsg (only (fun b=>mb<b) w') w'.heap.size m c'∧BC w' mb (mcells c'))∧(∃bs',RdM w' (w.heap.size+1) bs' sh)∧Below (w.heap.size+1) W6 w'):=HTL
    clear hR hkb
    have fin:∀ {W7 W8:World},Below (w.heap.size+1) W6 W7→RStep W7 W8 w.heap.size→Below w.heap.size w W8:=fun h7 h8=>(hB6.trans (h7.mono (by omega))).trans (h8.low (Nat.le_refl _) (Nat.le_trans hB6.size h7.size))
    by_cases he:er=0
    · subst he
      cases sh with
      | true=>
        have hD:Hid (decM bs=(Ms.none,190)):=by
          show _=_
          rw [decM,if_neg (by omega),HRD.out,if_neg (by simp)]
        go_wp2_with (first|(refine wp_storeM rfl _ _ rfl ?_;refine ⟨w.heap.size,mcells mzero,mcells mzero,rfl,rfl,hX7,rfl,rfl,rfl, ?_⟩;intro W8 bm keepf st;have HBM:=Lib.hid bm;have HST:=Lib.hid st;clear bm keepf st)|(go_at_call 12;(with_reducible refine HTL.out.mono ?_);rintro e w7 ⟨rfl,⟨c7,hI7,hM7⟩,⟨bs7,hR7⟩,hb7⟩;have hX7:=hX6.keep hb7 (by omega);have y7:=hR7.short))
        rw [←HQ.out]
        exact ⟨rfl,_,results_msg rfl rfl HBM.out,⟨mzero,by rw [hD.out];rfl,by rw [hD.out];exact isMsg_none _ _⟩,fin hb7 HST.out⟩
      | false =>
        obtain ⟨⟨f2,b2⟩,hE⟩:∃p,encMsg m=p:=⟨_,rfl⟩
        have HE:=Lib.hid hE
        clear hE
        go_wp2_with (first|(refine wp_loadM rfl _ rfl ?_;first|(refine ⟨mb,mcells c7,rfl,rfl,hM7, ?_⟩))|(go_at_call 12;(with_reducible refine HTL.out.mono ?_);rintro e w7 ⟨rfl,⟨c7,hI7,hM7⟩,⟨bs7,hR7⟩,hb7⟩;have hX7:=hX6.keep hb7 (by omega);have y7:=hR7.short;have HI7:=Lib.hid hI7;have hB7:Below w.heap.size w w7:=hB6.trans (hb7.mono (by omega));have hT7:=Lib.hid (HT.out.below hB7);clear hI7))
        go_at_call 8
        have hq:=encMsg_any m w7 hT7.out c7 (HI7.out.sub (shows_only _ _ _)) HFT.out
        rw [HE.out] at hq
        dsimp only at hq
        (with_reducible refine hq.mono ?_)
        rintro e w8 ⟨⟨a8,n8,c8,rfl,hI8⟩,hb8⟩
        have hM8:=hM7.keep hb8 hM7.lt
        have hX8:=hX7.keep hb8 (by have:=hM7.lt;omega)
        have hB8:Below (w.heap.size+1) W6 w8:=hb7.trans (hb8.mono (by have:=hM7.lt;omega))
        have hBw8:Below w.heap.size w w8:=hB6.trans (hB8.mono (by omega))
        by_cases hf:f2=0
        · subst hf
          have heq:=equal_any w8 w8.heap.size w8.heap.size a8 a n8 n c8 c b2 bs hI8 ((HI.out.keep hBw8).more hBw8.size)
          obtain ⟨q,hq2⟩:∃q,eqBs b2 bs=q:=⟨_,rfl⟩
          rw [hq2] at heq
          have HEQ:=Lib.hid heq
          have HQ2:=Lib.hid hq2
          clear heq hq2
          cases q with
          | false=>
            have hD:Hid (decM bs=(Ms.none,190)):=by
              show _=_
              rw [decM,if_neg (by omega),HRD.out,if_neg]
              dsimp only
              rw [HE.out,HQ2.out]
              simp
            go_wp2_with (first|(refine wp_storeM rfl _ _ rfl ?_;refine ⟨w.heap.size,mcells mzero,mcells mzero,rfl,rfl,hX8,rfl,rfl,rfl, ?_⟩;intro W8 bm keepf st;have HBM:=Lib.hid bm;have HST:=Lib.hid st;clear bm keepf st)|(go_at_call 13;(with_reducible refine HEQ.out.mono ?_);rintro e wq ⟨rfl,hwq⟩;obtain rfl:=hwq.symm))
            rw [←HQ.out]
            exact ⟨rfl,_,results_msg rfl rfl HBM.out,⟨mzero,by rw [hD.out];rfl,by rw [hD.out];exact isMsg_none _ _⟩,fin hB8 HST.out⟩
          | true=>
            have hD:Hid (decM bs=(m,0)):=by
              show _=_
              rw [decM,if_neg (by omega),HRD.out,if_pos]
              dsimp only
              rw [HE.out,HQ2.out]
              simp
            go_wp2_with (first|(refine wp_storeM rfl _ _ rfl ?_;refine ⟨w.heap.size,mcells mzero,mcells c7,rfl,rfl,hX8,rfl,rfl,rfl, ?_⟩;intro W8 bm keepf st;have HBM:=Lib.hid bm;have HST:=Lib.hid st;clear bm keepf st)|(refine wp_loadM rfl _ rfl ?_;refine ⟨mb,mcells c7,rfl,rfl,hM8, ?_⟩)|(go_at_call 13;(with_reducible refine HEQ.out.mono ?_);rintro e wq ⟨rfl,hwq⟩;obtain rfl:=hwq.symm))
            rw [←HQ.out]
            have hz8:=hb8.size
            have hz9:=HST.out.size
            exact ⟨rfl,_,results_msg rfl rfl HBM.out,⟨c7,by rw [hD.out];rfl,by rw [hD.out];exact ((HI7.out.sub (shows_step (S':=fun b=>mb<b) (fun k hk hl=>⟨hk,(HST.out.block k (by omega) (by omega)).trans (hb8.block k hl)⟩))).sub (shows_only _ _ _)).more (by omega)⟩,fin hB8 HST.out⟩
        · have fe:(f2 !=0)=true:=by simp [hf]
          have hD:Hid (decM bs=(Ms.none,190)):=by
            show _=_
            rw [decM,if_neg (by omega),HRD.out,if_neg]
            dsimp only
            rw [HE.out]
            simp [hf]
          clear hf
          go_wp2_with (refine wp_storeM rfl _ _ rfl ?_;refine ⟨w.heap.size,mcells mzero,mcells mzero,rfl,rfl,hX8,rfl,rfl,rfl, ?_⟩;intro W8 bm keepf st;have HBM:=Lib.hid bm;have HST:=Lib.hid st;clear bm keepf st)
          rw [←HQ.out]
          exact ⟨rfl,_,results_msg rfl rfl HBM.out,⟨mzero,by rw [hD.out];rfl,by rw [hD.out];exact isMsg_none _ _⟩,fin hB8 HST.out⟩
    · have fe:(er !=0)=true:=by simp [he]
      have hD:Hid (decM bs=(Ms.none,190)):=by
        show _=_
        rw [decM,if_neg (by omega),HRD.out,if_neg (by simp [he])]
      clear he
      go_wp2_with (first|(refine wp_storeM rfl _ _ rfl ?_;refine ⟨w.heap.size,mcells mzero,mcells mzero,rfl,rfl,hX7,rfl,rfl,rfl, ?_⟩;intro W8 bm keepf st;have HBM:=Lib.hid bm;have HST:=Lib.hid st;clear bm keepf st)|(go_at_call 12;(with_reducible refine HTL.out.mono ?_);rintro e w7 ⟨rfl,⟨c7,hI7,hM7⟩,⟨bs7,hR7⟩,hb7⟩;have hX7:=hX6.keep hb7 (by omega);have y7:=hR7.short))
      rw [←HQ.out]
      exact ⟨rfl,_,results_msg rfl rfl HBM.out,⟨mzero,by rw [hD.out];rfl,by rw [hD.out];exact isMsg_none _ _⟩,fin hb7 HST.out⟩
  | false =>
    go_wp2_with (go_at_call 11;(with_reducible refine (HNB.out _).mono ?_);rintro e w0 ⟨rfl,hw0⟩;obtain rfl:=hw0.symm)
    have hM6:=hM4;have hR6:=hR4;have hX6:=hX4;have hB6:=hB4
    have HHD:Hid (headP bs=((K:Int),doc,0,s3)):=by
      show _=_
      simp only [headP,HNS.out,HTX.out,HNB2.out]
      rfl
    clear hM4 hR4 hX4 hB4 y0 y2 g2
    generalize W4=W6 at hM6 hR6 hX6 hB6 hmlt ⊢
    have hkb:KB K doc 0:=⟨by omega,by omega,by omega,by omega,by omega⟩
    have HRD:Hid (rdMsg bs=tailRd K doc 0 s3):=by show _=_;rw [rdMsg,HHD.out]
    have HFT:=Lib.hid (tailRd_fits K doc 0 s3 (by omega))
    have HTL:=Lib.hid (tailR_any W6 (w.heap.size+1) mb (w.heap.size+1) (Nat.le_refl _) (by omega) (fun W hW=>HT.out.below (hB6.trans (hW.mono (by omega)))) K doc 0 hkb s3 (by omega) hR6 hM6)
    obtain ⟨R,hR⟩:∃R,tailRd K doc 0 s3=R:=⟨_,rfl⟩
    rw [hR] at HRD HFT HTL
    obtain ⟨m,er,sh⟩:=R
    replace HTL:Hid (Calls Tryz.prog 12 #[.pointer (some ⟨w.heap.size+1,0,none⟩), .pointer (some ⟨mb,0,none⟩)] W6 fun e w'=>e= .returned (.int .u16 er)∧(∃c',IsMsg (only (fun b=>mb<b) w') w'.heap.size m c'∧BC w' mb (mcells c'))∧(∃bs',RdM w' (w.heap.size+1) bs' sh)∧Below (w.heap.size+1) W6 w'):=HTL
    clear hR hkb
    have fin:∀ {W7 W8:World},Below (w.heap.size+1) W6 W7→RStep W7 W8 w.heap.size→Below w.heap.size w W8:=fun h7 h8=>(hB6.trans (h7.mono (by omega))).trans (h8.low (Nat.le_refl _) (Nat.le_trans hB6.size h7.size))
    by_cases he:er=0
    · subst he
      cases sh with
      | true=>
        have hD:Hid (decM bs=(Ms.none,190)):=by
          show _=_
          rw [decM,if_neg (by omega),HRD.out,if_neg (by simp)]
        go_wp2_with (first|(refine wp_storeM rfl _ _ rfl ?_;refine ⟨w.heap.size,mcells mzero,mcells mzero,rfl,rfl,hX7,rfl,rfl,rfl, ?_⟩;intro W8 bm keepf st;have HBM:=Lib.hid bm;have HST:=Lib.hid st;clear bm keepf st)|(go_at_call 12;(with_reducible refine HTL.out.mono ?_);rintro e w7 ⟨rfl,⟨c7,hI7,hM7⟩,⟨bs7,hR7⟩,hb7⟩;have hX7:=hX6.keep hb7 (by omega);have y7:=hR7.short))
        rw [←HQ.out]
        exact ⟨rfl,_,results_msg rfl rfl HBM.out,⟨mzero,by rw [hD.out];rfl,by rw [hD.out];exact isMsg_none _ _⟩,fin hb7 HST.out⟩
      | false =>
        obtain ⟨⟨f2,b2⟩,hE⟩:∃p,encMsg m=p:=⟨_,rfl⟩
        have HE:=Lib.hid hE
        clear hE
        go_wp2_with (first|(refine wp_loadM rfl _ rfl ?_;first|(refine ⟨mb,mcells c7,rfl,rfl,hM7, ?_⟩))|(go_at_call 12;(with_reducible refine HTL.out.mono ?_);rintro e w7 ⟨rfl,⟨c7,hI7,hM7⟩,⟨bs7,hR7⟩,hb7⟩;have hX7:=hX6.keep hb7 (by omega);have y7:=hR7.short;have HI7:=Lib.hid hI7;have hB7:Below w.heap.size w w7:=hB6.trans (hb7.mono (by omega));have hT7:=Lib.hid (HT.out.below hB7);clear hI7))
        go_at_call 8
        have hq:=encMsg_any m w7 hT7.out c7 (HI7.out.sub (shows_only _ _ _)) HFT.out
        rw [HE.out] at hq
        dsimp only at hq
        (with_reducible refine hq.mono ?_)
        rintro e w8 ⟨⟨a8,n8,c8,rfl,hI8⟩,hb8⟩
        have hM8:=hM7.keep hb8 hM7.lt
        have hX8:=hX7.keep hb8 (by have:=hM7.lt;omega)
        have hB8:Below (w.heap.size+1) W6 w8:=hb7.trans (hb8.mono (by have:=hM7.lt;omega))
        have hBw8:Below w.heap.size w w8:=hB6.trans (hB8.mono (by omega))
        by_cases hf:f2=0
        · subst hf
          have heq:=equal_any w8 w8.heap.size w8.heap.size a8 a n8 n c8 c b2 bs hI8 ((HI.out.keep hBw8).more hBw8.size)
          obtain ⟨q,hq2⟩:∃q,eqBs b2 bs=q:=⟨_,rfl⟩
          rw [hq2] at heq
          have HEQ:=Lib.hid heq
          have HQ2:=Lib.hid hq2
          clear heq hq2
          cases q with
          | false=>
            have hD:Hid (decM bs=(Ms.none,190)):=by
              show _=_
              rw [decM,if_neg (by omega),HRD.out,if_neg]
              dsimp only
              rw [HE.out,HQ2.out]
              simp
            go_wp2_with (first|(refine wp_storeM rfl _ _ rfl ?_;refine ⟨w.heap.size,mcells mzero,mcells mzero,rfl,rfl,hX8,rfl,rfl,rfl, ?_⟩;intro W8 bm keepf st;have HBM:=Lib.hid bm;have HST:=Lib.hid st;clear bm keepf st)|(go_at_call 13;(with_reducible refine HEQ.out.mono ?_);rintro e wq ⟨rfl,hwq⟩;obtain rfl:=hwq.symm))
            rw [←HQ.out]
            exact ⟨rfl,_,results_msg rfl rfl HBM.out,⟨mzero,by rw [hD.out];rfl,by rw [hD.out];exact isMsg_none _ _⟩,fin hB8 HST.out⟩
          | true=>
            have hD:Hid (decM bs=(m,0)):=by
              show _=_
              rw [decM,if_neg (by omega),HRD.out,if_pos]
              dsimp only
              rw [HE.out,HQ2.out]
              simp
            go_wp2_with (first|(refine wp_storeM rfl _ _ rfl ?_;refine ⟨w.heap.size,mcells mzero,mcells c7,rfl,rfl,hX8,rfl,rfl,rfl, ?_⟩;intro W8 bm keepf st;have HBM:=Lib.hid bm;have HST:=Lib.hid st;clear bm keepf st)|(refine wp_loadM rfl _ rfl ?_;refine ⟨mb,mcells c7,rfl,rfl,hM8, ?_⟩)|(go_at_call 13;(with_reducible refine HEQ.out.mono ?_);rintro e wq ⟨rfl,hwq⟩;obtain rfl:=hwq.symm))
            rw [←HQ.out]
            have hz8:=hb8.size
            have hz9:=HST.out.size
            exact ⟨rfl,_,results_msg rfl rfl HBM.out,⟨c7,by rw [hD.out];rfl,by rw [hD.out];exact ((HI7.out.sub (shows_step (S':=fun b=>mb<b) (fun k hk hl=>⟨hk,(HST.out.block k (by omega) (by omega)).trans (hb8.block k hl)⟩))).sub (shows_only _ _ _)).more (by omega)⟩,fin hB8 HST.out⟩
        · have fe:(f2 !=0)=true:=by simp [hf]
          have hD:Hid (decM bs=(Ms.none,190)):=by
            show _=_
            rw [decM,if_neg (by omega),HRD.out,if_neg]
            dsimp only
            rw [HE.out]
            simp [hf]
          clear hf
          go_wp2_with (refine wp_storeM rfl _ _ rfl ?_;refine ⟨w.heap.size,mcells mzero,mcells mzero,rfl,rfl,hX8,rfl,rfl,rfl, ?_⟩;intro W8 bm keepf st;have HBM:=Lib.hid bm;have HST:=Lib.hid st;clear bm keepf st)
          rw [←HQ.out]
          exact ⟨rfl,_,results_msg rfl rfl HBM.out,⟨mzero,by rw [hD.out];rfl,by rw [hD.out];exact isMsg_none _ _⟩,fin hB8 HST.out⟩
    · have fe:(er !=0)=true:=by simp [he]
      have hD:Hid (decM bs=(Ms.none,190)):=by
        show _=_
        rw [decM,if_neg (by omega),HRD.out,if_neg (by simp [he])]
      clear he
      go_wp2_with (first|(refine wp_storeM rfl _ _ rfl ?_;refine ⟨w.heap.size,mcells mzero,mcells mzero,rfl,rfl,hX7,rfl,rfl,rfl, ?_⟩;intro W8 bm keepf st;have HBM:=Lib.hid bm;have HST:=Lib.hid st;clear bm keepf st)|(go_at_call 12;(with_reducible refine HTL.out.mono ?_);rintro e w7 ⟨rfl,⟨c7,hI7,hM7⟩,⟨bs7,hR7⟩,hb7⟩;have hX7:=hX6.keep hb7 (by omega);have y7:=hR7.short))
      rw [←HQ.out]
      exact ⟨rfl,_,results_msg rfl rfl HBM.out,⟨mzero,by rw [hD.out];rfl,by rw [hD.out];exact isMsg_none _ _⟩,fin hb7 HST.out⟩
theorem decM_any (w:World) (hT:Tabs w) (a:Option Addr) (n c:Nat) (bs:List UInt8) (h:IsB w w.heap.size a n c bs):
    Calls Tryz.prog 5 #[.slice a n c] w fun e w'=>(∃cm,e= .returned (.tuple #[.agg (mcells cm).toArray, .int .u16 (decM bs).2])∧IsMsg w' w'.heap.size (decM bs).1 cm)∧Below w.heap.size w w':=by
  by_cases hl:bs.length≤60000
  · exact dec_1 w hT a n c bs h hl
  · have hd:decM bs=(Ms.none,3):=by rw [decM,if_pos (by omega)]
    refine (dec_long w a n c (by have:=h.len;omega)).mono fun e w' ⟨h1,h2⟩=>⟨⟨mzero,by rw [hd];exact h1,by rw [hd];exact isMsg_none _ _⟩,h2⟩
end Go.Proofs.YthceefjafklcmaaGreatDoor
namespace Go.Proofs.YthceefjafklcmaaGreatDoor
open Go.RowKit
theorem encMsg_ok {m:Ms} (h:(encMsg m).1=0):msgSound m=true:=by
  cases hs:msgSound m with
  |true=>rfl
  |false=>rw [encMsg,hs] at h;simp [encOut] at h
theorem decM_no {bs:List UInt8} (hl:bs.length≤60000) (he:(decM bs).2≠0):decM bs=(Ms.none,190):=by
  rw [decM,if_neg (by omega)] at he ⊢
  split
  · rename_i hc;rw [if_pos hc] at he;exact absurd rfl he
  · rfl
end Go.Proofs.YthceefjafklcmaaGreatDoor
namespace Go.Proofs.YthceefjafklcmaaGreatDoor
open Go.RowKit
inductive V.Num:V→Prop
  |mk (k n:Int) (s:ByteArray) (l:List V) (o:List (ByteArray×V)) (h0: -9223372036854775808≤n) (h1:n≤9223372036854775807) (hl:∀i (h:i<l.length),V.Num l[i]) (ho:∀i (h:i<o.length),V.Num o[i].2):V.Num (.mk k n s l o)
theorem IsVal.num {w:World} {B:Nat} {v:V} {c:VC} (h:IsVal w B v c):v.Num:=by
  induction h with
  |mk c l o cl co lb lo ob oo hbd hl ho hla hoa hlc hlv hoc hov ihl iho=>exact .mk _ _ _ _ _ hbd.n0 hbd.n1 ihl iho
end Go.Proofs.YthceefjafklcmaaGreatDoor
namespace Go.Proofs.YthceefjafklcmaaGreatDoor
open Go.RowKit
theorem be_mod (n:Nat):∀r m,r≤m→be (n % 256 ^ m) r=be n r:=by
  intro r
  induction r with
  |zero=>intro m _;rfl
  | succ r ih=>
    intro m hm
    rw [be,be,ih m (by omega)]
    congr 1
    have h1:n % 256 ^ m / 256 ^ r % 256=n / 256 ^ r % 256:=by
      obtain ⟨k,rfl⟩:∃k,m=(r+1)+k:=⟨m - (r+1),by omega⟩
      have h2:n % 256 ^ (r+1+k) % 256 ^ (r+1)=n % 256 ^ (r+1):=by
        rw [Nat.pow_add,Nat.mod_mul_right_mod]
      have h3:∀x:Nat,x / 256 ^ r % 256=x % 256 ^ (r+1) / 256 ^ r:=fun x=>by
        rw [Nat.pow_succ,Nat.mod_mul_right_div_self]
      rw [h3,h3,h2]
    apply UInt8.toNat_inj.1
    rw [UInt8.toNat_ofNat',UInt8.toNat_ofNat']
    exact h1
theorem be_num:∀l:List UInt8,be (num l) l.length=l
  | [] =>rfl
  | x ::r=>by
    have h1:num (x::r)=x.toNat*256 ^ r.length+num r:=by
      have h2:∀(l:List UInt8) (a:Nat),l.foldl (fun n b=>n*256+b.toNat) a=a*256 ^ l.length+l.foldl (fun n b=>n*256+b.toNat) 0:=by
        intro l
        induction l with
        |nil=>intro a;simp
        | cons y l ih=>
          intro a
          rw [List.foldl_cons,List.foldl_cons,ih,ih (0*256+y.toNat),List.length_cons,Nat.pow_succ,Nat.add_mul]
          have:a*256*256 ^ l.length=a*(256 ^ l.length*256):=by rw [Nat.mul_assoc,Nat.mul_comm 256]
          rw [Nat.zero_mul,Nat.zero_add]
          omega
      show (x::r).foldl _ 0=_
      rw [List.foldl_cons,h2]
      simp [num]
    have hl:=num_lt r
    rw [List.length_cons,be,h1]
    have hp:0<256 ^ r.length:=Nat.pow_pos (by decide)
    have h3:(x.toNat*256 ^ r.length+num r) / 256 ^ r.length=x.toNat:=by
      rw [Nat.mul_comm,Nat.mul_add_div hp,Nat.div_eq_of_lt hl,Nat.add_zero]
    have h4:be (x.toNat*256 ^ r.length+num r) r.length=be (num r) r.length:=by
      rw [←be_mod _ r.length r.length (Nat.le_refl _), ←be_mod (num r) r.length r.length (Nat.le_refl _)]
      congr 1
      rw [Nat.mul_comm,Nat.mul_add_mod]
    rw [h3,h4,be_num r]
    simp
theorem cutP_eq {k:Nat} {s:List UInt8×Bool} (h:(cutP k s).2.2=false):s.1=(cutP k s).1++(cutP k s).2.1∧(cutP k s).1.length=k∧s.2=false:=by
  unfold cutP at h ⊢
  split
  · rename_i hc;rw [if_pos hc] at h;cases h
  · rename_i hc
    rw [if_neg hc] at h
    exact ⟨(List.take_append_drop k s.1).symm,by simp only [List.length_take];omega,h⟩
theorem numP_eq {k:Nat} {s:List UInt8×Bool} (h:(numP k s).2.2=false):s.1=be (numP k s).1 k++(numP k s).2.1∧s.2=false:=by
  obtain ⟨h1,h2,h3⟩:=cutP_eq h
  refine ⟨?_,h3⟩
  have h4:=be_num (cutP k s).1
  rw [h2] at h4
  show s.1=be (num (cutP k s).1) k++(cutP k s).2.1
  rw [h4];exact h1
theorem textP_eq {k:Nat} {s:List UInt8×Bool} (h:(textP k s).2.2=false):s.1=be (textP k s).1.size k++(textP k s).1.data.toList++(textP k s).2.1∧s.2=false:=by
  obtain ⟨h1,h2,h3⟩:=cutP_eq (k:=(numP k s).1) (s:=(numP k s).2) h
  obtain ⟨h4,h5⟩:=numP_eq h3
  refine ⟨?_,h5⟩
  have h6:(textP k s).1.size=(numP k s).1:=by rw [←h2];simp [textP,ByteArray.size]
  rw [h6,List.append_assoc]
  have h7:(textP k s).1.data.toList=(cutP (numP k s).1 (numP k s).2).1:=by simp [textP]
  rw [h7]
  show s.1=be (numP k s).1 k++((cutP (numP k s).1 (numP k s).2).1++(cutP (numP k s).1 (numP k s).2).2.1)
  rw [←h1];exact h4
theorem textsP_eq (n:Nat) {s:List UInt8×Bool} (h:(textsP n s).2.2=false):s.1=encFs (textsP n s).1++(textsP n s).2.1∧s.2=false:=by
  induction n with
  |zero=>exact ⟨rfl,h⟩
  | succ n ih=>
    obtain ⟨h1,h2⟩:=textP_eq (k:=4) (s:=(textsP n s).2) h
    obtain ⟨h3,h4⟩:=ih h2
    refine ⟨?_,h4⟩
    have h5:encFs ((textsP n s).1++ [(textP 4 (textsP n s).2).1])=encFs (textsP n s).1++(be (textP 4 (textsP n s).2).1.size 4++(textP 4 (textsP n s).2).1.data.toList):=by simp [encFs]
    show s.1=encFs ((textsP n s).1++ [(textP 4 (textsP n s).2).1])++(textP 4 (textsP n s).2).2.1
    rw [h5,List.append_assoc, ←h1];exact h3
noncomputable def okTail (k:Int) (bs:List UInt8):Bool:=
  if k=3∨k=5 then decide ((backE bs).2=0)
  else if k=4 then (match bs with
    | [] =>false
    |b::r=>if b=1 then decide ((backR r).2=0) else (b==0) && r.isEmpty)
  else if k=6 then !(numP 2 (numP 4 (numP 4 (bs,false)).2).2).2.2 && (numP 2 (numP 4 (numP 4 (bs,false)).2).2).2.1.isEmpty
  else if k=1 then !(textsP (numP 1 (bs,false)).1 (numP 1 (bs,false)).2).2.2 && (textsP (numP 1 (bs,false)).1 (numP 1 (bs,false)).2).2.1.isEmpty
  else bs.isEmpty
noncomputable def refDec (bs:List UInt8):Ms×Int:=
  if 60000<bs.length then (Ms.none,3)
  else if (headP bs).2.2.2.2=false∧okTail (headP bs).1 (headP bs).2.2.2.1=true∧msgSound (rdMsg bs).1=true then ((rdMsg bs).1,0) else (Ms.none,190)
theorem headP_eq {bs:List UInt8} (h:(headP bs).2.2.2.2=false):bs=([UInt8.ofNat (headP bs).1.toNat] ++be (headP bs).2.1.size 1++(headP bs).2.1.data.toList++nbB (numberedB (headP bs).1) ((headP bs).2.2.1+1).toNat)++(headP bs).2.2.2.1:=by
  have key:∀t:List UInt8×Bool,(textP 1 (numP 1 (bs,false)).2).2=t→t.2=false→bs=([UInt8.ofNat (numP 1 (bs,false)).1] ++be (textP 1 (numP 1 (bs,false)).2).1.size 1++(textP 1 (numP 1 (bs,false)).2).1.data.toList)++t.1:=by
    intro t ht h0
    obtain ⟨h1,h2⟩:=textP_eq (k:=1) (s:=(numP 1 (bs,false)).2) (by rw [ht];exact h0)
    obtain ⟨h3,_⟩:=numP_eq (k:=1) (s:=(bs,false)) h2
    rw [ht] at h1
    have h4:be (numP 1 (bs,false)).1 1= [UInt8.ofNat (numP 1 (bs,false)).1] :=by simp [be]
    rw [h4] at h3
    dsimp only at h3
    calc bs=_:=h3
      _=_:=by rw [h1];simp
  unfold headP at h ⊢
  dsimp only at h ⊢
  split
  · rename_i hn
    rw [if_pos hn] at h
    dsimp only at h ⊢
    obtain ⟨h1,h2⟩:=numP_eq (k:=4) (s:=(textP 1 (numP 1 (bs,false)).2).2) h
    have h3:=key _ rfl h2
    rw [hn]
    have h4:((((numP 4 (textP 1 (numP 1 (bs,false)).2).2).1:Nat):Int) - 1+1).toNat=(numP 4 (textP 1 (numP 1 (bs,false)).2).2).1:=by omega
    rw [h4]
    show bs=([UInt8.ofNat (numP 1 (bs,false)).1] ++be (textP 1 (numP 1 (bs,false)).2).1.size 1++(textP 1 (numP 1 (bs,false)).2).1.data.toList++be _ 4)++_
    rw [List.append_assoc, ←h1];exact h3
  · rename_i hn
    rw [if_neg hn] at h
    dsimp only at h ⊢
    have h3:=key _ rfl h
    have hn':numberedB ((numP 1 (bs,false)).1:Int)=false:=by simpa using hn
    rw [hn']
    show bs=([UInt8.ofNat (numP 1 (bs,false)).1] ++be (textP 1 (numP 1 (bs,false)).2).1.size 1++(textP 1 (numP 1 (bs,false)).2).1.data.toList++ [])++_
    rw [List.append_nil];exact h3
theorem tailRd_head (k:Int) (doc:ByteArray) (n:Int) (s:List UInt8×Bool):(tailRd k doc n s).1.k=k∧(tailRd k doc n s).1.doc=doc∧(tailRd k doc n s).1.n=n:=by
  unfold tailRd
  repeat' split
  all_goals exact ⟨rfl,rfl,rfl⟩
theorem cutP_short (k:Nat) (bs:List UInt8):(cutP k (bs,true)).2.2=true:=by unfold cutP;split<;>rfl
theorem numP_short (k:Nat) (s:List UInt8×Bool) (h:s.2=true):(numP k s).2.2=true:=by
  obtain ⟨bs,sh⟩:=s;dsimp only at h;subst h;exact cutP_short k bs
theorem textP_short (k:Nat) (s:List UInt8×Bool) (h:s.2=true):(textP k s).2.2=true:=by
  have h1:=numP_short k s h
  show (cutP (numP k s).1 (numP k s).2).2.2=true
  generalize numP k s=q at h1 ⊢
  obtain ⟨a,b,c⟩:=q
  dsimp only at h1 ⊢
  subst h1;exact cutP_short a b
theorem textsP_short (n:Nat) (s:List UInt8×Bool) (h:s.2=true):(textsP n s).2.2=true:=by
  induction n with
  |zero=>exact h
  |succ n ih=>exact textP_short 4 _ ih
theorem tailRd_short (k:Int) (doc:ByteArray) (n:Int) (s:List UInt8×Bool) (h:s.2=true):(tailRd k doc n s).2.2=true:=by
  unfold tailRd
  repeat' split
  · exact h
  · exact numP_short 1 s h
  · exact numP_short 1 s h
  · exact numP_short 2 _ (numP_short 4 _ (numP_short 4 s h))
  · exact textsP_short _ _ (numP_short 1 s h)
  · exact h
theorem outs_ok {sd:Bool} {l:List UInt8} (h1:sd=true) (h2:l.length≤60000):outN sd l=0∧outB sd l=l:=by
  subst h1
  exact ⟨by rw [outN,if_pos rfl,if_neg (by omega)],by rw [outB,if_pos rfl,if_neg (by omega)]⟩
theorem empty_iff {α:Type} {a b c:List α} (h:a=b++c):(b=a↔c= []):=by
  subst h
  constructor
  · intro h
    have:=congrArg List.length h
    simp at this
    exact this
  · rintro rfl;simp
theorem tail_law (k:Int) (doc:ByteArray) (n:Int) (t:List UInt8) (hk:1≤k∧k≤6) {m:Ms} {er:Int} {sh:Bool} (hr:tailRd k doc n (t,false)=(m,er,sh)):okTail k t=true↔(er=0∧sh=false∧(tailM m).1=0∧(tailM m).2=t):=by
  unfold tailRd at hr
  unfold okTail
  dsimp only at hr
  by_cases h35:k=3∨k=5
  · rw [if_pos h35] at hr ⊢
    injection hr with h1 h2
    injection h2 with h2 h3
    subst h1 h2 h3
    rw [decide_eq_true_iff]
    constructor
    · intro h
      obtain ⟨q1,q2,q3,_⟩:=backE_ok (Prod.ext rfl h:backE t=((backE t).1,0))
      obtain ⟨o1,o2⟩:=outs_ok (l:=t) q1 q3
      refine ⟨h,rfl, ?_⟩
      rcases h35 with rfl|rfl
      · simp only [tailM];simp [o1,o2,q2]
      · simp only [tailM];simp [o1,o2,q2]
    · exact fun h=>h.1
  rw [if_neg h35] at hr ⊢
  by_cases h4:k=4
  · subst h4
    rw [if_pos rfl] at hr ⊢
    cases t with
    | nil=>
      have e:numP 1 ([],false)=(0,([],true)):=rfl
      rw [e] at hr
      simp at hr
      obtain ⟨_,_,rfl⟩:=hr
      simp
    | cons b r=>
      have e:numP 1 (b::r,false)=(b.toNat,(r,false)):=by
        simp [numP,cutP,num]
      rw [e] at hr
      dsimp only at hr ⊢
      by_cases hb:b=1
      · subst hb
        rw [if_pos (show UInt8.toNat 1=1 from rfl)] at hr
        rw [if_pos rfl]
        injection hr with h1 h2
        injection h2 with h2 h3
        subst h1 h2 h3
        rw [decide_eq_true_iff]
        constructor
        · intro h
          obtain ⟨q1,q2,q3,_⟩:=backR_ok (Prod.ext rfl h:backR r=((backR r).1,0))
          obtain ⟨o1,o2⟩:=outs_ok (l:=r) q1 q3
          exact ⟨h,rfl,by simp [tailM,o1,o2,q2]⟩
        · exact fun h=>h.1
      · have hb2:¬b.toNat=1:=fun h=>hb (UInt8.toNat_inj.1 h)
        rw [if_neg hb2] at hr
        rw [if_neg hb]
        injection hr with h1 h2
        injection h2 with h2 h3
        subst h1 h2 h3
        simp [tailM]
        exact fun _=>eq_comm
  rw [if_neg h4] at hr ⊢
  by_cases h6:k=6
  · subst h6
    rw [if_pos rfl] at hr ⊢
    injection hr with h1 h2
    injection h2 with h2 h3
    subst h1 h2 h3
    by_cases hs:(numP 2 (numP 4 (numP 4 (t,false)).2).2).2.2=false
    · obtain ⟨a1,a2⟩:=numP_eq hs
      obtain ⟨a3,a4⟩:=numP_eq a2
      obtain ⟨a5,_⟩:=numP_eq a4
      rw [a3,a1] at a5
      dsimp only at a5
      have he:=empty_iff (a:=t) (b:=be (numP 4 (t,false)).1 4++be (numP 4 (numP 4 (t,false)).2).1 4++be (numP 2 (numP 4 (numP 4 (t,false)).2).2).1 2) (c:=(numP 2 (numP 4 (numP 4 (t,false)).2).2).2.1) (by simpa using a5)
      rw [hs]
      simp only [tailM,Int.toNat_natCast,Bool.not_false,Bool.true_and,List.isEmpty_iff]
      simp only [show ¬(6:Int)=1 by decide,show ¬(6:Int)=3 by decide,show ¬(6:Int)=5 by decide,show ¬(6:Int)=4 by decide,if_false,if_true]
      first|exact ⟨fun h=>⟨rfl,rfl,rfl,he.2 h⟩,fun h=>he.1 h.2.2.2⟩|(simp only [true_and];exact ⟨he.2,he.1⟩)
    · have hs':(numP 2 (numP 4 (numP 4 (t,false)).2).2).2.2=true:=by simpa using hs
      rw [hs']
      simp
  rw [if_neg h6] at hr ⊢
  by_cases h1:k=1
  · subst h1
    rw [if_pos rfl] at hr ⊢
    injection hr with h1 h2
    injection h2 with h2 h3
    subst h1 h2 h3
    by_cases hs:(textsP (numP 1 (t,false)).1 (numP 1 (t,false)).2).2.2=false
    · obtain ⟨a1,a2⟩:=textsP_eq _ hs
      obtain ⟨a3,_⟩:=numP_eq a2
      rw [a1] at a3
      dsimp only at a3
      have he:=empty_iff (a:=t) (b:=be (numP 1 (t,false)).1 1++encFs (textsP (numP 1 (t,false)).1 (numP 1 (t,false)).2).1) (c:=(textsP (numP 1 (t,false)).1 (numP 1 (t,false)).2).2.1) (by simpa using a3)
      rw [hs]
      simp only [tailM,textsP_len,Bool.not_false,Bool.true_and,List.isEmpty_iff,if_true]
      first|exact ⟨fun h=>⟨rfl,rfl,rfl,he.2 h⟩,fun h=>he.1 h.2.2.2⟩|(simp only [true_and];exact ⟨he.2,he.1⟩)
    · have hs':(textsP (numP 1 (t,false)).1 (numP 1 (t,false)).2).2.2=true:=by simpa using hs
      rw [hs']
      simp
  rw [if_neg h1] at hr ⊢
  injection hr with h2 h3
  injection h3 with h3 h4'
  subst h2 h3 h4'
  have e2:k=2:=by omega
  subst e2
  simp [tailM]
theorem refDec_eq (bs:List UInt8):refDec bs=decM bs:=by
  unfold refDec decM
  by_cases hl:60000<bs.length
  · rw [if_pos hl,if_pos hl]
  rw [if_neg hl,if_neg hl]
  have hcond:((headP bs).2.2.2.2=false∧okTail (headP bs).1 (headP bs).2.2.2.1=true∧msgSound (rdMsg bs).1=true)↔((rdMsg bs).2.1=0∧(rdMsg bs).2.2=false∧(encMsg (rdMsg bs).1).1=0∧eqBs (encMsg (rdMsg bs).1).2 bs=true):=by
    obtain ⟨hk,hd,hn⟩:=tailRd_head (headP bs).1 (headP bs).2.1 (headP bs).2.2.1 (headP bs).2.2.2
    have hsh:=tailRd_short (headP bs).1 (headP bs).2.1 (headP bs).2.2.1 (headP bs).2.2.2
    have hq:eqBs (encMsg (rdMsg bs).1).2 bs=true↔(encMsg (rdMsg bs).1).2=bs:=by simp [eqBs]
    rw [hq]
    have main:(headP bs).2.2.2.2=false→msgSound (rdMsg bs).1=true→(okTail (headP bs).1 (headP bs).2.2.2.1=true↔((rdMsg bs).2.1=0∧(rdMsg bs).2.2=false∧(encMsg (rdMsg bs).1).1=0∧(encMsg (rdMsg bs).1).2=bs)):=by
      intro h0 hs
      have hb:=msgSound_bounds hs
      have heq:=headP_eq h0
      have e0:(headP bs).2.2.2=((headP bs).2.2.2.1,false):=Prod.ext rfl h0
      have hr:tailRd (headP bs).1 (headP bs).2.1 (headP bs).2.2.1 ((headP bs).2.2.2.1,false)=rdMsg bs:=by rw [rdMsg, ←e0]
      rw [e0] at hk hd hn
      rw [hr] at hk hd hn
      have hE:encMsg (rdMsg bs).1=encOut (UInt8.ofNat (headP bs).1.toNat) (headP bs).2.1 (numberedB (headP bs).1) ((headP bs).2.2.1+1).toNat true (tailM (rdMsg bs).1).1 (tailM (rdMsg bs).1).2:=by
        rw [encMsg,hk,hd,hn,hs]
      have ht:=tail_law (headP bs).1 (headP bs).2.1 (headP bs).2.2.1 (headP bs).2.2.2.1 (by rw [←hk];exact ⟨hb.1,hb.2.1⟩) (m:=(rdMsg bs).1) (er:=(rdMsg bs).2.1) (sh:=(rdMsg bs).2.2) hr
      rw [ht,hE]
      generalize tailM (rdMsg bs).1=tm
      obtain ⟨f,tb⟩:=tm
      generalize headP bs=hp at heq
      obtain ⟨k,doc,n,t,sh⟩:=hp
      dsimp only at heq ⊢
      simp only [encOut,if_true]
      generalize ([UInt8.ofNat k.toNat] ++be doc.size 1++doc.data.toList++nbB (numberedB k) (n+1).toNat)=hd at heq ⊢
      constructor
      · rintro ⟨g1,g2,rfl,rfl⟩
        refine ⟨g1,g2, ?_⟩
        rw [if_pos rfl, ←heq,if_neg hl]
        exact ⟨rfl,rfl⟩
      · rintro ⟨g1,g2,g3,g4⟩
        refine ⟨g1,g2, ?_⟩
        by_cases hf:f=0
        · rw [if_pos hf] at g3 g4
          split at g3
          · exact absurd g3 (by simp)
          · rename_i hc
            rw [if_neg hc] at g4
            exact ⟨hf,List.append_cancel_left (by rw [←heq];exact g4)⟩
        · rw [if_neg hf] at g3;exact absurd g3 hf
    constructor
    · rintro ⟨a,b,c⟩;exact (main a c).1 b
    · intro h
      have hs:=encMsg_ok h.2.2.1
      have h0:(headP bs).2.2.2.2=false:=by
        cases hq:(headP bs).2.2.2.2 with
        |false=>rfl
        |true=>have:=hsh hq;rw [rdMsg] at h;rw [this] at h;exact absurd h.2.1 (by simp)
      exact ⟨h0,(main h0 hs).2 h,hs⟩
  by_cases hc:((headP bs).2.2.2.2=false∧okTail (headP bs).1 (headP bs).2.2.2.1=true∧msgSound (rdMsg bs).1=true)
  · rw [if_pos hc,if_pos (hcond.1 hc)]
  · rw [if_neg hc,if_neg (fun h=>hc (hcond.2 h))]
end Go.Proofs.YthceefjafklcmaaGreatDoor
namespace Go.Proofs.YthceefjafklcmaaGreatDoor
open Go.RowKit
theorem ret_pair {x:Value} {a b:Bool} (h:a=b):Ending.returned (.tuple #[x, .bool a])=Ending.returned (.tuple #[x, .bool b]):=by rw [h]
theorem isEmpty_len {α:Type} (l:List α) {n:Nat} (h:n=l.length):((n:Int)==0)=l.isEmpty:=by
  subst h
  cases l with
  |nil=>rfl
  |cons x r=>simp;omega
set_option maxHeartbeats 4000000 in
set_option maxRecDepth 100000 in
theorem get_any (w:World) (a:Option Addr) (n c:Nat) (bs:List UInt8) (B:Nat) (hBw:B≤w.heap.size) (h:IsB w B a n c bs) (k:Nat) (hk4:k≤4):
    Calls Tryz.prog 14 #[.slice a n c, .int .i64 k] w fun e w'=>(∃a' n' c',e= .returned (.tuple #[.int .u64 ((numP k (bs,false)).1:Int), .slice a' n' c', .bool (!(numP k (bs,false)).2.2)])∧IsB w' B a' n' c' (numP k (bs,false)).2.1)∧Below w.heap.size w w':=by
  have HI:=Lib.hid h
  have hn:=h.len
  have hc:=h.cap
  have hm:=h.max
  clear h
  by_cases hq:bs.length<k
  · have e:numP k (bs,false)=(0,([],true)):=by rw [numP,cutP,if_pos hq];rfl
    rw [e]
    have hnk:n<k:=by omega
    clear e hq hn
    go_enter Tryz.func14,Tryz.ntmps14
    go_wp2_with fail
    go_returns
    exact ⟨⟨none,0,0,rfl, .nil _ _⟩,Below.refl _ _⟩
  · have e:numP k (bs,false)=(num (bs.take k),(bs.drop k,false)):=by rw [numP,cutP,if_neg hq]
    rw [e]
    have hkn:k≤n:=by omega
    have HN:=Lib.hid hn
    clear e hq hn
    go_enter Tryz.func14,Tryz.ntmps14
    go_wp2_with fail
    go_loopw [7,8] (fun x i wr=>wr=w∧∃j:Nat,j≤k∧i= .int .i64 j∧x= .int .u64 (num (bs.take j):Int)) (fun _ i _=>k - (intOf i).toNat)
    case atStart=>exact ⟨rfl,0,Nat.zero_le _,rfl,rfl⟩
    case round=>
      obtain ⟨rfl,j,hj,rfl,rfl⟩:=hrel
      by_cases hjk:j<k
      · have hjn:j<n:=by omega
        obtain ⟨b,o,hp,rfl,hb,hcell⟩:=HI.out.get hjn
        have hlt2:num (bs.take j)<72057594037927936:=by
          have h1:=num_lt (bs.take j)
          have h2:(bs.take j).length≤7:=by rw [List.length_take];omega
          exact Nat.lt_of_lt_of_le h1 (Nat.le_trans (Nat.pow_le_pow_right (by omega) h2) (by decide))
        obtain ⟨m,hm⟩:∃m,num (bs.take j)=m:=⟨_,rfl⟩
        obtain ⟨y,hy⟩:∃y,(bs[j]'hp).toNat=y:=⟨_,rfl⟩
        have hy2:y<256:=by rw [←hy];exact (bs[j]'hp).toNat_lt
        have ht:=num_take bs j hp
        rw [hm,hy] at ht
        rw [hm] at hlt2 ⊢
        replace hcell:wr.cell? ⟨b,o+j,none⟩=some (.int .u8 (y:Int)):=by rw [←hy];exact hcell
        have HT:=Lib.hid ht
        have HO:=Lib.hid (or_byte m y hlt2 hy2)
        clear ht hm hy
        go_wp2_with fail
        go_roundw
        case rel=>exact ⟨trivial,j+1,by omega,by go_num,by rw [HT.out,HO.out]⟩
        case measure=>simp [intOf];omega
      · have hjk2:j=k:=by omega
        subst hjk2
        by_cases e:c=j
        · subst e
          have hz:n - c=0:=by omega
          go_wp2_with fail
          go_region
          go_wp2_with fail
          go_returns
          exact ⟨⟨_,_,_,rfl,(((HI.out.drop c hkn).none_left (a':=a) hz).keep (Below.refl B _).drew)⟩,(Below.refl _ _).drew⟩
        · have hck:j<c:=by omega
          go_wp2_with fail
          go_region
          go_wp2_with fail
          go_returns
          exact ⟨⟨_,_,_,rfl,((HI.out.drop j hkn).keep (Below.refl B _).drew)⟩,(Below.refl _ _).drew⟩
theorem get1 (w:World) (a:Option Addr) (n c:Nat) (bs:List UInt8) (B:Nat) (hBw:B≤w.heap.size) (h:IsB w B a n c bs):
    Calls Tryz.prog 14 #[.slice a n c, .int .i64 1] w fun e w'=>(∃a' n' c',e= .returned (.tuple #[.int .u64 ((numP 1 (bs,false)).1:Int), .slice a' n' c', .bool (!(numP 1 (bs,false)).2.2)])∧IsB w' B a' n' c' (numP 1 (bs,false)).2.1)∧Below w.heap.size w w':=get_any w a n c bs B hBw h 1 (by omega)
theorem get2 (w:World) (a:Option Addr) (n c:Nat) (bs:List UInt8) (B:Nat) (hBw:B≤w.heap.size) (h:IsB w B a n c bs):
    Calls Tryz.prog 14 #[.slice a n c, .int .i64 2] w fun e w'=>(∃a' n' c',e= .returned (.tuple #[.int .u64 ((numP 2 (bs,false)).1:Int), .slice a' n' c', .bool (!(numP 2 (bs,false)).2.2)])∧IsB w' B a' n' c' (numP 2 (bs,false)).2.1)∧Below w.heap.size w w':=get_any w a n c bs B hBw h 2 (by omega)
theorem get4 (w:World) (a:Option Addr) (n c:Nat) (bs:List UInt8) (B:Nat) (hBw:B≤w.heap.size) (h:IsB w B a n c bs):
    Calls Tryz.prog 14 #[.slice a n c, .int .i64 4] w fun e w'=>(∃a' n' c',e= .returned (.tuple #[.int .u64 ((numP 4 (bs,false)).1:Int), .slice a' n' c', .bool (!(numP 4 (bs,false)).2.2)])∧IsB w' B a' n' c' (numP 4 (bs,false)).2.1)∧Below w.heap.size w w':=get_any w a n c bs B hBw h 4 (by omega)
end Go.Proofs.YthceefjafklcmaaGreatDoor
namespace Go.Proofs.YthceefjafklcmaaGreatDoor
open Go.RowKit
structure BoxM (w W:World) (c d:MC):Prop where
  a:BC W w.heap.size (mcells c)
  b:BC W (w.heap.size+1) (mcells d)
  below:Below w.heap.size w W
theorem boxM_start (w:World) (c d:MC):BoxM w ((w.alloc (.cells (mcells c).toArray 36)).alloc (.cells (mcells d).toArray 36)) c d:=by
  have hb:=BC.start (w.alloc (.cells (mcells c).toArray 36)) (mcells d).toArray 36
  rw [show (w.alloc (.cells (mcells c).toArray 36)).heap.size=w.heap.size+1 by simp] at hb
  exact ⟨(BC.start w (mcells c).toArray 36).keep ((Below.refl _ _).alloc (Nat.le_refl _) _) (by simp),hb,((Below.refl _ _).alloc (Nat.le_refl _) _).alloc (by simp) _⟩
theorem BoxM.step {w W W':World} {c d:MC} (h:BoxM w W c d) (hb:Below W.heap.size W W'):BoxM w W' c d:=⟨h.a.keep hb h.a.lt,h.b.keep hb h.b.lt,h.below.on hb (Nat.le_of_lt h.a.lt)⟩
def sameMs (c d:MC) (ef ee ev:Bool):Bool:=sameB c d ef && (ee && ev)
set_option maxHeartbeats 8000000 in
set_option maxRecDepth 100000 in
theorem refMsSame_any (x y:Ms) (w:World) (c d:MC) (hx:IsMsg w w.heap.size x c) (hy:IsMsg w w.heap.size y d):
    Calls Tryz.prog 7 #[.agg (mcells c).toArray, .agg (mcells d).toArray] w fun e w'=>e= .returned (.bool (sameMs c d (eqB x.f y.f) (eqB x.e y.e) (eqv x.v y.v)))∧Below w.heap.size w w':=by
  cases hx with
  |mk c e v f hb he hv hf=>
  cases hy with
  |mk d e' v' f' hb' he' hv' hf'=>
  dsimp only
  have HE:Hid (∀W,Below w.heap.size w W→Calls Tryz.prog 17 #[.agg #[.int .u8 c.e.k, .int .u32 c.e.src, .int .u32 c.e.seq, .int .u8 c.e.v.k, .int .i64 c.e.v.n, .string c.e.v.s, .slice c.e.v.la c.e.v.ll c.e.v.lc, .slice c.e.v.oa c.e.v.ol c.e.v.oc, .slice c.e.oa c.e.ol c.e.oc], .agg #[.int .u8 d.e.k, .int .u32 d.e.src, .int .u32 d.e.seq, .int .u8 d.e.v.k, .int .i64 d.e.v.n, .string d.e.v.s, .slice d.e.v.la d.e.v.ll d.e.v.lc, .slice d.e.v.oa d.e.v.ol d.e.v.oc, .slice d.e.oa d.e.ol d.e.oc]] W fun e2 w'=>e2= .returned (.bool (eqB e e'))∧Below W.heap.size W w'):=fun W hW=>refEnSame_any e e' W c.e d.e (he.later_ hW) (he'.later_ hW)
  have HV:Hid (∀W,Below w.heap.size w W→Calls Tryz.prog 18 #[.agg #[.int .u8 c.v.k, .int .i64 c.v.n, .string c.v.s, .slice c.v.la c.v.ll c.v.lc, .slice c.v.oa c.v.ol c.v.oc], .agg #[.int .u8 d.v.k, .int .i64 d.v.n, .string d.v.s, .slice d.v.la d.v.ll d.v.lc, .slice d.v.oa d.v.ol d.v.oc]] W fun e2 w'=>e2= .returned (.bool (eqv v v'))∧Below W.heap.size W w'):=fun W hW=>refSame_any v v' W c.v d.v (hv.later_ hW) (hv'.later_ hW)
  generalize eqB e e'=ee at HE ⊢
  generalize eqv v v'=ev at HV ⊢
  have bx:=boxM_start w c d
  have z0:=bx.a.at_ 0 _ rfl;have z1:=bx.a.at_ 1 _ rfl;have z2:=bx.a.at_ 2 _ rfl;have z12:=bx.a.at_ 12 _ rfl;have z13:=bx.a.at_ 13 _ rfl;have z14:=bx.a.at_ 14 _ rfl;have z15:=bx.a.at_ 15 _ rfl;have z21:=bx.a.at_ 21 _ rfl
  have y0:=bx.b.at_ 0 _ rfl;have y1:=bx.b.at_ 1 _ rfl;have y2:=bx.b.at_ 2 _ rfl;have y12:=bx.b.at_ 12 _ rfl;have y13:=bx.b.at_ 13 _ rfl;have y14:=bx.b.at_ 14 _ rfl;have y15:=bx.b.at_ 15 _ rfl;have y21:=bx.b.at_ 21 _ rfl
  have k1:=hf.max;have k2:=hf.few;have k3:=hf'.max;have k4:=hf'.few
  have HLn:=Lib.hid hf.len;have HLm:=Lib.hid hf'.len
  obtain ⟨R,hR⟩:∃R,sameMs c d (eqB f f') ee ev=R:=⟨_,rfl⟩
  rw [hR]
  rw [sameMs,sameB] at hR
  obtain ⟨f0,h0⟩:∃b,(c.k==d.k)=b:=⟨_,rfl⟩
  obtain ⟨f1,h1⟩:∃b,(c.doc.toList==d.doc.toList)=b:=⟨_,rfl⟩
  obtain ⟨f2,h2⟩:∃b,(c.n==d.n)=b:=⟨_,rfl⟩
  obtain ⟨f3,h3⟩:∃b,(c.src==d.src)=b:=⟨_,rfl⟩
  obtain ⟨f4,h4⟩:∃b,(c.seq==d.seq)=b:=⟨_,rfl⟩
  obtain ⟨f5,h5⟩:∃b,(c.err==d.err)=b:=⟨_,rfl⟩
  obtain ⟨f6,h6⟩:∃b,(c.there==d.there)=b:=⟨_,rfl⟩
  rw [h0,h1,h2,h3,h4,h5,h6] at hR
  have n0:(c.k !=d.k)= !f0:=by rw [bne,h0]
  have n2:(c.n !=d.n)= !f2:=by rw [bne,h2]
  have n3:(c.src !=d.src)= !f3:=by rw [bne,h3]
  have n4:(c.seq !=d.seq)= !f4:=by rw [bne,h4]
  have n5:(c.err !=d.err)= !f5:=by rw [bne,h5]
  have n6:(c.there !=d.there)= !f6:=by rw [bne,h6]
  have HR:=Lib.hid hR
  have HF:=Lib.hid hf;have HF':=Lib.hid hf'
  clear hR hb he hv hf hb' he' hv' hf'
  rcases bcT f0 (bcT f1 (bcT f2 (bcT f3 (bcT f4 (bcT f5 (bcT f6 trivial)))))) with rfl|⟨rfl,(rfl|⟨rfl,(rfl|⟨rfl,(rfl|⟨rfl,(rfl|⟨rfl,(rfl|⟨rfl,(rfl|⟨rfl,_⟩)⟩)⟩)⟩)⟩)⟩)⟩
  iterate 7
    (go_enter Tryz.func7,Tryz.ntmps7
     go_wp2_with fail
     go_ret
     exact ⟨ret_bool (by rw [←HR.out];simp),bx.below⟩)
  by_cases e:c.fl=d.fl
  case neg=>
    have f7:((c.fl:Int) !=(d.fl:Int))=true:=by simp;omega
    have HE2:Hid (eqB f f'=false):=eqB_no (fun h=>e (by rw [HLn.out,HLm.out,h]))
    clear e
    go_enter Tryz.func7,Tryz.ntmps7
    go_wp2_with fail
    go_ret
    exact ⟨ret_bool (by rw [←HR.out,HE2.out];simp),bx.below⟩
  have f7:((c.fl:Int) !=(d.fl:Int))=false:=by rw [e];simp
  have HEQ:=Lib.hid e
  clear e
  go_enter Tryz.func7,Tryz.ntmps7
  go_wp2_with fail
  clear f7 h0 h1 h2 h3 h4 h5 h6 n0 n2 n3 n4 n5 n6 z0 y0 z1 y1 z2 y2 z12 y12 z13 y13 z14 y14 z15 y15 z21 y21
  go_loopw [5] (fun i wr=>∃k:Nat,k≤c.fl∧i= .int .i64 k∧Hid (∀j,j<k→f[j]? =f'[j]?)∧BoxM w wr c d) (fun i _=>c.fl - (intOf i).toNat)
  case atStart=>exact ⟨0,Nat.zero_le _,rfl,fun j hj=>by omega,bx⟩
  case round=>
    clear bx
    obtain ⟨k,hk,rfl,HJ,bx⟩:=hrel
    have z21:=bx.a.at_ 21 _ rfl
    by_cases hlt:k<c.fl
    · obtain ⟨b,o,kl,ea,hb,g1,_⟩:=HF.out.get hlt
      obtain ⟨b',o',kl',ea',hb',g2,_⟩:=HF'.out.get (show k<d.fl by rw [←HEQ.out];exact hlt)
      have hlt':k<d.fl:=by rw [←HEQ.out];exact hlt
      have g1:=later_cell (keep_cell bx.below g1 hb)
      have g2:=later_cell (keep_cell bx.below g2 hb')
      have y21:=bx.b.at_ 21 _ rfl
      rw [ea] at z21;rw [ea'] at y21
      have q1:=later_cell z21;have q2:=later_cell y21
      obtain ⟨t,ht⟩:∃t,(f[k].toList==(f'[k]'kl').toList)=t:=⟨_,rfl⟩
      have HX:Hid (eqB f[k] (f'[k]'kl')=t):=by show _=_;rw [eqB_bytes,ht]
      clear ea ea'
      cases t with
      | true=>
        go_wp2_with fail
        refine wp_region_later (by kernel_rfl) (by kernel_rfl) ?_
        repeat (go_big_quiet_step (fail))
        refine wpQuiet_nil ?_
        intro _ hw'
        obtain ⟨pq,hw''⟩:=hw'
        subst hw''
        clear q1 q2 g1 g2 ht z21 y21
        have bx2:=bx.step (below_later wr pq)
        go_wp2_with fail
        go_roundw
        case rel=>exact ⟨k+1,by omega,by go_num,same_stepB HJ kl kl' HX.out,bx2⟩
        case measure=>simp [intOf];omega
      | false=>
        go_wp2_with fail
        refine wp_region_later (by kernel_rfl) (by kernel_rfl) ?_
        repeat (go_big_quiet_step (fail))
        refine wpQuiet_nil ?_
        intro _ hw'
        obtain ⟨pq,hw''⟩:=hw'
        subst hw''
        clear q1 q2 g1 g2 ht z21 y21
        have bx2:=bx.step (below_later wr pq)
        go_wp2_with fail
        go_ret
        have HE2:Hid (eqB f f'=false):=eqB_no (fun h=>by subst h;exact ne_of_eqB HX.out rfl)
        exact ⟨ret_bool (by rw [←HR.out,HE2.out];simp),bx2.below⟩
    · have HE2:Hid (eqB f f'=true):=eqB_yes (list_of_same HJ.out (by have:=HLn.out;omega) (by have:=HLm.out;have:=HEQ.out;omega))
      clear HJ
      have z3:=bx.a.at_ 3 _ rfl;have z4:=bx.a.at_ 4 _ rfl;have z5:=bx.a.at_ 5 _ rfl;have z6:=bx.a.at_ 6 _ rfl;have z7:=bx.a.at_ 7 _ rfl;have z8:=bx.a.at_ 8 _ rfl;have z9:=bx.a.at_ 9 _ rfl;have z10:=bx.a.at_ 10 _ rfl;have z11:=bx.a.at_ 11 _ rfl
      have y3:=bx.b.at_ 3 _ rfl;have y4:=bx.b.at_ 4 _ rfl;have y5:=bx.b.at_ 5 _ rfl;have y6:=bx.b.at_ 6 _ rfl;have y7:=bx.b.at_ 7 _ rfl;have y8:=bx.b.at_ 8 _ rfl;have y9:=bx.b.at_ 9 _ rfl;have y10:=bx.b.at_ 10 _ rfl;have y11:=bx.b.at_ 11 _ rfl
      cases ee with
      | true=>
        go_wp2_with (first|(go_at_call 17;(with_reducible refine (HE.out _ bx.below).mono ?_);rintro e1 w1 ⟨rfl,hb1⟩;have bx1:=bx.step hb1;have z16:=bx1.a.at_ 16 _ rfl;have z17:=bx1.a.at_ 17 _ rfl;have z18:=bx1.a.at_ 18 _ rfl;have z19:=bx1.a.at_ 19 _ rfl;have z20:=bx1.a.at_ 20 _ rfl;have y16:=bx1.b.at_ 16 _ rfl;have y17:=bx1.b.at_ 17 _ rfl;have y18:=bx1.b.at_ 18 _ rfl;have y19:=bx1.b.at_ 19 _ rfl;have y20:=bx1.b.at_ 20 _ rfl)|(go_at_call 18;(with_reducible refine (HV.out _ bx1.below).mono ?_);rintro e2 w2 ⟨rfl,hb2⟩))
        go_ret
        exact ⟨ret_bool (by rw [←HR.out,HE2.out];simp),bx1.below.on hb2 bx1.below.size⟩
      | false=>
        go_wp2_with (go_at_call 17;(with_reducible refine (HE.out _ bx.below).mono ?_);rintro e1 w1 ⟨rfl,hb1⟩;have bx1:=bx.step hb1)
        go_ret
        exact ⟨ret_bool (by rw [←HR.out,HE2.out];simp),bx1.below⟩
end Go.Proofs.YthceefjafklcmaaGreatDoor
namespace Go.Proofs.YthceefjafklcmaaGreatDoor
open Go.RowKit
def rsnd (doc:ByteArray) (n:Int) (ok sm:Bool):Bool:=decide (1≤doc.size) && (decide (doc.size≤20) && (decide (n≤5000) && (ok && sm)))
theorem wpList_wanted {P:Program} {ops:Array Oper} {rest:List Oper} {o:Oper} {a:Act} {w:World} {Q:Exit→Act→World→Prop} (hw:Region.wanted o (yielded ops a.tmps)=true)
    (h:∀K:Act→World→Prop,(∀a w,wpList P ops Q rest a w→K a w)→o.wp P a w K Q):wpList P ops Q (o::rest) a w:=
  wpList_step fun K hK=>by simp only [hw,if_true];exact h K hK
theorem wp_loadG {ops:Array Oper} {rest:List Oper} {op:Oper} {a:Act} {Q:Exit→Act→World→Prop} {W:World} (x:Operand) (ho:op.op= .load 36 x) (hw:Region.wanted op (yielded ops a.tmps)=true)
    (h:∃(b:Nat) (cs:List Value),a.eval x= .pointer (some ⟨b,0,none⟩)∧cs.length=22∧BC W b cs∧wpList Tryz.prog ops Q rest (a.put op.dst (.agg cs.toArray)) W):wpList Tryz.prog ops Q (op::rest) a W:=by
  obtain ⟨b,cs,h1,h2,h3,h4⟩:=h
  exact wpList_wanted hw fun K hK=>wp_load_mid _ x ho b 0 h1 cs _ h3.range Tryz.underlying36 rfl (by rw [minfo,h2]) (hK _ _ h4)
theorem enNone_eq (e:En):enNone e=eqB e En.none:=by
  apply Bool.eq_iff_iff.2
  obtain ⟨k,src,seq,v,op⟩:=e
  constructor
  · intro h
    simp only [enNone,Bool.and_eq_true,beq_iff_eq,List.length_eq_zero_iff] at h
    obtain ⟨h1,h2,h3,h4,h5⟩:=h
    have h6:v=V.none:=by simpa [eqv] using h5
    subst h1 h2 h3 h4 h6
    exact eqB_yes rfl
  · intro h
    have:=eq_of_eqB h
    rw [this]
    simp [enNone,En.none,eqv]
theorem enSound_some {e:En} (h:enSound e=true):enNone e=false:=by
  cases hn:enNone e with
  |false=>rfl
  | true=>
    rw [enNone_eq] at hn
    rw [eq_of_eqB hn] at h
    rw [enSound,if_neg (show ¬En.none.k=1 by decide),if_neg (show ¬En.none.k=2 by decide),if_neg (show ¬En.none.k=3 by decide)] at h
    cases h
theorem eqv_self (v:V):eqv v v=true:=eqv_yes rfl
theorem fieldsSound_nil:fieldsSound [] =true:=by simp [fieldsSound]
theorem doc_nil (d:ByteArray):(d.toList== [])=decide (d.size=0):=by
  rw [ByteArray.toList_eq]
  obtain ⟨⟨l⟩⟩:=d
  cases l with
  |nil=>rfl
  |cons x r=>rfl
end Go.Proofs.YthceefjafklcmaaGreatDoor
