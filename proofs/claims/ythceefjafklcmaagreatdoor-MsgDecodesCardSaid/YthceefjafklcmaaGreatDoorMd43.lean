/-
  Contracts of the functions that the law reaches: conciliatorref19.refused. conciliatorref19.fields.
-/
import Derived.Test.YthceefjafklcmaaGreatDoorMd42
namespace Go.Proofs.YthceefjafklcmaaGreatDoor
open Go.RowKit
theorem numP_flag (k:Nat) (bs:List UInt8) (sh:Bool):numP k (bs,sh)=((numP k (bs,false)).1,((numP k (bs,false)).2.1,(numP k (bs,false)).2.2||sh)):=by
  unfold numP cutP
  dsimp only
  split
  · rfl
  · simp
def rf1 (bs:List UInt8):Nat×(List UInt8×Bool):=numP 4 (bs,false)
def rf2 (bs:List UInt8):Nat×(List UInt8×Bool):=numP 4 ((rf1 bs).2.1,false)
def rf3 (bs:List UInt8):Nat×(List UInt8×Bool):=numP 2 ((rf2 bs).2.1,false)
def rfOk (bs:List UInt8):Bool:= !(rf1 bs).2.2 && (!(rf2 bs).2.2 && (!(rf3 bs).2.2 && (rf3 bs).2.1.isEmpty))
theorem results_refused {tmps:Array Value} {W:World} {b:Nat} {c:MC} {x:Value} (ht:tmps[4]? =some (.pointer (some ⟨b,0,none⟩))) (hx:tmps[5]? =some x) (h:BC W b (mcells c)):
    (results Tryz.f28 tmps).run Tryz.prog W= .ok (.tuple #[.agg (mcells c).toArray,x]) W:=by
  have h1:=run_loadVar_mid (P:=Tryz.prog) W b 0 36 (mcells c) _ h.range Tryz.underlying36 rfl minfo
  have h2:(asAddr (Value.pointer (some { block:=b,off:=0 }))).run Tryz.prog W= .ok ⟨b,0,none⟩ W:=by simp [asAddr]
  simp [results,Tryz.results28,ht,hx,h2,Result.andThen_ok,h1]
def GetC (k:Int) (bs:List UInt8) (X:Nat) (r:List UInt8) (ok:Bool):Prop:=∀(W:World) (a:Option Addr) (n c:Nat),∀B,B≤W.heap.size→IsB W B a n c bs→Calls Tryz.prog 14 #[.slice a n c, .int .i64 k] W fun e w'=>(∃a' n' c',e= .returned (.tuple #[.int .u64 (X:Int), .slice a' n' c', .bool ok])∧IsB w' B a' n' c' r)∧Below W.heap.size W w'
theorem GetC.at_ {k:Int} {bs:List UInt8} {X:Nat} {r:List UInt8} {ok:Bool} (h:GetC k bs X r ok) (W:World) (a:Option Addr) (n c:Nat) (B:Nat) (hB:B≤W.heap.size) (hI:IsB W B a n c bs):Calls Tryz.prog 14 #[.slice a n c, .int .i64 k] W fun e w'=>(∃a' n' c',e= .returned (.tuple #[.int .u64 (X:Int), .slice a' n' c', .bool ok])∧IsB w' B a' n' c' r)∧Below W.heap.size W w':=h W a n c B hB hI
theorem GetC.of4 {bs:List UInt8} {X:Nat} {r:List UInt8} {sh ok:Bool} (h:numP 4 (bs,false)=(X,(r,sh))) (ho:(!sh)=ok):GetC 4 bs X r ok:=fun W a n c B hB hI=>by
  have:=get4 W a n c bs B hB hI
  rw [h] at this;dsimp only at this;rw [ho] at this;exact this
theorem GetC.of2 {bs:List UInt8} {X:Nat} {r:List UInt8} {sh ok:Bool} (h:numP 2 (bs,false)=(X,(r,sh))) (ho:(!sh)=ok):GetC 2 bs X r ok:=fun W a n c B hB hI=>by
  have:=get2 W a n c bs B hB hI
  rw [h] at this;dsimp only at this;rw [ho] at this;exact this
set_option maxHeartbeats 8000000 in
set_option maxRecDepth 100000 in
theorem refused_any (w:World) (c:MC) (a:Option Addr) (n cp:Nat) (bs:List UInt8) (h:IsB w w.heap.size a n cp bs):
    Calls Tryz.prog 28 #[.agg (mcells c).toArray, .slice a n cp] w fun e w'=>e= .returned (.tuple #[.agg (mcells { c with src:=(rf1 bs).1,seq:=(rf2 bs).1,err:=(rf3 bs).1 }).toArray, .bool (rfOk bs)])∧Below w.heap.size w w':=by
  have l1:=numP_lt4 (bs,false)
  have l2:=numP_lt4 ((rf1 bs).2.1,false)
  have l3:=numP_lt2 ((rf2 bs).2.1,false)
  rw [rfOk]
  obtain ⟨⟨X1,b1,s1⟩,h1⟩:∃r,rf1 bs=r:=⟨_,rfl⟩
  obtain ⟨⟨X2,b2,s2⟩,h2⟩:∃r,rf2 bs=r:=⟨_,rfl⟩
  obtain ⟨⟨X3,b3,s3⟩,h3⟩:∃r,rf3 bs=r:=⟨_,rfl⟩
  have e1:numP 4 (bs,false)=(X1,(b1,s1)):=h1
  have e2:numP 4 (b1,false)=(X2,(b2,s2)):=by have:=h2;rw [rf2,h1] at this;exact this
  have e3:numP 2 (b2,false)=(X3,(b3,s3)):=by have:=h3;rw [rf3,h2] at this;exact this
  rw [h1] at l2;rw [h2] at l3
  rw [e1] at l1;rw [e2] at l2;rw [e3] at l3
  rw [h1,h2,h3]
  dsimp only at l1 l2 l3 ⊢
  obtain ⟨o1,ho1⟩:∃o,(!s1)=o:=⟨_,rfl⟩
  obtain ⟨o2,ho2⟩:∃o,(!s2)=o:=⟨_,rfl⟩
  obtain ⟨o3,ho3⟩:∃o,(!s3)=o:=⟨_,rfl⟩
  have HG1:=Lib.hid (GetC.of4 e1 ho1)
  have HG2:=Lib.hid (GetC.of4 e2 ho2)
  have HG3:=Lib.hid (GetC.of2 e3 ho3)
  rw [ho1,ho2,ho3]
  have u1:IntKind.u32.wrap (X1:Int)=X1:=by simp [IntKind.wrap,IntKind.bits,IntKind.signed];omega
  have u2:IntKind.u32.wrap (X2:Int)=X2:=by simp [IntKind.wrap,IntKind.bits,IntKind.signed];omega
  have u3:IntKind.u16.wrap (X3:Int)=X3:=by simp [IntKind.wrap,IntKind.bits,IntKind.signed];omega
  have bx:BoxM w ((w.alloc (.cells (mcells c).toArray 36)).alloc (.cells #[.int .u8 0, .string { data:= #[] }, .int .i64 0, .int .u8 0, .int .u32 0, .int .u32 0, .int .u8 0, .int .i64 0, .string { data:= #[] }, .slice none 0 0, .slice none 0 0, .slice none 0 0, .int .u32 0, .int .u32 0, .int .u16 0, .bool false, .int .u8 0, .int .i64 0, .string { data:= #[] }, .slice none 0 0, .slice none 0 0, .slice none 0 0] 36)) c mzero:=boxM_start w c mzero
  have HI0:=Lib.hid (h.keep bx.below)
  have hb0:=bx.below.size
  obtain ⟨R,hR⟩:∃R,(o1 && (o2 && (o3 && b3.isEmpty)))=R:=⟨_,rfl⟩
  rw [hR]
  have HR:=Lib.hid hR
  clear h h1 h2 h3 e1 e2 e3 ho1 ho2 ho3 hR
  rcases bcT o1 (bcT o2 (bcT o3 trivial)) with rfl|⟨rfl,(rfl|⟨rfl,(rfl|⟨rfl,_⟩)⟩)⟩
  all_goals
    go_enter Tryz.func28,Tryz.ntmps28
    generalize hQ0:bodyPost _ _ _=Q0
    have HQ:=Lib.hid hQ0
    clear hQ0
    go_wp2_with (go_at_call 14;(with_reducible refine (HG1.out.at_ _ a n cp w.heap.size hb0 HI0.out).mono ?_);rintro e w1 ⟨⟨a1,n1,c1,rfl,hI1⟩,hb1⟩;have bx1:=bx.step hb1;clear bx)
    go_at_call 14
    (with_reducible refine (HG2.out.at_ w1 a1 n1 c1 w.heap.size bx1.below.size hI1).mono ?_)
    rintro e w2 ⟨⟨a2,n2,c2,rfl,hI2⟩,hb2⟩
    have bx2:=bx1.step hb2
    clear bx1 hI1
    go_wp2_with fail
    go_at_call 14
    (with_reducible refine (HG3.out.at_ w2 a2 n2 c2 w.heap.size bx2.below.size hI2).mono ?_)
    rintro e w3 ⟨⟨a3,n3,c3,rfl,hI3⟩,hb3⟩
    have bx3:=bx2.step hb3
    have HI3:=Lib.hid hI3.len
    have z12:=bx3.a.at_ 12 _ rfl;have z13:=bx3.a.at_ 13 _ rfl;have z14:=bx3.a.at_ 14 _ rfl
    have g12:=bx3.a.fr 12;have g13:=bx3.a.fr 13;have g14:=bx3.a.fr 14
    clear bx2 hI2 hI3
    go_wp2_with (first
      |(refine wp_loadM rfl _ rfl ?_;refine ⟨w.heap.size,mcells { c with src:=X1,seq:=X2,err:=X3 },rfl,rfl,(((bx3.a.set (i:=12) (x:= .int .u32 (X1:Int)) (by simp [mcells])).set (i:=13) (x:= .int .u32 (X2:Int)) (by simp [mcells])).set (i:=14) (x:= .int .u16 (X3:Int)) (by simp [mcells])), ?_⟩)
      |(refine wp_storeM rfl _ _ rfl ?_;refine ⟨w.heap.size+1,mcells mzero,mcells { c with src:=X1,seq:=X2,err:=X3 },rfl,rfl,(((bx3.b.far (by omega)).far (by omega)).far (by omega)),rfl,rfl,rfl, ?_⟩;intro W4 bm keepf st;have HBM:=Lib.hid bm;have HST:=Lib.hid st;clear bm keepf st))
    rw [←HQ.out]
    have hb4:Below w.heap.size w W4:=(((bx3.below.setCell (by simp) _).setCell (by simp) _).setCell (by simp) _).trans (HST.out.low (by omega) (by simp;have:=bx3.below.size;omega))
    exact ⟨rfl,_,results_refused rfl rfl HBM.out,ret_pair (by rw [←HR.out];first|rfl|(rw [isEmpty_len _ HI3.out];rfl)),hb4⟩
end Go.Proofs.YthceefjafklcmaaGreatDoor
namespace Go.Proofs.YthceefjafklcmaaGreatDoor
open Go.RowKit
theorem textsP_mono {k N:Nat} (h:k≤N) {s:List UInt8×Bool} (hs:(textsP k s).2.2=true):(textsP N s).2.2=true:=by
  induction N with
  | zero=>
    have:k=0:=by omega
    subst this;exact hs
  | succ N ih=>
    by_cases e:k=N+1
    · subst e;exact hs
    · exact textP_short 4 _ (ih (by omega))
def fdOk (bs:List UInt8):Bool:= !(textsP (numP 1 (bs,false)).1 (numP 1 (bs,false)).2).2.2 && (textsP (numP 1 (bs,false)).1 (numP 1 (bs,false)).2).2.1.isEmpty
theorem OwnS.below {w w':World} {B:Nat} {a:Option Addr} {n c:Nat} {l:List ByteArray} (h:OwnS w B a n c l) (hb:Below w.heap.size w w'):OwnS w' B a n c l:=
  ⟨h.1,h.2.kept (row:=some w.heap.size) ⟨hb.os,hb.tape,hb.output,hb.size,fun q hq _=>hb.block q hq⟩ (.inr fun h2=>by have:=(h.2.lt _ h2).2;omega)⟩
set_option maxHeartbeats 8000000 in
set_option maxRecDepth 100000 in
theorem fields_any (w:World) (a:Option Addr) (n c:Nat) (bs:List UInt8) (h:IsB w w.heap.size a n c bs):
    Calls Tryz.prog 29 #[.slice a n c] w fun e w'=>(∃a' n' c',e= .returned (.tuple #[.slice a' n' c', .bool (fdOk bs)])∧(fdOk bs=true→OwnS w' w.heap.size a' n' c' (textsP (numP 1 (bs,false)).1 (numP 1 (bs,false)).2).1))∧Below w.heap.size w w':=by
  obtain ⟨i0,hi0,hz0,hz1,hz2⟩:=info_parts ginfoStr
  obtain ⟨R,hR⟩:∃R,fdOk bs=R:=⟨_,rfl⟩
  rw [hR]
  rw [fdOk] at hR
  have HG:=Lib.hid (get1 w a n c bs w.heap.size (Nat.le_refl _) h)
  have hN1:=numP_lt1 (bs,false)
  have hlen:=numP_len 1 (bs,false)
  have hmx:=h.max
  obtain ⟨ns,hns⟩:∃ns,numP 1 (bs,false)=ns:=⟨_,rfl⟩
  rw [hns] at HG hN1 hR hlen ⊢
  obtain ⟨N,b1,sh⟩:=ns
  dsimp only at HG hN1 hR hlen ⊢
  cases sh with
  | true=>
    have hs:=textsP_short N (b1,true) rfl
    rw [hs] at hR
    have HR:Hid (R=false):=by show _=_;rw [←hR];rfl
    have hN0:N=0∧b1= [] :=by
      unfold numP cutP at hns
      dsimp only at hns
      split at hns
      · injection hns with h1 h2;injection h2 with h2 h3;exact ⟨h1.symm,h2.symm⟩
      · injection hns with h1 h2;injection h2 with h2 h3;cases h3
    obtain ⟨rfl,rfl⟩:=hN0
    rw [show ((0:Nat):Int)=0 from rfl] at HG
    clear hs hR hns h
    go_enter Tryz.func29,Tryz.ntmps29
    go_wp2_with (go_at_call 14;(with_reducible refine HG.out.mono ?_);rintro e w1 ⟨⟨a1,n1,c1,rfl,hI1⟩,hb1⟩)
    go_loopw [0,6,7,5,8] (fun b out i ok x wr=>b= .slice a1 n1 c1∧out= .slice none 0 0∧i= .int .u64 0∧ok= .bool false∧wr=w1) (fun _ _ _ _ _ _=>0)
    case atStart=>exact ⟨rfl,rfl,rfl,rfl,rfl⟩
    case round=>
      obtain ⟨rfl,rfl,rfl,rfl,rfl⟩:=hrel
      go_wp2_with fail
      go_returns
      exact ⟨⟨_,_,_,by rw [HR.out];rfl,fun h=>by rw [HR.out] at h;cases h⟩,hb1⟩
  | false =>
    have HR:=Lib.hid hR
    have HL:=Lib.hid h.len
    have hnmax:=h.max
    have hlb:b1.length≤bs.length:=hlen
    clear hns h hR
    go_enter Tryz.func29,Tryz.ntmps29
    go_wp2_with (go_at_call 14;(with_reducible refine HG.out.mono ?_);rintro e w1 ⟨⟨a1,n1,c1,rfl,hI1⟩,hb1⟩)
    go_loopw [0,6,7,5,8] (fun b out i ok x wr=>∃(k:Nat) (a2:Option Addr) (n2 c2:Nat) (ao:Option Addr) (no co:Nat),k≤N∧i= .int .u64 (k:Int)∧ok= .bool true∧b= .slice a2 n2 c2∧out= .slice ao no co∧IsB wr w.heap.size a2 n2 c2 (textsP k (b1,false)).2.1∧OwnS wr w.heap.size ao no co (textsP k (b1,false)).1∧(textsP k (b1,false)).2.2=false∧Below w.heap.size w wr) (fun _ _ i _ _ _=>N - (intOf i).toNat)
    case atStart=>exact ⟨0,a1,n1,c1,none,0,0,Nat.zero_le _,rfl,rfl,rfl,rfl,hI1,OwnS.nil _ _,rfl,hb1⟩
    case round=>
      clear hI1 hb1
      obtain ⟨k,a2,n2,c2,ao,no,co,hk,rfl,rfl,rfl,rfl,hI,hO,hsh,hB⟩:=hrel
      by_cases hlk:k<N
      · obtain ⟨st,hst⟩:∃st,textsP k (b1,false)=st:=⟨_,rfl⟩
        have hlenk:no=k:=by rw [hO.1,textsP_len]
        have hmono:= @textsP_mono (k+1) N hlk (b1,false)
        have hnx:textsP (k+1) (b1,false)=(st.1++ [(textP 4 st.2).1],(textP 4 st.2).2):=by rw [textsP,hst]
        rw [hst] at hO hI hsh
        obtain ⟨fs,s2,sh2⟩:=st
        dsimp only at hO hI hsh hnx
        subst hsh
        have HG4:=Lib.hid (get4 wr a2 n2 c2 s2 w.heap.size hB.size hI)
        have hX4:=numP_lt4 (s2,false)
        obtain ⟨ns,hns⟩:∃ns,numP 4 (s2,false)=ns:=⟨_,rfl⟩
        have htp:textP 4 (s2,false)=(⟨(cutP ns.1 ns.2).1.toArray⟩,(cutP ns.1 ns.2).2):=by rw [textP,hns]
        rw [hns] at HG4 hX4
        rw [htp] at hnx
        obtain ⟨X,r,shr⟩:=ns
        dsimp only at HG4 hX4 hnx
        have hz:=hB.size
        have HB:=Lib.hid hB
        have HO:=Lib.hid hO
        have HLK:=Lib.hid hlenk
        have h256:no≤256:=by omega
        clear hst hns htp hB hlenk hI hO
        cases shr with
        | true=>
          have hbad:R=false:=by
            rw [←HR.out,hmono (by rw [hnx];exact cutP_short _ _)];rfl
          have HBAD:=Lib.hid hbad
          clear hbad hmono hnx
          go_wp2_with (go_at_call 14;(with_reducible refine HG4.out.mono ?_);rintro e w4 ⟨⟨a4,n4,c4,rfl,hI4⟩,hb4⟩)
          go_returns
          exact ⟨⟨_,_,_,by rw [HBAD.out];rfl,fun h=>by rw [HBAD.out] at h;cases h⟩,HB.out.trans (hb4.mono hz)⟩
        | false=>
          by_cases hX:r.length<X
          · have hbad:R=false:=by
              rw [←HR.out,hmono (by rw [hnx,cutP,if_pos hX])];rfl
            have HBAD:=Lib.hid hbad
            have HX:=Lib.hid hX
            clear hbad hmono hnx hX
            go_wp2_with (go_at_call 14;(with_reducible refine HG4.out.mono ?_);rintro e w4 ⟨⟨a4,n4,c4,rfl,hI4⟩,hb4⟩;have hl4:n4<X:=(by rw [hI4.len];exact HX.out);have hm4:=hI4.max;have hc4:=hI4.cap;clear hI4)
            go_returns
            exact ⟨⟨_,_,_,by rw [HBAD.out];rfl,fun h=>by rw [HBAD.out] at h;cases h⟩,HB.out.trans (hb4.mono hz)⟩
          · have hcut:cutP X (r,false)=(r.take X,(r.drop X,false)):=by rw [cutP,if_neg hX]
            rw [hcut] at hnx
            dsimp only at hnx
            have HNX:=Lib.hid hnx
            have HX:=Lib.hid hX
            clear hcut hnx hX hmono
            go_wp2_with fail
            refine HG4.out.mono ?_
            rintro e w4 ⟨⟨a4,n4,c4,rfl,hI4⟩,hb4⟩
            have hl4:X≤n4:=by rw [hI4.len];have:=HX.out;omega
            have hm4:=hI4.max
            have hc4:=hI4.cap
            have hl4':¬n4<X:=by omega
            have hX4c:X≤c4:=by omega
            have HI4:=Lib.hid hI4
            obtain ⟨tx,htx⟩:∃tx,(⟨(r.take X).toArray⟩:ByteArray)=tx:=⟨_,rfl⟩
            have hcv:=conv_isB (hI4.take X hl4)
            rw [htx] at hcv HNX
            have HO4:=Lib.hid (HO.out.below hb4)
            have hO4:=HO4.out.2
            have hrlt:=hO4.lt
            have hz4:=hb4.size
            have HB4:=Lib.hid (HB.out.trans (hb4.mono hz))
            have HZ4:Hid (n4 - X=0∨¬c4=X):=by show _∨_;omega
            clear hI4 hb4 htx HO HB
            by_cases e:c4=X
            all_goals
              try subst e
              go_wp2_with (at_builtin;refine wpList_append_lies _ rfl (.tmp 38) (.tmp 43) 34 (by rfl) w.heap.size 9 i0 _ 1 16 Tryz.underlying34 hi0 hz0 hz1 hz2 rfl (by omega) (.slice ao no co) no (fs.map Value.string) (by rfl) (hO4.alloc _) ⟨w4.heap.size,0,none⟩ 1 1 [.string tx] (by rfl) (by rfl) (World.news_of_block (cs:= #[.string tx]) (t:=9) (fr:=(0,0)) (heap_alloc_new w4 _)) (by simp [Value.oneCell']) (by omega) (by unfold maxLen;omega) (by omega) (by simp;omega) (w4.heap.size+1) (by simp) ?_;intro g cap w5 hown5 hgrow5 hat5 hlt5;have hb5:=grown_below hgrow5 (fun k hk=>(hrlt k hk).1) (by simp;omega);have HW5:=Lib.hid hown5;have HB5:=Lib.hid hb5;clear hown5 hgrow5 hat5 hlt5 hb5)
              have B45:Below w.heap.size w4 w5:=((Below.refl _ _).alloc (Nat.le_trans hz hz4) _).trans HB5.out
              have hO5:OwnS w5 w.heap.size (some ⟨g,0,none⟩) (no+1) cap (fs++ [tx]):=⟨by rw [List.length_append, ←HO4.out.1];rfl,by simpa using HW5.out⟩
              go_roundw
              case rel=>exact ⟨k+1,_,_,_,_,_,_,by omega,by go_num,rfl,rfl,rfl,by rw [HNX.out];first|exact (HI4.out.drop _ hl4).keep B45|exact ((HI4.out.drop _ hl4).none_left (by omega)).keep B45,by rw [HNX.out];exact hO5,by rw [HNX.out],HB4.out.trans B45⟩
              case measure=>simp [intOf];omega
      · have:k=N:=by omega
        subst this
        have HI:=Lib.hid hI
        have HN2:=Lib.hid hI.len
        have hO':=Lib.hid hO
        have HRR:Hid (R=(textsP k (b1,false)).2.1.isEmpty):=by show _=_;rw [←HR.out,hsh];rfl
        have HZ:Hid (((n2:Int)==0)=R):=by
          show _=_
          rw [HRR.out,HN2.out]
          cases (textsP k (b1,false)).2.1 with
          |nil=>rfl
          |cons x r=>simp;omega
        clear hI hO hsh
        go_wp2_with fail
        go_returns
        exact ⟨⟨_,_,_,ret_pair HZ.out,fun _=>hO'.out⟩,hB⟩
end Go.Proofs.YthceefjafklcmaaGreatDoor
