/-
  Contracts of the functions that the law reaches: msg.tail: what a message says at its.
-/
import Derived.Test.YtfoahkbnheijcaaGreatDoorMa40
namespace Go.Proofs.YtfoahkbnheijcaaGreatDoor
open Go.RowKit
set_option maxHeartbeats 8000000
set_option maxRecDepth 100000 in
theorem zqw (w:World) (c:MC) (ek:c.k=2):
 Calls Tryz.prog 45 #[.agg (mcells c).toArray] w fun e w'=>(∃a n cp,e= .returned (.tuple #[.slice a n cp, .int .u16 (0)])/\IsB w' w'.heap.size a n cp ([]))/\Below w.heap.size w w':=by
 have z0:=(BC.start w (mcells c).toArray 46).at_ 0 _ rfl
 have hB0:Below w.heap.size w (w.alloc (.cells (mcells c).toArray 46)):=(Below.refl _ _).alloc (Nat.le_refl _) _
 rw [ek] at z0
 go_enter Tryz.func45,Tryz.ntmps45
 go_wp2_with fail
 go_returns
 exact ⟨⟨none,0,0,rfl, .nil _ _⟩,hB0⟩
set_option maxRecDepth 100000 in
theorem zfn (w:World) (c:MC) (ek:c.k=3) {er:Int} {bs:List UInt8} (HE:Hid (∀W,Below w.heap.size w W->Calls Tryz.prog 92 #[.agg #[.int .u8 c.e.k, .int .u32 c.e.src, .int .u32 c.e.seq, .int .u8 c.e.v.k, .int .i64 c.e.v.n, .string c.e.v.s, .slice c.e.v.la c.e.v.ll c.e.v.lc, .slice c.e.v.oa c.e.v.ol c.e.v.oc, .slice c.e.oa c.e.ol c.e.oc]] W fun e w'=>(∃a n c,e= .returned (.tuple #[.slice a n c, .int .u16 er])/\IsB w' w'.heap.size a n c bs)/\Below W.heap.size W w')):
 Calls Tryz.prog 45 #[.agg (mcells c).toArray] w fun e w'=>(∃a n cp,e= .returned (.tuple #[.slice a n cp, .int .u16 (er)])/\IsB w' w'.heap.size a n cp (bs))/\Below w.heap.size w w':=by
 have z0:=(BC.start w (mcells c).toArray 46).at_ 0 _ rfl;have z3:=(BC.start w (mcells c).toArray 46).at_ 3 _ rfl;have z4:=(BC.start w (mcells c).toArray 46).at_ 4 _ rfl;have z5:=(BC.start w (mcells c).toArray 46).at_ 5 _ rfl;have z6:=(BC.start w (mcells c).toArray 46).at_ 6 _ rfl;have z7:=(BC.start w (mcells c).toArray 46).at_ 7 _ rfl;have z8:=(BC.start w (mcells c).toArray 46).at_ 8 _ rfl;have z9:=(BC.start w (mcells c).toArray 46).at_ 9 _ rfl;have z10:=(BC.start w (mcells c).toArray 46).at_ 10 _ rfl;have z11:=(BC.start w (mcells c).toArray 46).at_ 11 _ rfl
 have hB0:Below w.heap.size w (w.alloc (.cells (mcells c).toArray 46)):=(Below.refl _ _).alloc (Nat.le_refl _) _
 rw [ek] at z0
 go_enter Tryz.func45,Tryz.ntmps45
 go_wp2_with (go_at_call 92;(with_reducible refine (HE.out _ hB0).mono ?_);rintro e w1 ⟨⟨a1,n1,c1,rfl,hI⟩,hb1⟩)
 go_returns
 exact ⟨⟨a1,n1,c1,rfl,hI⟩,hB0.on hb1 hB0.size⟩
set_option maxRecDepth 100000 in
theorem zgg (w:World) (c:MC) (ek:c.k=5) {er:Int} {bs:List UInt8} (HE:Hid (∀W,Below w.heap.size w W->Calls Tryz.prog 92 #[.agg #[.int .u8 c.e.k, .int .u32 c.e.src, .int .u32 c.e.seq, .int .u8 c.e.v.k, .int .i64 c.e.v.n, .string c.e.v.s, .slice c.e.v.la c.e.v.ll c.e.v.lc, .slice c.e.v.oa c.e.v.ol c.e.v.oc, .slice c.e.oa c.e.ol c.e.oc]] W fun e w'=>(∃a n c,e= .returned (.tuple #[.slice a n c, .int .u16 er])/\IsB w' w'.heap.size a n c bs)/\Below W.heap.size W w')):
 Calls Tryz.prog 45 #[.agg (mcells c).toArray] w fun e w'=>(∃a n cp,e= .returned (.tuple #[.slice a n cp, .int .u16 (er)])/\IsB w' w'.heap.size a n cp (bs))/\Below w.heap.size w w':=by
 have z0:=(BC.start w (mcells c).toArray 46).at_ 0 _ rfl;have z3:=(BC.start w (mcells c).toArray 46).at_ 3 _ rfl;have z4:=(BC.start w (mcells c).toArray 46).at_ 4 _ rfl;have z5:=(BC.start w (mcells c).toArray 46).at_ 5 _ rfl;have z6:=(BC.start w (mcells c).toArray 46).at_ 6 _ rfl;have z7:=(BC.start w (mcells c).toArray 46).at_ 7 _ rfl;have z8:=(BC.start w (mcells c).toArray 46).at_ 8 _ rfl;have z9:=(BC.start w (mcells c).toArray 46).at_ 9 _ rfl;have z10:=(BC.start w (mcells c).toArray 46).at_ 10 _ rfl;have z11:=(BC.start w (mcells c).toArray 46).at_ 11 _ rfl
 have hB0:Below w.heap.size w (w.alloc (.cells (mcells c).toArray 46)):=(Below.refl _ _).alloc (Nat.le_refl _) _
 rw [ek] at z0
 go_enter Tryz.func45,Tryz.ntmps45
 go_wp2_with (go_at_call 92;(with_reducible refine (HE.out _ hB0).mono ?_);rintro e w1 ⟨⟨a1,n1,c1,rfl,hI⟩,hb1⟩)
 go_returns
 exact ⟨⟨a1,n1,c1,rfl,hI⟩,hB0.on hb1 hB0.size⟩
set_option maxRecDepth 100000 in
theorem zot (w:World) (c:MC) (ek:c.k=4) (et:c.there=false):
 Calls Tryz.prog 45 #[.agg (mcells c).toArray] w fun e w'=>(∃a n cp,e= .returned (.tuple #[.slice a n cp, .int .u16 (0)])/\IsB w' w'.heap.size a n cp ([0]))/\Below w.heap.size w w':=by
 have z0:=(BC.start w (mcells c).toArray 46).at_ 0 _ rfl;have z15:=(BC.start w (mcells c).toArray 46).at_ 15 _ rfl
 have hB0:Below w.heap.size w (w.alloc (.cells (mcells c).toArray 46)):=(Below.refl _ _).alloc (Nat.le_refl _) _
 rw [ek] at z0;rw [et] at z15
 go_enter Tryz.func45,Tryz.ntmps45
 go_wp2_with (go_at_call 43;refine (Jt 0 1 (by omega) _ w.heap.size hB0.size none 0 0 [] (OwnB.nil _ _) (by simp)).mono ?_;rintro e w1 ⟨⟨a1,n1,c1,rfl,hO⟩,hb1⟩)
 go_returns
 exact ⟨⟨a1,n1,c1,rfl,hO.isB⟩,hB0.trans hb1⟩
set_option maxRecDepth 100000 in
theorem zlu (w:World) (c:MC) (ek:c.k=4) (et:c.there=true) {er:Int} {bs:List UInt8} (hl:bs.length<=70368744177664) (HE:Hid (∀W,Below w.heap.size w W->Calls Tryz.prog 93 #[.agg #[.int .u8 c.v.k, .int .i64 c.v.n, .string c.v.s, .slice c.v.la c.v.ll c.v.lc, .slice c.v.oa c.v.ol c.v.oc]] W fun e w'=>(∃a n c,e= .returned (.tuple #[.slice a n c, .int .u16 er])/\IsB w' w'.heap.size a n c bs)/\Below W.heap.size W w')):
 Calls Tryz.prog 45 #[.agg (mcells c).toArray] w fun e w'=>(∃a n cp,e= .returned (.tuple #[.slice a n cp, .int .u16 (er)])/\IsB w' w'.heap.size a n cp (1::bs))/\Below w.heap.size w w':=by
 have z0:=(BC.start w (mcells c).toArray 46).at_ 0 _ rfl;have z15:=(BC.start w (mcells c).toArray 46).at_ 15 _ rfl;have z16:=(BC.start w (mcells c).toArray 46).at_ 16 _ rfl;have z17:=(BC.start w (mcells c).toArray 46).at_ 17 _ rfl;have z18:=(BC.start w (mcells c).toArray 46).at_ 18 _ rfl;have z19:=(BC.start w (mcells c).toArray 46).at_ 19 _ rfl;have z20:=(BC.start w (mcells c).toArray 46).at_ 20 _ rfl
 have hB0:Below w.heap.size w (w.alloc (.cells (mcells c).toArray 46)):=(Below.refl _ _).alloc (Nat.le_refl _) _
 rw [ek] at z0;rw [et] at z15
 go_enter Tryz.func45,Tryz.ntmps45
 go_wp2_with (first|(go_at_call 93;(with_reducible refine (HE.out _ hB0).mono ?_);rintro e w1 ⟨⟨a1,n1,c1,rfl,hI⟩,hb1⟩;have hB1:=hB0.on hb1 hB0.size)|(go_at_call 43;refine (Jt 1 1 (by omega) w1 w1.heap.size (Nat.le_refl _) none 0 0 [] (OwnB.nil _ _) (by simp)).mono ?_;rintro e w2 ⟨⟨a2,n2,c2,rfl,hO⟩,hb2⟩)|(at_builtin;refine zah rfl (.tmp 33) (.tmp 34) rfl w1.heap.size w2.heap.size a2 n2 c2 _ a1 n1 c1 bs rfl rfl hO ((hI.keep hb2).more hb2.size) hb2.size (by simp [Zc];omega) ?_;intro a3 n3 c3 w3 hO3 hb3))
 go_returns
 exact ⟨⟨a3,n3,c3,rfl,hO3.isB⟩,(hB1.on hb2 hB1.size).trans (hb3.mono hB1.size)⟩
set_option maxRecDepth 100000 in
theorem zof (w:World) (c:MC) (ek:c.k=6) (S Q E:Nat) (hS:c.src=S) (hQ:c.seq=Q) (hE:c.err=E) (hS2:S<4294967296) (hQ2:Q<4294967296) (hE2:E<65536):
 Calls Tryz.prog 45 #[.agg (mcells c).toArray] w fun e w'=>(∃a n cp,e= .returned (.tuple #[.slice a n cp, .int .u16 (0)])/\IsB w' w'.heap.size a n cp (be S 4++be Q 4++be E 2))/\Below w.heap.size w w':=by
 have z0:=(BC.start w (mcells c).toArray 46).at_ 0 _ rfl;have z12:=(BC.start w (mcells c).toArray 46).at_ 12 _ rfl;have z13:=(BC.start w (mcells c).toArray 46).at_ 13 _ rfl;have z14:=(BC.start w (mcells c).toArray 46).at_ 14 _ rfl
 have hB0:Below w.heap.size w (w.alloc (.cells (mcells c).toArray 46)):=(Below.refl _ _).alloc (Nat.le_refl _) _
 rw [ek] at z0;rw [hS] at z12;rw [hQ] at z13;rw [hE] at z14
 have e1:IntKind.i64.wrap (S:Int)=(S:Int):=by rw [IntKind.wrap_i64];omega
 have e2:IntKind.i64.wrap (Q:Int)=(Q:Int):=by rw [IntKind.wrap_i64];omega
 have hlt:w.heap.size<(w.alloc (.cells (mcells c).toArray 46)).heap.size:=by simp
 have HFB:Hid (∀W,Below (w.alloc (.cells (mcells c).toArray 46)).heap.size (w.alloc (.cells (mcells c).toArray 46)).drew W->W.cell? ⟨w.heap.size,12,none⟩=some (.int .u32 S)/\W.cell? ⟨w.heap.size,13,none⟩=some (.int .u32 Q)/\W.cell? ⟨w.heap.size,14,none⟩=some (.int .u16 E)):=fun W hW=>⟨Zd hW z12 hlt,Zd hW z13 hlt,Zd hW z14 hlt⟩
 have hd:Below w.heap.size w (w.alloc (.cells (mcells c).toArray 46)).drew:=hB0.drew
 go_enter Tryz.func45,Tryz.ntmps45
 go_wp2_with fail
 clear z0 z12 z13 z14
 refine wp_region_noPanic ?_
 go_region_held_law (fun W=>W.cell? ⟨w.heap.size,12,none⟩=some (.int .u32 S)/\W.cell? ⟨w.heap.size,13,none⟩=some (.int .u32 Q)/\W.cell? ⟨w.heap.size,14,none⟩=some (.int .u16 E))
  ((refine HFB.out _ ?_;(first|(with_reducible exact Below.refl _ _)|(with_reducible exact hb1)|(with_reducible exact hb12))))
  (first
   |(go_at_call 43;(with_reducible refine (Kc S (w.alloc (.cells (mcells c).toArray 46)).drew (w.alloc (.cells (mcells c).toArray 46)).heap.size (Nat.le_refl _) none 0 0 [] (OwnB.nil _ _) (by simp)).mono ?_);rintro e w1 ⟨⟨a1,n1,c1,rfl,hO1⟩,hb1⟩;have hz1:(w.alloc (.cells (mcells c).toArray 46)).heap.size<=w1.heap.size:=hb1.size)
   |(go_at_call 43;(with_reducible refine (Kc Q w1 (w.alloc (.cells (mcells c).toArray 46)).heap.size hz1 a1 n1 c1 _ hO1 (by simp [Zc])).mono ?_);rintro e w2 ⟨⟨a2,n2,c2,rfl,hO2⟩,hb2⟩;have hb12:=hb1.trans hb2))
 all_goals
  obtain ⟨_,_,z14⟩:=HFB.out _ hb12
  have hz:(w.alloc (.cells (mcells c).toArray 46)).heap.size<=w2.heap.size:=hb12.size
  refine NoPanic.normal ?_
  go_wp2_with (go_at_call 43;(refine (zib E w2 (w.alloc (.cells (mcells c).toArray 46)).heap.size hz a2 n2 c2 _ hO2 (by simp [Zc])).mono ?_);rintro e w3 ⟨⟨a3,n3,c3,rfl,hO3⟩,hb3⟩)
  go_returns
  exact ⟨⟨a3,n3,c3,rfl,hO3.isB⟩,hd.trans ((hb12.trans hb3).mono (by simp))⟩
def encFs (l:List ByteArray):List UInt8:=l.flatMap fun s=>be s.size 4++s.data.toList
theorem zp1 (l:List ByteArray) (k:Nat) (h:k<l.length):encFs (l.take (k+1))=encFs (l.take k)++(be l[k].size 4++l[k].data.toList):=by
 rw [encFs,encFs,List.take_succ_eq_append_getElem h,List.flatMap_append];simp
theorem zge (l:List ByteArray) (k:Nat):(encFs (l.take k)).length<=(encFs l).length:=by
 have e:encFs l=encFs (l.take k)++encFs (l.drop k):=by rw [encFs,encFs,encFs, <-List.flatMap_append,List.take_append_drop]
 rw [e,List.length_append];omega
set_option maxRecDepth 100000 in
theorem zgl (w:World) (c:MC) (ek:c.k=1) (l:List ByteArray) (hf:IsStrs w w.heap.size l c.fa c.fl c.fc) (hsz:(encFs l).length<=70368744177664):
 Calls Tryz.prog 45 #[.agg (mcells c).toArray] w fun e w'=>(∃a n cp,e= .returned (.tuple #[.slice a n cp, .int .u16 (0)])/\IsB w' w'.heap.size a n cp (be l.length 1++encFs l))/\Below w.heap.size w w':=by
 have z0:=(BC.start w (mcells c).toArray 46).at_ 0 _ rfl;have z21:=(BC.start w (mcells c).toArray 46).at_ 21 _ rfl
 have hB0:Below w.heap.size w (w.alloc (.cells (mcells c).toArray 46)):=(Below.refl _ _).alloc (Nat.le_refl _) _
 rw [ek] at z0
 have k1:=hf.max;have k2:=hf.few
 have HLn:=qh hf.len
 obtain ⟨fa,hfa⟩:∃fa,c.fa=fa:=⟨_,rfl⟩
 rw [hfa] at hf z21
 have HF:=qh hf
 have hlt:w.heap.size<(w.alloc (.cells (mcells c).toArray 46)).heap.size:=by simp
 have hle:=zge l
 clear hf hfa
 go_enter Tryz.func45,Tryz.ntmps45
 go_wp2_with (go_at_call 43;(with_reducible refine (ze4 c.fl (w.alloc (.cells (mcells c).toArray 46)) (w.alloc (.cells (mcells c).toArray 46)).heap.size (Nat.le_refl _) none 0 0 [] (OwnB.nil _ _) (by simp)).mono ?_);rintro e w1 ⟨⟨a1,n1,c1,rfl,hO⟩,hb1⟩;have hB1:=hB0.on hb1 hB0.size;have z21:=Zd hb1 z21 hlt)
 go_loopw [4,63] (fun u i wr=>∃(k:Nat) (a:Option Addr) (m cp:Nat),k<=c.fl/\i= .int .i64 k/\u= .slice a m cp/\OwnB wr w.heap.size a m cp (be c.fl 1++encFs (l.take k))/\Below w.heap.size w wr) (fun _ i _=>c.fl - (intOf i).toNat)
 case atStart=>exact ⟨0,a1,n1,c1,Nat.zero_le _,rfl,rfl,by simpa [encFs] using (OwnB.lower hO (by simp)),hB1⟩
 case round=>
  clear hO hB1 hb1 z21 z0
  obtain ⟨k,a,m,cp,hk,rfl,rfl,hO,hB⟩:=hrel
  by_cases hlk:k<c.fl
  .obtain ⟨b,o,kl,rfl,hb,g1,gs⟩:=HF.out.get hlk
   have g1:=Zd hB g1 hb
   have h1:=zp1 l k kl
   have h2:=hle (k+1)
   have h3:=congrArg List.length h1
   simp only [List.length_append,Zc,Array.length_toList] at h3
   have h5:(l[k]'kl).data.size=(l[k]'kl).size:=rfl
   rw [h5] at h3
   have HT:=qh h1
   have HO:=qh hO
   have HB:=qh hB
   have HS:Hid ((be c.fl 1++encFs (l.take k)).length+4+l[k].size<=140737488355328):=by
    show _<=_
    rw [List.length_append,Zc];omega
   have hp2:((l[k]'kl).size:Int)<=140737488355328:=by omega
   clear h1 h2 h3 h5 hO hB hle
   go_wp2_with (first|(go_at_call 43;(with_reducible refine (Kc l[k].size wr w.heap.size HB.out.size a m cp _ HO.out (by have:=HS.out;omega)).mono ?_);rintro e w2 ⟨⟨a2,n2,c2,rfl,hO2⟩,hb2⟩;have hz2:=HB.out.size;have hz3:=hb2.size)|(at_builtin;refine zm3 rfl (.tmp 70) (.tmp 71) rfl w.heap.size a2 n2 c2 _ l[k] rfl rfl hO2 (by omega) (by have:=HS.out;rw [List.length_append,Zc];omega) ?_;intro a3 n3 c3 w3 hO3 hb3))
   go_roundw
   case rel=>exact ⟨k+1,a3,n3,c3,by omega,by go_num,rfl,by rw [HT.out];simpa [List.append_assoc] using hO3,(HB.out.trans hb2).trans hb3⟩
   case measure=>simp [intOf];omega
  .have hq:l.take k=l:=List.take_of_length_le (by have:=HLn.out;omega)
   rw [hq] at hO
   go_wp2_with fail
   go_returns
   exact ⟨⟨a,m,cp,rfl,by rw [<-HLn.out];exact hO.isB⟩,hB⟩
theorem zk0 {ops:Array Oper} {o:Oper} {a:Act} {K:Act->World->Prop} {Q:Exit->Act->World->Prop} {E:Prop} {w:World} (hgd:o.guard=none) (s x:Operand)
 (ho:o.op= .call { callee:= .builtin .append,args:= #[s,x],argTypes:= #[34,9] }) (B:Nat) (a0:Option Addr) (n0 c0:Nat) (bs:List UInt8) (t:ByteArray)
 (hs:a.eval s= .slice a0 n0 c0) (hx:a.eval x= .string t) (h0:OwnB w B a0 n0 c0 bs) (hB:B<=w.heap.size) (hsz:bs.length+t.size<=140737488355328)
 (h:∀a' n' c' w',OwnB w' B a' n' c' (bs++t.data.toList)->Below B w w'->K (a.put o.dst (.slice a' n' c')) w'):if Region.wanted o (yielded ops a.tmps)=true then Oper.wp Tryz.prog o a w K Q else E:=by
 rw [if_pos (by simp [Region.wanted,hgd])]
 obtain ⟨i0,hi0,hz0,hz1,hz2⟩:=info_parts Yj
 obtain ⟨e0,g0⟩:=h0
 have hlt:=g0.lt
 have ht:t.data.toList.length=t.size:=Array.length_toList
 obtain ⟨v',w',hr,h2,h3,_⟩:=Lib.run_append_own_string (P:=Tryz.prog) w B _ _ o.type 5 i0 Tryz.underlying34 Tryz.underlying9 hi0 hz0 hz1 hz2 _ n0 _ g0 t (by unfold maxLen;omega) (by omega) hB
 unfold Oper.wp execOp
 simp only [ho,resolve,invoke,builtin,Sem.run_bind,Sem.run_pure,Result.andThen_ok,List.map_toArray,List.map_cons,List.map_nil,hs,hx,hr]
 obtain ⟨ao,c,rfl⟩:=zbr h2
 rw [zbj] at h2
 exact h _ _ _ _ ⟨by rw [List.length_append,ht,e0],h2⟩ (Zi h3 (fun k hk=>(hlt k hk).1) hB)
theorem OwnB.one (w:World) (B:Nat) (hB:B<=w.heap.size) (b:UInt8) {k:Int} (h:(b.toNat:Int)=k):OwnB (w.alloc (.cells #[.int .u8 k] 5)) B (some ⟨w.heap.size,0,none⟩) 1 1 [b] :=by
 subst h
 exact ⟨rfl,by simp [outs], .inr ⟨w.heap.size,1, #[.int .u8 (b.toNat:Int)],rfl,hB,heap_alloc_new w _,Nat.le_refl _,by unfold maxLen;omega,rfl,by simp [outs]⟩⟩
def nbB (nb:Bool) (n:Nat):List UInt8:=match nb with
 |true=>be n 4
 |false=> []
def encOut (k:UInt8) (doc:ByteArray) (nb:Bool) (n:Nat) (sd:Bool) (er:Int) (bs:List UInt8):Int×List UInt8:=
 if sd=true then
  (if er=0 then
    (if 60000<(([k] ++be doc.size 1++doc.data.toList++nbB nb n)++bs).length then (3, []) else (0,([k] ++be doc.size 1++doc.data.toList++nbB nb n)++bs))
   else (er, []))
 else (1, [])
structure EncH (w:World) (c:MC) (sd:Bool) (er:Int) (bs:List UInt8):Prop where
 HS:Hid (∀W,Below w.heap.size w W->Calls Tryz.prog 42 #[.agg (mcells c).toArray] W fun e w'=>e= .returned (.bool sd)/\Below W.heap.size W w')
 HT:sd=true->Hid (∀W,Below w.heap.size w W->Calls Tryz.prog 45 #[.agg (mcells c).toArray] W fun e w'=>(∃a n cp,e= .returned (.tuple #[.slice a n cp, .int .u16 er])/\IsB w' w'.heap.size a n cp bs)/\Below W.heap.size W w')
set_option maxRecDepth 100000 in
theorem zf1 (w:World) (c:MC) {er:Int} {bs:List UInt8} (H:EncH w c false er bs):
 Calls Tryz.prog 12 #[.agg (mcells c).toArray] w fun e w'=>e= .returned (.tuple #[.slice none 0 0, .int .u16 1])/\Below w.heap.size w w':=by
 have HS:=H.HS
 have hB0:Below w.heap.size w (w.alloc (.cells (mcells c).toArray 46)):=(Below.refl _ _).alloc (Nat.le_refl _) _
 have bx:=BC.start w (mcells c).toArray 46
 clear H
 go_enter Tryz.func12,Tryz.ntmps12
 go_wp2_with (first|(refine Zp rfl _ rfl ?_;refine ⟨w.heap.size,mcells c,rfl,rfl,bx, ?_⟩)|(go_at_call 42;(with_reducible refine (HS.out _ hB0).mono ?_);rintro e w1 ⟨rfl,hb1⟩))
 go_returns
 exact ⟨rfl,hB0.on hb1 hB0.size⟩
set_option maxRecDepth 100000 in
theorem zmo (w:World) (c:MC) {er:Int} {bs:List UInt8} (H:EncH w c true er bs) (k:UInt8) (hk:(k.toNat:Int)=c.k) (N:Nat) (hN:c.n+1=N) (hN2:N<=5001) (nb:Bool) (hnb:numberedB c.k=nb) (hd:c.doc.size<=20) (hbs:bs.length<=70368744177665):
 Calls Tryz.prog 12 #[.agg (mcells c).toArray] w fun e w'=>(∃a n cp,e= .returned (.tuple #[.slice a n cp, .int .u16 (encOut k c.doc nb N true er bs).1])/\IsB w' w'.heap.size a n cp (encOut k c.doc nb N true er bs).2)/\Below w.heap.size w w':=by
 have HS:=H.HS
 have HT:=H.HT rfl
 have HK:=qh hk
 have hB0:Below w.heap.size w (w.alloc (.cells (mcells c).toArray 46)):=(Below.refl _ _).alloc (Nat.le_refl _) _
 have bx:=BC.start w (mcells c).toArray 46
 have hlt:w.heap.size<(w.alloc (.cells (mcells c).toArray 46)).heap.size:=by simp
 have HNB:Hid (∀W,Calls Tryz.prog 44 #[.int .u8 c.k] W fun e w'=>e= .returned (.bool nb)/\w'=W):=fun W=>by rw [<-hnb];exact Y3 c.k W
 have HN:=qh hN
 have e1:IntKind.i64.wrap (c.n+1)=(N:Int):=by rw [IntKind.wrap_i64];omega
 obtain ⟨R,hR⟩:∃R,encOut k c.doc nb N true er bs=R:=⟨_,rfl⟩
 rw [hR]
 have HR:=qh hR
 have hdd:((c.doc.size:Nat):Int)<=20:=by omega
 clear H hR hk hN hnb
 go_enter Tryz.func12,Tryz.ntmps12
 go_wp2_with (first|(refine Zp rfl _ rfl ?_;refine ⟨w.heap.size,mcells c,rfl,rfl,bx, ?_⟩)|(go_at_call 42;(with_reducible refine (HS.out _ hB0).mono ?_);rintro e w1 ⟨rfl,hb1⟩))
 replace bx:=bx.keep hb1 bx.lt
 have hB1:=hB0.on hb1 hB0.size
 have hw1:w.heap.size<w1.heap.size:=bx.lt
 have HFB:Hid (∀W,Below w1.heap.size w1.drew W->W.cell? ⟨w.heap.size,0,none⟩=some (.int .u8 c.k)/\W.cell? ⟨w.heap.size,1,none⟩=some (.string c.doc)):=fun W hW=>⟨Zd hW (bx.at_ 0 _ rfl) hw1,Zd hW (bx.at_ 1 _ rfl) hw1⟩
 have HO1:Hid (OwnB (w1.alloc (.cells #[.int .u8 c.k] 5)).drew w1.heap.size (some ⟨w1.heap.size,0,none⟩) 1 1 [k]):=OwnB.one w1.drew w1.heap.size (Nat.le_refl _) k HK.out
 have HBA:Hid (Below w1.heap.size w1.drew (w1.alloc (.cells #[.int .u8 c.k] 5)).drew):=(Below.refl w1.drew.heap.size w1.drew).alloc (Nat.le_refl _) (.cells #[.int .u8 c.k] 5)
 have hz0:w1.heap.size<=(w1.alloc (.cells #[.int .u8 c.k] 5)).drew.heap.size:=HBA.out.size
 refine wp_region_noPanic ?_
 go_region_held_law (fun W=>W.cell? ⟨w.heap.size,0,none⟩=some (.int .u8 c.k)/\W.cell? ⟨w.heap.size,1,none⟩=some (.string c.doc))
  ((refine HFB.out _ ?_;(first|(with_reducible exact Below.refl _ _)|(with_reducible exact HBA.out)|(with_reducible exact hb12)|(with_reducible exact hb13))))
  (first
   |(go_at_call 43;(with_reducible refine (ze4 c.doc.size (w1.alloc (.cells #[.int .u8 c.k] 5)).drew w1.heap.size hz0 (some ⟨w1.heap.size,0,none⟩) 1 1 [k] HO1.out (by simp)).mono ?_);rintro e w2 ⟨⟨a2,n2,c2,rfl,hO2⟩,hb2⟩;have hb12:=HBA.out.trans hb2;have hz2:w1.heap.size<=w2.heap.size:=hb12.size)
   |(refine zk0 rfl (.tmp 16) (.tmp 18) rfl w1.heap.size a2 n2 c2 _ c.doc rfl rfl hO2 hz2 (by simp [Zc];omega) ?_;intro a3 n3 c3 w3 hO3 hb3;have hb13:=hb12.trans hb3))
 all_goals
  refine NoPanic.normal ?_
  have by3:=(Yo bx).keep hb13 hw1
  have hB3:Below w.heap.size w w3:=hB1.drew.trans (hb13.mono hB1.size)
  have hz13:w1.heap.size<=w3.heap.size:=hb13.size
  clear hb1 hb2 hb3 hb12 hb13 hO2 HO1 HBA HFB bx hz0 hz2
  have y0:=by3.at_ 0 _ rfl;have y2:=by3.at_ 2 _ rfl
  have hz3:w1.heap.size<=w3.heap.size:=hz13
  cases nb with
  | false =>
    rw [show ([k] ++be c.doc.size 1++c.doc.data.toList:List UInt8)=([k] ++be c.doc.size 1++c.doc.data.toList++nbB false N) by simp [nbB]] at hO3
    have hpre:Hid (([k] ++be c.doc.size 1++c.doc.data.toList++nbB false N).length<=30):=by
     show _<=_
     simp [Zc,nbB]
     have h5:c.doc.data.size=c.doc.size:=rfl
     omega
    obtain ⟨P,hP⟩:∃P,P=([k] ++be c.doc.size 1++c.doc.data.toList++nbB false N):=⟨_,rfl⟩
    rw [<-hP] at hO3 hpre
    have HP:=qh hP
    clear hP
    by_cases he:er=0
    .subst he
     go_wp2_with (first|(go_at_call 44;(with_reducible refine (HNB.out _).mono ?_);rintro e w0 ⟨rfl,hw0⟩;obtain rfl:=hw0.symm)|(refine Zp rfl _ rfl ?_;refine ⟨w.heap.size,mcells c,rfl,rfl,by3, ?_⟩)|(go_at_call 45;(with_reducible refine (HT.out _ hB3).mono ?_);rintro e w5 ⟨⟨a5,n5,c5,rfl,hI5⟩,hb5⟩;have hO5:=OwnB.below hO3 hb5;have hB5:=hB3.on hb5 hB3.size;have hz5:w1.heap.size<=w5.heap.size:=Nat.le_trans hz3 hb5.size)|(at_builtin;refine zah rfl (.tmp 36) (.tmp 37) rfl w1.heap.size w5.heap.size a3 n3 c3 _ a5 n5 c5 bs rfl rfl hO5 hI5 hz5 (by have:=hpre.out;omega) ?_;intro a6 n6 c6 w6 hO6 hb6;have hn6:=hO6.1;have HN6:=qh hn6;clear hn6))
     .go_returns
      have hR2:encOut k c.doc false N true 0 bs=(3, []):=by
       rw [encOut,if_pos rfl,if_pos rfl, <-HP.out,if_pos (by have:=HN6.out;omega)]
      rw [<-HR.out,hR2]
      exact ⟨⟨none,0,0,rfl, .nil _ _⟩,hB5.trans (hb6.mono hB1.size)⟩
     .go_returns
      have hR2:encOut k c.doc false N true 0 bs=(0,P++bs):=by
       rw [encOut,if_pos rfl,if_pos rfl, <-HP.out,if_neg (by have:=HN6.out;omega)]
      rw [<-HR.out,hR2]
      exact ⟨⟨a6,n6,c6,rfl,hO6.isB⟩,hB5.trans (hb6.mono hB1.size)⟩
    .have fe:(er !=0)=true:=by simp [he]
     have HE:=qh he
     clear he
     go_wp2_with (first|(go_at_call 44;(with_reducible refine (HNB.out _).mono ?_);rintro e w0 ⟨rfl,hw0⟩;obtain rfl:=hw0.symm)|(refine Zp rfl _ rfl ?_;refine ⟨w.heap.size,mcells c,rfl,rfl,by3, ?_⟩)|(go_at_call 45;(with_reducible refine (HT.out _ hB3).mono ?_);rintro e w5 ⟨⟨a5,n5,c5,rfl,hI5⟩,hb5⟩;have hB5:=hB3.on hb5 hB3.size))
     go_returns
     have hR2:encOut k c.doc false N true er bs=(er, []):=by
      rw [encOut,if_pos rfl,if_neg HE.out]
     rw [<-HR.out,hR2]
     exact ⟨⟨none,0,0,rfl, .nil _ _⟩,hB5⟩
  | true =>
    go_wp2_with (first|(go_at_call 44;(with_reducible refine (HNB.out _).mono ?_);rintro e w0 ⟨rfl,hw0⟩;obtain rfl:=hw0.symm)|(go_at_call 43;(with_reducible refine (Kc N w3 w1.heap.size hz3 a3 n3 c3 _ hO3 (by simp [Zc];have h5:c.doc.data.size=c.doc.size:=rfl;omega)).mono ?_);rintro e w4 ⟨⟨a4,n4,c4,rfl,hO4⟩,hb4⟩;have by4:=by3.keep hb4 hw1;have hB4:Below w.heap.size w w4:=hB3.trans (hb4.mono hB1.size);have hz4:w1.heap.size<=w4.heap.size:=Nat.le_trans hz3 hb4.size)|(refine Zp rfl _ rfl ?_;refine ⟨w.heap.size,mcells c,rfl,rfl,by4, ?_⟩))
    rw [show ([k] ++be c.doc.size 1++c.doc.data.toList++be N 4:List UInt8)=([k] ++be c.doc.size 1++c.doc.data.toList++nbB true N) by simp [nbB]] at hO4
    have hpre:Hid (([k] ++be c.doc.size 1++c.doc.data.toList++nbB true N).length<=30):=by
     show _<=_
     simp [Zc,nbB]
     have h5:c.doc.data.size=c.doc.size:=rfl
     omega
    obtain ⟨P,hP⟩:∃P,P=([k] ++be c.doc.size 1++c.doc.data.toList++nbB true N):=⟨_,rfl⟩
    rw [<-hP] at hO4 hpre
    have HP:=qh hP
    clear hP
    by_cases he:er=0
    .subst he
     go_wp2_with (first|(refine Zp rfl _ rfl ?_;refine ⟨w.heap.size,mcells c,rfl,rfl,by4, ?_⟩)|(go_at_call 45;(with_reducible refine (HT.out _ hB4).mono ?_);rintro e w5 ⟨⟨a5,n5,c5,rfl,hI5⟩,hb5⟩;have hO5:=OwnB.below hO4 hb5;have hB5:=hB4.on hb5 hB4.size;have hz5:w1.heap.size<=w5.heap.size:=Nat.le_trans hz4 hb5.size)|(at_builtin;refine zah rfl (.tmp 36) (.tmp 37) rfl w1.heap.size w5.heap.size a4 n4 c4 _ a5 n5 c5 bs rfl rfl hO5 hI5 hz5 (by have:=hpre.out;omega) ?_;intro a6 n6 c6 w6 hO6 hb6;have hn6:=hO6.1;have HN6:=qh hn6;clear hn6))
     .go_returns
      have hR2:encOut k c.doc true N true 0 bs=(3, []):=by
       rw [encOut,if_pos rfl,if_pos rfl, <-HP.out,if_pos (by have:=HN6.out;omega)]
      rw [<-HR.out,hR2]
      exact ⟨⟨none,0,0,rfl, .nil _ _⟩,hB5.trans (hb6.mono hB1.size)⟩
     .go_returns
      have hR2:encOut k c.doc true N true 0 bs=(0,P++bs):=by
       rw [encOut,if_pos rfl,if_pos rfl, <-HP.out,if_neg (by have:=HN6.out;omega)]
      rw [<-HR.out,hR2]
      exact ⟨⟨a6,n6,c6,rfl,hO6.isB⟩,hB5.trans (hb6.mono hB1.size)⟩
    .have fe:(er !=0)=true:=by simp [he]
     have HE:=qh he
     clear he
     go_wp2_with (first|(refine Zp rfl _ rfl ?_;refine ⟨w.heap.size,mcells c,rfl,rfl,by4, ?_⟩)|(go_at_call 45;(with_reducible refine (HT.out _ hB4).mono ?_);rintro e w5 ⟨⟨a5,n5,c5,rfl,hI5⟩,hb5⟩;have hB5:=hB4.on hb5 hB4.size))
     go_returns
     have hR2:encOut k c.doc true N true er bs=(er, []):=by
      rw [encOut,if_pos rfl,if_neg HE.out]
     rw [<-HR.out,hR2]
     exact ⟨⟨none,0,0,rfl, .nil _ _⟩,hB5⟩
noncomputable def tailM (m:Ms):Int×List UInt8:=
 if m.k=1 then (0,be m.f.length 1++encFs m.f)
 else if m.k=3 then (outN (enSound m.e) (encE m.e),outB (enSound m.e) (encE m.e))
 else if m.k=5 then (outN (enSound m.e) (encE m.e),outB (enSound m.e) (encE m.e))
 else if m.k=4 then (if m.there=true then (outN (lightB m.v) (encV m.v),1::outB (lightB m.v) (encV m.v)) else (0, [0]))
 else if m.k=6 then (0,be m.src.toNat 4++be m.seq.toNat 4++be m.err.toNat 2)
 else (0, [])
structure Ms.Fits (m:Ms):Prop where
 small:m.e.small
 e:(encE m.e).length<=70368744177664
 v:(encV m.v).length<=70368744177664
 wt:m.v.weight<=4611686018427387904
 f:(encFs m.f).length<=70368744177664
theorem zaw (sd:Bool) (l:List UInt8):(outB sd l).length<=l.length:=by
 unfold outB
 split
 .split
  .exact Nat.zero_le _
  .exact Nat.le_refl _
 .exact Nat.zero_le _
set_option maxRecDepth 100000 in
theorem zi4 (m:Ms) (w:World) (hT:Tabs w) (c:MC) (hm:IsMsg w w.heap.size m c) (hf:m.Fits) (h1:1<=m.k) (h6:m.k<=6):
 Calls Tryz.prog 45 #[.agg (mcells c).toArray] w fun e w'=>(∃a n cp,e= .returned (.tuple #[.slice a n cp, .int .u16 (tailM m).1])/\IsB w' w'.heap.size a n cp (tailM m).2)/\Below w.heap.size w w':=by
 obtain ⟨s1,s2,s3,s4,s5⟩:=hf
 cases hm with
 |mk c e v f hb he hv hff=>
 dsimp only at s1 s2 s3 s4 s5 h1 h6
 have HE:Hid (∀W,Below w.heap.size w W->Calls Tryz.prog 92 #[.agg #[.int .u8 c.e.k, .int .u32 c.e.src, .int .u32 c.e.seq, .int .u8 c.e.v.k, .int .i64 c.e.v.n, .string c.e.v.s, .slice c.e.v.la c.e.v.ll c.e.v.lc, .slice c.e.v.oa c.e.v.ol c.e.v.oc, .slice c.e.oa c.e.ol c.e.oc]] W fun e' w'=>(∃a n c,e'= .returned (.tuple #[.slice a n c, .int .u16 (outN (enSound e) (encE e))])/\IsB w' w'.heap.size a n c (outB (enSound e) (encE e)))/\Below W.heap.size W w'):=fun W hW=>
  zk1 (enSound e) W c.e e (he.later_ hW) (fun W' hW'=>zei e W' ((hT.below hW).below hW') c.e ((he.later_ hW).later_ hW') s1) s2
 have HV:Hid (∀W,Below w.heap.size w W->Calls Tryz.prog 93 #[.agg #[.int .u8 c.v.k, .int .i64 c.v.n, .string c.v.s, .slice c.v.la c.v.ll c.v.lc, .slice c.v.oa c.v.ol c.v.oc]] W fun e' w'=>(∃a n c,e'= .returned (.tuple #[.slice a n c, .int .u16 (outN (lightB v) (encV v))])/\IsB w' w'.heap.size a n c (outB (lightB v) (encV v)))/\Below W.heap.size W w'):=fun W hW=>
  zh9 (lightB v) W c.v.k c.v.n c.v.s c.v.la c.v.ll c.v.lc c.v.oa c.v.ol c.v.oc v (hv.later_ hW) (fun W' hW'=>zcw v W' ((hT.below hW).below hW') c.v ((hv.later_ hW).later_ hW') s4) s3
 by_cases e1:c.k=1
 .have h:=zgl w c e1 f hff s5
  rw [tailM,if_pos e1];exact h
 by_cases e3:c.k=3
 .have h:=zfn w c e3 HE
  rw [tailM,if_neg e1,if_pos e3];exact h
 by_cases e5:c.k=5
 .have h:=zgg w c e5 HE
  rw [tailM,if_neg e1,if_neg e3,if_pos e5];exact h
 by_cases e4:c.k=4
 .rw [tailM,if_neg e1,if_neg e3,if_neg e5,if_pos e4]
  cases ht:c.there with
  |true=>rw [if_pos rfl];exact zlu w c e4 ht (Nat.le_trans (zaw _ _) s3) HV
  |false=>rw [if_neg (by simp)];exact zot w c e4 ht
 by_cases e6:c.k=6
 .have q0:=hb.s0;have q1:=hb.s1;have q2:=hb.q0;have q3:=hb.q1;have q4:=hb.e0;have q5:=hb.e1
  rw [tailM,if_neg e1,if_neg e3,if_neg e5,if_neg e4,if_pos e6]
  exact zof w c e6 c.src.toNat c.seq.toNat c.err.toNat (by omega) (by omega) (by omega) (by omega) (by omega) (by omega)
 .rw [tailM,if_neg e1,if_neg e3,if_neg e5,if_neg e4,if_neg e6]
  exact zqw w c (by omega)
noncomputable def encMsg (m:Ms):Int×List UInt8:=encOut (UInt8.ofNat m.k.toNat) m.doc (numberedB m.k) (m.n+1).toNat (msgSound m) (tailM m).1 (tailM m).2
theorem za9 {m:Ms} (h:msgSound m=true):1<=m.k/\m.k<=6/\m.doc.size<=20/\ -1<=m.n/\m.n<=5000:=by
 simp only [msgSound,sndM,Bool.and_eq_true,decide_eq_true_eq] at h
 obtain ⟨⟨h1,h2⟩,_,h3,h4,h5,_⟩:=h
 refine ⟨h1,h2,h3, ?_, ?_⟩
 .split at h4<;>omega
 .split at h5<;>omega
theorem zoi (m:Ms) (hf:m.Fits):(tailM m).2.length<=70368744177665:=by
 obtain ⟨s1,s2,s3,s4,s5⟩:=hf
 have h1:=zaw (enSound m.e) (encE m.e)
 have h2:=zaw (lightB m.v) (encV m.v)
 unfold tailM
 repeat' split
 all_goals first
  |(simp only [List.length_append,List.length_cons,Zc,List.length_nil];omega)
  |(simp only [];omega)
theorem Q8 (m:Ms) (w:World) (hT:Tabs w) (c:MC) (hm:IsMsg w w.heap.size m c) (hf:m.Fits):
 Calls Tryz.prog 12 #[.agg (mcells c).toArray] w fun e w'=>(∃a n cp,e= .returned (.tuple #[.slice a n cp, .int .u16 (encMsg m).1])/\IsB w' w'.heap.size a n cp (encMsg m).2)/\Below w.heap.size w w':=by
 have HS:Hid (∀W,Below w.heap.size w W->Calls Tryz.prog 42 #[.agg (mcells c).toArray] W fun e w'=>e= .returned (.bool (msgSound m))/\Below W.heap.size W w'):=fun W hW=>zll m W (hT.below hW) c (hm.later_ hW) hf.small
 cases hs:msgSound m with
 | false=>
   rw [hs] at HS
   refine (zf1 w c (er:=0) (bs:= []) ⟨HS,fun h=>by cases h⟩).mono fun e w' ⟨h1,h2⟩=>⟨⟨none,0,0, ?_, ?_⟩,h2⟩
   .rw [h1,encMsg,hs];rfl
   .rw [encMsg,hs];exact .nil _ _
 | true=>
   rw [hs] at HS
   obtain ⟨b1,b2,b3,b4,b5⟩:=za9 hs
   have hl:=zoi m hf
   have HT:Hid (∀W,Below w.heap.size w W->Calls Tryz.prog 45 #[.agg (mcells c).toArray] W fun e w'=>(∃a n cp,e= .returned (.tuple #[.slice a n cp, .int .u16 (tailM m).1])/\IsB w' w'.heap.size a n cp (tailM m).2)/\Below W.heap.size W w'):=fun W hW=>zi4 m W (hT.below hW) c (hm.later_ hW) hf b1 b2
   have h:=zmo w c (er:=(tailM m).1) (bs:=(tailM m).2) ⟨HS,fun _=>HT⟩ (UInt8.ofNat m.k.toNat)
   rw [encMsg,hs]
   cases hm with
   | mk c e v f hb he hv hff=>
     dsimp only at b1 b2 b3 b4 b5 h ⊢
     exact h (by simp;omega) (c.n+1).toNat (by omega) (by omega) (numberedB c.k) rfl b3 hl
end Go.Proofs.YtfoahkbnheijcaaGreatDoor
