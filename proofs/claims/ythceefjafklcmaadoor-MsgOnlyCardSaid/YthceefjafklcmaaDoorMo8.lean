/-
  Contracts of the functions that the law reaches: (*msg.reader).tail by kinds. (*msg.reader).tail where fields are read. (*msg.reader).tail of any message. msg.Decode. What a message that is read weighs. msg.Decode. What msg.Decode comes to, by itself. conciliatorref19.Same. Soundness of a message: the document and the program agree (by itself). conciliatorref19.Sound by kinds. conciliatorref19.Sound of any message. The chapter's example, by itself. known of law19: the walk. MsgOnly: contracts. known of law19: the walk. MsgOnly: the walk.
-/
import Derived.Test.YthceefjafklcmaaDoorMo7
import Derived.Deep.RegionHeldLaw
namespace Go.Proofs.YthceefjafklcmaaDoor
open Go.RowKit
theorem bc_setMid {b:Nat} :∀(vs pre cs post:List Value) (W:World),cs.length=vs.length→BC W b (pre++cs++post)→BC (W.setCells b pre.length vs) b (pre++vs++post)
  | [],pre,cs,post,_,h,hb=>by
    have:cs= [] :=List.length_eq_zero_iff.1 h
    subst this;exact hb
  | v ::vs,pre,cs,post,_,h,hb=>by
    cases cs with
    |nil=>cases h
    | cons x cs=>
      have h1:=hb.set (i:=pre.length) (x:=v) (by simp)
      have e:(pre++(x::cs)++post).set pre.length v=(pre++ [v])++cs++post:=by simp
      rw [e] at h1
      have h2:=bc_setMid vs (pre++ [v]) cs post _ (by simpa using h) h1
      have e2:(pre++ [v]).length=pre.length+1:=by simp
      rw [e2] at h2
      simpa [World.setCells] using h2
theorem bc_setME {W:World} {b:Nat} {c:MC} (h:BC W b (mcells c)) (cv:EC):BC (W.setCells b 3 [.int .u8 cv.k, .int .u32 cv.src, .int .u32 cv.seq, .int .u8 cv.v.k, .int .i64 cv.v.n, .string cv.v.s, .slice cv.v.la cv.v.ll cv.v.lc, .slice cv.v.oa cv.v.ol cv.v.oc, .slice cv.oa cv.ol cv.oc]) b (mcells { c with e:=cv }):=
  bc_setMid [.int .u8 cv.k, .int .u32 cv.src, .int .u32 cv.seq, .int .u8 cv.v.k, .int .i64 cv.v.n, .string cv.v.s, .slice cv.v.la cv.v.ll cv.v.lc, .slice cv.v.oa cv.v.ol cv.v.oc, .slice cv.oa cv.ol cv.oc] [.int .u8 c.k, .string c.doc, .int .i64 c.n] [.int .u8 c.e.k, .int .u32 c.e.src, .int .u32 c.e.seq, .int .u8 c.e.v.k, .int .i64 c.e.v.n, .string c.e.v.s, .slice c.e.v.la c.e.v.ll c.e.v.lc, .slice c.e.v.oa c.e.v.ol c.e.v.oc, .slice c.e.oa c.e.ol c.e.oc] [.int .u32 c.src, .int .u32 c.seq, .int .u16 c.err, .bool c.there, .int .u8 c.v.k, .int .i64 c.v.n, .string c.v.s, .slice c.v.la c.v.ll c.v.lc, .slice c.v.oa c.v.ol c.v.oc, .slice c.fa c.fl c.fc] W rfl h
theorem bc_setMV {W:World} {b:Nat} {c:MC} (h:BC W b (mcells c)) (cv:VC):BC (W.setCells b 16 [.int .u8 cv.k, .int .i64 cv.n, .string cv.s, .slice cv.la cv.ll cv.lc, .slice cv.oa cv.ol cv.oc]) b (mcells { c with v:=cv }):=
  bc_setMid [.int .u8 cv.k, .int .i64 cv.n, .string cv.s, .slice cv.la cv.ll cv.lc, .slice cv.oa cv.ol cv.oc] [.int .u8 c.k, .string c.doc, .int .i64 c.n, .int .u8 c.e.k, .int .u32 c.e.src, .int .u32 c.e.seq, .int .u8 c.e.v.k, .int .i64 c.e.v.n, .string c.e.v.s, .slice c.e.v.la c.e.v.ll c.e.v.lc, .slice c.e.v.oa c.e.v.ol c.e.v.oc, .slice c.e.oa c.e.ol c.e.oc, .int .u32 c.src, .int .u32 c.seq, .int .u16 c.err, .bool c.there] [.int .u8 c.v.k, .int .i64 c.v.n, .string c.v.s, .slice c.v.la c.v.ll c.v.lc, .slice c.v.oa c.v.ol c.v.oc] [.slice c.fa c.fl c.fc] W rfl h
theorem thereAt {W:World} {b:Nat} {cs:List Value} (h:BC W b cs) (o n:Nat) (hn:o+n≤cs.length):W.there b o n:=fun j hj=>⟨by rw [h.at_ (o+j) (cs[o+j]'(by omega)) (List.getElem?_eq_getElem _)];rfl,h.fr (o+j)⟩
theorem einfo:(Tryd.prog.info? 31).map (·.size)=some 9:=by kernel_rfl
theorem vinfo:(Tryd.prog.info? 28).map (·.size)=some 5:=by kernel_rfl
theorem wp_storeE {ops:Array Oper} {rest:List Oper} {op:Oper} {a:Act} {Q:Exit→Act→World→Prop} {W:World} (hgd:op.guard=none) (x y:Operand) (ho:op.op= .store 31 x y)
    (h:∃(b:Nat) (c:MC) (cv:EC),a.eval x= .pointer (some ⟨b,3,none⟩)∧a.eval y= .agg #[.int .u8 cv.k, .int .u32 cv.src, .int .u32 cv.seq, .int .u8 cv.v.k, .int .i64 cv.v.n, .string cv.v.s, .slice cv.v.la cv.v.ll cv.v.lc, .slice cv.v.oa cv.v.ol cv.v.oc, .slice cv.oa cv.ol cv.oc] ∧BC W b (mcells c)∧(BC (W.setCells b 3 [.int .u8 cv.k, .int .u32 cv.src, .int .u32 cv.seq, .int .u8 cv.v.k, .int .i64 cv.v.n, .string cv.v.s, .slice cv.v.la cv.v.ll cv.v.lc, .slice cv.v.oa cv.v.ol cv.v.oc, .slice cv.oa cv.ol cv.oc]) b (mcells { c with e:=cv })→wpList Tryd.prog ops Q rest (a.put op.dst undef) (W.setCells b 3 [.int .u8 cv.k, .int .u32 cv.src, .int .u32 cv.seq, .int .u8 cv.v.k, .int .i64 cv.v.n, .string cv.v.s, .slice cv.v.la cv.v.ll cv.v.lc, .slice cv.v.oa cv.v.ol cv.v.oc, .slice cv.oa cv.ol cv.oc]))):wpList Tryd.prog ops Q (op::rest) a W:=by
  obtain ⟨b,c,cv,hx,hy,hb,h⟩:=h
  exact wpList_store_mid hgd _ x y ho b 3 #[.int .u8 cv.k, .int .u32 cv.src, .int .u32 cv.seq, .int .u8 cv.v.k, .int .i64 cv.v.n, .string cv.v.s, .slice cv.v.la cv.v.ll cv.v.lc, .slice cv.v.oa cv.v.ol cv.v.oc, .slice cv.oa cv.ol cv.oc] hx hy (thereAt hb 3 9 (by simp [mcells])) einfo (all_oneCell_toArray (List.all_eq_true.1 (rfl:([.int .u8 cv.k, .int .u32 cv.src, .int .u32 cv.seq, .int .u8 cv.v.k, .int .i64 cv.v.n, .string cv.v.s, .slice cv.v.la cv.v.ll cv.v.lc, .slice cv.v.oa cv.v.ol cv.v.oc, .slice cv.oa cv.ol cv.oc] :List Value).all (·.oneCell')=true))) (h (bc_setME hb cv))
theorem wp_storeV {ops:Array Oper} {rest:List Oper} {op:Oper} {a:Act} {Q:Exit→Act→World→Prop} {W:World} (hgd:op.guard=none) (x y:Operand) (ho:op.op= .store 28 x y)
    (h:∃(b:Nat) (c:MC) (cv:VC),a.eval x= .pointer (some ⟨b,16,none⟩)∧a.eval y= .agg #[.int .u8 cv.k, .int .i64 cv.n, .string cv.s, .slice cv.la cv.ll cv.lc, .slice cv.oa cv.ol cv.oc] ∧BC W b (mcells c)∧(BC (W.setCells b 16 [.int .u8 cv.k, .int .i64 cv.n, .string cv.s, .slice cv.la cv.ll cv.lc, .slice cv.oa cv.ol cv.oc]) b (mcells { c with v:=cv })→wpList Tryd.prog ops Q rest (a.put op.dst undef) (W.setCells b 16 [.int .u8 cv.k, .int .i64 cv.n, .string cv.s, .slice cv.la cv.ll cv.lc, .slice cv.oa cv.ol cv.oc]))):wpList Tryd.prog ops Q (op::rest) a W:=by
  obtain ⟨b,c,cv,hx,hy,hb,h⟩:=h
  exact wpList_store_mid hgd _ x y ho b 16 #[.int .u8 cv.k, .int .i64 cv.n, .string cv.s, .slice cv.la cv.ll cv.lc, .slice cv.oa cv.ol cv.oc] hx hy (thereAt hb 16 5 (by simp [mcells])) vinfo (all_oneCell_toArray (List.all_eq_true.1 (rfl:([.int .u8 cv.k, .int .i64 cv.n, .string cv.s, .slice cv.la cv.ll cv.lc, .slice cv.oa cv.ol cv.oc] :List Value).all (·.oneCell')=true))) (h (bc_setMV hb cv))
theorem RdM.far {w:World} {rb b:Nat} {bs:List UInt8} {sh:Bool} (h:RdM w rb bs sh) (hb:rb<b):∀(vs:List Value) (o:Nat),RdM (w.setCells b o vs) rb bs sh:=fun vs o=>by
  obtain ⟨⟨a,n,c,h0,hI⟩,h1,h2,h3⟩:=h
  have hB:Below b w (w.setCells b o vs):=below_setCells (Nat.le_refl _) vs o w w (Below.refl _ _)
  exact ⟨⟨a,n,c,keep_cell hB h0 hb,hI.keep (hB.mono (by omega))⟩,keep_cell hB h1 hb,by rw [World.frozen?_setCells];exact h2,by rw [World.frozen?_setCells];exact h3⟩
theorem heap_setCells_far {b k:Nat} (hk:k≠b):∀(vs:List Value) (o:Nat) (W:World),(W.setCells b o vs).heap[k]? =W.heap[k]?
  | [],_,_=>rfl
  |v::vs,o,W=>(heap_setCells_far hk vs (o+1) (W.setCell ⟨b,o,none⟩ v)).trans (heap_setCell_other _ _ _ _ hk)
theorem size_setCells (b:Nat):∀(vs:List Value) (o:Nat) (W:World),(W.setCells b o vs).heap.size=W.heap.size
  | [],_,_=>rfl
  |v::vs,o,W=>(size_setCells b vs (o+1) (W.setCell ⟨b,o,none⟩ v)).trans (by simp)
theorem IsEntry.farM {W:World} {mb p:Nat} {x:En} {c:EC} (h:IsEntry (only (fun b=>p≤b) W) W.heap.size x c) (hp:mb<p) (o:Nat) (vs:List Value):IsEntry (only (fun b=>mb<b) (W.setCells mb o vs)) (W.setCells mb o vs).heap.size x c:=by
  rw [size_setCells]
  exact h.sub (shows_step fun k hk _=>⟨by omega,heap_setCells_far (by omega) _ _ _⟩)
theorem IsVal.farM {W:World} {mb p:Nat} {x:V} {c:VC} (h:IsVal (only (fun b=>p≤b) W) W.heap.size x c) (hp:mb<p) (o:Nat) (vs:List Value):IsVal (only (fun b=>mb<b) (W.setCells mb o vs)) (W.setCells mb o vs).heap.size x c:=by
  rw [size_setCells]
  exact h.sub (shows_step fun k hk _=>⟨by omega,heap_setCells_far (by omega) _ _ _⟩)
theorem numP_lt (k:Nat) (s:List UInt8×Bool):(numP k s).1<256 ^ k:=by
  unfold numP
  have h1:=num_lt (cutP k s).1
  have h2:(cutP k s).1.length≤k:=by
    unfold cutP
    split
    · exact Nat.zero_le _
    · rw [List.length_take];omega
  exact Nat.lt_of_lt_of_le h1 (Nat.pow_le_pow_right (by omega) h2)
theorem numP_lt4 (s:List UInt8×Bool):(numP 4 s).1<4294967296:=numP_lt 4 s
theorem numP_lt2 (s:List UInt8×Bool):(numP 2 s).1<65536:=numP_lt 2 s
theorem numP_lt1 (s:List UInt8×Bool):(numP 1 s).1<256:=numP_lt 1 s
theorem RStep.low {w w':World} {rb B:Nat} (h:RStep w w' rb) (hB:B≤rb) (hw:B≤w.heap.size):Below B w w':=⟨h.os,h.tape,h.output,h.size,fun k hk=>h.block k (by omega) (by omega)⟩
set_option maxHeartbeats 4000000 in
set_option maxRecDepth 100000 in
theorem tailR_3 (w:World) (rb mb B:Nat) (hBr:B≤rb) (hrm:rb<mb) (hTB:∀W,Below B w W→Tabs W) (c:MC) (s:List UInt8×Bool) (hR:RdM w rb s.1 s.2) (hM:BC w mb (mcells c)) (ek:c.k=3) (hl:s.1.length≤60000) {x:En} {er:Int} (hb:backE s.1=(x,er)):
    Calls Tryd.prog 12 #[.pointer (some ⟨rb,0,none⟩), .pointer (some ⟨mb,0,none⟩)] w fun e w'=>e= .returned (.int .u16 er)∧(∃cv:EC,IsEntry (only (fun b=>mb<b) w') w'.heap.size x cv∧BC w' mb (mcells { c with e:=cv }))∧RdM w' rb [] s.2∧Below B w w':=by
  have y0:=hM.at_ 0 _ rfl
  rw [ek] at y0;clear ek
  have hlt:=hM.lt
  have HB:=Lib.hid hb
  have HTB:=Lib.hid hTB
  clear hb hTB
  go_enter Tryd.func12,Tryd.ntmps12
  go_wp2_with (first|(refine wp_storeE rfl _ _ rfl ?_;refine ⟨mb,c,cv,rfl,rfl,hM2, ?_⟩;intro hM3)|(go_at_call 23;(with_reducible refine (allM_any w rb s hR).mono ?_);rintro e w1 ⟨⟨a1,n1,c1,rfl,hI⟩,hR1,hS⟩;have hM1:=hM.next hS (by omega);have hB1:=hS.low hBr (by omega))|(go_at_call 22;(with_reducible refine (backE_new w1 (HTB.out _ hB1) a1 n1 c1 s.1 (hI.more (by have:=hR1.lt;omega)) (by omega) HB.out).mono ?_);rintro e w2 ⟨⟨cv,rfl,hE⟩,hb2⟩;have hM2:=hM1.keep hb2 hM1.lt;have hR2:=hR1.of_below hb2;have hB2:=hB1.on hb2 (by have:=hR1.lt;omega)))
  go_ret
  exact ⟨rfl,⟨cv,hE.farM hM1.lt _ _,hM3⟩,hR2.far hrm _ _,below_setCells (by omega) _ _ _ _ hB2⟩
set_option maxHeartbeats 4000000 in
set_option maxRecDepth 100000 in
theorem tailR_5 (w:World) (rb mb B:Nat) (hBr:B≤rb) (hrm:rb<mb) (hTB:∀W,Below B w W→Tabs W) (c:MC) (s:List UInt8×Bool) (hR:RdM w rb s.1 s.2) (hM:BC w mb (mcells c)) (ek:c.k=5) (hl:s.1.length≤60000) {x:En} {er:Int} (hb:backE s.1=(x,er)):
    Calls Tryd.prog 12 #[.pointer (some ⟨rb,0,none⟩), .pointer (some ⟨mb,0,none⟩)] w fun e w'=>e= .returned (.int .u16 er)∧(∃cv:EC,IsEntry (only (fun b=>mb<b) w') w'.heap.size x cv∧BC w' mb (mcells { c with e:=cv }))∧RdM w' rb [] s.2∧Below B w w':=by
  have y0:=hM.at_ 0 _ rfl
  rw [ek] at y0;clear ek
  have hlt:=hM.lt
  have HB:=Lib.hid hb
  have HTB:=Lib.hid hTB
  clear hb hTB
  go_enter Tryd.func12,Tryd.ntmps12
  go_wp2_with (first|(refine wp_storeE rfl _ _ rfl ?_;refine ⟨mb,c,cv,rfl,rfl,hM2, ?_⟩;intro hM3)|(go_at_call 23;(with_reducible refine (allM_any w rb s hR).mono ?_);rintro e w1 ⟨⟨a1,n1,c1,rfl,hI⟩,hR1,hS⟩;have hM1:=hM.next hS (by omega);have hB1:=hS.low hBr (by omega))|(go_at_call 22;(with_reducible refine (backE_new w1 (HTB.out _ hB1) a1 n1 c1 s.1 (hI.more (by have:=hR1.lt;omega)) (by omega) HB.out).mono ?_);rintro e w2 ⟨⟨cv,rfl,hE⟩,hb2⟩;have hM2:=hM1.keep hb2 hM1.lt;have hR2:=hR1.of_below hb2;have hB2:=hB1.on hb2 (by have:=hR1.lt;omega)))
  go_ret
  exact ⟨rfl,⟨cv,hE.farM hM1.lt _ _,hM3⟩,hR2.far hrm _ _,below_setCells (by omega) _ _ _ _ hB2⟩
set_option maxHeartbeats 4000000 in
set_option maxRecDepth 100000 in
theorem tailR_4n (w:World) (rb mb B:Nat) (hBr:B≤rb) (hrm:rb<mb) (c:MC) (s:List UInt8×Bool) (hR:RdM w rb s.1 s.2) (hM:BC w mb (mcells c)) (ek:c.k=4) (h1:(numP 1 s).1≠1):
    Calls Tryd.prog 12 #[.pointer (some ⟨rb,0,none⟩), .pointer (some ⟨mb,0,none⟩)] w fun e w'=>e= .returned (.int .u16 0)∧BC w' mb (mcells { c with there:=false })∧RdM w' rb (numP 1 s).2.1 (numP 1 s).2.2∧Below B w w':=by
  have y0:=hM.at_ 0 _ rfl
  rw [ek] at y0;clear ek
  have hlt:=hM.lt
  have HN:=Lib.hid (num1_any w rb s hR)
  generalize numP 1 s=ns at HN h1 ⊢
  obtain ⟨N,s1⟩:=ns
  dsimp only at HN h1 ⊢
  have f1:((N:Int)==1)=false:=by simp;omega
  have HMM:=Lib.hid hM
  clear hR h1
  go_enter Tryd.func12,Tryd.ntmps12
  go_wp2_with (go_at_call 9;(with_reducible refine HN.out.mono ?_);rintro e w1 ⟨rfl,hR1,hS⟩;have hM1:=BC.next HMM.out hS (by omega);have hB1:=hS.low hBr (by omega);have y15:=hM1.at_ 15 _ rfl;have g15:=hM1.fr 15;have y0:=hM1.at_ 0 _ rfl)
  go_ret
  exact ⟨rfl,hM1.set (i:=15) (x:= .bool false) (by simp [mcells]),hR1.far hrm [.bool false] 15,hB1.setCell (by simp;omega) _⟩
theorem tailR_4 (w:World) (rb mb B:Nat) (hBr:B≤rb) (hrm:rb<mb) (hTB:∀W,Below B w W→Tabs W) (c:MC) (s:List UInt8×Bool) (hR:RdM w rb s.1 s.2) (hM:BC w mb (mcells c)) (ek:c.k=4) (h1:(numP 1 s).1=1) (hl:(numP 1 s).2.1.length≤60000) {x:V} {er:Int} (hb:backR (numP 1 s).2.1=(x,er)):
    Calls Tryd.prog 12 #[.pointer (some ⟨rb,0,none⟩), .pointer (some ⟨mb,0,none⟩)] w fun e w'=>e= .returned (.int .u16 er)∧(∃cv:VC,IsVal (only (fun b=>mb<b) w') w'.heap.size x cv∧BC w' mb (mcells { c with there:=true,v:=cv }))∧RdM w' rb [] (numP 1 s).2.2∧Below B w w':=by
  have y0:=hM.at_ 0 _ rfl
  rw [ek] at y0;clear ek
  have hlt:=hM.lt
  have HN:=Lib.hid (num1_any w rb s hR)
  generalize numP 1 s=ns at HN h1 hl hb ⊢
  obtain ⟨N,s1⟩:=ns
  dsimp only at HN h1 hl hb ⊢
  subst h1
  have HMM:=Lib.hid hM
  have HB:=Lib.hid hb
  have HTB:=Lib.hid hTB
  clear hb hTB hR
  go_enter Tryd.func12,Tryd.ntmps12
  go_wp2_with (go_at_call 9;(with_reducible refine HN.out.mono ?_);rintro e w1 ⟨rfl,hR1,hS⟩;have hM1:=BC.next HMM.out hS (by omega);have hB1:=hS.low hBr (by omega);have y15:=hM1.at_ 15 _ rfl;have g15:=hM1.fr 15;have y0:=hM1.at_ 0 _ rfl)
  have hM2:=hM1.set (i:=15) (x:= .bool true) (by simp [mcells])
  replace hM2:BC (w1.setCell ⟨mb,15,none⟩ (.bool true)) mb (mcells { c with there:=true }):=hM2
  have hR2:RdM (w1.setCell ⟨mb,15,none⟩ (.bool true)) rb s1.1 s1.2:=hR1.far hrm [.bool true] 15
  have hB2:Below B w (w1.setCell ⟨mb,15,none⟩ (.bool true)):=hB1.setCell (by simp;omega) _
  clear y0 y15 g15 hM1 hR1 hB1 hS
  generalize w1.setCell ⟨mb,15,none⟩ (.bool true)=W1 at hM2 hR2 hB2 ⊢
  have hlt2:=hM2.lt
  go_wp2_with (first|(refine wp_storeV rfl _ _ rfl ?_;refine ⟨mb, { c with there:=true },cv,rfl,rfl,hM4, ?_⟩;intro hM5)|(go_at_call 23;(with_reducible refine (allM_any W1 rb s1 hR2).mono ?_);rintro e w3 ⟨⟨a1,n1,c1,rfl,hI⟩,hR3,hS3⟩;have hM3:=hM2.next hS3 (by omega);have hB3:=hB2.trans (hS3.low hBr (by omega)))|(go_at_call 24;(with_reducible refine (backR_new w3 (HTB.out _ hB3) a1 n1 c1 s1.1 (hI.more (by have:=hR3.lt;omega)) (by omega) HB.out).mono ?_);rintro e w4 ⟨⟨cv,rfl,hV⟩,hb4⟩;have hM4:=hM3.keep hb4 hM3.lt;have hR4:=hR3.of_below hb4;have hB4:=hB3.on hb4 (by have:=hR3.lt;omega)))
  go_ret
  exact ⟨rfl,⟨cv,hV.farM hM3.lt _ _,hM5⟩,hR4.far hrm _ _,below_setCells (by omega) _ _ _ _ hB4⟩
set_option maxHeartbeats 4000000 in
set_option maxRecDepth 100000 in
theorem tailR_6 (w:World) (rb mb B:Nat) (hBr:B≤rb) (hrm:rb<mb) (c:MC) (s:List UInt8×Bool) (hR:RdM w rb s.1 s.2) (hM:BC w mb (mcells c)) (ek:c.k=6):
    Calls Tryd.prog 12 #[.pointer (some ⟨rb,0,none⟩), .pointer (some ⟨mb,0,none⟩)] w fun e w'=>e= .returned (.int .u16 0)∧BC w' mb (mcells { c with src:=(numP 4 s).1,seq:=(numP 4 (numP 4 s).2).1,err:=(numP 2 (numP 4 (numP 4 s).2).2).1 })∧RdM w' rb (numP 2 (numP 4 (numP 4 s).2).2).2.1 (numP 2 (numP 4 (numP 4 s).2).2).2.2∧Below B w w':=by
  have y0:=hM.at_ 0 _ rfl
  rw [ek] at y0;clear ek
  have hlt:=hM.lt
  have h1:=num4_any w rb s hR
  have l1:=numP_lt4 s
  generalize numP 4 s=n1 at h1 l1 ⊢
  obtain ⟨N1,s1⟩:=n1
  dsimp only at h1 l1 ⊢
  have l2:=numP_lt4 s1
  generalize hn2:numP 4 s1=n2 at l2 ⊢
  obtain ⟨N2,s2⟩:=n2
  dsimp only at l2 ⊢
  have l3:=numP_lt2 s2
  generalize hn3:numP 2 s2=n3 at l3 ⊢
  obtain ⟨N3,s3⟩:=n3
  dsimp only at l3 ⊢
  have H1:=Lib.hid h1
  have HN2:=Lib.hid hn2
  have HN3:=Lib.hid hn3
  have HMM:=Lib.hid hM
  clear h1 hn2 hn3 hR
  go_enter Tryd.func12,Tryd.ntmps12
  go_wp2_with (first|(go_at_call 9;(with_reducible refine H1.out.mono ?_);rintro e w1 ⟨rfl,hR1,hS1⟩;have hM1:=BC.next HMM.out hS1 (by omega);have hB1:=hS1.low hBr (by omega);have H2:=num4_any w1 rb s1 hR1;rw [HN2.out] at H2;replace H2:=Lib.hid H2)|(go_at_call 9;(with_reducible refine H2.out.mono ?_);rintro e w2 ⟨rfl,hR2,hS2⟩;have hM2:=hM1.next hS2 (by omega);have hB2:=hB1.trans (hS2.low hBr (by have:=hM1.lt;omega));have y12:=hM2.at_ 12 _ rfl;have y13:=hM2.at_ 13 _ rfl;have g12:=hM2.fr 12;have g13:=hM2.fr 13))
  have hM3:BC ((w2.setCell ⟨mb,12,none⟩ (.int .u32 N1)).setCell ⟨mb,13,none⟩ (.int .u32 N2)) mb (mcells { c with src:=N1,seq:=N2 }):=(hM2.set (i:=12) (x:= .int .u32 N1) (by simp [mcells])).set (i:=13) (x:= .int .u32 N2) (by simp [mcells])
  have hR3:RdM ((w2.setCell ⟨mb,12,none⟩ (.int .u32 N1)).setCell ⟨mb,13,none⟩ (.int .u32 N2)) rb s2.1 s2.2:=(hR2.far hrm [.int .u32 N1] 12).far hrm [.int .u32 N2] 13
  have hB3:Below B w ((w2.setCell ⟨mb,12,none⟩ (.int .u32 N1)).setCell ⟨mb,13,none⟩ (.int .u32 N2)):=(hB2.setCell (by simp;omega) _).setCell (by simp;omega) _
  clear y12 y13 g12 g13 hM2 hR2 hB2 hM1 hB1 hR1 hS1 hS2 y0
  generalize (w2.setCell ⟨mb,12,none⟩ (.int .u32 N1)).setCell ⟨mb,13,none⟩ (.int .u32 N2)=W3 at hM3 hR3 hB3 ⊢
  have hlt3:=hM3.lt
  have H4:=num2_any W3 rb s2 hR3
  rw [HN3.out] at H4
  replace H4:=Lib.hid H4
  go_wp2_with (go_at_call 9;(with_reducible refine H4.out.mono ?_);rintro e w4 ⟨rfl,hR4,hS4⟩;have hM4:=hM3.next hS4 (by omega);have hB4:=hB3.trans (hS4.low hBr (by omega));have y14:=hM4.at_ 14 _ rfl;have g14:=hM4.fr 14)
  go_ret
  exact ⟨rfl,hM4.set (i:=14) (x:= .int .u16 N3) (by simp [mcells]),hR4.far hrm [.int .u16 N3] 14,hB4.setCell (by simp;omega) _⟩
end Go.Proofs.YthceefjafklcmaaDoor
namespace Go.Proofs.YthceefjafklcmaaDoor
open Go.RowKit
theorem ginfoStr:(Tryd.prog.info? 9).map (fun i=>(i.zero,i.size,i.bytes))=some (some (.string ⟨#[]⟩),1,16):=by kernel_rfl
def OwnS (w:World) (B:Nat) (a:Option Addr) (n c:Nat) (l:List ByteArray):Prop:=n=l.length∧w.ownsRow B 9 1 (.slice a n c) n (l.map Value.string)
theorem OwnS.nil (w:World) (B:Nat):OwnS w B none 0 0 [] :=⟨rfl,by simp, .inl ⟨rfl,rfl⟩⟩
def textsP:Nat→List UInt8×Bool→List ByteArray×(List UInt8×Bool)
  |0,s=>([],s)
  |n+1,s=>((textsP n s).1++ [(textP 4 (textsP n s).2).1],(textP 4 (textsP n s).2).2)
theorem textsP_len (n:Nat) (s:List UInt8×Bool):(textsP n s).1.length=n:=by
  induction n with
  |zero=>rfl
  |succ n ih=>simp [textsP,ih]
theorem text4_any (w:World) (rb:Nat) (s:List UInt8×Bool) (h:RdM w rb s.1 s.2):
    Calls Tryd.prog 10 #[.pointer (some ⟨rb,0,none⟩), .int .i64 4] w fun e w'=>e= .returned (.string (textP 4 s).1)∧RdM w' rb (textP 4 s).2.1 (textP 4 s).2.2∧RStep w w' rb:=textM_any w rb s h 4 (by omega)
theorem text1_any (w:World) (rb:Nat) (s:List UInt8×Bool) (h:RdM w rb s.1 s.2):
    Calls Tryd.prog 10 #[.pointer (some ⟨rb,0,none⟩), .int .i64 1] w fun e w'=>e= .returned (.string (textP 1 s).1)∧RdM w' rb (textP 1 s).2.1 (textP 1 s).2.2∧RStep w w' rb:=textM_any w rb s h 1 (by omega)
theorem RdM.low {w w':World} {rb p:Nat} {bs:List UInt8} {sh:Bool} (h:RdM w rb bs sh) (hb:Below p w w') (hp:rb<p):RdM w' rb bs sh:=by
  have hlt:=h.lt
  obtain ⟨⟨a,n,c,h0,hI⟩,h1,h2,h3⟩:=h
  exact ⟨⟨a,n,c,keep_cell hb h0 hp,hI.keep (hb.mono (by omega))⟩,keep_cell hb h1 hp,(hb.frozen (p:=⟨rb,0,none⟩) hp).trans h2,(hb.frozen (p:=⟨rb,1,none⟩) hp).trans h3⟩
theorem OwnS.step {w w':World} {B rb:Nat} {a:Option Addr} {n c:Nat} {l:List ByteArray} (h:OwnS w B a n c l) (hs:RStep w w' rb) (hB:rb<B):OwnS w' B a n c l:=
  ⟨h.1,h.2.kept (row:=some rb) ⟨hs.os,hs.tape,hs.output,hs.size,fun k hk hn=>hs.block k hk (fun e=>hn (by rw [e]))⟩ (.inr fun h2=>by
    have:=(h.2.lt rb h2).1
    omega)⟩
set_option maxHeartbeats 8000000 in
set_option maxRecDepth 100000 in
theorem tailR_1 (w:World) (rb mb B:Nat) (hBr:B≤rb) (hrm:rb<mb) (c:MC) (s:List UInt8×Bool) (hR:RdM w rb s.1 s.2) (hM:BC w mb (mcells c)) (ek:c.k=1) (hfa:c.fa=none) (hfl:c.fl=0) (hfc:c.fc=0):
    Calls Tryd.prog 12 #[.pointer (some ⟨rb,0,none⟩), .pointer (some ⟨mb,0,none⟩)] w fun e w'=>e= .returned (.int .u16 0)∧(∃a n cp,OwnS w' w.heap.size a n cp (textsP (numP 1 s).1 (numP 1 s).2).1∧BC w' mb (mcells { c with fa:=a,fl:=n,fc:=cp }))∧RdM w' rb (textsP (numP 1 s).1 (numP 1 s).2).2.1 (textsP (numP 1 s).1 (numP 1 s).2).2.2∧Below B w w':=by
  obtain ⟨i0,hi0,hz0,hz1,hz2⟩:=info_parts ginfoStr
  have y0:=hM.at_ 0 _ rfl
  rw [ek] at y0;clear ek
  have hlt:=hM.lt
  have hN:=num1_any w rb s hR
  have hN1:=numP_lt1 s
  generalize numP 1 s=ns at hN hN1 ⊢
  obtain ⟨N,s1⟩:=ns
  dsimp only at hN hN1 ⊢
  have hc0:({ c with fa:=none,fl:=0,fc:=0 } :MC)=c:=by cases c;simp_all
  have HC0:=Lib.hid hc0
  have HN:=Lib.hid hN
  have HMM:=Lib.hid hM
  clear hN hR hM hc0 hfa hfl hfc
  go_enter Tryd.func12,Tryd.ntmps12
  go_wp2_with (go_at_call 9;(with_reducible refine HN.out.mono ?_);rintro e w1 ⟨rfl,hR1,hS1⟩;have hM1:=BC.next HMM.out hS1 (by omega);have hB1:=hS1.low hBr (by omega);have hz1':w.heap.size≤w1.heap.size:=hS1.size)
  go_loopw [67] (fun i wr=>∃(k:Nat) (a:Option Addr) (n cp:Nat),k≤N∧i= .int .i64 k∧BC wr mb (mcells { c with fa:=a,fl:=n,fc:=cp })∧OwnS wr w.heap.size a n cp (textsP k s1).1∧RdM wr rb (textsP k s1).2.1 (textsP k s1).2.2∧Below B w wr∧w.heap.size≤wr.heap.size) (fun i _=>N - (intOf i).toNat)
  case atStart=>exact ⟨0,none,0,0,Nat.zero_le _,rfl,by rw [HC0.out];exact hM1,OwnS.nil _ _,hR1,hB1,hz1'⟩
  case round=>
    clear hM1 hR1 hB1 hz1' hS1 y0
    obtain ⟨k,a,n,cp,hk,rfl,hM,hO,hR,hB,hz⟩:=hrel
    by_cases hlk:k<N
    · obtain ⟨st,hst⟩:∃st,textsP k s1=st:=⟨_,rfl⟩
      have hlen:n=k:=by rw [hO.1,textsP_len]
      have hnx:textsP (k+1) s1=(st.1++ [(textP 4 st.2).1],(textP 4 st.2).2):=by rw [textsP,hst]
      rw [hst] at hO hR
      have HNX:=Lib.hid hnx
      have HLN:=Lib.hid hlen
      obtain ⟨fs,s2⟩:=st
      dsimp only at hO hR
      have hlt3:=hM.lt
      have hM0:=bc_drewM hM
      have hRd:RdM wr.drew rb s2.1 s2.2:=hR.of_below (Below.refl _ _).drew
      have hT:=text4_any wr.drew rb s2 hRd
      obtain ⟨tt,htt⟩:∃tt,textP 4 s2=tt:=⟨_,rfl⟩
      have HTT:=Lib.hid htt
      rw [htt] at hT
      obtain ⟨tx,s3⟩:=tt
      dsimp only at hT
      have HT:=Lib.hid hT
      have hOd:OwnS wr.drew w.heap.size a n cp fs:=⟨hO.1,hO.2.drew⟩
      have HO:=Lib.hid hOd
      have HFB:Hid (∀W,BC W mb (mcells { c with fa:=a,fl:=n,fc:=cp })→W.cell? ⟨mb,21,none⟩=some (.slice a n cp)∧W.frozen? ⟨mb,21,none⟩=false):=fun W h=>⟨h.at_ 21 _ rfl,h.fr 21⟩
      have HB:=Lib.hid hB
      have HM0:=Lib.hid hM0
      have hn255:n≤256:=by omega
      have y21:=hM.at_ 21 _ rfl
      clear hst hlen hnx hO hR hT htt hOd hM hB hRd hM0
      go_wp2_with fail
      refine wp_region_noPanic ?_
      go_region_law
        (first
          |(go_simp;go_at_call 10;(with_reducible refine HT.out.mono ?_);rintro e w2 ⟨rfl,hR2,hS2⟩;have hM2:=BC.next HM0.out hS2 (by omega);have hO2:=(OwnS.step HO.out hS2 (by omega)).2;have hlt2:mb<w2.heap.size:=hM2.lt;have hM3:=hM2.keep ((Below.refl w2.heap.size w2).alloc (Nat.le_refl _) (.cells #[.string tx] 9)) hlt2;have hsz2:w.heap.size≤w2.heap.size:=Nat.le_trans hz hS2.size;have hrlt:=hO2.lt;have c2:=hM2.at_ 21 _ rfl)
          |(refine step_append_lies _ (by rfl) _ _ _ (by rfl) w.heap.size 9 i0 _ 1 16 Tryd.underlying34 hi0 hz0 hz1 hz2 rfl (by omega) (.slice a n cp) n (fs.map Value.string) (by rfl) (hO2.alloc _) ⟨w2.heap.size,0,none⟩ 1 1 [.string tx] (by rfl) (by rfl) (World.news_of_block (cs:= #[.string tx]) (t:=9) (fr:=(0,0)) (heap_alloc_new w2 _)) (by simp [Value.oneCell']) (by omega) (by unfold maxLen;omega) (by omega) (by simp;omega) (w2.heap.size+1) (by simp) ?_;intro g cap w5 hown5 hgrow5 hat5 hlt5;have hb5:=grown_below hgrow5 (fun k hk=>(hrlt k hk).1) (by simp;omega);have hM5:=hM3.keep hb5 hlt;have c5:=hM5.at_ 21 _ rfl;have f5:=hM5.fr 21))
      all_goals
        refine NoPanic.normal ?_
        have hM6:BC (w5.setCell ⟨mb,21,none⟩ (.slice (some ⟨g,0,none⟩) (n+1) cap)) mb (mcells { c with fa:=some ⟨g,0,none⟩,fl:=n+1,fc:=cap }):=hM5.set (i:=21) (x:= .slice (some ⟨g,0,none⟩) (n+1) cap) (by simp [mcells])
        have hO5:OwnS w5 w.heap.size (some ⟨g,0,none⟩) (n+1) cap (fs++ [tx]):=⟨by rw [List.length_append, ←HO.out.1];rfl,by simpa using hown5⟩
        have hO6:=OwnS.step hO5 (RStep.self (b:=mb) (W:=w5) (o:=21) (x:= .slice (some ⟨g,0,none⟩) (n+1) cap)) hlt
        have hR5:=(hR2.of_below ((Below.refl w2.heap.size w2).alloc (Nat.le_refl _) (.cells #[.string tx] 9))).low hb5 (by omega)
        have hR6:RdM (w5.setCell ⟨mb,21,none⟩ (.slice (some ⟨g,0,none⟩) (n+1) cap)) rb s3.1 s3.2:=hR5.far hrm [.slice (some ⟨g,0,none⟩) (n+1) cap] 21
        have hB5:Below B w w5:=((HB.out.drew.trans (hS2.low hBr (by show B≤wr.heap.size;omega))).alloc (by omega) (.cells #[.string tx] 9)).trans (hb5.mono (by omega))
        have hB6:Below B w (w5.setCell ⟨mb,21,none⟩ (.slice (some ⟨g,0,none⟩) (n+1) cap)):=hB5.setCell (by simp;omega) _
        have hz6:w.heap.size≤(w5.setCell ⟨mb,21,none⟩ (.slice (some ⟨g,0,none⟩) (n+1) cap)).heap.size:=by
          have:=hb5.size
          simp at this ⊢;omega
        clear hM5 hO5 hR5 hB5 hown5 hgrow5 hat5 hb5 hM2 hM3 hO2 hrlt hR2 hS2 c2 c5 f5
        go_wp2_with fail
        go_roundw
        case rel=>exact ⟨k+1,some ⟨g,0,none⟩,n+1,cap,by omega,by go_num,hM6,by rw [HNX.out,HTT.out];exact hO6,by rw [HNX.out,HTT.out];exact hR6,hB6,hz6⟩
        case measure=>simp [intOf];omega
    · have:k=N:=by omega
      subst this
      go_wp2_with fail
      go_ret
      exact ⟨rfl,⟨a,n,cp,hO,hM⟩,hR,hB⟩
end Go.Proofs.YthceefjafklcmaaDoor
namespace Go.Proofs.YthceefjafklcmaaDoor
open Go.RowKit
theorem cutP_len (k:Nat) (s:List UInt8×Bool):(cutP k s).1.length≤s.1.length∧(cutP k s).2.1.length≤s.1.length:=by
  unfold cutP
  split
  · exact ⟨Nat.zero_le _,Nat.zero_le _⟩
  · exact ⟨by simp only [List.length_take];omega,by simp only [List.length_drop];omega⟩
theorem numP_len (k:Nat) (s:List UInt8×Bool):(numP k s).2.1.length≤s.1.length:=(cutP_len k s).2
theorem textP_len (k:Nat) (s:List UInt8×Bool):(textP k s).1.size≤s.1.length∧(textP k s).2.1.length≤s.1.length:=by
  have h1:=numP_len k s
  have h2:=cutP_len (numP k s).1 (numP k s).2
  refine ⟨?_,Nat.le_trans h2.2 h1⟩
  have h3:(textP k s).1.size=(cutP (numP k s).1 (numP k s).2).1.length:=by simp [textP,ByteArray.size]
  omega
theorem textsP_le (n:Nat) (s:List UInt8×Bool):(∀t ∈ (textsP n s).1,t.size≤s.1.length)∧(textsP n s).2.1.length≤s.1.length:=by
  induction n with
  |zero=>exact ⟨fun t h=>by simp [textsP] at h,Nat.le_refl _⟩
  | succ n ih=>
    have h:=textP_len 4 (textsP n s).2
    refine ⟨fun t ht=> ?_,by show (textP 4 (textsP n s).2).2.1.length≤_;omega⟩
    simp only [textsP,List.mem_append,List.mem_singleton] at ht
    rcases ht with ht|rfl
    · exact ih.1 t ht
    · omega
noncomputable def tailRd (k:Int) (doc:ByteArray) (n:Int) (s:List UInt8×Bool):Ms×Int×Bool:=
  if k=3∨k=5 then (⟨k,doc,n,(backE s.1).1,0,0,0,false,V.none, []⟩,(backE s.1).2,s.2)
  else if k=4 then
    (if (numP 1 s).1=1 then (⟨k,doc,n,En.none,0,0,0,true,(backR (numP 1 s).2.1).1, []⟩,(backR (numP 1 s).2.1).2,(numP 1 s).2.2)
     else (⟨k,doc,n,En.none,0,0,0,false,V.none, []⟩,0,(numP 1 s).2.2))
  else if k=6 then (⟨k,doc,n,En.none,(numP 4 s).1,(numP 4 (numP 4 s).2).1,(numP 2 (numP 4 (numP 4 s).2).2).1,false,V.none, []⟩,0,(numP 2 (numP 4 (numP 4 s).2).2).2.2)
  else if k=1 then (⟨k,doc,n,En.none,0,0,0,false,V.none,(textsP (numP 1 s).1 (numP 1 s).2).1⟩,0,(textsP (numP 1 s).1 (numP 1 s).2).2.2)
  else (⟨k,doc,n,En.none,0,0,0,false,V.none, []⟩,0,s.2)
def mk0 (k:Int) (doc:ByteArray) (n:Int):MC:=⟨k,doc,n,ezero,0,0,0,false,vzero,none,0,0⟩
set_option maxHeartbeats 2000000 in
set_option maxRecDepth 100000 in
theorem tailR_0 (w:World) (rb mb:Nat) (c:MC) (hM:BC w mb (mcells c)) (h1:¬c.k=1) (h3:¬c.k=3) (h4:¬c.k=4) (h5:¬c.k=5) (h6:¬c.k=6):
    Calls Tryd.prog 12 #[.pointer (some ⟨rb,0,none⟩), .pointer (some ⟨mb,0,none⟩)] w fun e w'=>e= .returned (.int .u16 0)∧w'=w:=by
  have y0:=hM.at_ 0 _ rfl
  have f1:(c.k==1)=false:=by simp [h1]
  have f3:(c.k==3)=false:=by simp [h3]
  have f4:(c.k==4)=false:=by simp [h4]
  have f5:(c.k==5)=false:=by simp [h5]
  have f6:(c.k==6)=false:=by simp [h6]
  clear h1 h3 h4 h5 h6
  go_enter Tryd.func12,Tryd.ntmps12
  go_wp2_with fail
  go_ret
  exact ⟨rfl,rfl⟩
theorem OwnS.isStrs {w:World} {B mb:Nat} {a:Option Addr} {n c:Nat} {l:List ByteArray} (h:OwnS w B a n c l) (hm:mb<B) (hn:n≤256) (hs:∀t ∈ l,t.size≤140737488355328):IsStrs (only (fun b=>mb<b) w) w.heap.size l a n c:=by
  obtain ⟨h1,h2⟩:=h
  have hlt:=h2.lt
  have hcl:=fun g hg=>h2.cells (g:=g) hg
  rcases h2.2 with ⟨e,hz⟩|⟨g,cap,cur,e,h3,h4,h5,h6,h7,h8⟩
  · injection e with e1 e2 e3
    subst e1 e2 e3
    have:l= [] :=List.length_eq_zero_iff.1 h1.symm
    subst this
    exact IsStrs.nil _ _
  · injection e with e1 e2 e3
    subst e1 e3
    refine ⟨h1,h5,by simpa [maxLen] using h6,by omega,g,0,fun _=>⟨rfl,(hlt g rfl).2⟩,fun i hi=>⟨?_,hs _ (List.getElem_mem hi)⟩⟩
    have:=hcl g rfl i (.string l[i]) (by simp [hi])
    rw [add_at] at this
    exact only_cell' (by have:=(hlt g rfl).1;omega) this
structure KB (k:Int) (doc:ByteArray) (n:Int):Prop where
  k0:0≤k
  k1:k<256
  d1:doc.size≤140737488355328
  n0: -9223372036854775808≤n
  n1:n≤9223372036854775807
theorem isMsg_of {W:World} {B:Nat} {k:Int} {doc:ByteArray} {n:Int} (hb:KB k doc n) {e:En} {ce:EC} (he:IsEntry W B e ce) {v:V} {cv:VC} (hv:IsVal W B v cv) {f:List ByteArray} {fa:Option Addr} {fl fc:Nat} (hf:IsStrs W B f fa fl fc) {src seq err:Int} {th:Bool}
    (s0:0≤src) (s1:src<4294967296) (q0:0≤seq) (q1:seq<4294967296) (e0:0≤err) (e1:err<65536):IsMsg W B ⟨k,doc,n,e,src,seq,err,th,v,f⟩ ⟨k,doc,n,ce,src,seq,err,th,cv,fa,fl,fc⟩:=
  .mk ⟨k,doc,n,ce,src,seq,err,th,cv,fa,fl,fc⟩ e v f ⟨hb.k0,hb.k1,hb.d1,hb.n0,hb.n1,s0,s1,q0,q1,e0,e1⟩ he hv hf
def TailPost (mb rb B:Nat) (w:World) (r:Ms×Int×Bool) (e:Ending) (w':World):Prop:=
  e= .returned (.int .u16 r.2.1)∧(∃c',IsMsg (only (fun b=>mb<b) w') w'.heap.size r.1 c'∧BC w' mb (mcells c'))∧(∃bs',RdM w' rb bs' r.2.2)∧Below B w w'
theorem tailR_any (w:World) (rb mb B:Nat) (hBr:B≤rb) (hrm:rb<mb) (hTB:∀W,Below B w W→Tabs W) (k:Int) (doc:ByteArray) (n:Int) (hk:KB k doc n) (s:List UInt8×Bool) (hl:s.1.length≤60000) (hR:RdM w rb s.1 s.2) (hM:BC w mb (mcells (mk0 k doc n))):
    Calls Tryd.prog 12 #[.pointer (some ⟨rb,0,none⟩), .pointer (some ⟨mb,0,none⟩)] w (TailPost mb rb B w (tailRd k doc n s)):=by
  have hlt:=hM.lt
  by_cases e3:k=3
  · obtain ⟨⟨x,er⟩,hb⟩:∃p,backE s.1=p:=⟨_,rfl⟩
    refine (tailR_3 w rb mb B hBr hrm hTB (mk0 k doc n) s hR hM e3 hl hb).mono fun e w' ⟨h1,⟨cv,h2,h3⟩,h4,h5⟩=> ?_
    rw [tailRd,if_pos (.inl e3),hb]
    exact ⟨h1,⟨_,isMsg_of hk h2 (isVal_none _ _) (IsStrs.nil _ _) (by decide) (by decide) (by decide) (by decide) (by decide) (by decide),h3⟩,⟨_,h4⟩,h5⟩
  by_cases e5:k=5
  · obtain ⟨⟨x,er⟩,hb⟩:∃p,backE s.1=p:=⟨_,rfl⟩
    refine (tailR_5 w rb mb B hBr hrm hTB (mk0 k doc n) s hR hM e5 hl hb).mono fun e w' ⟨h1,⟨cv,h2,h3⟩,h4,h5⟩=> ?_
    rw [tailRd,if_pos (.inr e5),hb]
    exact ⟨h1,⟨_,isMsg_of hk h2 (isVal_none _ _) (IsStrs.nil _ _) (by decide) (by decide) (by decide) (by decide) (by decide) (by decide),h3⟩,⟨_,h4⟩,h5⟩
  by_cases e4:k=4
  · have hl1:=numP_len 1 s
    by_cases hn:(numP 1 s).1=1
    · obtain ⟨⟨x,er⟩,hb⟩:∃p,backR (numP 1 s).2.1=p:=⟨_,rfl⟩
      refine (tailR_4 w rb mb B hBr hrm hTB (mk0 k doc n) s hR hM e4 hn (by omega) hb).mono fun e w' ⟨h1,⟨cv,h2,h3⟩,h4,h5⟩=> ?_
      rw [tailRd,if_neg (by simp [e3,e5]),if_pos e4,if_pos hn,hb]
      exact ⟨h1,⟨_,isMsg_of hk (isEntry_none _ _) h2 (IsStrs.nil _ _) (by decide) (by decide) (by decide) (by decide) (by decide) (by decide),h3⟩,⟨_,h4⟩,h5⟩
    · refine (tailR_4n w rb mb B hBr hrm (mk0 k doc n) s hR hM e4 hn).mono fun e w' ⟨h1,h3,h4,h5⟩=> ?_
      rw [tailRd,if_neg (by simp [e3,e5]),if_pos e4,if_neg hn]
      exact ⟨h1,⟨_,isMsg_of hk (isEntry_none _ _) (isVal_none _ _) (IsStrs.nil _ _) (by decide) (by decide) (by decide) (by decide) (by decide) (by decide),h3⟩,⟨_,h4⟩,h5⟩
  by_cases e6:k=6
  · refine (tailR_6 w rb mb B hBr hrm (mk0 k doc n) s hR hM e6).mono fun e w' ⟨h1,h3,h4,h5⟩=> ?_
    have q1:=numP_lt4 s;have q2:=numP_lt4 (numP 4 s).2;have q3:=numP_lt2 (numP 4 (numP 4 s).2).2
    rw [tailRd,if_neg (by simp [e3,e5]),if_neg e4,if_pos e6]
    exact ⟨h1,⟨_,isMsg_of hk (isEntry_none _ _) (isVal_none _ _) (IsStrs.nil _ _) (by omega) (by omega) (by omega) (by omega) (by omega) (by omega),h3⟩,⟨_,h4⟩,h5⟩
  by_cases e1:k=1
  · refine (tailR_1 w rb mb B hBr hrm (mk0 k doc n) s hR hM e1 rfl rfl rfl).mono fun e w' ⟨h1,⟨a,m,cp,h2,h3⟩,h4,h5⟩=> ?_
    have q1:=numP_lt1 s
    have q2:=textsP_len (numP 1 s).1 (numP 1 s).2
    have q3:=(textsP_le (numP 1 s).1 (numP 1 s).2).1
    have q4:=numP_len 1 s
    rw [tailRd,if_neg (by simp [e3,e5]),if_neg e4,if_neg e6,if_pos e1]
    exact ⟨h1,⟨_,isMsg_of hk (isEntry_none _ _) (isVal_none _ _) (h2.isStrs hlt (by have:=h2.1;omega) (fun t ht=>by have:=q3 t ht;omega)) (by decide) (by decide) (by decide) (by decide) (by decide) (by decide),h3⟩,⟨_,h4⟩,h5⟩
  · refine (tailR_0 w rb mb (mk0 k doc n) hM e1 e3 e4 e5 e6).mono fun e w' ⟨h1,h2⟩=> ?_
    subst h2
    rw [tailRd,if_neg (by simp [e3,e5]),if_neg e4,if_neg e6,if_neg e1]
    exact ⟨h1,⟨mk0 k doc n,isMsg_of hk (isEntry_none _ _) (isVal_none _ _) (IsStrs.nil _ _) (by decide) (by decide) (by decide) (by decide) (by decide) (by decide),hM⟩,⟨_,hR⟩,Below.refl _ _⟩
end Go.Proofs.YthceefjafklcmaaDoor
namespace Go.Proofs.YthceefjafklcmaaDoor
open Go.RowKit
theorem wp_storeM {ops:Array Oper} {rest:List Oper} {op:Oper} {a:Act} {Q:Exit→Act→World→Prop} {W:World} (hgd:op.guard=none) (x y:Operand) (ho:op.op= .store 36 x y)
    (h:∃(b:Nat) (cs xs:List Value),a.eval x= .pointer (some ⟨b,0,none⟩)∧a.eval y= .agg xs.toArray∧BC W b cs∧cs.length=22∧xs.length=22∧xs.all (·.oneCell')=true∧∀W2,BC W2 b xs→(∀b' cs',b'≠b→BC W b' cs'→BC W2 b' cs')→RStep W W2 b→wpList Tryd.prog ops Q rest (a.put op.dst undef) W2):wpList Tryd.prog ops Q (op::rest) a W:=by
  obtain ⟨b,cs,xs,hx,hy,hb,hc,hl,h1,h⟩:=h
  refine wpList_store_mid hgd _ x y ho b 0 _ hx hy (thereM hb (by simp [hc,hl])) (by rw [minfo];simp [hl]) (all_oneCell_toArray (List.all_eq_true.1 h1)) ?_
  have e:xs.toArray.toList=xs:=by simp
  refine h _ (by rw [e];exact bc_setCells xs [] cs _ (by omega) hb) (fun b' cs' hne hb'=>bc_far hne _ _ _ hb') ?_
  have hq:∀(vs:List Value) (o:Nat) (W:World),(W.setCells b o vs).os=W.os∧(W.setCells b o vs).tape=W.tape∧(W.setCells b o vs).output=W.output:=by
    intro vs
    induction vs with
    |nil=>exact fun _ _=>⟨rfl,rfl,rfl⟩
    |cons v vs ih=>exact fun o W=>ih (o+1) (W.setCell ⟨b,o,none⟩ v)
  obtain ⟨q1,q2,q3⟩:=hq xs.toArray.toList 0 W
  exact ⟨q1,q2,q3,by rw [size_setCells];exact Nat.le_refl _,fun k _ hk=>heap_setCells_far hk _ _ _⟩
theorem results_msg {tmps:Array Value} {W:World} {b:Nat} {c:MC} {x:Value} (ht:tmps[2]? =some (.pointer (some ⟨b,0,none⟩))) (hx:tmps[3]? =some x) (h:BC W b (mcells c)):
    (results Tryd.f5 tmps).run Tryd.prog W= .ok (.tuple #[.agg (mcells c).toArray,x]) W:=by
  have h1:=run_loadVar_mid (P:=Tryd.prog) W b 0 36 (mcells c) _ h.range Tryd.underlying36 rfl minfo
  have h2:(asAddr (Value.pointer (some { block:=b,off:=0 }))).run Tryd.prog W= .ok ⟨b,0,none⟩ W:=by simp [asAddr]
  simp [results,Tryd.results5,ht,hx,h2,Result.andThen_ok,h1]
noncomputable def headP (bs:List UInt8):Int×ByteArray×Int×(List UInt8×Bool):=
  let a:=numP 1 (bs,false)
  let t:=textP 1 a.2
  if numberedB a.1=true then ((a.1:Int),t.1,((numP 4 t.2).1:Int) - 1,(numP 4 t.2).2) else ((a.1:Int),t.1,0,t.2)
noncomputable def rdMsg (bs:List UInt8):Ms×Int×Bool:=tailRd (headP bs).1 (headP bs).2.1 (headP bs).2.2.1 (headP bs).2.2.2
noncomputable def decM (bs:List UInt8):Ms×Int:=
  if 60000<bs.length then (Ms.none,3)
  else if (rdMsg bs).2.1=0∧(rdMsg bs).2.2=false∧(encMsg (rdMsg bs).1).1=0∧eqBs (encMsg (rdMsg bs).1).2 bs=true then ((rdMsg bs).1,0) else (Ms.none,190)
set_option maxHeartbeats 1000000 in
set_option maxRecDepth 100000 in
theorem dec_long (w:World) (a:Option Addr) (n c:Nat) (hn:60000<n):
    Calls Tryd.prog 5 #[.slice a n c] w fun e w'=>e= .returned (.tuple #[.agg (mcells mzero).toArray, .int .u16 3])∧Below w.heap.size w w':=by
  go_enter Tryd.func5,Tryd.ntmps5
  generalize hQ0:bodyPost _ _ _=Q0
  have HQ:=Lib.hid hQ0
  clear hQ0
  go_wp2_with (refine wp_storeM rfl _ _ rfl ?_;refine ⟨w.heap.size,mcells mzero,mcells mzero,rfl,rfl,BC.start w (mcells mzero).toArray 36,rfl,rfl,rfl, ?_⟩;intro W2 bm keepf st;have HBM:=Lib.hid bm;have HST:=Lib.hid (((Below.refl w.heap.size w).alloc (Nat.le_refl _) (.cells (mcells mzero).toArray 36)).trans (st.below (by simp)));clear bm keepf st)
  rw [←HQ.out]
  exact ⟨rfl,_,results_msg rfl rfl HBM.out,rfl,HST.out⟩
end Go.Proofs.YthceefjafklcmaaDoor
namespace Go.Proofs.YthceefjafklcmaaDoor
open Go.RowKit
theorem backE_fail {bs:List UInt8} (h:(backE bs).2≠0):(backE bs).1=En.none:=by
  unfold backE at h ⊢
  split at h
  · split<;>first|rfl|contradiction
  · rename_i hl
    rw [if_neg hl]
    split at h
    · rfl
    · split at h
      · rename_i h1
        rw [if_pos h1]
        split at h
        · exact absurd rfl h
        · rename_i h2;rw [if_neg h2]
      · rename_i h1;rw [if_neg h1]
theorem backR_fail {bs:List UInt8} (h:(backR bs).2≠0):(backR bs).1=V.none:=by
  unfold backR at h ⊢
  split at h
  · split<;>first|rfl|contradiction
  · rename_i hl
    rw [if_neg hl]
    split at h
    · rfl
    · split at h
      · rename_i h1
        rw [if_pos h1]
        split at h
        · exact absurd rfl h
        · rename_i h2;rw [if_neg h2]
      · rename_i h1;rw [if_neg h1]
theorem backE_fits (bs:List UInt8):(backE bs).1.small∧(encE (backE bs).1).length≤60000:=by
  by_cases h:(backE bs).2=0
  · obtain ⟨⟨x,e⟩,hx⟩:∃p,backE bs=p:=⟨_,rfl⟩
    rw [hx] at h ⊢
    dsimp only at h ⊢
    subst h
    obtain ⟨q1,q2,q3,r1,q4⟩:=backE_ok hx
    obtain ⟨l1,l2,l3⟩:=rdE_len q4
    exact ⟨⟨by omega,fun y hy=>by have:=l3 y hy;omega⟩,by rw [q2];exact q3⟩
  · rw [backE_fail h]
    exact ⟨⟨by decide,fun y hy=>by cases hy⟩,by simp [En.none,encE,be_length]⟩
theorem backR_fits (bs:List UInt8):(backR bs).1.weight≤4611686018427387904∧(encV (backR bs).1).length≤60000:=by
  by_cases h:(backR bs).2=0
  · obtain ⟨⟨x,e⟩,hx⟩:∃p,backR bs=p:=⟨_,rfl⟩
    rw [hx] at h ⊢
    dsimp only at h ⊢
    subst h
    obtain ⟨u1,u2,u3,r2,u4⟩:=backR_ok hx
    obtain ⟨m1,m2⟩:=rdV_len 18 bs x r2 u4
    exact ⟨by omega,by rw [u2];exact u3⟩
  · rw [backR_fail h]
    exact ⟨by decide,by simp [V.none,encV,be_length]⟩
theorem encFs_sum (l:List ByteArray) (b:Nat) (h:∀t ∈ l,t.size≤b):(encFs l).length≤l.length*(b+4):=by
  induction l with
  |nil=>exact Nat.zero_le _
  | cons x r ih=>
    have h1:=ih fun t ht=>h t (List.mem_cons_of_mem _ ht)
    have h2:=h x List.mem_cons_self
    have h3:(encFs (x::r)).length=4+x.size+(encFs r).length:=by
      have h5:x.data.size=x.size:=rfl
      simp [encFs,be_length,h5]
      omega
    rw [h3,List.length_cons,Nat.succ_mul]
    omega
theorem none_fits:En.none.small∧(encE En.none).length≤60000:=⟨⟨by decide,fun y hy=>by cases hy⟩,by simp [En.none,encE,be_length]⟩
theorem vnone_fits:V.none.weight≤4611686018427387904∧(encV V.none).length≤60000:=⟨by decide,by simp [V.none,encV,be_length]⟩
theorem fits_of {k:Int} {doc:ByteArray} {n:Int} {e:En} {v:V} {src seq err:Int} {th:Bool} {f:List ByteArray} (he:e.small∧(encE e).length≤60000) (hv:v.weight≤4611686018427387904∧(encV v).length≤60000) (hf:(encFs f).length≤70368744177664):Ms.Fits ⟨k,doc,n,e,src,seq,err,th,v,f⟩:=
  ⟨he.1,by show (encE e).length≤_;omega,by show (encV v).length≤_;omega,hv.1,hf⟩
theorem tailRd_fits (k:Int) (doc:ByteArray) (n:Int) (s:List UInt8×Bool) (hl:s.1.length≤60000):(tailRd k doc n s).1.Fits:=by
  have h0:(encFs []).length≤70368744177664:=by simp [encFs]
  unfold tailRd
  split
  · exact fits_of (backE_fits _) vnone_fits h0
  split
  · split
    · exact fits_of none_fits (backR_fits _) h0
    · exact fits_of none_fits vnone_fits h0
  split
  · exact fits_of none_fits vnone_fits h0
  split
  · refine fits_of none_fits vnone_fits ?_
    have h1:=numP_lt1 s
    have h2:=numP_len 1 s
    have h3:=encFs_sum (textsP (numP 1 s).1 (numP 1 s).2).1 60000 (fun t ht=>by have:=(textsP_le (numP 1 s).1 (numP 1 s).2).1 t ht;omega)
    rw [textsP_len] at h3
    have h4:(numP 1 s).1*(60000+4)≤256*60004:=Nat.mul_le_mul (by omega) (by omega)
    omega
  · exact fits_of none_fits vnone_fits h0
end Go.Proofs.YthceefjafklcmaaDoor
namespace Go.Proofs.YthceefjafklcmaaDoor
open Go.RowKit
theorem IsStrs.sub {w w':World} {B:Nat} (hs:Shows w w' B) {l:List ByteArray} {a:Option Addr} {n c:Nat} (h:IsStrs w B l a n c):IsStrs w' B l a n c:=by
  obtain ⟨h1,h2,h3,h4,b,o,h5,h6⟩:=h
  exact ⟨h1,h2,h3,h4,b,o,h5,fun i hi=>⟨hs b _ _ (h5 (by omega)).2 (h6 i hi).1,(h6 i hi).2⟩⟩
theorem IsMsg.sub {w w':World} {B:Nat} (hs:Shows w w' B) {m:Ms} {c:MC} (h:IsMsg w B m c):IsMsg w' B m c:=by
  cases h with
  |mk c e v f h1 h2 h3 h4=>exact .mk c e v f h1 (h2.sub hs) (h3.sub hs) (h4.sub hs)
theorem IsMsg.more {w:World} {B B':Nat} {m:Ms} {c:MC} (h:IsMsg w B m c) (hB:B≤B'):IsMsg w B' m c:=by
  cases h with
  |mk c e v f h1 h2 h3 h4=>exact .mk c e v f h1 (h2.more hB) (h3.more hB) (h4.more hB)
set_option maxHeartbeats 4000000 in
set_option maxRecDepth 100000 in
theorem dec_1 (w:World) (hT:Tabs w) (a:Option Addr) (n c:Nat) (bs:List UInt8) (h:IsB w w.heap.size a n c bs) (hl:bs.length≤60000):
    Calls Tryd.prog 5 #[.slice a n c] w fun e w'=>(∃cm,e= .returned (.tuple #[.agg (mcells cm).toArray, .int .u16 (decM bs).2])∧IsMsg w' w'.heap.size (decM bs).1 cm)∧Below w.heap.size w w':=by
  have hA:Below w.heap.size w ((w.alloc (.cells #[.int .u8 0, .string { data:= #[] }, .int .i64 0, .int .u8 0, .int .u32 0, .int .u32 0, .int .u8 0, .int .i64 0, .string { data:= #[] }, .slice none 0 0, .slice none 0 0, .slice none 0 0, .int .u32 0, .int .u32 0, .int .u16 0, .bool false, .int .u8 0, .int .i64 0, .string { data:= #[] }, .slice none 0 0, .slice none 0 0, .slice none 0 0] 36)).alloc (.cells #[.slice a n c, .bool false] 46)):=((Below.refl _ _).alloc (Nat.le_refl _) _).alloc (by simp) _
  have hb:=BC.start (w.alloc (.cells #[.int .u8 0, .string { data:= #[] }, .int .i64 0, .int .u8 0, .int .u32 0, .int .u32 0, .int .u8 0, .int .i64 0, .string { data:= #[] }, .slice none 0 0, .slice none 0 0, .slice none 0 0, .int .u32 0, .int .u32 0, .int .u16 0, .bool false, .int .u8 0, .int .i64 0, .string { data:= #[] }, .slice none 0 0, .slice none 0 0, .slice none 0 0] 36)) #[.slice a n c, .bool false] 46
  rw [show (w.alloc (.cells #[.int .u8 0, .string { data:= #[] }, .int .i64 0, .int .u8 0, .int .u32 0, .int .u32 0, .int .u8 0, .int .i64 0, .string { data:= #[] }, .slice none 0 0, .slice none 0 0, .slice none 0 0, .int .u32 0, .int .u32 0, .int .u16 0, .bool false, .int .u8 0, .int .i64 0, .string { data:= #[] }, .slice none 0 0, .slice none 0 0, .slice none 0 0] 36)).heap.size=w.heap.size+1 by simp] at hb
  have hR0:RdM ((w.alloc (.cells #[.int .u8 0, .string { data:= #[] }, .int .i64 0, .int .u8 0, .int .u32 0, .int .u32 0, .int .u8 0, .int .i64 0, .string { data:= #[] }, .slice none 0 0, .slice none 0 0, .slice none 0 0, .int .u32 0, .int .u32 0, .int .u16 0, .bool false, .int .u8 0, .int .i64 0, .string { data:= #[] }, .slice none 0 0, .slice none 0 0, .slice none 0 0] 36)).alloc (.cells #[.slice a n c, .bool false] 46)) (w.heap.size+1) bs false:=⟨⟨a,n,c,hb.at_ 0 _ rfl,(h.keep hA).more (by omega)⟩,hb.at_ 1 _ rfl,hb.fr 0,hb.fr 1⟩
  have hX0:BC ((w.alloc (.cells #[.int .u8 0, .string { data:= #[] }, .int .i64 0, .int .u8 0, .int .u32 0, .int .u32 0, .int .u8 0, .int .i64 0, .string { data:= #[] }, .slice none 0 0, .slice none 0 0, .slice none 0 0, .int .u32 0, .int .u32 0, .int .u16 0, .bool false, .int .u8 0, .int .i64 0, .string { data:= #[] }, .slice none 0 0, .slice none 0 0, .slice none 0 0] 36)).alloc (.cells #[.slice a n c, .bool false] 46)) w.heap.size (mcells mzero):=(BC.start w #[.int .u8 0, .string { data:= #[] }, .int .i64 0, .int .u8 0, .int .u32 0, .int .u32 0, .int .u8 0, .int .i64 0, .string { data:= #[] }, .slice none 0 0, .slice none 0 0, .slice none 0 0, .int .u32 0, .int .u32 0, .int .u16 0, .bool false, .int .u8 0, .int .i64 0, .string { data:= #[] }, .slice none 0 0, .slice none 0 0, .slice none 0 0] 36).keep ((Below.refl _ _).alloc (Nat.le_refl _) _) (by simp)
  have hBs:((w.alloc (.cells #[.int .u8 0, .string { data:= #[] }, .int .i64 0, .int .u8 0, .int .u32 0, .int .u32 0, .int .u8 0, .int .i64 0, .string { data:= #[] }, .slice none 0 0, .slice none 0 0, .slice none 0 0, .int .u32 0, .int .u32 0, .int .u16 0, .bool false, .int .u8 0, .int .i64 0, .string { data:= #[] }, .slice none 0 0, .slice none 0 0, .slice none 0 0] 36)).alloc (.cells #[.slice a n c, .bool false] 46)).heap.size=w.heap.size+2:=by simp
  have hn:=h.len
  have hn2:¬60000<n:=by omega
  have HI:=Lib.hid h
  have HT:=Lib.hid hT
  have HN1:=Lib.hid (num1_any ((w.alloc (.cells #[.int .u8 0, .string { data:= #[] }, .int .i64 0, .int .u8 0, .int .u32 0, .int .u32 0, .int .u8 0, .int .i64 0, .string { data:= #[] }, .slice none 0 0, .slice none 0 0, .slice none 0 0, .int .u32 0, .int .u32 0, .int .u16 0, .bool false, .int .u8 0, .int .i64 0, .string { data:= #[] }, .slice none 0 0, .slice none 0 0, .slice none 0 0] 36)).alloc (.cells #[.slice a n c, .bool false] 46)) (w.heap.size+1) (bs,false) hR0)
  have hK:=numP_lt1 (bs,false)
  obtain ⟨ns,hns⟩:∃ns,numP 1 (bs,false)=ns:=⟨_,rfl⟩
  rw [hns] at HN1 hK
  obtain ⟨K,s1⟩:=ns
  dsimp only at HN1 hK
  have hk8:(K:Int) % 256=K:=by omega
  have hk9:IntKind.u8.wrap (K:Int)=K:=by simp [IntKind.wrap,IntKind.bits,IntKind.signed];omega
  have HNS:=Lib.hid hns
  have HX0:=Lib.hid hX0
  have HBS:=Lib.hid hBs
  have HN:=Lib.hid hn
  have HA:=Lib.hid hA
  clear h hT hb hR0 hns hX0 hBs hn hA
  go_enter Tryd.func5,Tryd.ntmps5
  generalize hQ0:bodyPost _ _ _=Q0
  have HQ:=Lib.hid hQ0
  clear hQ0
  go_wp2_with (first
    |(refine wp_storeM rfl _ _ rfl ?_;refine ⟨w1.heap.size, [.int .u8 0, .string { data:= #[] }, .int .i64 0, .int .u8 0, .int .u32 0, .int .u32 0, .int .u8 0, .int .i64 0, .string { data:= #[] }, .slice none 0 0, .slice none 0 0, .slice none 0 0, .int .u32 0, .int .u32 0, .int .u16 0, .bool false, .int .u8 0, .int .i64 0, .string { data:= #[] }, .slice none 0 0, .slice none 0 0, .slice none 0 0],mcells (mk0 K .empty 0),rfl,rfl,BC.start w1 #[.int .u8 0, .string { data:= #[] }, .int .i64 0, .int .u8 0, .int .u32 0, .int .u32 0, .int .u8 0, .int .i64 0, .string { data:= #[] }, .slice none 0 0, .slice none 0 0, .slice none 0 0, .int .u32 0, .int .u32 0, .int .u16 0, .bool false, .int .u8 0, .int .i64 0, .string { data:= #[] }, .slice none 0 0, .slice none 0 0, .slice none 0 0] 36,rfl,rfl,rfl, ?_⟩;intro W2 bm keepf st;have hX2:=keepf _ _ (by omega) (hX1.keep ((Below.refl w1.heap.size w1).alloc (Nat.le_refl _) (.cells #[.int .u8 0, .string { data:= #[] }, .int .i64 0, .int .u8 0, .int .u32 0, .int .u32 0, .int .u8 0, .int .i64 0, .string { data:= #[] }, .slice none 0 0, .slice none 0 0, .slice none 0 0, .int .u32 0, .int .u32 0, .int .u16 0, .bool false, .int .u8 0, .int .i64 0, .string { data:= #[] }, .slice none 0 0, .slice none 0 0, .slice none 0 0] 36)) (by omega));have hR2:=(hR1.of_below ((Below.refl w1.heap.size w1).alloc (Nat.le_refl _) (.cells #[.int .u8 0, .string { data:= #[] }, .int .i64 0, .int .u8 0, .int .u32 0, .int .u32 0, .int .u8 0, .int .i64 0, .string { data:= #[] }, .slice none 0 0, .slice none 0 0, .slice none 0 0, .int .u32 0, .int .u32 0, .int .u16 0, .bool false, .int .u8 0, .int .i64 0, .string { data:= #[] }, .slice none 0 0, .slice none 0 0, .slice none 0 0] 36))).low (st.below (by simp)) (by omega))
    |(go_at_call 9;(with_reducible refine HN1.out.mono ?_);rintro e w1 ⟨rfl,hR1,hS1⟩;have hz1:w.heap.size+2≤w1.heap.size:=Nat.le_trans (Nat.le_of_eq HBS.out.symm) hS1.size;have hX1:=BC.next HX0.out hS1 (by omega))
    |(go_at_call 10;(with_reducible refine (text1_any W2 (w.heap.size+1) s1 hR2).mono ?_);rintro e w3 ⟨rfl,hR3,hS3⟩;have hX3:=hX2.next hS3 (by omega);have hM3:=bm.next hS3 (by omega);have y0:w3.cell? ⟨w1.heap.size,0,none⟩=some (.int .u8 (K:Int)):=hM3.at_ 0 _ rfl;have y1:=hM3.at_ 1 _ rfl;have g1:=hM3.fr 1))
  obtain ⟨tt,htt⟩:∃tt,textP 1 s1=tt:=⟨_,rfl⟩
  have HTX:=Lib.hid htt
  have hts:=(textP_len 1 s1).1
  have hts2:=(textP_len 1 s1).2
  have hs1:=numP_len 1 (bs,false)
  rw [HNS.out] at hs1
  rw [htt] at hR3 hts hts2 ⊢
  obtain ⟨doc,s3⟩:=tt
  dsimp only at hR3 hts hts2 hs1 ⊢
  have hM4:BC (w3.setCell ⟨w1.heap.size,1,none⟩ (.string doc)) w1.heap.size (mcells (mk0 K doc 0)):=hM3.set (i:=1) (x:= .string doc) (by simp [mcells])
  have hR4:RdM (w3.setCell ⟨w1.heap.size,1,none⟩ (.string doc)) (w.heap.size+1) s3.1 s3.2:=hR3.far (by omega) [.string doc] 1
  have hX4:BC (w3.setCell ⟨w1.heap.size,1,none⟩ (.string doc)) w.heap.size (mcells mzero):=hX3.far (by omega)
  have hB4:Below w.heap.size w (w3.setCell ⟨w1.heap.size,1,none⟩ (.string doc)):=
    ((((HA.out.trans (hS1.low (by omega) (by have:=HBS.out;omega))).alloc (by omega) _).trans (st.below (by simp)|>.mono (by omega))).trans (hS3.low (by omega) (by have:=hX2.lt;omega))).setCell (by simp;omega) _
  clear hM3 hR3 hX3 y0 y1 g1 hX2 hR2 bm keepf st hS3 hS1 hR1 hX1 htt
  generalize w3.setCell ⟨w1.heap.size,1,none⟩ (.string doc)=W4 at hM4 hR4 hX4 hB4 ⊢
  generalize w1.heap.size=mb at hM4 hz1 ⊢
  have y0:W4.cell? ⟨mb,0,none⟩=some (.int .u8 (K:Int)):=hM4.at_ 0 _ rfl
  have y2:=hM4.at_ 2 _ rfl
  have g2:=hM4.fr 2
  obtain ⟨nb,hnb⟩:∃nb,numberedB (K:Int)=nb:=⟨_,rfl⟩
  have HNB:Hid (∀W,Calls Tryd.prog 11 #[.int .u8 (K:Int)] W fun e w'=>e= .returned (.bool nb)∧w'=W):=fun W=>by rw [←hnb];exact numbered_any K W
  have HNB2:=Lib.hid hnb
  have HN4:=Lib.hid (num4_any W4 (w.heap.size+1) s3 hR4)
  have l4:=numP_lt4 s3
  have l5:=numP_len 4 s3
  obtain ⟨n4,hn4⟩:∃n4,numP 4 s3=n4:=⟨_,rfl⟩
  rw [hn4] at HN4 l4 l5
  have HN42:=Lib.hid hn4
  obtain ⟨N,s4⟩:=n4
  dsimp only at HN4 l4 l5
  have hw:wrap64 ((N:Int) - 1)=(N:Int) - 1:=by unfold wrap64;omega
  have hw2:IntKind.i64.wrap ((N:Int) - 1)=(N:Int) - 1:=by rw [IntKind.wrap_i64];omega
  clear hnb hn4
  have hmlt:=hM4.lt
  cases nb with
  | true =>
    go_wp2_with (first|(go_at_call 11;(with_reducible refine (HNB.out _).mono ?_);rintro e w0 ⟨rfl,hw0⟩;obtain rfl:=hw0.symm)|(go_at_call 9;(with_reducible refine HN4.out.mono ?_);rintro e w5 ⟨rfl,hR5,hS5⟩;have hM5:=hM4.next hS5 (by omega);have hX5:=hX4.next hS5 (by omega);have y2:=hM5.at_ 2 _ rfl;have g2:=hM5.fr 2))
    have hM6:BC (w5.setCell ⟨mb,2,none⟩ (.int .i64 ((N:Int) - 1))) mb (mcells (mk0 K doc ((N:Int) - 1))):=hM5.set (i:=2) (x:= .int .i64 ((N:Int) - 1)) (by simp [mcells])
    have hR6:RdM (w5.setCell ⟨mb,2,none⟩ (.int .i64 ((N:Int) - 1))) (w.heap.size+1) s4.1 s4.2:=hR5.far (by omega) [.int .i64 ((N:Int) - 1)] 2
    have hX6:BC (w5.setCell ⟨mb,2,none⟩ (.int .i64 ((N:Int) - 1))) w.heap.size (mcells mzero):=hX5.far (by omega)
    have hB6:Below w.heap.size w (w5.setCell ⟨mb,2,none⟩ (.int .i64 ((N:Int) - 1))):=(hB4.trans (hS5.low (by omega) (by omega))).setCell (by simp;omega) _
    have HHD:Hid (headP bs=((K:Int),doc,(N:Int) - 1,s4)):=by
      show _=_
      simp only [headP,HNS.out,HTX.out,HNB2.out,HN42.out,if_true]
    clear hM5 hR5 hX5 hS5 y0 y2 g2 hM4 hR4 hX4 hB4
    generalize w5.setCell ⟨mb,2,none⟩ (.int .i64 ((N:Int) - 1))=W6 at hM6 hR6 hX6 hB6 ⊢
    have hkb:KB K doc ((N:Int) - 1):=⟨by omega,by omega,by omega,by omega,by omega⟩
    have HRD:Hid (rdMsg bs=tailRd K doc ((N:Int) - 1) s4):=by show _=_;rw [rdMsg,HHD.out]
    have HFT:=Lib.hid (tailRd_fits K doc ((N:Int) - 1) s4 (by omega))
    have HTL:=Lib.hid (tailR_any W6 (w.heap.size+1) mb (w.heap.size+1) (Nat.le_refl _) (by omega) (fun W hW=>HT.out.below (hB6.trans (hW.mono (by omega)))) K doc ((N:Int) - 1) hkb s4 (by omega) hR6 hM6)
    obtain ⟨R,hR⟩:∃R,tailRd K doc ((N:Int) - 1) s4=R:=⟨_,rfl⟩
    rw [hR] at HRD HFT HTL
    obtain ⟨m,er,sh⟩:=R
    replace HTL:Hid (Calls Tryd.prog 12 #[.pointer (some ⟨w.heap.size+1,0,none⟩), .pointer (some ⟨mb,0,none⟩)] W6 fun e w'=>e= .returned (.int .u16 er)∧(∃c',IsMsg (only (fun b=>mb<b) w') w'.heap.size m c'∧BC w' mb (mcells c'))∧(∃bs',RdM w' (w.heap.size+1) bs' sh)∧Below (w.heap.size+1) W6 w'):=HTL
    clear hR hkb
    have fin:∀ {W7 W8:World},Below (w.heap.size+1) W6 W7→RStep W7 W8 w.heap.size→Below w.heap.size w W8:=fun h7 h8=>(hB6.trans (h7.mono (by omega))).trans (h8.low (Nat.le_refl _) (Nat.le_trans hB6.size h7.size))
    by_cases he:er=0
    · subst he
      cases sh with
      | true=>
        have hD:Hid (decM bs=(Ms.none,190)):=by
          show _=_
          rw [decM,if_neg (by omega),HRD.out,if_neg (by simp)]
        go_wp2_with (first|(refine wp_storeM rfl _ _ rfl ?_;refine ⟨w.heap.size,mcells mzero,mcells mzero,rfl,rfl,hX7,rfl,rfl,rfl, ?_⟩;intro W8 bm keepf st;have HBM:=Lib.hid bm;have HST:=Lib.hid st;clear bm keepf st)|(go_at_call 12;(with_reducible refine HTL.out.mono ?_);rintro e w7 ⟨rfl,⟨c7,hI7,hM7⟩,⟨bs7,hR7⟩,hb7⟩;have hX7:=hX6.keep hb7 (by omega);have y7:=hR7.short))
        rw [←HQ.out]
        exact ⟨rfl,_,results_msg rfl rfl HBM.out,⟨mzero,by rw [hD.out];rfl,by rw [hD.out];exact isMsg_none _ _⟩,fin hb7 HST.out⟩
      | false =>
        obtain ⟨⟨f2,b2⟩,hE⟩:∃p,encMsg m=p:=⟨_,rfl⟩
        have HE:=Lib.hid hE
        clear hE
        go_wp2_with (first|(refine wp_loadM rfl _ rfl ?_;first|(refine ⟨mb,mcells c7,rfl,rfl,hM7, ?_⟩))|(go_at_call 12;(with_reducible refine HTL.out.mono ?_);rintro e w7 ⟨rfl,⟨c7,hI7,hM7⟩,⟨bs7,hR7⟩,hb7⟩;have hX7:=hX6.keep hb7 (by omega);have y7:=hR7.short;have HI7:=Lib.hid hI7;have hB7:Below w.heap.size w w7:=hB6.trans (hb7.mono (by omega));have hT7:=Lib.hid (HT.out.below hB7);clear hI7))
        go_at_call 7
        have hq:=encMsg_any m w7 hT7.out c7 (HI7.out.sub (shows_only _ _ _)) HFT.out
        rw [HE.out] at hq
        dsimp only at hq
        (with_reducible refine hq.mono ?_)
        rintro e w8 ⟨⟨a8,n8,c8,rfl,hI8⟩,hb8⟩
        have hM8:=hM7.keep hb8 hM7.lt
        have hX8:=hX7.keep hb8 (by have:=hM7.lt;omega)
        have hB8:Below (w.heap.size+1) W6 w8:=hb7.trans (hb8.mono (by have:=hM7.lt;omega))
        have hBw8:Below w.heap.size w w8:=hB6.trans (hB8.mono (by omega))
        by_cases hf:f2=0
        · subst hf
          have heq:=equal_any w8 w8.heap.size w8.heap.size a8 a n8 n c8 c b2 bs hI8 ((HI.out.keep hBw8).more hBw8.size)
          obtain ⟨q,hq2⟩:∃q,eqBs b2 bs=q:=⟨_,rfl⟩
          rw [hq2] at heq
          have HEQ:=Lib.hid heq
          have HQ2:=Lib.hid hq2
          clear heq hq2
          cases q with
          | false=>
            have hD:Hid (decM bs=(Ms.none,190)):=by
              show _=_
              rw [decM,if_neg (by omega),HRD.out,if_neg]
              dsimp only
              rw [HE.out,HQ2.out]
              simp
            go_wp2_with (first|(refine wp_storeM rfl _ _ rfl ?_;refine ⟨w.heap.size,mcells mzero,mcells mzero,rfl,rfl,hX8,rfl,rfl,rfl, ?_⟩;intro W8 bm keepf st;have HBM:=Lib.hid bm;have HST:=Lib.hid st;clear bm keepf st)|(go_at_call 13;(with_reducible refine HEQ.out.mono ?_);rintro e wq ⟨rfl,hwq⟩;obtain rfl:=hwq.symm))
            rw [←HQ.out]
            exact ⟨rfl,_,results_msg rfl rfl HBM.out,⟨mzero,by rw [hD.out];rfl,by rw [hD.out];exact isMsg_none _ _⟩,fin hB8 HST.out⟩
          | true=>
            have hD:Hid (decM bs=(m,0)):=by
              show _=_
              rw [decM,if_neg (by omega),HRD.out,if_pos]
              dsimp only
              rw [HE.out,HQ2.out]
              simp
            go_wp2_with (first|(refine wp_storeM rfl _ _ rfl ?_;refine ⟨w.heap.size,mcells mzero,mcells c7,rfl,rfl,hX8,rfl,rfl,rfl, ?_⟩;intro W8 bm keepf st;have HBM:=Lib.hid bm;have HST:=Lib.hid st;clear bm keepf st)|(refine wp_loadM rfl _ rfl ?_;refine ⟨mb,mcells c7,rfl,rfl,hM8, ?_⟩)|(go_at_call 13;(with_reducible refine HEQ.out.mono ?_);rintro e wq ⟨rfl,hwq⟩;obtain rfl:=hwq.symm))
            rw [←HQ.out]
            have hz8:=hb8.size
            have hz9:=HST.out.size
            exact ⟨rfl,_,results_msg rfl rfl HBM.out,⟨c7,by rw [hD.out];rfl,by rw [hD.out];exact ((HI7.out.sub (shows_step (S':=fun b=>mb<b) (fun k hk hl=>⟨hk,(HST.out.block k (by omega) (by omega)).trans (hb8.block k hl)⟩))).sub (shows_only _ _ _)).more (by omega)⟩,fin hB8 HST.out⟩
        · have fe:(f2 !=0)=true:=by simp [hf]
          have hD:Hid (decM bs=(Ms.none,190)):=by
            show _=_
            rw [decM,if_neg (by omega),HRD.out,if_neg]
            dsimp only
            rw [HE.out]
            simp [hf]
          clear hf
          go_wp2_with (refine wp_storeM rfl _ _ rfl ?_;refine ⟨w.heap.size,mcells mzero,mcells mzero,rfl,rfl,hX8,rfl,rfl,rfl, ?_⟩;intro W8 bm keepf st;have HBM:=Lib.hid bm;have HST:=Lib.hid st;clear bm keepf st)
          rw [←HQ.out]
          exact ⟨rfl,_,results_msg rfl rfl HBM.out,⟨mzero,by rw [hD.out];rfl,by rw [hD.out];exact isMsg_none _ _⟩,fin hB8 HST.out⟩
    · have fe:(er !=0)=true:=by simp [he]
      have hD:Hid (decM bs=(Ms.none,190)):=by
        show _=_
        rw [decM,if_neg (by omega),HRD.out,if_neg (by simp [he])]
      clear he
      go_wp2_with (first|(refine wp_storeM rfl _ _ rfl ?_;refine ⟨w.heap.size,mcells mzero,mcells mzero,rfl,rfl,hX7,rfl,rfl,rfl, ?_⟩;intro W8 bm keepf st;have HBM:=Lib.hid bm;have HST:=Lib.hid st;clear bm keepf st)|(go_at_call 12;(with_reducible refine HTL.out.mono ?_);rintro e w7 ⟨rfl,⟨c7,hI7,hM7⟩,⟨bs7,hR7⟩,hb7⟩;have hX7:=hX6.keep hb7 (by omega);have y7:=hR7.short))
      rw [←HQ.out]
      exact ⟨rfl,_,results_msg rfl rfl HBM.out,⟨mzero,by rw [hD.out];rfl,by rw [hD.out];exact isMsg_none _ _⟩,fin hb7 HST.out⟩
  | false =>
    go_wp2_with (go_at_call 11;(with_reducible refine (HNB.out _).mono ?_);rintro e w0 ⟨rfl,hw0⟩;obtain rfl:=hw0.symm)
    have hM6:=hM4;have hR6:=hR4;have hX6:=hX4;have hB6:=hB4
    have HHD:Hid (headP bs=((K:Int),doc,0,s3)):=by
      show _=_
      simp only [headP,HNS.out,HTX.out,HNB2.out]
      rfl
    clear hM4 hR4 hX4 hB4 y0 y2 g2
    generalize W4=W6 at hM6 hR6 hX6 hB6 hmlt ⊢
    have hkb:KB K doc 0:=⟨by omega,by omega,by omega,by omega,by omega⟩
    have HRD:Hid (rdMsg bs=tailRd K doc 0 s3):=by show _=_;rw [rdMsg,HHD.out]
    have HFT:=Lib.hid (tailRd_fits K doc 0 s3 (by omega))
    have HTL:=Lib.hid (tailR_any W6 (w.heap.size+1) mb (w.heap.size+1) (Nat.le_refl _) (by omega) (fun W hW=>HT.out.below (hB6.trans (hW.mono (by omega)))) K doc 0 hkb s3 (by omega) hR6 hM6)
    obtain ⟨R,hR⟩:∃R,tailRd K doc 0 s3=R:=⟨_,rfl⟩
    rw [hR] at HRD HFT HTL
    obtain ⟨m,er,sh⟩:=R
    replace HTL:Hid (Calls Tryd.prog 12 #[.pointer (some ⟨w.heap.size+1,0,none⟩), .pointer (some ⟨mb,0,none⟩)] W6 fun e w'=>e= .returned (.int .u16 er)∧(∃c',IsMsg (only (fun b=>mb<b) w') w'.heap.size m c'∧BC w' mb (mcells c'))∧(∃bs',RdM w' (w.heap.size+1) bs' sh)∧Below (w.heap.size+1) W6 w'):=HTL
    clear hR hkb
    have fin:∀ {W7 W8:World},Below (w.heap.size+1) W6 W7→RStep W7 W8 w.heap.size→Below w.heap.size w W8:=fun h7 h8=>(hB6.trans (h7.mono (by omega))).trans (h8.low (Nat.le_refl _) (Nat.le_trans hB6.size h7.size))
    by_cases he:er=0
    · subst he
      cases sh with
      | true=>
        have hD:Hid (decM bs=(Ms.none,190)):=by
          show _=_
          rw [decM,if_neg (by omega),HRD.out,if_neg (by simp)]
        go_wp2_with (first|(refine wp_storeM rfl _ _ rfl ?_;refine ⟨w.heap.size,mcells mzero,mcells mzero,rfl,rfl,hX7,rfl,rfl,rfl, ?_⟩;intro W8 bm keepf st;have HBM:=Lib.hid bm;have HST:=Lib.hid st;clear bm keepf st)|(go_at_call 12;(with_reducible refine HTL.out.mono ?_);rintro e w7 ⟨rfl,⟨c7,hI7,hM7⟩,⟨bs7,hR7⟩,hb7⟩;have hX7:=hX6.keep hb7 (by omega);have y7:=hR7.short))
        rw [←HQ.out]
        exact ⟨rfl,_,results_msg rfl rfl HBM.out,⟨mzero,by rw [hD.out];rfl,by rw [hD.out];exact isMsg_none _ _⟩,fin hb7 HST.out⟩
      | false =>
        obtain ⟨⟨f2,b2⟩,hE⟩:∃p,encMsg m=p:=⟨_,rfl⟩
        have HE:=Lib.hid hE
        clear hE
        go_wp2_with (first|(refine wp_loadM rfl _ rfl ?_;first|(refine ⟨mb,mcells c7,rfl,rfl,hM7, ?_⟩))|(go_at_call 12;(with_reducible refine HTL.out.mono ?_);rintro e w7 ⟨rfl,⟨c7,hI7,hM7⟩,⟨bs7,hR7⟩,hb7⟩;have hX7:=hX6.keep hb7 (by omega);have y7:=hR7.short;have HI7:=Lib.hid hI7;have hB7:Below w.heap.size w w7:=hB6.trans (hb7.mono (by omega));have hT7:=Lib.hid (HT.out.below hB7);clear hI7))
        go_at_call 7
        have hq:=encMsg_any m w7 hT7.out c7 (HI7.out.sub (shows_only _ _ _)) HFT.out
        rw [HE.out] at hq
        dsimp only at hq
        (with_reducible refine hq.mono ?_)
        rintro e w8 ⟨⟨a8,n8,c8,rfl,hI8⟩,hb8⟩
        have hM8:=hM7.keep hb8 hM7.lt
        have hX8:=hX7.keep hb8 (by have:=hM7.lt;omega)
        have hB8:Below (w.heap.size+1) W6 w8:=hb7.trans (hb8.mono (by have:=hM7.lt;omega))
        have hBw8:Below w.heap.size w w8:=hB6.trans (hB8.mono (by omega))
        by_cases hf:f2=0
        · subst hf
          have heq:=equal_any w8 w8.heap.size w8.heap.size a8 a n8 n c8 c b2 bs hI8 ((HI.out.keep hBw8).more hBw8.size)
          obtain ⟨q,hq2⟩:∃q,eqBs b2 bs=q:=⟨_,rfl⟩
          rw [hq2] at heq
          have HEQ:=Lib.hid heq
          have HQ2:=Lib.hid hq2
          clear heq hq2
          cases q with
          | false=>
            have hD:Hid (decM bs=(Ms.none,190)):=by
              show _=_
              rw [decM,if_neg (by omega),HRD.out,if_neg]
              dsimp only
              rw [HE.out,HQ2.out]
              simp
            go_wp2_with (first|(refine wp_storeM rfl _ _ rfl ?_;refine ⟨w.heap.size,mcells mzero,mcells mzero,rfl,rfl,hX8,rfl,rfl,rfl, ?_⟩;intro W8 bm keepf st;have HBM:=Lib.hid bm;have HST:=Lib.hid st;clear bm keepf st)|(go_at_call 13;(with_reducible refine HEQ.out.mono ?_);rintro e wq ⟨rfl,hwq⟩;obtain rfl:=hwq.symm))
            rw [←HQ.out]
            exact ⟨rfl,_,results_msg rfl rfl HBM.out,⟨mzero,by rw [hD.out];rfl,by rw [hD.out];exact isMsg_none _ _⟩,fin hB8 HST.out⟩
          | true=>
            have hD:Hid (decM bs=(m,0)):=by
              show _=_
              rw [decM,if_neg (by omega),HRD.out,if_pos]
              dsimp only
              rw [HE.out,HQ2.out]
              simp
            go_wp2_with (first|(refine wp_storeM rfl _ _ rfl ?_;refine ⟨w.heap.size,mcells mzero,mcells c7,rfl,rfl,hX8,rfl,rfl,rfl, ?_⟩;intro W8 bm keepf st;have HBM:=Lib.hid bm;have HST:=Lib.hid st;clear bm keepf st)|(refine wp_loadM rfl _ rfl ?_;refine ⟨mb,mcells c7,rfl,rfl,hM8, ?_⟩)|(go_at_call 13;(with_reducible refine HEQ.out.mono ?_);rintro e wq ⟨rfl,hwq⟩;obtain rfl:=hwq.symm))
            rw [←HQ.out]
            have hz8:=hb8.size
            have hz9:=HST.out.size
            exact ⟨rfl,_,results_msg rfl rfl HBM.out,⟨c7,by rw [hD.out];rfl,by rw [hD.out];exact ((HI7.out.sub (shows_step (S':=fun b=>mb<b) (fun k hk hl=>⟨hk,(HST.out.block k (by omega) (by omega)).trans (hb8.block k hl)⟩))).sub (shows_only _ _ _)).more (by omega)⟩,fin hB8 HST.out⟩
        · have fe:(f2 !=0)=true:=by simp [hf]
          have hD:Hid (decM bs=(Ms.none,190)):=by
            show _=_
            rw [decM,if_neg (by omega),HRD.out,if_neg]
            dsimp only
            rw [HE.out]
            simp [hf]
          clear hf
          go_wp2_with (refine wp_storeM rfl _ _ rfl ?_;refine ⟨w.heap.size,mcells mzero,mcells mzero,rfl,rfl,hX8,rfl,rfl,rfl, ?_⟩;intro W8 bm keepf st;have HBM:=Lib.hid bm;have HST:=Lib.hid st;clear bm keepf st)
          rw [←HQ.out]
          exact ⟨rfl,_,results_msg rfl rfl HBM.out,⟨mzero,by rw [hD.out];rfl,by rw [hD.out];exact isMsg_none _ _⟩,fin hB8 HST.out⟩
    · have fe:(er !=0)=true:=by simp [he]
      have hD:Hid (decM bs=(Ms.none,190)):=by
        show _=_
        rw [decM,if_neg (by omega),HRD.out,if_neg (by simp [he])]
      clear he
      go_wp2_with (first|(refine wp_storeM rfl _ _ rfl ?_;refine ⟨w.heap.size,mcells mzero,mcells mzero,rfl,rfl,hX7,rfl,rfl,rfl, ?_⟩;intro W8 bm keepf st;have HBM:=Lib.hid bm;have HST:=Lib.hid st;clear bm keepf st)|(go_at_call 12;(with_reducible refine HTL.out.mono ?_);rintro e w7 ⟨rfl,⟨c7,hI7,hM7⟩,⟨bs7,hR7⟩,hb7⟩;have hX7:=hX6.keep hb7 (by omega);have y7:=hR7.short))
      rw [←HQ.out]
      exact ⟨rfl,_,results_msg rfl rfl HBM.out,⟨mzero,by rw [hD.out];rfl,by rw [hD.out];exact isMsg_none _ _⟩,fin hb7 HST.out⟩
theorem decM_any (w:World) (hT:Tabs w) (a:Option Addr) (n c:Nat) (bs:List UInt8) (h:IsB w w.heap.size a n c bs):
    Calls Tryd.prog 5 #[.slice a n c] w fun e w'=>(∃cm,e= .returned (.tuple #[.agg (mcells cm).toArray, .int .u16 (decM bs).2])∧IsMsg w' w'.heap.size (decM bs).1 cm)∧Below w.heap.size w w':=by
  by_cases hl:bs.length≤60000
  · exact dec_1 w hT a n c bs h hl
  · have hd:decM bs=(Ms.none,3):=by rw [decM,if_pos (by omega)]
    refine (dec_long w a n c (by have:=h.len;omega)).mono fun e w' ⟨h1,h2⟩=>⟨⟨mzero,by rw [hd];exact h1,by rw [hd];exact isMsg_none _ _⟩,h2⟩
end Go.Proofs.YthceefjafklcmaaDoor
namespace Go.Proofs.YthceefjafklcmaaDoor
open Go.RowKit
theorem encMsg_ok {m:Ms} (h:(encMsg m).1=0):msgSound m=true:=by
  cases hs:msgSound m with
  |true=>rfl
  |false=>rw [encMsg,hs] at h;simp [encOut] at h
theorem decM_ok {bs:List UInt8} {m:Ms} (h:decM bs=(m,0)):msgSound m=true∧encMsg m=(0,bs)∧m.Fits:=by
  rw [decM] at h
  by_cases hl:60000<bs.length
  · rw [if_pos hl] at h;injection h with h1 h2;omega
  rw [if_neg hl] at h
  split at h
  · rename_i hc
    obtain ⟨_,_,h3,h4⟩:=hc
    injection h with h5 _
    have hq:(encMsg (rdMsg bs).1).2=bs:=by simpa [eqBs] using h4
    have hf:(rdMsg bs).1.Fits:=by
      rw [rdMsg]
      refine tailRd_fits _ _ _ _ ?_
      have a1:=numP_len 1 (bs,false)
      have a2:=(textP_len 1 (numP 1 (bs,false)).2).2
      have a3:=numP_len 4 (textP 1 (numP 1 (bs,false)).2).2
      dsimp only at a1
      unfold headP
      dsimp only
      split
      · dsimp only;omega
      · dsimp only;omega
    rw [h5] at h3 hq hf
    exact ⟨encMsg_ok h3,Prod.ext h3 hq,hf⟩
  · injection h with h1 h2;omega
theorem decM_no {bs:List UInt8} (hl:bs.length≤60000) (he:(decM bs).2≠0):decM bs=(Ms.none,190):=by
  rw [decM,if_neg (by omega)] at he ⊢
  split
  · rename_i hc;rw [if_pos hc] at he;exact absurd rfl he
  · rfl
end Go.Proofs.YthceefjafklcmaaDoor
namespace Go.Proofs.YthceefjafklcmaaDoor
open Go.RowKit
structure BoxM (w W:World) (c d:MC):Prop where
  a:BC W w.heap.size (mcells c)
  b:BC W (w.heap.size+1) (mcells d)
  below:Below w.heap.size w W
theorem boxM_start (w:World) (c d:MC):BoxM w ((w.alloc (.cells (mcells c).toArray 36)).alloc (.cells (mcells d).toArray 36)) c d:=by
  have hb:=BC.start (w.alloc (.cells (mcells c).toArray 36)) (mcells d).toArray 36
  rw [show (w.alloc (.cells (mcells c).toArray 36)).heap.size=w.heap.size+1 by simp] at hb
  exact ⟨(BC.start w (mcells c).toArray 36).keep ((Below.refl _ _).alloc (Nat.le_refl _) _) (by simp),hb,((Below.refl _ _).alloc (Nat.le_refl _) _).alloc (by simp) _⟩
theorem BoxM.step {w W W':World} {c d:MC} (h:BoxM w W c d) (hb:Below W.heap.size W W'):BoxM w W' c d:=⟨h.a.keep hb h.a.lt,h.b.keep hb h.b.lt,h.below.on hb (Nat.le_of_lt h.a.lt)⟩
def sameMs (c d:MC) (ef ee ev:Bool):Bool:=sameB c d ef && (ee && ev)
set_option maxHeartbeats 8000000 in
set_option maxRecDepth 100000 in
theorem refMsSame_any (x y:Ms) (w:World) (c d:MC) (hx:IsMsg w w.heap.size x c) (hy:IsMsg w w.heap.size y d):
    Calls Tryd.prog 6 #[.agg (mcells c).toArray, .agg (mcells d).toArray] w fun e w'=>e= .returned (.bool (sameMs c d (eqB x.f y.f) (eqB x.e y.e) (eqv x.v y.v)))∧Below w.heap.size w w':=by
  cases hx with
  |mk c e v f hb he hv hf=>
  cases hy with
  |mk d e' v' f' hb' he' hv' hf'=>
  dsimp only
  have HE:Hid (∀W,Below w.heap.size w W→Calls Tryd.prog 14 #[.agg #[.int .u8 c.e.k, .int .u32 c.e.src, .int .u32 c.e.seq, .int .u8 c.e.v.k, .int .i64 c.e.v.n, .string c.e.v.s, .slice c.e.v.la c.e.v.ll c.e.v.lc, .slice c.e.v.oa c.e.v.ol c.e.v.oc, .slice c.e.oa c.e.ol c.e.oc], .agg #[.int .u8 d.e.k, .int .u32 d.e.src, .int .u32 d.e.seq, .int .u8 d.e.v.k, .int .i64 d.e.v.n, .string d.e.v.s, .slice d.e.v.la d.e.v.ll d.e.v.lc, .slice d.e.v.oa d.e.v.ol d.e.v.oc, .slice d.e.oa d.e.ol d.e.oc]] W fun e2 w'=>e2= .returned (.bool (eqB e e'))∧Below W.heap.size W w'):=fun W hW=>refEnSame_any e e' W c.e d.e (he.later_ hW) (he'.later_ hW)
  have HV:Hid (∀W,Below w.heap.size w W→Calls Tryd.prog 15 #[.agg #[.int .u8 c.v.k, .int .i64 c.v.n, .string c.v.s, .slice c.v.la c.v.ll c.v.lc, .slice c.v.oa c.v.ol c.v.oc], .agg #[.int .u8 d.v.k, .int .i64 d.v.n, .string d.v.s, .slice d.v.la d.v.ll d.v.lc, .slice d.v.oa d.v.ol d.v.oc]] W fun e2 w'=>e2= .returned (.bool (eqv v v'))∧Below W.heap.size W w'):=fun W hW=>refSame_any v v' W c.v d.v (hv.later_ hW) (hv'.later_ hW)
  generalize eqB e e'=ee at HE ⊢
  generalize eqv v v'=ev at HV ⊢
  have bx:=boxM_start w c d
  have z0:=bx.a.at_ 0 _ rfl;have z1:=bx.a.at_ 1 _ rfl;have z2:=bx.a.at_ 2 _ rfl;have z12:=bx.a.at_ 12 _ rfl;have z13:=bx.a.at_ 13 _ rfl;have z14:=bx.a.at_ 14 _ rfl;have z15:=bx.a.at_ 15 _ rfl;have z21:=bx.a.at_ 21 _ rfl
  have y0:=bx.b.at_ 0 _ rfl;have y1:=bx.b.at_ 1 _ rfl;have y2:=bx.b.at_ 2 _ rfl;have y12:=bx.b.at_ 12 _ rfl;have y13:=bx.b.at_ 13 _ rfl;have y14:=bx.b.at_ 14 _ rfl;have y15:=bx.b.at_ 15 _ rfl;have y21:=bx.b.at_ 21 _ rfl
  have k1:=hf.max;have k2:=hf.few;have k3:=hf'.max;have k4:=hf'.few
  have HLn:=Lib.hid hf.len;have HLm:=Lib.hid hf'.len
  obtain ⟨R,hR⟩:∃R,sameMs c d (eqB f f') ee ev=R:=⟨_,rfl⟩
  rw [hR]
  rw [sameMs,sameB] at hR
  obtain ⟨f0,h0⟩:∃b,(c.k==d.k)=b:=⟨_,rfl⟩
  obtain ⟨f1,h1⟩:∃b,(c.doc.toList==d.doc.toList)=b:=⟨_,rfl⟩
  obtain ⟨f2,h2⟩:∃b,(c.n==d.n)=b:=⟨_,rfl⟩
  obtain ⟨f3,h3⟩:∃b,(c.src==d.src)=b:=⟨_,rfl⟩
  obtain ⟨f4,h4⟩:∃b,(c.seq==d.seq)=b:=⟨_,rfl⟩
  obtain ⟨f5,h5⟩:∃b,(c.err==d.err)=b:=⟨_,rfl⟩
  obtain ⟨f6,h6⟩:∃b,(c.there==d.there)=b:=⟨_,rfl⟩
  rw [h0,h1,h2,h3,h4,h5,h6] at hR
  have n0:(c.k !=d.k)= !f0:=by rw [bne,h0]
  have n2:(c.n !=d.n)= !f2:=by rw [bne,h2]
  have n3:(c.src !=d.src)= !f3:=by rw [bne,h3]
  have n4:(c.seq !=d.seq)= !f4:=by rw [bne,h4]
  have n5:(c.err !=d.err)= !f5:=by rw [bne,h5]
  have n6:(c.there !=d.there)= !f6:=by rw [bne,h6]
  have HR:=Lib.hid hR
  have HF:=Lib.hid hf;have HF':=Lib.hid hf'
  clear hR hb he hv hf hb' he' hv' hf'
  rcases bcT f0 (bcT f1 (bcT f2 (bcT f3 (bcT f4 (bcT f5 (bcT f6 trivial)))))) with rfl|⟨rfl,(rfl|⟨rfl,(rfl|⟨rfl,(rfl|⟨rfl,(rfl|⟨rfl,(rfl|⟨rfl,(rfl|⟨rfl,_⟩)⟩)⟩)⟩)⟩)⟩)⟩
  iterate 7
    (go_enter Tryd.func6,Tryd.ntmps6
     go_wp2_with fail
     go_ret
     exact ⟨ret_bool (by rw [←HR.out];simp),bx.below⟩)
  by_cases e:c.fl=d.fl
  case neg=>
    have f7:((c.fl:Int) !=(d.fl:Int))=true:=by simp;omega
    have HE2:Hid (eqB f f'=false):=eqB_no (fun h=>e (by rw [HLn.out,HLm.out,h]))
    clear e
    go_enter Tryd.func6,Tryd.ntmps6
    go_wp2_with fail
    go_ret
    exact ⟨ret_bool (by rw [←HR.out,HE2.out];simp),bx.below⟩
  have f7:((c.fl:Int) !=(d.fl:Int))=false:=by rw [e];simp
  have HEQ:=Lib.hid e
  clear e
  go_enter Tryd.func6,Tryd.ntmps6
  go_wp2_with fail
  clear f7 h0 h1 h2 h3 h4 h5 h6 n0 n2 n3 n4 n5 n6 z0 y0 z1 y1 z2 y2 z12 y12 z13 y13 z14 y14 z15 y15 z21 y21
  go_loopw [5] (fun i wr=>∃k:Nat,k≤c.fl∧i= .int .i64 k∧Hid (∀j,j<k→f[j]? =f'[j]?)∧BoxM w wr c d) (fun i _=>c.fl - (intOf i).toNat)
  case atStart=>exact ⟨0,Nat.zero_le _,rfl,fun j hj=>by omega,bx⟩
  case round=>
    clear bx
    obtain ⟨k,hk,rfl,HJ,bx⟩:=hrel
    have z21:=bx.a.at_ 21 _ rfl
    by_cases hlt:k<c.fl
    · obtain ⟨b,o,kl,ea,hb,g1,_⟩:=HF.out.get hlt
      obtain ⟨b',o',kl',ea',hb',g2,_⟩:=HF'.out.get (show k<d.fl by rw [←HEQ.out];exact hlt)
      have hlt':k<d.fl:=by rw [←HEQ.out];exact hlt
      have g1:=later_cell (keep_cell bx.below g1 hb)
      have g2:=later_cell (keep_cell bx.below g2 hb')
      have y21:=bx.b.at_ 21 _ rfl
      rw [ea] at z21;rw [ea'] at y21
      have q1:=later_cell z21;have q2:=later_cell y21
      obtain ⟨t,ht⟩:∃t,(f[k].toList==(f'[k]'kl').toList)=t:=⟨_,rfl⟩
      have HX:Hid (eqB f[k] (f'[k]'kl')=t):=by show _=_;rw [eqB_bytes,ht]
      clear ea ea'
      cases t with
      | true=>
        go_wp2_with fail
        refine wp_region_later (by kernel_rfl) (by kernel_rfl) ?_
        repeat (go_big_quiet_step (fail))
        refine wpQuiet_nil ?_
        intro _ hw'
        obtain ⟨pq,hw''⟩:=hw'
        subst hw''
        clear q1 q2 g1 g2 ht z21 y21
        have bx2:=bx.step (below_later wr pq)
        go_wp2_with fail
        go_roundw
        case rel=>exact ⟨k+1,by omega,by go_num,same_stepB HJ kl kl' HX.out,bx2⟩
        case measure=>simp [intOf];omega
      | false=>
        go_wp2_with fail
        refine wp_region_later (by kernel_rfl) (by kernel_rfl) ?_
        repeat (go_big_quiet_step (fail))
        refine wpQuiet_nil ?_
        intro _ hw'
        obtain ⟨pq,hw''⟩:=hw'
        subst hw''
        clear q1 q2 g1 g2 ht z21 y21
        have bx2:=bx.step (below_later wr pq)
        go_wp2_with fail
        go_ret
        have HE2:Hid (eqB f f'=false):=eqB_no (fun h=>by subst h;exact ne_of_eqB HX.out rfl)
        exact ⟨ret_bool (by rw [←HR.out,HE2.out];simp),bx2.below⟩
    · have HE2:Hid (eqB f f'=true):=eqB_yes (list_of_same HJ.out (by have:=HLn.out;omega) (by have:=HLm.out;have:=HEQ.out;omega))
      clear HJ
      have z3:=bx.a.at_ 3 _ rfl;have z4:=bx.a.at_ 4 _ rfl;have z5:=bx.a.at_ 5 _ rfl;have z6:=bx.a.at_ 6 _ rfl;have z7:=bx.a.at_ 7 _ rfl;have z8:=bx.a.at_ 8 _ rfl;have z9:=bx.a.at_ 9 _ rfl;have z10:=bx.a.at_ 10 _ rfl;have z11:=bx.a.at_ 11 _ rfl
      have y3:=bx.b.at_ 3 _ rfl;have y4:=bx.b.at_ 4 _ rfl;have y5:=bx.b.at_ 5 _ rfl;have y6:=bx.b.at_ 6 _ rfl;have y7:=bx.b.at_ 7 _ rfl;have y8:=bx.b.at_ 8 _ rfl;have y9:=bx.b.at_ 9 _ rfl;have y10:=bx.b.at_ 10 _ rfl;have y11:=bx.b.at_ 11 _ rfl
      cases ee with
      | true=>
        go_wp2_with (first|(go_at_call 14;(with_reducible refine (HE.out _ bx.below).mono ?_);rintro e1 w1 ⟨rfl,hb1⟩;have bx1:=bx.step hb1;have z16:=bx1.a.at_ 16 _ rfl;have z17:=bx1.a.at_ 17 _ rfl;have z18:=bx1.a.at_ 18 _ rfl;have z19:=bx1.a.at_ 19 _ rfl;have z20:=bx1.a.at_ 20 _ rfl;have y16:=bx1.b.at_ 16 _ rfl;have y17:=bx1.b.at_ 17 _ rfl;have y18:=bx1.b.at_ 18 _ rfl;have y19:=bx1.b.at_ 19 _ rfl;have y20:=bx1.b.at_ 20 _ rfl)|(go_at_call 15;(with_reducible refine (HV.out _ bx1.below).mono ?_);rintro e2 w2 ⟨rfl,hb2⟩))
        go_ret
        exact ⟨ret_bool (by rw [←HR.out,HE2.out];simp),bx1.below.on hb2 bx1.below.size⟩
      | false=>
        go_wp2_with (go_at_call 14;(with_reducible refine (HE.out _ bx.below).mono ?_);rintro e1 w1 ⟨rfl,hb1⟩;have bx1:=bx.step hb1)
        go_ret
        exact ⟨ret_bool (by rw [←HR.out,HE2.out];simp),bx1.below⟩
end Go.Proofs.YthceefjafklcmaaDoor
namespace Go.Proofs.YthceefjafklcmaaDoor
open Go.RowKit
def rsnd (doc:ByteArray) (n:Int) (ok sm:Bool):Bool:=decide (1≤doc.size) && (decide (doc.size≤20) && (decide (n≤5000) && (ok && sm)))
theorem wpList_wanted {P:Program} {ops:Array Oper} {rest:List Oper} {o:Oper} {a:Act} {w:World} {Q:Exit→Act→World→Prop} (hw:Region.wanted o (yielded ops a.tmps)=true)
    (h:∀K:Act→World→Prop,(∀a w,wpList P ops Q rest a w→K a w)→o.wp P a w K Q):wpList P ops Q (o::rest) a w:=
  wpList_step fun K hK=>by simp only [hw,if_true];exact h K hK
theorem wp_loadG {ops:Array Oper} {rest:List Oper} {op:Oper} {a:Act} {Q:Exit→Act→World→Prop} {W:World} (x:Operand) (ho:op.op= .load 36 x) (hw:Region.wanted op (yielded ops a.tmps)=true)
    (h:∃(b:Nat) (cs:List Value),a.eval x= .pointer (some ⟨b,0,none⟩)∧cs.length=22∧BC W b cs∧wpList Tryd.prog ops Q rest (a.put op.dst (.agg cs.toArray)) W):wpList Tryd.prog ops Q (op::rest) a W:=by
  obtain ⟨b,cs,h1,h2,h3,h4⟩:=h
  exact wpList_wanted hw fun K hK=>wp_load_mid _ x ho b 0 h1 cs _ h3.range Tryd.underlying36 rfl (by rw [minfo,h2]) (hK _ _ h4)
theorem enNone_eq (e:En):enNone e=eqB e En.none:=by
  apply Bool.eq_iff_iff.2
  obtain ⟨k,src,seq,v,op⟩:=e
  constructor
  · intro h
    simp only [enNone,Bool.and_eq_true,beq_iff_eq,List.length_eq_zero_iff] at h
    obtain ⟨h1,h2,h3,h4,h5⟩:=h
    have h6:v=V.none:=by simpa [eqv] using h5
    subst h1 h2 h3 h4 h6
    exact eqB_yes rfl
  · intro h
    have:=eq_of_eqB h
    rw [this]
    simp [enNone,En.none,eqv]
theorem enSound_some {e:En} (h:enSound e=true):enNone e=false:=by
  cases hn:enNone e with
  |false=>rfl
  | true=>
    rw [enNone_eq] at hn
    rw [eq_of_eqB hn] at h
    rw [enSound,if_neg (show ¬En.none.k=1 by decide),if_neg (show ¬En.none.k=2 by decide),if_neg (show ¬En.none.k=3 by decide)] at h
    cases h
theorem eqv_self (v:V):eqv v v=true:=eqv_yes rfl
theorem fieldsSound_nil:fieldsSound [] =true:=by simp [fieldsSound]
theorem doc_nil (d:ByteArray):(d.toList== [])=decide (d.size=0):=by
  rw [ByteArray.toList_eq]
  obtain ⟨⟨l⟩⟩:=d
  cases l with
  |nil=>rfl
  |cons x r=>rfl
end Go.Proofs.YthceefjafklcmaaDoor
namespace Go.Proofs.YthceefjafklcmaaDoor
open Go.RowKit
set_option maxHeartbeats 8000000 in
set_option maxRecDepth 100000 in
theorem refSnd_1 (w:World) (c:MC) (ek:c.k=1) {fs sm:Bool} (HF:Hid (Behind w 19 #[.slice c.fa c.fl c.fc] (.bool fs))) (HSM:Hid (Behind w 6 #[.agg (mcells c).toArray, .agg (mcells (⟨1,c.doc,c.n,ezero,0,0,0,false,vzero,c.fa,c.fl,c.fc⟩:MC)).toArray] (.bool sm))):
    Calls Tryd.prog 8 #[.agg (mcells c).toArray] w fun e w'=>e= .returned (.bool (rsnd c.doc c.n (decide (-1≤c.n) && fs) sm))∧Below w.heap.size w w':=by
  obtain ⟨R,hR⟩:∃R,rsnd c.doc c.n (decide (-1≤c.n) && fs) sm=R:=⟨_,rfl⟩
  rw [hR]
  rw [rsnd] at hR
  have HR:=Lib.hid hR
  clear hR
  have z0:=(BC.start w (mcells c).toArray 36).at_ 0 _ rfl
  have z1:=(BC.start w (mcells c).toArray 36).at_ 1 _ rfl
  have z2:=(BC.start w (mcells c).toArray 36).at_ 2 _ rfl
  rw [ek] at z0
  cases fs
  all_goals
    go_enter Tryd.func8,Tryd.ntmps8
    go_wp2_with (first|(refine wp_makeM rfl _ _ rfl ?_;refine ⟨w,_,_,_,_,mcells (⟨1,c.doc,0,ezero,0,0,0,false,vzero,none,0,0⟩:MC),rfl,rfl,rfl,rfl,rfl,rfl, ?_⟩;intro W2 bx bxx hB;clear z0 z1 z2;have y0:=bx.at_ 0 _ rfl;have y1:=bx.at_ 1 _ rfl;have y2:=bx.at_ 2 _ rfl;have y21:=bx.at_ 21 _ rfl;rw [ek] at y0;have x2:=bxx.at_ 2 _ rfl;have x21:=bxx.at_ 21 _ rfl;have g2:=bxx.fr 2;have g21:=bxx.fr 21)|(go_at_call 19;(with_reducible refine (Behind.at_ HF.out ((hB.setCell (by simp) _).setCell (by simp) _)).mono ?_);rintro e w4 ⟨rfl,hb4⟩;replace hB:=Below.on ((hB.setCell (by simp) _).setCell (by simp) _) hb4 (Below.size ((hB.setCell (by simp) _).setCell (by simp) _));replace bxx:=BC.keep ((bxx.set (i:=2) (x:= .int .i64 c.n) (by simp [mcells])).set (i:=21) (x:= .slice c.fa c.fl c.fc) (by simp [mcells])) hb4 (BC.lt ((bxx.set (i:=2) (x:= .int .i64 c.n) (by simp [mcells])).set (i:=21) (x:= .slice c.fa c.fl c.fc) (by simp [mcells])));replace bx:=BC.keep ((bx.far (by omega)).far (by omega)) hb4 (BC.lt ((bx.far (by omega)).far (by omega))))|(refine wp_loadG _ rfl rfl ?_;first|(refine ⟨w.heap.size,mcells c,rfl,rfl,(by first|exact bx|exact ((bx.far (by omega)).far (by omega))), ?_⟩)|(refine ⟨w.heap.size+1,mcells (⟨1,c.doc,c.n,ezero,0,0,0,false,vzero,c.fa,c.fl,c.fc⟩:MC),rfl,rfl,(by first|exact bxx|exact ((bxx.set (i:=2) (x:= .int .i64 c.n) (by simp [mcells])).set (i:=21) (x:= .slice c.fa c.fl c.fc) (by simp [mcells]))), ?_⟩))|(go_at_call 6;(with_reducible refine (Behind.at_ HSM.out (by first|exact hB|exact ((hB.setCell (by simp) _).setCell (by simp) _))).mono ?_);rintro e w6 ⟨rfl,hb6⟩;replace hB:Below w.heap.size w w6:=by first|exact hB.on hb6 hB.size|exact Below.on ((hB.setCell (by simp) _).setCell (by simp) _) hb6 (Below.size ((hB.setCell (by simp) _).setCell (by simp) _))))
    all_goals
      go_ret
      exact ⟨ret_bool (by rw [←HR.out];first|(simp;done)|(simp;omega)|(simp;intros;omega)|(cases sm<;>simp<;>omega)),by first|exact hB|exact ((hB.setCell (by simp) _).setCell (by simp) _)|exact (Below.refl _ _).alloc (Nat.le_refl _) _⟩
set_option maxHeartbeats 8000000 in
set_option maxRecDepth 100000 in
theorem refSnd_2 (w:World) (c:MC) (ek:c.k=2) {sm:Bool} (HSM:Hid (Behind w 6 #[.agg (mcells c).toArray, .agg (mcells (⟨2,c.doc,0,ezero,0,0,0,false,vzero,none,0,0⟩:MC)).toArray] (.bool sm))):
    Calls Tryd.prog 8 #[.agg (mcells c).toArray] w fun e w'=>e= .returned (.bool (rsnd c.doc c.n true sm))∧Below w.heap.size w w':=by
  obtain ⟨R,hR⟩:∃R,rsnd c.doc c.n true sm=R:=⟨_,rfl⟩
  rw [hR]
  rw [rsnd] at hR
  have HR:=Lib.hid hR
  clear hR
  have z0:=(BC.start w (mcells c).toArray 36).at_ 0 _ rfl
  have z1:=(BC.start w (mcells c).toArray 36).at_ 1 _ rfl
  have z2:=(BC.start w (mcells c).toArray 36).at_ 2 _ rfl
  rw [ek] at z0
  go_enter Tryd.func8,Tryd.ntmps8
  go_wp2_with (first|(refine wp_makeM rfl _ _ rfl ?_;refine ⟨w,_,_,_,_,mcells (⟨2,c.doc,0,ezero,0,0,0,false,vzero,none,0,0⟩:MC),rfl,rfl,rfl,rfl,rfl,rfl, ?_⟩;intro W2 bx bxx hB;clear z0 z1 z2;have y0:=bx.at_ 0 _ rfl;have y1:=bx.at_ 1 _ rfl;have y2:=bx.at_ 2 _ rfl;rw [ek] at y0)|(refine wp_loadG _ rfl rfl ?_;first|(refine ⟨w.heap.size,mcells c,rfl,rfl,(by first|exact bx|exact bx), ?_⟩)|(refine ⟨w.heap.size+1,mcells (⟨2,c.doc,0,ezero,0,0,0,false,vzero,none,0,0⟩:MC),rfl,rfl,(by first|exact bxx|exact bxx), ?_⟩))|(go_at_call 6;(with_reducible refine (Behind.at_ HSM.out (by first|exact hB|exact hB)).mono ?_);rintro e w6 ⟨rfl,hb6⟩;replace hB:Below w.heap.size w w6:=by first|exact hB.on hb6 hB.size|exact Below.on hB hb6 (Below.size hB)))
  all_goals
    go_ret
    exact ⟨ret_bool (by rw [←HR.out];first|(simp;done)|(simp;omega)|(simp;intros;omega)|(cases sm<;>simp<;>omega)),by first|exact hB|exact hB|exact (Below.refl _ _).alloc (Nat.le_refl _) _⟩
set_option maxHeartbeats 8000000 in
set_option maxRecDepth 100000 in
theorem refSnd_3 (w:World) (c:MC) (ek:c.k=3) {sd sm:Bool} (HE:Hid (Behind w 20 #[.agg #[.int .u8 c.e.k, .int .u32 c.e.src, .int .u32 c.e.seq, .int .u8 c.e.v.k, .int .i64 c.e.v.n, .string c.e.v.s, .slice c.e.v.la c.e.v.ll c.e.v.lc, .slice c.e.v.oa c.e.v.ol c.e.v.oc, .slice c.e.oa c.e.ol c.e.oc]] (.bool sd))) (HSM:Hid (Behind w 6 #[.agg (mcells c).toArray, .agg (mcells (⟨3,c.doc,c.n,c.e,0,0,0,false,vzero,none,0,0⟩:MC)).toArray] (.bool sm))):
    Calls Tryd.prog 8 #[.agg (mcells c).toArray] w fun e w'=>e= .returned (.bool (rsnd c.doc c.n (decide (0≤c.n) && sd) sm))∧Below w.heap.size w w':=by
  obtain ⟨R,hR⟩:∃R,rsnd c.doc c.n (decide (0≤c.n) && sd) sm=R:=⟨_,rfl⟩
  rw [hR]
  rw [rsnd] at hR
  have HR:=Lib.hid hR
  clear hR
  have z0:=(BC.start w (mcells c).toArray 36).at_ 0 _ rfl
  have z1:=(BC.start w (mcells c).toArray 36).at_ 1 _ rfl
  have z2:=(BC.start w (mcells c).toArray 36).at_ 2 _ rfl
  rw [ek] at z0
  cases sd
  all_goals
    go_enter Tryd.func8,Tryd.ntmps8
    go_wp2_with (first|(refine wp_makeM rfl _ _ rfl ?_;refine ⟨w,_,_,_,_,mcells (⟨3,c.doc,0,ezero,0,0,0,false,vzero,none,0,0⟩:MC),rfl,rfl,rfl,rfl,rfl,rfl, ?_⟩;intro W2 bx bxx hB;clear z0 z1 z2;have y0:=bx.at_ 0 _ rfl;have y1:=bx.at_ 1 _ rfl;have y2:=bx.at_ 2 _ rfl;have y3:=bx.at_ 3 _ rfl;have y4:=bx.at_ 4 _ rfl;have y5:=bx.at_ 5 _ rfl;have y6:=bx.at_ 6 _ rfl;have y7:=bx.at_ 7 _ rfl;have y8:=bx.at_ 8 _ rfl;have y9:=bx.at_ 9 _ rfl;have y10:=bx.at_ 10 _ rfl;have y11:=bx.at_ 11 _ rfl;rw [ek] at y0;have x2:=bxx.at_ 2 _ rfl;have g2:=bxx.fr 2)|(refine wp_storeE rfl _ _ rfl ?_;refine ⟨w.heap.size+1,(⟨3,c.doc,c.n,ezero,0,0,0,false,vzero,none,0,0⟩:MC),c.e,rfl,rfl,(bxx.set (i:=2) (x:= .int .i64 c.n) (by simp [mcells])), ?_⟩;intro bxe;have bx3:=bc_far (b:=w.heap.size) (b':=w.heap.size+1) (cs:=mcells c) (by omega) [.int .u8 c.e.k, .int .u32 c.e.src, .int .u32 c.e.seq, .int .u8 c.e.v.k, .int .i64 c.e.v.n, .string c.e.v.s, .slice c.e.v.la c.e.v.ll c.e.v.lc, .slice c.e.v.oa c.e.v.ol c.e.v.oc, .slice c.e.oa c.e.ol c.e.oc] 3 (W2.setCell ⟨w.heap.size+1,2,none⟩ (.int .i64 c.n)) (bx.far (by omega));have hB3:=below_setCells (B:=w.heap.size) (b:=w.heap.size+1) (by simp) [.int .u8 c.e.k, .int .u32 c.e.src, .int .u32 c.e.seq, .int .u8 c.e.v.k, .int .i64 c.e.v.n, .string c.e.v.s, .slice c.e.v.la c.e.v.ll c.e.v.lc, .slice c.e.v.oa c.e.v.ol c.e.v.oc, .slice c.e.oa c.e.ol c.e.oc] 3 w (W2.setCell ⟨w.heap.size+1,2,none⟩ (.int .i64 c.n)) (hB.setCell (by simp) _);clear bx bxx hB y0 y1 y2 y3 y4 y5 y6 y7 y8 y9 y10 y11 x2 g2;generalize (World.setCells (W2.setCell ⟨w.heap.size+1,2,none⟩ (.int .i64 c.n)) (w.heap.size+1) 3 [.int .u8 c.e.k, .int .u32 c.e.src, .int .u32 c.e.seq, .int .u8 c.e.v.k, .int .i64 c.e.v.n, .string c.e.v.s, .slice c.e.v.la c.e.v.ll c.e.v.lc, .slice c.e.v.oa c.e.v.ol c.e.v.oc, .slice c.e.oa c.e.ol c.e.oc])=W3 at bxe bx3 hB3 ⊢;have bx:=bx3;have bxx:=bxe;have hB:=hB3;clear bx3 bxe hB3;have y2:=bx.at_ 2 _ rfl;have y3:=bx.at_ 3 _ rfl;have y4:=bx.at_ 4 _ rfl;have y5:=bx.at_ 5 _ rfl;have y6:=bx.at_ 6 _ rfl;have y7:=bx.at_ 7 _ rfl;have y8:=bx.at_ 8 _ rfl;have y9:=bx.at_ 9 _ rfl;have y10:=bx.at_ 10 _ rfl;have y11:=bx.at_ 11 _ rfl)|(go_at_call 20;(with_reducible refine (Behind.at_ HE.out hB).mono ?_);rintro e w4 ⟨rfl,hb4⟩;replace hB:=Below.on hB hb4 (Below.size hB);replace bxx:=BC.keep bxx hb4 (BC.lt bxx);replace bx:=BC.keep bx hb4 (BC.lt bx))|(refine wp_loadG _ rfl rfl ?_;first|(refine ⟨w.heap.size,mcells c,rfl,rfl,(by first|exact bx|exact bx), ?_⟩)|(refine ⟨w.heap.size+1,mcells (⟨3,c.doc,c.n,c.e,0,0,0,false,vzero,none,0,0⟩:MC),rfl,rfl,(by first|exact bxx|exact bxx), ?_⟩))|(go_at_call 6;(with_reducible refine (Behind.at_ HSM.out (by first|exact hB|exact hB)).mono ?_);rintro e w6 ⟨rfl,hb6⟩;replace hB:Below w.heap.size w w6:=by first|exact hB.on hb6 hB.size|exact Below.on hB hb6 (Below.size hB)))
    all_goals
      go_ret
      exact ⟨ret_bool (by rw [←HR.out];first|(simp;done)|(simp;omega)|(simp;intros;omega)|(cases sm<;>simp<;>omega)),by first|exact hB|exact hB|exact (Below.refl _ _).alloc (Nat.le_refl _) _⟩
set_option maxHeartbeats 8000000 in
set_option maxRecDepth 100000 in
theorem refSnd_4t (w:World) (c:MC) (ek:c.k=4) {sm:Bool} (hth:c.there=true) (HSM:Hid (Behind w 6 #[.agg (mcells c).toArray, .agg (mcells (⟨4,c.doc,c.n,ezero,0,0,0,true,c.v,none,0,0⟩:MC)).toArray] (.bool sm))):
    Calls Tryd.prog 8 #[.agg (mcells c).toArray] w fun e w'=>e= .returned (.bool (rsnd c.doc c.n (decide (0≤c.n)) sm))∧Below w.heap.size w w':=by
  obtain ⟨R,hR⟩:∃R,rsnd c.doc c.n (decide (0≤c.n)) sm=R:=⟨_,rfl⟩
  rw [hR]
  rw [rsnd] at hR
  have HR:=Lib.hid hR
  clear hR
  have z0:=(BC.start w (mcells c).toArray 36).at_ 0 _ rfl
  have z1:=(BC.start w (mcells c).toArray 36).at_ 1 _ rfl
  have z2:=(BC.start w (mcells c).toArray 36).at_ 2 _ rfl
  rw [ek] at z0
  by_cases h0:0≤c.n
  all_goals
    go_enter Tryd.func8,Tryd.ntmps8
    go_wp2_with (first|(refine wp_makeM rfl _ _ rfl ?_;refine ⟨w,_,_,_,_,mcells (⟨4,c.doc,0,ezero,0,0,0,false,vzero,none,0,0⟩:MC),rfl,rfl,rfl,rfl,rfl,rfl, ?_⟩;intro W2 bx bxx hB;clear z0 z1 z2;have y0:=bx.at_ 0 _ rfl;have y1:=bx.at_ 1 _ rfl;have y2:=bx.at_ 2 _ rfl;have y15:=bx.at_ 15 _ rfl;have y16:=bx.at_ 16 _ rfl;have y17:=bx.at_ 17 _ rfl;have y18:=bx.at_ 18 _ rfl;have y19:=bx.at_ 19 _ rfl;have y20:=bx.at_ 20 _ rfl;rw [ek] at y0;rw [hth] at y15;have x2:=bxx.at_ 2 _ rfl;have x15:=bxx.at_ 15 _ rfl;have g2:=bxx.fr 2;have g15:=bxx.fr 15)|(refine wp_storeV rfl _ _ rfl ?_;refine ⟨w.heap.size+1,(⟨4,c.doc,c.n,ezero,0,0,0,true,vzero,none,0,0⟩:MC),c.v,rfl,rfl,((bxx.set (i:=2) (x:= .int .i64 c.n) (by simp [mcells])).set (i:=15) (x:= .bool true) (by simp [mcells])), ?_⟩;intro bxe;have bx3:=bc_far (b:=w.heap.size) (b':=w.heap.size+1) (cs:=mcells c) (by omega) [.int .u8 c.v.k, .int .i64 c.v.n, .string c.v.s, .slice c.v.la c.v.ll c.v.lc, .slice c.v.oa c.v.ol c.v.oc] 16 ((W2.setCell ⟨w.heap.size+1,2,none⟩ (.int .i64 c.n)).setCell ⟨w.heap.size+1,15,none⟩ (.bool true)) ((bx.far (by omega)).far (by omega));have hB3:=below_setCells (B:=w.heap.size) (b:=w.heap.size+1) (by simp) [.int .u8 c.v.k, .int .i64 c.v.n, .string c.v.s, .slice c.v.la c.v.ll c.v.lc, .slice c.v.oa c.v.ol c.v.oc] 16 w ((W2.setCell ⟨w.heap.size+1,2,none⟩ (.int .i64 c.n)).setCell ⟨w.heap.size+1,15,none⟩ (.bool true)) ((hB.setCell (by simp) _).setCell (by simp) _);clear bx bxx hB y0 y1 y2 y15 y16 y17 y18 y19 y20 x2 g2 x15 g15;generalize (World.setCells ((W2.setCell ⟨w.heap.size+1,2,none⟩ (.int .i64 c.n)).setCell ⟨w.heap.size+1,15,none⟩ (.bool true)) (w.heap.size+1) 16 [.int .u8 c.v.k, .int .i64 c.v.n, .string c.v.s, .slice c.v.la c.v.ll c.v.lc, .slice c.v.oa c.v.ol c.v.oc])=W3 at bxe bx3 hB3 ⊢;have bx:=bx3;have bxx:=bxe;have hB:=hB3;clear bx3 bxe hB3)|(refine wp_loadG _ rfl rfl ?_;first|(refine ⟨w.heap.size,mcells c,rfl,rfl,(by first|exact bx|exact bx), ?_⟩)|(refine ⟨w.heap.size+1,mcells (⟨4,c.doc,c.n,ezero,0,0,0,true,c.v,none,0,0⟩:MC),rfl,rfl,(by first|exact bxx|exact bxx), ?_⟩))|(go_at_call 6;(with_reducible refine (Behind.at_ HSM.out (by first|exact hB|exact hB)).mono ?_);rintro e w6 ⟨rfl,hb6⟩;replace hB:Below w.heap.size w w6:=by first|exact hB.on hb6 hB.size|exact Below.on hB hb6 (Below.size hB)))
    all_goals
      go_ret
      exact ⟨ret_bool (by rw [←HR.out];first|(simp;done)|(simp;omega)|(simp;intros;omega)|(cases sm<;>simp<;>omega)),by first|exact hB|exact hB|exact (Below.refl _ _).alloc (Nat.le_refl _) _⟩
set_option maxHeartbeats 8000000 in
set_option maxRecDepth 100000 in
theorem refSnd_4f (w:World) (c:MC) (ek:c.k=4) {sm:Bool} (hth:c.there=false) (HSM:Hid (Behind w 6 #[.agg (mcells c).toArray, .agg (mcells (⟨4,c.doc,c.n,ezero,0,0,0,false,vzero,none,0,0⟩:MC)).toArray] (.bool sm))):
    Calls Tryd.prog 8 #[.agg (mcells c).toArray] w fun e w'=>e= .returned (.bool (rsnd c.doc c.n (decide (0≤c.n)) sm))∧Below w.heap.size w w':=by
  obtain ⟨R,hR⟩:∃R,rsnd c.doc c.n (decide (0≤c.n)) sm=R:=⟨_,rfl⟩
  rw [hR]
  rw [rsnd] at hR
  have HR:=Lib.hid hR
  clear hR
  have z0:=(BC.start w (mcells c).toArray 36).at_ 0 _ rfl
  have z1:=(BC.start w (mcells c).toArray 36).at_ 1 _ rfl
  have z2:=(BC.start w (mcells c).toArray 36).at_ 2 _ rfl
  rw [ek] at z0
  by_cases h0:0≤c.n
  all_goals
    go_enter Tryd.func8,Tryd.ntmps8
    go_wp2_with (first|(refine wp_makeM rfl _ _ rfl ?_;refine ⟨w,_,_,_,_,mcells (⟨4,c.doc,0,ezero,0,0,0,false,vzero,none,0,0⟩:MC),rfl,rfl,rfl,rfl,rfl,rfl, ?_⟩;intro W2 bx bxx hB;clear z0 z1 z2;have y0:=bx.at_ 0 _ rfl;have y1:=bx.at_ 1 _ rfl;have y2:=bx.at_ 2 _ rfl;have y15:=bx.at_ 15 _ rfl;rw [ek] at y0;rw [hth] at y15;have x2:=bxx.at_ 2 _ rfl;have x15:=bxx.at_ 15 _ rfl;have g2:=bxx.fr 2;have g15:=bxx.fr 15)|(refine wp_loadG _ rfl rfl ?_;first|(refine ⟨w.heap.size,mcells c,rfl,rfl,(by first|exact bx|exact ((bx.far (by omega)).far (by omega))), ?_⟩)|(refine ⟨w.heap.size+1,mcells (⟨4,c.doc,c.n,ezero,0,0,0,false,vzero,none,0,0⟩:MC),rfl,rfl,(by first|exact bxx|exact ((bxx.set (i:=2) (x:= .int .i64 c.n) (by simp [mcells])).set (i:=15) (x:= .bool false) (by simp [mcells]))), ?_⟩))|(go_at_call 6;(with_reducible refine (Behind.at_ HSM.out (by first|exact hB|exact ((hB.setCell (by simp) _).setCell (by simp) _))).mono ?_);rintro e w6 ⟨rfl,hb6⟩;replace hB:Below w.heap.size w w6:=by first|exact hB.on hb6 hB.size|exact Below.on ((hB.setCell (by simp) _).setCell (by simp) _) hb6 (Below.size ((hB.setCell (by simp) _).setCell (by simp) _))))
    all_goals
      go_ret
      exact ⟨ret_bool (by rw [←HR.out];first|(simp;done)|(simp;omega)|(simp;intros;omega)|(cases sm<;>simp<;>omega)),by first|exact hB|exact ((hB.setCell (by simp) _).setCell (by simp) _)|exact (Below.refl _ _).alloc (Nat.le_refl _) _⟩
set_option maxHeartbeats 8000000 in
set_option maxRecDepth 100000 in
theorem refSnd_5 (w:World) (c:MC) (ek:c.k=5) {sd sm:Bool} (HE:Hid (Behind w 20 #[.agg #[.int .u8 c.e.k, .int .u32 c.e.src, .int .u32 c.e.seq, .int .u8 c.e.v.k, .int .i64 c.e.v.n, .string c.e.v.s, .slice c.e.v.la c.e.v.ll c.e.v.lc, .slice c.e.v.oa c.e.v.ol c.e.v.oc, .slice c.e.oa c.e.ol c.e.oc]] (.bool sd))) (HSM:Hid (Behind w 6 #[.agg (mcells c).toArray, .agg (mcells (⟨5,c.doc,c.n,c.e,0,0,0,false,vzero,none,0,0⟩:MC)).toArray] (.bool sm))):
    Calls Tryd.prog 8 #[.agg (mcells c).toArray] w fun e w'=>e= .returned (.bool (rsnd c.doc c.n (decide (0≤c.n) && (decide (c.n<5000) && sd)) sm))∧Below w.heap.size w w':=by
  obtain ⟨R,hR⟩:∃R,rsnd c.doc c.n (decide (0≤c.n) && (decide (c.n<5000) && sd)) sm=R:=⟨_,rfl⟩
  rw [hR]
  rw [rsnd] at hR
  have HR:=Lib.hid hR
  clear hR
  have z0:=(BC.start w (mcells c).toArray 36).at_ 0 _ rfl
  have z1:=(BC.start w (mcells c).toArray 36).at_ 1 _ rfl
  have z2:=(BC.start w (mcells c).toArray 36).at_ 2 _ rfl
  rw [ek] at z0
  cases sd
  all_goals
    go_enter Tryd.func8,Tryd.ntmps8
    go_wp2_with (first|(refine wp_makeM rfl _ _ rfl ?_;refine ⟨w,_,_,_,_,mcells (⟨5,c.doc,0,ezero,0,0,0,false,vzero,none,0,0⟩:MC),rfl,rfl,rfl,rfl,rfl,rfl, ?_⟩;intro W2 bx bxx hB;clear z0 z1 z2;have y0:=bx.at_ 0 _ rfl;have y1:=bx.at_ 1 _ rfl;have y2:=bx.at_ 2 _ rfl;have y3:=bx.at_ 3 _ rfl;have y4:=bx.at_ 4 _ rfl;have y5:=bx.at_ 5 _ rfl;have y6:=bx.at_ 6 _ rfl;have y7:=bx.at_ 7 _ rfl;have y8:=bx.at_ 8 _ rfl;have y9:=bx.at_ 9 _ rfl;have y10:=bx.at_ 10 _ rfl;have y11:=bx.at_ 11 _ rfl;rw [ek] at y0;have x2:=bxx.at_ 2 _ rfl;have g2:=bxx.fr 2)|(refine wp_storeE rfl _ _ rfl ?_;refine ⟨w.heap.size+1,(⟨5,c.doc,c.n,ezero,0,0,0,false,vzero,none,0,0⟩:MC),c.e,rfl,rfl,(bxx.set (i:=2) (x:= .int .i64 c.n) (by simp [mcells])), ?_⟩;intro bxe;have bx3:=bc_far (b:=w.heap.size) (b':=w.heap.size+1) (cs:=mcells c) (by omega) [.int .u8 c.e.k, .int .u32 c.e.src, .int .u32 c.e.seq, .int .u8 c.e.v.k, .int .i64 c.e.v.n, .string c.e.v.s, .slice c.e.v.la c.e.v.ll c.e.v.lc, .slice c.e.v.oa c.e.v.ol c.e.v.oc, .slice c.e.oa c.e.ol c.e.oc] 3 (W2.setCell ⟨w.heap.size+1,2,none⟩ (.int .i64 c.n)) (bx.far (by omega));have hB3:=below_setCells (B:=w.heap.size) (b:=w.heap.size+1) (by simp) [.int .u8 c.e.k, .int .u32 c.e.src, .int .u32 c.e.seq, .int .u8 c.e.v.k, .int .i64 c.e.v.n, .string c.e.v.s, .slice c.e.v.la c.e.v.ll c.e.v.lc, .slice c.e.v.oa c.e.v.ol c.e.v.oc, .slice c.e.oa c.e.ol c.e.oc] 3 w (W2.setCell ⟨w.heap.size+1,2,none⟩ (.int .i64 c.n)) (hB.setCell (by simp) _);clear bx bxx hB y0 y1 y2 y3 y4 y5 y6 y7 y8 y9 y10 y11 x2 g2;generalize (World.setCells (W2.setCell ⟨w.heap.size+1,2,none⟩ (.int .i64 c.n)) (w.heap.size+1) 3 [.int .u8 c.e.k, .int .u32 c.e.src, .int .u32 c.e.seq, .int .u8 c.e.v.k, .int .i64 c.e.v.n, .string c.e.v.s, .slice c.e.v.la c.e.v.ll c.e.v.lc, .slice c.e.v.oa c.e.v.ol c.e.v.oc, .slice c.e.oa c.e.ol c.e.oc])=W3 at bxe bx3 hB3 ⊢;have bx:=bx3;have bxx:=bxe;have hB:=hB3;clear bx3 bxe hB3;have y2:=bx.at_ 2 _ rfl;have y3:=bx.at_ 3 _ rfl;have y4:=bx.at_ 4 _ rfl;have y5:=bx.at_ 5 _ rfl;have y6:=bx.at_ 6 _ rfl;have y7:=bx.at_ 7 _ rfl;have y8:=bx.at_ 8 _ rfl;have y9:=bx.at_ 9 _ rfl;have y10:=bx.at_ 10 _ rfl;have y11:=bx.at_ 11 _ rfl)|(go_at_call 20;(with_reducible refine (Behind.at_ HE.out hB).mono ?_);rintro e w4 ⟨rfl,hb4⟩;replace hB:=Below.on hB hb4 (Below.size hB);replace bxx:=BC.keep bxx hb4 (BC.lt bxx);replace bx:=BC.keep bx hb4 (BC.lt bx))|(refine wp_loadG _ rfl rfl ?_;first|(refine ⟨w.heap.size,mcells c,rfl,rfl,(by first|exact bx|exact bx), ?_⟩)|(refine ⟨w.heap.size+1,mcells (⟨5,c.doc,c.n,c.e,0,0,0,false,vzero,none,0,0⟩:MC),rfl,rfl,(by first|exact bxx|exact bxx), ?_⟩))|(go_at_call 6;(with_reducible refine (Behind.at_ HSM.out (by first|exact hB|exact hB)).mono ?_);rintro e w6 ⟨rfl,hb6⟩;replace hB:Below w.heap.size w w6:=by first|exact hB.on hb6 hB.size|exact Below.on hB hb6 (Below.size hB)))
    all_goals
      go_ret
      exact ⟨ret_bool (by rw [←HR.out];first|(simp;done)|(simp;omega)|(simp;intros;omega)|(cases sm<;>simp<;>omega)),by first|exact hB|exact hB|exact (Below.refl _ _).alloc (Nat.le_refl _) _⟩
set_option maxHeartbeats 8000000 in
set_option maxRecDepth 100000 in
theorem refSnd_6 (w:World) (c:MC) (ek:c.k=6) {sm:Bool} (HSM:Hid (Behind w 6 #[.agg (mcells c).toArray, .agg (mcells (⟨6,c.doc,0,ezero,c.src,c.seq,c.err,false,vzero,none,0,0⟩:MC)).toArray] (.bool sm))):
    Calls Tryd.prog 8 #[.agg (mcells c).toArray] w fun e w'=>e= .returned (.bool (rsnd c.doc c.n (!(c.err==0)) sm))∧Below w.heap.size w w':=by
  obtain ⟨R,hR⟩:∃R,rsnd c.doc c.n (!(c.err==0)) sm=R:=⟨_,rfl⟩
  rw [hR]
  rw [rsnd] at hR
  obtain ⟨er,her⟩:∃b,(c.err==0)=b:=⟨_,rfl⟩
  rw [her] at hR
  have ner:(c.err !=0)= !er:=by rw [bne,her]
  have HR:=Lib.hid hR
  clear hR
  have z0:=(BC.start w (mcells c).toArray 36).at_ 0 _ rfl
  have z1:=(BC.start w (mcells c).toArray 36).at_ 1 _ rfl
  have z2:=(BC.start w (mcells c).toArray 36).at_ 2 _ rfl
  rw [ek] at z0
  cases er
  all_goals
    go_enter Tryd.func8,Tryd.ntmps8
    go_wp2_with (first|(refine wp_makeM rfl _ _ rfl ?_;refine ⟨w,_,_,_,_,mcells (⟨6,c.doc,0,ezero,0,0,0,false,vzero,none,0,0⟩:MC),rfl,rfl,rfl,rfl,rfl,rfl, ?_⟩;intro W2 bx bxx hB;clear z0 z1 z2;have y0:=bx.at_ 0 _ rfl;have y1:=bx.at_ 1 _ rfl;have y2:=bx.at_ 2 _ rfl;have y12:=bx.at_ 12 _ rfl;have y13:=bx.at_ 13 _ rfl;have y14:=bx.at_ 14 _ rfl;rw [ek] at y0;have x12:=bxx.at_ 12 _ rfl;have x13:=bxx.at_ 13 _ rfl;have x14:=bxx.at_ 14 _ rfl;have g12:=bxx.fr 12;have g13:=bxx.fr 13;have g14:=bxx.fr 14)|(refine wp_loadG _ rfl rfl ?_;first|(refine ⟨w.heap.size,mcells c,rfl,rfl,(by first|exact bx|exact (((bx.far (by omega)).far (by omega)).far (by omega))), ?_⟩)|(refine ⟨w.heap.size+1,mcells (⟨6,c.doc,0,ezero,c.src,c.seq,c.err,false,vzero,none,0,0⟩:MC),rfl,rfl,(by first|exact bxx|exact (((bxx.set (i:=12) (x:= .int .u32 c.src) (by simp [mcells])).set (i:=13) (x:= .int .u32 c.seq) (by simp [mcells])).set (i:=14) (x:= .int .u16 c.err) (by simp [mcells]))), ?_⟩))|(go_at_call 6;(with_reducible refine (Behind.at_ HSM.out (by first|exact hB|exact (((hB.setCell (by simp) _).setCell (by simp) _).setCell (by simp) _))).mono ?_);rintro e w6 ⟨rfl,hb6⟩;replace hB:Below w.heap.size w w6:=by first|exact hB.on hb6 hB.size|exact Below.on (((hB.setCell (by simp) _).setCell (by simp) _).setCell (by simp) _) hb6 (Below.size (((hB.setCell (by simp) _).setCell (by simp) _).setCell (by simp) _))))
    all_goals
      go_ret
      exact ⟨ret_bool (by rw [←HR.out];first|(simp;done)|(simp;omega)|(simp;intros;omega)|(cases sm<;>simp<;>omega)),by first|exact hB|exact (((hB.setCell (by simp) _).setCell (by simp) _).setCell (by simp) _)|exact (Below.refl _ _).alloc (Nat.le_refl _) _⟩
set_option maxHeartbeats 2000000 in
set_option maxRecDepth 100000 in
theorem refSnd_0 (w:World) (c:MC) (h1:¬c.k=1) (h2:¬c.k=2) (h3:¬c.k=3) (h4:¬c.k=4) (h5:¬c.k=5) (h6:¬c.k=6):
    Calls Tryd.prog 8 #[.agg (mcells c).toArray] w fun e w'=>e= .returned (.bool false)∧Below w.heap.size w w':=by
  have z0:=(BC.start w (mcells c).toArray 36).at_ 0 _ rfl
  have z1:=(BC.start w (mcells c).toArray 36).at_ 1 _ rfl
  have z2:=(BC.start w (mcells c).toArray 36).at_ 2 _ rfl
  go_enter Tryd.func8,Tryd.ntmps8
  go_wp2_with (refine wp_makeM rfl _ _ rfl ?_;refine ⟨w,_,_,_,_,mcells (⟨c.k,c.doc,0,ezero,0,0,0,false,vzero,none,0,0⟩:MC),rfl,rfl,rfl,rfl,rfl,rfl, ?_⟩;intro W2 bx bxx hB;clear z0 z1 z2;have y0:=bx.at_ 0 _ rfl)
  all_goals
    go_ret
    exact ⟨rfl,by first|exact hB|exact (Below.refl _ _).alloc (Nat.le_refl _) _⟩
end Go.Proofs.YthceefjafklcmaaDoor
namespace Go.Proofs.YthceefjafklcmaaDoor
open Go.RowKit
theorem refMsgSound_any (m:Ms) (w:World) (hT:Tabs w) (c:MC) (hm:IsMsg w w.heap.size m c) (hs:m.e.small):
    Calls Tryd.prog 8 #[.agg (mcells c).toArray] w fun e w'=>e= .returned (.bool (msgSound m))∧Below w.heap.size w w':=by
  cases hm with
  |mk c e v f hb he hv hf=>
  dsimp only at hs
  have HE:Hid (Behind w 20 #[.agg #[.int .u8 c.e.k, .int .u32 c.e.src, .int .u32 c.e.seq, .int .u8 c.e.v.k, .int .i64 c.e.v.n, .string c.e.v.s, .slice c.e.v.la c.e.v.ll c.e.v.lc, .slice c.e.v.oa c.e.v.ol c.e.v.oc, .slice c.e.oa c.e.ol c.e.oc]] (.bool (enSound e))):=fun W hW=>refEnSound_any e W (hT.below hW) c.e (he.later_ hW) hs
  have HF:Hid (Behind w 19 #[.slice c.fa c.fl c.fc] (.bool (fieldsSound f))):=fun W hW=>ref18Sound_any f W (hT.below hW) _ _ _ (hf.later_ hW)
  have HQ:∀(y:Ms) (d:MC) {sm:Bool},IsMsg w w.heap.size y d→sameMs c d (eqB f y.f) (eqB e y.e) (eqv v y.v)=sm→Hid (Behind w 6 #[.agg (mcells c).toArray, .agg (mcells d).toArray] (.bool sm)):=fun y d sm hd h W hW=>by
    rw [←h];exact refMsSame_any ⟨c.k,c.doc,c.n,e,c.src,c.seq,c.err,c.there,v,f⟩ y W c d ((IsMsg.mk c e v f hb he hv hf).later_ hW) (hd.later_ hW)
  have hn:=IsStrs.nil w w.heap.size
  have he0:=isEntry_none w w.heap.size
  have hv0:=isVal_none w w.heap.size
  have hsd:= @enSound_some e
  have hbn:∀k:Int,0≤k→k<256→KB k c.doc c.n:=fun k h1 h2=>⟨h1,h2,hb.d1,hb.n0,hb.n1⟩
  have hb0:∀k:Int,0≤k→k<256→KB k c.doc 0:=fun k h1 h2=>⟨h1,h2,hb.d1,by decide,by decide⟩
  have hdoc:=doc_nil c.doc
  have hfs:f.isEmpty=true→fieldsSound f=true:=fun h=>by
    rw [List.isEmpty_iff.1 h];exact fieldsSound_nil
  by_cases e1:c.k=1
  ·
    refine (refSnd_1 w c e1 HF (HQ _ _ (isMsg_of (hbn 1 (by decide) (by decide)) he0 hv0 hf (th:=false) (by decide) (by decide) (by decide) (by decide) (by decide) (by decide)) rfl)).mono fun e' w' hx=> ?_
    obtain ⟨h1,h2⟩:=hx
    refine ⟨?_,h2⟩
    rw [h1]
    congr 2
    clear HE HF HQ h1 h2
    simp only [rsnd,sameMs,sameB,msgSound,sndM,sameM,e1,bringsB,numberedB,hdoc, ←enNone_eq,eqB_self]
    generalize enNone e=a at*
    generalize enSound e=b at*
    generalize eqv v V.none=vn at*
    clear hn he0 hv0 hbn hb0 hdoc he hv hf hb
    generalize fieldsSound f=fs at*
    generalize List.isEmpty f=fe at*
    generalize c.there=th at*
    generalize c.doc.size=sz at*
    generalize c.n=nn at*
    generalize c.src=x1 at*
    generalize c.seq=x2 at*
    generalize c.err=x3 at*
    apply Bool.eq_iff_iff.2
    cases a<;>cases b<;>cases vn<;>cases fs<;>cases fe<;>cases th<;>simp_all<;>omega
  by_cases e2:c.k=2
  ·
    refine (refSnd_2 w c e2 (HQ _ _ (isMsg_of (hb0 2 (by decide) (by decide)) he0 hv0 hn (th:=false) (by decide) (by decide) (by decide) (by decide) (by decide) (by decide)) rfl)).mono fun e' w' hx=> ?_
    obtain ⟨h1,h2⟩:=hx
    refine ⟨?_,h2⟩
    rw [h1]
    congr 2
    clear HE HF HQ h1 h2
    simp only [rsnd,sameMs,sameB,msgSound,sndM,sameM,e2,bringsB,numberedB,hdoc, ←enNone_eq,eqB_nil]
    generalize enNone e=a at*
    generalize enSound e=b at*
    generalize eqv v V.none=vn at*
    clear hn he0 hv0 hbn hb0 hdoc he hv hf hb
    generalize fieldsSound f=fs at*
    generalize List.isEmpty f=fe at*
    generalize c.there=th at*
    generalize c.doc.size=sz at*
    generalize c.n=nn at*
    generalize c.src=x1 at*
    generalize c.seq=x2 at*
    generalize c.err=x3 at*
    apply Bool.eq_iff_iff.2
    cases a<;>cases b<;>cases vn<;>cases fs<;>cases fe<;>cases th<;>simp_all<;>omega
  by_cases e3:c.k=3
  ·
    refine (refSnd_3 w c e3 HE (HQ _ _ (isMsg_of (hbn 3 (by decide) (by decide)) he hv0 hn (th:=false) (by decide) (by decide) (by decide) (by decide) (by decide) (by decide)) rfl)).mono fun e' w' hx=> ?_
    obtain ⟨h1,h2⟩:=hx
    refine ⟨?_,h2⟩
    rw [h1]
    congr 2
    clear HE HF HQ h1 h2
    simp only [rsnd,sameMs,sameB,msgSound,sndM,sameM,e3,bringsB,numberedB,hdoc,eqB_self,eqB_nil]
    generalize enNone e=a at*
    generalize enSound e=b at*
    generalize eqv v V.none=vn at*
    clear hn he0 hv0 hbn hb0 hdoc he hv hf hb
    generalize fieldsSound f=fs at*
    generalize List.isEmpty f=fe at*
    generalize c.there=th at*
    generalize c.doc.size=sz at*
    generalize c.n=nn at*
    generalize c.src=x1 at*
    generalize c.seq=x2 at*
    generalize c.err=x3 at*
    apply Bool.eq_iff_iff.2
    cases a<;>cases b<;>cases vn<;>cases fs<;>cases fe<;>cases th<;>simp_all<;>omega
  by_cases e4:c.k=4
  ·
    cases eth:c.there
    ·
      refine (refSnd_4f w c e4 eth (HQ _ _ (isMsg_of (hbn 4 (by decide) (by decide)) he0 hv0 hn (th:=false) (by decide) (by decide) (by decide) (by decide) (by decide) (by decide)) rfl)).mono fun e' w' hx=> ?_
      obtain ⟨h1,h2⟩:=hx
      refine ⟨?_,h2⟩
      rw [h1]
      congr 2
      clear HE HF HQ h1 h2
      simp only [rsnd,sameMs,sameB,msgSound,sndM,sameM,e4,bringsB,numberedB,hdoc, ←enNone_eq,eqB_nil,eth]
      generalize enNone e=a at*
      generalize enSound e=b at*
      generalize eqv v V.none=vn at*
      clear eth
      clear hn he0 hv0 hbn hb0 hdoc he hv hf hb
      generalize fieldsSound f=fs at*
      generalize List.isEmpty f=fe at*
      generalize c.there=th at*
      generalize c.doc.size=sz at*
      generalize c.n=nn at*
      generalize c.src=x1 at*
      generalize c.seq=x2 at*
      generalize c.err=x3 at*
      apply Bool.eq_iff_iff.2
      cases a<;>cases b<;>cases vn<;>cases fs<;>cases fe<;>cases th<;>simp_all<;>omega
    ·
      refine (refSnd_4t w c e4 eth (HQ _ _ (isMsg_of (hbn 4 (by decide) (by decide)) he0 hv hn (th:=true) (by decide) (by decide) (by decide) (by decide) (by decide) (by decide)) rfl)).mono fun e' w' hx=> ?_
      obtain ⟨h1,h2⟩:=hx
      refine ⟨?_,h2⟩
      rw [h1]
      congr 2
      clear HE HF HQ h1 h2
      simp only [rsnd,sameMs,sameB,msgSound,sndM,sameM,e4,bringsB,numberedB,hdoc, ←enNone_eq,eqv_self,eqB_nil,eth]
      generalize enNone e=a at*
      generalize enSound e=b at*
      generalize eqv v V.none=vn at*
      clear eth
      clear hn he0 hv0 hbn hb0 hdoc he hv hf hb
      generalize fieldsSound f=fs at*
      generalize List.isEmpty f=fe at*
      generalize c.there=th at*
      generalize c.doc.size=sz at*
      generalize c.n=nn at*
      generalize c.src=x1 at*
      generalize c.seq=x2 at*
      generalize c.err=x3 at*
      apply Bool.eq_iff_iff.2
      cases a<;>cases b<;>cases vn<;>cases fs<;>cases fe<;>cases th<;>simp_all<;>omega
  by_cases e5:c.k=5
  ·
    refine (refSnd_5 w c e5 HE (HQ _ _ (isMsg_of (hbn 5 (by decide) (by decide)) he hv0 hn (th:=false) (by decide) (by decide) (by decide) (by decide) (by decide) (by decide)) rfl)).mono fun e' w' hx=> ?_
    obtain ⟨h1,h2⟩:=hx
    refine ⟨?_,h2⟩
    rw [h1]
    congr 2
    clear HE HF HQ h1 h2
    simp only [rsnd,sameMs,sameB,msgSound,sndM,sameM,e5,bringsB,numberedB,hdoc,eqB_self,eqB_nil]
    generalize enNone e=a at*
    generalize enSound e=b at*
    generalize eqv v V.none=vn at*
    clear hn he0 hv0 hbn hb0 hdoc he hv hf hb
    generalize fieldsSound f=fs at*
    generalize List.isEmpty f=fe at*
    generalize c.there=th at*
    generalize c.doc.size=sz at*
    generalize c.n=nn at*
    generalize c.src=x1 at*
    generalize c.seq=x2 at*
    generalize c.err=x3 at*
    apply Bool.eq_iff_iff.2
    cases a<;>cases b<;>cases vn<;>cases fs<;>cases fe<;>cases th<;>simp_all<;>omega
  by_cases e6:c.k=6
  ·
    refine (refSnd_6 w c e6 (HQ _ _ (isMsg_of (hb0 6 (by decide) (by decide)) he0 hv0 hn (th:=false) (hb.s0) (hb.s1) (hb.q0) (hb.q1) (hb.e0) (hb.e1)) rfl)).mono fun e' w' hx=> ?_
    obtain ⟨h1,h2⟩:=hx
    refine ⟨?_,h2⟩
    rw [h1]
    congr 2
    clear HE HF HQ h1 h2
    simp only [rsnd,sameMs,sameB,msgSound,sndM,sameM,e6,bringsB,numberedB,hdoc, ←enNone_eq,eqB_nil]
    generalize enNone e=a at*
    generalize enSound e=b at*
    generalize eqv v V.none=vn at*
    clear hn he0 hv0 hbn hb0 hdoc he hv hf hb
    generalize fieldsSound f=fs at*
    generalize List.isEmpty f=fe at*
    generalize c.there=th at*
    generalize c.doc.size=sz at*
    generalize c.n=nn at*
    generalize c.src=x1 at*
    generalize c.seq=x2 at*
    generalize c.err=x3 at*
    apply Bool.eq_iff_iff.2
    cases a<;>cases b<;>cases vn<;>cases fs<;>cases fe<;>cases th<;>simp_all<;>omega
  refine (refSnd_0 w c e1 e2 e3 e4 e5 e6).mono fun e' w' ⟨h1,h2⟩=>⟨?_,h2⟩
  rw [h1]
  have:¬(1≤c.k∧c.k≤6):=by omega
  have h7:(decide (1≤c.k) && decide (c.k≤6))=false:=by
    by_cases h1:1≤c.k
    · rw [show decide (c.k≤6)=false by simp;omega];simp
    · rw [show decide (1≤c.k)=false by simp;omega];simp
  simp only [msgSound,h7,Bool.false_and]
end Go.Proofs.YthceefjafklcmaaDoor
namespace Go.Proofs.YthceefjafklcmaaDoor
open Go.RowKit
def knM:Ms:=⟨2,⟨#[97]⟩,0,En.none,0,0,0,false,V.none, []⟩
theorem msgSound_kn:msgSound knM=true:=by
  have h1:(⟨#[97]⟩:ByteArray).toList= [97] :=by rw [ByteArray.toList_eq]
  have h2:(⟨#[97]⟩:ByteArray).size=1:=rfl
  simp [msgSound,knM,sndM,sameM,numberedB,bringsB,enNone,En.none,eqv,fieldsSound,h1,h2]
theorem encMsg_kn:encMsg knM=(0, [2,1,97]):=by
  rw [encMsg,msgSound_kn]
  rfl
theorem decM_9:decM [9] =(Ms.none,190):=by
  refine decM_no (by simp) ?_
  rw [decM,if_neg (by simp),if_neg]
  · decide
  · intro h
    have h2:(rdMsg [9]).2.2=true:=rfl
    rw [h2] at h
    simp at h
theorem rdMsg_kn:rdMsg [2,1,97] =(knM,0,false):=rfl
theorem decM_kn:decM [2,1,97] =(knM,0):=by
  rw [decM,if_neg (by simp),rdMsg_kn,if_pos]
  exact ⟨rfl,rfl,by rw [encMsg_kn],by rw [encMsg_kn];simp [eqBs]⟩
end Go.Proofs.YthceefjafklcmaaDoor
namespace Go.Proofs.YthceefjafklcmaaDoor
open Go.RowKit
def knMC:MC:=⟨2,⟨#[97]⟩,0,ezero,0,0,0,false,vzero,none,0,0⟩
theorem isMsg_kn (w:World) (B:Nat):IsMsg w B knM knMC:=isMsg_of ⟨by decide,by decide,by decide,by decide,by decide⟩ (isEntry_none _ _) (isVal_none _ _) (IsStrs.nil _ _) (by decide) (by decide) (by decide) (by decide) (by decide) (by decide)
theorem kn_fits:knM.Fits:=fits_of none_fits vnone_fits (by simp [encFs])
theorem kn_cells {W:World} {B:Nat} {c:MC} (h:IsMsg W B knM c):c.k=2∧c.doc=⟨#[97]⟩:=by
  obtain ⟨x,hx⟩:∃x,knM=x:=⟨_,rfl⟩
  rw [hx] at h
  cases h with
  | mk _ e v f h1 h2 h3 h4=>
    have a:=congrArg Ms.k hx;have b:=congrArg Ms.doc hx
    exact ⟨a.symm,b.symm⟩
theorem kn_enc (w:World) (hT:Tabs w):Calls Tryd.prog 7 #[.agg (mcells knMC).toArray] w fun e w'=>(∃a cp,e= .returned (.tuple #[.slice a 3 cp, .int .u16 0])∧IsB w' w'.heap.size a 3 cp [2,1,97])∧Below w.heap.size w w':=by
  have h:=encMsg_any knM w hT knMC (isMsg_kn _ _) kn_fits
  rw [encMsg_kn] at h
  refine h.mono fun e w' ⟨⟨a,n,cp,h1,h2⟩,h3⟩=> ?_
  obtain rfl:n=3:=h2.len
  exact ⟨⟨a,cp,h1,h2⟩,h3⟩
theorem kn_dec (w:World) (hT:Tabs w) (a:Option Addr) (c:Nat) (h:IsB w w.heap.size a 3 c [2,1,97]):Calls Tryd.prog 5 #[.slice a 3 c] w fun e w'=>(∃cm,e= .returned (.tuple #[.agg (mcells cm).toArray, .int .u16 0])∧cm.k=2∧cm.doc=⟨#[97]⟩)∧Below w.heap.size w w':=by
  have h2:=decM_any w hT a 3 c _ h
  rw [decM_kn] at h2
  exact h2.mono fun e w' ⟨⟨cm,h3,h4⟩,h5⟩=>⟨⟨cm,h3,kn_cells h4⟩,h5⟩
theorem kn_dec9 (w:World) (hT:Tabs w) (a:Option Addr) (c:Nat) (h:IsB w w.heap.size a 1 c [9]):Calls Tryd.prog 5 #[.slice a 1 c] w fun e w'=>(∃cm,e= .returned (.tuple #[.agg (mcells cm).toArray, .int .u16 190]))∧Below w.heap.size w w':=by
  have h2:=decM_any w hT a 1 c _ h
  rw [decM_9] at h2
  exact h2.mono fun e w' ⟨⟨cm,h3,h4⟩,h5⟩=>⟨⟨cm,h3⟩,h5⟩
end Go.Proofs.YthceefjafklcmaaDoor
namespace Go.Proofs.YthceefjafklcmaaDoor
open Go.RowKit
theorem none_cells {W:World} {B:Nat} {c:MC} (h:IsMsg W B Ms.none c):sameB c mzero true=true:=by
  obtain ⟨x,hx⟩:∃x,Ms.none=x:=⟨_,rfl⟩
  rw [hx] at h
  cases h with
  | mk _ e v f h1 h2 h3 h4=>
    injection hx with a1 a2 a3 a4 a5 a6 a7 a8 a9 a10
    simp [sameB,mzero, ←a1, ←a2, ←a3, ←a5, ←a6, ←a7, ←a8]
theorem on_same (w:World) (c:MC) (h:IsMsg w w.heap.size Ms.none c):Calls Tryd.prog 6 #[.agg (mcells c).toArray, .agg (mcells mzero).toArray] w fun e w'=>e= .returned (.bool true)∧Below w.heap.size w w':=by
  have h2:=refMsSame_any Ms.none Ms.none w c mzero h (isMsg_none _ _)
  have h3:sameMs c mzero (eqB Ms.none.f Ms.none.f) (eqB Ms.none.e Ms.none.e) (eqv Ms.none.v Ms.none.v)=true:=by
    rw [sameMs,eqB_self,eqB_self,eqv_self,none_cells h];rfl
  rw [h3] at h2
  exact h2
theorem on_dec0 (w:World) (hT:Tabs w) (a:Option Addr) (n c:Nat) (bs:List UInt8) (h:IsB w w.heap.size a n c bs) (hd:decM bs=(Ms.none,190)):Calls Tryd.prog 5 #[.slice a n c] w fun e w'=>(∃cm,e= .returned (.tuple #[.agg (mcells cm).toArray, .int .u16 190])∧IsMsg w' w'.heap.size Ms.none cm)∧Below w.heap.size w w':=by
  have h2:=decM_any w hT a n c _ h
  rw [hd] at h2
  exact h2
theorem on_dec1 (w:World) (hT:Tabs w) (a:Option Addr) (n c:Nat) (bs:List UInt8) (h:IsB w w.heap.size a n c bs) (m:Ms) (hd:decM bs=(m,0)):Calls Tryd.prog 5 #[.slice a n c] w fun e w'=>(∃cm,e= .returned (.tuple #[.agg (mcells cm).toArray, .int .u16 0])∧IsMsg w' w'.heap.size m cm)∧Below w.heap.size w w':=by
  have h2:=decM_any w hT a n c _ h
  rw [hd] at h2
  exact h2
theorem on_enc (w:World) (hT:Tabs w) (m:Ms) (c:MC) (h:IsMsg w w.heap.size m c) (hf:m.Fits) (bs:List UInt8) (he:encMsg m=(0,bs)):Calls Tryd.prog 7 #[.agg (mcells c).toArray] w fun e w'=>(∃a n cp,e= .returned (.tuple #[.slice a n cp, .int .u16 0])∧IsB w' w'.heap.size a n cp bs)∧Below w.heap.size w w':=by
  have h2:=encMsg_any m w hT c h hf
  rw [he] at h2
  exact h2
theorem on_snd (w:World) (hT:Tabs w) (m:Ms) (c:MC) (h:IsMsg w w.heap.size m c) (hf:m.Fits) (hs:msgSound m=true):Calls Tryd.prog 8 #[.agg (mcells c).toArray] w fun e w'=>e= .returned (.bool true)∧Below w.heap.size w w':=by
  have h2:=refMsgSound_any m w hT c h hf.small
  rw [hs] at h2
  exact h2
end Go.Proofs.YthceefjafklcmaaDoor
namespace Go.Proofs.YthceefjafklcmaaDoor
open Go.RowKit
set_option maxHeartbeats 8000000 in
set_option maxRecDepth 100000 in
theorem knownM_any (w:World) (hT:Tabs w):Calls Tryd.prog 4 #[] w fun e w'=>e= .returned (.bool true)∧Below w.heap.size w w':=by
  have HT:=Lib.hid hT
  have HE:=Lib.hid (kn_enc w hT)
  clear hT
  go_enter Tryd.func4,Tryd.ntmps4
  go_wp2_with fail
  refine HE.out.mono ?_
  rintro e w1 ⟨⟨a1,c1,rfl,hI1⟩,hb1⟩
  have HD:=Lib.hid (kn_dec w1 (HT.out.below hb1) a1 c1 hI1)
  have HI1:=Lib.hid hI1
  clear hI1
  go_wp2_with fail
  refine HD.out.mono ?_
  rintro e w2 ⟨⟨c2,rfl,e2k,e2d⟩,hb2⟩
  have e2k':=Lib.hid e2k
  have e2d':=Lib.hid e2d
  have HB2:=Lib.hid (hb1.trans (hb2.mono hb1.size))
  clear e2k e2d
  go_wp2_with (refine wp_storeM rfl _ _ rfl ?_;refine ⟨w2.heap.size,mcells mzero,mcells c2,rfl,rfl,BC.start w2 (mcells mzero).toArray 36,rfl,rfl,rfl, ?_⟩;intro W3 bm keepf st;have b23:Below w2.heap.size w2 W3:=((Below.refl w2.heap.size w2).alloc (Nat.le_refl _) (.cells (mcells mzero).toArray 36)).trans (st.below (by simp));have HB3:=Lib.hid (HB2.out.trans (b23.mono HB2.out.size));have B13:=Lib.hid (hb2.trans (b23.mono hb2.size));clear keepf st b23)
  have hI9:=(OwnB.one W3 W3.heap.size (Nat.le_refl _) 9 (k:=9) rfl).isB
  refine (kn_dec9 _ (HT.out.below (HB3.out.alloc HB3.out.size _)) _ _ hI9).mono ?_
  rintro e w5 ⟨⟨c5,rfl⟩,hb5⟩
  have b35:Below W3.heap.size W3 w5:=((Below.refl _ _).alloc (Nat.le_refl _) _).trans (hb5.mono (by simp))
  have bm5:=bm.keep b35 bm.lt
  have HB5:=Lib.hid (HB3.out.trans (b35.mono HB3.out.size))
  have B15:=Lib.hid (B13.out.trans (b35.mono B13.out.size))
  clear bm b35 hb5 hI9 hb2 HE HD
  go_wp2_with (refine wp_storeM rfl _ _ rfl ?_;refine ⟨w5.heap.size,mcells mzero,mcells c5,rfl,rfl,BC.start w5 (mcells mzero).toArray 36,rfl,rfl,rfl, ?_⟩;intro W6 bm6 keepf st;have b56:Below w5.heap.size w5 W6:=((Below.refl w5.heap.size w5).alloc (Nat.le_refl _) (.cells (mcells mzero).toArray 36)).trans (st.below (by simp));have HB6:=Lib.hid (HB5.out.trans (b56.mono HB5.out.size));have bm7:=bm5.keep b56 bm5.lt;have hcv:=conv_isB (HI1.out.keep (B15.out.trans (b56.mono B15.out.size)));have x0:=bm7.at_ 0 _ rfl;have x1:=bm7.at_ 1 _ rfl;rw [e2k'.out] at x0;rw [e2d'.out] at x1;clear keepf st b56 bm6 bm7)
  go_returns
  exact ⟨rfl,HB6.out⟩
end Go.Proofs.YthceefjafklcmaaDoor
namespace Go.Proofs.YthceefjafklcmaaDoor
open Go.RowKit
set_option maxHeartbeats 8000000 in
set_option maxRecDepth 100000 in
theorem msgOnly_0 (w:World) (hT:Tabs w) (a:Option Addr) (n c:Nat) (bs:List UInt8) (h:IsB w w.heap.size a n c bs) (hn:n≤4000) (hd:decM bs=(Ms.none,190)):
    Calls Tryd.prog 3 #[.slice a n c] w fun e w'=>e= .returned (.bool true)∧Below w.heap.size w w':=by
  have hn2:¬4000<n:=by omega
  have HT:=Lib.hid hT
  have HI:=Lib.hid h
  have HD:=Lib.hid hd
  clear hT h hd hn
  go_enter Tryd.func3,Tryd.ntmps3
  go_wp2_with (first|(go_at_call 4;(with_reducible refine (knownM_any w HT.out).mono ?_);rintro ek wk ⟨rfl,hbk⟩)|(refine wp_storeM rfl _ _ rfl ?_;refine ⟨w2.heap.size,mcells mzero,mcells cm,rfl,rfl,BC.start w2 (mcells mzero).toArray 36,rfl,rfl,rfl, ?_⟩;intro W3 bm keepf st;have b23:Below w2.heap.size w2 W3:=((Below.refl w2.heap.size w2).alloc (Nat.le_refl _) (.cells (mcells mzero).toArray 36)).trans (st.below (by simp));have HI3:=Lib.hid (HI2.out.later_ b23);have HB3:=Lib.hid (HB2.out.trans (b23.mono HB2.out.size));clear keepf st b23)|(first|(refine wp_loadM rfl _ rfl ?_;refine ⟨w2.heap.size,mcells cm,rfl,rfl,bm, ?_⟩)|(refine wp_loadG _ rfl rfl ?_;refine ⟨w2.heap.size,mcells cm,rfl,rfl,bm, ?_⟩))|(go_at_call 5;refine (on_dec0 wk (HT.out.below hbk) a n c bs ((HI.out.keep hbk).more hbk.size) HD.out).mono ?_;rintro ee w2 ⟨⟨cm,rfl,hI2⟩,hb2⟩;have HI2:=Lib.hid hI2;have HB2:=Lib.hid (hbk.trans (hb2.mono hbk.size));clear hI2 hb2)|(go_at_call 6;refine (on_same W3 cm HI3.out).mono ?_;rintro ee w4 ⟨rfl,hb4⟩))
  go_returns
  exact ⟨rfl,HB3.out.trans (hb4.mono HB3.out.size)⟩
set_option maxHeartbeats 8000000 in
set_option maxRecDepth 100000 in
theorem msgOnly_1 (w:World) (hT:Tabs w) (a:Option Addr) (n c:Nat) (bs:List UInt8) (h:IsB w w.heap.size a n c bs) (hn:n≤4000) (m:Ms) (hd:decM bs=(m,0)):
    Calls Tryd.prog 3 #[.slice a n c] w fun e w'=>e= .returned (.bool true)∧Below w.heap.size w w':=by
  have hn2:¬4000<n:=by omega
  obtain ⟨hsd,hen,hf⟩:=decM_ok hd
  have HT:=Lib.hid hT
  have HI:=Lib.hid h
  have HD:=Lib.hid hd
  have HSD:=Lib.hid hsd
  have HEN:=Lib.hid hen
  have HF:=Lib.hid hf
  clear hT h hd hn hsd hen hf
  go_enter Tryd.func3,Tryd.ntmps3
  go_wp2_with (first|(go_at_call 4;(with_reducible refine (knownM_any w HT.out).mono ?_);rintro ek wk ⟨rfl,hbk⟩)|(refine wp_storeM rfl _ _ rfl ?_;refine ⟨w2.heap.size,mcells mzero,mcells cm,rfl,rfl,BC.start w2 (mcells mzero).toArray 36,rfl,rfl,rfl, ?_⟩;intro W3 bm keepf st;have b23:Below w2.heap.size w2 W3:=((Below.refl w2.heap.size w2).alloc (Nat.le_refl _) (.cells (mcells mzero).toArray 36)).trans (st.below (by simp));have HI3:=Lib.hid (HI2.out.later_ b23);have HB3:=Lib.hid (HB2.out.trans (b23.mono HB2.out.size));clear keepf st b23)|(first|(refine wp_loadM rfl _ rfl ?_;refine ⟨w2.heap.size,mcells cm,rfl,rfl,bm, ?_⟩)|(refine wp_loadG _ rfl rfl ?_;refine ⟨w2.heap.size,mcells cm,rfl,rfl,bm4, ?_⟩))|(go_at_call 5;refine (on_dec1 wk (HT.out.below hbk) a n c bs ((HI.out.keep hbk).more hbk.size) m HD.out).mono ?_;rintro ee w2 ⟨⟨cm,rfl,hI2⟩,hb2⟩;have HI2:=Lib.hid hI2;have HB2:=Lib.hid (hbk.trans (hb2.mono hbk.size));clear hI2 hb2)|(go_at_call 7;(with_reducible refine (on_enc W3 (HT.out.below HB3.out) m cm HI3.out HF.out bs HEN.out).mono ?_);rintro ee w4 ⟨⟨ra,rn,rc,rfl,hI4⟩,hb4⟩;have k1:=conv_isB hI4;have HI4:=Lib.hid (HI3.out.later_ hb4);have bm4:=bm.keep hb4 bm.lt;have HB4:=Lib.hid (HB3.out.trans (hb4.mono HB3.out.size));have k2:=conv_isB (HI.out.keep HB4.out);clear hI4 hb4)|(go_at_call 8;(with_reducible refine (on_snd w4 (HT.out.below HB4.out) m cm HI4.out HF.out HSD.out).mono ?_);rintro ee w5 ⟨rfl,hb5⟩))
  go_returns
  exact ⟨rfl,HB4.out.trans (hb5.mono HB4.out.size)⟩
set_option maxHeartbeats 2000000 in
set_option maxRecDepth 100000 in
theorem msgOnly_any (w:World) (hT:Tabs w) (a:Option Addr) (n c:Nat) (bs:List UInt8) (h:IsB w w.heap.size a n c bs):
    Calls Tryd.prog 3 #[.slice a n c] w fun e w'=>e= .returned (.bool true)∧Below w.heap.size w w':=by
  by_cases hn:n≤4000
  · by_cases he:(decM bs).2=0
    · exact msgOnly_1 w hT a n c bs h hn (decM bs).1 (Prod.ext rfl he)
    · exact msgOnly_0 w hT a n c bs h hn (decM_no (by have:=h.len;omega) he)
  · have hn2:4000<n:=by omega
    have HT:=Lib.hid hT
    clear h hT hn
    go_enter Tryd.func3,Tryd.ntmps3
    go_wp2_with (go_at_call 4;(with_reducible refine (knownM_any w HT.out).mono ?_);rintro ek wk ⟨rfl,hbk⟩)
    go_returns
    exact ⟨rfl,hbk⟩
end Go.Proofs.YthceefjafklcmaaDoor
